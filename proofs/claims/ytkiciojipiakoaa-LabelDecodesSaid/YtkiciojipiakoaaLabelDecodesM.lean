/- LabelDecodes returns true for any string and every number of tracks, and nothing that was there is changed. No condition. -/
import Derived.Test.YtkiciojipiakoaaLabR
import Derived.Test.YtkiciojipiakoaaLabM
namespace Go.Proofs.Ytkiciojipiakoaa
set_option linter.unusedVariables false
set_option linter.unusedSimpArgs false
set_option linter.unusedSectionVars false
open Go.RowKit
attribute [local go_sem ↓] Go.wp_at_zero Go.wp_at_succ
theorem zeroB_iff (s : ByteArray) (hs : s.size = 1024) : zeroB s = true ↔ s = padS 1024 ⟨#[]⟩ := by
  have e4 : (padS 1024 ⟨#[]⟩).data.toList = List.replicate 1024 0 := by
    unfold padS zeros
    simp only [ByteArray.data_append, Array.toList_append, Array.toList_replicate]
    rfl
  have hl : s.data.toList.length = 1024 := by rw [Array.length_toList]; exact hs
  constructor
  · intro h
    apply bytes_eq
    rw [e4]
    unfold zeroB at h
    refine List.eq_replicate_iff.2 ⟨hl, fun x hx => ?_⟩
    exact beq_iff_eq.1 (List.all_eq_true.1 h x hx)
  · rintro rfl
    unfold zeroB
    rw [e4, List.all_eq_true]
    intro x hx
    rw [List.eq_of_mem_replicate hx]
    rfl
theorem rdK_okm (m : Int) (m0 : 0 ≤ m) (m1 : m ≤ 128) (s : ByteArray) (e : Int) (k : Nat) : ∀ r ∈ (rdK m s e k).1, okRun r := by
  induction k with
  | zero => intro r hr; cases hr
  | succ k ih =>
    intro r hr
    rcases List.mem_append.1 hr with hr | hr
    · exact ih r hr
    · rw [List.mem_singleton.1 hr]
      have h1 := RCnt_bd (rdK m s e k).2.1 (rdK m s e k).2.2 m (by omega)
      have h2 := RCnt_bd (RCnt (rdK m s e k).2.1 (rdK m s e k).2.2 m).2.1 (RCnt (rdK m s e k).2.1 (rdK m s e k).2.2 m).2.2 128 (by omega)
      exact ⟨by show -9223372036854775808 ≤ ((_ : Nat) : Int); omega, by show ((_ : Nat) : Int) ≤ 9223372036854775807; omega, by show -9223372036854775808 ≤ ((_ : Nat) : Int); omega, by show ((_ : Nat) : Int) ≤ 9223372036854775807; omega⟩
set_option maxRecDepth 100000 in
set_option maxHeartbeats 4000000 in
theorem rdecode_lab (s : ByteArray) (t : Int) (w : World) (hs : s.size ≤ 100000) (t0 : -9223372036854775808 ≤ t) (t1 : t ≤ 9223372036854775807) :
    Calls Try.prog 23 #[.string s, .int .i64 t] w (DecR w (rdecP s t)) := by
  have g0 := (Grew.refl w).alloc (.cells #[.int .i64 0, .int .i64 0, .string ⟨#[]⟩, .string ⟨#[]⟩, .slice none 0 0] 24)
  have HG0 := Lib.hid g0
  have HB0 := Lib.hid (Blk.new w 24 #[.int .i64 0, .int .i64 0, .string ⟨#[]⟩, .string ⟨#[]⟩, .slice none 0 0] rfl)
  clear g0
  by_cases hz : s.size = 1024
  rotate_left
  · have hzi : ((s.size : Int) != 1024) = true := by rw [bne_iff_ne]; omega
    have HE := Lib.hid (show rdecP s t = (labZ, 11) from by unfold rdecP; rw [if_pos (.inl hz)])
    clear hz
    go_enter Try.func23, Try.ntmps23
    go_wp2_with fail
    refine bodyPost_ret (by first | (simp [*, results, Try.results23, go_sem]; rfl) | simp [*, results, Try.results23, go_sem]) rfl ?_
    rw [HE.out]
    exact decZ _ _ _ (by (repeat' first | (with_reducible exact Grew.refl _) | (with_reducible assumption) | (with_reducible refine Grew.alloc ?_ _) | (with_reducible refine Grew.drew ?_) | (with_reducible refine Grew.drewN ?_ _) | (with_reducible refine Grew.setRow ?_ (by first | (simp; done) | (simp; omega) | omega) _) | (with_reducible refine Grew.setCell ?_ (by first | (simp; done) | (simp; omega) | omega) _) | ((with_reducible apply Grew.trans); rotate_left; (with_reducible assumption)) | ((with_reducible apply Grew.turn); rotate_left; (with_reducible assumption); (focus (intro i hi; first | omega | (simp at hi; omega)))) | fail))
  have hzi : ((s.size : Int) != 1024) = false := by rw [bne_eq_false_iff_eq]; omega
  cases ho : okT t with
  | false =>
    have HO := Lib.hid ho
    have HE := Lib.hid (show rdecP s t = (labZ, 11) from by unfold rdecP; rw [if_pos (.inr ho)])
    clear ho hz
    go_enter Try.func23, Try.ntmps23
    go_wp2_with fail
    refine (rvalid_any _ _).mono ?_
    rintro e w1 ⟨rfl, rfl⟩
    rw [HO.out]
    go_wp2_with fail
    refine bodyPost_ret (by first | (simp [*, results, Try.results23, go_sem]; rfl) | simp [*, results, Try.results23, go_sem]) rfl ?_
    rw [HE.out]
    exact decZ _ _ _ (by (repeat' first | (with_reducible exact Grew.refl _) | (with_reducible assumption) | (with_reducible refine Grew.alloc ?_ _) | (with_reducible refine Grew.drew ?_) | (with_reducible refine Grew.drewN ?_ _) | (with_reducible refine Grew.setRow ?_ (by first | (simp; done) | (simp; omega) | omega) _) | (with_reducible refine Grew.setCell ?_ (by first | (simp; done) | (simp; omega) | omega) _) | ((with_reducible apply Grew.trans); rotate_left; (with_reducible assumption)) | ((with_reducible apply Grew.turn); rotate_left; (with_reducible assumption); (focus (intro i hi; first | omega | (simp at hi; omega)))) | fail))
  | true =>
    have HO := Lib.hid ho
    cases hq : zeroB s with
    | true =>
      have HQ := Lib.hid hq
      have HE := Lib.hid (show rdecP s t = (labZ, 0) from by unfold rdecP; rw [if_neg (by rw [ho]; simp [hz]), if_pos ((zeroB_iff s hz).1 hq)])
      clear ho hz hq
      go_enter Try.func23, Try.ntmps23
      go_wp2_with fail
      refine (rvalid_any _ _).mono ?_
      rintro e w1 ⟨rfl, rfl⟩
      rw [HO.out]
      go_wp2_with fail
      refine (zero_any _ _ (by omega)).mono ?_
      rintro e w2 ⟨rfl, rfl⟩
      rw [HQ.out]
      go_wp2_with fail
      refine bodyPost_ret (by first | (simp [*, results, Try.results23, go_sem]; rfl) | simp [*, results, Try.results23, go_sem]) rfl ?_
      rw [HE.out]
      exact decZ _ _ _ (by (repeat' first | (with_reducible exact Grew.refl _) | (with_reducible assumption) | (with_reducible refine Grew.alloc ?_ _) | (with_reducible refine Grew.drew ?_) | (with_reducible refine Grew.drewN ?_ _) | (with_reducible refine Grew.setRow ?_ (by first | (simp; done) | (simp; omega) | omega) _) | (with_reducible refine Grew.setCell ?_ (by first | (simp; done) | (simp; omega) | omega) _) | ((with_reducible apply Grew.trans); rotate_left; (with_reducible assumption)) | ((with_reducible apply Grew.turn); rotate_left; (with_reducible assumption); (focus (intro i hi; first | omega | (simp at hi; omega)))) | fail))
    | false =>
      have HQ := Lib.hid hq
      have HEE := Lib.hid (show rdecP s t = if rE 127 s ≠ 0 ∨ encS (rL 127 s) t ≠ s then (labZ, 11) else (rL 127 s, 0) from by
        unfold rdecP; rw [if_neg (by rw [ho]; simp [hz]), if_neg (fun e => by rw [(zeroB_iff s hz).2 e] at hq; cases hq)])
      have hsz1 : s.size ≤ 1024 := by omega
      clear ho hq hz
      obtain ⟨w0, hw0⟩ : ∃ w0, w0 = (w.alloc (.cells #[.int .i64 0, .int .i64 0, .string ⟨#[]⟩, .string ⟨#[]⟩, .slice none 0 0] 24)) := ⟨_, rfl⟩
      have hw0s : w0.heap.size = w.heap.size + 1 := by rw [hw0]; simp
      go_enter Try.func23, Try.ntmps23
      go_wp2_with fail
      refine (rvalid_any _ _).mono ?_
      rintro e w1 ⟨rfl, rfl⟩
      rw [HO.out]
      go_wp2_with fail
      refine (zero_any _ _ (by omega)).mono ?_
      rintro e w2 ⟨rfl, rfl⟩
      rw [HQ.out]
      rw [← hw0] at HG0 HB0
      have hb6 : Blk (w0.alloc (.cells #[.string s, .int .i64 0] 61)) (w.heap.size + 1) 61 #[.string s, .int .i64 0] := Blk.new w0 _ _ hw0s.symm
      have hG := (Grew.refl w0).alloc (.cells #[.string s, .int .i64 0] 61)
      obtain ⟨⟨i1, s1, e1⟩, hX1⟩ : ∃ X, RCnt s 0 1099511627776 = X := ⟨_, rfl⟩
      have HX1 := Lib.hid hX1
      have zz := RCnt_size s 0 1099511627776
      rw [hX1] at zz
      have zs1 : s1.size ≤ 1024 := Nat.le_trans zz (by omega)
      have C := fun w => refReadCount_any s 0 1099511627776 w (by omega) (by omega) (by omega)
      rw [hX1] at C
      have bi1 := RCnt_bd s 0 1099511627776 (by omega)
      rw [hX1] at bi1
      have bi1 : (i1 : Int) ≤ 1099511627776 := bi1
      clear hX1 zz
      go_wp2_with fail
      refine (C _).mono ?_
      rintro e w1 ⟨rfl, gq⟩
      rw [← hw0] at gq
      replace hG := hG.trans gq
      replace hb6 := hb6.grew gq
      clear C gq
      have z0 := hb6.cell 0
      have z1 := hb6.cell 1
      have f0 := hb6.frozen 0
      have f1 := hb6.frozen 1
      have hlb := hb6.lt
      have hG' := (hG.setCell (p := ⟨w.heap.size + 1, 0, none⟩) (by show w0.heap.size ≤ w.heap.size + 1; omega) (.string s1)).setCell (p := ⟨w.heap.size + 1, 1, none⟩) (by show w0.heap.size ≤ w.heap.size + 1; omega) (.int .i64 e1)
      have hb6' := ((hb6.set_ 0 (.string s1)).set_ 1 (.int .i64 e1)).conv (ds := #[.string s1, .int .i64 e1]) rfl
      have hGs := hG'
      have hbs := hb6'
      clear hG' hb6' hG hb6
      have hG := hGs
      have hb6 := hbs
      clear hGs hbs
      obtain ⟨⟨u1, s2, e2⟩, hX2⟩ : ∃ X, RCnt s1 e1 1099511627776 = X := ⟨_, rfl⟩
      have HX2 := Lib.hid hX2
      have zz := RCnt_size s1 e1 1099511627776
      rw [hX2] at zz
      have zs2 : s2.size ≤ 1024 := Nat.le_trans zz (by omega)
      have C := fun w => refReadCount_any s1 e1 1099511627776 w (by omega) (by omega) (by omega)
      rw [hX2] at C
      have bu1 := RCnt_bd s1 e1 1099511627776 (by omega)
      rw [hX2] at bu1
      have bu1 : (u1 : Int) ≤ 1099511627776 := bu1
      clear hX2 zz
      go_wp2_with fail
      refine (C _).mono ?_
      rintro e w2 ⟨rfl, gq⟩

      replace hG := hG.trans gq
      replace hb6 := hb6.grew gq
      clear C gq
      have z0 := hb6.cell 0
      have z1 := hb6.cell 1
      have f0 := hb6.frozen 0
      have f1 := hb6.frozen 1
      have hlb := hb6.lt
      have hG' := (hG.setCell (p := ⟨w.heap.size + 1, 0, none⟩) (by show w0.heap.size ≤ w.heap.size + 1; omega) (.string s2)).setCell (p := ⟨w.heap.size + 1, 1, none⟩) (by show w0.heap.size ≤ w.heap.size + 1; omega) (.int .i64 e2)
      have hb6' := ((hb6.set_ 0 (.string s2)).set_ 1 (.int .i64 e2)).conv (ds := #[.string s2, .int .i64 e2]) rfl
      have hGs := hG'
      have hbs := hb6'
      clear hG' hb6' hG hb6
      have hG := hGs
      have hb6 := hbs
      clear hGs hbs
      obtain ⟨⟨n1, s3, e3⟩, hX3⟩ : ∃ X, RTxt s2 e2 31 = X := ⟨_, rfl⟩
      have HX3 := Lib.hid hX3
      have zz := RTxt_size s2 e2 31
      rw [hX3] at zz
      have zs3 : s3.size ≤ 1024 := Nat.le_trans zz (by omega)
      have C := fun w => refReadText_any s2 e2 31 w (by omega) (by omega) (by omega)
      rw [hX3] at C
      have bn1 := RTxt_sz s2 e2 31
      rw [hX3] at bn1
      have bn1 : n1.size ≤ 1024 := Nat.le_trans bn1 (by omega)
      clear hX3 zz
      go_wp2_with fail
      refine (C _).mono ?_
      rintro e w3 ⟨rfl, gq⟩

      replace hG := hG.trans gq
      replace hb6 := hb6.grew gq
      clear C gq
      have z0 := hb6.cell 0
      have z1 := hb6.cell 1
      have f0 := hb6.frozen 0
      have f1 := hb6.frozen 1
      have hlb := hb6.lt
      have hG' := (hG.setCell (p := ⟨w.heap.size + 1, 0, none⟩) (by show w0.heap.size ≤ w.heap.size + 1; omega) (.string s3)).setCell (p := ⟨w.heap.size + 1, 1, none⟩) (by show w0.heap.size ≤ w.heap.size + 1; omega) (.int .i64 e3)
      have hb6' := ((hb6.set_ 0 (.string s3)).set_ 1 (.int .i64 e3)).conv (ds := #[.string s3, .int .i64 e3]) rfl
      have hGs := hG'
      have hbs := hb6'
      clear hG' hb6' hG hb6
      have hG := hGs
      have hb6 := hbs
      clear hGs hbs
      obtain ⟨⟨o1, s4, e4⟩, hX4⟩ : ∃ X, RTxt s3 e3 400 = X := ⟨_, rfl⟩
      have HX4 := Lib.hid hX4
      have zz := RTxt_size s3 e3 400
      rw [hX4] at zz
      have zs4 : s4.size ≤ 1024 := Nat.le_trans zz (by omega)
      have C := fun w => refReadText_any s3 e3 400 w (by omega) (by omega) (by omega)
      rw [hX4] at C
      have bo1 := RTxt_sz s3 e3 400
      rw [hX4] at bo1
      have bo1 : o1.size ≤ 1024 := Nat.le_trans bo1 (by omega)
      clear hX4 zz
      go_wp2_with fail
      refine (C _).mono ?_
      rintro e w4 ⟨rfl, gq⟩

      replace hG := hG.trans gq
      replace hb6 := hb6.grew gq
      clear C gq
      have z0 := hb6.cell 0
      have z1 := hb6.cell 1
      have f0 := hb6.frozen 0
      have f1 := hb6.frozen 1
      have hlb := hb6.lt
      have hG' := (hG.setCell (p := ⟨w.heap.size + 1, 0, none⟩) (by show w0.heap.size ≤ w.heap.size + 1; omega) (.string s4)).setCell (p := ⟨w.heap.size + 1, 1, none⟩) (by show w0.heap.size ≤ w.heap.size + 1; omega) (.int .i64 e4)
      have hb6' := ((hb6.set_ 0 (.string s4)).set_ 1 (.int .i64 e4)).conv (ds := #[.string s4, .int .i64 e4]) rfl
      have hGs := hG'
      have hbs := hb6'
      clear hG' hb6' hG hb6
      have hG := hGs
      have hb6 := hbs
      clear hGs hbs
      obtain ⟨⟨c5, s5, e5⟩, hX5⟩ : ∃ X, RCnt s4 e4 16 = X := ⟨_, rfl⟩
      have HX5 := Lib.hid hX5
      have zz := RCnt_size s4 e4 16
      rw [hX5] at zz
      have zs5 : s5.size ≤ 1024 := Nat.le_trans zz (by omega)
      have C := fun w => refReadCount_any s4 e4 16 w (by omega) (by omega) (by omega)
      rw [hX5] at C
      have bc5 := RCnt_bd s4 e4 16 (by omega)
      rw [hX5] at bc5
      have bc5 : (c5 : Int) ≤ 16 := bc5
      clear hX5 zz
      go_wp2_with fail
      refine (C _).mono ?_
      rintro e w5 ⟨rfl, gq⟩

      replace hG := hG.trans gq
      replace hb6 := hb6.grew gq
      clear C gq
      have z0 := hb6.cell 0
      have z1 := hb6.cell 1
      have f0 := hb6.frozen 0
      have f1 := hb6.frozen 1
      have hlb := hb6.lt
      have hG' := (hG.setCell (p := ⟨w.heap.size + 1, 0, none⟩) (by show w0.heap.size ≤ w.heap.size + 1; omega) (.string s5)).setCell (p := ⟨w.heap.size + 1, 1, none⟩) (by show w0.heap.size ≤ w.heap.size + 1; omega) (.int .i64 e5)
      have hb6' := ((hb6.set_ 0 (.string s5)).set_ 1 (.int .i64 e5)).conv (ds := #[.string s5, .int .i64 e5]) rfl
      go_wp2_with fail
      have h5s : w0.heap.size < w5.heap.size := by have := hb6.lt; omega
      have hl12 : Blk _ w5.heap.size 24 #[.int .i64 (i1 : Int), .int .i64 (u1 : Int), .string n1, .string o1, .slice none 0 0] := Blk.new ((w5.setCell ⟨w.heap.size + 1, 0, none⟩ (.string s5)).setCell ⟨w.heap.size + 1, 1, none⟩ (.int .i64 e5)) _ _ (by simp)
      have hb12 := hb6'.alloc (.cells #[.int .i64 (i1 : Int), .int .i64 (u1 : Int), .string n1, .string o1, .slice none 0 0] 24)
      have hG12 := hG'.alloc (.cells #[.int .i64 (i1 : Int), .int .i64 (u1 : Int), .string n1, .string o1, .slice none 0 0] 24)
      clear z0 z1 f0 f1 hlb hG' hb6' hG hb6
      go_loopg [13] c5 (fun gk i wr => ∃ (k : Nat) (v : Value) (L : List (Int × Int)) (sk : ByteArray) (ek : Int), k ≤ c5 ∧ gk = c5 - k ∧ i = .int .i64 k ∧ rdK 127 s5 e5 k = (L, sk, ek) ∧ OwnL wr (w5.heap.size + 1) 43 2 v (L.map runC) ∧ Blk wr w5.heap.size 24 #[.int .i64 (i1 : Int), .int .i64 (u1 : Int), .string n1, .string o1, v] ∧ Blk wr (w.heap.size + 1) 61 #[.string sk, .int .i64 ek] ∧ Grew w0 wr)
      case atStart => exact ⟨0, .slice none 0 0, [], s5, e5, by omega, by omega, rfl, rfl, OwnL.nil _ _ _ _, hl12, hb12, hG12⟩
      clear hl12 hb12 hG12
      case round =>
        obtain ⟨k, v, L, sk, ek, hk, hgk, rfl, hrk, hown, hbl, hrd, hgw⟩ := hrel
        have HGK := Lib.hid hgk
        have HRK := Lib.hid hrk
        have hln : L.length = k := by have := rdK_len 127 s5 e5 k; rw [hrk] at this; exact this
        have hsk : sk.size ≤ 1024 := by have := rdK_size 127 s5 e5 k; rw [hrk] at this; exact Nat.le_trans this zs5
        have HOK := Lib.hid (show ∀ r ∈ L, okRun r from by have := rdK_okm 127 (by omega) (by omega) s5 e5 k; rw [hrk] at this; exact this)
        obtain ⟨A, cv, hv, hlc, hcc, hla0⟩ := hown.listAt
        have HLA0 := Lib.hid hla0
        clear hla0
        rw [List.length_map, hln] at hv hlc
        subst hv
        clear hgk hrk
        have z0 := hrd.cell 0
        have z1 := hrd.cell 1
        have hlw := hbl.lt
        by_cases hlt : k < c5
        · obtain ⟨⟨a1, sa, ea⟩, hXA⟩ : ∃ X, RCnt sk ek 127 = X := ⟨_, rfl⟩
          obtain ⟨⟨b1, sb, eb⟩, hXB⟩ : ∃ X, RCnt sa ea 128 = X := ⟨_, rfl⟩
          have HNX := Lib.hid (rdK_next HRK.out hXA hXB)
          have zz := RCnt_size sk ek 127
          rw [hXA] at zz
          have zsa : sa.size ≤ 1024 := Nat.le_trans zz (by omega)
          have CA := fun w => refReadCount_any sk ek 127 w (by omega) (by omega) (by omega)
          rw [hXA] at CA
          have CB := fun w => refReadCount_any sa ea 128 w (by omega) (by omega) (by omega)
          rw [hXB] at CB
          have ba1 := RCnt_bd sk ek 127 (by omega)
          rw [hXA] at ba1
          have ba1 : (a1 : Int) ≤ 127 := ba1
          have bb1 := RCnt_bd sa ea 128 (by omega)
          rw [hXB] at bb1
          have bb1 : (b1 : Int) ≤ 128 := bb1
          clear hXA hXB zz
          go_wp2_with fail
          refine (CA _).mono ?_
          rintro e wa ⟨rfl, ga⟩
          have ga' := ga.alloc (.cells #[.string sa, .int .i64 ea] 61)
          have hsa : wr.heap.size ≤ wa.heap.size := ga.size
          clear z0 z1
          go_wp2_with fail
          refine (CB _).mono ?_
          rintro e wb ⟨rfl, gb⟩
          have hsb : wa.heap.size + 1 ≤ wb.heap.size := by have := gb.size; simp at this; omega
          have gab := ga'.trans gb
          have hrb := hrd.grew gab
          have hlb := hbl.grew gab
          have hob := hown.grew gab
          have hgb := hgw.trans gab
          have z0 := hrb.cell 0
          have z1 := hrb.cell 1
          have f0 := hrb.frozen 0
          have f1 := hrb.frozen 1
          have x4 := hlb.cell 4
          have hrl := hrb.lt
          have hll := hlb.lt
          have hno : (Value.slice A k cv).ownBlock ≠ some (w.heap.size + 1) := fun hq => by have : w5.heap.size + 1 ≤ w.heap.size + 1 := (hown.own_ge hq).1; omega
          have hnl : (Value.slice A k cv).ownBlock ≠ some w5.heap.size := fun hq => by have : w5.heap.size + 1 ≤ w5.heap.size := (hown.own_ge hq).1; omega
          have hoW := ((hob.far (p := ⟨w.heap.size + 1, 0, none⟩) hno (.string sb)).far (p := ⟨w.heap.size + 1, 1, none⟩) hno (.int .i64 eb)).alloc (.cells #[.string sb, .int .i64 eb] 61)
          have hlW := ((hlb.far (p := ⟨w.heap.size + 1, 0, none⟩) (by show w5.heap.size ≠ w.heap.size + 1; omega) (.string sb)).far (p := ⟨w.heap.size + 1, 1, none⟩) (by show w5.heap.size ≠ w.heap.size + 1; omega) (.int .i64 eb)).alloc (.cells #[.string sb, .int .i64 eb] 61)
          have hrW := (((hrb.set_ 0 (.string sb)).set_ 1 (.int .i64 eb)).conv (ds := #[.string sb, .int .i64 eb]) rfl).alloc (.cells #[.string sb, .int .i64 eb] 61)
          have hgW := ((hgb.setCell (p := ⟨w.heap.size + 1, 0, none⟩) (by show w0.heap.size ≤ w.heap.size + 1; omega) (.string sb)).setCell (p := ⟨w.heap.size + 1, 1, none⟩) (by show w0.heap.size ≤ w.heap.size + 1; omega) (.int .i64 eb)).alloc (.cells #[.string sb, .int .i64 eb] 61)
          go_wp2_with (at_builtin; refine wpList_push rfl _ _ 22 rfl (w5.heap.size + 1) 43 2 16 _ Try.underlying22 info_run rfl (by decide) (((wb.setCell ⟨w.heap.size + 1, 0, none⟩ (.string sb)).setCell ⟨w.heap.size + 1, 1, none⟩ (.int .i64 eb)).alloc (.cells #[.string sb, .int .i64 eb] 61)) _ (L.map runC) (runC ((a1 : Int), (b1 : Int))) (by rfl) rfl rfl hoW (by first | rfl | (simp; done)) rfl rfl (by rw [List.length_map]; omega) (by rw [List.length_map]; omega) (by simp; omega) ?_; intro v' w7 hown7 hgr hbk hsz; obtain ⟨A', c', hv', -, -, -⟩ := hown7.listAt; rw [show (L.map runC ++ [runC ((a1 : Int), (b1 : Int))]).length = k + 1 from by simp [hln]] at hv'; subst hv'; have hl7 := hbk _ _ _ hlW hnl; have hr7 := hbk _ _ _ hrW hno; have g7 := hgr _ hgW (by omega); have q4 := hl7.cell 4; have qf4 := hl7.frozen 4; have ql := hl7.lt)
          have hn7 : (Value.slice A' (k + 1) c').ownBlock ≠ some w5.heap.size := fun hq => by have : w5.heap.size + 1 ≤ w5.heap.size := (hown7.own_ge hq).1; omega
          have ho8 := hown7.far (p := ⟨w5.heap.size, 4, none⟩) hn7 (.slice A' (k + 1) c')
          have hl8 := (hl7.set_ 4 (.slice A' (k + 1) c')).conv (ds := #[.int .i64 (i1 : Int), .int .i64 (u1 : Int), .string n1, .string o1, .slice A' (k + 1) c']) rfl
          have hr8 := hr7.far (p := ⟨w5.heap.size, 4, none⟩) (by show w.heap.size + 1 ≠ w5.heap.size; omega) (.slice A' (k + 1) c')
          have g8 := g7.setCell (p := ⟨w5.heap.size, 4, none⟩) (by show w0.heap.size ≤ w5.heap.size; omega) (.slice A' (k + 1) c')
          go_roundg (c5 - (k + 1))
          case measure => rw [HGK.out]; omega
          case rel => exact ⟨k + 1, _, _, sb, eb, by omega, by omega, by go_num, HNX.out, by rw [List.map_append]; exact ho8, hl8, hr8, g8⟩
        · obtain rfl : k = c5 := by omega
          have q1 : rI s = (i1, s1, e1) := HX1.out
          have q2 : rU s = (u1, s2, e2) := by unfold rU; rw [q1]; exact HX2.out
          have q3 : rN s = (n1, s3, e3) := by unfold rN; rw [q2]; exact HX3.out
          have q4 : rT s = (o1, s4, e4) := by unfold rT; rw [q3]; exact HX4.out
          have q5 : rC s = (k, s5, e5) := by unfold rC; rw [q4]; exact HX5.out
          have HRL := Lib.hid (show rL 127 s = ⟨(i1 : Int), (u1 : Int), n1, o1, L⟩ ∧ rE 127 s = ek from ⟨by unfold rL; rw [q1, q2, q3, q4, q5]; simp only [HRK.out], by unfold rE; rw [q5]; simp only [HRK.out]⟩)
          subst hln
          have HLA := Lib.hid (show LabAt wr A cv ⟨(i1 : Int), (u1 : Int), n1, o1, L⟩ from ⟨by show -9223372036854775808 ≤ ((_ : Nat) : Int); omega, by show ((_ : Nat) : Int) ≤ 9223372036854775807; omega, by show -9223372036854775808 ≤ ((_ : Nat) : Int); omega, by show ((_ : Nat) : Int) ≤ 9223372036854775807; omega, by show n1.size ≤ _; omega, by show o1.size ≤ _; omega, ⟨HOK.out, HLA0.out⟩, hlc, hcc⟩)
          have x0 := hbl.cell 0
          have x1 := hbl.cell 1
          have x2 := hbl.cell 2
          have x3 := hbl.cell 3
          have x4 := hbl.cell 4
          have HBL := Lib.hid hbl
          have HB1 := Lib.hid (HB0.out.grew hgw)
          have hGr := Lib.hid (HG0.out.trans hgw)
          have HOW := Lib.hid hown
          have hlr := hrd.lt
          clear hbl hown hrd q1 q2 q3 q4 q5
          by_cases he : ek = 0
          rotate_left
          · have hei : (ek != 0) = true := by rw [bne_iff_ne]; exact he
            have HE := Lib.hid (show rdecP s t = (labZ, 11) from by rw [HEE.out, HRL.out.2, if_pos (.inl he)])
            have hb2 := HB1.out
            have y0 := hb2.cell 0
            have v0 := hb2.frozen 0
            have y1 := hb2.cell 1
            have v1 := hb2.frozen 1
            have y2 := hb2.cell 2
            have v2 := hb2.frozen 2
            have y3 := hb2.cell 3
            have v3 := hb2.frozen 3
            have y4 := hb2.cell 4
            have v4 := hb2.frozen 4
            have hlb2 := hb2.lt
            have hgv := hGr.out
            go_wp2_with fail
            refine bodyPost_ret (by first | (simp [*, results, Try.results23, go_sem]; rfl) | simp [*, results, Try.results23, go_sem]) rfl ?_
            rw [HE.out]
            exact decZ _ _ _ (by (repeat' first | (with_reducible exact Grew.refl _) | (with_reducible assumption) | (with_reducible refine Grew.alloc ?_ _) | (with_reducible refine Grew.drew ?_) | (with_reducible refine Grew.drewN ?_ _) | (with_reducible refine Grew.setRow ?_ (by first | (simp; done) | (simp; omega) | omega) _) | (with_reducible refine Grew.setCell ?_ (by first | (simp; done) | (simp; omega) | omega) _) | ((with_reducible apply Grew.trans); rotate_left; (with_reducible assumption)) | ((with_reducible apply Grew.turn); rotate_left; (with_reducible assumption); (focus (intro i hi; first | omega | (simp at hi; omega)))) | fail))
          · subst he
            have CE := fun w h => rencode_lab A cv ⟨(i1 : Int), (u1 : Int), n1, o1, L⟩ t w h (by show L.length ≤ 100000; omega) t0 t1
            obtain ⟨EE, hEE⟩ : ∃ EE, encS ⟨(i1 : Int), (u1 : Int), n1, o1, L⟩ t = EE := ⟨_, rfl⟩
            rw [hEE] at CE
            have HEQ := Lib.hid hEE
            by_cases hes : EE = s
            · have HE := Lib.hid (show rdecP s t = (⟨(i1 : Int), (u1 : Int), n1, o1, L⟩, 0) from by rw [HEE.out, HRL.out.1, HRL.out.2, HEQ.out, hes]; simp)
              rw [hes] at CE
              clear hEE hes
              go_wp2_with fail
              refine (CE _ HLA.out).mono ?_
              rintro e we ⟨rfl, ge⟩
              have HBW := Lib.hid (HBL.out.grew ge)
              have hlx := HBW.out.lt
              clear x0 x1 x2 x3 x4 z0 z1
              have x0 := HBW.out.cell 0
              have x1 := HBW.out.cell 1
              have x2 := HBW.out.cell 2
              have x3 := HBW.out.cell 3
              have x4 := HBW.out.cell 4
              have hb2 := HB1.out.grew ge
              have y0 := hb2.cell 0
              have v0 := hb2.frozen 0
              have y1 := hb2.cell 1
              have v1 := hb2.frozen 1
              have y2 := hb2.cell 2
              have v2 := hb2.frozen 2
              have y3 := hb2.cell 3
              have v3 := hb2.frozen 3
              have y4 := hb2.cell 4
              have v4 := hb2.frozen 4
              have hlb2 := hb2.lt
              go_wp2_with fail
              refine bodyPost_ret (by first | (simp [*, results, Try.results23, go_sem]; rfl) | simp [*, results, Try.results23, go_sem]) rfl ?_
              rw [HE.out]
              have hgv := hGr.out.trans ge
              have hT := ((((((ge.turned (fun q => q = w.heap.size)).setCell (p := ⟨w.heap.size, 0, none⟩) (fun _ => rfl) (.int .i64 (i1 : Int))).setCell (p := ⟨w.heap.size, 1, none⟩) (fun _ => rfl) (.int .i64 (u1 : Int))).setCell (p := ⟨w.heap.size, 2, none⟩) (fun _ => rfl) (.string n1)).setCell (p := ⟨w.heap.size, 3, none⟩) (fun _ => rfl) (.string o1)).setCell (p := ⟨w.heap.size, 4, none⟩) (fun _ => rfl) (.slice A L.length cv))
              have hk := HOW.out.kept hT (fun q hq hqg => by have : w5.heap.size + 1 ≤ q := (HOW.out.own_ge hq).1; omega)
              obtain ⟨A', c', hv', -, -, hl'⟩ := hk.listAt
              rw [List.length_map] at hv'
              simp only [Value.slice.injEq] at hv'
              obtain ⟨rfl, -, rfl⟩ := hv'
              exact ⟨A, cv, rfl, ⟨HLA.out.id0, HLA.out.id1, HLA.out.unit0, HLA.out.unit1, HLA.out.name, HLA.out.note, ⟨HOK.out, hl'⟩, HLA.out.len, HLA.out.cap⟩, by (repeat' first | (with_reducible exact Grew.refl _) | (with_reducible assumption) | (with_reducible refine Grew.alloc ?_ _) | (with_reducible refine Grew.drew ?_) | (with_reducible refine Grew.drewN ?_ _) | (with_reducible refine Grew.setRow ?_ (by first | (simp; done) | (simp; omega) | omega) _) | (with_reducible refine Grew.setCell ?_ (by first | (simp; done) | (simp; omega) | omega) _) | ((with_reducible apply Grew.trans); rotate_left; (with_reducible assumption)) | ((with_reducible apply Grew.turn); rotate_left; (with_reducible assumption); (focus (intro i hi; first | omega | (simp at hi; omega)))) | fail)⟩
            · have HE := Lib.hid (show rdecP s t = (labZ, 11) from by rw [HEE.out, HRL.out.1, HRL.out.2, HEQ.out]; simp [hes])
              have hns := str_ne hes
              clear hEE hes
              go_wp2_with fail
              refine (CE _ HLA.out).mono ?_
              rintro e we ⟨rfl, ge⟩
              clear x0 x1 x2 x3 x4 z0 z1
              have hb2 := HB1.out.grew ge
              have y0 := hb2.cell 0
              have v0 := hb2.frozen 0
              have y1 := hb2.cell 1
              have v1 := hb2.frozen 1
              have y2 := hb2.cell 2
              have v2 := hb2.frozen 2
              have y3 := hb2.cell 3
              have v3 := hb2.frozen 3
              have y4 := hb2.cell 4
              have v4 := hb2.frozen 4
              have hlb2 := hb2.lt
              go_wp2_with fail
              refine bodyPost_ret (by first | (simp [*, results, Try.results23, go_sem]; rfl) | simp [*, results, Try.results23, go_sem]) rfl ?_
              rw [HE.out]
              have hgv := hGr.out.trans ge
              exact decZ _ _ _ (by (repeat' first | (with_reducible exact Grew.refl _) | (with_reducible assumption) | (with_reducible refine Grew.alloc ?_ _) | (with_reducible refine Grew.drew ?_) | (with_reducible refine Grew.drewN ?_ _) | (with_reducible refine Grew.setRow ?_ (by first | (simp; done) | (simp; omega) | omega) _) | (with_reducible refine Grew.setCell ?_ (by first | (simp; done) | (simp; omega) | omega) _) | ((with_reducible apply Grew.trans); rotate_left; (with_reducible assumption)) | ((with_reducible apply Grew.turn); rotate_left; (with_reducible assumption); (focus (intro i hi; first | omega | (simp at hi; omega)))) | fail))
end Go.Proofs.Ytkiciojipiakoaa
namespace Go.Proofs.Ytkiciojipiakoaa
open Go.RowKit
theorem decP_len (s : ByteArray) (t : Int) : (decP s t).1.ext.length ≤ 1000 := by
  unfold decP
  split
  · exact Nat.zero_le _
  · split
    · exact Nat.zero_le _
    · split
      · rename_i h
        obtain ⟨_, _, ⟨_, v8⟩, _⟩ := valid_facts _ t h.1
        show (rL 128 s).ext.length ≤ 1000
        omega
      · exact Nat.zero_le _
set_option maxRecDepth 100000 in
set_option maxHeartbeats 4000000 in
theorem labelDecodes_any (s : ByteArray) (hs : s.size ≤ 9223372036854775807) (t : Int) (t0 : -9223372036854775808 ≤ t) (t1 : t ≤ 9223372036854775807) (w : World) :
    Calls Try.prog 6 #[.string s, .int .i64 t] w fun e w' => e = .returned (.bool true) ∧ Grew w w' := by
  by_cases hz : s.size ≤ 1100
  rotate_left
  · have hzi : ((s.size : Int) > 1100) := by omega
    have hzd : decide ((1100 : Int) < (s.size : Int)) = true := decide_eq_true hzi
    go_enter Try.func6, Try.ntmps6
    go_wp2_with fail
    refine (awake_any _).mono ?_
    rintro e w1 ⟨rfl, g1⟩
    go_wp2_with fail
    refine (awake_any _).mono ?_
    rintro e w2 ⟨rfl, g2⟩
    go_wp2_with fail
    go_ret
    exact ⟨rfl, g1.trans g2⟩
  · have hzi : ¬ ((s.size : Int) > 1100) := by omega
    have hzd : decide ((1100 : Int) < (s.size : Int)) = false := decide_eq_false hzi
    have hlen := decP_len s t
    obtain ⟨l, n, hD⟩ : ∃ l n, decP s t = (l, n) := ⟨_, _, rfl⟩
    rw [hD] at hlen
    have hlen' : l.ext.length ≤ 1000 := hlen
    have hqq : eqL l l = true := eqL_self l
    have HCD := Lib.hid (show ∀ w', Calls Try.prog 22 #[.string s, .int .i64 t] w' fun e w'' => ∃ A2 c2, e = .returned (.tuple #[.agg #[.int .i64 l.id, .int .i64 l.unit, .string l.name, .string l.note, .slice A2 l.ext.length c2], .int .i64 n]) ∧ LabAt w'' A2 c2 l ∧ Grew w' w'' from fun w' => by
      have := decode_lab s t w' (by omega) t0 t1
      rw [hD] at this
      exact this)
    have HRD := Lib.hid (show ∀ w', Calls Try.prog 23 #[.string s, .int .i64 t] w' fun e w'' => ∃ A2 c2, e = .returned (.tuple #[.agg #[.int .i64 l.id, .int .i64 l.unit, .string l.name, .string l.note, .slice A2 l.ext.length c2], .int .i64 n]) ∧ LabAt w'' A2 c2 l ∧ Grew w' w'' from fun w' => by
      have := rdecode_lab s t w' (by omega) t0 t1
      rw [dec_same, hD] at this
      exact this)
    have HQQ := Lib.hid (show ∀ w' A2 c2 A3 c3, LabAt w' A2 c2 l → LabAt w' A3 c3 l → Calls Try.prog 15 #[.agg #[.int .i64 l.id, .int .i64 l.unit, .string l.name, .string l.note, .slice A2 l.ext.length c2], .agg #[.int .i64 l.id, .int .i64 l.unit, .string l.name, .string l.note, .slice A3 l.ext.length c3]] w' fun e w'' => e = .returned (.bool true) ∧ Grew w' w'' from fun w' A2 c2 A3 c3 h2 h3 => by
      have := requal_any A2 A3 c2 c3 l l w' h2 h3 (by omega) (by omega)
      rw [hqq] at this
      exact this)
    have hnn : (n == n) = true := by rw [beq_iff_eq]
    clear hD hlen hlen' hqq
    go_enter Try.func6, Try.ntmps6
    go_wp2_with fail
    refine (awake_any _).mono ?_
    rintro e w1 ⟨rfl, g1⟩
    go_wp2_with fail
    refine (HCD.out _).mono ?_
    rintro e w2 ⟨A2, c2, rfl, hk2, g2⟩
    have HB2 := Lib.hid (Blk.new w2 24 #[.int .i64 l.id, .int .i64 l.unit, .string l.name, .string l.note, .slice A2 l.ext.length c2] rfl)
    have gm2 := (Grew.refl w2).alloc (.cells #[.int .i64 l.id, .int .i64 l.unit, .string l.name, .string l.note, .slice A2 l.ext.length c2] 24)
    have hk2' := hk2.hold gm2
    go_wp2_with fail
    refine (HRD.out _).mono ?_
    rintro e w3 ⟨A3, c3, rfl, hk3, g3⟩
    have HB3 := Lib.hid (Blk.new w3 24 #[.int .i64 l.id, .int .i64 l.unit, .string l.name, .string l.note, .slice A3 l.ext.length c3] rfl)
    have gm3 := (Grew.refl w3).alloc (.cells #[.int .i64 l.id, .int .i64 l.unit, .string l.name, .string l.note, .slice A3 l.ext.length c3] 24)
    have hk3' := hk3.hold gm3
    have hk2'' := (hk2'.hold g3).hold gm3
    have HB2' := Lib.hid ((HB2.out.grew g3).alloc (.cells #[.int .i64 l.id, .int .i64 l.unit, .string l.name, .string l.note, .slice A3 l.ext.length c3] 24))
    have hlbx := (HB2'.out).lt
    have x0 := (HB2'.out).cell 0
    have x1 := (HB2'.out).cell 1
    have x2 := (HB2'.out).cell 2
    have x3 := (HB2'.out).cell 3
    have x4 := (HB2'.out).cell 4
    have hlby := (HB3.out).lt
    have y0 := (HB3.out).cell 0
    have y1 := (HB3.out).cell 1
    have y2 := (HB3.out).cell 2
    have y3 := (HB3.out).cell 3
    have y4 := (HB3.out).cell 4
    go_wp2_with fail
    refine (HQQ.out _ A2 c2 A3 c3 hk2'' hk3').mono ?_
    rintro e w4 ⟨rfl, g4⟩
    go_wp2_with fail
    go_ret
    exact ⟨rfl, ((((g1.trans g2).trans gm2).trans g3).trans gm3).trans g4⟩
end Go.Proofs.Ytkiciojipiakoaa
namespace Go.Proofs.Ytkiciojipiakoaa
open Go.ChangeShapes Go.WideShapes Go.ChangeAt Go.RowKit Go.ChangeMaps
set_option maxRecDepth 100000 in
theorem labelDecodes_lifted (os : Os) (started : os.Started) (H : Type) (enc : TypeId × Value → H) :
    ReturnsInHanded {} Try.checked os 6 .any (Rows.labelDecodesSpec.pre6 enc Try.prog Try.f6 Rows.labelDecodesRow.domain false) (Rows.labelDecodesSpec.post enc Try.prog Try.f6 false true false false) := by
  refine returnsInHanded_of_change (C := Try.checked) (by kernel_rfl) started (by kernel_rfl) Try.func6
    (ChangeSpec.witness6 (enc := enc) (C := Try.checked) false ⟨#[], #[.string ⟨#[]⟩, .int .i64 0], []⟩ 8 (by kernel_rfl) (by kernel_rfl) (by kernel_rfl) (by kernel_rfl)) ?_
  intro W base args ds gs before hval0 hW hcnd _
  have hval : ∀ (j : Nat) t v, Try.f6.params[j]? = some t → args[j]? = some v → Value.okWide Try.prog W .any base t v := hval0
  have hW' := hW
  obtain ⟨p, q, hA0, hV, rfl, hfz, hnd⟩ := hW
  have hA : DataW.TrodAll enc Try.prog W 0 (fun _ => true) true Try.f6.params.toList args.toList ds p := hA0
  rw [Try.params6] at hA hval
  obtain ⟨v0, v1, d0, d1, p0, p1, rfl, rfl, rfl, h0, h1⟩ := trodAll_two hA
  obtain ⟨rfl, rfl⟩ := trodVars_none hV
  obtain ⟨a0, rfl, rfl, rfl, wa0⟩ := open_string Try.underlying9 (hval 0 9 v0 rfl rfl) h0
  have s0 : a0.size ≤ 9223372036854775807 := by unfold maxLen at wa0; simpa using wa0
  obtain ⟨b1, rfl, rfl, rfl, wb1⟩ := open_int Try.underlying3 (hval 1 3 v1 rfl rfl) h1
  simp only [Lit.wf, IntKind.min, IntKind.max, IntKind.signed, IntKind.bits] at wb1
  have s1 : -9223372036854775808 ≤ b1 ∧ b1 ≤ 9223372036854775807 := by simp at wb1; omega
  obtain ⟨a1, rfl⟩ : ∃ a, a = b1 := ⟨_, rfl⟩
  clear hA0 hval0
  refine (labelDecodes_any a0 s0 a1 s1.1 s1.2 W).mono fun e W' ⟨he, hg⟩ => ?_
  subst he
  exact ⟨_, rfl, law_post (by kernel_rfl) (by kernel_rfl) (by rfl) Try.underlying4 rfl hW' rfl hg⟩
theorem labelDecodes_holds : Rows.LabelDecodesSaid :=
  OpenClaim.holds_of_wide 6 Try.f6 rfl rfl rfl rfl rfl rfl rfl ⟨rfl, rfl, rfl, rfl, rfl⟩ rfl rfl rfl rfl rfl (by kernel_rfl) Try.func6 (by kernel_rfl)
    (of_decide_eq_true (by kernel_rfl)) (by unfold Func.isWrapper; first | (rw [if_pos (by decide +kernel)]; kernel_rfl) | (rw [if_neg (by decide +kernel)]; exact ⟨rfl, rfl⟩))
    (fun os started H enc _ => labelDecodes_lifted os started H enc)
end Go.Proofs.Ytkiciojipiakoaa
