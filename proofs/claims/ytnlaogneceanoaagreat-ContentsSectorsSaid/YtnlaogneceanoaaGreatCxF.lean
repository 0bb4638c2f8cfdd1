/- Chapter 7: Decode. Chapter 7, plain: what is written is read again; both sides decode alike. Chapter 7: DecodeHead, on both sides. Chapter 6, plain: the best run, the runs by size, and what is taken from them. Chapter 6: Best, on both sides. slices.SortFunc, laid at this program (written by lay.py out of the kit's own command). Chapter 6: the comparison of two runs, and the sort by it. Chapter 6: Allocate, on both sides. -/
import Derived.Shelf.SlSortCmp.WholeK
import Derived.Shelf.SlSortCmp.NoneTotal
import Derived.Test.YtnlaogneceanoaaGreatCxA
import Derived.Test.YtnlaogneceanoaaGreatCxB
import Derived.Test.YtnlaogneceanoaaGreatCxC
import Derived.Test.YtnlaogneceanoaaGreatCxE
namespace Go.Proofs.YtnlaogneceanoaaGreat
set_option linter.unusedVariables false
set_option linter.unusedSimpArgs false
set_option linter.unusedSectionVars false
open Go.RowKit
attribute [local go_sem ↓] Go.wp_at_zero Go.wp_at_succ
/-- The runs that are read, one behind the other. -/
def rdK (m : Int) (s : ByteArray) (e : Int) : Nat → List (Int × Int) × ByteArray × Int
  | 0 => ([], s, e)
  | k + 1 => ((rdK m s e k).1 ++ [(((RCnt (rdK m s e k).2.1 (rdK m s e k).2.2 m).1 : Int), ((RCnt (RCnt (rdK m s e k).2.1 (rdK m s e k).2.2 m).2.1 (RCnt (rdK m s e k).2.1 (rdK m s e k).2.2 m).2.2 128).1 : Int))],
      (RCnt (RCnt (rdK m s e k).2.1 (rdK m s e k).2.2 m).2.1 (RCnt (rdK m s e k).2.1 (rdK m s e k).2.2 m).2.2 128).2.1, (RCnt (RCnt (rdK m s e k).2.1 (rdK m s e k).2.2 m).2.1 (RCnt (rdK m s e k).2.1 (rdK m s e k).2.2 m).2.2 128).2.2)
theorem rdK_len (m : Int) (s : ByteArray) (e : Int) (k : Nat) : (rdK m s e k).1.length = k := by
  induction k with
  | zero => rfl
  | succ k ih => show ((rdK m s e k).1 ++ [_]).length = _; rw [List.length_append, ih]; rfl
theorem rdK_size (m : Int) (s : ByteArray) (e : Int) (k : Nat) : (rdK m s e k).2.1.size ≤ s.size := by
  induction k with
  | zero => exact Nat.le_refl _
  | succ k ih => exact Nat.le_trans (RCnt_size _ _ _) (Nat.le_trans (RCnt_size _ _ _) ih)
def rI (s : ByteArray) := RCnt s 0 1099511627776
def rU (s : ByteArray) := RCnt (rI s).2.1 (rI s).2.2 1099511627776
def rN (s : ByteArray) := RTxt (rU s).2.1 (rU s).2.2 31
def rT (s : ByteArray) := RTxt (rN s).2.1 (rN s).2.2 400
def rC (s : ByteArray) := RCnt (rT s).2.1 (rT s).2.2 16
def rL (m : Int) (s : ByteArray) : Lab := ⟨((rI s).1 : Int), ((rU s).1 : Int), (rN s).1, (rT s).1, (rdK m (rC s).2.1 (rC s).2.2 (rC s).1).1⟩
def rE (m : Int) (s : ByteArray) : Int := (rdK m (rC s).2.1 (rC s).2.2 (rC s).1).2.2
theorem RCnt_bd (s : ByteArray) (e most : Int) (h0 : 0 ≤ most) : ((RCnt s e most).1 : Int) ≤ most := by
  unfold RCnt
  split
  · exact h0
  · split
    · exact h0
    · rename_i h; show ((RNum s e).1 : Int) ≤ most; omega
theorem rdK_next {m : Int} {s s1 s2 s3 : ByteArray} {e e1 e2 e3 : Int} {k a b : Nat} {L : List (Int × Int)} (h : rdK m s e k = (L, s1, e1)) (h1 : RCnt s1 e1 m = (a, s2, e2)) (h2 : RCnt s2 e2 128 = (b, s3, e3)) :
    rdK m s e (k + 1) = (L ++ [((a : Int), (b : Int))], s3, e3) := by simp only [rdK, h, h1, h2]
theorem rdK_ok (s : ByteArray) (e : Int) (k : Nat) : ∀ r ∈ (rdK 128 s e k).1, okRun r := by
  induction k with
  | zero => intro r hr; cases hr
  | succ k ih =>
    intro r hr
    rcases List.mem_append.1 hr with hr | hr
    · exact ih r hr
    · rw [List.mem_singleton.1 hr]
      have h1 := RCnt_bd (rdK 128 s e k).2.1 (rdK 128 s e k).2.2 128 (by omega)
      have h2 := RCnt_bd (RCnt (rdK 128 s e k).2.1 (rdK 128 s e k).2.2 128).2.1 (RCnt (rdK 128 s e k).2.1 (rdK 128 s e k).2.2 128).2.2 128 (by omega)
      exact ⟨by show -9223372036854775808 ≤ ((_ : Nat) : Int); omega, by show ((_ : Nat) : Int) ≤ 9223372036854775807; omega, by show -9223372036854775808 ≤ ((_ : Nat) : Int); omega, by show ((_ : Nat) : Int) ≤ 9223372036854775807; omega⟩
def decP (s : ByteArray) (t : Int) : Lab × Int :=
  if okT t = false ∨ s.size ≠ 1024 then (labZ, 11) else if s = padS 1024 ⟨#[]⟩ then (labZ, 0)
  else if validL (rL 128 s) t = true ∧ encS (rL 128 s) t = s then (rL 128 s, 0) else (labZ, 11)
def DecR (w : World) (d : Lab × Int) (e : Ending) (w' : World) : Prop := ∃ A c, e = .returned (.tuple #[.agg #[.int .i64 d.1.id, .int .i64 d.1.unit, .string d.1.name, .string d.1.note, .slice A d.1.ext.length c], .int .i64 d.2]) ∧ LabAt w' A c d.1 ∧ Grew w w' ∧ ∀ b off, A = some ⟨b, off, none⟩ → w.heap.size ≤ b
theorem decZ (w w' : World) (n : Int) (h : Grew w w') : DecR w (labZ, n) (.returned (.tuple #[.agg #[.int .i64 0, .int .i64 0, .string ⟨#[]⟩, .string ⟨#[]⟩, .slice none 0 0], .int .i64 n])) w' := ⟨none, 0, rfl, LabAt.zero _, h, fun b off e => by cases e⟩
theorem str_ne {a b : ByteArray} (h : ¬ a = b) : (a.toList == b.toList) = false := beq_eq_false_iff_ne.2 (fun e => h (bytes_eq (by simpa [ByteArray.toList_eq] using e)))
theorem RTxt_sz (s : ByteArray) (e most : Int) : (RTxt s e most).1.size ≤ s.size := by
  unfold RTxt
  split
  · exact Nat.zero_le _
  · split
    · exact Nat.zero_le _
    · simp only [ByteArray.size_extract]
      have := RCnt_size s e most
      omega
set_option maxRecDepth 100000 in
set_option maxHeartbeats 4000000 in
theorem decode_lab (s : ByteArray) (t : Int) (w : World) (hs : s.size ≤ 9223372036854775807) (t0 : -9223372036854775808 ≤ t) (t1 : t ≤ 9223372036854775807) :
    Calls Tryz.prog 76 #[.string s, .int .i64 t] w (DecR w (decP s t)) := by
  have g0 := (Grew.refl w).alloc (.cells #[.int .i64 0, .int .i64 0, .string ⟨#[]⟩, .string ⟨#[]⟩, .slice none 0 0] 31)
  have HG0 := Lib.hid g0
  have HB0 := Lib.hid (Blk.new w 31 #[.int .i64 0, .int .i64 0, .string ⟨#[]⟩, .string ⟨#[]⟩, .slice none 0 0] rfl)
  clear g0
  cases ho : okT t with
  | false =>
    have HO := Lib.hid ho
    have HE := Lib.hid (show decP s t = (labZ, 11) from by unfold decP; rw [if_pos (.inl ho)])
    clear ho
    go_enter Tryz.func76, Tryz.ntmps76
    go_wp2_with fail
    refine (tracksOK_any _ _).mono ?_
    rintro e w1 ⟨rfl, rfl⟩
    rw [HO.out]
    go_wp2_with fail
    refine bodyPost_ret (by first | (simp [*, results, Tryz.results76, go_sem]; rfl) | simp [*, results, Tryz.results76, go_sem]) rfl ?_
    rw [HE.out]
    exact decZ _ _ _ (by (repeat' first | (with_reducible exact Grew.refl _) | (with_reducible assumption) | (with_reducible refine Grew.alloc ?_ _) | (with_reducible refine Grew.drew ?_) | (with_reducible refine Grew.drewN ?_ _) | (with_reducible refine Grew.setRow ?_ (by first | (simp; done) | (simp; omega) | omega) _) | (with_reducible refine Grew.setCell ?_ (by first | (simp; done) | (simp; omega) | omega) _) | ((with_reducible apply Grew.trans); rotate_left; (with_reducible assumption)) | ((with_reducible apply Grew.turn); rotate_left; (with_reducible assumption); (focus (intro i hi; first | omega | (simp at hi; omega)))) | fail))
  | true =>
    have HO := Lib.hid ho
    by_cases hz : s.size = 1024
    rotate_left
    · have hzi : ((s.size : Int) != 1024) = true := by rw [bne_iff_ne]; omega
      have HE := Lib.hid (show decP s t = (labZ, 11) from by unfold decP; rw [if_pos (.inr hz)])
      clear ho hz
      go_enter Tryz.func76, Tryz.ntmps76
      go_wp2_with fail
      refine (tracksOK_any _ _).mono ?_
      rintro e w1 ⟨rfl, rfl⟩
      rw [HO.out]
      go_wp2_with fail
      refine bodyPost_ret (by first | (simp [*, results, Tryz.results76, go_sem]; rfl) | simp [*, results, Tryz.results76, go_sem]) rfl ?_
      rw [HE.out]
      exact decZ _ _ _ (by (repeat' first | (with_reducible exact Grew.refl _) | (with_reducible assumption) | (with_reducible refine Grew.alloc ?_ _) | (with_reducible refine Grew.drew ?_) | (with_reducible refine Grew.drewN ?_ _) | (with_reducible refine Grew.setRow ?_ (by first | (simp; done) | (simp; omega) | omega) _) | (with_reducible refine Grew.setCell ?_ (by first | (simp; done) | (simp; omega) | omega) _) | ((with_reducible apply Grew.trans); rotate_left; (with_reducible assumption)) | ((with_reducible apply Grew.turn); rotate_left; (with_reducible assumption); (focus (intro i hi; first | omega | (simp at hi; omega)))) | fail))
    have hzi : ((s.size : Int) != 1024) = false := by rw [bne_eq_false_iff_eq]; omega
    have HSZ := Lib.hid hz
    have hsz1 : s.size ≤ 1024 := by omega
    obtain ⟨ZZ, hZZ⟩ : ∃ ZZ, padS 1024 ⟨#[]⟩ = ZZ := ⟨_, rfl⟩
    have HZZ := Lib.hid hZZ
    by_cases hs0 : s = ZZ
    · have HE := Lib.hid (show decP s t = (labZ, 0) from by unfold decP; rw [if_neg (by rw [ho]; simp [hz]), if_pos (by rw [hZZ]; exact hs0)])
      have HFI := fun w => Lib.hid (fill_any ⟨#[]⟩ w (by decide))
      rw [hZZ, ← hs0] at HFI
      clear ho hz hZZ hs0
      go_enter Tryz.func76, Tryz.ntmps76
      go_wp2_with fail
      refine (tracksOK_any _ _).mono ?_
      rintro e w1 ⟨rfl, rfl⟩
      rw [HO.out]
      go_wp2_with fail
      refine (HFI _).out.mono ?_
      rintro e w2 ⟨rfl, g2⟩
      have hb2 := HB0.out.grew g2
      have z0 := hb2.cell 0
      have f0 := hb2.frozen 0
      have z1 := hb2.cell 1
      have f1 := hb2.frozen 1
      have z2 := hb2.cell 2
      have f2 := hb2.frozen 2
      have z3 := hb2.cell 3
      have f3 := hb2.frozen 3
      have z4 := hb2.cell 4
      have f4 := hb2.frozen 4
      have hlb := hb2.lt
      go_wp2_with fail
      refine bodyPost_ret (by first | (simp [*, results, Tryz.results76, go_sem]; rfl) | simp [*, results, Tryz.results76, go_sem]) rfl ?_
      rw [HE.out]
      exact decZ _ _ _ (by (repeat' first | (with_reducible exact Grew.refl _) | (with_reducible assumption) | (with_reducible refine Grew.alloc ?_ _) | (with_reducible refine Grew.drew ?_) | (with_reducible refine Grew.drewN ?_ _) | (with_reducible refine Grew.setRow ?_ (by first | (simp; done) | (simp; omega) | omega) _) | (with_reducible refine Grew.setCell ?_ (by first | (simp; done) | (simp; omega) | omega) _) | ((with_reducible apply Grew.trans); rotate_left; (with_reducible assumption)) | ((with_reducible apply Grew.turn); rotate_left; (with_reducible assumption); (focus (intro i hi; first | omega | (simp at hi; omega)))) | fail))
    have hne := str_ne hs0
    have HFI := fun w => Lib.hid (fill_any ⟨#[]⟩ w (by decide))
    rw [hZZ] at HFI
    have HEE := Lib.hid (show decP s t = if validL (rL 128 s) t = true ∧ encS (rL 128 s) t = s then (rL 128 s, 0) else (labZ, 11) from by
      unfold decP; rw [if_neg (by rw [ho]; simp [hz]), if_neg (by rw [hZZ]; exact hs0)])
    clear ho hz hZZ hs0
    go_enter Tryz.func76, Tryz.ntmps76
    go_wp2_with fail
    refine (tracksOK_any _ _).mono ?_
    rintro e w1 ⟨rfl, rfl⟩
    rw [HO.out]
    go_wp2_with fail
    refine (HFI _).out.mono ?_
    rintro e w2 ⟨rfl, g2⟩
    go_wp2_with fail
    refine (newReader_any s _).mono ?_
    rintro e w3 ⟨g, rfl, hgg, g3, hr3⟩
    have hG := g2.trans g3
    have hgl : w.heap.size + 1 ≤ g := by have := g2.size; simp at this; omega
    have hI := RCnt_bd s 0 1099511627776 (by omega)
    have hIs := RCnt_size s 0 1099511627776
    clear g2 g3 hgg hI hIs
    obtain ⟨w0, hw0⟩ : ∃ w0, w0 = (w.alloc (.cells #[.int .i64 0, .int .i64 0, .string ⟨#[]⟩, .string ⟨#[]⟩, .slice none 0 0] 31)) := ⟨_, rfl⟩
    have hw0s : w0.heap.size = w.heap.size + 1 := by rw [hw0]; simp
    rw [← hw0] at hG HG0 HB0
    clear hw0
    obtain ⟨⟨i1, s1, e1⟩, hX1⟩ : ∃ X, RCnt s 0 1099511627776 = X := ⟨_, rfl⟩
    have HX1 := Lib.hid hX1
    have zz := RCnt_size s 0 1099511627776
    rw [hX1] at zz
    have zs1 : s1.size ≤ 1024 := Nat.le_trans zz (by omega)
    have C := rcount_any g s 0 1099511627776 w3 hr3 (by omega) (by omega) (by omega)
    rw [hX1] at C
    have bi1 := RCnt_bd s 0 1099511627776 (by omega)
    rw [hX1] at bi1
    have bi1 : (i1 : Int) ≤ 1099511627776 := bi1
    clear hX1 zz
    go_wp2_with fail
    refine C.mono ?_
    rintro e w4 ⟨rfl, t1, hr1⟩
    replace hG := hG.turn t1 (fun _ hk => by omega)
    have hgs1 := t1.size
    clear C t1 hr3
    obtain ⟨⟨u1, s2, e2⟩, hX2⟩ : ∃ X, RCnt s1 e1 1099511627776 = X := ⟨_, rfl⟩
    have HX2 := Lib.hid hX2
    have zz := RCnt_size s1 e1 1099511627776
    rw [hX2] at zz
    have zs2 : s2.size ≤ 1024 := Nat.le_trans zz (by omega)
    have C := rcount_any g s1 e1 1099511627776 w4 hr1 (by omega) (by omega) (by omega)
    rw [hX2] at C
    have bu1 := RCnt_bd s1 e1 1099511627776 (by omega)
    rw [hX2] at bu1
    have bu1 : (u1 : Int) ≤ 1099511627776 := bu1
    clear hX2 zz
    go_wp2_with fail
    refine C.mono ?_
    rintro e w5 ⟨rfl, t2, hr2⟩
    replace hG := hG.turn t2 (fun _ hk => by omega)
    have hgs2 := t2.size
    clear C t2 hr1
    obtain ⟨⟨n1, s3, e3⟩, hX3⟩ : ∃ X, RTxt s2 e2 31 = X := ⟨_, rfl⟩
    have HX3 := Lib.hid hX3
    have zz := RTxt_size s2 e2 31
    rw [hX3] at zz
    have zs3 : s3.size ≤ 1024 := Nat.le_trans zz (by omega)
    have C := rtext_any g s2 e2 31 w5 hr2 (by omega) (by omega) (by omega)
    rw [hX3] at C
    have bn1 := RTxt_sz s2 e2 31
    rw [hX3] at bn1
    have bn1 : n1.size ≤ 1024 := Nat.le_trans bn1 (by omega)
    clear hX3 zz
    go_wp2_with fail
    refine C.mono ?_
    rintro e w6 ⟨rfl, t3, hr3⟩
    replace hG := hG.turn t3 (fun _ hk => by omega)
    have hgs3 := t3.size
    clear C t3 hr2
    obtain ⟨⟨o1, s4, e4⟩, hX4⟩ : ∃ X, RTxt s3 e3 400 = X := ⟨_, rfl⟩
    have HX4 := Lib.hid hX4
    have zz := RTxt_size s3 e3 400
    rw [hX4] at zz
    have zs4 : s4.size ≤ 1024 := Nat.le_trans zz (by omega)
    have C := rtext_any g s3 e3 400 w6 hr3 (by omega) (by omega) (by omega)
    rw [hX4] at C
    have bo1 := RTxt_sz s3 e3 400
    rw [hX4] at bo1
    have bo1 : o1.size ≤ 1024 := Nat.le_trans bo1 (by omega)
    clear hX4 zz
    go_wp2_with fail
    refine C.mono ?_
    rintro e w7 ⟨rfl, t4, hr4⟩
    replace hG := hG.turn t4 (fun _ hk => by omega)
    have hgs4 := t4.size
    clear C t4 hr3
    have hgl7 := hr4.lt
    have HBL := Lib.hid (Blk.new w7 31 #[.int .i64 (i1 : Int), .int .i64 (u1 : Int), .string n1, .string o1, .slice none 0 0] rfl)
    have hr4a := hr4.alloc (.cells #[.int .i64 (i1 : Int), .int .i64 (u1 : Int), .string n1, .string o1, .slice none 0 0] 31)
    have hGa := hG.alloc (.cells #[.int .i64 (i1 : Int), .int .i64 (u1 : Int), .string n1, .string o1, .slice none 0 0] 31)
    obtain ⟨w8, hw8⟩ : ∃ w8, w8 = w7.alloc (.cells #[.int .i64 (i1 : Int), .int .i64 (u1 : Int), .string n1, .string o1, .slice none 0 0] 31) := ⟨_, rfl⟩
    have hw8s : w8.heap.size = w7.heap.size + 1 := by rw [hw8]; simp
    rw [← hw8] at hr4a hGa HBL
    clear hr4 hG
    go_wp2_with fail
    rw [← hw8]
    clear hw8
    obtain ⟨⟨c5, s5, e5⟩, hX5⟩ : ∃ X, RCnt s4 e4 16 = X := ⟨_, rfl⟩
    have HX5 := Lib.hid hX5
    have zz := RCnt_size s4 e4 16
    rw [hX5] at zz
    have zs5 : s5.size ≤ 1024 := Nat.le_trans zz (by omega)
    have C := rcount_any g s4 e4 16 w8 hr4a (by omega) (by omega) (by omega)
    rw [hX5] at C
    have bc5 := RCnt_bd s4 e4 16 (by omega)
    rw [hX5] at bc5
    have bc5 : (c5 : Int) ≤ 16 := bc5
    clear hX5 zz
    refine C.mono ?_
    rintro e w9 ⟨rfl, t5, hr5⟩
    have hGb := hGa.turn t5 (fun _ hk => by omega)
    have hw9 := t5.size
    have HBM := HBL.out.turned t5 (by omega)
    have HLL := Lib.hid (show ∀ L s6 e6, rdK 128 s5 e5 c5 = (L, s6, e6) → rL 128 s = ⟨(i1 : Int), (u1 : Int), n1, o1, L⟩ from by
      intro L s6 e6 h6
      have q1 : rI s = (i1, s1, e1) := HX1.out
      have q2 : rU s = (u1, s2, e2) := by unfold rU; rw [q1]; exact HX2.out
      have q3 : rN s = (n1, s3, e3) := by unfold rN; rw [q2]; exact HX3.out
      have q4 : rT s = (o1, s4, e4) := by unfold rT; rw [q3]; exact HX4.out
      have q5 : rC s = (c5, s5, e5) := by unfold rC; rw [q4]; exact HX5.out
      unfold rL
      rw [q1, q2, q3, q4, q5]
      simp only [h6])
    clear hr4a hGa C t5 HX1 HX2 HX3 HX4 HX5 HBL hgs1 hgs2 hgs3 hgs4
    go_wp2_with fail
    go_loopg [34] c5 (fun gk i wr => ∃ (k : Nat) (v : Value) (L : List (Int × Int)) (sk : ByteArray) (ek : Int), k ≤ c5 ∧ gk = c5 - k ∧ i = .int .i64 k ∧ rdK 128 s5 e5 k = (L, sk, ek) ∧ OwnL wr (w7.heap.size + 1) 65 2 v (L.map runC) ∧ Blk wr w7.heap.size 31 #[.int .i64 (i1 : Int), .int .i64 (u1 : Int), .string n1, .string o1, v] ∧ Rd wr g sk ek ∧ Grew w0 wr)
    case atStart => exact ⟨0, .slice none 0 0, [], s5, e5, by omega, by omega, rfl, rfl, OwnL.nil _ _ _ _, HBM, hr5, hGb⟩
    clear HBM hr5 hGb hw9
    case round =>
      obtain ⟨k, v, L, sk, ek, hk, hgk, rfl, hrk, hown, hbl, hrd, hgw⟩ := hrel
      have HGK := Lib.hid hgk
      have HRK := Lib.hid hrk
      have hln : L.length = k := by have := rdK_len 128 s5 e5 k; rw [hrk] at this; exact this
      have hsk : sk.size ≤ 1024 := by have := rdK_size 128 s5 e5 k; rw [hrk] at this; exact Nat.le_trans this zs5
      have HOK := Lib.hid (show ∀ r ∈ L, okRun r from by have := rdK_ok s5 e5 k; rw [hrk] at this; exact this)
      obtain ⟨A, cv, hv, hlc, hcc, hla0⟩ := hown.listAt
      have HLA0 := Lib.hid hla0
      clear hla0
      rw [List.length_map, hln] at hv hlc
      subst hv
      clear hgk hrk
      by_cases hlt : k < c5
      · obtain ⟨⟨a1, sa, ea⟩, hXA⟩ : ∃ X, RCnt sk ek 128 = X := ⟨_, rfl⟩
        obtain ⟨⟨b1, sb, eb⟩, hXB⟩ : ∃ X, RCnt sa ea 128 = X := ⟨_, rfl⟩
        have HNX := Lib.hid (rdK_next HRK.out hXA hXB)
        have zz := RCnt_size sk ek 128
        rw [hXA] at zz
        have zsa : sa.size ≤ 1024 := Nat.le_trans zz (by omega)
        have CA := fun w h => rcount_any g sk ek 128 w h (by omega) (by omega) (by omega)
        rw [hXA] at CA
        have CB := fun w h => rcount_any g sa ea 128 w h (by omega) (by omega) (by omega)
        rw [hXB] at CB
        have ba1 := RCnt_bd sk ek 128 (by omega)
        rw [hXA] at ba1
        have ba1 : (a1 : Int) ≤ 128 := ba1
        have bb1 := RCnt_bd sa ea 128 (by omega)
        rw [hXB] at bb1
        have bb1 : (b1 : Int) ≤ 128 := bb1
        clear hXA hXB zz
        have HO := Lib.hid hown
        have HL := Lib.hid hbl
        have hlw := hbl.lt
        clear hown hbl
        go_wp2_with fail
        refine wp_region_R [10] (fun w' : World => w'.cell? ⟨w7.heap.size, 4, none⟩ = some (.slice A k cv)) (by kernel_rfl) ?_
        have hS := (show (fun w' : World => w'.cell? ⟨w7.heap.size, 4, none⟩ = some (.slice A k cv)) _ from HL.out.drew.cell 4)
        refine wpAnyR_takeQ (i := 0) (v := ?_) (some 36) rfl rfl (by kernel_rfl) (by kernel_rfl) (by kernel_rfl) (by kernel_rfl) (fun _ _ _ h => h) (Or.inl ⟨by rfl, ?_⟩) ?_
        rotate_left
        focus (intro wS hSw; (try dsimp only at hSw); go_simp; (try with_reducible rfl); (try (first | (rw [if_pos (by omega)]; (try go_simp); (try with_reducible rfl)) | (rw [if_neg (by omega)]; (try go_simp); (try with_reducible rfl)))))
        try simp only [Act.put, zA, zB, zC]
        refine wpAnyR_take (i := 1) (v := ?_) [8, 9, 10] (some 37) rfl rfl (by kernel_rfl) (by kernel_rfl) (by kernel_rfl) (by kernel_rfl) (by kernel_rfl) (by kernel_rfl) (by kernel_rfl) (fun _ _ _ h => h) (Or.inl ⟨by rfl, ?_⟩) hS ?_
        rotate_left
        focus (intro wS hSw; (try dsimp only at hSw); go_simp; (try with_reducible rfl); (try (first | (rw [if_pos (by omega)]; (try go_simp); (try with_reducible rfl)) | (rw [if_neg (by omega)]; (try go_simp); (try with_reducible rfl)))))
        try simp only [Act.put, zA, zB, zC]
        refine wpAnyR_takeQ (i := 2) (v := ?_) (some 38) rfl rfl (by kernel_rfl) (by kernel_rfl) (by kernel_rfl) (by kernel_rfl) (fun _ _ _ h => h) (Or.inl ⟨by rfl, ?_⟩) ?_
        rotate_left
        focus (intro wS hSw; (try dsimp only at hSw); go_simp; (try with_reducible rfl); (try (first | (rw [if_pos (by omega)]; (try go_simp); (try with_reducible rfl)) | (rw [if_neg (by omega)]; (try go_simp); (try with_reducible rfl)))))
        try simp only [Act.put, zA, zB, zC]
        refine wpAnyR_takeQ (i := 4) (v := ?_) (some 40) rfl rfl (by kernel_rfl) (by kernel_rfl) (by kernel_rfl) (by kernel_rfl) (fun _ _ _ h => h) (Or.inl ⟨by rfl, ?_⟩) ?_
        rotate_left
        focus (intro wS hSw; (try dsimp only at hSw); go_simp; (try with_reducible rfl); (try (first | (rw [if_pos (by omega)]; (try go_simp); (try with_reducible rfl)) | (rw [if_neg (by omega)]; (try go_simp); (try with_reducible rfl)))))
        try simp only [Act.put, zA, zB, zC]
        refine wpAnyR_n1 (i := 3) rfl (by kernel_rfl) ?_
        intro K' hK
        rw [if_pos (by rfl)]
        simp only [List.getElem_toArray, List.getElem_cons_succ, List.getElem_cons_zero]
        go_wp2_with fail
        refine (CA _ hrd.drew).mono ?_
        rintro e wa ⟨rfl, ta, hra⟩
        have ga := (hgw.drew).turn ta (fun _ hk => by omega)
        have hla := (HL.out.drew).turned ta (by omega)
        have hoa := (HO.out.drew).kept ta (fun q hq hqg => by have := (HO.out.own_ge hq).1; omega)
        have hsa : wr.heap.size ≤ wa.heap.size := ta.size
        go_wp2_with fail
        refine hK.out _ _ (.inr (fun _ => hla.cell 4)) ?_
        clear hK hS ta
        refine wpAnyR_n1 (i := 5) rfl (by kernel_rfl) ?_
        intro K' hK
        rw [if_pos (by rfl)]
        simp only [List.getElem_toArray, List.getElem_cons_succ, List.getElem_cons_zero]
        go_wp2_with fail
        refine (CB _ hra).mono ?_
        rintro e wb ⟨rfl, tb, hrb⟩
        have gb := ga.turn tb (fun _ hk => by omega)
        have hlb := hla.turned tb (by omega)
        have hob := hoa.kept tb (fun q hq hqg => by have := (hoa.own_ge hq).1; omega)
        have hsb : wa.heap.size ≤ wb.heap.size := tb.size
        go_wp2_with fail
        refine hK.out _ _ (.inr (fun _ => hlb.cell 4)) ?_
        clear hK tb
        refine wpAnyR_takeQ (i := 6) (v := ?_) (some 42) rfl rfl (by kernel_rfl) (by kernel_rfl) (by kernel_rfl) (by kernel_rfl) (fun _ _ _ h => h) (Or.inl ⟨by rfl, ?_⟩) ?_
        rotate_left
        focus (intro wS hSw; (try dsimp only at hSw); go_simp; (try with_reducible rfl); (try (first | (rw [if_pos (by omega)]; (try go_simp); (try with_reducible rfl)) | (rw [if_neg (by omega)]; (try go_simp); (try with_reducible rfl)))))
        try simp only [Act.put, zA, zB, zC]
        refine wpAnyR_n1 (i := 7) rfl (by kernel_rfl) ?_
        intro K' hK
        rw [if_pos (by rfl)]
        simp only [List.getElem_toArray, List.getElem_cons_succ, List.getElem_cons_zero]
        go_wp2_with fail
        have gc := gb.alloc (.cells #[.int .i64 (a1 : Int), .int .i64 (b1 : Int)] 65)
        have hbc := Blk.new wb 65 #[.int .i64 (a1 : Int), .int .i64 (b1 : Int)] rfl
        have hlc' := hlb.alloc (.cells #[.int .i64 (a1 : Int), .int .i64 (b1 : Int)] 65)
        have hoc := hob.alloc (.cells #[.int .i64 (a1 : Int), .int .i64 (b1 : Int)] 65)
        have hrc := hrb.alloc (.cells #[.int .i64 (a1 : Int), .int .i64 (b1 : Int)] 65)
        refine hK.out _ _ (.inr (fun _ => hlc'.cell 4)) ?_
        clear hK
        refine wpAnyR_n1 (i := 8) rfl (by kernel_rfl) ?_
        intro K' hK
        rw [if_pos (by rfl)]
        simp only [List.getElem_toArray, List.getElem_cons_succ, List.getElem_cons_zero]
        refine wp_push (.tmp 37) (.tmp 43) 29 rfl (w7.heap.size + 1) 65 2 16 _ Tryz.underlying29 info_run rfl (by decide) _ _ (L.map runC) (runC ((a1 : Int), (b1 : Int))) rfl rfl hoc _ rfl hbc rfl (by rw [List.length_map]; omega) (by rw [List.length_map]; omega) (by simp; omega) k (by rw [List.length_map, hln]) ?_
        intro g6 c6 w6' hown6 hgr6 hat6 hlt6
        have g6' : Grew w0 w6' := Grew.own gc hgr6 (fun q hq => by have := (hoc.own_ge hq).1; omega) (Nat.le_refl _)
        have hl6 := hlc'.own hgr6 (fun hq => by have := (hoc.own_ge hq).1; omega)
        have hr6 := hrc.own hgr6 (fun hq => by have := (hoc.own_ge hq).1; omega)
        refine hK.out _ _ (.inr (fun _ => hl6.cell 4)) ?_
        have z4 := hl6.cell 4
        have f4 := hl6.frozen 4
        have HO6 := Lib.hid hown6
        clear hK hgr6 hat6 hown6
        refine wpAnyR_takeQ (i := 9) (v := ?_) (some 45) rfl rfl (by kernel_rfl) (by kernel_rfl) (by kernel_rfl) (by kernel_rfl) (fun _ _ _ h => h) (Or.inl ⟨by rfl, ?_⟩) ?_
        rotate_left
        focus (intro wS hSw; (try dsimp only at hSw); go_simp; (try with_reducible rfl); (try (first | (rw [if_pos (by omega)]; (try go_simp); (try with_reducible rfl)) | (rw [if_neg (by omega)]; (try go_simp); (try with_reducible rfl)))))
        try simp only [Act.put, zA, zB, zC]
        refine wpAnyR_n1 (i := 10) rfl (by kernel_rfl) ?_
        intro K' hK
        rw [if_pos (by rfl)]
        simp only [List.getElem_toArray, List.getElem_cons_succ, List.getElem_cons_zero]
        go_wp2_with fail
        refine hK.out _ _ (.inl rfl) ?_
        refine wpAnyR_done (by kernel_rfl) ?_ _
        have hl7 := hl6.set_ 4 (.slice (some ⟨g6, 0, none⟩) (k + 1) c6)
        have hr7 : Rd _ g sb eb := hr6.far (p := ⟨w7.heap.size, 4, none⟩) (by show g ≠ w7.heap.size; omega) (.slice (some ⟨g6, 0, none⟩) (k + 1) c6)
        have ho7 := HO6.out.far (p := ⟨w7.heap.size, 4, none⟩) (fun hq => by have : w7.heap.size + 1 ≤ w7.heap.size := (HO6.out.own_ge hq).1; omega) (.slice (some ⟨g6, 0, none⟩) (k + 1) c6)
        have g7 := g6'.setCell (p := ⟨w7.heap.size, 4, none⟩) (by show w0.heap.size ≤ w7.heap.size; omega) (.slice (some ⟨g6, 0, none⟩) (k + 1) c6)
        clear z4 f4 hK
        go_wp2_with fail
        go_roundg (c5 - (k + 1))
        case measure => rw [HGK.out]; omega
        case rel => exact ⟨k + 1, _, _, sb, eb, by omega, by omega, by go_num, HNX.out, by rw [List.map_append]; exact ho7, hl7, hr7, g7⟩
      · obtain rfl : k = c5 := by omega
        have HRL := Lib.hid (HLL.out _ _ _ HRK.out)
        subst hln
        have HLA := Lib.hid (show LabAt wr A cv ⟨(i1 : Int), (u1 : Int), n1, o1, L⟩ from ⟨by show -9223372036854775808 ≤ ((_ : Nat) : Int); omega, by show ((_ : Nat) : Int) ≤ 9223372036854775807; omega, by show -9223372036854775808 ≤ ((_ : Nat) : Int); omega, by show ((_ : Nat) : Int) ≤ 9223372036854775807; omega, by show n1.size ≤ _; omega, by show o1.size ≤ _; omega, ⟨HOK.out, HLA0.out⟩, hlc, hcc⟩)
        have hlw := hbl.lt
        have x0 := hbl.cell 0
        have x1 := hbl.cell 1
        have x2 := hbl.cell 2
        have x3 := hbl.cell 3
        have x4 := hbl.cell 4
        have HBL := Lib.hid hbl
        have HB1 := Lib.hid (HB0.out.grew hgw)
        have hGr := Lib.hid (HG0.out.trans hgw)
        have HOW := Lib.hid hown
        clear hbl hown hrd
        have CV := fun w h => valid_lab A cv ⟨(i1 : Int), (u1 : Int), n1, o1, L⟩ t w h (by show L.length ≤ 100000; omega)
        cases hvl : validL ⟨(i1 : Int), (u1 : Int), n1, o1, L⟩ t with
        | false =>
          have HE := Lib.hid (show decP s t = (labZ, 11) from by rw [HEE.out, HRL.out, hvl]; simp)
          rw [hvl] at CV
          clear hvl
          go_wp2_with fail
          refine (CV _ HLA.out).mono ?_
          rintro e wv ⟨rfl, gv⟩
          have hb2 := HB1.out.grew gv
          have z0 := hb2.cell 0
          have f0 := hb2.frozen 0
          have z1 := hb2.cell 1
          have f1 := hb2.frozen 1
          have z2 := hb2.cell 2
          have f2 := hb2.frozen 2
          have z3 := hb2.cell 3
          have f3 := hb2.frozen 3
          have z4 := hb2.cell 4
          have f4 := hb2.frozen 4
          have hlb := hb2.lt
          clear x0 x1 x2 x3 x4
          go_wp2_with fail
          refine bodyPost_ret (by first | (simp [*, results, Tryz.results76, go_sem]; rfl) | simp [*, results, Tryz.results76, go_sem]) rfl ?_
          rw [HE.out]
          have hgv := hGr.out.trans gv
          exact decZ _ _ _ (by (repeat' first | (with_reducible exact Grew.refl _) | (with_reducible assumption) | (with_reducible refine Grew.alloc ?_ _) | (with_reducible refine Grew.drew ?_) | (with_reducible refine Grew.drewN ?_ _) | (with_reducible refine Grew.setRow ?_ (by first | (simp; done) | (simp; omega) | omega) _) | (with_reducible refine Grew.setCell ?_ (by first | (simp; done) | (simp; omega) | omega) _) | ((with_reducible apply Grew.trans); rotate_left; (with_reducible assumption)) | ((with_reducible apply Grew.turn); rotate_left; (with_reducible assumption); (focus (intro i hi; first | omega | (simp at hi; omega)))) | fail))
        | true =>
          have CE := fun w h => encode_lab A cv ⟨(i1 : Int), (u1 : Int), n1, o1, L⟩ t w h (by show L.length ≤ 100000; omega) t0 t1
          rw [hvl] at CV
          obtain ⟨EE, hEE⟩ : ∃ EE, encS ⟨(i1 : Int), (u1 : Int), n1, o1, L⟩ t = EE := ⟨_, rfl⟩
          rw [hEE] at CE
          have HEQ := Lib.hid hEE
          by_cases hes : EE = s
          · have HE := Lib.hid (show decP s t = (⟨(i1 : Int), (u1 : Int), n1, o1, L⟩, 0) from by rw [HEE.out, HRL.out, hvl, HEQ.out, hes]; simp)
            rw [hes] at CE
            clear hvl hEE hes
            go_wp2_with fail
            refine (CV _ HLA.out).mono ?_
            rintro e wv ⟨rfl, gv⟩
            have HBV := Lib.hid (HBL.out.grew gv)
            have hlv := HBV.out.lt
            have y0 := HBV.out.cell 0
            have y1 := HBV.out.cell 1
            have y2 := HBV.out.cell 2
            have y3 := HBV.out.cell 3
            have y4 := HBV.out.cell 4
            clear x0 x1 x2 x3 x4 hlw
            go_wp2_with fail
            refine (CE _ (HLA.out.hold gv)).mono ?_
            rintro e we ⟨rfl, ge⟩
            have HBW := Lib.hid (HBV.out.grew ge)
            have hlx := HBW.out.lt
            have x0 := HBW.out.cell 0
            have x1 := HBW.out.cell 1
            have x2 := HBW.out.cell 2
            have x3 := HBW.out.cell 3
            have x4 := HBW.out.cell 4
            have hb2 := (HB1.out.grew gv).grew ge
            have z0 := hb2.cell 0
            have f0 := hb2.frozen 0
            have z1 := hb2.cell 1
            have f1 := hb2.frozen 1
            have z2 := hb2.cell 2
            have f2 := hb2.frozen 2
            have z3 := hb2.cell 3
            have f3 := hb2.frozen 3
            have z4 := hb2.cell 4
            have f4 := hb2.frozen 4
            have hlb := hb2.lt
            clear y0 y1 y2 y3 y4 hlv
            go_wp2_with fail
            refine bodyPost_ret (by first | (simp [*, results, Tryz.results76, go_sem]; rfl) | simp [*, results, Tryz.results76, go_sem]) rfl ?_
            rw [HE.out]
            have hgv := (hGr.out.trans gv).trans ge
            have hT := (((((((gv.trans ge).turned (fun q => q = w.heap.size)).setCell (p := ⟨w.heap.size, 0, none⟩) (fun _ => rfl) (.int .i64 (i1 : Int))).setCell (p := ⟨w.heap.size, 1, none⟩) (fun _ => rfl) (.int .i64 (u1 : Int))).setCell (p := ⟨w.heap.size, 2, none⟩) (fun _ => rfl) (.string n1)).setCell (p := ⟨w.heap.size, 3, none⟩) (fun _ => rfl) (.string o1)).setCell (p := ⟨w.heap.size, 4, none⟩) (fun _ => rfl) (.slice A L.length cv))
            have hk := HOW.out.kept hT (fun q hq hqg => by have : w7.heap.size + 1 ≤ q := (HOW.out.own_ge hq).1; omega)
            obtain ⟨A', c', hv', -, -, hl'⟩ := hk.listAt
            rw [List.length_map] at hv'
            simp only [Value.slice.injEq] at hv'
            obtain ⟨rfl, -, rfl⟩ := hv'
            exact ⟨A, cv, rfl, ⟨HLA.out.id0, HLA.out.id1, HLA.out.unit0, HLA.out.unit1, HLA.out.name, HLA.out.note, ⟨HOK.out, hl'⟩, HLA.out.len, HLA.out.cap⟩, by (repeat' first | (with_reducible exact Grew.refl _) | (with_reducible assumption) | (with_reducible refine Grew.alloc ?_ _) | (with_reducible refine Grew.drew ?_) | (with_reducible refine Grew.drewN ?_ _) | (with_reducible refine Grew.setRow ?_ (by first | (simp; done) | (simp; omega) | omega) _) | (with_reducible refine Grew.setCell ?_ (by first | (simp; done) | (simp; omega) | omega) _) | ((with_reducible apply Grew.trans); rotate_left; (with_reducible assumption)) | ((with_reducible apply Grew.turn); rotate_left; (with_reducible assumption); (focus (intro i hi; first | omega | (simp at hi; omega)))) | fail), fun b off e => by have : w7.heap.size + 1 ≤ b := (HOW.out.own_ge (g := b) (by rw [e]; rfl)).1; omega⟩
          · have HE := Lib.hid (show decP s t = (labZ, 11) from by rw [HEE.out, HRL.out, hvl, HEQ.out]; simp [hes])
            have hns := str_ne hes
            clear hvl hEE hes
            go_wp2_with fail
            refine (CV _ HLA.out).mono ?_
            rintro e wv ⟨rfl, gv⟩
            have HBV := Lib.hid (HBL.out.grew gv)
            have hlv := HBV.out.lt
            have y0 := HBV.out.cell 0
            have y1 := HBV.out.cell 1
            have y2 := HBV.out.cell 2
            have y3 := HBV.out.cell 3
            have y4 := HBV.out.cell 4
            clear x0 x1 x2 x3 x4 hlw
            go_wp2_with fail
            refine (CE _ (HLA.out.hold gv)).mono ?_
            rintro e we ⟨rfl, ge⟩
            have hb2 := (HB1.out.grew gv).grew ge
            have z0 := hb2.cell 0
            have f0 := hb2.frozen 0
            have z1 := hb2.cell 1
            have f1 := hb2.frozen 1
            have z2 := hb2.cell 2
            have f2 := hb2.frozen 2
            have z3 := hb2.cell 3
            have f3 := hb2.frozen 3
            have z4 := hb2.cell 4
            have f4 := hb2.frozen 4
            have hlb := hb2.lt
            clear y0 y1 y2 y3 y4 hlv
            go_wp2_with fail
            refine bodyPost_ret (by first | (simp [*, results, Tryz.results76, go_sem]; rfl) | simp [*, results, Tryz.results76, go_sem]) rfl ?_
            rw [HE.out]
            have hgv := (hGr.out.trans gv).trans ge
            exact decZ _ _ _ (by (repeat' first | (with_reducible exact Grew.refl _) | (with_reducible assumption) | (with_reducible refine Grew.alloc ?_ _) | (with_reducible refine Grew.drew ?_) | (with_reducible refine Grew.drewN ?_ _) | (with_reducible refine Grew.setRow ?_ (by first | (simp; done) | (simp; omega) | omega) _) | (with_reducible refine Grew.setCell ?_ (by first | (simp; done) | (simp; omega) | omega) _) | ((with_reducible apply Grew.trans); rotate_left; (with_reducible assumption)) | ((with_reducible apply Grew.turn); rotate_left; (with_reducible assumption); (focus (intro i hi; first | omega | (simp at hi; omega)))) | fail))
end Go.Proofs.YtnlaogneceanoaaGreat
namespace Go.Proofs.YtnlaogneceanoaaGreat
set_option linter.unusedVariables false
set_option linter.unusedSimpArgs false
set_option linter.unusedSectionVars false
open Go.RowKit
theorem rdK_runs (m : Int) (l : List (Int × Int)) (rest : List UInt8) (hm : m ≤ 1000000) (h : ∀ x ∈ l, 0 ≤ x.1 ∧ x.1 ≤ m ∧ 0 ≤ x.2 ∧ x.2 ≤ 128) :
    ∀ k, k ≤ l.length → rdK m ⟨(runsL l ++ rest).toArray⟩ 0 k = (l.take k, ⟨(runsL (l.drop k) ++ rest).toArray⟩, 0) := by
  intro k
  induction k with
  | zero => intro _; rfl
  | succ k ih =>
    intro hk
    have h0 := ih (by omega)
    obtain ⟨x0, x1, x2, x3⟩ := h l[k] (List.getElem_mem (by omega))
    rw [List.drop_eq_getElem_cons (by omega)] at h0
    have e1 : runsL (l[k] :: l.drop (k + 1)) ++ rest = enc (l[k].1).toNat ++ (enc (l[k].2).toNat ++ (runsL (l.drop (k + 1)) ++ rest)) := by
      show (enc _ ++ (enc _ ++ runsL _)) ++ rest = _
      simp only [List.append_assoc]
    rw [e1] at h0
    have h3 := rdK_next h0 (RCnt_app (l[k].1).toNat _ m (by omega) (by omega)) (RCnt_app (l[k].2).toNat _ 128 (by omega) (by omega))
    rw [h3, List.take_succ_eq_append_getElem (by omega)]
    congr 3
    rw [Int.toNat_of_nonneg x0, Int.toNat_of_nonneg x2]
theorem rL_all (m : Int) (l : Lab) (z : Nat) (hm : m ≤ 1000000) (hl : (1 ≤ l.id ∧ l.id ≤ 1099511627776 ∧ 0 ≤ l.unit ∧ l.unit ≤ 1099511627776) ∧ (l.name.size ≤ 31 ∧ l.note.size ≤ 400) ∧ (1 ≤ l.ext.length ∧ l.ext.length ≤ 16) ∧ jnB l = true)
    (h : ∀ x ∈ l.ext, 0 ≤ x.1 ∧ x.1 ≤ m ∧ 0 ≤ x.2 ∧ x.2 ≤ 128) (s : ByteArray) (hs : s = ⟨(allL l z).toArray⟩) : rL m s = l ∧ rE m s = 0 := by
  obtain ⟨⟨a1, a2, a3, a4⟩, ⟨a5, a6⟩, ⟨a7, a8⟩, _⟩ := hl
  obtain ⟨id, unit, name, note, ext⟩ := l
  simp only at *
  have n1 : name.data.toList.length = name.size := Array.length_toList
  have n2 : note.data.toList.length = note.size := Array.length_toList
  unfold allL at hs
  simp only at hs
  have q1 := (congrArg rI hs).trans (RCnt_app id.toNat _ 1099511627776 (by omega) (by omega))
  have q2 : rU s = RCnt (rI s).2.1 (rI s).2.2 1099511627776 := rfl
  rw [q1] at q2
  have q2 := q2.trans (RCnt_app unit.toNat _ 1099511627776 (by omega) (by omega))
  rw [← n1, ← n2] at q2
  have q3 : rN s = RTxt (rU s).2.1 (rU s).2.2 31 := rfl
  rw [q2] at q3
  have q3 := q3.trans (RTxt_app _ _ 31 (by omega) (by omega))
  have q4 : rT s = RTxt (rN s).2.1 (rN s).2.2 400 := rfl
  rw [q3] at q4
  have q4 := q4.trans (RTxt_app _ _ 400 (by omega) (by omega))
  have q5 : rC s = RCnt (rT s).2.1 (rT s).2.2 16 := rfl
  rw [q4] at q5
  have q5 := q5.trans (RCnt_app ext.length _ 16 (by omega) (by omega))
  have q6 := rdK_runs m ext (List.replicate z 0) hm h ext.length (Nat.le_refl _)
  rw [List.take_length] at q6
  refine ⟨?_, ?_⟩
  · unfold rL
    rw [q1, q2, q3, q4, q5]
    simp only [q6, data_eq]
    rw [Int.toNat_of_nonneg (by omega), Int.toNat_of_nonneg a3]
  · unfold rE
    rw [q5]
    simp only [q6]
theorem trip (m : Int) (l : Lab) (t : Int) (h : validL l t = true) (m0 : 127 ≤ m) (m1 : m ≤ 1000000) : rL m (encS l t) = l ∧ rE m (encS l t) = 0 := by
  have hf := valid_facts l t h
  obtain ⟨h1, h2, h3, h4⟩ := hf
  have ht := okT_true (show okT t = true from by unfold validL at h; revert h; cases okT t <;> simp)
  have hi : inB l t = true := by unfold validL at h; revert h; cases inB l t <;> simp
  have hb := jn_bd l h4
  have hr := rok_of l t h4 hi
  refine rL_all m l (1024 - (bodyE l ++ runsE l.ext).size) m1 ⟨h1, h2, h3, h4⟩ (fun x hx => ?_) _ (by rw [encS_valid l t h, ← pad_data, data_eq])
  obtain ⟨b0, b1, b2⟩ := hb x hx
  obtain ⟨r0, r1, r2, r3⟩ := hr x hx
  exact ⟨b0, by omega, b1, by omega⟩
/-- What the reference decodes. -/
def rdecP (s : ByteArray) (t : Int) : Lab × Int :=
  if s.size ≠ 1024 ∨ okT t = false then (labZ, 11) else if s = padS 1024 ⟨#[]⟩ then (labZ, 0)
  else if rE 127 s ≠ 0 ∨ encS (rL 127 s) t ≠ s then (labZ, 11) else (rL 127 s, 0)
theorem encS_full (l : Lab) (t : Int) (s : ByteArray) (hs : s.size = 1024) (hz : s ≠ padS 1024 ⟨#[]⟩) (h : encS l t = s) : validL l t = true := by
  unfold encS at h
  split at h
  · exact absurd h.symm hz
  · split at h
    · assumption
    · rw [← h] at hs; exact absurd hs (by decide)
theorem dec_same (s : ByteArray) (t : Int) : rdecP s t = decP s t := by
  unfold rdecP decP
  by_cases h0 : s.size ≠ 1024 ∨ okT t = false
  · rw [if_pos h0, if_pos h0.symm]
  · rw [if_neg h0, if_neg (show ¬ (okT t = false ∨ s.size ≠ 1024) from fun e => h0 e.symm)]
    by_cases hz : s = padS 1024 ⟨#[]⟩
    · rw [if_pos hz, if_pos hz]
    · rw [if_neg hz, if_neg hz]
      have hs : s.size = 1024 := Decidable.not_not.1 (fun e => h0 (.inl e))
      by_cases hp : validL (rL 128 s) t = true ∧ encS (rL 128 s) t = s
      · have ht := trip 127 (rL 128 s) t hp.1 (by omega) (by omega)
        rw [hp.2] at ht
        rw [if_pos hp, if_neg (by rw [ht.1, ht.2, hp.2]; simp), ht.1]
      · rw [if_neg hp]
        by_cases hr : rE 127 s ≠ 0 ∨ encS (rL 127 s) t ≠ s
        · rw [if_pos hr]
        · exfalso
          have he : encS (rL 127 s) t = s := Decidable.not_not.1 (fun e => hr (.inr e))
          have hv := encS_full _ _ _ hs hz he
          have ht := trip 128 (rL 127 s) t hv (by omega) (by omega)
          rw [he] at ht
          exact hp ⟨by rw [ht.1]; exact hv, by rw [ht.1]; exact he⟩
/-- A valid label is read again from its slot. -/
theorem dec_enc_lab (l : Lab) (t : Int) (h : validL l t = true) (hs : (encS l t).size = 1024) : decP (encS l t) t = (l, 0) := by
  have ht : okT t = true := by unfold validL at h; revert h; cases okT t <;> simp
  have hr := (trip 128 l t h (by omega) (by omega)).1
  have hz : encS l t ≠ padS 1024 ⟨#[]⟩ := by
    intro e
    have h1 := congrArg (fun s => (rI s).1) e
    have h2 : (rI (padS 1024 ⟨#[]⟩)).1 = 0 := by
      have := RCnt_app 0 (List.replicate 1023 0) 1099511627776 (by omega) (by omega)
      unfold rI
      have e2 : padS 1024 ⟨#[]⟩ = ⟨(enc 0 ++ List.replicate 1023 0).toArray⟩ := by
        apply bytes_eq
        have e4 : (padS 1024 ⟨#[]⟩).data.toList = List.replicate 1024 0 := by
          unfold padS zeros
          simp only [ByteArray.data_append, Array.toList_append, Array.toList_replicate]
          rfl
        rw [e4]
        have e3 : enc 0 = [0] := by decide
        rw [e3]
        exact List.replicate_succ (n := 1023)
      rw [e2, this]
    simp only [h2] at h1
    have h3 : ((rI (encS l t)).1 : Int) = l.id := congrArg Lab.id hr
    have h4 := (valid_facts l t h).1.1
    omega
  unfold decP
  rw [if_neg (by rw [ht, hs]; simp), if_neg hz, hr, if_pos ⟨h, rfl⟩]
/-- What is accepted is what Encode returns. -/
theorem dec_strict_lab (s : ByteArray) (t : Int) : ((decP s t).2 = 0 ∧ encS (decP s t).1 t = s) ∨ (decP s t = (labZ, 11)) := by
  unfold decP
  by_cases h0 : okT t = false ∨ s.size ≠ 1024
  · rw [if_pos h0]; exact .inr rfl
  · rw [if_neg h0]
    have ht : okT t = true := by cases h : okT t with | true => rfl | false => exact absurd (.inl h) h0
    by_cases hz : s = padS 1024 ⟨#[]⟩
    · rw [if_pos hz]
      left
      refine ⟨rfl, ?_⟩
      unfold encS
      rw [if_pos ⟨ht, (eqL_iff _ _).2 rfl⟩, hz]
    · rw [if_neg hz]
      by_cases hp : validL (rL 128 s) t = true ∧ encS (rL 128 s) t = s
      · rw [if_pos hp]; exact .inl ⟨rfl, hp.2⟩
      · rw [if_neg hp]; exact .inr rfl
theorem encS_size (l : Lab) (t : Int) (h : validL l t = true) : (encS l t).size = 1024 := by
  obtain ⟨⟨v1, v2, v3, v4⟩, ⟨v5, v6⟩, ⟨v7, v8⟩, _⟩ := valid_facts l t h
  rw [encS_valid l t h]
  refine padS_size _ _ ?_
  have h1 := bodyE_size l v5 v6
  have h2 := runsE_size l.ext
  rw [ByteArray.size_append]
  omega
end Go.Proofs.YtnlaogneceanoaaGreat
namespace Go.Proofs.YtnlaogneceanoaaGreat
set_option linter.unusedVariables false
set_option linter.unusedSimpArgs false
set_option linter.unusedSectionVars false
open Go.RowKit
attribute [local go_sem ↓] Go.wp_at_zero Go.wp_at_succ
def hdN (s : ByteArray) := RTxt s 0 8
def hdT (s : ByteArray) := RCnt (hdN s).2.1 (hdN s).2.2 128
def hdE (s : ByteArray) := headS (hdN s).1 ((hdT s).1 : Int)
def headP (s : ByteArray) : ByteArray × Int × Int := if hdE s = ⟨#[]⟩ ∨ hdE s ≠ s then (⟨#[]⟩, 0, 11) else ((hdN s).1, ((hdT s).1 : Int), 0)
def rheadP (s : ByteArray) : ByteArray × Int × Int := if (hdT s).2.2 ≠ 0 ∨ s.size ≠ 1024 ∨ hdE s ≠ s then (⟨#[]⟩, 0, 11) else ((hdN s).1, ((hdT s).1 : Int), 0)
theorem RCnt_err (s : ByteArray) (e m : Int) (h : (RCnt s e m).2.2 ≠ 0) : (RCnt s e m).1 = 0 := by
  unfold RCnt at h ⊢
  split
  · rfl
  · split
    · rfl
    · rename_i h1 h2
      rw [if_neg h1, if_neg h2] at h
      exact absurd h h1
theorem headS_facts (s : ByteArray) (t : Int) (h : headS s t ≠ ⟨#[]⟩) : nameOk s = true ∧ okT t = true ∧ (headS s t).size = 1024 := by
  unfold headS at h ⊢
  split at h
  · rename_i hc
    rw [if_pos hc]
    refine ⟨hc.1, hc.2, padS_size _ _ ?_⟩
    have hp : NameP s := of_decide_eq_true hc.1
    have := hp.2.1
    have z1 := eB_size s.size
    have z2 := eB_size t.toNat
    rw [ByteArray.size_append, ByteArray.size_append]
    omega
  · exact absurd rfl h
theorem head_same (s : ByteArray) : rheadP s = headP s := by
  unfold rheadP headP
  by_cases h0 : hdE s = ⟨#[]⟩
  · rw [if_pos (show hdE s = ⟨#[]⟩ ∨ hdE s ≠ s from .inl h0), if_pos]
    by_cases h1 : s.size = 1024
    · refine .inr (.inr fun e => ?_)
      rw [h0] at e
      rw [← e] at h1
      exact absurd h1 (by decide)
    · exact .inr (.inl h1)
  · by_cases h1 : hdE s = s
    · obtain ⟨a1, a2, a3⟩ := headS_facts _ _ h0
      rw [if_neg (show ¬ (hdE s = ⟨#[]⟩ ∨ hdE s ≠ s) from fun h => h.elim h0 (fun h => h h1)), if_neg]
      rintro (h | h | h)
      · have := RCnt_err _ _ _ h
        have := okT_true a2
        have e : (hdT s).1 = 0 := RCnt_err _ _ _ h
        omega
      · exact h (by rw [← h1]; exact a3)
      · exact h h1
    · rw [if_pos (show hdE s = ⟨#[]⟩ ∨ hdE s ≠ s from .inr h1), if_pos (.inr (.inr h1))]
theorem head_strict (s : ByteArray) : headP s = (⟨#[]⟩, 0, 11) ∨ ∃ n t, headP s = (n, t, 0) ∧ headS n t = s ∧ nameOk n = true ∧ okT t = true ∧ n.size ≤ 8 ∧ 0 ≤ t ∧ t ≤ 128 := by
  unfold headP
  split
  · exact .inl rfl
  · rename_i h
    obtain ⟨h0, h1⟩ := not_or.1 h
    have h1 := Decidable.not_not.1 h1
    obtain ⟨a1, a2, a3⟩ := headS_facts _ _ h0
    have hp : NameP (hdN s).1 := of_decide_eq_true a1
    have := okT_true a2
    exact .inr ⟨_, _, rfl, h1, a1, a2, hp.2.1, by omega, by omega⟩
def HdR (w : World) (d : ByteArray × Int × Int) (e : Ending) (w' : World) : Prop := e = .returned (.tuple #[.string d.1, .int .i64 d.2.1, .int .i64 d.2.2]) ∧ Grew w w'
theorem hdErr (w w' : World) (h : Grew w w') : HdR w (⟨#[]⟩, 0, 11) (.returned (.tuple #[.string ⟨#[]⟩, .int .i64 0, .int .i64 11])) w' := ⟨rfl, h⟩
set_option maxRecDepth 100000 in
set_option maxHeartbeats 2000000 in
theorem decHead_any (s : ByteArray) (w : World) (hs : s.size ≤ 9223372036854775807) :
    Calls Tryz.prog 75 #[.string s] w (HdR w (headP s)) := by
  go_enter Tryz.func75, Tryz.ntmps75
  go_wp2_with fail
  refine (newReader_any s _).mono ?_
  rintro e w3 ⟨g, rfl, hgg, hG, hr3⟩
  have HP0 := Lib.hid (show headP s = if hdE s = ⟨#[]⟩ ∨ hdE s ≠ s then (⟨#[]⟩, 0, 11) else ((hdN s).1, ((hdT s).1 : Int), 0) from rfl)
  unfold hdE hdT hdN at HP0
  obtain ⟨⟨n1, s1, e1⟩, hX1⟩ : ∃ X, RTxt s 0 8 = X := ⟨_, rfl⟩
  rw [hX1] at HP0
  have HX1 := Lib.hid hX1
  have zz := RTxt_size s 0 8
  rw [hX1] at zz
  have zs1 : s1.size ≤ 9223372036854775807 := Nat.le_trans zz hs
  have C := rtext_any g s 0 8 w3 hr3 hs (by omega) (by omega)
  rw [hX1] at C
  have bn1 := RTxt_sz s 0 8
  rw [hX1] at bn1
  have bn1 : n1.size ≤ 9223372036854775807 := Nat.le_trans bn1 hs
  clear hX1 zz
  go_wp2_with fail
  refine C.mono ?_
  rintro e w4 ⟨rfl, t1, hr1⟩
  replace hG := hG.turn t1 (fun _ hk => by omega)
  clear C t1 hr3
  try simp only at HP0
  obtain ⟨⟨t2, s2, e2⟩, hX2⟩ : ∃ X, RCnt s1 e1 128 = X := ⟨_, rfl⟩
  rw [hX2] at HP0
  have C := rcount_any g s1 e1 128 w4 hr1 zs1 (by omega) (by omega)
  rw [hX2] at C
  have bt := RCnt_bd s1 e1 128 (by omega)
  rw [hX2] at bt
  have bt : (t2 : Int) ≤ 128 := bt
  clear hX2
  go_wp2_with fail
  refine C.mono ?_
  rintro e w5 ⟨rfl, t5, hr2⟩
  replace hG := hG.turn t5 (fun _ hk => by omega)
  clear C t5 hr1
  try simp only at HP0
  obtain ⟨E, hE⟩ : ∃ E, headS n1 (t2 : Int) = E := ⟨_, rfl⟩
  rw [hE] at HP0
  have C := encHead_any n1 (t2 : Int) w5 bn1
  rw [hE] at C
  clear hE
  by_cases h0 : E = ⟨#[]⟩
  · subst h0
    have HE := Lib.hid (show headP s = (⟨#[]⟩, 0, 11) from by rw [HP0.out, if_pos (.inl rfl)])
    clear HP0
    go_wp2_with fail
    refine C.mono ?_
    rintro e w6 ⟨rfl, g6⟩
    go_wp2_with fail
    refine bodyPost_ret (by first | (simp [*, results, Tryz.results75, go_sem]; rfl) | simp [*, results, Tryz.results75, go_sem]) rfl ?_
    rw [HE.out]
    exact hdErr _ _ (hG.trans g6)
  have hne0 := str_ne h0
  have hne1 : (E.toList == []) = false := by have := hne0; simpa using this
  by_cases h1 : E = s
  · have HE := Lib.hid (show headP s = (n1, (t2 : Int), 0) from by rw [HP0.out, if_neg (fun h => h.elim h0 (fun h => h h1))])
    clear HP0 h0
    subst h1
    go_wp2_with fail
    refine C.mono ?_
    rintro e w6 ⟨rfl, g6⟩
    go_wp2_with fail
    refine bodyPost_ret (by first | (simp [*, results, Tryz.results75, go_sem]; rfl) | simp [*, results, Tryz.results75, go_sem]) rfl ?_
    rw [HE.out]
    exact ⟨rfl, hG.trans g6⟩
  · have hne2 := str_ne h1
    have hne3 : (E.toList != s.toList) = true := by rw [bne, hne2]; rfl
    have HE := Lib.hid (show headP s = (⟨#[]⟩, 0, 11) from by rw [HP0.out, if_pos (.inr h1)])
    clear HP0 h0 h1
    go_wp2_with fail
    refine C.mono ?_
    rintro e w6 ⟨rfl, g6⟩
    go_wp2_with fail
    refine bodyPost_ret (by first | (simp [*, results, Tryz.results75, go_sem]; rfl) | simp [*, results, Tryz.results75, go_sem]) rfl ?_
    rw [HE.out]
    exact hdErr _ _ (hG.trans g6)
set_option maxRecDepth 100000 in
set_option maxHeartbeats 4000000 in
theorem rdecHead_any (s : ByteArray) (w : World) (hs : s.size ≤ 9223372036854775807) :
    Calls Tryz.prog 77 #[.string s] w (HdR w (rheadP s)) := by
  go_enter Tryz.func77, Tryz.ntmps77
  have hb6 : Blk (w.alloc (.cells #[.string s, .int .i64 0] 132)) w.heap.size 132 #[.string s, .int .i64 0] := Blk.new w _ _ rfl
  have hG := (Grew.refl w).alloc (.cells #[.string s, .int .i64 0] 132)
  have HP0 := Lib.hid (show rheadP s = if (hdT s).2.2 ≠ 0 ∨ s.size ≠ 1024 ∨ hdE s ≠ s then (⟨#[]⟩, 0, 11) else ((hdN s).1, ((hdT s).1 : Int), 0) from rfl)
  unfold hdE hdT hdN at HP0
  obtain ⟨⟨n1, s1, e1⟩, hX1⟩ : ∃ X, RTxt s 0 8 = X := ⟨_, rfl⟩
  rw [hX1] at HP0
  have zz := RTxt_size s 0 8
  rw [hX1] at zz
  have zs1 : s1.size ≤ 9223372036854775807 := Nat.le_trans zz hs
  have C := fun w => refReadText_any s 0 8 w hs (by omega) (by omega)
  rw [hX1] at C
  have bn1 := RTxt_sz s 0 8
  rw [hX1] at bn1
  have bn1 : n1.size ≤ 9223372036854775807 := Nat.le_trans bn1 hs
  clear hX1 zz
  go_wp2_with fail
  refine (C _).mono ?_
  rintro e w1 ⟨rfl, gq⟩
  replace hG := hG.trans gq
  replace hb6 := hb6.grew gq
  clear C gq
  have z0 := hb6.cell 0
  have z1 := hb6.cell 1
  have f0 := hb6.frozen 0
  have f1 := hb6.frozen 1
  have hlb := hb6.lt
  have hG' := (hG.setCell (p := ⟨w.heap.size, 0, none⟩) (by show w.heap.size ≤ w.heap.size; omega) (.string s1)).setCell (p := ⟨w.heap.size, 1, none⟩) (by show w.heap.size ≤ w.heap.size; omega) (.int .i64 e1)
  have hb6' := ((hb6.set_ 0 (.string s1)).set_ 1 (.int .i64 e1)).conv (ds := #[.string s1, .int .i64 e1]) rfl
  have hGs := hG'
  have hbs := hb6'
  clear hG' hb6' hG hb6
  have hG := hGs
  have hb6 := hbs
  clear hGs hbs
  try simp only at HP0
  obtain ⟨⟨t2, s2, e2⟩, hX2⟩ : ∃ X, RCnt s1 e1 128 = X := ⟨_, rfl⟩
  rw [hX2] at HP0
  have C := fun w => refReadCount_any s1 e1 128 w zs1 (by omega) (by omega)
  rw [hX2] at C
  have bt := RCnt_bd s1 e1 128 (by omega)
  rw [hX2] at bt
  have bt : (t2 : Int) ≤ 128 := bt
  clear hX2
  go_wp2_with fail
  refine (C _).mono ?_
  rintro e w2 ⟨rfl, gq⟩
  replace hG := hG.trans gq
  replace hb6 := hb6.grew gq
  clear C gq z0 z1 f0 f1 hlb
  have z0 := hb6.cell 0
  have z1 := hb6.cell 1
  have f0 := hb6.frozen 0
  have f1 := hb6.frozen 1
  have hlb := hb6.lt
  have hG' := (hG.setCell (p := ⟨w.heap.size, 0, none⟩) (by show w.heap.size ≤ w.heap.size; omega) (.string s2)).setCell (p := ⟨w.heap.size, 1, none⟩) (by show w.heap.size ≤ w.heap.size; omega) (.int .i64 e2)
  have hb6' := ((hb6.set_ 0 (.string s2)).set_ 1 (.int .i64 e2)).conv (ds := #[.string s2, .int .i64 e2]) rfl
  have hGs := hG'
  have hbs := hb6'
  clear hG' hb6' hG hb6
  have hG := hGs
  have hb6 := hbs
  clear hGs hbs
  try simp only at HP0
  obtain ⟨E, hE⟩ : ∃ E, headS n1 (t2 : Int) = E := ⟨_, rfl⟩
  rw [hE] at HP0
  have C := fun w => rencHead_any n1 (t2 : Int) w bn1
  rw [hE] at C
  clear hE
  have q1 := hb6.cell 1
  have q0 := hb6.cell 0
  have hlq := hb6.lt
  by_cases h0 : e2 = 0
  rotate_left
  · have hne : (e2 != 0) = true := by rw [bne_iff_ne]; exact h0
    have HE := Lib.hid (show rheadP s = (⟨#[]⟩, 0, 11) from by rw [HP0.out, if_pos (.inl h0)])
    clear HP0 h0
    go_wp2_with fail
    refine bodyPost_ret (by first | (simp [*, results, Tryz.results77, go_sem]; rfl) | simp [*, results, Tryz.results77, go_sem]) rfl ?_
    rw [HE.out]
    exact hdErr _ _ hG
  subst h0
  by_cases h1 : s.size = 1024
  rotate_left
  · have hne : ((s.size : Int) != 1024) = true := by rw [bne_iff_ne]; omega
    have HE := Lib.hid (show rheadP s = (⟨#[]⟩, 0, 11) from by rw [HP0.out, if_pos (.inr (.inl h1))])
    clear HP0 h1
    go_wp2_with fail
    refine bodyPost_ret (by first | (simp [*, results, Tryz.results77, go_sem]; rfl) | simp [*, results, Tryz.results77, go_sem]) rfl ?_
    rw [HE.out]
    exact hdErr _ _ hG
  have hne : ((s.size : Int) != 1024) = false := by rw [bne_eq_false_iff_eq]; omega
  by_cases h2 : E = s
  · have HE := Lib.hid (show rheadP s = (n1, (t2 : Int), 0) from by rw [HP0.out, if_neg (fun h => h.elim (fun h => h rfl) (fun h => h.elim (fun h => h h1) (fun h => h h2)))])
    clear HP0 h1
    subst h2
    go_wp2_with fail
    refine (C _).mono ?_
    rintro e w6 ⟨rfl, g6⟩
    go_wp2_with fail
    refine bodyPost_ret (by first | (simp [*, results, Tryz.results77, go_sem]; rfl) | simp [*, results, Tryz.results77, go_sem]) rfl ?_
    rw [HE.out]
    exact ⟨rfl, hG.trans g6⟩
  · have hne2 := str_ne h2
    have hne3 : (E.toList != s.toList) = true := by rw [bne, hne2]; rfl
    have HE := Lib.hid (show rheadP s = (⟨#[]⟩, 0, 11) from by rw [HP0.out, if_pos (.inr (.inr h2))])
    clear HP0 h1 h2
    go_wp2_with fail
    refine (C _).mono ?_
    rintro e w6 ⟨rfl, g6⟩
    go_wp2_with fail
    refine bodyPost_ret (by first | (simp [*, results, Tryz.results77, go_sem]; rfl) | simp [*, results, Tryz.results77, go_sem]) rfl ?_
    rw [HE.out]
    exact hdErr _ _ (hG.trans g6)
end Go.Proofs.YtnlaogneceanoaaGreat
namespace Go.Proofs.YtnlaogneceanoaaGreat
set_option linter.unusedVariables false
set_option linter.unusedSimpArgs false
set_option linter.unusedSectionVars false
open Go.RowKit
def bestStep (n : Int) (b r : Nat × Nat) : Nat × Nat := if n ≤ (r.2 : Int) ∧ (b.2 = 0 ∨ r.2 < b.2) then r else b
def bestF (n : Int) (l : List (Nat × Nat)) : Nat × Nat := l.foldl (bestStep n) (0, 0)
theorem bestF_snoc (n : Int) (l : List (Nat × Nat)) (k : Nat) (h : k < l.length) : bestF n (l.take (k + 1)) = bestStep n (bestF n (l.take k)) l[k] := by
  unfold bestF; rw [List.take_succ_eq_append_getElem h, List.foldl_append]; rfl
theorem fold_inv {n : Int} (P : Nat × Nat → Prop) : ∀ (l : List (Nat × Nat)) (b : Nat × Nat), P b → (∀ r ∈ l, n ≤ (r.2 : Int) → P r) → P (l.foldl (bestStep n) b) := by
  intro l
  induction l with
  | nil => intro b hb _; exact hb
  | cons r l ih =>
    intro b hb h
    refine ih _ ?_ (fun x hx => h x (List.mem_cons_of_mem _ hx))
    unfold bestStep
    split
    · rename_i hc; exact h r (List.mem_cons_self ..) hc.1
    · exact hb
theorem bestF_inv {n : Int} (P : Nat × Nat → Prop) (l : List (Nat × Nat)) (h0 : P (0, 0)) (h : ∀ r ∈ l, n ≤ (r.2 : Int) → P r) : P (bestF n l) := fold_inv P l _ h0 h
theorem bestF_bd (n : Int) (l : List (Nat × Nat)) (m : Nat) (h : ∀ r ∈ l, r.1 + r.2 ≤ m) : (bestF n l).1 + (bestF n l).2 ≤ m :=
  bestF_inv (fun b => b.1 + b.2 ≤ m) l (Nat.zero_le _) (fun r hr _ => h r hr)
theorem bestF_mem (n : Int) (l : List (Nat × Nat)) : bestF n l = (0, 0) ∨ bestF n l ∈ l ∧ n ≤ ((bestF n l).2 : Int) :=
  bestF_inv (fun b => b = (0, 0) ∨ b ∈ l ∧ n ≤ (b.2 : Int)) l (.inl rfl) (fun r hr h => .inr ⟨hr, h⟩)
/-- The first tracks of the best run of a set. -/
def bestS (S : Nat → Bool) (n : Int) : (Int × Int) × Bool :=
  if n < 1 ∨ (bestF n (normS S)).2 = 0 then ((0, 0), false) else ((((bestF n (normS S)).1 : Int), n), true)
def cntL (l : List (Nat × Nat)) : Nat := (l.map (·.2)).sum
theorem cntL_append (a b : List (Nat × Nat)) : cntL (a ++ b) = cntL a + cntL b := by simp [cntL]
theorem cntL_one (x : Nat × Nat) : cntL [x] = x.2 := by simp [cntL]
theorem cntL_snoc (l : List (Nat × Nat)) (k : Nat) (h : k < l.length) : cntL (l.take (k + 1)) = cntL (l.take k) + l[k].2 := by
  rw [List.take_succ_eq_append_getElem h, cntL_append, cntL_one]
/-- What is taken from runs, one behind the other. -/
def takeR : List (Nat × Nat) → Nat → List (Nat × Nat)
  | [], _ => []
  | r :: l, n => if n = 0 then [] else (r.1, min r.2 n) :: takeR l (n - min r.2 n)
theorem takeR_end (x : Nat × Nat) : ∀ (l : List (Nat × Nat)) (n : Nat), takeR (l ++ [x]) n = takeR l n ++ (if n - cntL l = 0 then [] else [(x.1, min x.2 (n - cntL l))]) := by
  intro l
  induction l with
  | nil => intro n; show takeR [x] n = _; unfold takeR; by_cases h : n = 0 <;> simp [h, cntL, takeR]
  | cons r l ih =>
    intro n
    have e : cntL (r :: l) = r.2 + cntL l := by simp [cntL]
    show takeR (r :: (l ++ [x])) n = takeR (r :: l) n ++ _
    rw [takeR, takeR]
    by_cases h : n = 0
    · rw [if_pos h, if_pos h, if_pos (by omega)]; rfl
    · rw [if_neg h, if_neg h, ih, e, show n - min r.2 n - cntL l = n - (r.2 + cntL l) from by omega]; rfl
theorem takeR_snoc (l : List (Nat × Nat)) (k n : Nat) (h : k < l.length) : takeR (l.take (k + 1)) n = takeR (l.take k) n ++ (if n - cntL (l.take k) = 0 then [] else [(l[k].1, min l[k].2 (n - cntL (l.take k)))]) := by
  rw [List.take_succ_eq_append_getElem h, takeR_end]
theorem takeR_stop (b : List (Nat × Nat)) : ∀ (a : List (Nat × Nat)) (n : Nat), n - cntL a = 0 → takeR (a ++ b) n = takeR a n := by
  intro a
  induction a with
  | nil =>
    intro n h
    have hn : n = 0 := by simpa [cntL] using h
    subst hn
    cases b <;> simp [takeR]
  | cons r l ih =>
    intro n h
    have e : cntL (r :: l) = r.2 + cntL l := by simp [cntL]
    show takeR (r :: (l ++ b)) n = takeR (r :: l) n
    rw [takeR, takeR]
    by_cases h0 : n = 0
    · rw [if_pos h0, if_pos h0]
    · rw [if_neg h0, if_neg h0, ih _ (by omega)]
theorem takeR_bd (m : Nat) : ∀ (l : List (Nat × Nat)) (n : Nat), (∀ r ∈ l, r.1 + r.2 ≤ m) → ∀ r ∈ takeR l n, r.1 + r.2 ≤ m := by
  intro l
  induction l with
  | nil => intro n _ r hr; cases hr
  | cons x l ih =>
    intro n h r hr
    rw [takeR] at hr
    split at hr
    · cases hr
    · rcases List.mem_cons.1 hr with rfl | hr
      · have := h x (List.mem_cons_self ..); show x.1 + min x.2 n ≤ m; omega
      · exact ih _ (fun y hy => h y (List.mem_cons_of_mem _ hy)) r hr
theorem takeR_len : ∀ (l : List (Nat × Nat)) (n : Nat), (takeR l n).length ≤ l.length := by
  intro l
  induction l with
  | nil => intro n; exact Nat.zero_le _
  | cons x l ih =>
    intro n
    rw [takeR]
    split
    · exact Nat.zero_le _
    · rw [List.length_cons, List.length_cons]; have := ih (n - min x.2 n); omega
theorem normTo_asc (S : Nat → Bool) (k : Nat) : (normTo S k).Pairwise (fun a b => a.1 + a.2 < b.1) ∧ ∀ r ∈ normTo S k, 1 ≤ r.2 := by
  induction k with
  | zero => exact ⟨List.Pairwise.nil, fun r hr => by cases hr⟩
  | succ k ih =>
    show (stepN S (normTo S k) k).Pairwise _ ∧ ∀ r ∈ stepN S (normTo S k) k, _
    have hbd := normTo_bd S k
    unfold stepN
    split
    · exact ih
    · split
      · rename_i h1 h2
        rcases normTo_end S k with ⟨_, h⟩ | ⟨i, x, hx, _⟩
        · rw [h h2.1] at h2; cases h2.2
        · rw [hx] at ih ⊢
          have hb : bump (i ++ [x]) = i ++ [(x.1, x.2 + 1)] := by unfold bump; rw [last_getD, last_set]
          rw [hb]
          obtain ⟨ih1, ih2⟩ := ih
          rw [List.pairwise_append] at ih1 ⊢
          refine ⟨⟨ih1.1, List.pairwise_singleton _ _, fun a ha b hb => ?_⟩, fun r hr => ?_⟩
          · rw [List.mem_singleton.1 hb]; exact ih1.2.2 a ha x (List.mem_singleton.2 rfl)
          · rcases List.mem_append.1 hr with hr | hr
            · exact ih2 r (List.mem_append_left _ hr)
            · rw [List.mem_singleton.1 hr]; show 1 ≤ x.2 + 1; omega
      · rename_i h1 h2
        rcases normTo_end S k with ⟨h0, _⟩ | ⟨i, x, hx, hiff⟩
        · rw [h0]
          refine ⟨by rw [List.nil_append]; exact List.pairwise_singleton _ _, fun r hr => ?_⟩
          rw [List.nil_append] at hr
          rw [List.mem_singleton.1 hr]; exact Nat.le_refl _
        · rw [hx] at ih hbd ⊢
          obtain ⟨ih1, ih2⟩ := ih
          have hxb := hbd x (List.mem_append_right _ (List.mem_singleton.2 rfl))
          have hne : x.1 + x.2 ≠ k := fun e => h2 (hiff.1 e)
          refine ⟨List.pairwise_append.2 ⟨ih1, List.pairwise_singleton _ _, fun a ha b hb => ?_⟩, fun r hr => ?_⟩
          · rw [List.mem_singleton.1 hb]
            show a.1 + a.2 < k
            rcases List.mem_append.1 ha with ha | ha
            · have := (List.pairwise_append.1 ih1).2.2 a ha x (List.mem_singleton.2 rfl)
              omega
            · rw [List.mem_singleton.1 ha]; omega
          · rcases List.mem_append.1 hr with hr | hr
            · exact ih2 r hr
            · rw [List.mem_singleton.1 hr]; exact Nat.le_refl _
/-- The runs by decreasing size, and those of one size in their order. -/
def sortS (l : List (Nat × Nat)) : List (Nat × Nat) := (List.range 128).flatMap fun i => l.filter fun r => r.2 == 128 - i
theorem mem_sortS (l : List (Nat × Nat)) (h : ∀ r ∈ l, 1 ≤ r.2 ∧ r.2 ≤ 128) (r : Nat × Nat) : r ∈ sortS l ↔ r ∈ l := by
  unfold sortS
  rw [List.mem_flatMap]
  constructor
  · rintro ⟨i, _, hr⟩; exact (List.mem_filter.1 hr).1
  · intro hr
    have := h r hr
    exact ⟨128 - r.2, List.mem_range.2 (by omega), List.mem_filter.2 ⟨hr, by rw [beq_iff_eq]; omega⟩⟩
/-- Which run comes first. -/
def ltR (a b : Nat × Nat) : Prop := b.2 < a.2 ∨ a.2 = b.2 ∧ a.1 < b.1
theorem sortS_sorted (l : List (Nat × Nat)) (h : l.Pairwise (fun a b => a.1 < b.1)) : (sortS l).Pairwise ltR := by
  unfold sortS
  rw [List.flatMap_def, List.pairwise_flatten]
  refine ⟨fun x hx => ?_, ?_⟩
  · obtain ⟨i, _, rfl⟩ := List.mem_map.1 hx
    refine (List.Pairwise.imp_of_mem ?_ (h.filter _))
    intro a b ha hb hab
    have h1 := (List.mem_filter.1 ha).2
    have h2 := (List.mem_filter.1 hb).2
    rw [beq_iff_eq] at h1 h2
    exact .inr ⟨by omega, hab⟩
  · rw [List.pairwise_map]
    refine List.Pairwise.imp_of_mem ?_ (List.pairwise_lt_range (n := 128))
    intro i j hi hj hij a ha b hb
    have h1 := (List.mem_filter.1 ha).2
    have h2 := (List.mem_filter.1 hb).2
    rw [beq_iff_eq] at h1 h2
    have := List.mem_range.1 hi
    have := List.mem_range.1 hj
    exact .inl (by omega)
theorem ltR_asymm {a b : Nat × Nat} (h : ltR a b) (h' : ltR b a) : False := by
  unfold ltR at h h'; omega
theorem sorted_one : ∀ (a b : List (Nat × Nat)), a.Perm b → a.Pairwise ltR → b.Pairwise ltR → a = b := by
  intro a
  induction a with
  | nil => intro b hp _ _; exact hp.nil_eq
  | cons x a ih =>
    intro b hp ha hb
    cases b with
    | nil => exact absurd hp.length_eq (by simp)
    | cons y b =>
      have hxy : x = y := by
        have h1 : x ∈ y :: b := hp.subset (List.mem_cons_self ..)
        have h2 : y ∈ x :: a := hp.symm.subset (List.mem_cons_self ..)
        rcases List.mem_cons.1 h1 with h1 | h1
        · exact h1
        · rcases List.mem_cons.1 h2 with h2 | h2
          · exact h2.symm
          · exact (ltR_asymm ((List.pairwise_cons.1 ha).1 y h2) ((List.pairwise_cons.1 hb).1 x h1)).elim
      subst hxy
      rw [ih b ((List.perm_cons x).1 hp) (List.pairwise_cons.1 ha).2 (List.pairwise_cons.1 hb).2]
theorem nodup_asc {l : List (Nat × Nat)} (h : l.Pairwise (fun a b => a.1 < b.1)) : l.Nodup :=
  List.Pairwise.imp (fun hab e => by rw [e] at hab; omega) h
theorem sorted_nodup {l : List (Nat × Nat)} (h : l.Pairwise ltR) : l.Nodup :=
  List.Pairwise.imp (fun hab e => by rw [e] at hab; exact ltR_asymm hab hab) h
theorem sortS_perm (l : List (Nat × Nat)) (h : ∀ r ∈ l, 1 ≤ r.2 ∧ r.2 ≤ 128) (ha : l.Pairwise (fun a b => a.1 < b.1)) : l.Perm (sortS l) :=
  (List.perm_ext_iff_of_nodup (nodup_asc ha) (sorted_nodup (sortS_sorted l ha))).2 (fun r => (mem_sortS l h r).symm)
theorem normS_asc (S : Nat → Bool) : (normS S).Pairwise (fun a b => a.1 < b.1) :=
  List.Pairwise.imp (fun h => by omega) (normTo_asc S 128).1
theorem normS_cnt (S : Nat → Bool) : ∀ r ∈ normS S, 1 ≤ r.2 ∧ r.2 ≤ 128 := fun r hr => ⟨(normTo_asc S 128).2 r hr, by have := normS_bd S r hr; omega⟩
/-- A sorted order of the runs of a set is the one that is meant. -/
theorem sort_is (S : Nat → Bool) (d : List (Nat × Nat)) (hp : d.Perm (normS S)) (hs : ∀ i j (hi : i < d.length) (hj : j < d.length), i < j → ¬ ltR d[j] d[i]) : d = sortS (normS S) := by
  refine sorted_one _ _ (hp.trans (sortS_perm _ (normS_cnt S) (normS_asc S))) ?_ (sortS_sorted _ (normS_asc S))
  have hn : d.Nodup := (hp.nodup_iff).2 (nodup_asc (normS_asc S))
  have hd : d.Pairwise (fun a b => a.1 ≠ b.1) := by
    have h1 : (normS S).Pairwise (fun a b => a.1 ≠ b.1) := List.Pairwise.imp (fun h => by omega) (normS_asc S)
    exact (hp.pairwise_iff (fun {a b} h e => h e.symm)).2 h1
  rw [List.pairwise_iff_getElem] at hd ⊢
  intro i j hi hj hij
  have h1 := hd i j hi hj hij
  have h2 := hs i j hi hj hij
  unfold ltR at h2 ⊢
  omega
end Go.Proofs.YtnlaogneceanoaaGreat
namespace Go.Proofs.YtnlaogneceanoaaGreat
set_option linter.unusedVariables false
set_option linter.unusedSimpArgs false
set_option linter.unusedSectionVars false
open Go.RowKit
/-- A run of a list of runs with natural numbers, in memory. -/
theorem runs_nat {w : World} {B : Nat} {A : Option Addr} {N : List (Nat × Nat)} (h : RunsAt w B A (ints N)) {k : Nat} (hk : k < N.length) :
    ∃ b off, A = some ⟨b, off, none⟩ ∧ b < B ∧ w.cell? ⟨b, off + k * 2, none⟩ = some (.int .i64 (N[k].1 : Int)) ∧ w.cell? ⟨b, off + k * 2 + 1, none⟩ = some (.int .i64 (N[k].2 : Int)) := by
  obtain ⟨b, off, f, c, e, hb, hlk, _, x0, x1⟩ := h.at_ (k := k) (by rw [ints_len]; exact hk)
  have hlk' : (ints N)[k]'(by rw [ints_len]; exact hk) = ((N[k].1 : Int), (N[k].2 : Int)) := by simp [ints]
  rw [hlk'] at hlk
  injection hlk with h1 h2
  exact ⟨b, off, e, hb, by rw [h1]; exact x0, by rw [h2]; exact x1⟩
theorem own_runs2 {w : World} {base : Nat} {v : Value} {l : List (Nat × Nat)} (h : OwnL w base 65 2 v (l.map rowN)) (hb : ∀ r ∈ l, r.1 + r.2 ≤ 1000000) :
    ∃ A c, v = .slice A l.length c ∧ RunsAt w w.heap.size A (ints l) ∧ l.length ≤ c ∧ c ≤ 9223372036854775807 ∧ ∀ b off, A = some ⟨b, off, none⟩ → base ≤ b ∧ b < w.heap.size := by
  obtain ⟨A, c, hv, h1, h2, hl⟩ := h.listAt
  rw [List.length_map] at hv h1
  refine ⟨A, c, hv, ⟨?_, by rw [ints_rows]; exact hl⟩, h1, h2, ?_⟩
  · intro r hr
    obtain ⟨x, hx, rfl⟩ := List.mem_map.1 hr
    have := hb x hx
    unfold okRun
    simp only []
    omega
  · intro b off hA
    rcases h.form with ⟨hv', _⟩ | ⟨g, cap, hv', hg, hg2, _⟩
    · rw [hv] at hv'
      injection hv' with hv'
      rw [hA] at hv'; cases hv'
    · rw [hv] at hv'
      injection hv' with hv'
      rw [hA] at hv'
      injection hv' with hv'
      injection hv' with hv'
      omega
theorem RunsAt.turned {S : Nat → Prop} {w w' : World} {B : Nat} {A : Option Addr} {l : List (Int × Int)} (h : RunsAt w B A l) (hB : B ≤ w.heap.size) (ht : Turned S w w') (hS : ∀ b off, A = some ⟨b, off, none⟩ → ¬ S b) : RunsAt w' B A l :=
  ⟨h.1, fun hp => by
    obtain ⟨b, off, e, hb, hc⟩ := h.2 hp
    exact ⟨b, off, e, hb, fun j cs hj i v hi => by rw [ht.cellEq _ _ (by omega) (hS b off e)]; exact hc j cs hj i v hi⟩⟩
def BestR (w : World) (d : (Int × Int) × Bool) (e : Ending) (w' : World) : Prop := e = .returned (.tuple #[.agg #[.int .i64 d.1.1, .int .i64 d.1.2], .bool d.2]) ∧ Grew w w'
section
variable (A : Option Addr) (c : Nat) (l : List (Int × Int)) (w : World) (B : Nat) (hB : B ≤ w.heap.size) (hl : l.length ≤ 1000000) (hr : RunsAt w B A l) (n : Int) (n0 : -9223372036854775808 ≤ n) (n1 : n ≤ 9223372036854775807)
include hB hl hr n0 n1
set_option maxRecDepth 100000 in
set_option maxHeartbeats 4000000 in
theorem best_any : Calls Tryz.prog 139 #[.slice A l.length c, .int .i64 n] w (BestR w (bestS (memS l) n)) := by
  by_cases hn : n < 1
  · have HE := Lib.hid (show bestS (memS l) n = ((0, 0), false) from by unfold bestS; rw [if_pos (.inl hn)])
    go_enter Tryz.func139, Tryz.ntmps139
    go_wp2_with fail
    refine bodyPost_ret (by first | (simp [*, results, Tryz.results139, go_sem]; rfl) | simp [*, results, Tryz.results139, go_sem]) rfl ?_
    rw [HE.out]
    exact ⟨rfl, by (repeat' first | (with_reducible exact Grew.refl _) | (with_reducible assumption) | (with_reducible refine Grew.alloc ?_ _) | (with_reducible refine Grew.drew ?_) | (with_reducible refine Grew.drewN ?_ _) | (with_reducible refine Grew.setRow ?_ (by first | (simp; done) | (simp; omega) | omega) _) | (with_reducible refine Grew.setCell ?_ (by first | (simp; done) | (simp; omega) | omega) _) | ((with_reducible apply Grew.trans); rotate_left; (with_reducible assumption)) | ((with_reducible apply Grew.turn); rotate_left; (with_reducible assumption); (focus (intro i hi; first | omega | (simp at hi; omega)))) | fail)⟩
  have HS := Lib.hid (show bestS (memS l) n = if n < 1 ∨ (bestF n (normS (memS l))).2 = 0 then ((0, 0), false) else ((((bestF n (normS (memS l))).1 : Int), n), true) from rfl)
  have hC := fun w' (g : Grew w w') => normal_any A c l w' B (Nat.le_trans hB g.size) hl (hr.keep hB g)
  have hbd := normS_bd (memS l)
  have hNl := normS_len (memS l)
  generalize normS (memS l) = N at *
  have HC := Lib.hid hC
  have HBD := Lib.hid hbd
  have HFB := Lib.hid (fun k => bestF_bd n (N.take k) 128 (fun r hr => hbd r (List.mem_of_mem_take hr)))
  clear hr hC hbd
  go_enter Tryz.func139, Tryz.ntmps139
  go_wp2_with fail
  refine (HC.out _ (by (repeat' first | (with_reducible exact Grew.refl _) | (with_reducible assumption) | (with_reducible refine Grew.alloc ?_ _) | (with_reducible refine Grew.drew ?_) | (with_reducible refine Grew.drewN ?_ _) | (with_reducible refine Grew.setRow ?_ (by first | (simp; done) | (simp; omega) | omega) _) | (with_reducible refine Grew.setCell ?_ (by first | (simp; done) | (simp; omega) | omega) _) | ((with_reducible apply Grew.trans); rotate_left; (with_reducible assumption)) | ((with_reducible apply Grew.turn); rotate_left; (with_reducible assumption); (focus (intro i hi; first | omega | (simp at hi; omega)))) | fail))).mono ?_
  rintro e w1 ⟨v, rfl, hown, g1⟩
  have HB4 := ((Blk.new w 65 #[.int .i64 0, .int .i64 0] rfl).alloc (.cells #[.int .i64 0, .int .i64 0] 65)).grew g1
  have HB6 := (Blk.new (w.alloc (.cells #[.int .i64 0, .int .i64 0] 65)) 65 #[.int .i64 0, .int .i64 0] (n := w.heap.size + 1) (by simp)).grew g1
  have hG : Grew w w1 := (((Grew.refl w).alloc _).alloc _).trans g1
  obtain ⟨A', c', hv, hr', _, _, hA'⟩ := own_runs2 hown (fun r hr => Nat.le_trans (HBD.out r hr) (by omega))
  subst hv
  have HR := Lib.hid hr'
  have HA := Lib.hid (show ∀ b off, A' = some ⟨b, off, none⟩ → ¬ b = w.heap.size + 1 from fun b off e => by have := (hA' b off e).1; simp at this; omega)
  have HB4' := Lib.hid HB4
  clear hown hr' HC g1 hA' HB4
  go_wp2_with fail
  go_loopg [16] N.length (fun gk i wr => ∃ k : Nat, k ≤ N.length ∧ gk = N.length - k ∧ i = .int .i64 k ∧ Blk wr (w.heap.size + 1) 65 #[.int .i64 ((bestF n (N.take k)).1 : Int), .int .i64 ((bestF n (N.take k)).2 : Int)] ∧ Turned (fun i => i = w.heap.size + 1) w1 wr)
  case atStart => exact ⟨0, by omega, by omega, rfl, HB6, Turned.refl _ _⟩
  case round =>
    obtain ⟨k, hk, hgk, rfl, hb6, ht⟩ := hrel
    have HGK := Lib.hid hgk
    have HT := Lib.hid ht
    have hb4 := HB4'.out.turned ht (by omega)
    clear hgk
    have hfb := HFB.out k
    by_cases hlt : k < N.length
    · obtain ⟨b, off, rfl, hb, x0, x1⟩ := runs_nat (HR.out.turned (Nat.le_refl _) ht HA.out) hlt
      have hbs : b < wr.heap.size := by have := ht.size; omega
      have hnb : ¬ b = w.heap.size + 1 := HA.out b off rfl
      have hrb := HBD.out _ (List.getElem_mem hlt)
      have HST := Lib.hid (bestF_snoc n N k hlt)
      have y0 := hb6.cell 0
      have y1 := hb6.cell 1
      have yf0 := hb6.frozen 0
      have yf1 := hb6.frozen 1
      have hlb := hb6.lt
      have hgs := hG.size
      generalize N[k] = r at *
      obtain ⟨rf, rc⟩ := r
      generalize bestF n (N.take k) = bb at *
      obtain ⟨bf, bc⟩ := bb
      simp only at x0 x1 y0 y1 hrb hfb
      clear ht
      have HR2 := Lib.hid hb6
      by_cases h1 : n ≤ (rc : Int)
      · by_cases h2 : bc = 0
        · have h2b : (((bc : Nat) : Int) == 0) = true := beq_iff_eq.2 (by omega)
          have HN := Lib.hid (show bestF n (N.take (k + 1)) = (rf, rc) from by rw [HST.out]; unfold bestStep; rw [if_pos ⟨h1, .inl h2⟩])
          clear h2
          go_wp2_with fail
          go_roundg (N.length - (k + 1))
          case measure => rw [HGK.out]; omega
          case rel => exact ⟨k + 1, by omega, by omega, by go_num, by rw [HN.out]; have := HR2.out; (apply Blk.conv; (· (repeat' first | (with_reducible assumption) | (with_reducible apply Blk.setRow) | ((with_reducible apply Blk.farRow); rotate_left; (focus (first | (simp; done) | (simp; omega) | omega))) | (with_reducible apply Blk.drew) | (with_reducible apply Blk.drewN) | (with_reducible apply Blk.set_) | (with_reducible exact Blk.new _ _ _ (by first | rfl | (simp; done) | (simp; omega))) | (with_reducible apply Blk.alloc) | ((with_reducible apply Blk.far); rotate_left; (focus (first | (simp; done) | (simp; omega) | omega))) | ((with_reducible apply Blk.grew); rotate_left; (with_reducible assumption)) | ((with_reducible apply Blk.turned); rotate_left; (with_reducible assumption); (focus (first | (simp; done) | (simp; omega) | omega))) | fail)); (· rfl)), by have := HT.out; (repeat' first | (with_reducible exact Turned.refl _ _) | (with_reducible assumption) | (with_reducible refine Turned.alloc ?_ _) | (with_reducible refine Turned.drew ?_) | (with_reducible refine Turned.drewN ?_ _) | (with_reducible refine Turned.setRow ?_ (by first | (simp; done) | (simp; omega) | omega) _) | (with_reducible refine Turned.setCell ?_ (by first | (simp; done) | (simp; omega) | omega) _) | ((with_reducible apply Turned.andGrew); rotate_left; (with_reducible assumption)) | ((with_reducible apply Turned.trans); rotate_left; (with_reducible assumption)) | fail)⟩
        · have h2b : (((bc : Nat) : Int) == 0) = false := beq_eq_false_iff_ne.2 (by omega)
          by_cases h3 : rc < bc
          · have HN := Lib.hid (show bestF n (N.take (k + 1)) = (rf, rc) from by rw [HST.out]; unfold bestStep; rw [if_pos ⟨h1, .inr h3⟩])
            clear h2
            go_wp2_with fail
            go_roundg (N.length - (k + 1))
            case measure => rw [HGK.out]; omega
            case rel => exact ⟨k + 1, by omega, by omega, by go_num, by rw [HN.out]; have := HR2.out; (apply Blk.conv; (· (repeat' first | (with_reducible assumption) | (with_reducible apply Blk.setRow) | ((with_reducible apply Blk.farRow); rotate_left; (focus (first | (simp; done) | (simp; omega) | omega))) | (with_reducible apply Blk.drew) | (with_reducible apply Blk.drewN) | (with_reducible apply Blk.set_) | (with_reducible exact Blk.new _ _ _ (by first | rfl | (simp; done) | (simp; omega))) | (with_reducible apply Blk.alloc) | ((with_reducible apply Blk.far); rotate_left; (focus (first | (simp; done) | (simp; omega) | omega))) | ((with_reducible apply Blk.grew); rotate_left; (with_reducible assumption)) | ((with_reducible apply Blk.turned); rotate_left; (with_reducible assumption); (focus (first | (simp; done) | (simp; omega) | omega))) | fail)); (· rfl)), by have := HT.out; (repeat' first | (with_reducible exact Turned.refl _ _) | (with_reducible assumption) | (with_reducible refine Turned.alloc ?_ _) | (with_reducible refine Turned.drew ?_) | (with_reducible refine Turned.drewN ?_ _) | (with_reducible refine Turned.setRow ?_ (by first | (simp; done) | (simp; omega) | omega) _) | (with_reducible refine Turned.setCell ?_ (by first | (simp; done) | (simp; omega) | omega) _) | ((with_reducible apply Turned.andGrew); rotate_left; (with_reducible assumption)) | ((with_reducible apply Turned.trans); rotate_left; (with_reducible assumption)) | fail)⟩
          · have HN := Lib.hid (show bestF n (N.take (k + 1)) = (bf, bc) from by rw [HST.out]; unfold bestStep; rw [if_neg (fun h => h.2.elim h2 h3)])
            clear h2
            go_wp2_with fail
            go_roundg (N.length - (k + 1))
            case measure => rw [HGK.out]; omega
            case rel => exact ⟨k + 1, by omega, by omega, by go_num, by rw [HN.out]; have := HR2.out; (apply Blk.conv; (· (repeat' first | (with_reducible assumption) | (with_reducible apply Blk.setRow) | ((with_reducible apply Blk.farRow); rotate_left; (focus (first | (simp; done) | (simp; omega) | omega))) | (with_reducible apply Blk.drew) | (with_reducible apply Blk.drewN) | (with_reducible apply Blk.set_) | (with_reducible exact Blk.new _ _ _ (by first | rfl | (simp; done) | (simp; omega))) | (with_reducible apply Blk.alloc) | ((with_reducible apply Blk.far); rotate_left; (focus (first | (simp; done) | (simp; omega) | omega))) | ((with_reducible apply Blk.grew); rotate_left; (with_reducible assumption)) | ((with_reducible apply Blk.turned); rotate_left; (with_reducible assumption); (focus (first | (simp; done) | (simp; omega) | omega))) | fail)); (· rfl)), by have := HT.out; (repeat' first | (with_reducible exact Turned.refl _ _) | (with_reducible assumption) | (with_reducible refine Turned.alloc ?_ _) | (with_reducible refine Turned.drew ?_) | (with_reducible refine Turned.drewN ?_ _) | (with_reducible refine Turned.setRow ?_ (by first | (simp; done) | (simp; omega) | omega) _) | (with_reducible refine Turned.setCell ?_ (by first | (simp; done) | (simp; omega) | omega) _) | ((with_reducible apply Turned.andGrew); rotate_left; (with_reducible assumption)) | ((with_reducible apply Turned.trans); rotate_left; (with_reducible assumption)) | fail)⟩
      · have HN := Lib.hid (show bestF n (N.take (k + 1)) = (bf, bc) from by rw [HST.out]; unfold bestStep; rw [if_neg (fun h => h1 h.1)])
        go_wp2_with fail
        go_roundg (N.length - (k + 1))
        case measure => rw [HGK.out]; omega
        case rel => exact ⟨k + 1, by omega, by omega, by go_num, by rw [HN.out]; have := HR2.out; (apply Blk.conv; (· (repeat' first | (with_reducible assumption) | (with_reducible apply Blk.setRow) | ((with_reducible apply Blk.farRow); rotate_left; (focus (first | (simp; done) | (simp; omega) | omega))) | (with_reducible apply Blk.drew) | (with_reducible apply Blk.drewN) | (with_reducible apply Blk.set_) | (with_reducible exact Blk.new _ _ _ (by first | rfl | (simp; done) | (simp; omega))) | (with_reducible apply Blk.alloc) | ((with_reducible apply Blk.far); rotate_left; (focus (first | (simp; done) | (simp; omega) | omega))) | ((with_reducible apply Blk.grew); rotate_left; (with_reducible assumption)) | ((with_reducible apply Blk.turned); rotate_left; (with_reducible assumption); (focus (first | (simp; done) | (simp; omega) | omega))) | fail)); (· rfl)), by have := HT.out; (repeat' first | (with_reducible exact Turned.refl _ _) | (with_reducible assumption) | (with_reducible refine Turned.alloc ?_ _) | (with_reducible refine Turned.drew ?_) | (with_reducible refine Turned.drewN ?_ _) | (with_reducible refine Turned.setRow ?_ (by first | (simp; done) | (simp; omega) | omega) _) | (with_reducible refine Turned.setCell ?_ (by first | (simp; done) | (simp; omega) | omega) _) | ((with_reducible apply Turned.andGrew); rotate_left; (with_reducible assumption)) | ((with_reducible apply Turned.trans); rotate_left; (with_reducible assumption)) | fail)⟩
    · obtain rfl : k = N.length := by omega
      rw [List.take_length] at hb6 hfb
      have hGe : Grew w wr := hG.turn ht (fun i hi => by omega)
      have HGE := Lib.hid hGe
      have y0 := hb6.cell 0
      have y1 := hb6.cell 1
      have hlb := hb6.lt
      have z0 := hb4.cell 0
      have z1 := hb4.cell 1
      have zf0 := hb4.frozen 0
      have zf1 := hb4.frozen 1
      have hlb4 := hb4.lt
      clear ht hGe
      generalize bestF n N = bb at *
      obtain ⟨bf, bc⟩ := bb
      simp only at y0 y1 hfb
      by_cases h2 : bc = 0
      · have h2b : (((bc : Nat) : Int) == 0) = true := beq_iff_eq.2 (by omega)
        have HE := Lib.hid (show bestS (memS l) n = ((0, 0), false) from by rw [HS.out]; exact if_pos (.inr h2))
        clear h2
        go_wp2_with fail
        refine bodyPost_ret (by first | (simp [*, results, Tryz.results139, go_sem]; rfl) | simp [*, results, Tryz.results139, go_sem]) rfl ?_
        rw [HE.out]
        exact ⟨rfl, by have := HGE.out; (repeat' first | (with_reducible exact Grew.refl _) | (with_reducible assumption) | (with_reducible refine Grew.alloc ?_ _) | (with_reducible refine Grew.drew ?_) | (with_reducible refine Grew.drewN ?_ _) | (with_reducible refine Grew.setRow ?_ (by first | (simp; done) | (simp; omega) | omega) _) | (with_reducible refine Grew.setCell ?_ (by first | (simp; done) | (simp; omega) | omega) _) | ((with_reducible apply Grew.trans); rotate_left; (with_reducible assumption)) | ((with_reducible apply Grew.turn); rotate_left; (with_reducible assumption); (focus (intro i hi; first | omega | (simp at hi; omega)))) | fail)⟩
      · have h2b : (((bc : Nat) : Int) == 0) = false := beq_eq_false_iff_ne.2 (by omega)
        have HE := Lib.hid (show bestS (memS l) n = (((bf : Int), n), true) from by rw [HS.out]; exact if_neg (fun h => h.elim (fun h => by omega) h2))
        clear h2
        go_wp2_with fail
        refine bodyPost_ret (by first | (simp [*, results, Tryz.results139, go_sem]; rfl) | simp [*, results, Tryz.results139, go_sem]) rfl ?_
        rw [HE.out]
        exact ⟨rfl, by have := HGE.out; (repeat' first | (with_reducible exact Grew.refl _) | (with_reducible assumption) | (with_reducible refine Grew.alloc ?_ _) | (with_reducible refine Grew.drew ?_) | (with_reducible refine Grew.drewN ?_ _) | (with_reducible refine Grew.setRow ?_ (by first | (simp; done) | (simp; omega) | omega) _) | (with_reducible refine Grew.setCell ?_ (by first | (simp; done) | (simp; omega) | omega) _) | ((with_reducible apply Grew.trans); rotate_left; (with_reducible assumption)) | ((with_reducible apply Grew.turn); rotate_left; (with_reducible assumption); (focus (intro i hi; first | omega | (simp at hi; omega)))) | fail)⟩
end
end Go.Proofs.YtnlaogneceanoaaGreat
namespace Go.Proofs.YtnlaogneceanoaaGreat
set_option linter.unusedVariables false
set_option linter.unusedSimpArgs false
set_option linter.unusedSectionVars false
open Go.Shelf Go.RowKit Go.Lib
set_option maxRecDepth 100000
def sortIv_ren : Go.Shelf.Ren := ⟨fun | 6 => 141 | 15 => 111 | 14 => 170 | 28 => 156 | 29 => 157 | 20 => 184 | 21 => 185 | 22 => 186 | 23 => 187 | 24 => 188 | 25 => 189 | 26 => 190 | 27 => 191 | 46 => 193 | 47 => 173 | 48 => 174 | 49 => 194 | 50 => 195 | 57 => 196 | n => n, fun | 22 => 29 | 24 => 65 | 25 => 143 | 3 => 3 | 39 => 119 | 0 => 0 | 53 => 160 | 55 => 139 | 4 => 4 | 46 => 154 | 45 => 153 | 50 => 62 | 5 => 5 | 9 => 9 | 66 => 182 | 70 => 185 | 76 => 199 | 77 => 200 | n => n, fun | n => n⟩
theorem sortIv : Go.Proofs.SlLaysF0.n6 Tryz.prog sortIv_ren := {
  mixed := by kernel_rfl
  f6 := ⟨Tryz.f141.name, by decide, Tryz.func141.trans (congrArg some (by kernel_rfl))⟩
  f14 := ⟨Tryz.f170.name, by decide, Tryz.func170.trans (congrArg some (by kernel_rfl))⟩
  f15 := Tryz.func111.trans (congrArg some (by kernel_rfl))
  f20 := ⟨Tryz.f184.name, by decide, Tryz.func184.trans (congrArg some (by kernel_rfl))⟩
  f21 := ⟨Tryz.f185.name, by decide, Tryz.func185.trans (congrArg some (by kernel_rfl))⟩
  f22 := ⟨Tryz.f186.name, by decide, Tryz.func186.trans (congrArg some (by kernel_rfl))⟩
  f23 := ⟨Tryz.f187.name, by decide, Tryz.func187.trans (congrArg some (by kernel_rfl))⟩
  f24 := ⟨Tryz.f188.name, by decide, Tryz.func188.trans (congrArg some (by kernel_rfl))⟩
  f25 := ⟨Tryz.f189.name, by decide, Tryz.func189.trans (congrArg some (by kernel_rfl))⟩
  f26 := ⟨Tryz.f190.name, by decide, Tryz.func190.trans (congrArg some (by kernel_rfl))⟩
  f27 := ⟨Tryz.f191.name, by decide, Tryz.func191.trans (congrArg some (by kernel_rfl))⟩
  f28 := Tryz.func156.trans (congrArg some (by kernel_rfl))
  f29 := Tryz.func157.trans (congrArg some (by kernel_rfl))
  f46 := ⟨Tryz.f193.name, by decide, Tryz.func193.trans (congrArg some (by kernel_rfl))⟩
  f47 := Tryz.func173.trans (congrArg some (by kernel_rfl))
  f48 := Tryz.func174.trans (congrArg some (by kernel_rfl))
  f49 := ⟨Tryz.f194.name, by decide, Tryz.func194.trans (congrArg some (by kernel_rfl))⟩
  f50 := ⟨Tryz.f195.name, by decide, Tryz.func195.trans (congrArg some (by kernel_rfl))⟩
  f57 := ⟨Tryz.f196.name, by decide, Tryz.func196.trans (congrArg some (by kernel_rfl))⟩
  t0 := Tryz.underlying0
  a0 := Tryz.isAgg0
  z0 := Tryz.sizeOf0
  v0 := Tryz.zeroValue0
  t3 := Tryz.underlying3
  a3 := Tryz.isAgg3
  z3 := Tryz.sizeOf3
  v3 := Tryz.zeroValue3
  t4 := Tryz.underlying4
  a4 := Tryz.isAgg4
  z4 := Tryz.sizeOf4
  v4 := Tryz.zeroValue4
  t5 := Tryz.underlying5
  a5 := Tryz.isAgg5
  z5 := Tryz.sizeOf5
  v5 := Tryz.zeroValue5
  t9 := Tryz.underlying9
  a9 := Tryz.isAgg9
  z9 := Tryz.sizeOf9
  v9 := Tryz.zeroValue9
  t22 := Tryz.underlying29
  a22 := Tryz.isAgg29
  z22 := Tryz.sizeOf29
  v22 := Tryz.zeroValue29
  t25 := Tryz.underlying143
  a25 := Tryz.isAgg143
  z25 := Tryz.sizeOf143
  v25 := Tryz.zeroValue143
  t39 := Tryz.underlying119
  a39 := Tryz.isAgg119
  z39 := Tryz.sizeOf119
  v39 := Tryz.zeroValue119
  t45 := Tryz.underlying153
  a45 := Tryz.isAgg153
  z45 := Tryz.sizeOf153
  v45 := Tryz.zeroValue153
  t46 := Tryz.underlying154
  a46 := Tryz.isAgg154
  z46 := Tryz.sizeOf154
  v46 := Tryz.zeroValue154
  t50 := Tryz.underlying62
  a50 := Tryz.isAgg62
  z50 := Tryz.sizeOf62
  v50 := Tryz.zeroValue62
  t53 := Tryz.underlying160
  a53 := Tryz.isAgg160
  z53 := Tryz.sizeOf160
  v53 := Tryz.zeroValue160
  t55 := Tryz.underlying139
  a55 := Tryz.isAgg139
  z55 := Tryz.sizeOf139
  v55 := Tryz.zeroValue139
  t66 := Tryz.underlying182
  a66 := Tryz.isAgg182
  z66 := Tryz.sizeOf182
  v66 := Tryz.zeroValue182
  t70 := Tryz.underlying185
  a70 := Tryz.isAgg185
  z70 := Tryz.sizeOf185
  v70 := Tryz.zeroValue185
  t76 := Tryz.underlying199
  a76 := Tryz.isAgg199
  z76 := Tryz.sizeOf199
  v76 := Tryz.zeroValue199
  t77 := Tryz.underlying200
  a77 := Tryz.isAgg200
  z77 := Tryz.sizeOf200
  v77 := Tryz.zeroValue200
  }
end Go.Proofs.YtnlaogneceanoaaGreat
namespace Go.Proofs.YtnlaogneceanoaaGreat
set_option linter.unusedVariables false
set_option linter.unusedSimpArgs false
set_option linter.unusedSectionVars false
open Go.RowKit Go.Shelf Go.Lib
attribute [local go_sem ↓] Go.wp_at_zero Go.wp_at_succ
def FR : Type := Fin 256 × Fin 256
instance : Inhabited FR := ⟨(⟨0, by decide⟩, ⟨0, by decide⟩)⟩
def toF (r : Nat × Nat) : FR := (⟨r.1 % 256, Nat.mod_lt _ (by decide)⟩, ⟨r.2 % 256, Nat.mod_lt _ (by decide)⟩)
def ofF (x : FR) : Nat × Nat := (x.1.val, x.2.val)
theorem ofF_toF (r : Nat × Nat) (h : r.1 + r.2 ≤ 128) : ofF (toF r) = r := by
  obtain ⟨a, b⟩ := r
  simp only at h
  show (a % 256, b % 256) = (a, b)
  rw [Nat.mod_eq_of_lt (by omega), Nat.mod_eq_of_lt (by omega)]
def encRF (x : FR) : List Value := rowN (ofF x)
def cmpF (x y : FR) : Int := if (ofF x).2 = (ofF y).2 then ((ofF x).1 : Int) - ((ofF y).1 : Int) else ((ofF y).2 : Int) - ((ofF x).2 : Int)
theorem ltF (x y : FR) : Go.Proofs.ltOf cmpF x y = true ↔ ltR (ofF x) (ofF y) := by
  unfold Go.Proofs.ltOf cmpF ltR
  rw [decide_eq_true_eq]
  split <;> omega
theorem sworder : Go.Sort.SWO (Go.Proofs.ltOf cmpF) where
  irrefl x := by
    cases h : Go.Proofs.ltOf cmpF x x with
    | false => rfl
    | true => exact (ltR_asymm ((ltF x x).1 h) ((ltF x x).1 h)).elim
  trans x y z h1 h2 := by
    rw [ltF] at h1 h2 ⊢
    unfold ltR at *
    omega
  ntrans x y z h1 h2 := by
    rw [← Bool.not_eq_true] at h1 h2 ⊢
    rw [ltF] at h1 h2 ⊢
    unfold ltR at *
    omega
set_option maxRecDepth 100000 in
set_option maxHeartbeats 1000000 in
theorem bigger_any (x y : FR) (W : World) : Calls Tryz.prog 140 #[.agg (encRF x).toArray, .agg (encRF y).toArray] W fun e w' => e = .returned (.int .i64 (cmpF x y)) ∧ ∃ q os', w' = Go.Sort.grow (W.drewN q) os' := by
  have hx1 := x.1.isLt
  have hx2 := x.2.isLt
  have hy1 := y.1.isLt
  have hy2 := y.2.isLt
  show Calls Tryz.prog 140 #[.agg #[.int .i64 (x.1.val : Int), .int .i64 (x.2.val : Int)], .agg #[.int .i64 (y.1.val : Int), .int .i64 (y.2.val : Int)]] W _
  have HC := Lib.hid (show cmpF x y = if x.2.val = y.2.val then ((x.1.val : Int)) - (y.1.val : Int) else (y.2.val : Int) - (x.2.val : Int) from rfl)
  generalize x.1.val = a at *
  generalize x.2.val = b at *
  generalize y.1.val = c at *
  generalize y.2.val = d at *
  by_cases h : b = d
  · have hb : ((b : Int) != (d : Int)) = false := by rw [bne_eq_false_iff_eq]; omega
    have HE := Lib.hid (show cmpF x y = (a : Int) - (c : Int) from by rw [HC.out, if_pos h])
    clear h
    go_enter Tryz.func140, Tryz.ntmps140
    go_wp2_with fail
    go_ret
    exact ⟨ret_int (by rw [HE.out]), 0, _, by rw [Go.Sort.alloc_eq_grow, Go.Sort.alloc_eq_grow, Go.Sort.grow_grow]; rfl⟩
  · have hb : ((b : Int) != (d : Int)) = true := by rw [bne_iff_ne]; omega
    have HE := Lib.hid (show cmpF x y = (d : Int) - (b : Int) from by rw [HC.out, if_neg h])
    clear h
    go_enter Tryz.func140, Tryz.ntmps140
    go_wp2_with fail
    go_ret
    exact ⟨ret_int (by rw [HE.out]), 0, _, by rw [Go.Sort.alloc_eq_grow, Go.Sort.alloc_eq_grow, Go.Sort.grow_grow]; rfl⟩
theorem sorted_turned (w : World) (g m : Nat) (d : Array FR) (os : Array Obj) : Turned (fun i => i = g) w (Go.Proofs.sortWorldK encRF 2 w g 0 m d os) := by
  refine ⟨rfl, rfl, rfl, ?_, fun k hk hs => ?_⟩
  · exact Go.Proofs.size_sortWorldK_c encRF 2 w g 0 m d os
  · unfold Go.Proofs.sortWorldK Go.Sort.grow Go.Sort.putRowK Go.Sort.putRow Go.Sort.mapBlock Go.Sort.ahead
    show (w.heap.modify g _ ++ os)[k]? = w.heap[k]?
    rw [Array.getElem?_append_left (by rw [Array.size_modify]; exact hk), Array.getElem?_modify, if_neg (fun e => hs e.symm)]
theorem whole_extract (d : Array FR) : (d.extract 0 d.size).toList = d.toList := by rw [Array.extract_size]
theorem at_idx (d : Array FR) (i : Nat) (h : i < d.size) : d[i]! = d.toList[i]'(by rw [Array.length_toList]; exact h) := by
  rw [getElem!_pos d i h, Array.getElem_toList]
theorem holds_own {w : World} {base g cap : Nat} {N : List (Nat × Nat)} (h : OwnL w base 65 2 (.slice (some ⟨g, 0, none⟩) N.length cap) (N.map rowN)) (hb : ∀ r ∈ N, r.1 + r.2 ≤ 128) : Go.Sort.HoldsK encRF 2 w g 0 (N.map toF).toArray := by
  intro t ht
  have ht' : t < N.length * 2 := by simpa using ht
  have hj : t / 2 < N.length := by omega
  rw [Go.Sort.get_flatK _ _ _ _ (by simpa using ht'), Nat.zero_add]
  have hel : ((N.map toF).toArray)[t / 2]! = toF N[t / 2] := by
    rw [getElem!_pos _ _ (by simpa using hj)]
    simp
  have hrow : (N.map rowN)[t / 2]? = some (rowN N[t / 2]) := by rw [List.getElem?_map, List.getElem?_eq_getElem hj]; rfl
  have he : encRF (toF N[t / 2]) = rowN N[t / 2] := by unfold encRF; rw [ofF_toF _ (hb _ (List.getElem_mem hj))]
  rw [hel, he]
  refine ⟨?_, h.frozen t⟩
  have hm : t = t / 2 * 2 + t % 2 := by omega
  have hlt : t % 2 < 2 := Nat.mod_lt _ (by decide)
  have hu : (rowN N[t / 2])[t % 2]? = some ((rowN N[t / 2])[t % 2]!) := by
    have hlen : (rowN N[t / 2]).length = 2 := rfl
    rw [List.getElem?_eq_getElem (by omega), getElem!_pos _ _ (by omega)]
  have := h.cell (j := t / 2) (i := t % 2) hrow hu
  rwa [← hm] at this
theorem runs_held {w : World} {g : Nat} {d : Array FR} {M : List (Nat × Nat)} (h : Go.Sort.HoldsK encRF 2 w g 0 d) (hd : d.toList.map ofF = M) (hg : g < w.heap.size) : RunsAt w w.heap.size (some ⟨g, 0, none⟩) (ints M) := by
  subst hd
  refine ⟨?_, fun _ => ⟨g, 0, rfl, hg, fun j cs hj i v hi => ?_⟩⟩
  · intro r hr
    obtain ⟨x, hx, rfl⟩ := List.mem_map.1 hr
    obtain ⟨y, hy, rfl⟩ := List.mem_map.1 hx
    have h1 := y.1.isLt
    have h2 := y.2.isLt
    show okRun ((y.1.val : Int), (y.2.val : Int))
    unfold okRun
    simp only
    omega
  · rw [ints_rows, List.map_map] at hj
    rw [List.getElem?_map] at hj
    cases hx : d.toList[j]? with
    | none => rw [hx] at hj; cases hj
    | some x =>
      rw [hx] at hj
      have hjl : j < d.toList.length := (List.getElem?_eq_some_iff.1 hx).1
      have hjs : j < d.size := by rw [← Array.length_toList]; exact hjl
      injection hj with hj
      have hcs : cs = encRF x := hj.symm
      have hil : i < cs.length := (List.getElem?_eq_some_iff.1 hi).1
      have hi2 : i < 2 := by rw [hcs] at hil; exact hil
      have hc := (h.cell (i := j) (c := i) hjs hi2).1
      have hxe : d[j]! = x := by
        rw [at_idx d j hjs]
        exact (List.getElem?_eq_some_iff.1 hx).2
      rw [hxe, ← hcs, getElem!_pos cs i hil] at hc
      rw [hc, (List.getElem?_eq_some_iff.1 hi).2]
set_option maxRecDepth 100000 in
set_option maxHeartbeats 1000000 in
theorem sort_any (g cap : Nat) (S : Nat → Bool) (w : World) (base : Nat) (hown : OwnL w base 65 2 (.slice (some ⟨g, 0, none⟩) (normS S).length cap) ((normS S).map rowN)) :
    Calls Tryz.prog 141 #[.slice (some ⟨g, 0, none⟩) (normS S).length cap, .func (.func 140) #[] #[]] w fun e w' => e = .returned (.tuple #[]) ∧ Turned (fun i => i = g) w w' ∧ RunsAt w' w'.heap.size (some ⟨g, 0, none⟩) (ints (sortS (normS S))) := by
  have hg : g < w.heap.size := by
    rcases hown.form with ⟨h, _⟩ | ⟨g', _, h, _, h2, _⟩
    · cases h
    · injection h with h
      injection h with h
      injection h with h
      omega
  have hbd := normS_bd S
  have hlen := normS_len S
  have hH := holds_own hown hbd
  have hds : ((normS S).map toF).toArray.size = (normS S).length := by simp
  have hdl : (((normS S).map toF).toArray.toList).map ofF = normS S := by
    show ((normS S).map toF).map ofF = normS S
    rw [List.map_map]
    conv => rhs; rw [← List.map_id (normS S)]
    exact List.map_congr_left (fun r hr => ofF_toF r (hbd r hr))
  obtain ⟨d, hd⟩ : ∃ d, ((normS S).map toF).toArray = d := ⟨_, rfl⟩
  rw [hd] at hH hds hdl
  have eg : ∀ args w, (callFunc 140 args).run Tryz.prog w = .ok (.enter 140 args) w := enters_of Tryz.func140 (by kernel_rfl) rfl
  have hcon := Go.Proofs.AnyQ.slices_SortFunc sortIv 2 Tryz.isAgg65 Tryz.sizeOf65 encRF (fun _ => rfl) (fun x v hv => by simp [encRF, rowN] at hv; rcases hv with rfl | rfl <;> rfl) cmpF sworder 140 #[] g 0 cap d w eg (fun m os dk hs x y => bigger_any x y _) hH hg (by rw [hds]; omega)
  change Calls Tryz.prog 141 _ _ _ at hcon
  rw [hds] at hcon
  refine hcon.mono ?_
  rintro e w' ⟨rfl, d', n, os, hp, hs, rfl⟩
  refine ⟨rfl, sorted_turned w g n d' os, ?_⟩
  have hsz : d'.size = d.size := hp.1
  refine runs_held (d := d') (Go.Proofs.holdsK_sortWorldK_c encRF 2 w g 0 d d' n os hH hg hsz) ?_ (Nat.lt_of_lt_of_le hg (Go.Proofs.size_sortWorldK_c encRF 2 w g 0 n d' os))
  refine sort_is S _ ?_ ?_
  · have h3 := hp.2.2
    rw [← hds, whole_extract d, ← hsz, whole_extract d'] at h3
    rw [← hdl]
    exact h3.map _
  · intro i j hi hj hij hlt
    rw [List.length_map, Array.length_toList] at hi hj
    have h4 := hs i j (Nat.zero_le _) hij (by omega)
    rw [at_idx d' j hj, at_idx d' i hi] at h4
    rw [List.getElem_map, List.getElem_map] at hlt
    rw [(ltF _ _).2 hlt] at h4
    cases h4
theorem sort_own (S : Nat → Bool) (w : World) (base : Nat) (v : Value) (hown : OwnL w base 65 2 v ((normS S).map rowN)) :
    ∃ A c, v = .slice A (sortS (normS S)).length c ∧ Calls Tryz.prog 141 #[.slice A (sortS (normS S)).length c, .func (.func 140) #[] #[]] w fun e w' => e = .returned (.tuple #[]) ∧ Turned (fun i => base ≤ i) w w' ∧ RunsAt w' w'.heap.size A (ints (sortS (normS S))) := by
  have hlen : (sortS (normS S)).length = (normS S).length := (sortS_perm _ (normS_cnt S) (normS_asc S)).length_eq.symm
  rcases hown.form with ⟨rfl, h0⟩ | ⟨g, cap, rfl, hg, hg2, _⟩
  · have hn0 : (normS S).length = 0 := by have := congrArg List.length h0; simpa using this
    have hm0 : (sortS (normS S)).length = 0 := by omega
    refine ⟨none, 0, by rw [hm0], ?_⟩
    rw [hm0]
    have hcon := Go.Proofs.AnyF.slices_SortFunc_none sortIv none 0 (.func (.func 140) #[] #[]) w
    change Calls Tryz.prog 141 _ _ _ at hcon
    refine hcon.mono ?_
    rintro e w' ⟨rfl, rfl⟩
    refine ⟨rfl, Turned.refl _ _, ?_⟩
    rw [List.eq_nil_of_length_eq_zero hm0]
    exact ⟨fun r hr => (List.not_mem_nil hr).elim, fun h => absurd h (by decide)⟩
  · rw [List.length_map] at hown ⊢
    refine ⟨some ⟨g, 0, none⟩, cap, by rw [hlen], ?_⟩
    rw [hlen]
    refine (sort_any g cap S w base hown).mono ?_
    rintro e w' ⟨rfl, ht, hr⟩
    exact ⟨rfl, ht.mono (fun k _ hk => by subst hk; exact hg), hr⟩
end Go.Proofs.YtnlaogneceanoaaGreat
namespace Go.Proofs.YtnlaogneceanoaaGreat
set_option linter.unusedVariables false
set_option linter.unusedSimpArgs false
set_option linter.unusedSectionVars false
open Go.RowKit
/-- The runs that are allocated, and the error. -/
def allocS (S : Nat → Bool) (n most : Int) : List (Nat × Nat) × Int :=
  if n < 1 ∨ most < 1 then ([], 1)
  else if (bestF n (normS S)).2 ≠ 0 then ([((bestF n (normS S)).1, n.toNat)], 0)
  else if n.toNat - cntL (sortS (normS S)) ≠ 0 ∨ most < ((takeR (sortS (normS S)) n.toNat).length : Int) then ([], 14)
  else (takeR (sortS (normS S)) n.toNat, 0)
def AllocR (w : World) (d : List (Nat × Nat) × Int) (e : Ending) (w' : World) : Prop := ∃ v, e = .returned (.tuple #[v, .int .i64 d.2]) ∧ OwnL w' w.heap.size 65 2 v (d.1.map rowN) ∧ Grew w w'
theorem OwnL.one {w : World} {base n : Nat} {r : Nat × Nat} (hb : base ≤ w.heap.size) (hn : n = w.heap.size) : OwnL (w.alloc (.cells #[.int .i64 (r.1 : Int), .int .i64 (r.2 : Int)] 65)) base 65 2 (.slice (some ⟨n, 0, none⟩) 1 1) ([r].map rowN) := by
  subst hn
  exact ⟨by simp [rowN], World.ownsRow_lit w _ 1 hb (by decide) (by simp)⟩
section
variable (A : Option Addr) (c : Nat) (l : List (Int × Int)) (w : World) (B : Nat) (hB : B ≤ w.heap.size) (hl : l.length ≤ 1000000) (hr : RunsAt w B A l) (n : Int) (n0 : -9223372036854775808 ≤ n) (n1 : n ≤ 9223372036854775807) (most : Int)
include hB hl hr n0 n1
set_option maxRecDepth 100000 in
set_option maxHeartbeats 4000000 in
theorem alloc_any : Calls Tryz.prog 88 #[.slice A l.length c, .int .i64 n, .int .i64 most] w (AllocR w (allocS (memS l) n most)) := by
  by_cases h1 : n < 1
  · have HE := Lib.hid (show allocS (memS l) n most = ([], 1) from by unfold allocS; rw [if_pos (.inl h1)])
    go_enter Tryz.func88, Tryz.ntmps88
    go_wp2_with fail
    go_returns
    rw [HE.out]
    exact ⟨_, rfl, OwnL.nil _ _ _ _, by (repeat' first | (with_reducible exact Grew.refl _) | (with_reducible assumption) | (with_reducible refine Grew.alloc ?_ _) | (with_reducible refine Grew.drew ?_) | (with_reducible refine Grew.drewN ?_ _) | (with_reducible refine Grew.setRow ?_ (by first | (simp; done) | (simp; omega) | omega) _) | (with_reducible refine Grew.setCell ?_ (by first | (simp; done) | (simp; omega) | omega) _) | ((with_reducible apply Grew.trans); rotate_left; (with_reducible assumption)) | ((with_reducible apply Grew.turn); rotate_left; (with_reducible assumption); (focus (intro i hi; first | omega | (simp at hi; omega)))) | fail)⟩
  by_cases h2 : most < 1
  · have HE := Lib.hid (show allocS (memS l) n most = ([], 1) from by unfold allocS; rw [if_pos (.inr h2)])
    go_enter Tryz.func88, Tryz.ntmps88
    go_wp2_with fail
    go_returns
    rw [HE.out]
    exact ⟨_, rfl, OwnL.nil _ _ _ _, by (repeat' first | (with_reducible exact Grew.refl _) | (with_reducible assumption) | (with_reducible refine Grew.alloc ?_ _) | (with_reducible refine Grew.drew ?_) | (with_reducible refine Grew.drewN ?_ _) | (with_reducible refine Grew.setRow ?_ (by first | (simp; done) | (simp; omega) | omega) _) | (with_reducible refine Grew.setCell ?_ (by first | (simp; done) | (simp; omega) | omega) _) | ((with_reducible apply Grew.trans); rotate_left; (with_reducible assumption)) | ((with_reducible apply Grew.turn); rotate_left; (with_reducible assumption); (focus (intro i hi; first | omega | (simp at hi; omega)))) | fail)⟩
  obtain ⟨nn, rfl⟩ : ∃ nn : Nat, n = (nn : Int) := ⟨n.toNat, by omega⟩
  have HS := Lib.hid (show allocS (memS l) (nn : Int) most = if (bestF (nn : Int) (normS (memS l))).2 ≠ 0 then ([((bestF (nn : Int) (normS (memS l))).1, nn)], 0) else if nn - cntL (sortS (normS (memS l))) ≠ 0 ∨ most < ((takeR (sortS (normS (memS l))) nn).length : Int) then ([], 14) else (takeR (sortS (normS (memS l))) nn, 0) from by unfold allocS; rw [if_neg (fun h => h.elim h1 h2)]; rfl)
  have hB0 := best_any A c l w B hB hl hr (nn : Int) n0 n1
  have hbb : bestS (memS l) (nn : Int) = if (bestF (nn : Int) (normS (memS l))).2 = 0 then ((0, 0), false) else ((((bestF (nn : Int) (normS (memS l))).1 : Int), (nn : Int)), true) := by
    unfold bestS
    by_cases hz : (bestF (nn : Int) (normS (memS l))).2 = 0
    · rw [if_pos (.inr hz), if_pos hz]
    · rw [if_neg (fun h => h.elim h1 hz), if_neg hz]
  rw [hbb] at hB0
  have hbd := normS_bd (memS l)
  have hfb := bestF_bd (nn : Int) (normS (memS l)) 128 hbd
  have hfm := bestF_mem (nn : Int) (normS (memS l))
  by_cases hz : (bestF (nn : Int) (normS (memS l))).2 = 0
  rotate_left
  · rw [if_neg hz] at hB0
    have hnl : nn ≤ 128 := by
      rcases hfm with h | ⟨_, h⟩
      · rw [h] at hz; exact absurd rfl hz
      · omega
    have HE := Lib.hid (show allocS (memS l) (nn : Int) most = ([((bestF (nn : Int) (normS (memS l))).1, nn)], 0) from by rw [HS.out, if_pos hz])
    generalize bestF (nn : Int) (normS (memS l)) = bb at *
    obtain ⟨bf, bc⟩ := bb
    simp only at hB0 HE hfb
    have HB0 := Lib.hid hB0
    clear hbb hB0 HS hz hfm
    go_enter Tryz.func88, Tryz.ntmps88
    go_wp2_with fail
    refine HB0.out.mono ?_
    rintro e w1 ⟨rfl, g1⟩
    have hws := g1.size
    go_wp2_with fail
    go_returns
    rw [HE.out]
    refine ⟨_, rfl, OwnL.one (r := (bf, nn)) ?_ ?_, by (repeat' first | (with_reducible exact Grew.refl _) | (with_reducible assumption) | (with_reducible refine Grew.alloc ?_ _) | (with_reducible refine Grew.drew ?_) | (with_reducible refine Grew.drewN ?_ _) | (with_reducible refine Grew.setRow ?_ (by first | (simp; done) | (simp; omega) | omega) _) | (with_reducible refine Grew.setCell ?_ (by first | (simp; done) | (simp; omega) | omega) _) | ((with_reducible apply Grew.trans); rotate_left; (with_reducible assumption)) | ((with_reducible apply Grew.turn); rotate_left; (with_reducible assumption); (focus (intro i hi; first | omega | (simp at hi; omega)))) | fail)⟩
    · simp; omega
    · simp
  rw [if_pos hz] at hB0
  have HS2 := Lib.hid (show allocS (memS l) (nn : Int) most = if nn - cntL (sortS (normS (memS l))) ≠ 0 ∨ most < ((takeR (sortS (normS (memS l))) nn).length : Int) then ([], 14) else (takeR (sortS (normS (memS l))) nn, 0) from by rw [HS.out, if_neg (fun h => h hz)])
  have HB0 := Lib.hid hB0
  have HC := Lib.hid (fun w' (g : Grew w w') => normal_any A c l w' B (Nat.le_trans hB g.size) hl (hr.keep hB g))
  have HSRT := Lib.hid (fun w base v h => sort_own (memS l) w base v h)
  have hml : (sortS (normS (memS l))).length ≤ 128 := by rw [← (sortS_perm _ (normS_cnt (memS l)) (normS_asc (memS l))).length_eq]; exact normS_len _
  have hmb : ∀ r ∈ sortS (normS (memS l)), r.1 + r.2 ≤ 128 := fun r hr => hbd r ((mem_sortS _ (normS_cnt (memS l)) r).1 hr)
  generalize sortS (normS (memS l)) = M at *
  have HMB := Lib.hid hmb
  clear hbb hB0 HS hz hfm hfb hr hbd hmb
  go_enter Tryz.func88, Tryz.ntmps88
  go_wp2_with fail
  refine HB0.out.mono ?_
  rintro e w1 ⟨rfl, g1⟩
  have hws := g1.size
  go_wp2_with fail
  refine (HC.out _ (by (repeat' first | (with_reducible exact Grew.refl _) | (with_reducible assumption) | (with_reducible refine Grew.alloc ?_ _) | (with_reducible refine Grew.drew ?_) | (with_reducible refine Grew.drewN ?_ _) | (with_reducible refine Grew.setRow ?_ (by first | (simp; done) | (simp; omega) | omega) _) | (with_reducible refine Grew.setCell ?_ (by first | (simp; done) | (simp; omega) | omega) _) | ((with_reducible apply Grew.trans); rotate_left; (with_reducible assumption)) | ((with_reducible apply Grew.turn); rotate_left; (with_reducible assumption); (focus (intro i hi; first | omega | (simp at hi; omega)))) | fail))).mono ?_
  rintro e w2 ⟨v, rfl, hown, g2⟩
  have hG : Grew w w2 := by (repeat' first | (with_reducible exact Grew.refl _) | (with_reducible assumption) | (with_reducible refine Grew.alloc ?_ _) | (with_reducible refine Grew.drew ?_) | (with_reducible refine Grew.drewN ?_ _) | (with_reducible refine Grew.setRow ?_ (by first | (simp; done) | (simp; omega) | omega) _) | (with_reducible refine Grew.setCell ?_ (by first | (simp; done) | (simp; omega) | omega) _) | ((with_reducible apply Grew.trans); rotate_left; (with_reducible assumption)) | ((with_reducible apply Grew.turn); rotate_left; (with_reducible assumption); (focus (intro i hi; first | omega | (simp at hi; omega)))) | fail)
  obtain ⟨A', c', hv, hsrt⟩ := HSRT.out _ _ _ hown
  subst hv
  have hwb : w.heap.size ≤ w1.heap.size + 1 := by omega
  clear hown HC HB0 g1 g2 HSRT
  go_wp2_with fail
  refine hsrt.mono ?_
  rintro e w3 ⟨rfl, ht, hr3⟩
  replace hG := hG.turn ht (fun i hi => by simp at hi; omega)
  have HR := Lib.hid hr3
  have hgs := hG.size
  clear hsrt ht hr3
  go_wp2_with fail
  go_loopg [1, 12, 37] M.length (fun gk nv ov i wr => ∃ k : Nat, k ≤ M.length ∧ gk = M.length - k ∧ i = .int .i64 k ∧ nv = .int .i64 ((nn - cntL (M.take k) : Nat) : Int) ∧ OwnL wr w3.heap.size 65 2 ov ((takeR (M.take k) nn).map rowN) ∧ Grew w3 wr)
  case atStart => exact ⟨0, by omega, by omega, rfl, by simp [cntL], OwnL.nil _ _ _ _, Grew.refl _⟩
  case round =>
    obtain ⟨k, hk, hgk, rfl, rfl, hown, hg⟩ := hrel
    have HGK := Lib.hid hgk
    clear hgk
    have htl := takeR_len (M.take k) nn
    have htk : (M.take k).length ≤ 128 := Nat.le_trans (List.length_take_le _ _) (by omega)
    have hws3 := hg.size
    obtain ⟨Av, cv, hv, hcv1, hcv2, -⟩ := hown.listAt
    rw [List.length_map] at hv hcv1
    subst hv
    by_cases hlt : k < M.length
    · obtain ⟨b, off, rfl, hb, x0, x1⟩ := runs_nat (HR.out.keep (Nat.le_refl _) hg) hlt
      have hbs : b < wr.heap.size := by omega
      have hrb := HMB.out _ (List.getElem_mem hlt)
      have HST := Lib.hid (takeR_snoc M k nn hlt)
      have HCN := Lib.hid (cntL_snoc M k hlt)
      have HTT := Lib.hid (fun h => takeR_stop (M.drop k) (M.take k) nn h)
      generalize M[k] = r at *
      obtain ⟨rf, rc⟩ := r
      simp only at x0 x1 hrb
      obtain ⟨m, hm⟩ : ∃ m, nn - cntL (M.take k) = m := ⟨_, rfl⟩
      rw [hm] at HST
      rw [hm]
      by_cases hm0 : m = 0
      · have HTT2 := HTT.out (by omega)
        rw [List.take_append_drop] at HTT2
        have hz0 : nn - cntL M = 0 := by
          have h9 := cntL_append (M.take k) (M.drop k)
          rw [List.take_append_drop] at h9
          omega
        rw [← HTT2] at hown htl
        have hownx := hown.alloc (.cells #[.int .i64 (rf : Int), .int .i64 (rc : Int)] 65)
        have hgx := hg.alloc (.cells #[.int .i64 (rf : Int), .int .i64 (rc : Int)] 65)
        have hb0 : ((m : Int) == 0) = true := beq_iff_eq.2 (by omega)
        rw [← HTT2]
        subst hm0
        clear HTT2 hm
        by_cases hl2 : most < ((takeR M nn).length : Int)
        · have HE := Lib.hid (show allocS (memS l) (nn : Int) most = ([], 14) from by rw [HS2.out]; exact if_pos (.inr hl2))
          go_wp2_with fail
          go_returns
          rw [HE.out]
          exact ⟨_, rfl, OwnL.nil _ _ _ _, hG.trans hgx⟩
        · have HE := Lib.hid (show allocS (memS l) (nn : Int) most = (takeR M nn, 0) from by rw [HS2.out]; exact if_neg (fun h => h.elim (fun h => h hz0) hl2))
          go_wp2_with fail
          go_returns
          rw [HE.out]
          exact ⟨_, rfl, hownx.mono hgs, hG.trans hgx⟩
      · have hb0 : ((m : Int) == 0) = false := beq_eq_false_iff_ne.2 (by omega)
        have HSN := Lib.hid (HST.out.trans (by rw [if_neg hm0]))
        obtain ⟨q, hq⟩ : ∃ q, min rc m = q := ⟨_, rfl⟩
        have hqi : min (rc : Int) (m : Int) = (q : Int) := by omega
        have hqm : q ≤ m := by omega
        have hqr : q ≤ rc := by omega
        have hmn : m ≤ nn := by omega
        have hmp : 0 < m := by omega
        rw [hq] at HSN
        have hown2 := hown.alloc (.cells #[.int .i64 (rf : Int), .int .i64 (q : Int)] 65)
        have hg2 := hg.alloc (.cells #[.int .i64 (rf : Int), .int .i64 (q : Int)] 65)
        have hnext : nn - cntL (M.take (k + 1)) = m - q := by rw [HCN.out]; show nn - (cntL (M.take k) + rc) = _; omega
        have HNX := Lib.hid hnext
        clear hnext hm0 hm HTT HCN hq
        go_wp2_with (at_builtin; (try rw [hqi]); refine wpList_push rfl _ _ 29 rfl w3.heap.size 65 2 16 _ Tryz.underlying29 info_run rfl (by decide) (wr.alloc (.cells #[.int .i64 (rf : Int), .int .i64 (q : Int)] 65)) _ ((takeR (M.take k) nn).map rowN) (rowN (rf, q)) (by rfl) rfl rfl hown2 (by first | rfl | (simp; done)) rfl rfl (by rw [List.length_map]; omega) (by rw [List.length_map]; omega) hg2.size ?_; intro v' w5 hown3 hgr hbk hsz)
        go_roundg (M.length - (k + 1))
        case measure => rw [HGK.out]; omega
        case rel => exact ⟨k + 1, by omega, by omega, by go_num, by rw [HNX.out]; go_num, by rw [HSN.out, List.map_append]; exact hown3, hgr _ hg2 (Nat.le_refl _)⟩
    · obtain rfl : k = M.length := by omega
      rw [List.take_length] at hown htl ⊢
      have hownx := hown
      have hgx := hg
      by_cases hz0 : nn - cntL M = 0
      · rw [hz0]
        by_cases hl2 : most < ((takeR M nn).length : Int)
        · have HE := Lib.hid (show allocS (memS l) (nn : Int) most = ([], 14) from by rw [HS2.out]; exact if_pos (.inr hl2))
          go_wp2_with fail
          go_returns
          rw [HE.out]
          exact ⟨_, rfl, OwnL.nil _ _ _ _, hG.trans hgx⟩
        · have HE := Lib.hid (show allocS (memS l) (nn : Int) most = (takeR M nn, 0) from by rw [HS2.out]; exact if_neg (fun h => h.elim (fun h => h hz0) hl2))
          go_wp2_with fail
          go_returns
          rw [HE.out]
          exact ⟨_, rfl, hownx.mono hgs, hG.trans hgx⟩
      · have HE := Lib.hid (show allocS (memS l) (nn : Int) most = ([], 14) from by rw [HS2.out]; exact if_pos (.inl hz0))
        generalize nn - cntL M = m at *
        have hm1 : 0 < m := by omega
        go_wp2_with fail
        go_returns
        rw [HE.out]
        exact ⟨_, rfl, OwnL.nil _ _ _ _, hG.trans hgx⟩
end
end Go.Proofs.YtnlaogneceanoaaGreat
