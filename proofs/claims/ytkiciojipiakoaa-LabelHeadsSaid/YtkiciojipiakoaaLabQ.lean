/- Chapter 7: Decode. -/
import Derived.Test.YtkiciojipiakoaaLabN
import Derived.Test.YtkiciojipiakoaaLabJ
import Derived.Test.YtkiciojipiakoaaPush
namespace Go.Proofs.Ytkiciojipiakoaa
set_option linter.unusedVariables false
set_option linter.unusedSimpArgs false
set_option linter.unusedSectionVars false
open Go.RowKit
attribute [local go_sem ↓] Go.wp_at_zero Go.wp_at_succ
/-- The runs that are read, one behind the other. -/
def rdK (m : Int) (s : ByteArray) (e : Int) : Nat → List (Int × Int) × ByteArray × Int
  | 0 => ([], s, e)
  | k + 1 => ((rdK m s e k).1 ++ [(((RCnt (rdK m s e k).2.1 (rdK m s e k).2.2 m).1 : Int), ((RCnt (RCnt (rdK m s e k).2.1 (rdK m s e k).2.2 m).2.1 (RCnt (rdK m s e k).2.1 (rdK m s e k).2.2 m).2.2 128).1 : Int))],
      (RCnt (RCnt (rdK m s e k).2.1 (rdK m s e k).2.2 m).2.1 (RCnt (rdK m s e k).2.1 (rdK m s e k).2.2 m).2.2 128).2.1, (RCnt (RCnt (rdK m s e k).2.1 (rdK m s e k).2.2 m).2.1 (RCnt (rdK m s e k).2.1 (rdK m s e k).2.2 m).2.2 128).2.2)
theorem rdK_len (m : Int) (s : ByteArray) (e : Int) (k : Nat) : (rdK m s e k).1.length = k := by
  induction k with
  | zero => rfl
  | succ k ih => show ((rdK m s e k).1 ++ [_]).length = _; rw [List.length_append, ih]; rfl
theorem rdK_size (m : Int) (s : ByteArray) (e : Int) (k : Nat) : (rdK m s e k).2.1.size ≤ s.size := by
  induction k with
  | zero => exact Nat.le_refl _
  | succ k ih => exact Nat.le_trans (RCnt_size _ _ _) (Nat.le_trans (RCnt_size _ _ _) ih)
def rI (s : ByteArray) := RCnt s 0 1099511627776
def rU (s : ByteArray) := RCnt (rI s).2.1 (rI s).2.2 1099511627776
def rN (s : ByteArray) := RTxt (rU s).2.1 (rU s).2.2 31
def rT (s : ByteArray) := RTxt (rN s).2.1 (rN s).2.2 400
def rC (s : ByteArray) := RCnt (rT s).2.1 (rT s).2.2 16
def rL (m : Int) (s : ByteArray) : Lab := ⟨((rI s).1 : Int), ((rU s).1 : Int), (rN s).1, (rT s).1, (rdK m (rC s).2.1 (rC s).2.2 (rC s).1).1⟩
def rE (m : Int) (s : ByteArray) : Int := (rdK m (rC s).2.1 (rC s).2.2 (rC s).1).2.2
theorem RCnt_bd (s : ByteArray) (e most : Int) (h0 : 0 ≤ most) : ((RCnt s e most).1 : Int) ≤ most := by
  unfold RCnt
  split
  · exact h0
  · split
    · exact h0
    · rename_i h; show ((RNum s e).1 : Int) ≤ most; omega
theorem rdK_next {m : Int} {s s1 s2 s3 : ByteArray} {e e1 e2 e3 : Int} {k a b : Nat} {L : List (Int × Int)} (h : rdK m s e k = (L, s1, e1)) (h1 : RCnt s1 e1 m = (a, s2, e2)) (h2 : RCnt s2 e2 128 = (b, s3, e3)) :
    rdK m s e (k + 1) = (L ++ [((a : Int), (b : Int))], s3, e3) := by simp only [rdK, h, h1, h2]
theorem rdK_ok (s : ByteArray) (e : Int) (k : Nat) : ∀ r ∈ (rdK 128 s e k).1, okRun r := by
  induction k with
  | zero => intro r hr; cases hr
  | succ k ih =>
    intro r hr
    rcases List.mem_append.1 hr with hr | hr
    · exact ih r hr
    · rw [List.mem_singleton.1 hr]
      have h1 := RCnt_bd (rdK 128 s e k).2.1 (rdK 128 s e k).2.2 128 (by omega)
      have h2 := RCnt_bd (RCnt (rdK 128 s e k).2.1 (rdK 128 s e k).2.2 128).2.1 (RCnt (rdK 128 s e k).2.1 (rdK 128 s e k).2.2 128).2.2 128 (by omega)
      exact ⟨by show -9223372036854775808 ≤ ((_ : Nat) : Int); omega, by show ((_ : Nat) : Int) ≤ 9223372036854775807; omega, by show -9223372036854775808 ≤ ((_ : Nat) : Int); omega, by show ((_ : Nat) : Int) ≤ 9223372036854775807; omega⟩
theorem rT_size (s : ByteArray) : (rT s).2.1.size ≤ s.size := Nat.le_trans (RTxt_size _ _ _) (Nat.le_trans (RTxt_size _ _ _) (Nat.le_trans (RCnt_size _ _ _) (RCnt_size _ _ _)))
def decP (s : ByteArray) (t : Int) : Lab × Int :=
  if okT t = false ∨ s.size ≠ 1024 then (labZ, 11) else if s = padS 1024 ⟨#[]⟩ then (labZ, 0)
  else if validL (rL 128 s) t = true ∧ encS (rL 128 s) t = s then (rL 128 s, 0) else (labZ, 11)
def DecR (w : World) (d : Lab × Int) (e : Ending) (w' : World) : Prop := ∃ A c, e = .returned (.tuple #[.agg #[.int .i64 d.1.id, .int .i64 d.1.unit, .string d.1.name, .string d.1.note, .slice A d.1.ext.length c], .int .i64 d.2]) ∧ LabAt w' A c d.1 ∧ Grew w w'
theorem decZ (w w' : World) (n : Int) (h : Grew w w') : DecR w (labZ, n) (.returned (.tuple #[.agg #[.int .i64 0, .int .i64 0, .string ⟨#[]⟩, .string ⟨#[]⟩, .slice none 0 0], .int .i64 n])) w' := ⟨none, 0, rfl, LabAt.zero _, h⟩
theorem str_ne {a b : ByteArray} (h : ¬ a = b) : (a.toList == b.toList) = false := beq_eq_false_iff_ne.2 (fun e => h (bytes_eq (by simpa [ByteArray.toList_eq] using e)))
theorem RTxt_sz (s : ByteArray) (e most : Int) : (RTxt s e most).1.size ≤ s.size := by
  unfold RTxt
  split
  · exact Nat.zero_le _
  · split
    · exact Nat.zero_le _
    · simp only [ByteArray.size_extract]
      have := RCnt_size s e most
      omega
set_option maxRecDepth 100000 in
set_option maxHeartbeats 4000000 in
theorem decode_lab (s : ByteArray) (t : Int) (w : World) (hs : s.size ≤ 9223372036854775807) (t0 : -9223372036854775808 ≤ t) (t1 : t ≤ 9223372036854775807) :
    Calls Try.prog 22 #[.string s, .int .i64 t] w (DecR w (decP s t)) := by
  have g0 := (Grew.refl w).alloc (.cells #[.int .i64 0, .int .i64 0, .string ⟨#[]⟩, .string ⟨#[]⟩, .slice none 0 0] 24)
  have HG0 := Lib.hid g0
  have HB0 := Lib.hid (Blk.new w 24 #[.int .i64 0, .int .i64 0, .string ⟨#[]⟩, .string ⟨#[]⟩, .slice none 0 0] rfl)
  clear g0
  cases ho : okT t with
  | false =>
    have HO := Lib.hid ho
    have HE := Lib.hid (show decP s t = (labZ, 11) from by unfold decP; rw [if_pos (.inl ho)])
    clear ho
    go_enter Try.func22, Try.ntmps22
    go_wp2_with fail
    refine (tracksOK_any _ _).mono ?_
    rintro e w1 ⟨rfl, rfl⟩
    rw [HO.out]
    go_wp2_with fail
    refine bodyPost_ret (by first | (simp [*, results, Try.results22, go_sem]; rfl) | simp [*, results, Try.results22, go_sem]) rfl ?_
    rw [HE.out]
    exact decZ _ _ _ (by (repeat' first | (with_reducible exact Grew.refl _) | (with_reducible assumption) | (with_reducible refine Grew.alloc ?_ _) | (with_reducible refine Grew.drew ?_) | (with_reducible refine Grew.drewN ?_ _) | (with_reducible refine Grew.setRow ?_ (by first | (simp; done) | (simp; omega) | omega) _) | (with_reducible refine Grew.setCell ?_ (by first | (simp; done) | (simp; omega) | omega) _) | ((with_reducible apply Grew.trans); rotate_left; (with_reducible assumption)) | ((with_reducible apply Grew.turn); rotate_left; (with_reducible assumption); (focus (intro i hi; first | omega | (simp at hi; omega)))) | fail))
  | true =>
    have HO := Lib.hid ho
    by_cases hz : s.size = 1024
    rotate_left
    · have hzi : ((s.size : Int) != 1024) = true := by rw [bne_iff_ne]; omega
      have HE := Lib.hid (show decP s t = (labZ, 11) from by unfold decP; rw [if_pos (.inr hz)])
      clear ho hz
      go_enter Try.func22, Try.ntmps22
      go_wp2_with fail
      refine (tracksOK_any _ _).mono ?_
      rintro e w1 ⟨rfl, rfl⟩
      rw [HO.out]
      go_wp2_with fail
      refine bodyPost_ret (by first | (simp [*, results, Try.results22, go_sem]; rfl) | simp [*, results, Try.results22, go_sem]) rfl ?_
      rw [HE.out]
      exact decZ _ _ _ (by (repeat' first | (with_reducible exact Grew.refl _) | (with_reducible assumption) | (with_reducible refine Grew.alloc ?_ _) | (with_reducible refine Grew.drew ?_) | (with_reducible refine Grew.drewN ?_ _) | (with_reducible refine Grew.setRow ?_ (by first | (simp; done) | (simp; omega) | omega) _) | (with_reducible refine Grew.setCell ?_ (by first | (simp; done) | (simp; omega) | omega) _) | ((with_reducible apply Grew.trans); rotate_left; (with_reducible assumption)) | ((with_reducible apply Grew.turn); rotate_left; (with_reducible assumption); (focus (intro i hi; first | omega | (simp at hi; omega)))) | fail))
    have hzi : ((s.size : Int) != 1024) = false := by rw [bne_eq_false_iff_eq]; omega
    have HSZ := Lib.hid hz
    have hsz1 : s.size ≤ 1024 := by omega
    obtain ⟨ZZ, hZZ⟩ : ∃ ZZ, padS 1024 ⟨#[]⟩ = ZZ := ⟨_, rfl⟩
    have HZZ := Lib.hid hZZ
    by_cases hs0 : s = ZZ
    · have HE := Lib.hid (show decP s t = (labZ, 0) from by unfold decP; rw [if_neg (by rw [ho]; simp [hz]), if_pos (by rw [hZZ]; exact hs0)])
      have HFI := fun w => Lib.hid (fill_any ⟨#[]⟩ w (by decide))
      rw [hZZ, ← hs0] at HFI
      clear ho hz hZZ hs0
      go_enter Try.func22, Try.ntmps22
      go_wp2_with fail
      refine (tracksOK_any _ _).mono ?_
      rintro e w1 ⟨rfl, rfl⟩
      rw [HO.out]
      go_wp2_with fail
      refine (HFI _).out.mono ?_
      rintro e w2 ⟨rfl, g2⟩
      have hb2 := HB0.out.grew g2
      have z0 := hb2.cell 0
      have f0 := hb2.frozen 0
      have z1 := hb2.cell 1
      have f1 := hb2.frozen 1
      have z2 := hb2.cell 2
      have f2 := hb2.frozen 2
      have z3 := hb2.cell 3
      have f3 := hb2.frozen 3
      have z4 := hb2.cell 4
      have f4 := hb2.frozen 4
      have hlb := hb2.lt
      go_wp2_with fail
      refine bodyPost_ret (by first | (simp [*, results, Try.results22, go_sem]; rfl) | simp [*, results, Try.results22, go_sem]) rfl ?_
      rw [HE.out]
      exact decZ _ _ _ (by (repeat' first | (with_reducible exact Grew.refl _) | (with_reducible assumption) | (with_reducible refine Grew.alloc ?_ _) | (with_reducible refine Grew.drew ?_) | (with_reducible refine Grew.drewN ?_ _) | (with_reducible refine Grew.setRow ?_ (by first | (simp; done) | (simp; omega) | omega) _) | (with_reducible refine Grew.setCell ?_ (by first | (simp; done) | (simp; omega) | omega) _) | ((with_reducible apply Grew.trans); rotate_left; (with_reducible assumption)) | ((with_reducible apply Grew.turn); rotate_left; (with_reducible assumption); (focus (intro i hi; first | omega | (simp at hi; omega)))) | fail))
    have hne := str_ne hs0
    have HFI := fun w => Lib.hid (fill_any ⟨#[]⟩ w (by decide))
    rw [hZZ] at HFI
    have HEE := Lib.hid (show decP s t = if validL (rL 128 s) t = true ∧ encS (rL 128 s) t = s then (rL 128 s, 0) else (labZ, 11) from by
      unfold decP; rw [if_neg (by rw [ho]; simp [hz]), if_neg (by rw [hZZ]; exact hs0)])
    clear ho hz hZZ hs0
    go_enter Try.func22, Try.ntmps22
    go_wp2_with fail
    refine (tracksOK_any _ _).mono ?_
    rintro e w1 ⟨rfl, rfl⟩
    rw [HO.out]
    go_wp2_with fail
    refine (HFI _).out.mono ?_
    rintro e w2 ⟨rfl, g2⟩
    go_wp2_with fail
    refine (newReader_any s _).mono ?_
    rintro e w3 ⟨g, rfl, hgg, g3, hr3⟩
    have hG := g2.trans g3
    have hgl : w.heap.size + 1 ≤ g := by have := g2.size; simp at this; omega
    have hI := RCnt_bd s 0 1099511627776 (by omega)
    have hIs := RCnt_size s 0 1099511627776
    clear g2 g3 hgg hI hIs
    obtain ⟨w0, hw0⟩ : ∃ w0, w0 = (w.alloc (.cells #[.int .i64 0, .int .i64 0, .string ⟨#[]⟩, .string ⟨#[]⟩, .slice none 0 0] 24)) := ⟨_, rfl⟩
    have hw0s : w0.heap.size = w.heap.size + 1 := by rw [hw0]; simp
    rw [← hw0] at hG HG0 HB0
    clear hw0
    obtain ⟨⟨i1, s1, e1⟩, hX1⟩ : ∃ X, RCnt s 0 1099511627776 = X := ⟨_, rfl⟩
    have HX1 := Lib.hid hX1
    have zz := RCnt_size s 0 1099511627776
    rw [hX1] at zz
    have zs1 : s1.size ≤ 1024 := Nat.le_trans zz (by omega)
    have C := rcount_any g s 0 1099511627776 w3 hr3 (by omega) (by omega) (by omega)
    rw [hX1] at C
    have bi1 := RCnt_bd s 0 1099511627776 (by omega)
    rw [hX1] at bi1
    have bi1 : (i1 : Int) ≤ 1099511627776 := bi1
    clear hX1 zz
    go_wp2_with fail
    refine C.mono ?_
    rintro e w4 ⟨rfl, t1, hr1⟩
    replace hG := hG.turn t1 (fun _ hk => by omega)
    have hgs1 := t1.size
    clear C t1 hr3
    obtain ⟨⟨u1, s2, e2⟩, hX2⟩ : ∃ X, RCnt s1 e1 1099511627776 = X := ⟨_, rfl⟩
    have HX2 := Lib.hid hX2
    have zz := RCnt_size s1 e1 1099511627776
    rw [hX2] at zz
    have zs2 : s2.size ≤ 1024 := Nat.le_trans zz (by omega)
    have C := rcount_any g s1 e1 1099511627776 w4 hr1 (by omega) (by omega) (by omega)
    rw [hX2] at C
    have bu1 := RCnt_bd s1 e1 1099511627776 (by omega)
    rw [hX2] at bu1
    have bu1 : (u1 : Int) ≤ 1099511627776 := bu1
    clear hX2 zz
    go_wp2_with fail
    refine C.mono ?_
    rintro e w5 ⟨rfl, t2, hr2⟩
    replace hG := hG.turn t2 (fun _ hk => by omega)
    have hgs2 := t2.size
    clear C t2 hr1
    obtain ⟨⟨n1, s3, e3⟩, hX3⟩ : ∃ X, RTxt s2 e2 31 = X := ⟨_, rfl⟩
    have HX3 := Lib.hid hX3
    have zz := RTxt_size s2 e2 31
    rw [hX3] at zz
    have zs3 : s3.size ≤ 1024 := Nat.le_trans zz (by omega)
    have C := rtext_any g s2 e2 31 w5 hr2 (by omega) (by omega) (by omega)
    rw [hX3] at C
    have bn1 := RTxt_sz s2 e2 31
    rw [hX3] at bn1
    have bn1 : n1.size ≤ 1024 := Nat.le_trans bn1 (by omega)
    clear hX3 zz
    go_wp2_with fail
    refine C.mono ?_
    rintro e w6 ⟨rfl, t3, hr3⟩
    replace hG := hG.turn t3 (fun _ hk => by omega)
    have hgs3 := t3.size
    clear C t3 hr2
    obtain ⟨⟨o1, s4, e4⟩, hX4⟩ : ∃ X, RTxt s3 e3 400 = X := ⟨_, rfl⟩
    have HX4 := Lib.hid hX4
    have zz := RTxt_size s3 e3 400
    rw [hX4] at zz
    have zs4 : s4.size ≤ 1024 := Nat.le_trans zz (by omega)
    have C := rtext_any g s3 e3 400 w6 hr3 (by omega) (by omega) (by omega)
    rw [hX4] at C
    have bo1 := RTxt_sz s3 e3 400
    rw [hX4] at bo1
    have bo1 : o1.size ≤ 1024 := Nat.le_trans bo1 (by omega)
    clear hX4 zz
    go_wp2_with fail
    refine C.mono ?_
    rintro e w7 ⟨rfl, t4, hr4⟩
    replace hG := hG.turn t4 (fun _ hk => by omega)
    have hgs4 := t4.size
    clear C t4 hr3
    have hgl7 := hr4.lt
    have HBL := Lib.hid (Blk.new w7 24 #[.int .i64 (i1 : Int), .int .i64 (u1 : Int), .string n1, .string o1, .slice none 0 0] rfl)
    have hr4a := hr4.alloc (.cells #[.int .i64 (i1 : Int), .int .i64 (u1 : Int), .string n1, .string o1, .slice none 0 0] 24)
    have hGa := hG.alloc (.cells #[.int .i64 (i1 : Int), .int .i64 (u1 : Int), .string n1, .string o1, .slice none 0 0] 24)
    obtain ⟨w8, hw8⟩ : ∃ w8, w8 = w7.alloc (.cells #[.int .i64 (i1 : Int), .int .i64 (u1 : Int), .string n1, .string o1, .slice none 0 0] 24) := ⟨_, rfl⟩
    have hw8s : w8.heap.size = w7.heap.size + 1 := by rw [hw8]; simp
    rw [← hw8] at hr4a hGa HBL
    clear hr4 hG
    go_wp2_with fail
    rw [← hw8]
    clear hw8
    obtain ⟨⟨c5, s5, e5⟩, hX5⟩ : ∃ X, RCnt s4 e4 16 = X := ⟨_, rfl⟩
    have HX5 := Lib.hid hX5
    have zz := RCnt_size s4 e4 16
    rw [hX5] at zz
    have zs5 : s5.size ≤ 1024 := Nat.le_trans zz (by omega)
    have C := rcount_any g s4 e4 16 w8 hr4a (by omega) (by omega) (by omega)
    rw [hX5] at C
    have bc5 := RCnt_bd s4 e4 16 (by omega)
    rw [hX5] at bc5
    have bc5 : (c5 : Int) ≤ 16 := bc5
    clear hX5 zz
    refine C.mono ?_
    rintro e w9 ⟨rfl, t5, hr5⟩
    have hGb := hGa.turn t5 (fun _ hk => by omega)
    have hw9 := t5.size
    have HBM := HBL.out.turned t5 (by omega)
    have HLL := Lib.hid (show ∀ L s6 e6, rdK 128 s5 e5 c5 = (L, s6, e6) → rL 128 s = ⟨(i1 : Int), (u1 : Int), n1, o1, L⟩ from by
      intro L s6 e6 h6
      have q1 : rI s = (i1, s1, e1) := HX1.out
      have q2 : rU s = (u1, s2, e2) := by unfold rU; rw [q1]; exact HX2.out
      have q3 : rN s = (n1, s3, e3) := by unfold rN; rw [q2]; exact HX3.out
      have q4 : rT s = (o1, s4, e4) := by unfold rT; rw [q3]; exact HX4.out
      have q5 : rC s = (c5, s5, e5) := by unfold rC; rw [q4]; exact HX5.out
      unfold rL
      rw [q1, q2, q3, q4, q5]
      simp only [h6])
    clear hr4a hGa C t5 HX1 HX2 HX3 HX4 HX5 HBL hgs1 hgs2 hgs3 hgs4
    go_wp2_with fail
    go_loopg [34] c5 (fun gk i wr => ∃ (k : Nat) (v : Value) (L : List (Int × Int)) (sk : ByteArray) (ek : Int), k ≤ c5 ∧ gk = c5 - k ∧ i = .int .i64 k ∧ rdK 128 s5 e5 k = (L, sk, ek) ∧ OwnL wr (w7.heap.size + 1) 43 2 v (L.map runC) ∧ Blk wr w7.heap.size 24 #[.int .i64 (i1 : Int), .int .i64 (u1 : Int), .string n1, .string o1, v] ∧ Rd wr g sk ek ∧ Grew w0 wr)
    case atStart => exact ⟨0, .slice none 0 0, [], s5, e5, by omega, by omega, rfl, rfl, OwnL.nil _ _ _ _, HBM, hr5, hGb⟩
    clear HBM hr5 hGb hw9
    case round =>
      obtain ⟨k, v, L, sk, ek, hk, hgk, rfl, hrk, hown, hbl, hrd, hgw⟩ := hrel
      have HGK := Lib.hid hgk
      have HRK := Lib.hid hrk
      have hln : L.length = k := by have := rdK_len 128 s5 e5 k; rw [hrk] at this; exact this
      have hsk : sk.size ≤ 1024 := by have := rdK_size 128 s5 e5 k; rw [hrk] at this; exact Nat.le_trans this zs5
      have HOK := Lib.hid (show ∀ r ∈ L, okRun r from by have := rdK_ok s5 e5 k; rw [hrk] at this; exact this)
      obtain ⟨A, cv, hv, hlc, hcc, hla0⟩ := hown.listAt
      have HLA0 := Lib.hid hla0
      clear hla0
      rw [List.length_map, hln] at hv hlc
      subst hv
      clear hgk hrk
      by_cases hlt : k < c5
      · obtain ⟨⟨a1, sa, ea⟩, hXA⟩ : ∃ X, RCnt sk ek 128 = X := ⟨_, rfl⟩
        obtain ⟨⟨b1, sb, eb⟩, hXB⟩ : ∃ X, RCnt sa ea 128 = X := ⟨_, rfl⟩
        have HNX := Lib.hid (rdK_next HRK.out hXA hXB)
        have zz := RCnt_size sk ek 128
        rw [hXA] at zz
        have zsa : sa.size ≤ 1024 := Nat.le_trans zz (by omega)
        have CA := fun w h => rcount_any g sk ek 128 w h (by omega) (by omega) (by omega)
        rw [hXA] at CA
        have CB := fun w h => rcount_any g sa ea 128 w h (by omega) (by omega) (by omega)
        rw [hXB] at CB
        have ba1 := RCnt_bd sk ek 128 (by omega)
        rw [hXA] at ba1
        have ba1 : (a1 : Int) ≤ 128 := ba1
        have bb1 := RCnt_bd sa ea 128 (by omega)
        rw [hXB] at bb1
        have bb1 : (b1 : Int) ≤ 128 := bb1
        clear hXA hXB zz
        have HO := Lib.hid hown
        have HL := Lib.hid hbl
        have hlw := hbl.lt
        clear hown hbl
        go_wp2_with fail
        refine wp_region_R [10] (fun w' : World => w'.cell? ⟨w7.heap.size, 4, none⟩ = some (.slice A k cv)) (by kernel_rfl) ?_
        have hS := (show (fun w' : World => w'.cell? ⟨w7.heap.size, 4, none⟩ = some (.slice A k cv)) _ from HL.out.drew.cell 4)
        refine wpAnyR_takeQ (i := 0) (v := ?_) (some 36) rfl rfl (by kernel_rfl) (by kernel_rfl) (by kernel_rfl) (by kernel_rfl) (fun _ _ _ h => h) (Or.inl ⟨by rfl, ?_⟩) ?_
        rotate_left
        focus (intro wS hSw; (try dsimp only at hSw); go_simp; (try with_reducible rfl); (try (first | (rw [if_pos (by omega)]; (try go_simp); (try with_reducible rfl)) | (rw [if_neg (by omega)]; (try go_simp); (try with_reducible rfl)))))
        try simp only [Act.put, List.setIfInBounds_toArray, List.set_cons_zero, List.set_cons_succ]
        refine wpAnyR_take (i := 1) (v := ?_) [8, 9, 10] (some 37) rfl rfl (by kernel_rfl) (by kernel_rfl) (by kernel_rfl) (by kernel_rfl) (by kernel_rfl) (by kernel_rfl) (by kernel_rfl) (fun _ _ _ h => h) (Or.inl ⟨by rfl, ?_⟩) hS ?_
        rotate_left
        focus (intro wS hSw; (try dsimp only at hSw); go_simp; (try with_reducible rfl); (try (first | (rw [if_pos (by omega)]; (try go_simp); (try with_reducible rfl)) | (rw [if_neg (by omega)]; (try go_simp); (try with_reducible rfl)))))
        try simp only [Act.put, List.setIfInBounds_toArray, List.set_cons_zero, List.set_cons_succ]
        refine wpAnyR_takeQ (i := 2) (v := ?_) (some 38) rfl rfl (by kernel_rfl) (by kernel_rfl) (by kernel_rfl) (by kernel_rfl) (fun _ _ _ h => h) (Or.inl ⟨by rfl, ?_⟩) ?_
        rotate_left
        focus (intro wS hSw; (try dsimp only at hSw); go_simp; (try with_reducible rfl); (try (first | (rw [if_pos (by omega)]; (try go_simp); (try with_reducible rfl)) | (rw [if_neg (by omega)]; (try go_simp); (try with_reducible rfl)))))
        try simp only [Act.put, List.setIfInBounds_toArray, List.set_cons_zero, List.set_cons_succ]
        refine wpAnyR_takeQ (i := 4) (v := ?_) (some 40) rfl rfl (by kernel_rfl) (by kernel_rfl) (by kernel_rfl) (by kernel_rfl) (fun _ _ _ h => h) (Or.inl ⟨by rfl, ?_⟩) ?_
        rotate_left
        focus (intro wS hSw; (try dsimp only at hSw); go_simp; (try with_reducible rfl); (try (first | (rw [if_pos (by omega)]; (try go_simp); (try with_reducible rfl)) | (rw [if_neg (by omega)]; (try go_simp); (try with_reducible rfl)))))
        try simp only [Act.put, List.setIfInBounds_toArray, List.set_cons_zero, List.set_cons_succ]
        refine wpAnyR_n1 (i := 3) rfl (by kernel_rfl) ?_
        intro K' hK
        rw [if_pos (by rfl)]
        simp only [List.getElem_toArray, List.getElem_cons_succ, List.getElem_cons_zero]
        go_wp2_with fail
        refine (CA _ hrd.drew).mono ?_
        rintro e wa ⟨rfl, ta, hra⟩
        have ga := (hgw.drew).turn ta (fun _ hk => by omega)
        have hla := (HL.out.drew).turned ta (by omega)
        have hoa := (HO.out.drew).kept ta (fun q hq hqg => by have := (HO.out.own_ge hq).1; omega)
        have hsa : wr.heap.size ≤ wa.heap.size := ta.size
        go_wp2_with fail
        refine hK.out _ _ (.inr (fun _ => hla.cell 4)) ?_
        clear hK hS ta
        refine wpAnyR_n1 (i := 5) rfl (by kernel_rfl) ?_
        intro K' hK
        rw [if_pos (by rfl)]
        simp only [List.getElem_toArray, List.getElem_cons_succ, List.getElem_cons_zero]
        go_wp2_with fail
        refine (CB _ hra).mono ?_
        rintro e wb ⟨rfl, tb, hrb⟩
        have gb := ga.turn tb (fun _ hk => by omega)
        have hlb := hla.turned tb (by omega)
        have hob := hoa.kept tb (fun q hq hqg => by have := (hoa.own_ge hq).1; omega)
        have hsb : wa.heap.size ≤ wb.heap.size := tb.size
        go_wp2_with fail
        refine hK.out _ _ (.inr (fun _ => hlb.cell 4)) ?_
        clear hK tb
        refine wpAnyR_takeQ (i := 6) (v := ?_) (some 42) rfl rfl (by kernel_rfl) (by kernel_rfl) (by kernel_rfl) (by kernel_rfl) (fun _ _ _ h => h) (Or.inl ⟨by rfl, ?_⟩) ?_
        rotate_left
        focus (intro wS hSw; (try dsimp only at hSw); go_simp; (try with_reducible rfl); (try (first | (rw [if_pos (by omega)]; (try go_simp); (try with_reducible rfl)) | (rw [if_neg (by omega)]; (try go_simp); (try with_reducible rfl)))))
        try simp only [Act.put, List.setIfInBounds_toArray, List.set_cons_zero, List.set_cons_succ]
        refine wpAnyR_n1 (i := 7) rfl (by kernel_rfl) ?_
        intro K' hK
        rw [if_pos (by rfl)]
        simp only [List.getElem_toArray, List.getElem_cons_succ, List.getElem_cons_zero]
        go_wp2_with fail
        have gc := gb.alloc (.cells #[.int .i64 (a1 : Int), .int .i64 (b1 : Int)] 43)
        have hbc := Blk.new wb 43 #[.int .i64 (a1 : Int), .int .i64 (b1 : Int)] rfl
        have hlc' := hlb.alloc (.cells #[.int .i64 (a1 : Int), .int .i64 (b1 : Int)] 43)
        have hoc := hob.alloc (.cells #[.int .i64 (a1 : Int), .int .i64 (b1 : Int)] 43)
        have hrc := hrb.alloc (.cells #[.int .i64 (a1 : Int), .int .i64 (b1 : Int)] 43)
        refine hK.out _ _ (.inr (fun _ => hlc'.cell 4)) ?_
        clear hK
        refine wpAnyR_n1 (i := 8) rfl (by kernel_rfl) ?_
        intro K' hK
        rw [if_pos (by rfl)]
        simp only [List.getElem_toArray, List.getElem_cons_succ, List.getElem_cons_zero]
        refine wp_push (.tmp 37) (.tmp 43) 22 rfl (w7.heap.size + 1) 43 2 16 _ Try.underlying22 info_run rfl (by decide) _ _ (L.map runC) (runC ((a1 : Int), (b1 : Int))) rfl rfl hoc _ rfl hbc rfl (by rw [List.length_map]; omega) (by rw [List.length_map]; omega) (by simp; omega) k (by rw [List.length_map, hln]) ?_
        intro g6 c6 w6' hown6 hgr6 hat6 hlt6
        have g6' : Grew w0 w6' := Grew.own gc hgr6 (fun q hq => by have := (hoc.own_ge hq).1; omega) (Nat.le_refl _)
        have hl6 := hlc'.own hgr6 (fun hq => by have := (hoc.own_ge hq).1; omega)
        have hr6 := hrc.own hgr6 (fun hq => by have := (hoc.own_ge hq).1; omega)
        refine hK.out _ _ (.inr (fun _ => hl6.cell 4)) ?_
        have z4 := hl6.cell 4
        have f4 := hl6.frozen 4
        have HO6 := Lib.hid hown6
        clear hK hgr6 hat6 hown6
        refine wpAnyR_takeQ (i := 9) (v := ?_) (some 45) rfl rfl (by kernel_rfl) (by kernel_rfl) (by kernel_rfl) (by kernel_rfl) (fun _ _ _ h => h) (Or.inl ⟨by rfl, ?_⟩) ?_
        rotate_left
        focus (intro wS hSw; (try dsimp only at hSw); go_simp; (try with_reducible rfl); (try (first | (rw [if_pos (by omega)]; (try go_simp); (try with_reducible rfl)) | (rw [if_neg (by omega)]; (try go_simp); (try with_reducible rfl)))))
        try simp only [Act.put, List.setIfInBounds_toArray, List.set_cons_zero, List.set_cons_succ]
        refine wpAnyR_n1 (i := 10) rfl (by kernel_rfl) ?_
        intro K' hK
        rw [if_pos (by rfl)]
        simp only [List.getElem_toArray, List.getElem_cons_succ, List.getElem_cons_zero]
        go_wp2_with fail
        refine hK.out _ _ (.inl rfl) ?_
        refine wpAnyR_done (by kernel_rfl) ?_ _
        have hl7 := hl6.set_ 4 (.slice (some ⟨g6, 0, none⟩) (k + 1) c6)
        have hr7 : Rd _ g sb eb := hr6.far (p := ⟨w7.heap.size, 4, none⟩) (by show g ≠ w7.heap.size; omega) (.slice (some ⟨g6, 0, none⟩) (k + 1) c6)
        have ho7 := HO6.out.far (p := ⟨w7.heap.size, 4, none⟩) (fun hq => by have : w7.heap.size + 1 ≤ w7.heap.size := (HO6.out.own_ge hq).1; omega) (.slice (some ⟨g6, 0, none⟩) (k + 1) c6)
        have g7 := g6'.setCell (p := ⟨w7.heap.size, 4, none⟩) (by show w0.heap.size ≤ w7.heap.size; omega) (.slice (some ⟨g6, 0, none⟩) (k + 1) c6)
        clear z4 f4 hK
        go_wp2_with fail
        go_roundg (c5 - (k + 1))
        case measure => rw [HGK.out]; omega
        case rel => exact ⟨k + 1, _, _, sb, eb, by omega, by omega, by go_num, HNX.out, by rw [List.map_append]; exact ho7, hl7, hr7, g7⟩
      · obtain rfl : k = c5 := by omega
        have HRL := Lib.hid (HLL.out _ _ _ HRK.out)
        subst hln
        have HLA := Lib.hid (show LabAt wr A cv ⟨(i1 : Int), (u1 : Int), n1, o1, L⟩ from ⟨by show -9223372036854775808 ≤ ((_ : Nat) : Int); omega, by show ((_ : Nat) : Int) ≤ 9223372036854775807; omega, by show -9223372036854775808 ≤ ((_ : Nat) : Int); omega, by show ((_ : Nat) : Int) ≤ 9223372036854775807; omega, by show n1.size ≤ _; omega, by show o1.size ≤ _; omega, ⟨HOK.out, HLA0.out⟩, hlc, hcc⟩)
        have hlw := hbl.lt
        have x0 := hbl.cell 0
        have x1 := hbl.cell 1
        have x2 := hbl.cell 2
        have x3 := hbl.cell 3
        have x4 := hbl.cell 4
        have HBL := Lib.hid hbl
        have HB1 := Lib.hid (HB0.out.grew hgw)
        have hGr := Lib.hid (HG0.out.trans hgw)
        have HOW := Lib.hid hown
        clear hbl hown hrd
        have CV := fun w h => valid_lab A cv ⟨(i1 : Int), (u1 : Int), n1, o1, L⟩ t w h (by show L.length ≤ 100000; omega)
        cases hvl : validL ⟨(i1 : Int), (u1 : Int), n1, o1, L⟩ t with
        | false =>
          have HE := Lib.hid (show decP s t = (labZ, 11) from by rw [HEE.out, HRL.out, hvl]; simp)
          rw [hvl] at CV
          clear hvl
          go_wp2_with fail
          refine (CV _ HLA.out).mono ?_
          rintro e wv ⟨rfl, gv⟩
          have hb2 := HB1.out.grew gv
          have z0 := hb2.cell 0
          have f0 := hb2.frozen 0
          have z1 := hb2.cell 1
          have f1 := hb2.frozen 1
          have z2 := hb2.cell 2
          have f2 := hb2.frozen 2
          have z3 := hb2.cell 3
          have f3 := hb2.frozen 3
          have z4 := hb2.cell 4
          have f4 := hb2.frozen 4
          have hlb := hb2.lt
          clear x0 x1 x2 x3 x4
          go_wp2_with fail
          refine bodyPost_ret (by first | (simp [*, results, Try.results22, go_sem]; rfl) | simp [*, results, Try.results22, go_sem]) rfl ?_
          rw [HE.out]
          have hgv := hGr.out.trans gv
          exact decZ _ _ _ (by (repeat' first | (with_reducible exact Grew.refl _) | (with_reducible assumption) | (with_reducible refine Grew.alloc ?_ _) | (with_reducible refine Grew.drew ?_) | (with_reducible refine Grew.drewN ?_ _) | (with_reducible refine Grew.setRow ?_ (by first | (simp; done) | (simp; omega) | omega) _) | (with_reducible refine Grew.setCell ?_ (by first | (simp; done) | (simp; omega) | omega) _) | ((with_reducible apply Grew.trans); rotate_left; (with_reducible assumption)) | ((with_reducible apply Grew.turn); rotate_left; (with_reducible assumption); (focus (intro i hi; first | omega | (simp at hi; omega)))) | fail))
        | true =>
          have CE := fun w h => encode_lab A cv ⟨(i1 : Int), (u1 : Int), n1, o1, L⟩ t w h (by show L.length ≤ 100000; omega) t0 t1
          rw [hvl] at CV
          obtain ⟨EE, hEE⟩ : ∃ EE, encS ⟨(i1 : Int), (u1 : Int), n1, o1, L⟩ t = EE := ⟨_, rfl⟩
          rw [hEE] at CE
          have HEQ := Lib.hid hEE
          by_cases hes : EE = s
          · have HE := Lib.hid (show decP s t = (⟨(i1 : Int), (u1 : Int), n1, o1, L⟩, 0) from by rw [HEE.out, HRL.out, hvl, HEQ.out, hes]; simp)
            rw [hes] at CE
            clear hvl hEE hes
            go_wp2_with fail
            refine (CV _ HLA.out).mono ?_
            rintro e wv ⟨rfl, gv⟩
            have HBV := Lib.hid (HBL.out.grew gv)
            have hlv := HBV.out.lt
            have y0 := HBV.out.cell 0
            have y1 := HBV.out.cell 1
            have y2 := HBV.out.cell 2
            have y3 := HBV.out.cell 3
            have y4 := HBV.out.cell 4
            clear x0 x1 x2 x3 x4 hlw
            go_wp2_with fail
            refine (CE _ (HLA.out.hold gv)).mono ?_
            rintro e we ⟨rfl, ge⟩
            have HBW := Lib.hid (HBV.out.grew ge)
            have hlx := HBW.out.lt
            have x0 := HBW.out.cell 0
            have x1 := HBW.out.cell 1
            have x2 := HBW.out.cell 2
            have x3 := HBW.out.cell 3
            have x4 := HBW.out.cell 4
            have hb2 := (HB1.out.grew gv).grew ge
            have z0 := hb2.cell 0
            have f0 := hb2.frozen 0
            have z1 := hb2.cell 1
            have f1 := hb2.frozen 1
            have z2 := hb2.cell 2
            have f2 := hb2.frozen 2
            have z3 := hb2.cell 3
            have f3 := hb2.frozen 3
            have z4 := hb2.cell 4
            have f4 := hb2.frozen 4
            have hlb := hb2.lt
            clear y0 y1 y2 y3 y4 hlv
            go_wp2_with fail
            refine bodyPost_ret (by first | (simp [*, results, Try.results22, go_sem]; rfl) | simp [*, results, Try.results22, go_sem]) rfl ?_
            rw [HE.out]
            have hgv := (hGr.out.trans gv).trans ge
            have hT := (((((((gv.trans ge).turned (fun q => q = w.heap.size)).setCell (p := ⟨w.heap.size, 0, none⟩) (fun _ => rfl) (.int .i64 (i1 : Int))).setCell (p := ⟨w.heap.size, 1, none⟩) (fun _ => rfl) (.int .i64 (u1 : Int))).setCell (p := ⟨w.heap.size, 2, none⟩) (fun _ => rfl) (.string n1)).setCell (p := ⟨w.heap.size, 3, none⟩) (fun _ => rfl) (.string o1)).setCell (p := ⟨w.heap.size, 4, none⟩) (fun _ => rfl) (.slice A L.length cv))
            have hk := HOW.out.kept hT (fun q hq hqg => by have : w7.heap.size + 1 ≤ q := (HOW.out.own_ge hq).1; omega)
            obtain ⟨A', c', hv', -, -, hl'⟩ := hk.listAt
            rw [List.length_map] at hv'
            simp only [Value.slice.injEq] at hv'
            obtain ⟨rfl, -, rfl⟩ := hv'
            exact ⟨A, cv, rfl, ⟨HLA.out.id0, HLA.out.id1, HLA.out.unit0, HLA.out.unit1, HLA.out.name, HLA.out.note, ⟨HOK.out, hl'⟩, HLA.out.len, HLA.out.cap⟩, by (repeat' first | (with_reducible exact Grew.refl _) | (with_reducible assumption) | (with_reducible refine Grew.alloc ?_ _) | (with_reducible refine Grew.drew ?_) | (with_reducible refine Grew.drewN ?_ _) | (with_reducible refine Grew.setRow ?_ (by first | (simp; done) | (simp; omega) | omega) _) | (with_reducible refine Grew.setCell ?_ (by first | (simp; done) | (simp; omega) | omega) _) | ((with_reducible apply Grew.trans); rotate_left; (with_reducible assumption)) | ((with_reducible apply Grew.turn); rotate_left; (with_reducible assumption); (focus (intro i hi; first | omega | (simp at hi; omega)))) | fail)⟩
          · have HE := Lib.hid (show decP s t = (labZ, 11) from by rw [HEE.out, HRL.out, hvl, HEQ.out]; simp [hes])
            have hns := str_ne hes
            clear hvl hEE hes
            go_wp2_with fail
            refine (CV _ HLA.out).mono ?_
            rintro e wv ⟨rfl, gv⟩
            have HBV := Lib.hid (HBL.out.grew gv)
            have hlv := HBV.out.lt
            have y0 := HBV.out.cell 0
            have y1 := HBV.out.cell 1
            have y2 := HBV.out.cell 2
            have y3 := HBV.out.cell 3
            have y4 := HBV.out.cell 4
            clear x0 x1 x2 x3 x4 hlw
            go_wp2_with fail
            refine (CE _ (HLA.out.hold gv)).mono ?_
            rintro e we ⟨rfl, ge⟩
            have hb2 := (HB1.out.grew gv).grew ge
            have z0 := hb2.cell 0
            have f0 := hb2.frozen 0
            have z1 := hb2.cell 1
            have f1 := hb2.frozen 1
            have z2 := hb2.cell 2
            have f2 := hb2.frozen 2
            have z3 := hb2.cell 3
            have f3 := hb2.frozen 3
            have z4 := hb2.cell 4
            have f4 := hb2.frozen 4
            have hlb := hb2.lt
            clear y0 y1 y2 y3 y4 hlv
            go_wp2_with fail
            refine bodyPost_ret (by first | (simp [*, results, Try.results22, go_sem]; rfl) | simp [*, results, Try.results22, go_sem]) rfl ?_
            rw [HE.out]
            have hgv := (hGr.out.trans gv).trans ge
            exact decZ _ _ _ (by (repeat' first | (with_reducible exact Grew.refl _) | (with_reducible assumption) | (with_reducible refine Grew.alloc ?_ _) | (with_reducible refine Grew.drew ?_) | (with_reducible refine Grew.drewN ?_ _) | (with_reducible refine Grew.setRow ?_ (by first | (simp; done) | (simp; omega) | omega) _) | (with_reducible refine Grew.setCell ?_ (by first | (simp; done) | (simp; omega) | omega) _) | ((with_reducible apply Grew.trans); rotate_left; (with_reducible assumption)) | ((with_reducible apply Grew.turn); rotate_left; (with_reducible assumption); (focus (intro i hi; first | omega | (simp at hi; omega)))) | fail))
end Go.Proofs.Ytkiciojipiakoaa
