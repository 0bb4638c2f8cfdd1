/- Chapter 7, plain: what is written is read again; both sides decode alike. -/
import Derived.Test.YtkiciojipiakoaaLabM
import Derived.Test.YtkiciojipiakoaaLabQ
namespace Go.Proofs.Ytkiciojipiakoaa
set_option linter.unusedVariables false
set_option linter.unusedSimpArgs false
set_option linter.unusedSectionVars false
open Go.RowKit
theorem rdK_runs (m : Int) (l : List (Int × Int)) (rest : List UInt8) (hm : m ≤ 1000000) (h : ∀ x ∈ l, 0 ≤ x.1 ∧ x.1 ≤ m ∧ 0 ≤ x.2 ∧ x.2 ≤ 128) :
    ∀ k, k ≤ l.length → rdK m ⟨(runsL l ++ rest).toArray⟩ 0 k = (l.take k, ⟨(runsL (l.drop k) ++ rest).toArray⟩, 0) := by
  intro k
  induction k with
  | zero => intro _; rfl
  | succ k ih =>
    intro hk
    have h0 := ih (by omega)
    obtain ⟨x0, x1, x2, x3⟩ := h l[k] (List.getElem_mem (by omega))
    rw [List.drop_eq_getElem_cons (by omega)] at h0
    have e1 : runsL (l[k] :: l.drop (k + 1)) ++ rest = enc (l[k].1).toNat ++ (enc (l[k].2).toNat ++ (runsL (l.drop (k + 1)) ++ rest)) := by
      show (enc _ ++ (enc _ ++ runsL _)) ++ rest = _
      simp only [List.append_assoc]
    rw [e1] at h0
    have h3 := rdK_next h0 (RCnt_app (l[k].1).toNat _ m (by omega) (by omega)) (RCnt_app (l[k].2).toNat _ 128 (by omega) (by omega))
    rw [h3, List.take_succ_eq_append_getElem (by omega)]
    congr 3
    rw [Int.toNat_of_nonneg x0, Int.toNat_of_nonneg x2]
theorem rL_all (m : Int) (l : Lab) (z : Nat) (hm : m ≤ 1000000) (hl : (1 ≤ l.id ∧ l.id ≤ 1099511627776 ∧ 0 ≤ l.unit ∧ l.unit ≤ 1099511627776) ∧ (l.name.size ≤ 31 ∧ l.note.size ≤ 400) ∧ (1 ≤ l.ext.length ∧ l.ext.length ≤ 16) ∧ jnB l = true)
    (h : ∀ x ∈ l.ext, 0 ≤ x.1 ∧ x.1 ≤ m ∧ 0 ≤ x.2 ∧ x.2 ≤ 128) (s : ByteArray) (hs : s = ⟨(allL l z).toArray⟩) : rL m s = l ∧ rE m s = 0 := by
  obtain ⟨⟨a1, a2, a3, a4⟩, ⟨a5, a6⟩, ⟨a7, a8⟩, _⟩ := hl
  obtain ⟨id, unit, name, note, ext⟩ := l
  simp only at *
  have n1 : name.data.toList.length = name.size := Array.length_toList
  have n2 : note.data.toList.length = note.size := Array.length_toList
  unfold allL at hs
  simp only at hs
  have q1 := (congrArg rI hs).trans (RCnt_app id.toNat _ 1099511627776 (by omega) (by omega))
  have q2 : rU s = RCnt (rI s).2.1 (rI s).2.2 1099511627776 := rfl
  rw [q1] at q2
  have q2 := q2.trans (RCnt_app unit.toNat _ 1099511627776 (by omega) (by omega))
  rw [← n1, ← n2] at q2
  have q3 : rN s = RTxt (rU s).2.1 (rU s).2.2 31 := rfl
  rw [q2] at q3
  have q3 := q3.trans (RTxt_app _ _ 31 (by omega) (by omega))
  have q4 : rT s = RTxt (rN s).2.1 (rN s).2.2 400 := rfl
  rw [q3] at q4
  have q4 := q4.trans (RTxt_app _ _ 400 (by omega) (by omega))
  have q5 : rC s = RCnt (rT s).2.1 (rT s).2.2 16 := rfl
  rw [q4] at q5
  have q5 := q5.trans (RCnt_app ext.length _ 16 (by omega) (by omega))
  have q6 := rdK_runs m ext (List.replicate z 0) hm h ext.length (Nat.le_refl _)
  rw [List.take_length] at q6
  refine ⟨?_, ?_⟩
  · unfold rL
    rw [q1, q2, q3, q4, q5]
    simp only [q6, data_eq]
    rw [Int.toNat_of_nonneg (by omega), Int.toNat_of_nonneg a3]
  · unfold rE
    rw [q5]
    simp only [q6]
theorem trip (m : Int) (l : Lab) (t : Int) (h : validL l t = true) (m0 : 127 ≤ m) (m1 : m ≤ 1000000) : rL m (encS l t) = l ∧ rE m (encS l t) = 0 := by
  have hf := valid_facts l t h
  obtain ⟨h1, h2, h3, h4⟩ := hf
  have ht := okT_true (show okT t = true from by unfold validL at h; revert h; cases okT t <;> simp)
  have hi : inB l t = true := by unfold validL at h; revert h; cases inB l t <;> simp
  have hb := jn_bd l h4
  have hr := rok_of l t h4 hi
  refine rL_all m l (1024 - (bodyE l ++ runsE l.ext).size) m1 ⟨h1, h2, h3, h4⟩ (fun x hx => ?_) _ (by rw [encS_valid l t h, ← pad_data, data_eq])
  obtain ⟨b0, b1, b2⟩ := hb x hx
  obtain ⟨r0, r1, r2, r3⟩ := hr x hx
  exact ⟨b0, by omega, b1, by omega⟩
/-- What the reference decodes. -/
def rdecP (s : ByteArray) (t : Int) : Lab × Int :=
  if s.size ≠ 1024 ∨ okT t = false then (labZ, 11) else if s = padS 1024 ⟨#[]⟩ then (labZ, 0)
  else if rE 127 s ≠ 0 ∨ encS (rL 127 s) t ≠ s then (labZ, 11) else (rL 127 s, 0)
theorem encS_full (l : Lab) (t : Int) (s : ByteArray) (hs : s.size = 1024) (hz : s ≠ padS 1024 ⟨#[]⟩) (h : encS l t = s) : validL l t = true := by
  unfold encS at h
  split at h
  · exact absurd h.symm hz
  · split at h
    · assumption
    · rw [← h] at hs; exact absurd hs (by decide)
theorem dec_same (s : ByteArray) (t : Int) : rdecP s t = decP s t := by
  unfold rdecP decP
  by_cases h0 : s.size ≠ 1024 ∨ okT t = false
  · rw [if_pos h0, if_pos h0.symm]
  · rw [if_neg h0, if_neg (show ¬ (okT t = false ∨ s.size ≠ 1024) from fun e => h0 e.symm)]
    by_cases hz : s = padS 1024 ⟨#[]⟩
    · rw [if_pos hz, if_pos hz]
    · rw [if_neg hz, if_neg hz]
      have hs : s.size = 1024 := Decidable.not_not.1 (fun e => h0 (.inl e))
      by_cases hp : validL (rL 128 s) t = true ∧ encS (rL 128 s) t = s
      · have ht := trip 127 (rL 128 s) t hp.1 (by omega) (by omega)
        rw [hp.2] at ht
        rw [if_pos hp, if_neg (by rw [ht.1, ht.2, hp.2]; simp), ht.1]
      · rw [if_neg hp]
        by_cases hr : rE 127 s ≠ 0 ∨ encS (rL 127 s) t ≠ s
        · rw [if_pos hr]
        · exfalso
          have he : encS (rL 127 s) t = s := Decidable.not_not.1 (fun e => hr (.inr e))
          have hv := encS_full _ _ _ hs hz he
          have ht := trip 128 (rL 127 s) t hv (by omega) (by omega)
          rw [he] at ht
          exact hp ⟨by rw [ht.1]; exact hv, by rw [ht.1]; exact he⟩
/-- A valid label is read again from its slot. -/
theorem dec_enc_lab (l : Lab) (t : Int) (h : validL l t = true) (hs : (encS l t).size = 1024) : decP (encS l t) t = (l, 0) := by
  have ht : okT t = true := by unfold validL at h; revert h; cases okT t <;> simp
  have hr := (trip 128 l t h (by omega) (by omega)).1
  have hz : encS l t ≠ padS 1024 ⟨#[]⟩ := by
    intro e
    have h1 := congrArg (fun s => (rI s).1) e
    have h2 : (rI (padS 1024 ⟨#[]⟩)).1 = 0 := by
      have := RCnt_app 0 (List.replicate 1023 0) 1099511627776 (by omega) (by omega)
      unfold rI
      have e2 : padS 1024 ⟨#[]⟩ = ⟨(enc 0 ++ List.replicate 1023 0).toArray⟩ := by
        apply bytes_eq
        have e4 : (padS 1024 ⟨#[]⟩).data.toList = List.replicate 1024 0 := by
          unfold padS zeros
          simp only [ByteArray.data_append, Array.toList_append, Array.toList_replicate]
          rfl
        rw [e4]
        have e3 : enc 0 = [0] := by decide
        rw [e3]
        exact List.replicate_succ (n := 1023)
      rw [e2, this]
    simp only [h2] at h1
    have h3 : ((rI (encS l t)).1 : Int) = l.id := congrArg Lab.id hr
    have h4 := (valid_facts l t h).1.1
    omega
  unfold decP
  rw [if_neg (by rw [ht, hs]; simp), if_neg hz, hr, if_pos ⟨h, rfl⟩]
/-- What is accepted is what Encode returns. -/
theorem dec_strict_lab (s : ByteArray) (t : Int) : ((decP s t).2 = 0 ∧ encS (decP s t).1 t = s) ∨ (decP s t = (labZ, 11)) := by
  unfold decP
  by_cases h0 : okT t = false ∨ s.size ≠ 1024
  · rw [if_pos h0]; exact .inr rfl
  · rw [if_neg h0]
    have ht : okT t = true := by cases h : okT t with | true => rfl | false => exact absurd (.inl h) h0
    by_cases hz : s = padS 1024 ⟨#[]⟩
    · rw [if_pos hz]
      left
      refine ⟨rfl, ?_⟩
      unfold encS
      rw [if_pos ⟨ht, (eqL_iff _ _).2 rfl⟩, hz]
    · rw [if_neg hz]
      by_cases hp : validL (rL 128 s) t = true ∧ encS (rL 128 s) t = s
      · rw [if_pos hp]; exact .inl ⟨rfl, hp.2⟩
      · rw [if_neg hp]; exact .inr rfl
theorem encS_size (l : Lab) (t : Int) (h : validL l t = true) : (encS l t).size = 1024 := by
  obtain ⟨⟨v1, v2, v3, v4⟩, ⟨v5, v6⟩, ⟨v7, v8⟩, _⟩ := valid_facts l t h
  rw [encS_valid l t h]
  refine padS_size _ _ ?_
  have h1 := bodyE_size l v5 v6
  have h2 := runsE_size l.ext
  rw [ByteArray.size_append]
  omega
set_option maxRecDepth 100000 in
set_option maxHeartbeats 4000000 in
theorem labelReturns_any (A : Option Addr) (c : Nat) (l : Lab) (t : Int) (t0 : -9223372036854775808 ≤ t) (t1 : t ≤ 9223372036854775807) (w : World) (hl : LabAt w A c l) :
    Calls Try.prog 7 #[.agg #[.int .i64 l.id, .int .i64 l.unit, .string l.name, .string l.note, .slice A l.ext.length c], .int .i64 t] w fun e w' => e = .returned (.bool true) ∧ Grew w w' := by
  have g0 := (Grew.refl w).alloc (.cells #[.int .i64 l.id, .int .i64 l.unit, .string l.name, .string l.note, .slice A l.ext.length c] 24)
  have HG0 := Lib.hid g0
  have HBL := Lib.hid (Blk.new w 24 #[.int .i64 l.id, .int .i64 l.unit, .string l.name, .string l.note, .slice A l.ext.length c] rfl)
  have HFL0 := (fun w' (g : Grew w w') => few_any A c l w' (hl.hold g))
  have HL := Lib.hid hl
  clear hl g0
  cases f1 : fewL l with
  | false =>
    rw [f1] at HFL0
    have HFL := Lib.hid HFL0
    clear f1 HFL0
    go_enter Try.func7, Try.ntmps7
    go_wp2_with fail
    refine (awake_any _).mono ?_
    rintro e w1 ⟨rfl, g1⟩
    have hlbx := (HBL.out.grew g1).lt
    have x0 := (HBL.out.grew g1).cell 0
    have x1 := (HBL.out.grew g1).cell 1
    have x2 := (HBL.out.grew g1).cell 2
    have x3 := (HBL.out.grew g1).cell 3
    have x4 := (HBL.out.grew g1).cell 4
    go_wp2_with fail
    refine (HFL.out _ (HG0.out.trans g1)).mono ?_
    rintro e w2 ⟨rfl, g2⟩
    replace g1 := g1.trans g2
    clear g2
    clear hlbx x0 x1 x2 x3 x4
    go_wp2_with fail
    refine (awake_any _).mono ?_
    rintro e w3 ⟨rfl, g3⟩
    go_wp2_with fail
    go_ret
    exact ⟨rfl, (HG0.out.trans g1).trans g3⟩
  | true =>
    rw [f1] at HFL0
    have HFL := Lib.hid HFL0
    obtain ⟨_, _, hl30⟩ := fewL_len l f1
    clear f1 HFL0
    have HVL0 := (fun w' (g : Grew w w') => valid_lab A c l t w' (HL.out.hold g) (by omega))
    have HEN0 := (fun w' (g : Grew w w') => encode_lab A c l t w' (HL.out.hold g) (by omega) t0 t1)
    obtain ⟨E, hE⟩ : ∃ E, encS l t = E := ⟨_, rfl⟩
    rw [hE] at HEN0
    cases f3 : validL l t with
    | false =>
      rw [f3] at HVL0
      have HVL := Lib.hid HVL0
      by_cases hz : okT t = true ∧ eqL l labZ = true
      · have HQ0 := (fun w' (g : Grew w w') => lequal_any A none c 0 l labZ w' (HL.out.hold g) (LabAt.zero w') (by omega) (by decide))
        rw [hz.2] at HQ0
        have HQ := Lib.hid HQ0
        have hEz : E = padS 1024 ⟨#[]⟩ := by rw [← hE]; unfold encS; rw [if_pos hz]
        have hEs : E.size = 1024 := by rw [hEz]; exact padS_size _ _ (by decide)
        have hE0 : ¬ E = ⟨#[]⟩ := fun e => by rw [e] at hEs; exact absurd hEs (by decide)
        have hne := str_ne hE0
        have hne2 : (E.toList == []) = false := by have := hne; simpa using this
        have HEN := Lib.hid HEN0
        clear HQ0 HEN0 HVL0 f3 hE hEz hE0 hz
        go_enter Try.func7, Try.ntmps7
        go_wp2_with fail
        refine (awake_any _).mono ?_
        rintro e w1 ⟨rfl, g1⟩
        have hlbx := (HBL.out.grew g1).lt
        have x0 := (HBL.out.grew g1).cell 0
        have x1 := (HBL.out.grew g1).cell 1
        have x2 := (HBL.out.grew g1).cell 2
        have x3 := (HBL.out.grew g1).cell 3
        have x4 := (HBL.out.grew g1).cell 4
        go_wp2_with fail
        refine (HFL.out _ (HG0.out.trans g1)).mono ?_
        rintro e w2 ⟨rfl, g2⟩
        replace g1 := g1.trans g2
        clear g2
        clear hlbx x0 x1 x2 x3 x4
        have hlbx := (HBL.out.grew g1).lt
        have x0 := (HBL.out.grew g1).cell 0
        have x1 := (HBL.out.grew g1).cell 1
        have x2 := (HBL.out.grew g1).cell 2
        have x3 := (HBL.out.grew g1).cell 3
        have x4 := (HBL.out.grew g1).cell 4
        go_wp2_with fail
        refine (HEN.out _ (HG0.out.trans g1)).mono ?_
        rintro e w2 ⟨rfl, g2⟩
        replace g1 := g1.trans g2
        clear g2
        clear hlbx x0 x1 x2 x3 x4
        have hlbx := (HBL.out.grew g1).lt
        have x0 := (HBL.out.grew g1).cell 0
        have x1 := (HBL.out.grew g1).cell 1
        have x2 := (HBL.out.grew g1).cell 2
        have x3 := (HBL.out.grew g1).cell 3
        have x4 := (HBL.out.grew g1).cell 4
        go_wp2_with fail
        refine (HVL.out _ (HG0.out.trans g1)).mono ?_
        rintro e w2 ⟨rfl, g2⟩
        replace g1 := g1.trans g2
        clear g2
        clear hlbx x0 x1 x2 x3 x4
        have hlbx := (HBL.out.grew g1).lt
        have x0 := (HBL.out.grew g1).cell 0
        have x1 := (HBL.out.grew g1).cell 1
        have x2 := (HBL.out.grew g1).cell 2
        have x3 := (HBL.out.grew g1).cell 3
        have x4 := (HBL.out.grew g1).cell 4
        go_wp2_with fail
        refine (HQ.out _ (HG0.out.trans g1)).mono ?_
        rintro e w2 ⟨rfl, g2⟩
        replace g1 := g1.trans g2
        clear g2
        clear hlbx x0 x1 x2 x3 x4
        go_wp2_with fail
        go_ret
        exact ⟨rfl, HG0.out.trans g1⟩
      · have hEz : E = ⟨#[]⟩ := by rw [← hE]; unfold encS; rw [if_neg hz, if_neg (by rw [f3]; simp)]
        subst hEz
        have HEN := Lib.hid HEN0
        clear HEN0 HVL0 f3 hE hz
        go_enter Try.func7, Try.ntmps7
        go_wp2_with fail
        refine (awake_any _).mono ?_
        rintro e w1 ⟨rfl, g1⟩
        have hlbx := (HBL.out.grew g1).lt
        have x0 := (HBL.out.grew g1).cell 0
        have x1 := (HBL.out.grew g1).cell 1
        have x2 := (HBL.out.grew g1).cell 2
        have x3 := (HBL.out.grew g1).cell 3
        have x4 := (HBL.out.grew g1).cell 4
        go_wp2_with fail
        refine (HFL.out _ (HG0.out.trans g1)).mono ?_
        rintro e w2 ⟨rfl, g2⟩
        replace g1 := g1.trans g2
        clear g2
        clear hlbx x0 x1 x2 x3 x4
        have hlbx := (HBL.out.grew g1).lt
        have x0 := (HBL.out.grew g1).cell 0
        have x1 := (HBL.out.grew g1).cell 1
        have x2 := (HBL.out.grew g1).cell 2
        have x3 := (HBL.out.grew g1).cell 3
        have x4 := (HBL.out.grew g1).cell 4
        go_wp2_with fail
        refine (HEN.out _ (HG0.out.trans g1)).mono ?_
        rintro e w2 ⟨rfl, g2⟩
        replace g1 := g1.trans g2
        clear g2
        clear hlbx x0 x1 x2 x3 x4
        have hlbx := (HBL.out.grew g1).lt
        have x0 := (HBL.out.grew g1).cell 0
        have x1 := (HBL.out.grew g1).cell 1
        have x2 := (HBL.out.grew g1).cell 2
        have x3 := (HBL.out.grew g1).cell 3
        have x4 := (HBL.out.grew g1).cell 4
        go_wp2_with fail
        refine (HVL.out _ (HG0.out.trans g1)).mono ?_
        rintro e w2 ⟨rfl, g2⟩
        replace g1 := g1.trans g2
        clear g2
        clear hlbx x0 x1 x2 x3 x4
        go_wp2_with fail
        go_ret
        exact ⟨rfl, HG0.out.trans g1⟩
    | true =>
      rw [f3] at HVL0
      have HVL := Lib.hid HVL0
      have hEs : E.size = 1024 := by rw [← hE]; exact encS_size l t f3
      have hEi : ((E.size : Int) == 1024) = true := by rw [beq_iff_eq]; omega
      have hD : decP E t = (l, 0) := by rw [← hE]; exact dec_enc_lab l t f3 (encS_size l t f3)
      have hqq : eqL l l = true := (eqL_iff l l).2 rfl
      have HCD := Lib.hid (show ∀ w', Calls Try.prog 22 #[.string E, .int .i64 t] w' fun e w'' => ∃ A2 c2, e = .returned (.tuple #[.agg #[.int .i64 l.id, .int .i64 l.unit, .string l.name, .string l.note, .slice A2 l.ext.length c2], .int .i64 0]) ∧ LabAt w'' A2 c2 l ∧ Grew w' w'' from fun w' => by
        have := decode_lab E t w' (by omega) t0 t1
        rw [hD] at this
        exact this)
      have HQQ := Lib.hid (show ∀ w' A2 c2, Grew w w' → LabAt w' A2 c2 l → Calls Try.prog 14 #[.agg #[.int .i64 l.id, .int .i64 l.unit, .string l.name, .string l.note, .slice A2 l.ext.length c2], .agg #[.int .i64 l.id, .int .i64 l.unit, .string l.name, .string l.note, .slice A l.ext.length c]] w' fun e w'' => e = .returned (.bool true) ∧ Grew w' w'' from fun w' A2 c2 g h2 => by
        have := lequal_any A2 A c2 c l l w' h2 (HL.out.hold g) (by omega) (by omega)
        rw [hqq] at this
        exact this)
      have HVV := Lib.hid (show ∀ w' A2 c2, LabAt w' A2 c2 l → Calls Try.prog 12 #[.agg #[.int .i64 l.id, .int .i64 l.unit, .string l.name, .string l.note, .slice A2 l.ext.length c2], .int .i64 t] w' fun e w'' => e = .returned (.bool true) ∧ Grew w' w'' from fun w' A2 c2 h2 => by
        have := valid_lab A2 c2 l t w' h2 (by omega)
        rw [f3] at this
        exact this)
      have HEN := Lib.hid HEN0
      clear HEN0 HVL0 f3 hE hD hqq
      go_enter Try.func7, Try.ntmps7
      go_wp2_with fail
      refine (awake_any _).mono ?_
      rintro e w1 ⟨rfl, g1⟩
      have hlbx := (HBL.out.grew g1).lt
      have x0 := (HBL.out.grew g1).cell 0
      have x1 := (HBL.out.grew g1).cell 1
      have x2 := (HBL.out.grew g1).cell 2
      have x3 := (HBL.out.grew g1).cell 3
      have x4 := (HBL.out.grew g1).cell 4
      go_wp2_with fail
      refine (HFL.out _ (HG0.out.trans g1)).mono ?_
      rintro e w2 ⟨rfl, g2⟩
      replace g1 := g1.trans g2
      clear g2
      clear hlbx x0 x1 x2 x3 x4
      have hlbx := (HBL.out.grew g1).lt
      have x0 := (HBL.out.grew g1).cell 0
      have x1 := (HBL.out.grew g1).cell 1
      have x2 := (HBL.out.grew g1).cell 2
      have x3 := (HBL.out.grew g1).cell 3
      have x4 := (HBL.out.grew g1).cell 4
      go_wp2_with fail
      refine (HEN.out _ (HG0.out.trans g1)).mono ?_
      rintro e w2 ⟨rfl, g2⟩
      replace g1 := g1.trans g2
      clear g2
      clear hlbx x0 x1 x2 x3 x4
      have hlbx := (HBL.out.grew g1).lt
      have x0 := (HBL.out.grew g1).cell 0
      have x1 := (HBL.out.grew g1).cell 1
      have x2 := (HBL.out.grew g1).cell 2
      have x3 := (HBL.out.grew g1).cell 3
      have x4 := (HBL.out.grew g1).cell 4
      go_wp2_with fail
      refine (HVL.out _ (HG0.out.trans g1)).mono ?_
      rintro e w2 ⟨rfl, g2⟩
      replace g1 := g1.trans g2
      clear g2
      clear hlbx x0 x1 x2 x3 x4
      go_wp2_with fail
      refine (HCD.out _).mono ?_
      rintro e w3 ⟨A2, c2, rfl, hk2, g3⟩
      replace g1 := g1.trans g3
      have HB6 := Lib.hid (Blk.new w3 24 #[.int .i64 l.id, .int .i64 l.unit, .string l.name, .string l.note, .slice A2 l.ext.length c2] rfl)
      have HBM := Lib.hid ((HBL.out.grew g1).alloc (.cells #[.int .i64 l.id, .int .i64 l.unit, .string l.name, .string l.note, .slice A2 l.ext.length c2] 24))
      have gm := g1.alloc (.cells #[.int .i64 l.id, .int .i64 l.unit, .string l.name, .string l.note, .slice A2 l.ext.length c2] 24)
      have hk3 := hk2.hold ((Grew.refl w3).alloc (.cells #[.int .i64 l.id, .int .i64 l.unit, .string l.name, .string l.note, .slice A2 l.ext.length c2] 24))
      have hlbx := (HBM.out).lt
      have x0 := (HBM.out).cell 0
      have x1 := (HBM.out).cell 1
      have x2 := (HBM.out).cell 2
      have x3 := (HBM.out).cell 3
      have x4 := (HBM.out).cell 4
      have hlby := (HB6.out).lt
      have y0 := (HB6.out).cell 0
      have y1 := (HB6.out).cell 1
      have y2 := (HB6.out).cell 2
      have y3 := (HB6.out).cell 3
      have y4 := (HB6.out).cell 4
      go_wp2_with fail
      refine (HQQ.out _ A2 c2 (HG0.out.trans gm) hk3).mono ?_
      rintro e w4 ⟨rfl, g4⟩
      clear hlbx x0 x1 x2 x3 x4
      clear hlby y0 y1 y2 y3 y4
      have hlby := (HB6.out.grew g4).lt
      have y0 := (HB6.out.grew g4).cell 0
      have y1 := (HB6.out.grew g4).cell 1
      have y2 := (HB6.out.grew g4).cell 2
      have y3 := (HB6.out.grew g4).cell 3
      have y4 := (HB6.out.grew g4).cell 4
      go_wp2_with fail
      refine (HVV.out _ A2 c2 (hk3.hold g4)).mono ?_
      rintro e w5 ⟨rfl, g5⟩
      go_wp2_with fail
      go_ret
      exact ⟨rfl, ((HG0.out.trans gm).trans g4).trans g5⟩
end Go.Proofs.Ytkiciojipiakoaa
