/- Chapter 7: the encodings of labels. -/
import Derived.Test.YtkiciojipiakoaaLabG
import Derived.Test.YtkiciojipiakoaaLabH
namespace Go.Proofs.Ytkiciojipiakoaa
set_option linter.unusedVariables false
set_option linter.unusedSimpArgs false
set_option linter.unusedSectionVars false
open Go.RowKit
attribute [local go_sem ↓] Go.wp_at_zero Go.wp_at_succ
def eB (n : Nat) : ByteArray := ⟨(enc n).toArray⟩
theorem eB_size (n : Nat) : (eB n).size ≤ 10 := enc_len n
def rB (r : Int × Int) : ByteArray := eB r.1.toNat ++ eB r.2.toNat
def runsE : List (Int × Int) → ByteArray
  | [] => ⟨#[]⟩
  | r :: l => rB r ++ runsE l
def bodyE (l : Lab) : ByteArray := eB l.id.toNat ++ (eB l.unit.toNat ++ (eB l.name.size ++ (l.name ++ (eB l.note.size ++ (l.note ++ eB l.ext.length)))))
def encS (l : Lab) (t : Int) : ByteArray := if okT t = true ∧ eqL l labZ = true then padS 1024 ⟨#[]⟩ else if validL l t = true then padS 1024 (bodyE l ++ runsE l.ext) else ⟨#[]⟩
theorem runsE_snoc (l : List (Int × Int)) (r : Int × Int) : runsE (l ++ [r]) = runsE l ++ rB r := by
  induction l with
  | nil => show rB r ++ ByteArray.empty = ByteArray.empty ++ rB r; rw [ByteArray.append_empty]; exact (ByteArray.empty_append).symm
  | cons x l ih => show rB x ++ runsE (l ++ [r]) = (rB x ++ runsE l) ++ rB r; rw [ih, ByteArray.append_assoc]
theorem rB_size (r : Int × Int) : (rB r).size ≤ 20 := by
  unfold rB; rw [ByteArray.size_append]; have := eB_size r.1.toNat; have := eB_size r.2.toNat; omega
theorem runsE_size (l : List (Int × Int)) : (runsE l).size ≤ 20 * l.length := by
  induction l with
  | nil => simp [runsE]; rfl
  | cons r l ih => show (rB r ++ runsE l).size ≤ _; rw [ByteArray.size_append, List.length_cons]; have := rB_size r; omega
theorem bodyE_size (l : Lab) (h1 : l.name.size ≤ 31) (h2 : l.note.size ≤ 400) : (bodyE l).size ≤ 481 := by
  unfold bodyE
  simp only [ByteArray.size_append]
  have := eB_size l.id.toNat; have := eB_size l.unit.toNat; have := eB_size l.name.size; have := eB_size l.note.size; have := eB_size l.ext.length
  omega
theorem empty_bytes (s : ByteArray) : (⟨#[]⟩ : ByteArray) ++ s = s := ByteArray.empty_append
theorem valid_facts (l : Lab) (t : Int) (h : validL l t = true) : (1 ≤ l.id ∧ l.id ≤ 1099511627776 ∧ 0 ≤ l.unit ∧ l.unit ≤ 1099511627776) ∧ (l.name.size ≤ 31 ∧ l.note.size ≤ 400) ∧ (1 ≤ l.ext.length ∧ l.ext.length ≤ 16) ∧ jnB l = true := by
  unfold validL at h
  simp only [Bool.and_eq_true] at h
  obtain ⟨_, h1, h2, h3, h4, _⟩ := h
  exact ⟨by simpa [idB] using h1, by simpa [txB] using h2, by simpa [cnB] using h3, h4⟩
theorem equalZ_any (A : Option Addr) (c : Nat) (l : Lab) (w : World) (h : LabAt w A c l) (hl : l.ext.length ≤ 100000) :
    Calls Try.prog 14 #[.agg #[.int .i64 l.id, .int .i64 l.unit, .string l.name, .string l.note, .slice A l.ext.length c], .agg #[.int .i64 0, .int .i64 0, .string ⟨#[]⟩, .string ⟨#[]⟩, .slice none 0 0]] w fun e w' => e = .returned (.bool (eqL l labZ)) ∧ Grew w w' :=
  lequal_any A none c 0 l labZ w h (LabAt.zero w) hl (by simp [labZ])
theorem requalZ_any (A : Option Addr) (c : Nat) (l : Lab) (w : World) (h : LabAt w A c l) (hl : l.ext.length ≤ 100000) :
    Calls Try.prog 15 #[.agg #[.int .i64 l.id, .int .i64 l.unit, .string l.name, .string l.note, .slice A l.ext.length c], .agg #[.int .i64 0, .int .i64 0, .string ⟨#[]⟩, .string ⟨#[]⟩, .slice none 0 0]] w fun e w' => e = .returned (.bool (eqL l labZ)) ∧ Grew w w' :=
  requal_any A none c 0 l labZ w h (LabAt.zero w) hl (by simp [labZ])
set_option maxRecDepth 100000 in
set_option maxHeartbeats 4000000 in
theorem encode_lab (A : Option Addr) (c : Nat) (l : Lab) (t : Int) (w : World) (h : LabAt w A c l) (hs : l.ext.length ≤ 100000) (t0 : -9223372036854775808 ≤ t) (t1 : t ≤ 9223372036854775807) :
    Calls Try.prog 16 #[.agg #[.int .i64 l.id, .int .i64 l.unit, .string l.name, .string l.note, .slice A l.ext.length c], .int .i64 t] w fun e w' => e = .returned (.string (encS l t)) ∧ Grew w w' := by
  have g0 := (Grew.refl w).alloc (.cells #[.int .i64 l.id, .int .i64 l.unit, .string l.name, .string l.note, .slice A l.ext.length c] 24)
  have HL := Lib.hid h
  have HL0 := Lib.hid (h.hold g0)
  have HB0 := Lib.hid (Blk.new w 24 #[.int .i64 l.id, .int .i64 l.unit, .string l.name, .string l.note, .slice A l.ext.length c] rfl)
  have HG0 := Lib.hid g0
  have HV := Lib.hid (fun (hv : validL l t = true) => valid_facts l t hv)
  have HZ := Lib.hid (fun w' (g : Grew w w') => equalZ_any A c l w' (HL.out.hold g) hs)
  have HVC := Lib.hid (fun w' (g : Grew w w') => valid_lab A c l t w' (HL.out.hold g) hs)
  clear h g0
  cases ho : okT t with
  | false =>
    have HO := Lib.hid ho
    have hvf := valid_false l t 0 ho
    have HVF := Lib.hid hvf
    have HE := Lib.hid (show encS l t = ⟨#[]⟩ from by unfold encS; rw [if_neg (by rw [ho]; simp), if_neg (by rw [hvf]; simp)])
    clear ho hvf
    go_enter Try.func16, Try.ntmps16
    go_wp2_with fail
    refine (tracksOK_any _ _).mono ?_
    rintro e w1 ⟨rfl, rfl⟩
    rw [HO.out]
    go_wp2_with fail
    refine (HVC.out _ HG0.out).mono ?_
    rintro e w2 ⟨rfl, g2⟩
    rw [HVF.out]
    go_wp2_with fail
    go_ret
    exact ⟨ret_str (by rw [HE.out]), HG0.out.trans g2⟩
  | true =>
    have HO := Lib.hid ho
    clear ho
    cases hz : eqL l labZ with
    | true =>
      have HZZ := Lib.hid hz
      have HE := Lib.hid (show encS l t = padS 1024 ⟨#[]⟩ from by unfold encS; rw [if_pos ⟨HO.out, hz⟩])
      clear hz
      go_enter Try.func16, Try.ntmps16
      go_wp2_with fail
      refine (tracksOK_any _ _).mono ?_
      rintro e w1 ⟨rfl, rfl⟩
      rw [HO.out]
      go_wp2_with fail
      refine (HZ.out _ HG0.out).mono ?_
      rintro e w2 ⟨rfl, g2⟩
      rw [HZZ.out]
      go_wp2_with fail
      refine (fill_any ⟨#[]⟩ w2 (by decide)).mono ?_
      rintro e w3 ⟨rfl, g3⟩
      go_wp2_with fail
      go_ret
      exact ⟨ret_str (by rw [HE.out]), (HG0.out.trans g2).trans g3⟩
    | false =>
      have HZZ := Lib.hid hz
      clear hz
      cases hv : validL l t with
      | false =>
        have HVF := Lib.hid hv
        have HE := Lib.hid (show encS l t = ⟨#[]⟩ from by unfold encS; rw [if_neg (by rw [HZZ.out]; simp), if_neg (by rw [hv]; simp)])
        clear hv
        go_enter Try.func16, Try.ntmps16
        go_wp2_with fail
        refine (tracksOK_any _ _).mono ?_
        rintro e w1 ⟨rfl, rfl⟩
        rw [HO.out]
        go_wp2_with fail
        refine (HZ.out _ HG0.out).mono ?_
        rintro e w2 ⟨rfl, g2⟩
        rw [HZZ.out]
        have hl2 := (HB0.out.grew g2).lt
        have x0 := (HB0.out.grew g2).cell 0
        have x1 := (HB0.out.grew g2).cell 1
        have x2 := (HB0.out.grew g2).cell 2
        have x3 := (HB0.out.grew g2).cell 3
        have x4 := (HB0.out.grew g2).cell 4
        go_wp2_with fail
        refine (HVC.out _ (HG0.out.trans g2)).mono ?_
        rintro e w3 ⟨rfl, g3⟩
        rw [HVF.out]
        go_wp2_with fail
        go_ret
        exact ⟨ret_str (by rw [HE.out]), (HG0.out.trans g2).trans g3⟩
      | true =>
        have HVT := Lib.hid hv
        have HE := Lib.hid (show encS l t = padS 1024 (bodyE l ++ runsE l.ext) from by unfold encS; rw [if_neg (by rw [HZZ.out]; simp), if_pos hv])
        obtain ⟨⟨v1, v2, v3, v4⟩, ⟨v5, v6⟩, ⟨v7, v8⟩, vj⟩ := HV.out hv
        have HJB := Lib.hid (jn_bd l vj)
        clear hv vj
        go_enter Try.func16, Try.ntmps16
        go_wp2_with fail
        refine (tracksOK_any _ _).mono ?_
        rintro e w1 ⟨rfl, rfl⟩
        rw [HO.out]
        go_wp2_with fail
        refine (HZ.out _ HG0.out).mono ?_
        rintro e w2 ⟨rfl, g2⟩
        rw [HZZ.out]
        have hl2 := (HB0.out.grew g2).lt
        have x0 := (HB0.out.grew g2).cell 0
        have x1 := (HB0.out.grew g2).cell 1
        have x2 := (HB0.out.grew g2).cell 2
        have x3 := (HB0.out.grew g2).cell 3
        have x4 := (HB0.out.grew g2).cell 4
        go_wp2_with fail
        refine (HVC.out _ (HG0.out.trans g2)).mono ?_
        rintro e w3 ⟨rfl, g3⟩
        rw [HVT.out]
        have hG := g2.trans g3
        clear g2 g3 x0 x1 x2 x3 x4 hl2 HZ HVC
        obtain ⟨id, unit, name, note, ext⟩ := l
        simp only at v1 v2 v3 v4 v5 v6 v7 v8
        obtain ⟨idn, rfl⟩ := Int.eq_ofNat_of_zero_le (show 0 ≤ id by omega)
        obtain ⟨un, rfl⟩ := Int.eq_ofNat_of_zero_le v3
        have HB := Lib.hid (show Blk (w.alloc (.cells #[.int .i64 (idn : Int), .int .i64 (un : Int), .string name, .string note, .slice A ext.length c] 24)) w.heap.size 24 #[.int .i64 (idn : Int), .int .i64 (un : Int), .string name, .string note, .slice A ext.length c] from HB0.out)
        have HL1 := Lib.hid (show LabAt w A c ⟨(idn : Int), (un : Int), name, note, ext⟩ from HL.out)
        have HBE := Lib.hid (show bodyE ⟨(idn : Int), (un : Int), name, note, ext⟩ = eB idn ++ (eB un ++ (eB name.size ++ (name ++ (eB note.size ++ (note ++ eB ext.length))))) from rfl)
        have HBS := Lib.hid (bodyE_size ⟨(idn : Int), (un : Int), name, note, ext⟩ v5 v6)
        have HRS := Lib.hid (fun k => runsE_size (ext.take k))
        clear HB0 HL HL0
        have s0 := eB_size idn
        have s1 := eB_size un
        have s2 := eB_size name.size
        have s3 := eB_size note.size
        have s4 := eB_size ext.length
        have hlb := (HB.out.grew hG).lt
        have x0 := (HB.out.grew hG).cell 0
        go_wp2_with fail
        refine (appendNumber_any ⟨#[]⟩ idn _ (by omega) (by decide)).mono ?_
        rintro e ws ⟨rfl, gs⟩
        replace hG := hG.trans gs
        obtain ⟨S1, hS1⟩ : ∃ S1 : ByteArray, S1 = ⟨#[]⟩ ++ ⟨(enc idn).toArray⟩ := ⟨_, rfl⟩
        rw [← hS1]
        have HS1 := Lib.hid (show S1 = eB idn from hS1.trans (by rw [empty_bytes]; rfl))
        have zS1 : S1.size ≤ 10 := by rw [HS1.out]; (try simp only [ByteArray.size_append]); omega
        clear gs hS1 hlb x0
        have hlb := (HB.out.grew hG).lt
        have x1 := (HB.out.grew hG).cell 1
        go_wp2_with fail
        refine (appendNumber_any S1 un _ (by omega) (by omega)).mono ?_
        rintro e ws ⟨rfl, gs⟩
        replace hG := hG.trans gs
        obtain ⟨S2, hS2⟩ : ∃ S2 : ByteArray, S2 = S1 ++ ⟨(enc un).toArray⟩ := ⟨_, rfl⟩
        rw [← hS2]
        have HS2 := Lib.hid (show S2 = S1 ++ eB un from hS2.trans (rfl))
        have zS2 : S2.size ≤ 20 := by rw [HS2.out]; (try simp only [ByteArray.size_append]); omega
        clear gs hS2 hlb x1
        have hlb := (HB.out.grew hG).lt
        have x2 := (HB.out.grew hG).cell 2
        go_wp2_with fail
        refine (appendText_any S2 name _ (by omega) (by omega)).mono ?_
        rintro e ws ⟨rfl, gs⟩
        replace hG := hG.trans gs
        obtain ⟨S3, hS3⟩ : ∃ S3 : ByteArray, S3 = S2 ++ ⟨(enc name.size).toArray⟩ ++ name := ⟨_, rfl⟩
        rw [← hS3]
        have HS3 := Lib.hid (show S3 = S2 ++ eB name.size ++ name from hS3.trans (rfl))
        have zS3 : S3.size ≤ 61 := by rw [HS3.out]; (try simp only [ByteArray.size_append]); omega
        clear gs hS3 hlb x2
        have hlb := (HB.out.grew hG).lt
        have x3 := (HB.out.grew hG).cell 3
        go_wp2_with fail
        refine (appendText_any S3 note _ (by omega) (by omega)).mono ?_
        rintro e ws ⟨rfl, gs⟩
        replace hG := hG.trans gs
        obtain ⟨S4, hS4⟩ : ∃ S4 : ByteArray, S4 = S3 ++ ⟨(enc note.size).toArray⟩ ++ note := ⟨_, rfl⟩
        rw [← hS4]
        have HS4 := Lib.hid (show S4 = S3 ++ eB note.size ++ note from hS4.trans (rfl))
        have zS4 : S4.size ≤ 471 := by rw [HS4.out]; (try simp only [ByteArray.size_append]); omega
        clear gs hS4 hlb x3
        have hlb := (HB.out.grew hG).lt
        have x4 := (HB.out.grew hG).cell 4
        go_wp2_with fail
        refine (appendNumber_any S4 ext.length _ (by omega) (by omega)).mono ?_
        rintro e ws ⟨rfl, gs⟩
        replace hG := hG.trans gs
        obtain ⟨S5, hS5⟩ : ∃ S5 : ByteArray, S5 = S4 ++ ⟨(enc ext.length).toArray⟩ := ⟨_, rfl⟩
        rw [← hS5]
        have HS5 := Lib.hid (show S5 = S4 ++ eB ext.length from hS5.trans (rfl))
        have zS5 : S5.size ≤ 481 := by rw [HS5.out]; (try simp only [ByteArray.size_append]); omega
        clear gs hS5 hlb x4
        have HS := Lib.hid (show S5 = bodyE ⟨(idn : Int), (un : Int), name, note, ext⟩ from by
          rw [HBE.out, HS5.out, HS4.out, HS3.out, HS2.out, HS1.out]; simp only [ByteArray.append_assoc])
        clear HS1 HS2 HS3 HS4 HS5 s0 s1 s2 s3 s4 zS1 zS2 zS3 zS4
        have hlb := (HB.out.grew hG).lt
        have x4 := (HB.out.grew hG).cell 4
        go_wp2_with fail
        obtain ⟨wl, hwl⟩ : ∃ wl, wl = ws := ⟨_, rfl⟩
        rw [← hwl] at hG ⊢
        clear hwl
        go_loopg [5, 46] ext.length (fun gk v i wr => ∃ k : Nat, k ≤ ext.length ∧ gk = ext.length - k ∧ i = .int .i64 k ∧ v = .string (S5 ++ runsE (ext.take k)) ∧ Grew (w.alloc (.cells #[.int .i64 (idn : Int), .int .i64 (un : Int), .string name, .string note, .slice A ext.length c] 24)) wr)
        case atStart => exact ⟨0, by omega, by omega, rfl, by rw [List.take_zero]; show _ = Value.string (S5 ++ ByteArray.empty); rw [ByteArray.append_empty], hG⟩
        case round =>
          obtain ⟨k, hk, hgk, rfl, rfl, hg⟩ := hrel
          have HGK := Lib.hid hgk
          have hrs := HRS.out k
          rw [List.length_take] at hrs
          obtain ⟨U, hU⟩ : ∃ U, S5 ++ runsE (ext.take k) = U := ⟨_, rfl⟩
          have hUs : U.size ≤ 801 := by rw [← hU, ByteArray.size_append]; omega
          rw [hU]
          have HU := Lib.hid hU
          clear hgk hrs hU
          by_cases hlt : k < ext.length
          · obtain ⟨b, off, f, n, rfl, hb, hv, hok, c0, c1⟩ := ((HL1.out.hold HG0.out).hold hg).runs.at_ hlt
            have hsm := HJB.out ext[k] (List.getElem_mem hlt)
            rw [hv] at hsm
            simp only at hsm
            obtain ⟨q0, q1, q2⟩ := hsm
            obtain ⟨fn, rfl⟩ := Int.eq_ofNat_of_zero_le q0
            obtain ⟨nn, rfl⟩ := Int.eq_ofNat_of_zero_le q1
            have HNX := Lib.hid (show S5 ++ runsE (ext.take (k + 1)) = U ++ eB fn ++ eB nn from by
              rw [List.take_succ_eq_append_getElem hlt, runsE_snoc, hv, ← ByteArray.append_assoc, HU.out]
              show U ++ (eB fn ++ eB nn) = _
              rw [ByteArray.append_assoc])
            have z0 := eB_size fn
            obtain ⟨wm, hwm⟩ : ∃ wm, wm = wr := ⟨_, rfl⟩
            subst hwm
            have HR := Lib.hid (Blk.new wm 43 #[.int .i64 (fn : Int), .int .i64 (nn : Int)] rfl)
            clear hv hok
            go_wp2_with fail
            refine wp_region_R [] (fun w' : World => w'.cell? ⟨wm.heap.size, 0, none⟩ = some (.int .i64 (fn : Int)) ∧ w'.cell? ⟨wm.heap.size, 1, none⟩ = some (.int .i64 (nn : Int))) (by kernel_rfl) ?_
            have hS := (show (fun w' : World => w'.cell? ⟨wm.heap.size, 0, none⟩ = some (.int .i64 (fn : Int)) ∧ w'.cell? ⟨wm.heap.size, 1, none⟩ = some (.int .i64 (nn : Int))) _ from ⟨HR.out.drew.cell 0, HR.out.drew.cell 1⟩)
            refine wpAnyR_takeQ (i := 0) (v := ?_) (some 50) rfl rfl (by kernel_rfl) (by kernel_rfl) (by kernel_rfl) (by kernel_rfl) (fun _ _ _ h => h) (Or.inl ⟨by rfl, ?_⟩) ?_
            rotate_left
            focus (intro wS hSw; (try dsimp only at hSw); go_simp; (try with_reducible rfl); (try (first | (rw [if_pos (by omega)]; (try go_simp); (try with_reducible rfl)) | (rw [if_neg (by omega)]; (try go_simp); (try with_reducible rfl)))))
            try simp only [Act.put, List.setIfInBounds_toArray, List.set_cons_zero, List.set_cons_succ]
            refine wpAnyR_takeQ (i := 1) (v := ?_) (some 51) rfl rfl (by kernel_rfl) (by kernel_rfl) (by kernel_rfl) (by kernel_rfl) (fun _ _ _ h => h) (Or.inl ⟨by rfl, ?_⟩) ?_
            rotate_left
            focus (intro wS hSw; (try dsimp only at hSw); go_simp; (try with_reducible rfl); (try (first | (rw [if_pos (by omega)]; (try go_simp); (try with_reducible rfl)) | (rw [if_neg (by omega)]; (try go_simp); (try with_reducible rfl)))))
            try simp only [Act.put, List.setIfInBounds_toArray, List.set_cons_zero, List.set_cons_succ]
            refine wpAnyR_take (i := 2) (v := ?_) [3, 4, 8, 9] (some 52) rfl rfl (by kernel_rfl) (by kernel_rfl) (by kernel_rfl) (by kernel_rfl) (by kernel_rfl) (by kernel_rfl) (by kernel_rfl) (fun _ _ _ h => h) (Or.inl ⟨by rfl, ?_⟩) hS ?_
            rotate_left
            focus (intro wS hSw; (try dsimp only at hSw); go_simp; (try with_reducible rfl); (try (first | (rw [if_pos (by omega)]; (try go_simp); (try with_reducible rfl)) | (rw [if_neg (by omega)]; (try go_simp); (try with_reducible rfl)))))
            try simp only [Act.put, List.setIfInBounds_toArray, List.set_cons_zero, List.set_cons_succ]
            refine wpAnyR_take (i := 3) (v := ?_) [4, 8, 9] (some 53) rfl rfl (by kernel_rfl) (by kernel_rfl) (by kernel_rfl) (by kernel_rfl) (by kernel_rfl) (by kernel_rfl) (by kernel_rfl) (fun _ _ _ h => h) (Or.inl ⟨by rfl, ?_⟩) hS ?_
            rotate_left
            focus (intro wS hSw; (try dsimp only at hSw); go_simp; (try with_reducible rfl); (try (first | (rw [if_pos (by omega)]; (try go_simp); (try with_reducible rfl)) | (rw [if_neg (by omega)]; (try go_simp); (try with_reducible rfl)))))
            try simp only [Act.put, List.setIfInBounds_toArray, List.set_cons_zero, List.set_cons_succ]
            refine wpAnyR_takeQ (i := 5) (v := ?_) (some 55) rfl rfl (by kernel_rfl) (by kernel_rfl) (by kernel_rfl) (by kernel_rfl) (fun _ _ _ h => h) (Or.inl ⟨by rfl, ?_⟩) ?_
            rotate_left
            focus (intro wS hSw; (try dsimp only at hSw); go_simp; (try with_reducible rfl); (try (first | (rw [if_pos (by omega)]; (try go_simp); (try with_reducible rfl)) | (rw [if_neg (by omega)]; (try go_simp); (try with_reducible rfl)))))
            try simp only [Act.put, List.setIfInBounds_toArray, List.set_cons_zero, List.set_cons_succ]
            refine wpAnyR_take (i := 6) (v := ?_) [7, 8, 9] (some 56) rfl rfl (by kernel_rfl) (by kernel_rfl) (by kernel_rfl) (by kernel_rfl) (by kernel_rfl) (by kernel_rfl) (by kernel_rfl) (fun _ _ _ h => h) (Or.inl ⟨by rfl, ?_⟩) hS ?_
            rotate_left
            focus (intro wS hSw; (try dsimp only at hSw); go_simp; (try with_reducible rfl); (try (first | (rw [if_pos (by omega)]; (try go_simp); (try with_reducible rfl)) | (rw [if_neg (by omega)]; (try go_simp); (try with_reducible rfl)))))
            try simp only [Act.put, List.setIfInBounds_toArray, List.set_cons_zero, List.set_cons_succ]
            refine wpAnyR_take (i := 7) (v := ?_) [8, 9] (some 57) rfl rfl (by kernel_rfl) (by kernel_rfl) (by kernel_rfl) (by kernel_rfl) (by kernel_rfl) (by kernel_rfl) (by kernel_rfl) (fun _ _ _ h => h) (Or.inl ⟨by rfl, ?_⟩) hS ?_
            rotate_left
            focus (intro wS hSw; (try dsimp only at hSw); go_simp; (try with_reducible rfl); (try (first | (rw [if_pos (by omega)]; (try go_simp); (try with_reducible rfl)) | (rw [if_neg (by omega)]; (try go_simp); (try with_reducible rfl)))))
            try simp only [Act.put, List.setIfInBounds_toArray, List.set_cons_zero, List.set_cons_succ]
            refine wpAnyR_n1 (i := 4) rfl (by kernel_rfl) ?_
            intro K' hK
            rw [if_pos (by rfl)]
            simp only [List.getElem_toArray, List.getElem_cons_succ, List.getElem_cons_zero]
            go_wp2_with fail
            refine (appendNumber_any U fn _ (by omega) (by omega)).mono ?_
            rintro e w4 ⟨rfl, g4⟩
            obtain ⟨V, hV⟩ : ∃ V : ByteArray, V = U ++ ⟨(enc fn).toArray⟩ := ⟨_, rfl⟩
            rw [← hV]
            have HV := Lib.hid (show V = U ++ eB fn from hV)
            have zV : V.size ≤ 811 := by rw [HV.out, ByteArray.size_append]; omega
            clear hV
            go_wp2_with fail
            refine hK.out _ _ (.inr (fun _ => ⟨(HR.out.drew.grew g4).cell 0, (HR.out.drew.grew g4).cell 1⟩)) ?_
            clear hK hS
            refine wpAnyR_n1 (i := 8) rfl (by kernel_rfl) ?_
            intro K' hK
            rw [if_pos (by rfl)]
            simp only [List.getElem_toArray, List.getElem_cons_succ, List.getElem_cons_zero]
            go_wp2_with fail
            refine (appendNumber_any V nn _ (by omega) (by omega)).mono ?_
            rintro e w5 ⟨rfl, g5⟩
            go_wp2_with fail
            refine hK.out _ _ (.inr (fun _ => ⟨((HR.out.drew.grew g4).grew g5).cell 0, ((HR.out.drew.grew g4).grew g5).cell 1⟩)) ?_
            clear hK
            have hgn := ((hg.alloc (.cells #[.int .i64 (fn : Int), .int .i64 (nn : Int)] 43)).drew.trans g4).trans g5
            refine wpAnyR_takeQ (i := 9) (v := ?_) (some 5) rfl rfl (by kernel_rfl) (by kernel_rfl) (by kernel_rfl) (by kernel_rfl) (fun _ _ _ h => h) (Or.inl ⟨by rfl, ?_⟩) ?_
            rotate_left
            focus (intro wS hSw; (try dsimp only at hSw); go_simp; (try with_reducible rfl); (try (first | (rw [if_pos (by omega)]; (try go_simp); (try with_reducible rfl)) | (rw [if_neg (by omega)]; (try go_simp); (try with_reducible rfl)))))
            try simp only [Act.put, List.setIfInBounds_toArray, List.set_cons_zero, List.set_cons_succ]
            refine wpAnyR_done (by kernel_rfl) ?_ _
            go_wp2_with fail
            go_roundg (ext.length - (k + 1))
            case measure => rw [HGK.out]; omega
            case rel => exact ⟨k + 1, by omega, by omega, by go_num, by rw [HNX.out, ← HV.out]; rfl, hgn⟩
          · obtain rfl : k = ext.length := by omega
            have HEE := Lib.hid (show encS ⟨(idn : Int), (un : Int), name, note, ext⟩ t = padS 1024 U from by
              rw [HE.out]
              show padS 1024 (bodyE _ ++ runsE ext) = _
              rw [← HS.out, ← HU.out, List.take_length])
            go_wp2_with fail
            refine (fill_any U _ (by omega)).mono ?_
            rintro e w6 ⟨rfl, g6⟩
            go_wp2_with fail
            go_ret
            exact ⟨ret_str (by rw [HEE.out]), (HG0.out.trans hg).trans g6⟩
end Go.Proofs.Ytkiciojipiakoaa
