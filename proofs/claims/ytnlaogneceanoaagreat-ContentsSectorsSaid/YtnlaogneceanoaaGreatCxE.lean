/- Chapter 7: the encodings of labels. Chapter 7, plain: different labels have different encodings. Chapter 7: the reference's encoding of labels. Chapter 7: ValidName and the head, on both sides. Chapter 7: EncodeHead and DecodeHead, on both sides. The lists of runs that the laws take. Arguments opened: labels by value. The row's last step, for every law: the call returns true and turns nothing that was there. Chapter 7: awake; LabelSlots, LabelValid. Chapter 7: LabelValid. -/
import Derived.Lib.Strings
import Derived.ProofKit
import Derived.OpenShut
import Derived.Test.YtnlaogneceanoaaGreatCxA
import Derived.Test.YtnlaogneceanoaaGreatCxB
import Derived.Test.YtnlaogneceanoaaGreatCxC
import Derived.Test.YtnlaogneceanoaaGreatCxD
namespace Go.Proofs.YtnlaogneceanoaaGreat
set_option linter.unusedVariables false
set_option linter.unusedSimpArgs false
set_option linter.unusedSectionVars false
open Go.RowKit
attribute [local go_sem ↓] Go.wp_at_zero Go.wp_at_succ
def eB (n : Nat) : ByteArray := ⟨(enc n).toArray⟩
theorem eB_size (n : Nat) : (eB n).size ≤ 10 := enc_len n
def rB (r : Int × Int) : ByteArray := eB r.1.toNat ++ eB r.2.toNat
def runsE : List (Int × Int) → ByteArray
  | [] => ⟨#[]⟩
  | r :: l => rB r ++ runsE l
def bodyE (l : Lab) : ByteArray := eB l.id.toNat ++ (eB l.unit.toNat ++ (eB l.name.size ++ (l.name ++ (eB l.note.size ++ (l.note ++ eB l.ext.length)))))
def encS (l : Lab) (t : Int) : ByteArray := if okT t = true ∧ eqL l labZ = true then padS 1024 ⟨#[]⟩ else if validL l t = true then padS 1024 (bodyE l ++ runsE l.ext) else ⟨#[]⟩
theorem runsE_snoc (l : List (Int × Int)) (r : Int × Int) : runsE (l ++ [r]) = runsE l ++ rB r := by
  induction l with
  | nil => show rB r ++ ByteArray.empty = ByteArray.empty ++ rB r; rw [ByteArray.append_empty]; exact (ByteArray.empty_append).symm
  | cons x l ih => show rB x ++ runsE (l ++ [r]) = (rB x ++ runsE l) ++ rB r; rw [ih, ByteArray.append_assoc]
theorem rB_size (r : Int × Int) : (rB r).size ≤ 20 := by
  unfold rB; rw [ByteArray.size_append]; have := eB_size r.1.toNat; have := eB_size r.2.toNat; omega
theorem runsE_size (l : List (Int × Int)) : (runsE l).size ≤ 20 * l.length := by
  induction l with
  | nil => simp [runsE]; rfl
  | cons r l ih => show (rB r ++ runsE l).size ≤ _; rw [ByteArray.size_append, List.length_cons]; have := rB_size r; omega
theorem bodyE_size (l : Lab) (h1 : l.name.size ≤ 31) (h2 : l.note.size ≤ 400) : (bodyE l).size ≤ 481 := by
  unfold bodyE
  simp only [ByteArray.size_append]
  have := eB_size l.id.toNat; have := eB_size l.unit.toNat; have := eB_size l.name.size; have := eB_size l.note.size; have := eB_size l.ext.length
  omega
theorem empty_bytes (s : ByteArray) : (⟨#[]⟩ : ByteArray) ++ s = s := ByteArray.empty_append
theorem valid_facts (l : Lab) (t : Int) (h : validL l t = true) : (1 ≤ l.id ∧ l.id ≤ 1099511627776 ∧ 0 ≤ l.unit ∧ l.unit ≤ 1099511627776) ∧ (l.name.size ≤ 31 ∧ l.note.size ≤ 400) ∧ (1 ≤ l.ext.length ∧ l.ext.length ≤ 16) ∧ jnB l = true := by
  unfold validL at h
  simp only [Bool.and_eq_true] at h
  obtain ⟨_, h1, h2, h3, h4, _⟩ := h
  exact ⟨by simpa [idB] using h1, by simpa [txB] using h2, by simpa [cnB] using h3, h4⟩
theorem equalZ_any (A : Option Addr) (c : Nat) (l : Lab) (w : World) (h : LabAt w A c l) (hl : l.ext.length ≤ 100000) :
    Calls Tryz.prog 62 #[.agg #[.int .i64 l.id, .int .i64 l.unit, .string l.name, .string l.note, .slice A l.ext.length c], .agg #[.int .i64 0, .int .i64 0, .string ⟨#[]⟩, .string ⟨#[]⟩, .slice none 0 0]] w fun e w' => e = .returned (.bool (eqL l labZ)) ∧ Grew w w' :=
  lequal_any A none c 0 l labZ w h (LabAt.zero w) hl (by simp [labZ])
theorem requalZ_any (A : Option Addr) (c : Nat) (l : Lab) (w : World) (h : LabAt w A c l) (hl : l.ext.length ≤ 100000) :
    Calls Tryz.prog 12 #[.agg #[.int .i64 l.id, .int .i64 l.unit, .string l.name, .string l.note, .slice A l.ext.length c], .agg #[.int .i64 0, .int .i64 0, .string ⟨#[]⟩, .string ⟨#[]⟩, .slice none 0 0]] w fun e w' => e = .returned (.bool (eqL l labZ)) ∧ Grew w w' :=
  requal_any A none c 0 l labZ w h (LabAt.zero w) hl (by simp [labZ])
set_option maxRecDepth 100000 in
set_option maxHeartbeats 4000000 in
theorem encode_lab (A : Option Addr) (c : Nat) (l : Lab) (t : Int) (w : World) (h : LabAt w A c l) (hs : l.ext.length ≤ 100000) (t0 : -9223372036854775808 ≤ t) (t1 : t ≤ 9223372036854775807) :
    Calls Tryz.prog 81 #[.agg #[.int .i64 l.id, .int .i64 l.unit, .string l.name, .string l.note, .slice A l.ext.length c], .int .i64 t] w fun e w' => e = .returned (.string (encS l t)) ∧ Grew w w' := by
  have g0 := (Grew.refl w).alloc (.cells #[.int .i64 l.id, .int .i64 l.unit, .string l.name, .string l.note, .slice A l.ext.length c] 31)
  have HL := Lib.hid h
  have HL0 := Lib.hid (h.hold g0)
  have HB0 := Lib.hid (Blk.new w 31 #[.int .i64 l.id, .int .i64 l.unit, .string l.name, .string l.note, .slice A l.ext.length c] rfl)
  have HG0 := Lib.hid g0
  have HV := Lib.hid (fun (hv : validL l t = true) => valid_facts l t hv)
  have HZ := Lib.hid (fun w' (g : Grew w w') => equalZ_any A c l w' (HL.out.hold g) hs)
  have HVC := Lib.hid (fun w' (g : Grew w w') => valid_lab A c l t w' (HL.out.hold g) hs)
  clear h g0
  cases ho : okT t with
  | false =>
    have HO := Lib.hid ho
    have hvf := valid_false l t 0 ho
    have HVF := Lib.hid hvf
    have HE := Lib.hid (show encS l t = ⟨#[]⟩ from by unfold encS; rw [if_neg (by rw [ho]; simp), if_neg (by rw [hvf]; simp)])
    clear ho hvf
    go_enter Tryz.func81, Tryz.ntmps81
    go_wp2_with fail
    refine (tracksOK_any _ _).mono ?_
    rintro e w1 ⟨rfl, rfl⟩
    rw [HO.out]
    go_wp2_with fail
    refine (HVC.out _ HG0.out).mono ?_
    rintro e w2 ⟨rfl, g2⟩
    rw [HVF.out]
    go_wp2_with fail
    go_ret
    exact ⟨ret_str (by rw [HE.out]), HG0.out.trans g2⟩
  | true =>
    have HO := Lib.hid ho
    clear ho
    cases hz : eqL l labZ with
    | true =>
      have HZZ := Lib.hid hz
      have HE := Lib.hid (show encS l t = padS 1024 ⟨#[]⟩ from by unfold encS; rw [if_pos ⟨HO.out, hz⟩])
      clear hz
      go_enter Tryz.func81, Tryz.ntmps81
      go_wp2_with fail
      refine (tracksOK_any _ _).mono ?_
      rintro e w1 ⟨rfl, rfl⟩
      rw [HO.out]
      go_wp2_with fail
      refine (HZ.out _ HG0.out).mono ?_
      rintro e w2 ⟨rfl, g2⟩
      rw [HZZ.out]
      go_wp2_with fail
      refine (fill_any ⟨#[]⟩ w2 (by decide)).mono ?_
      rintro e w3 ⟨rfl, g3⟩
      go_wp2_with fail
      go_ret
      exact ⟨ret_str (by rw [HE.out]), (HG0.out.trans g2).trans g3⟩
    | false =>
      have HZZ := Lib.hid hz
      clear hz
      cases hv : validL l t with
      | false =>
        have HVF := Lib.hid hv
        have HE := Lib.hid (show encS l t = ⟨#[]⟩ from by unfold encS; rw [if_neg (by rw [HZZ.out]; simp), if_neg (by rw [hv]; simp)])
        clear hv
        go_enter Tryz.func81, Tryz.ntmps81
        go_wp2_with fail
        refine (tracksOK_any _ _).mono ?_
        rintro e w1 ⟨rfl, rfl⟩
        rw [HO.out]
        go_wp2_with fail
        refine (HZ.out _ HG0.out).mono ?_
        rintro e w2 ⟨rfl, g2⟩
        rw [HZZ.out]
        have hl2 := (HB0.out.grew g2).lt
        have x0 := (HB0.out.grew g2).cell 0
        have x1 := (HB0.out.grew g2).cell 1
        have x2 := (HB0.out.grew g2).cell 2
        have x3 := (HB0.out.grew g2).cell 3
        have x4 := (HB0.out.grew g2).cell 4
        go_wp2_with fail
        refine (HVC.out _ (HG0.out.trans g2)).mono ?_
        rintro e w3 ⟨rfl, g3⟩
        rw [HVF.out]
        go_wp2_with fail
        go_ret
        exact ⟨ret_str (by rw [HE.out]), (HG0.out.trans g2).trans g3⟩
      | true =>
        have HVT := Lib.hid hv
        have HE := Lib.hid (show encS l t = padS 1024 (bodyE l ++ runsE l.ext) from by unfold encS; rw [if_neg (by rw [HZZ.out]; simp), if_pos hv])
        obtain ⟨⟨v1, v2, v3, v4⟩, ⟨v5, v6⟩, ⟨v7, v8⟩, vj⟩ := HV.out hv
        have HJB := Lib.hid (jn_bd l vj)
        clear hv vj
        go_enter Tryz.func81, Tryz.ntmps81
        go_wp2_with fail
        refine (tracksOK_any _ _).mono ?_
        rintro e w1 ⟨rfl, rfl⟩
        rw [HO.out]
        go_wp2_with fail
        refine (HZ.out _ HG0.out).mono ?_
        rintro e w2 ⟨rfl, g2⟩
        rw [HZZ.out]
        have hl2 := (HB0.out.grew g2).lt
        have x0 := (HB0.out.grew g2).cell 0
        have x1 := (HB0.out.grew g2).cell 1
        have x2 := (HB0.out.grew g2).cell 2
        have x3 := (HB0.out.grew g2).cell 3
        have x4 := (HB0.out.grew g2).cell 4
        go_wp2_with fail
        refine (HVC.out _ (HG0.out.trans g2)).mono ?_
        rintro e w3 ⟨rfl, g3⟩
        rw [HVT.out]
        have hG := g2.trans g3
        clear g2 g3 x0 x1 x2 x3 x4 hl2 HZ HVC
        obtain ⟨id, unit, name, note, ext⟩ := l
        simp only at v1 v2 v3 v4 v5 v6 v7 v8
        obtain ⟨idn, rfl⟩ := Int.eq_ofNat_of_zero_le (show 0 ≤ id by omega)
        obtain ⟨un, rfl⟩ := Int.eq_ofNat_of_zero_le v3
        have HB := Lib.hid (show Blk (w.alloc (.cells #[.int .i64 (idn : Int), .int .i64 (un : Int), .string name, .string note, .slice A ext.length c] 31)) w.heap.size 31 #[.int .i64 (idn : Int), .int .i64 (un : Int), .string name, .string note, .slice A ext.length c] from HB0.out)
        have HL1 := Lib.hid (show LabAt w A c ⟨(idn : Int), (un : Int), name, note, ext⟩ from HL.out)
        have HBE := Lib.hid (show bodyE ⟨(idn : Int), (un : Int), name, note, ext⟩ = eB idn ++ (eB un ++ (eB name.size ++ (name ++ (eB note.size ++ (note ++ eB ext.length))))) from rfl)
        have HBS := Lib.hid (bodyE_size ⟨(idn : Int), (un : Int), name, note, ext⟩ v5 v6)
        have HRS := Lib.hid (fun k => runsE_size (ext.take k))
        clear HB0 HL HL0
        have s0 := eB_size idn
        have s1 := eB_size un
        have s2 := eB_size name.size
        have s3 := eB_size note.size
        have s4 := eB_size ext.length
        have hlb := (HB.out.grew hG).lt
        have x0 := (HB.out.grew hG).cell 0
        go_wp2_with fail
        refine (appendNumber_any ⟨#[]⟩ idn _ (by omega) (by decide)).mono ?_
        rintro e ws ⟨rfl, gs⟩
        replace hG := hG.trans gs
        obtain ⟨S1, hS1⟩ : ∃ S1 : ByteArray, S1 = ⟨#[]⟩ ++ ⟨(enc idn).toArray⟩ := ⟨_, rfl⟩
        rw [← hS1]
        have HS1 := Lib.hid (show S1 = eB idn from hS1.trans (by rw [empty_bytes]; rfl))
        have zS1 : S1.size ≤ 10 := by rw [HS1.out]; (try simp only [ByteArray.size_append]); omega
        clear gs hS1 hlb x0
        have hlb := (HB.out.grew hG).lt
        have x1 := (HB.out.grew hG).cell 1
        go_wp2_with fail
        refine (appendNumber_any S1 un _ (by omega) (by omega)).mono ?_
        rintro e ws ⟨rfl, gs⟩
        replace hG := hG.trans gs
        obtain ⟨S2, hS2⟩ : ∃ S2 : ByteArray, S2 = S1 ++ ⟨(enc un).toArray⟩ := ⟨_, rfl⟩
        rw [← hS2]
        have HS2 := Lib.hid (show S2 = S1 ++ eB un from hS2.trans (rfl))
        have zS2 : S2.size ≤ 20 := by rw [HS2.out]; (try simp only [ByteArray.size_append]); omega
        clear gs hS2 hlb x1
        have hlb := (HB.out.grew hG).lt
        have x2 := (HB.out.grew hG).cell 2
        go_wp2_with fail
        refine (appendText_any S2 name _ (by omega) (by omega)).mono ?_
        rintro e ws ⟨rfl, gs⟩
        replace hG := hG.trans gs
        obtain ⟨S3, hS3⟩ : ∃ S3 : ByteArray, S3 = S2 ++ ⟨(enc name.size).toArray⟩ ++ name := ⟨_, rfl⟩
        rw [← hS3]
        have HS3 := Lib.hid (show S3 = S2 ++ eB name.size ++ name from hS3.trans (rfl))
        have zS3 : S3.size ≤ 61 := by rw [HS3.out]; (try simp only [ByteArray.size_append]); omega
        clear gs hS3 hlb x2
        have hlb := (HB.out.grew hG).lt
        have x3 := (HB.out.grew hG).cell 3
        go_wp2_with fail
        refine (appendText_any S3 note _ (by omega) (by omega)).mono ?_
        rintro e ws ⟨rfl, gs⟩
        replace hG := hG.trans gs
        obtain ⟨S4, hS4⟩ : ∃ S4 : ByteArray, S4 = S3 ++ ⟨(enc note.size).toArray⟩ ++ note := ⟨_, rfl⟩
        rw [← hS4]
        have HS4 := Lib.hid (show S4 = S3 ++ eB note.size ++ note from hS4.trans (rfl))
        have zS4 : S4.size ≤ 471 := by rw [HS4.out]; (try simp only [ByteArray.size_append]); omega
        clear gs hS4 hlb x3
        have hlb := (HB.out.grew hG).lt
        have x4 := (HB.out.grew hG).cell 4
        go_wp2_with fail
        refine (appendNumber_any S4 ext.length _ (by omega) (by omega)).mono ?_
        rintro e ws ⟨rfl, gs⟩
        replace hG := hG.trans gs
        obtain ⟨S5, hS5⟩ : ∃ S5 : ByteArray, S5 = S4 ++ ⟨(enc ext.length).toArray⟩ := ⟨_, rfl⟩
        rw [← hS5]
        have HS5 := Lib.hid (show S5 = S4 ++ eB ext.length from hS5.trans (rfl))
        have zS5 : S5.size ≤ 481 := by rw [HS5.out]; (try simp only [ByteArray.size_append]); omega
        clear gs hS5 hlb x4
        have HS := Lib.hid (show S5 = bodyE ⟨(idn : Int), (un : Int), name, note, ext⟩ from by
          rw [HBE.out, HS5.out, HS4.out, HS3.out, HS2.out, HS1.out]; simp only [ByteArray.append_assoc])
        clear HS1 HS2 HS3 HS4 HS5 s0 s1 s2 s3 s4 zS1 zS2 zS3 zS4
        have hlb := (HB.out.grew hG).lt
        have x4 := (HB.out.grew hG).cell 4
        go_wp2_with fail
        obtain ⟨wl, hwl⟩ : ∃ wl, wl = ws := ⟨_, rfl⟩
        rw [← hwl] at hG ⊢
        clear hwl
        go_loopg [5, 46] ext.length (fun gk v i wr => ∃ k : Nat, k ≤ ext.length ∧ gk = ext.length - k ∧ i = .int .i64 k ∧ v = .string (S5 ++ runsE (ext.take k)) ∧ Grew (w.alloc (.cells #[.int .i64 (idn : Int), .int .i64 (un : Int), .string name, .string note, .slice A ext.length c] 31)) wr)
        case atStart => exact ⟨0, by omega, by omega, rfl, by rw [List.take_zero]; show _ = Value.string (S5 ++ ByteArray.empty); rw [ByteArray.append_empty], hG⟩
        case round =>
          obtain ⟨k, hk, hgk, rfl, rfl, hg⟩ := hrel
          have HGK := Lib.hid hgk
          have hrs := HRS.out k
          rw [List.length_take] at hrs
          obtain ⟨U, hU⟩ : ∃ U, S5 ++ runsE (ext.take k) = U := ⟨_, rfl⟩
          have hUs : U.size ≤ 801 := by rw [← hU, ByteArray.size_append]; omega
          rw [hU]
          have HU := Lib.hid hU
          clear hgk hrs hU
          by_cases hlt : k < ext.length
          · obtain ⟨b, off, f, n, rfl, hb, hv, hok, c0, c1⟩ := ((HL1.out.hold HG0.out).hold hg).runs.at_ hlt
            have hsm := HJB.out ext[k] (List.getElem_mem hlt)
            rw [hv] at hsm
            simp only at hsm
            obtain ⟨q0, q1, q2⟩ := hsm
            obtain ⟨fn, rfl⟩ := Int.eq_ofNat_of_zero_le q0
            obtain ⟨nn, rfl⟩ := Int.eq_ofNat_of_zero_le q1
            have HNX := Lib.hid (show S5 ++ runsE (ext.take (k + 1)) = U ++ eB fn ++ eB nn from by
              rw [List.take_succ_eq_append_getElem hlt, runsE_snoc, hv, ← ByteArray.append_assoc, HU.out]
              show U ++ (eB fn ++ eB nn) = _
              rw [ByteArray.append_assoc])
            have z0 := eB_size fn
            obtain ⟨wm, hwm⟩ : ∃ wm, wm = wr := ⟨_, rfl⟩
            subst hwm
            have HR := Lib.hid (Blk.new wm 65 #[.int .i64 (fn : Int), .int .i64 (nn : Int)] rfl)
            clear hv hok
            go_wp2_with fail
            refine wp_region_R [] (fun w' : World => w'.cell? ⟨wm.heap.size, 0, none⟩ = some (.int .i64 (fn : Int)) ∧ w'.cell? ⟨wm.heap.size, 1, none⟩ = some (.int .i64 (nn : Int))) (by kernel_rfl) ?_
            have hS := (show (fun w' : World => w'.cell? ⟨wm.heap.size, 0, none⟩ = some (.int .i64 (fn : Int)) ∧ w'.cell? ⟨wm.heap.size, 1, none⟩ = some (.int .i64 (nn : Int))) _ from ⟨HR.out.drew.cell 0, HR.out.drew.cell 1⟩)
            refine wpAnyR_takeQ (i := 0) (v := ?_) (some 50) rfl rfl (by kernel_rfl) (by kernel_rfl) (by kernel_rfl) (by kernel_rfl) (fun _ _ _ h => h) (Or.inl ⟨by rfl, ?_⟩) ?_
            rotate_left
            focus (intro wS hSw; (try dsimp only at hSw); go_simp; (try with_reducible rfl); (try (first | (rw [if_pos (by omega)]; (try go_simp); (try with_reducible rfl)) | (rw [if_neg (by omega)]; (try go_simp); (try with_reducible rfl)))))
            try simp only [Act.put, zA, zB, zC]
            refine wpAnyR_takeQ (i := 1) (v := ?_) (some 51) rfl rfl (by kernel_rfl) (by kernel_rfl) (by kernel_rfl) (by kernel_rfl) (fun _ _ _ h => h) (Or.inl ⟨by rfl, ?_⟩) ?_
            rotate_left
            focus (intro wS hSw; (try dsimp only at hSw); go_simp; (try with_reducible rfl); (try (first | (rw [if_pos (by omega)]; (try go_simp); (try with_reducible rfl)) | (rw [if_neg (by omega)]; (try go_simp); (try with_reducible rfl)))))
            try simp only [Act.put, zA, zB, zC]
            refine wpAnyR_take (i := 2) (v := ?_) [3, 4, 8, 9] (some 52) rfl rfl (by kernel_rfl) (by kernel_rfl) (by kernel_rfl) (by kernel_rfl) (by kernel_rfl) (by kernel_rfl) (by kernel_rfl) (fun _ _ _ h => h) (Or.inl ⟨by rfl, ?_⟩) hS ?_
            rotate_left
            focus (intro wS hSw; (try dsimp only at hSw); go_simp; (try with_reducible rfl); (try (first | (rw [if_pos (by omega)]; (try go_simp); (try with_reducible rfl)) | (rw [if_neg (by omega)]; (try go_simp); (try with_reducible rfl)))))
            try simp only [Act.put, zA, zB, zC]
            refine wpAnyR_take (i := 3) (v := ?_) [4, 8, 9] (some 53) rfl rfl (by kernel_rfl) (by kernel_rfl) (by kernel_rfl) (by kernel_rfl) (by kernel_rfl) (by kernel_rfl) (by kernel_rfl) (fun _ _ _ h => h) (Or.inl ⟨by rfl, ?_⟩) hS ?_
            rotate_left
            focus (intro wS hSw; (try dsimp only at hSw); go_simp; (try with_reducible rfl); (try (first | (rw [if_pos (by omega)]; (try go_simp); (try with_reducible rfl)) | (rw [if_neg (by omega)]; (try go_simp); (try with_reducible rfl)))))
            try simp only [Act.put, zA, zB, zC]
            refine wpAnyR_takeQ (i := 5) (v := ?_) (some 55) rfl rfl (by kernel_rfl) (by kernel_rfl) (by kernel_rfl) (by kernel_rfl) (fun _ _ _ h => h) (Or.inl ⟨by rfl, ?_⟩) ?_
            rotate_left
            focus (intro wS hSw; (try dsimp only at hSw); go_simp; (try with_reducible rfl); (try (first | (rw [if_pos (by omega)]; (try go_simp); (try with_reducible rfl)) | (rw [if_neg (by omega)]; (try go_simp); (try with_reducible rfl)))))
            try simp only [Act.put, zA, zB, zC]
            refine wpAnyR_take (i := 6) (v := ?_) [7, 8, 9] (some 56) rfl rfl (by kernel_rfl) (by kernel_rfl) (by kernel_rfl) (by kernel_rfl) (by kernel_rfl) (by kernel_rfl) (by kernel_rfl) (fun _ _ _ h => h) (Or.inl ⟨by rfl, ?_⟩) hS ?_
            rotate_left
            focus (intro wS hSw; (try dsimp only at hSw); go_simp; (try with_reducible rfl); (try (first | (rw [if_pos (by omega)]; (try go_simp); (try with_reducible rfl)) | (rw [if_neg (by omega)]; (try go_simp); (try with_reducible rfl)))))
            try simp only [Act.put, zA, zB, zC]
            refine wpAnyR_take (i := 7) (v := ?_) [8, 9] (some 57) rfl rfl (by kernel_rfl) (by kernel_rfl) (by kernel_rfl) (by kernel_rfl) (by kernel_rfl) (by kernel_rfl) (by kernel_rfl) (fun _ _ _ h => h) (Or.inl ⟨by rfl, ?_⟩) hS ?_
            rotate_left
            focus (intro wS hSw; (try dsimp only at hSw); go_simp; (try with_reducible rfl); (try (first | (rw [if_pos (by omega)]; (try go_simp); (try with_reducible rfl)) | (rw [if_neg (by omega)]; (try go_simp); (try with_reducible rfl)))))
            try simp only [Act.put, zA, zB, zC]
            refine wpAnyR_n1 (i := 4) rfl (by kernel_rfl) ?_
            intro K' hK
            rw [if_pos (by rfl)]
            simp only [List.getElem_toArray, List.getElem_cons_succ, List.getElem_cons_zero]
            go_wp2_with fail
            refine (appendNumber_any U fn _ (by omega) (by omega)).mono ?_
            rintro e w4 ⟨rfl, g4⟩
            obtain ⟨V, hV⟩ : ∃ V : ByteArray, V = U ++ ⟨(enc fn).toArray⟩ := ⟨_, rfl⟩
            rw [← hV]
            have HV := Lib.hid (show V = U ++ eB fn from hV)
            have zV : V.size ≤ 811 := by rw [HV.out, ByteArray.size_append]; omega
            clear hV
            go_wp2_with fail
            refine hK.out _ _ (.inr (fun _ => ⟨(HR.out.drew.grew g4).cell 0, (HR.out.drew.grew g4).cell 1⟩)) ?_
            clear hK hS
            refine wpAnyR_n1 (i := 8) rfl (by kernel_rfl) ?_
            intro K' hK
            rw [if_pos (by rfl)]
            simp only [List.getElem_toArray, List.getElem_cons_succ, List.getElem_cons_zero]
            go_wp2_with fail
            refine (appendNumber_any V nn _ (by omega) (by omega)).mono ?_
            rintro e w5 ⟨rfl, g5⟩
            go_wp2_with fail
            refine hK.out _ _ (.inr (fun _ => ⟨((HR.out.drew.grew g4).grew g5).cell 0, ((HR.out.drew.grew g4).grew g5).cell 1⟩)) ?_
            clear hK
            have hgn := ((hg.alloc (.cells #[.int .i64 (fn : Int), .int .i64 (nn : Int)] 65)).drew.trans g4).trans g5
            refine wpAnyR_takeQ (i := 9) (v := ?_) (some 5) rfl rfl (by kernel_rfl) (by kernel_rfl) (by kernel_rfl) (by kernel_rfl) (fun _ _ _ h => h) (Or.inl ⟨by rfl, ?_⟩) ?_
            rotate_left
            focus (intro wS hSw; (try dsimp only at hSw); go_simp; (try with_reducible rfl); (try (first | (rw [if_pos (by omega)]; (try go_simp); (try with_reducible rfl)) | (rw [if_neg (by omega)]; (try go_simp); (try with_reducible rfl)))))
            try simp only [Act.put, zA, zB, zC]
            refine wpAnyR_done (by kernel_rfl) ?_ _
            go_wp2_with fail
            go_roundg (ext.length - (k + 1))
            case measure => rw [HGK.out]; omega
            case rel => exact ⟨k + 1, by omega, by omega, by go_num, by rw [HNX.out, ← HV.out]; rfl, hgn⟩
          · obtain rfl : k = ext.length := by omega
            have HEE := Lib.hid (show encS ⟨(idn : Int), (un : Int), name, note, ext⟩ t = padS 1024 U from by
              rw [HE.out]
              show padS 1024 (bodyE _ ++ runsE ext) = _
              rw [← HS.out, ← HU.out, List.take_length])
            go_wp2_with fail
            refine (fill_any U _ (by omega)).mono ?_
            rintro e w6 ⟨rfl, g6⟩
            go_wp2_with fail
            go_ret
            exact ⟨ret_str (by rw [HEE.out]), (HG0.out.trans hg).trans g6⟩
end Go.Proofs.YtnlaogneceanoaaGreat
namespace Go.Proofs.YtnlaogneceanoaaGreat
set_option linter.unusedVariables false
set_option linter.unusedSimpArgs false
set_option linter.unusedSectionVars false
open Go.RowKit
theorem extract_app (a b : List UInt8) : (⟨(a ++ b).toArray⟩ : ByteArray).extract a.length (⟨(a ++ b).toArray⟩ : ByteArray).size = ⟨b.toArray⟩ := by
  rw [Lib.extract_eq]
  congr 2
  simp only []
  rw [List.drop_left]
  apply List.take_of_length_le
  show b.length ≤ (a ++ b).toArray.size - a.length
  simp
theorem extract_pre (a b : List UInt8) : (⟨(a ++ b).toArray⟩ : ByteArray).extract 0 a.length = ⟨a.toArray⟩ := by
  rw [Lib.extract_eq]
  congr 2
  simp
theorem RNum_app (n : Nat) (rest : List UInt8) (h : n < 18446744073709551616) : RNum ⟨(enc n ++ rest).toArray⟩ 0 = (n, ⟨rest.toArray⟩, 0) := by
  have hd := dec_enc n rest h
  have hp := enc_pos n
  have hd' : dec (⟨(enc n ++ rest).toArray⟩ : ByteArray).data.toList = (n, ((enc n).length - 1) + 1) := by rw [show (enc n).length - 1 + 1 = (enc n).length from by omega]; exact hd
  rw [RNum_some _ n _ hd', show (enc n).length - 1 + 1 = (enc n).length from by omega, extract_app]
theorem RCnt_app (n : Nat) (rest : List UInt8) (most : Int) (h : n < 18446744073709551616) (hm : (n : Int) ≤ most) : RCnt ⟨(enc n ++ rest).toArray⟩ 0 most = (n, ⟨rest.toArray⟩, 0) := by
  rw [RCnt, RNum_app n rest h, if_neg (by simp), if_neg (by simp; omega)]
theorem RTxt_app (t rest : List UInt8) (most : Int) (h : t.length < 18446744073709551616) (hm : (t.length : Int) ≤ most) : RTxt ⟨(enc t.length ++ (t ++ rest)).toArray⟩ 0 most = (⟨t.toArray⟩, ⟨rest.toArray⟩, 0) := by
  rw [RTxt, RCnt_app _ _ _ h hm, if_neg (by simp)]
  have hsz : (⟨(t ++ rest).toArray⟩ : ByteArray).size = t.length + rest.length := by show (t ++ rest).toArray.size = _; simp
  rw [if_neg (by simp only [hsz]; omega)]
  simp only []
  rw [extract_pre, extract_app]
theorem data_eq (s : ByteArray) : (⟨s.data.toList.toArray⟩ : ByteArray) = s := Lib.mk_data s
def Whole (s again left : ByteArray) (err : Int) : Prop := (err ≠ 0 ∧ left = ⟨#[]⟩) ∨ (err = 0 ∧ again ++ left = s)
def runsL : List (Int × Int) → List UInt8
  | [] => []
  | r :: l => enc r.1.toNat ++ (enc r.2.toNat ++ runsL l)
theorem runsE_data (l : List (Int × Int)) : (runsE l).data.toList = runsL l := by
  induction l with
  | nil => rfl
  | cons r l ih =>
    show (rB r ++ runsE l).data.toList = _
    unfold rB eB
    simp only [ByteArray.data_append, Array.toList_append, ih]
    simp [runsL]
def allL (l : Lab) (z : Nat) : List UInt8 := enc l.id.toNat ++ (enc l.unit.toNat ++ (enc l.name.size ++ (l.name.data.toList ++ (enc l.note.size ++ (l.note.data.toList ++ (enc l.ext.length ++ (runsL l.ext ++ List.replicate z 0)))))))
theorem pad_data (l : Lab) : (padS 1024 (bodyE l ++ runsE l.ext)).data.toList = allL l (1024 - (bodyE l ++ runsE l.ext).size) := by
  unfold padS bodyE allL zeros eB
  simp only [ByteArray.data_append, Array.toList_append, runsE_data]
  simp
theorem bytes_eq {a b : ByteArray} (h : a.data.toList = b.data.toList) : a = b := by
  apply ByteArray.ext
  exact Array.toList_inj.1 h
theorem encS_valid (l : Lab) (t : Int) (h : validL l t = true) : encS l t = padS 1024 (bodyE l ++ runsE l.ext) := by
  have hz : eqL l labZ = false := by
    obtain ⟨⟨v1, _⟩, _⟩ := valid_facts l t h
    unfold eqL labZ
    simp only
    rw [show (l.id == 0) = false from beq_eq_false_iff_ne.2 (by omega)]
    rfl
  unfold encS
  rw [if_neg (by rw [hz]; simp), if_pos h]
theorem eqL_iff (l k : Lab) : eqL l k = true ↔ l = k := by
  obtain ⟨i1, u1, n1, t1, e1⟩ := l
  obtain ⟨i2, u2, n2, t2, e2⟩ := k
  unfold eqL
  simp only [Bool.and_eq_true, beq_iff_eq, decide_eq_true_eq, Lab.mk.injEq]
  constructor
  · rintro ⟨h1, h2, h3, h4, h5⟩
    exact ⟨h1, h2, bytes_eq (by simpa [ByteArray.toList_eq] using h3), bytes_eq (by simpa [ByteArray.toList_eq] using h4), h5⟩
  · rintro ⟨rfl, rfl, rfl, rfl, rfl⟩
    exact ⟨rfl, rfl, rfl, rfl, rfl⟩
end Go.Proofs.YtnlaogneceanoaaGreat
namespace Go.Proofs.YtnlaogneceanoaaGreat
set_option linter.unusedVariables false
set_option linter.unusedSimpArgs false
set_option linter.unusedSectionVars false
open Go.RowKit
attribute [local go_sem ↓] Go.wp_at_zero Go.wp_at_succ
theorem pad1024 (s : ByteArray) (w : World) (hs : s.size ≤ 1024) : Calls Tryz.prog 136 #[.string s, .int .i64 1024] w fun e w' => e = .returned (.string (padS 1024 s)) ∧ w = w' := padded_any s 1024 w (by omega) (by omega)
set_option maxRecDepth 100000 in
set_option maxHeartbeats 4000000 in
theorem rencode_lab (A : Option Addr) (c : Nat) (l : Lab) (t : Int) (w : World) (h : LabAt w A c l) (hs : l.ext.length ≤ 100000) (t0 : -9223372036854775808 ≤ t) (t1 : t ≤ 9223372036854775807) :
    Calls Tryz.prog 84 #[.agg #[.int .i64 l.id, .int .i64 l.unit, .string l.name, .string l.note, .slice A l.ext.length c], .int .i64 t] w fun e w' => e = .returned (.string (encS l t)) ∧ Grew w w' := by
  have g0 := (Grew.refl w).alloc (.cells #[.int .i64 l.id, .int .i64 l.unit, .string l.name, .string l.note, .slice A l.ext.length c] 31)
  have HL := Lib.hid h
  have HL0 := Lib.hid (h.hold g0)
  have HB0 := Lib.hid (Blk.new w 31 #[.int .i64 l.id, .int .i64 l.unit, .string l.name, .string l.note, .slice A l.ext.length c] rfl)
  have HG0 := Lib.hid g0
  have HV := Lib.hid (fun (hv : validL l t = true) => valid_facts l t hv)
  have HZ := Lib.hid (fun w' (g : Grew w w') => requalZ_any A c l w' (HL.out.hold g) hs)
  have HVC := Lib.hid (fun w' (g : Grew w w') => rvalid_lab A c l t w' (HL.out.hold g) hs t0 t1)
  clear h g0
  cases ho : okT t with
  | false =>
    have HO := Lib.hid ho
    have hvf := valid_false l t 0 ho
    have HVF := Lib.hid hvf
    have HE := Lib.hid (show encS l t = ⟨#[]⟩ from by unfold encS; rw [if_neg (by rw [ho]; simp), if_neg (by rw [hvf]; simp)])
    clear ho hvf
    go_enter Tryz.func84, Tryz.ntmps84
    go_wp2_with fail
    refine (rvalid_any _ _).mono ?_
    rintro e w1 ⟨rfl, rfl⟩
    rw [HO.out]
    go_wp2_with fail
    refine (HVC.out _ HG0.out).mono ?_
    rintro e w2 ⟨rfl, g2⟩
    rw [HVF.out]
    go_wp2_with fail
    go_ret
    exact ⟨ret_str (by rw [HE.out]), HG0.out.trans g2⟩
  | true =>
    have HO := Lib.hid ho
    clear ho
    cases hz : eqL l labZ with
    | true =>
      have HZZ := Lib.hid hz
      have HE := Lib.hid (show encS l t = padS 1024 ⟨#[]⟩ from by unfold encS; rw [if_pos ⟨HO.out, hz⟩])
      clear hz
      go_enter Tryz.func84, Tryz.ntmps84
      go_wp2_with fail
      refine (rvalid_any _ _).mono ?_
      rintro e w1 ⟨rfl, rfl⟩
      rw [HO.out]
      go_wp2_with fail
      refine (HZ.out _ HG0.out).mono ?_
      rintro e w2 ⟨rfl, g2⟩
      rw [HZZ.out]
      go_wp2_with fail
      refine (pad1024 ⟨#[]⟩ w2 (by decide)).mono ?_
      rintro e w3 ⟨rfl, rfl⟩
      have g3 := Grew.refl w2
      go_wp2_with fail
      go_ret
      exact ⟨ret_str (by rw [HE.out]), (HG0.out.trans g2).trans g3⟩
    | false =>
      have HZZ := Lib.hid hz
      clear hz
      cases hv : validL l t with
      | false =>
        have HVF := Lib.hid hv
        have HE := Lib.hid (show encS l t = ⟨#[]⟩ from by unfold encS; rw [if_neg (by rw [HZZ.out]; simp), if_neg (by rw [hv]; simp)])
        clear hv
        go_enter Tryz.func84, Tryz.ntmps84
        go_wp2_with fail
        refine (rvalid_any _ _).mono ?_
        rintro e w1 ⟨rfl, rfl⟩
        rw [HO.out]
        go_wp2_with fail
        refine (HZ.out _ HG0.out).mono ?_
        rintro e w2 ⟨rfl, g2⟩
        rw [HZZ.out]
        have hl2 := (HB0.out.grew g2).lt
        have x0 := (HB0.out.grew g2).cell 0
        have x1 := (HB0.out.grew g2).cell 1
        have x2 := (HB0.out.grew g2).cell 2
        have x3 := (HB0.out.grew g2).cell 3
        have x4 := (HB0.out.grew g2).cell 4
        go_wp2_with fail
        refine (HVC.out _ (HG0.out.trans g2)).mono ?_
        rintro e w3 ⟨rfl, g3⟩
        rw [HVF.out]
        go_wp2_with fail
        go_ret
        exact ⟨ret_str (by rw [HE.out]), (HG0.out.trans g2).trans g3⟩
      | true =>
        have HVT := Lib.hid hv
        have HE := Lib.hid (show encS l t = padS 1024 (bodyE l ++ runsE l.ext) from by unfold encS; rw [if_neg (by rw [HZZ.out]; simp), if_pos hv])
        obtain ⟨⟨v1, v2, v3, v4⟩, ⟨v5, v6⟩, ⟨v7, v8⟩, vj⟩ := HV.out hv
        have HJB := Lib.hid (jn_bd l vj)
        clear hv vj
        go_enter Tryz.func84, Tryz.ntmps84
        go_wp2_with fail
        refine (rvalid_any _ _).mono ?_
        rintro e w1 ⟨rfl, rfl⟩
        rw [HO.out]
        go_wp2_with fail
        refine (HZ.out _ HG0.out).mono ?_
        rintro e w2 ⟨rfl, g2⟩
        rw [HZZ.out]
        have hl2 := (HB0.out.grew g2).lt
        have x0 := (HB0.out.grew g2).cell 0
        have x1 := (HB0.out.grew g2).cell 1
        have x2 := (HB0.out.grew g2).cell 2
        have x3 := (HB0.out.grew g2).cell 3
        have x4 := (HB0.out.grew g2).cell 4
        go_wp2_with fail
        refine (HVC.out _ (HG0.out.trans g2)).mono ?_
        rintro e w3 ⟨rfl, g3⟩
        rw [HVT.out]
        have hG := g2.trans g3
        clear g2 g3 x0 x1 x2 x3 x4 hl2 HZ HVC
        obtain ⟨id, unit, name, note, ext⟩ := l
        simp only at v1 v2 v3 v4 v5 v6 v7 v8
        obtain ⟨idn, rfl⟩ := Int.eq_ofNat_of_zero_le (show 0 ≤ id by omega)
        obtain ⟨un, rfl⟩ := Int.eq_ofNat_of_zero_le v3
        have HB := Lib.hid (show Blk (w.alloc (.cells #[.int .i64 (idn : Int), .int .i64 (un : Int), .string name, .string note, .slice A ext.length c] 31)) w.heap.size 31 #[.int .i64 (idn : Int), .int .i64 (un : Int), .string name, .string note, .slice A ext.length c] from HB0.out)
        have HL1 := Lib.hid (show LabAt w A c ⟨(idn : Int), (un : Int), name, note, ext⟩ from HL.out)
        have HBE := Lib.hid (show bodyE ⟨(idn : Int), (un : Int), name, note, ext⟩ = eB idn ++ (eB un ++ (eB name.size ++ (name ++ (eB note.size ++ (note ++ eB ext.length))))) from rfl)
        have HBS := Lib.hid (bodyE_size ⟨(idn : Int), (un : Int), name, note, ext⟩ v5 v6)
        have HRS := Lib.hid (fun k => runsE_size (ext.take k))
        clear HB0 HL HL0
        have s0 := eB_size idn
        have s1 := eB_size un
        have s2 := eB_size name.size
        have s3 := eB_size note.size
        have s4 := eB_size ext.length
        go_wp2_with fail
        refine wp_region_R [] (fun w' : World => w'.cell? ⟨w.heap.size, 0, none⟩ = some (.int .i64 (idn : Int)) ∧ w'.cell? ⟨w.heap.size, 1, none⟩ = some (.int .i64 (un : Int)) ∧ w'.cell? ⟨w.heap.size, 2, none⟩ = some (.string name) ∧ w'.cell? ⟨w.heap.size, 3, none⟩ = some (.string note) ∧ w'.cell? ⟨w.heap.size, 4, none⟩ = some (.slice A ext.length c)) (by kernel_rfl) ?_
        have hB0 := (HB.out.grew hG).drew
        obtain ⟨wr0, hwr0⟩ : ∃ wr0, wr0 = w3.drew := ⟨_, rfl⟩
        rw [← hwr0] at hB0 ⊢
        have HG1 := Lib.hid (show Grew (w.alloc (.cells #[.int .i64 (idn : Int), .int .i64 (un : Int), .string name, .string note, .slice A ext.length c] 31)) wr0 from by rw [hwr0]; exact hG.drew)
        have HBX := Lib.hid hB0
        clear hwr0 hG
        have hS := (show (fun w' : World => w'.cell? ⟨w.heap.size, 0, none⟩ = some (.int .i64 (idn : Int)) ∧ w'.cell? ⟨w.heap.size, 1, none⟩ = some (.int .i64 (un : Int)) ∧ w'.cell? ⟨w.heap.size, 2, none⟩ = some (.string name) ∧ w'.cell? ⟨w.heap.size, 3, none⟩ = some (.string note) ∧ w'.cell? ⟨w.heap.size, 4, none⟩ = some (.slice A ext.length c)) wr0 from ⟨hB0.cell 0, hB0.cell 1, hB0.cell 2, hB0.cell 3, hB0.cell 4⟩)
        clear hB0
        have hG := Grew.refl wr0
        refine wpAnyR_takeQ (i := 0) (v := ?_) (some 19) rfl rfl (by kernel_rfl) (by kernel_rfl) (by kernel_rfl) (by kernel_rfl) (fun _ _ _ h => h) (Or.inl ⟨by rfl, ?_⟩) ?_
        rotate_left
        focus (intro wS hSw; (try dsimp only at hSw); go_simp; (try with_reducible rfl); (try (first | (rw [if_pos (by omega)]; (try go_simp); (try with_reducible rfl)) | (rw [if_neg (by omega)]; (try go_simp); (try with_reducible rfl)))))
        try simp only [Act.put, zA, zB, zC]
        refine wpAnyR_take (i := 1) (v := ?_) [2, 3, 7, 8, 11, 12, 15, 16, 21, 22, 23] (some 20) rfl rfl (by kernel_rfl) (by kernel_rfl) (by kernel_rfl) (by kernel_rfl) (by kernel_rfl) (by kernel_rfl) (by kernel_rfl) (fun _ _ _ h => h) (Or.inl ⟨by rfl, ?_⟩) hS ?_
        rotate_left
        focus (intro wS hSw; (try dsimp only at hSw); go_simp; (try with_reducible rfl); (try (first | (rw [if_pos (by omega)]; (try go_simp); (try with_reducible rfl)) | (rw [if_neg (by omega)]; (try go_simp); (try with_reducible rfl)))))
        try simp only [Act.put, zA, zB, zC]
        refine wpAnyR_take (i := 2) (v := ?_) [3, 7, 8, 11, 12, 15, 16, 21, 22, 23] (some 21) rfl rfl (by kernel_rfl) (by kernel_rfl) (by kernel_rfl) (by kernel_rfl) (by kernel_rfl) (by kernel_rfl) (by kernel_rfl) (fun _ _ _ h => h) (Or.inl ⟨by rfl, ?_⟩) hS ?_
        rotate_left
        focus (intro wS hSw; (try dsimp only at hSw); go_simp; (try with_reducible rfl); (try (first | (rw [if_pos (by omega)]; (try go_simp); (try with_reducible rfl)) | (rw [if_neg (by omega)]; (try go_simp); (try with_reducible rfl)))))
        try simp only [Act.put, zA, zB, zC]
        refine wpAnyR_takeQ (i := 4) (v := ?_) (some 23) rfl rfl (by kernel_rfl) (by kernel_rfl) (by kernel_rfl) (by kernel_rfl) (fun _ _ _ h => h) (Or.inl ⟨by rfl, ?_⟩) ?_
        rotate_left
        focus (intro wS hSw; (try dsimp only at hSw); go_simp; (try with_reducible rfl); (try (first | (rw [if_pos (by omega)]; (try go_simp); (try with_reducible rfl)) | (rw [if_neg (by omega)]; (try go_simp); (try with_reducible rfl)))))
        try simp only [Act.put, zA, zB, zC]
        refine wpAnyR_take (i := 5) (v := ?_) [6, 7, 8, 11, 12, 15, 16, 21, 22, 23] (some 24) rfl rfl (by kernel_rfl) (by kernel_rfl) (by kernel_rfl) (by kernel_rfl) (by kernel_rfl) (by kernel_rfl) (by kernel_rfl) (fun _ _ _ h => h) (Or.inl ⟨by rfl, ?_⟩) hS ?_
        rotate_left
        focus (intro wS hSw; (try dsimp only at hSw); go_simp; (try with_reducible rfl); (try (first | (rw [if_pos (by omega)]; (try go_simp); (try with_reducible rfl)) | (rw [if_neg (by omega)]; (try go_simp); (try with_reducible rfl)))))
        try simp only [Act.put, zA, zB, zC]
        refine wpAnyR_take (i := 6) (v := ?_) [7, 8, 11, 12, 15, 16, 21, 22, 23] (some 25) rfl rfl (by kernel_rfl) (by kernel_rfl) (by kernel_rfl) (by kernel_rfl) (by kernel_rfl) (by kernel_rfl) (by kernel_rfl) (fun _ _ _ h => h) (Or.inl ⟨by rfl, ?_⟩) hS ?_
        rotate_left
        focus (intro wS hSw; (try dsimp only at hSw); go_simp; (try with_reducible rfl); (try (first | (rw [if_pos (by omega)]; (try go_simp); (try with_reducible rfl)) | (rw [if_neg (by omega)]; (try go_simp); (try with_reducible rfl)))))
        try simp only [Act.put, zA, zB, zC]
        refine wpAnyR_takeQ (i := 9) (v := ?_) (some 28) rfl rfl (by kernel_rfl) (by kernel_rfl) (by kernel_rfl) (by kernel_rfl) (fun _ _ _ h => h) (Or.inl ⟨by rfl, ?_⟩) ?_
        rotate_left
        focus (intro wS hSw; (try dsimp only at hSw); go_simp; (try with_reducible rfl); (try (first | (rw [if_pos (by omega)]; (try go_simp); (try with_reducible rfl)) | (rw [if_neg (by omega)]; (try go_simp); (try with_reducible rfl)))))
        try simp only [Act.put, zA, zB, zC]
        refine wpAnyR_take (i := 10) (v := ?_) [11, 12, 15, 16, 21, 22, 23] (some 29) rfl rfl (by kernel_rfl) (by kernel_rfl) (by kernel_rfl) (by kernel_rfl) (by kernel_rfl) (by kernel_rfl) (by kernel_rfl) (fun _ _ _ h => h) (Or.inl ⟨by rfl, ?_⟩) hS ?_
        rotate_left
        focus (intro wS hSw; (try dsimp only at hSw); go_simp; (try with_reducible rfl); (try (first | (rw [if_pos (by omega)]; (try go_simp); (try with_reducible rfl)) | (rw [if_neg (by omega)]; (try go_simp); (try with_reducible rfl)))))
        try simp only [Act.put, zA, zB, zC]
        refine wpAnyR_takeQ (i := 13) (v := ?_) (some 32) rfl rfl (by kernel_rfl) (by kernel_rfl) (by kernel_rfl) (by kernel_rfl) (fun _ _ _ h => h) (Or.inl ⟨by rfl, ?_⟩) ?_
        rotate_left
        focus (intro wS hSw; (try dsimp only at hSw); go_simp; (try with_reducible rfl); (try (first | (rw [if_pos (by omega)]; (try go_simp); (try with_reducible rfl)) | (rw [if_neg (by omega)]; (try go_simp); (try with_reducible rfl)))))
        try simp only [Act.put, zA, zB, zC]
        refine wpAnyR_take (i := 14) (v := ?_) [15, 16, 21, 22, 23] (some 33) rfl rfl (by kernel_rfl) (by kernel_rfl) (by kernel_rfl) (by kernel_rfl) (by kernel_rfl) (by kernel_rfl) (by kernel_rfl) (fun _ _ _ h => h) (Or.inl ⟨by rfl, ?_⟩) hS ?_
        rotate_left
        focus (intro wS hSw; (try dsimp only at hSw); go_simp; (try with_reducible rfl); (try (first | (rw [if_pos (by omega)]; (try go_simp); (try with_reducible rfl)) | (rw [if_neg (by omega)]; (try go_simp); (try with_reducible rfl)))))
        try simp only [Act.put, zA, zB, zC]
        refine wpAnyR_takeQ (i := 17) (v := ?_) (some 36) rfl rfl (by kernel_rfl) (by kernel_rfl) (by kernel_rfl) (by kernel_rfl) (fun _ _ _ h => h) (Or.inl ⟨by rfl, ?_⟩) ?_
        rotate_left
        focus (intro wS hSw; (try dsimp only at hSw); go_simp; (try with_reducible rfl); (try (first | (rw [if_pos (by omega)]; (try go_simp); (try with_reducible rfl)) | (rw [if_neg (by omega)]; (try go_simp); (try with_reducible rfl)))))
        try simp only [Act.put, zA, zB, zC]
        refine wpAnyR_take (i := 18) (v := ?_) [19, 20, 21, 22, 23] (some 37) rfl rfl (by kernel_rfl) (by kernel_rfl) (by kernel_rfl) (by kernel_rfl) (by kernel_rfl) (by kernel_rfl) (by kernel_rfl) (fun _ _ _ h => h) (Or.inl ⟨by rfl, ?_⟩) hS ?_
        rotate_left
        focus (intro wS hSw; (try dsimp only at hSw); go_simp; (try with_reducible rfl); (try (first | (rw [if_pos (by omega)]; (try go_simp); (try with_reducible rfl)) | (rw [if_neg (by omega)]; (try go_simp); (try with_reducible rfl)))))
        try simp only [Act.put, zA, zB, zC]
        refine wpAnyR_take (i := 19) (v := ?_) [20, 21, 22, 23] (some 38) rfl rfl (by kernel_rfl) (by kernel_rfl) (by kernel_rfl) (by kernel_rfl) (by kernel_rfl) (by kernel_rfl) (by kernel_rfl) (fun _ _ _ h => h) (Or.inl ⟨by rfl, ?_⟩) hS ?_
        rotate_left
        focus (intro wS hSw; (try dsimp only at hSw); go_simp; (try with_reducible rfl); (try (first | (rw [if_pos (by omega)]; (try go_simp); (try with_reducible rfl)) | (rw [if_neg (by omega)]; (try go_simp); (try with_reducible rfl)))))
        try simp only [Act.put, zA, zB, zC]
        refine wpAnyR_take (i := 20) (v := ?_) [21, 22, 23] (some 39) rfl rfl (by kernel_rfl) (by kernel_rfl) (by kernel_rfl) (by kernel_rfl) (by kernel_rfl) (by kernel_rfl) (by kernel_rfl) (fun _ _ _ h => h) (Or.inl ⟨by rfl, ?_⟩) hS ?_
        rotate_left
        focus (intro wS hSw; (try dsimp only at hSw); go_simp; (try with_reducible rfl); (try (first | (rw [if_pos (by omega)]; (try go_simp); (try with_reducible rfl)) | (rw [if_neg (by omega)]; (try go_simp); (try with_reducible rfl)))))
        try simp only [Act.put, zA, zB, zC]
        refine wpAnyR_n1 (i := 3) rfl (by kernel_rfl) ?_
        intro K' hK
        rw [if_pos (by rfl)]
        simp only [List.getElem_toArray, List.getElem_cons_succ, List.getElem_cons_zero]
        go_wp2_with fail
        refine (number_enc idn _ (by omega)).mono ?_
        rintro e ws ⟨rfl, gs⟩
        replace hG := hG.trans gs
        obtain ⟨N1, hN1⟩ : ∃ N1 : ByteArray, N1 = ⟨(enc idn).toArray⟩ := ⟨_, rfl⟩
        rw [← hN1]
        have HN1 := Lib.hid (show N1 = eB idn from hN1)
        have zN1 : N1.size ≤ 10 := by rw [HN1.out]; (try simp only [ByteArray.size_append]); omega
        clear gs hN1
        go_wp2_with fail
        refine hK.out _ _ (.inr (fun _ => ⟨(HBX.out.grew hG).cell 0, (HBX.out.grew hG).cell 1, (HBX.out.grew hG).cell 2, (HBX.out.grew hG).cell 3, (HBX.out.grew hG).cell 4⟩)) ?_
        clear hK hS
        refine wpAnyR_n1 (i := 7) rfl (by kernel_rfl) ?_
        intro K' hK
        rw [if_pos (by rfl)]
        simp only [List.getElem_toArray, List.getElem_cons_succ, List.getElem_cons_zero]
        go_wp2_with fail
        refine (number_enc un _ (by omega)).mono ?_
        rintro e ws ⟨rfl, gs⟩
        replace hG := hG.trans gs
        obtain ⟨N2, hN2⟩ : ∃ N2 : ByteArray, N2 = ⟨(enc un).toArray⟩ := ⟨_, rfl⟩
        rw [← hN2]
        have HN2 := Lib.hid (show N2 = eB un from hN2)
        have zN2 : N2.size ≤ 10 := by rw [HN2.out]; (try simp only [ByteArray.size_append]); omega
        clear gs hN2
        go_wp2_with fail
        refine hK.out _ _ (.inr (fun _ => ⟨(HBX.out.grew hG).cell 0, (HBX.out.grew hG).cell 1, (HBX.out.grew hG).cell 2, (HBX.out.grew hG).cell 3, (HBX.out.grew hG).cell 4⟩)) ?_
        clear hK
        refine wpAnyR_takeQ (i := 8) (v := ?_) (some 27) rfl rfl (by kernel_rfl) (by kernel_rfl) (by kernel_rfl) (by kernel_rfl) (fun _ _ _ h => h) (Or.inl ⟨by rfl, ?_⟩) ?_
        rotate_left
        focus (intro wS hSw; (try dsimp only at hSw); go_simp; (try with_reducible rfl); (try (first | (rw [if_pos (by omega)]; (try go_simp); (try with_reducible rfl)) | (rw [if_neg (by omega)]; (try go_simp); (try with_reducible rfl)))))
        try simp only [Act.put, zA, zB, zC]
        obtain ⟨T2, hT2⟩ : ∃ T2 : ByteArray, T2 = N1 ++ N2 := ⟨_, rfl⟩
        rw [← hT2]
        have HT2 := Lib.hid hT2
        have zT2 : T2.size ≤ 20 := by rw [HT2.out]; (try simp only [ByteArray.size_append]); omega
        clear hT2
        refine wpAnyR_n1 (i := 11) rfl (by kernel_rfl) ?_
        intro K' hK
        rw [if_pos (by rfl)]
        simp only [List.getElem_toArray, List.getElem_cons_succ, List.getElem_cons_zero]
        go_wp2_with fail
        refine (refText_any name _ (by omega)).mono ?_
        rintro e ws ⟨rfl, gs⟩
        replace hG := hG.trans gs
        obtain ⟨N3, hN3⟩ : ∃ N3 : ByteArray, N3 = ⟨(enc name.size).toArray⟩ ++ name := ⟨_, rfl⟩
        rw [← hN3]
        have HN3 := Lib.hid (show N3 = eB name.size ++ name from hN3)
        have zN3 : N3.size ≤ 41 := by rw [HN3.out]; (try simp only [ByteArray.size_append]); omega
        clear gs hN3
        go_wp2_with fail
        refine hK.out _ _ (.inr (fun _ => ⟨(HBX.out.grew hG).cell 0, (HBX.out.grew hG).cell 1, (HBX.out.grew hG).cell 2, (HBX.out.grew hG).cell 3, (HBX.out.grew hG).cell 4⟩)) ?_
        clear hK
        refine wpAnyR_takeQ (i := 12) (v := ?_) (some 31) rfl rfl (by kernel_rfl) (by kernel_rfl) (by kernel_rfl) (by kernel_rfl) (fun _ _ _ h => h) (Or.inl ⟨by rfl, ?_⟩) ?_
        rotate_left
        focus (intro wS hSw; (try dsimp only at hSw); go_simp; (try with_reducible rfl); (try (first | (rw [if_pos (by omega)]; (try go_simp); (try with_reducible rfl)) | (rw [if_neg (by omega)]; (try go_simp); (try with_reducible rfl)))))
        try simp only [Act.put, zA, zB, zC]
        obtain ⟨T3, hT3⟩ : ∃ T3 : ByteArray, T3 = T2 ++ N3 := ⟨_, rfl⟩
        rw [← hT3]
        have HT3 := Lib.hid hT3
        have zT3 : T3.size ≤ 61 := by rw [HT3.out]; (try simp only [ByteArray.size_append]); omega
        clear hT3
        refine wpAnyR_n1 (i := 15) rfl (by kernel_rfl) ?_
        intro K' hK
        rw [if_pos (by rfl)]
        simp only [List.getElem_toArray, List.getElem_cons_succ, List.getElem_cons_zero]
        go_wp2_with fail
        refine (refText_any note _ (by omega)).mono ?_
        rintro e ws ⟨rfl, gs⟩
        replace hG := hG.trans gs
        obtain ⟨N4, hN4⟩ : ∃ N4 : ByteArray, N4 = ⟨(enc note.size).toArray⟩ ++ note := ⟨_, rfl⟩
        rw [← hN4]
        have HN4 := Lib.hid (show N4 = eB note.size ++ note from hN4)
        have zN4 : N4.size ≤ 410 := by rw [HN4.out]; (try simp only [ByteArray.size_append]); omega
        clear gs hN4
        go_wp2_with fail
        refine hK.out _ _ (.inr (fun _ => ⟨(HBX.out.grew hG).cell 0, (HBX.out.grew hG).cell 1, (HBX.out.grew hG).cell 2, (HBX.out.grew hG).cell 3, (HBX.out.grew hG).cell 4⟩)) ?_
        clear hK
        refine wpAnyR_takeQ (i := 16) (v := ?_) (some 35) rfl rfl (by kernel_rfl) (by kernel_rfl) (by kernel_rfl) (by kernel_rfl) (fun _ _ _ h => h) (Or.inl ⟨by rfl, ?_⟩) ?_
        rotate_left
        focus (intro wS hSw; (try dsimp only at hSw); go_simp; (try with_reducible rfl); (try (first | (rw [if_pos (by omega)]; (try go_simp); (try with_reducible rfl)) | (rw [if_neg (by omega)]; (try go_simp); (try with_reducible rfl)))))
        try simp only [Act.put, zA, zB, zC]
        obtain ⟨T4, hT4⟩ : ∃ T4 : ByteArray, T4 = T3 ++ N4 := ⟨_, rfl⟩
        rw [← hT4]
        have HT4 := Lib.hid hT4
        have zT4 : T4.size ≤ 471 := by rw [HT4.out]; (try simp only [ByteArray.size_append]); omega
        clear hT4
        refine wpAnyR_n1 (i := 21) rfl (by kernel_rfl) ?_
        intro K' hK
        rw [if_pos (by rfl)]
        simp only [List.getElem_toArray, List.getElem_cons_succ, List.getElem_cons_zero]
        go_wp2_with fail
        refine (number_enc ext.length _ (by omega)).mono ?_
        rintro e ws ⟨rfl, gs⟩
        replace hG := hG.trans gs
        obtain ⟨N5, hN5⟩ : ∃ N5 : ByteArray, N5 = ⟨(enc ext.length).toArray⟩ := ⟨_, rfl⟩
        rw [← hN5]
        have HN5 := Lib.hid (show N5 = eB ext.length from hN5)
        have zN5 : N5.size ≤ 10 := by rw [HN5.out]; (try simp only [ByteArray.size_append]); omega
        clear gs hN5
        go_wp2_with fail
        refine hK.out _ _ (.inr (fun _ => ⟨(HBX.out.grew hG).cell 0, (HBX.out.grew hG).cell 1, (HBX.out.grew hG).cell 2, (HBX.out.grew hG).cell 3, (HBX.out.grew hG).cell 4⟩)) ?_
        clear hK
        refine wpAnyR_takeQ (i := 22) (v := ?_) (some 41) rfl rfl (by kernel_rfl) (by kernel_rfl) (by kernel_rfl) (by kernel_rfl) (fun _ _ _ h => h) (Or.inl ⟨by rfl, ?_⟩) ?_
        rotate_left
        focus (intro wS hSw; (try dsimp only at hSw); go_simp; (try with_reducible rfl); (try (first | (rw [if_pos (by omega)]; (try go_simp); (try with_reducible rfl)) | (rw [if_neg (by omega)]; (try go_simp); (try with_reducible rfl)))))
        try simp only [Act.put, zA, zB, zC]
        obtain ⟨T5, hT5⟩ : ∃ T5 : ByteArray, T5 = T4 ++ N5 := ⟨_, rfl⟩
        rw [← hT5]
        have HT5 := Lib.hid hT5
        have zT5 : T5.size ≤ 481 := by rw [HT5.out]; (try simp only [ByteArray.size_append]); omega
        clear hT5
        refine wpAnyR_takeQ (i := 23) (v := ?_) (some 5) rfl rfl (by kernel_rfl) (by kernel_rfl) (by kernel_rfl) (by kernel_rfl) (fun _ _ _ h => h) (Or.inl ⟨by rfl, ?_⟩) ?_
        rotate_left
        focus (intro wS hSw; (try dsimp only at hSw); go_simp; (try with_reducible rfl); (try (first | (rw [if_pos (by omega)]; (try go_simp); (try with_reducible rfl)) | (rw [if_neg (by omega)]; (try go_simp); (try with_reducible rfl)))))
        try simp only [Act.put, zA, zB, zC]
        refine wpAnyR_done (by kernel_rfl) ?_ _
        have HS := Lib.hid (show T5 = bodyE ⟨(idn : Int), (un : Int), name, note, ext⟩ from by
          rw [HBE.out, HT5.out, HT4.out, HT3.out, HT2.out, HN1.out, HN2.out, HN3.out, HN4.out, HN5.out]; simp only [ByteArray.append_assoc])
        replace hG := HG1.out.trans hG
        clear HT2 HT3 HT4 HT5 HN1 HN2 HN3 HN4 HN5 s0 s1 s2 s3 s4 zT2 zT3 zT4 zN1 zN2 zN3 zN4 zN5 HG1 HBX
        obtain ⟨wl, hwl⟩ : ∃ wl, wl = ws := ⟨_, rfl⟩
        rw [← hwl] at hG ⊢
        clear hwl
        go_wp2_with fail
        go_loopg [5, 6] ext.length (fun gk v i wr => ∃ k : Nat, k ≤ ext.length ∧ gk = ext.length - k ∧ i = .int .i64 k ∧ v = .string (T5 ++ runsE (ext.take k)) ∧ Grew (w.alloc (.cells #[.int .i64 (idn : Int), .int .i64 (un : Int), .string name, .string note, .slice A ext.length c] 31)) wr)
        case atStart => exact ⟨0, by omega, by omega, rfl, by rw [List.take_zero]; show _ = Value.string (T5 ++ ByteArray.empty); rw [ByteArray.append_empty], hG⟩
        case round =>
          obtain ⟨k, hk, hgk, rfl, rfl, hg⟩ := hrel
          have HGK := Lib.hid hgk
          have hrs := HRS.out k
          rw [List.length_take] at hrs
          obtain ⟨U, hU⟩ : ∃ U, T5 ++ runsE (ext.take k) = U := ⟨_, rfl⟩
          have hUs : U.size ≤ 801 := by rw [← hU, ByteArray.size_append]; omega
          rw [hU]
          have HU := Lib.hid hU
          clear hgk hrs hU
          have hlb := (HB.out.grew hg).lt
          have x4 := (HB.out.grew hg).cell 4
          by_cases hlt : k < ext.length
          · obtain ⟨b, off, f, n, rfl, hb, hv, hok, c0, c1⟩ := ((HL1.out.hold HG0.out).hold hg).runs.at_ hlt
            have hsm := HJB.out ext[k] (List.getElem_mem hlt)
            rw [hv] at hsm
            simp only at hsm
            obtain ⟨q0, q1, q2⟩ := hsm
            obtain ⟨fn, rfl⟩ := Int.eq_ofNat_of_zero_le q0
            obtain ⟨nn, rfl⟩ := Int.eq_ofNat_of_zero_le q1
            have HNX := Lib.hid (show T5 ++ runsE (ext.take (k + 1)) = U ++ eB fn ++ eB nn from by
              rw [List.take_succ_eq_append_getElem hlt, runsE_snoc, hv, ← ByteArray.append_assoc, HU.out]
              show U ++ (eB fn ++ eB nn) = _
              rw [ByteArray.append_assoc])
            have z0 := eB_size fn
            have z1 := eB_size nn
            obtain ⟨wm, hwm⟩ : ∃ wm, wm = wr := ⟨_, rfl⟩
            subst hwm
            have hbl : b < wm.heap.size := by have := hg.size; omega
            clear hv hok
            go_wp2_with fail
            refine wp_region_R [] (fun w' : World => w'.cell? ⟨w.heap.size, 4, none⟩ = some (.slice (some ⟨b, off, none⟩) ext.length c) ∧ w'.cell? ⟨b, off + k * 2, none⟩ = some (.int .i64 (fn : Int)) ∧ w'.cell? ⟨b, off + k * 2 + 1, none⟩ = some (.int .i64 (nn : Int))) (by kernel_rfl) ?_
            have hS := (show (fun w' : World => w'.cell? ⟨w.heap.size, 4, none⟩ = some (.slice (some ⟨b, off, none⟩) ext.length c) ∧ w'.cell? ⟨b, off + k * 2, none⟩ = some (.int .i64 (fn : Int)) ∧ w'.cell? ⟨b, off + k * 2 + 1, none⟩ = some (.int .i64 (nn : Int))) wm.drew from ⟨x4, c0, c1⟩)
            refine wpAnyR_takeQ (i := 0) (v := ?_) (some 49) rfl rfl (by kernel_rfl) (by kernel_rfl) (by kernel_rfl) (by kernel_rfl) (fun _ _ _ h => h) (Or.inl ⟨by rfl, ?_⟩) ?_
            rotate_left
            focus (intro wS hSw; (try dsimp only at hSw); go_simp; (try with_reducible rfl); (try (first | (rw [if_pos (by omega)]; (try go_simp); (try with_reducible rfl)) | (rw [if_neg (by omega)]; (try go_simp); (try with_reducible rfl)))))
            try simp only [Act.put, zA, zB, zC]
            refine wpAnyR_takeQ (i := 1) (v := ?_) (some 50) rfl rfl (by kernel_rfl) (by kernel_rfl) (by kernel_rfl) (by kernel_rfl) (fun _ _ _ h => h) (Or.inl ⟨by rfl, ?_⟩) ?_
            rotate_left
            focus (intro wS hSw; (try dsimp only at hSw); go_simp; (try with_reducible rfl); (try (first | (rw [if_pos (by omega)]; (try go_simp); (try with_reducible rfl)) | (rw [if_neg (by omega)]; (try go_simp); (try with_reducible rfl)))))
            try simp only [Act.put, zA, zB, zC]
            refine wpAnyR_take (i := 2) (v := ?_) [4, 5, 6, 7, 8, 9, 17, 18, 19] (some 51) rfl rfl (by kernel_rfl) (by kernel_rfl) (by kernel_rfl) (by kernel_rfl) (by kernel_rfl) (by kernel_rfl) (by kernel_rfl) (fun _ _ _ h => h) (Or.inl ⟨by rfl, ?_⟩) hS ?_
            rotate_left
            focus (intro wS hSw; (try dsimp only at hSw); go_simp; (try with_reducible rfl); (try (first | (rw [if_pos (by omega)]; (try go_simp); (try with_reducible rfl)) | (rw [if_neg (by omega)]; (try go_simp); (try with_reducible rfl)))))
            try simp only [Act.put, zA, zB, zC]
            refine wpAnyR_takeQ (i := 3) (v := ?_) (some 52) rfl rfl (by kernel_rfl) (by kernel_rfl) (by kernel_rfl) (by kernel_rfl) (fun _ _ _ h => h) (Or.inl ⟨by rfl, ?_⟩) ?_
            rotate_left
            focus (intro wS hSw; (try dsimp only at hSw); go_simp; (try with_reducible rfl); (try (first | (rw [if_pos (by omega)]; (try go_simp); (try with_reducible rfl)) | (rw [if_neg (by omega)]; (try go_simp); (try with_reducible rfl)))))
            try simp only [Act.put, zA, zB, zC]
            refine wpAnyR_takeQ (i := 4) (v := ?_) (some 53) rfl rfl (by kernel_rfl) (by kernel_rfl) (by kernel_rfl) (by kernel_rfl) (fun _ _ _ h => h) (Or.inl ⟨by rfl, ?_⟩) ?_
            rotate_left
            focus (intro wS hSw; (try dsimp only at hSw); go_simp; (try with_reducible rfl); (try (first | (rw [if_pos (by omega)]; (try go_simp); (try with_reducible rfl)) | (rw [if_neg (by omega)]; (try go_simp); (try with_reducible rfl)))))
            try simp only [Act.put, zA, zB, zC]
            refine wpAnyR_takeQ (i := 5) (v := ?_) (some 54) rfl rfl (by kernel_rfl) (by kernel_rfl) (by kernel_rfl) (by kernel_rfl) (fun _ _ _ h => h) (Or.inl ⟨by rfl, ?_⟩) ?_
            rotate_left
            focus (intro wS hSw; (try dsimp only at hSw); go_simp; (try with_reducible rfl); (try (first | (rw [if_pos (by omega)]; (try go_simp); (try with_reducible rfl)) | (rw [if_neg (by omega)]; (try go_simp); (try with_reducible rfl)))))
            try simp only [Act.put, zA, zB, zC]
            refine wpAnyR_take (i := 6) (v := ?_) [7, 8, 9, 17, 18, 19] (some 55) rfl rfl (by kernel_rfl) (by kernel_rfl) (by kernel_rfl) (by kernel_rfl) (by kernel_rfl) (by kernel_rfl) (by kernel_rfl) (fun _ _ _ h => h) (Or.inl ⟨by rfl, ?_⟩) hS ?_
            rotate_left
            focus (intro wS hSw; (try dsimp only at hSw); go_simp; (try with_reducible rfl); (try (first | (rw [if_pos (by omega)]; (try go_simp); (try with_reducible rfl)) | (rw [if_neg (by omega)]; (try go_simp); (try with_reducible rfl)))))
            try simp only [Act.put, zA, zB, zC]
            refine wpAnyR_take (i := 7) (v := ?_) [8, 9, 17, 18, 19] (some 56) rfl rfl (by kernel_rfl) (by kernel_rfl) (by kernel_rfl) (by kernel_rfl) (by kernel_rfl) (by kernel_rfl) (by kernel_rfl) (fun _ _ _ h => h) (Or.inl ⟨by rfl, ?_⟩) hS ?_
            rotate_left
            focus (intro wS hSw; (try dsimp only at hSw); go_simp; (try with_reducible rfl); (try (first | (rw [if_pos (by omega)]; (try go_simp); (try with_reducible rfl)) | (rw [if_neg (by omega)]; (try go_simp); (try with_reducible rfl)))))
            try simp only [Act.put, zA, zB, zC]
            refine wpAnyR_takeQ (i := 10) (v := ?_) (some 59) rfl rfl (by kernel_rfl) (by kernel_rfl) (by kernel_rfl) (by kernel_rfl) (fun _ _ _ h => h) (Or.inl ⟨by rfl, ?_⟩) ?_
            rotate_left
            focus (intro wS hSw; (try dsimp only at hSw); go_simp; (try with_reducible rfl); (try (first | (rw [if_pos (by omega)]; (try go_simp); (try with_reducible rfl)) | (rw [if_neg (by omega)]; (try go_simp); (try with_reducible rfl)))))
            try simp only [Act.put, zA, zB, zC]
            refine wpAnyR_take (i := 11) (v := ?_) [13, 14, 15, 16, 17, 18, 19] (some 60) rfl rfl (by kernel_rfl) (by kernel_rfl) (by kernel_rfl) (by kernel_rfl) (by kernel_rfl) (by kernel_rfl) (by kernel_rfl) (fun _ _ _ h => h) (Or.inl ⟨by rfl, ?_⟩) hS ?_
            rotate_left
            focus (intro wS hSw; (try dsimp only at hSw); go_simp; (try with_reducible rfl); (try (first | (rw [if_pos (by omega)]; (try go_simp); (try with_reducible rfl)) | (rw [if_neg (by omega)]; (try go_simp); (try with_reducible rfl)))))
            try simp only [Act.put, zA, zB, zC]
            refine wpAnyR_takeQ (i := 12) (v := ?_) (some 61) rfl rfl (by kernel_rfl) (by kernel_rfl) (by kernel_rfl) (by kernel_rfl) (fun _ _ _ h => h) (Or.inl ⟨by rfl, ?_⟩) ?_
            rotate_left
            focus (intro wS hSw; (try dsimp only at hSw); go_simp; (try with_reducible rfl); (try (first | (rw [if_pos (by omega)]; (try go_simp); (try with_reducible rfl)) | (rw [if_neg (by omega)]; (try go_simp); (try with_reducible rfl)))))
            try simp only [Act.put, zA, zB, zC]
            refine wpAnyR_takeQ (i := 13) (v := ?_) (some 62) rfl rfl (by kernel_rfl) (by kernel_rfl) (by kernel_rfl) (by kernel_rfl) (fun _ _ _ h => h) (Or.inl ⟨by rfl, ?_⟩) ?_
            rotate_left
            focus (intro wS hSw; (try dsimp only at hSw); go_simp; (try with_reducible rfl); (try (first | (rw [if_pos (by omega)]; (try go_simp); (try with_reducible rfl)) | (rw [if_neg (by omega)]; (try go_simp); (try with_reducible rfl)))))
            try simp only [Act.put, zA, zB, zC]
            refine wpAnyR_takeQ (i := 14) (v := ?_) (some 63) rfl rfl (by kernel_rfl) (by kernel_rfl) (by kernel_rfl) (by kernel_rfl) (fun _ _ _ h => h) (Or.inl ⟨by rfl, ?_⟩) ?_
            rotate_left
            focus (intro wS hSw; (try dsimp only at hSw); go_simp; (try with_reducible rfl); (try (first | (rw [if_pos (by omega)]; (try go_simp); (try with_reducible rfl)) | (rw [if_neg (by omega)]; (try go_simp); (try with_reducible rfl)))))
            try simp only [Act.put, zA, zB, zC]
            refine wpAnyR_take (i := 15) (v := ?_) [16, 17, 18, 19] (some 64) rfl rfl (by kernel_rfl) (by kernel_rfl) (by kernel_rfl) (by kernel_rfl) (by kernel_rfl) (by kernel_rfl) (by kernel_rfl) (fun _ _ _ h => h) (Or.inl ⟨by rfl, ?_⟩) hS ?_
            rotate_left
            focus (intro wS hSw; (try dsimp only at hSw); go_simp; (try with_reducible rfl); (try (first | (rw [if_pos (by omega)]; (try go_simp); (try with_reducible rfl)) | (rw [if_neg (by omega)]; (try go_simp); (try with_reducible rfl)))))
            try simp only [Act.put, zA, zB, zC]
            refine wpAnyR_take (i := 16) (v := ?_) [17, 18, 19] (some 65) rfl rfl (by kernel_rfl) (by kernel_rfl) (by kernel_rfl) (by kernel_rfl) (by kernel_rfl) (by kernel_rfl) (by kernel_rfl) (fun _ _ _ h => h) (Or.inl ⟨by rfl, ?_⟩) hS ?_
            rotate_left
            focus (intro wS hSw; (try dsimp only at hSw); go_simp; (try with_reducible rfl); (try (first | (rw [if_pos (by omega)]; (try go_simp); (try with_reducible rfl)) | (rw [if_neg (by omega)]; (try go_simp); (try with_reducible rfl)))))
            try simp only [Act.put, zA, zB, zC]
            refine wpAnyR_n1 (i := 8) rfl (by kernel_rfl) ?_
            intro K' hK
            rw [if_pos (by rfl)]
            simp only [List.getElem_toArray, List.getElem_cons_succ, List.getElem_cons_zero]
            go_wp2_with fail
            refine (number_enc fn _ (by omega)).mono ?_
            rintro e w4 ⟨rfl, g4⟩
            obtain ⟨N, hN⟩ : ∃ N : ByteArray, N = ⟨(enc fn).toArray⟩ := ⟨_, rfl⟩
            rw [← hN]
            have HN := Lib.hid (show N = eB fn from hN)
            have zN : N.size ≤ 10 := by rw [HN.out]; exact z0
            clear hN
            go_wp2_with fail
            refine hK.out _ _ (.inr (fun hs => ⟨(g4.cellEq _ _ hlb).trans hs.1, (g4.cellEq _ _ hbl).trans hs.2.1, (g4.cellEq _ _ hbl).trans hs.2.2⟩)) ?_
            clear hK hS
            refine wpAnyR_takeQ (i := 9) (v := ?_) (some 58) rfl rfl (by kernel_rfl) (by kernel_rfl) (by kernel_rfl) (by kernel_rfl) (fun _ _ _ h => h) (Or.inl ⟨by rfl, ?_⟩) ?_
            rotate_left
            focus (intro wS hSw; (try dsimp only at hSw); go_simp; (try with_reducible rfl); (try (first | (rw [if_pos (by omega)]; (try go_simp); (try with_reducible rfl)) | (rw [if_neg (by omega)]; (try go_simp); (try with_reducible rfl)))))
            try simp only [Act.put, zA, zB, zC]
            obtain ⟨V, hV⟩ : ∃ V : ByteArray, V = U ++ N := ⟨_, rfl⟩
            rw [← hV]
            have HV := Lib.hid (show V = U ++ eB fn from by rw [hV, HN.out])
            have zV : V.size ≤ 811 := by rw [HV.out, ByteArray.size_append]; omega
            clear hV HN zN
            refine wpAnyR_n1 (i := 17) rfl (by kernel_rfl) ?_
            intro K' hK
            rw [if_pos (by rfl)]
            simp only [List.getElem_toArray, List.getElem_cons_succ, List.getElem_cons_zero]
            go_wp2_with fail
            refine (number_enc nn _ (by omega)).mono ?_
            rintro e w5 ⟨rfl, g5⟩
            obtain ⟨N, hN⟩ : ∃ N : ByteArray, N = ⟨(enc nn).toArray⟩ := ⟨_, rfl⟩
            rw [← hN]
            have HN := Lib.hid (show N = eB nn from hN)
            have zN : N.size ≤ 10 := by rw [HN.out]; exact z1
            clear hN
            have hz4 : wm.heap.size ≤ w4.heap.size := g4.size
            have hlb4 : w.heap.size < w4.heap.size := by omega
            have hbl4 : b < w4.heap.size := by omega
            go_wp2_with fail
            refine hK.out _ _ (.inr (fun hs => ⟨(g5.cellEq _ _ hlb4).trans hs.1, (g5.cellEq _ _ hbl4).trans hs.2.1, (g5.cellEq _ _ hbl4).trans hs.2.2⟩)) ?_
            clear hK
            have hgn := (hg.drew.trans g4).trans g5
            refine wpAnyR_takeQ (i := 18) (v := ?_) (some 67) rfl rfl (by kernel_rfl) (by kernel_rfl) (by kernel_rfl) (by kernel_rfl) (fun _ _ _ h => h) (Or.inl ⟨by rfl, ?_⟩) ?_
            rotate_left
            focus (intro wS hSw; (try dsimp only at hSw); go_simp; (try with_reducible rfl); (try (first | (rw [if_pos (by omega)]; (try go_simp); (try with_reducible rfl)) | (rw [if_neg (by omega)]; (try go_simp); (try with_reducible rfl)))))
            try simp only [Act.put, zA, zB, zC]
            refine wpAnyR_takeQ (i := 19) (v := ?_) (some 5) rfl rfl (by kernel_rfl) (by kernel_rfl) (by kernel_rfl) (by kernel_rfl) (fun _ _ _ h => h) (Or.inl ⟨by rfl, ?_⟩) ?_
            rotate_left
            focus (intro wS hSw; (try dsimp only at hSw); go_simp; (try with_reducible rfl); (try (first | (rw [if_pos (by omega)]; (try go_simp); (try with_reducible rfl)) | (rw [if_neg (by omega)]; (try go_simp); (try with_reducible rfl)))))
            try simp only [Act.put, zA, zB, zC]
            refine wpAnyR_done (by kernel_rfl) ?_ _
            go_wp2_with fail
            go_roundg (ext.length - (k + 1))
            case measure => rw [HGK.out]; omega
            case rel => exact ⟨k + 1, by omega, by omega, by go_num, by rw [HNX.out, ← HV.out, HN.out], hgn⟩
          · obtain rfl : k = ext.length := by omega
            have HEE := Lib.hid (show encS ⟨(idn : Int), (un : Int), name, note, ext⟩ t = padS 1024 U from by
              rw [HE.out]
              show padS 1024 (bodyE _ ++ runsE ext) = _
              rw [← HS.out, ← HU.out, List.take_length])
            go_wp2_with fail
            refine (pad1024 U _ (by omega)).mono ?_
            rintro e w6 ⟨rfl, rfl⟩
            go_wp2_with fail
            go_ret
            exact ⟨ret_str (by rw [HEE.out]), HG0.out.trans hg⟩
end Go.Proofs.YtnlaogneceanoaaGreat
namespace Go.Proofs.YtnlaogneceanoaaGreat
set_option linter.unusedVariables false
set_option linter.unusedSimpArgs false
set_option linter.unusedSectionVars false
open Go.RowKit
attribute [local go_sem ↓] Go.wp_at_zero Go.wp_at_succ
def chrC (n : Nat) : Bool := decide (65 ≤ n ∧ n ≤ 90) || decide (48 ≤ n ∧ n ≤ 57)
def NameP (s : ByteArray) : Prop := 1 ≤ s.size ∧ s.size ≤ 8 ∧ (∀ j (hj : j < s.size), chrC s[j].toNat = true) ∧ ∀ _h : 0 < s.size, 65 ≤ s[0].toNat
instance (s : ByteArray) : Decidable (NameP s) := by unfold NameP; exact inferInstance
def nameOk (s : ByteArray) : Bool := decide (NameP s)
theorem nameOk_no {s : ByteArray} (h : ¬ NameP s) : nameOk s = false := decide_eq_false h
theorem nameOk_yes {s : ByteArray} (h : NameP s) : nameOk s = true := decide_eq_true h
theorem chrC_cases (n : Nat) : (chrC n = true ∧ 65 ≤ n ∧ n ≤ 90) ∨ (chrC n = true ∧ 48 ≤ n ∧ n ≤ 57) ∨ (chrC n = false ∧ n < 48) ∨ (chrC n = false ∧ 57 < n ∧ n < 65) ∨ (chrC n = false ∧ 90 < n) := by
  unfold chrC
  by_cases h1 : 65 ≤ n ∧ n ≤ 90
  · exact .inl ⟨by simp [h1], h1⟩
  · by_cases h2 : 48 ≤ n ∧ n ≤ 57
    · exact .inr (.inl ⟨by simp [h2], h2⟩)
    · have e : (decide (65 ≤ n ∧ n ≤ 90) || decide (48 ≤ n ∧ n ≤ 57)) = false := by rw [decide_eq_false h1, decide_eq_false h2]; rfl
      by_cases h3 : n < 48
      · exact .inr (.inr (.inl ⟨e, h3⟩))
      · by_cases h4 : n < 65
        · exact .inr (.inr (.inr (.inl ⟨e, by omega, h4⟩)))
        · exact .inr (.inr (.inr (.inr ⟨e, by omega⟩)))
set_option maxRecDepth 100000 in
set_option maxHeartbeats 1000000 in
theorem validName_any (s : ByteArray) (w : World) (hs : s.size ≤ 9223372036854775807) :
    Calls Tryz.prog 42 #[.string s] w fun e w' => e = .returned (.bool (nameOk s)) ∧ w = w' := by
  by_cases h0 : s.size < 1
  · have HE := Lib.hid (nameOk_no (s := s) (fun h => by have := h.1; omega))
    go_enter Tryz.func42, Tryz.ntmps42
    go_wp2_with fail
    go_ret
    exact ⟨ret_bool (by rw [HE.out]), rfl⟩
  by_cases h8 : s.size > 8
  · have HE := Lib.hid (nameOk_no (s := s) (fun h => by have := h.2.1; omega))
    go_enter Tryz.func42, Tryz.ntmps42
    go_wp2_with fail
    go_ret
    exact ⟨ret_bool (by rw [HE.out]), rfl⟩
  have hs1 : 0 < s.size := by omega
  by_cases hc : s[0].toNat < 65
  · have HE := Lib.hid (nameOk_no (s := s) (fun h => by have := h.2.2.2 hs1; omega))
    go_enter Tryz.func42, Tryz.ntmps42
    go_wp2_with fail
    go_ret
    exact ⟨ret_bool (by rw [HE.out]), rfl⟩
  go_enter Tryz.func42, Tryz.ntmps42
  go_wp2_with fail
  have HC := Lib.hid hc
  clear hc
  go_loopg [20] s.size (fun gk i wr => w = wr ∧ ∃ k : Nat, k ≤ s.size ∧ gk = s.size - k ∧ i = .int .i64 k ∧ ∀ j (hj : j < s.size), j < k → chrC s[j].toNat = true)
  case atStart => exact ⟨rfl, 0, by omega, by omega, rfl, fun j hj h => by omega⟩
  case round =>
    obtain ⟨rfl, k, hk, hgk, rfl, hall⟩ := hrel
    have HGK := Lib.hid hgk
    have HA := Lib.hid hall
    clear hgk hall
    by_cases hlt : k < s.size
    · have HN := Lib.hid (show chrC s[k].toNat = true → ∀ j (hj : j < s.size), j < k + 1 → chrC s[j].toNat = true from fun hz j hj hjk => by
          by_cases hjk' : j = k
          · subst hjk'; exact hz
          · exact HA.out j hj (by omega))
      have HF := Lib.hid (show chrC s[k].toNat = false → nameOk s = false from fun hz => nameOk_no (fun h => by have := h.2.2.1 k hlt; rw [hz] at this; cases this))
      rcases chrC_cases s[k].toNat with ⟨hz, a1, a2⟩ | ⟨hz, a1, a2⟩ | ⟨hz, a1⟩ | ⟨hz, a1, a2⟩ | ⟨hz, a1⟩
      · replace HN := Lib.hid (HN.out hz)
        clear hz HF
        go_wp2_with fail
        go_roundg (s.size - (k + 1))
        case measure => rw [HGK.out]; omega
        case rel => exact ⟨rfl, k + 1, by omega, by omega, by go_num, HN.out⟩
      · replace HN := Lib.hid (HN.out hz)
        clear hz HF
        go_wp2_with fail
        go_roundg (s.size - (k + 1))
        case measure => rw [HGK.out]; omega
        case rel => exact ⟨rfl, k + 1, by omega, by omega, by go_num, HN.out⟩
      · replace HF := Lib.hid (HF.out hz)
        clear hz HN
        go_wp2_with fail
        go_ret
        exact ⟨ret_bool (by rw [HF.out]), rfl⟩
      · replace HF := Lib.hid (HF.out hz)
        clear hz HN
        go_wp2_with fail
        go_ret
        exact ⟨ret_bool (by rw [HF.out]), rfl⟩
      · replace HF := Lib.hid (HF.out hz)
        clear hz HN
        go_wp2_with fail
        go_ret
        exact ⟨ret_bool (by rw [HF.out]), rfl⟩
    · have HE := Lib.hid (show nameOk s = true from nameOk_yes ⟨by omega, by omega, fun j hj => HA.out j hj (by omega), fun _ => by have := HC.out; omega⟩)
      go_wp2_with fail
      go_ret
      exact ⟨ret_bool (by rw [HE.out]), rfl⟩
set_option maxRecDepth 100000 in
set_option maxHeartbeats 1000000 in
theorem rvalidName_any (s : ByteArray) (w : World) (hs : s.size ≤ 9223372036854775807) :
    Calls Tryz.prog 47 #[.string s] w fun e w' => e = .returned (.bool (nameOk s)) ∧ w = w' := by
  go_enter Tryz.func47, Tryz.ntmps47
  go_wp2_with fail
  go_loopg [3] s.size (fun gk i wr => w = wr ∧ ∃ k : Nat, k ≤ s.size ∧ gk = s.size - k ∧ i = .int .i64 k ∧ ∀ j (hj : j < s.size), j < k → chrC s[j].toNat = true ∧ (j = 0 → 65 ≤ s[j].toNat))
  case atStart => exact ⟨rfl, 0, by omega, by omega, rfl, fun j hj h => by omega⟩
  case round =>
    obtain ⟨rfl, k, hk, hgk, rfl, hall⟩ := hrel
    have HGK := Lib.hid hgk
    have HA := Lib.hid hall
    clear hgk hall
    by_cases hlt : k < s.size
    · have HN := Lib.hid (show chrC s[k].toNat = true → (k = 0 → 65 ≤ s[k].toNat) → ∀ j (hj : j < s.size), j < k + 1 → chrC s[j].toNat = true ∧ (j = 0 → 65 ≤ s[j].toNat) from fun hz h0 j hj hjk => by
          by_cases hjk' : j = k
          · subst hjk'; exact ⟨hz, h0⟩
          · exact HA.out j hj (by omega))
      have HF := Lib.hid (show chrC s[k].toNat = false → nameOk s = false from fun hz => nameOk_no (fun h => by have := h.2.2.1 k hlt; rw [hz] at this; cases this))
      have HF0 := Lib.hid (show k = 0 → s[k].toNat < 65 → nameOk s = false from fun hz hc => nameOk_no (fun h => by subst hz; have := h.2.2.2 hlt; omega))
      rcases chrC_cases s[k].toNat with ⟨hz, a1, a2⟩ | ⟨hz, a1, a2⟩ | ⟨hz, a1⟩ | ⟨hz, a1, a2⟩ | ⟨hz, a1⟩
      · replace HN := Lib.hid (HN.out hz (fun _ => a1))
        clear hz HF HF0
        go_wp2_with fail
        go_roundg (s.size - (k + 1))
        case measure => rw [HGK.out]; omega
        case rel => exact ⟨rfl, k + 1, by omega, by omega, by go_num, HN.out⟩
      · by_cases hk0 : k = 0
        · replace HF := Lib.hid (HF0.out hk0 (by omega))
          clear hz HN HF0
          subst hk0
          have b1 : decide ((s[0].toNat : Int) ≥ 65) = false := decide_eq_false (by omega)
          go_wp2_with fail
          go_ret
          exact ⟨ret_bool (by rw [HF.out]), rfl⟩
        · replace HN := Lib.hid (HN.out hz (fun h => absurd h hk0))
          clear hz HF HF0
          have hk1 : 0 < k := by omega
          have b1 : decide ((s[k].toNat : Int) ≤ 57) = true := decide_eq_true (by omega)
          go_wp2_with fail
          go_roundg (s.size - (k + 1))
          case measure => rw [HGK.out]; omega
          case rel => exact ⟨rfl, k + 1, by omega, by omega, by go_num, HN.out⟩
      · replace HF := Lib.hid (HF.out hz)
        clear hz HN HF0
        by_cases hk0 : k = 0
        · subst hk0
          go_wp2_with fail
          go_ret
          exact ⟨ret_bool (by rw [HF.out]), rfl⟩
        · have hk1 : 0 < k := by omega
          go_wp2_with fail
          go_ret
          exact ⟨ret_bool (by rw [HF.out]), rfl⟩
      · replace HF := Lib.hid (HF.out hz)
        clear hz HN HF0
        by_cases hk0 : k = 0
        · subst hk0
          have b57 : decide ((s[0].toNat : Int) ≤ 57) = false := decide_eq_false (by omega)
          go_wp2_with fail
          go_ret
          exact ⟨ret_bool (by rw [HF.out]), rfl⟩
        · have hk1 : 0 < k := by omega
          have b57 : decide ((s[k].toNat : Int) ≤ 57) = false := decide_eq_false (by omega)
          go_wp2_with fail
          go_ret
          exact ⟨ret_bool (by rw [HF.out]), rfl⟩
      · replace HF := Lib.hid (HF.out hz)
        clear hz HN HF0
        by_cases hk0 : k = 0
        · subst hk0
          have b57 : decide ((s[0].toNat : Int) ≤ 57) = false := decide_eq_false (by omega)
          have b90 : decide ((s[0].toNat : Int) ≤ 90) = false := decide_eq_false (by omega)
          go_wp2_with fail
          go_ret
          exact ⟨ret_bool (by rw [HF.out]), rfl⟩
        · have hk1 : 0 < k := by omega
          have b57 : decide ((s[k].toNat : Int) ≤ 57) = false := decide_eq_false (by omega)
          have b90 : decide ((s[k].toNat : Int) ≤ 90) = false := decide_eq_false (by omega)
          go_wp2_with fail
          go_ret
          exact ⟨ret_bool (by rw [HF.out]), rfl⟩
    · by_cases h1 : s.size < 1
      · have HE := Lib.hid (nameOk_no (s := s) (fun h => by have := h.1; omega))
        go_wp2_with fail
        go_ret
        exact ⟨ret_bool (by rw [HE.out]), rfl⟩
      · by_cases h8 : s.size > 8
        · have HE := Lib.hid (nameOk_no (s := s) (fun h => by have := h.2.1; omega))
          go_wp2_with fail
          go_ret
          exact ⟨ret_bool (by rw [HE.out]; exact decide_eq_false (by omega)), rfl⟩
        · have HE := Lib.hid (show nameOk s = true from nameOk_yes ⟨by omega, by omega, fun j hj => (HA.out j hj (by omega)).1, fun h => (HA.out 0 h (by omega)).2 rfl⟩)
          go_wp2_with fail
          go_ret
          exact ⟨ret_bool (by rw [HE.out]; exact decide_eq_true (by omega)), rfl⟩
end Go.Proofs.YtnlaogneceanoaaGreat
namespace Go.Proofs.YtnlaogneceanoaaGreat
set_option linter.unusedVariables false
set_option linter.unusedSimpArgs false
set_option linter.unusedSectionVars false
open Go.RowKit
attribute [local go_sem ↓] Go.wp_at_zero Go.wp_at_succ
def headS (s : ByteArray) (t : Int) : ByteArray := if nameOk s = true ∧ okT t = true then padS 1024 (eB s.size ++ s ++ eB t.toNat) else ⟨#[]⟩
set_option maxRecDepth 100000 in
set_option maxHeartbeats 2000000 in
theorem encHead_any (s : ByteArray) (t : Int) (w : World) (hs : s.size ≤ 9223372036854775807) :
    Calls Tryz.prog 80 #[.string s, .int .i64 t] w fun e w' => e = .returned (.string (headS s t)) ∧ Grew w w' := by
  cases hn : nameOk s with
  | false =>
    have HE := Lib.hid (show headS s t = ⟨#[]⟩ from by unfold headS; rw [if_neg (by rw [hn]; simp)])
    have HN := Lib.hid hn
    clear hn
    go_enter Tryz.func80, Tryz.ntmps80
    go_wp2_with fail
    refine (validName_any s _ hs).mono ?_
    rintro e w1 ⟨rfl, rfl⟩
    rw [HN.out]
    go_wp2_with fail
    go_ret
    exact ⟨ret_str (by rw [HE.out]), by (repeat' first | (with_reducible exact Grew.refl _) | (with_reducible assumption) | (with_reducible refine Grew.alloc ?_ _) | (with_reducible refine Grew.drew ?_) | (with_reducible refine Grew.drewN ?_ _) | (with_reducible refine Grew.setRow ?_ (by first | (simp; done) | (simp; omega) | omega) _) | (with_reducible refine Grew.setCell ?_ (by first | (simp; done) | (simp; omega) | omega) _) | ((with_reducible apply Grew.trans); rotate_left; (with_reducible assumption)) | ((with_reducible apply Grew.turn); rotate_left; (with_reducible assumption); (focus (intro i hi; first | omega | (simp at hi; omega)))) | fail)⟩
  | true =>
    have hp : NameP s := of_decide_eq_true hn
    have hs8 : s.size ≤ 8 := hp.2.1
    clear hp
    have HN := Lib.hid hn
    cases ho : okT t with
    | false =>
      have HE := Lib.hid (show headS s t = ⟨#[]⟩ from by unfold headS; rw [if_neg (by rw [ho]; simp)])
      have HO := Lib.hid ho
      clear ho hn
      go_enter Tryz.func80, Tryz.ntmps80
      go_wp2_with fail
      refine (validName_any s _ hs).mono ?_
      rintro e w1 ⟨rfl, rfl⟩
      rw [HN.out]
      go_wp2_with fail
      refine (tracksOK_any _ _).mono ?_
      rintro e w1 ⟨rfl, rfl⟩
      rw [HO.out]
      go_wp2_with fail
      go_ret
      exact ⟨ret_str (by rw [HE.out]), by (repeat' first | (with_reducible exact Grew.refl _) | (with_reducible assumption) | (with_reducible refine Grew.alloc ?_ _) | (with_reducible refine Grew.drew ?_) | (with_reducible refine Grew.drewN ?_ _) | (with_reducible refine Grew.setRow ?_ (by first | (simp; done) | (simp; omega) | omega) _) | (with_reducible refine Grew.setCell ?_ (by first | (simp; done) | (simp; omega) | omega) _) | ((with_reducible apply Grew.trans); rotate_left; (with_reducible assumption)) | ((with_reducible apply Grew.turn); rotate_left; (with_reducible assumption); (focus (intro i hi; first | omega | (simp at hi; omega)))) | fail)⟩
    | true =>
      have hb := okT_true ho
      obtain ⟨n, rfl⟩ : ∃ n : Nat, t = (n : Int) := ⟨t.toNat, by omega⟩
      have HE := Lib.hid (show headS s (n : Int) = padS 1024 (eB s.size ++ s ++ eB n) from by unfold headS; rw [if_pos ⟨hn, ho⟩]; rfl)
      have HO := Lib.hid ho
      clear ho hn
      have hn1 : n ≤ 128 := by omega
      clear hb
      have z1 := eB_size s.size
      have z2 := eB_size n
      go_enter Tryz.func80, Tryz.ntmps80
      go_wp2_with fail
      refine (validName_any s _ hs).mono ?_
      rintro e w1 ⟨rfl, rfl⟩
      rw [HN.out]
      go_wp2_with fail
      refine (tracksOK_any _ _).mono ?_
      rintro e w1 ⟨rfl, rfl⟩
      rw [HO.out]
      go_wp2_with fail
      refine (appendText_any ⟨#[]⟩ s _ (by decide) (by omega)).mono ?_
      rintro e ws ⟨rfl, g1⟩
      obtain ⟨S1, hS1⟩ : ∃ S1 : ByteArray, S1 = ⟨#[]⟩ ++ ⟨(enc s.size).toArray⟩ ++ s := ⟨_, rfl⟩
      rw [← hS1]
      have HS1 := Lib.hid (show S1 = eB s.size ++ s from hS1.trans (by rw [empty_bytes]; rfl))
      have zS1 : S1.size ≤ 18 := by rw [HS1.out]; (try simp only [ByteArray.size_append]); omega
      clear hS1
      go_wp2_with fail
      refine (appendNumber_any S1 n _ (by omega) (by omega)).mono ?_
      rintro e ws2 ⟨rfl, g2⟩
      obtain ⟨S2, hS2⟩ : ∃ S2 : ByteArray, S2 = S1 ++ ⟨(enc n).toArray⟩ := ⟨_, rfl⟩
      rw [← hS2]
      have HS2 := Lib.hid (show S2 = S1 ++ eB n from hS2.trans rfl)
      have zS2 : S2.size ≤ 28 := by rw [HS2.out]; (try simp only [ByteArray.size_append]); omega
      clear hS2
      go_wp2_with fail
      refine (fill_any S2 _ (by omega)).mono ?_
      rintro e ws3 ⟨rfl, g3⟩
      go_wp2_with fail
      go_ret
      exact ⟨ret_str (by rw [HE.out, HS2.out, HS1.out]), (g1.trans g2).trans g3⟩
set_option maxRecDepth 100000 in
set_option maxHeartbeats 2000000 in
theorem rencHead_any (s : ByteArray) (t : Int) (w : World) (hs : s.size ≤ 9223372036854775807) :
    Calls Tryz.prog 83 #[.string s, .int .i64 t] w fun e w' => e = .returned (.string (headS s t)) ∧ Grew w w' := by
  cases hn : nameOk s with
  | false =>
    have HE := Lib.hid (show headS s t = ⟨#[]⟩ from by unfold headS; rw [if_neg (by rw [hn]; simp)])
    have HN := Lib.hid hn
    clear hn
    go_enter Tryz.func83, Tryz.ntmps83
    go_wp2_with fail
    refine (rvalidName_any s _ hs).mono ?_
    rintro e w1 ⟨rfl, rfl⟩
    rw [HN.out]
    go_wp2_with fail
    go_ret
    exact ⟨ret_str (by rw [HE.out]), by (repeat' first | (with_reducible exact Grew.refl _) | (with_reducible assumption) | (with_reducible refine Grew.alloc ?_ _) | (with_reducible refine Grew.drew ?_) | (with_reducible refine Grew.drewN ?_ _) | (with_reducible refine Grew.setRow ?_ (by first | (simp; done) | (simp; omega) | omega) _) | (with_reducible refine Grew.setCell ?_ (by first | (simp; done) | (simp; omega) | omega) _) | ((with_reducible apply Grew.trans); rotate_left; (with_reducible assumption)) | ((with_reducible apply Grew.turn); rotate_left; (with_reducible assumption); (focus (intro i hi; first | omega | (simp at hi; omega)))) | fail)⟩
  | true =>
    have hp : NameP s := of_decide_eq_true hn
    have hs8 : s.size ≤ 8 := hp.2.1
    clear hp
    have HN := Lib.hid hn
    cases ho : okT t with
    | false =>
      have HE := Lib.hid (show headS s t = ⟨#[]⟩ from by unfold headS; rw [if_neg (by rw [ho]; simp)])
      have HO := Lib.hid ho
      clear ho hn
      go_enter Tryz.func83, Tryz.ntmps83
      go_wp2_with fail
      refine (rvalidName_any s _ hs).mono ?_
      rintro e w1 ⟨rfl, rfl⟩
      rw [HN.out]
      go_wp2_with fail
      refine (rvalid_any _ _).mono ?_
      rintro e w1 ⟨rfl, rfl⟩
      rw [HO.out]
      go_wp2_with fail
      go_ret
      exact ⟨ret_str (by rw [HE.out]), by (repeat' first | (with_reducible exact Grew.refl _) | (with_reducible assumption) | (with_reducible refine Grew.alloc ?_ _) | (with_reducible refine Grew.drew ?_) | (with_reducible refine Grew.drewN ?_ _) | (with_reducible refine Grew.setRow ?_ (by first | (simp; done) | (simp; omega) | omega) _) | (with_reducible refine Grew.setCell ?_ (by first | (simp; done) | (simp; omega) | omega) _) | ((with_reducible apply Grew.trans); rotate_left; (with_reducible assumption)) | ((with_reducible apply Grew.turn); rotate_left; (with_reducible assumption); (focus (intro i hi; first | omega | (simp at hi; omega)))) | fail)⟩
    | true =>
      have hb := okT_true ho
      obtain ⟨n, rfl⟩ : ∃ n : Nat, t = (n : Int) := ⟨t.toNat, by omega⟩
      have HE := Lib.hid (show headS s (n : Int) = padS 1024 (eB s.size ++ s ++ eB n) from by unfold headS; rw [if_pos ⟨hn, ho⟩]; rfl)
      have HO := Lib.hid ho
      clear ho hn
      have hn1 : n ≤ 128 := by omega
      clear hb
      have z1 := eB_size s.size
      have z2 := eB_size n
      go_enter Tryz.func83, Tryz.ntmps83
      go_wp2_with fail
      refine (rvalidName_any s _ hs).mono ?_
      rintro e w1 ⟨rfl, rfl⟩
      rw [HN.out]
      go_wp2_with fail
      refine (rvalid_any _ _).mono ?_
      rintro e w1 ⟨rfl, rfl⟩
      rw [HO.out]
      go_wp2_with fail
      refine (refText_any s _ (by omega)).mono ?_
      rintro e ws ⟨rfl, g1⟩
      obtain ⟨S1, hS1⟩ : ∃ S1 : ByteArray, S1 = ⟨(enc s.size).toArray⟩ ++ s := ⟨_, rfl⟩
      rw [← hS1]
      have HS1 := Lib.hid (show S1 = eB s.size ++ s from hS1)
      have zS1 : S1.size ≤ 18 := by rw [HS1.out]; (try simp only [ByteArray.size_append]); omega
      clear hS1
      go_wp2_with fail
      refine (number_enc n _ (by omega)).mono ?_
      rintro e ws2 ⟨rfl, g2⟩
      obtain ⟨S2, hS2⟩ : ∃ S2 : ByteArray, S2 = ⟨(enc n).toArray⟩ := ⟨_, rfl⟩
      rw [← hS2]
      have HS2 := Lib.hid (show S2 = eB n from hS2)
      have zS2 : S2.size ≤ 10 := by rw [HS2.out]; omega
      clear hS2
      go_wp2_with fail
      have zS3 : (S1 ++ S2).size ≤ 28 := by rw [ByteArray.size_append]; omega
      refine (padded_any (S1 ++ S2) 1024 _ (by omega) (by omega)).mono ?_
      rintro e ws3 ⟨rfl, rfl⟩
      go_wp2_with fail
      go_ret
      exact ⟨ret_str (by rw [HE.out, HS2.out, HS1.out]), g1.trans g2⟩
end Go.Proofs.YtnlaogneceanoaaGreat
namespace Go.Proofs.YtnlaogneceanoaaGreat
set_option linter.unusedVariables false
set_option linter.unusedSimpArgs false
set_option linter.unusedSectionVars false
open Go.ChangeShapes Go.WideShapes Go.ChangeAt Go.RowKit Go.Deep
theorem wf_i64 {n : Int} (h : (Lit.int .i64 n).wf = true) : -9223372036854775808 ≤ n ∧ n ≤ 9223372036854775807 := by
  simp [Lit.wf, IntKind.min, IntKind.max, IntKind.signed, IntKind.bits] at h; omega
end Go.Proofs.YtnlaogneceanoaaGreat
namespace Go.Proofs.YtnlaogneceanoaaGreat
set_option linter.unusedVariables false
set_option linter.unusedSimpArgs false
set_option linter.unusedSectionVars false
open Go.ChangeShapes Go.WideShapes Go.ChangeAt Go.RowKit Go.Deep
section
variable {H : Type} {enc : TypeId × Value → H} {P : Program} {w : World}
theorem open_listF {α : Type} [Inhabited α] {t e : Nat} {sz fuel : Nat} {v : Value} {x0 : DataW H × List MemPlace} (ht : P.underlying t = some (.slice e)) (hsz : P.cellsOf e = sz) (hpos : 0 < sz) (f : α → List Value) (Pr : α → Prop)
    (hel : ∀ n cs y, cs.length = sz → DataW.trod enc P w 0 (fun _ => true) true n e cs = some y → ∃ a, Pr a ∧ cs = f a)
    (hf : DataW.trod enc P w 0 (fun _ => true) true fuel t [v] = some x0) :
    ∃ A c, ∃ l : List α, v = .slice A l.length c ∧ l.length ≤ c ∧ c ≤ 9223372036854775807 ∧ (∀ a ∈ l, Pr a) ∧ ListAt w w.heap.size sz A (l.map f) := by
  obtain ⟨A, n, c, rfl⟩ : ∃ A n c, v = .slice A n c := by
    rcases open_slice ht hf with ⟨h0, _⟩ | ⟨a, len, cap, m, n', D, Pl, hcs, _⟩
    · exact ⟨none, 0, 0, by injection h0⟩
    · exact ⟨some a, len, cap, by injection hcs⟩
  rcases open_slice ht hf with ⟨h0, _⟩ | ⟨a, len, cap, m, n', D, Pl, hcs, hb, hl, hm, hmm, hx, hi⟩
  · simp only [List.cons.injEq, and_true] at h0
    injection h0 with h1 h2 h3
    subst h1; subst h2; subst h3
    exact ⟨none, 0, [], rfl, by simp, by simp, by simp, fun h => absurd h (by simp)⟩
  · simp only [List.cons.injEq, and_true] at hcs
    injection hcs with h1 h2 h3
    subst h1; subst h2; subst h3
    rw [if_pos rfl] at hmm
    have hlm : n ≤ m := by omega
    have each : ∀ i, i < n → ∃ x : α, Pr x ∧ ∃ cs, cs = f x ∧ cs.length = sz ∧ w.cells? 0 (a.add (i * sz)) sz = some cs := fun i hin => by
      obtain ⟨cs', hc, ht'⟩ := hi i (by omega)
      rw [hsz] at hc
      have hlen := (World.cells?_some hc).2.1
      obtain ⟨x, hp, hcs⟩ := hel n' cs' _ hlen ht'
      exact ⟨x, hp, cs', hcs, hlen, hc⟩
    obtain ⟨g, hg⟩ := choose_lt each
    refine ⟨some a, c, (List.range n).map g, by simp, by simpa using hl, by unfold maxLen at hm; simpa using hm, ?_, fun h0 => ?_⟩
    · intro x hx
      rw [List.mem_map] at hx
      obtain ⟨i, hi', rfl⟩ := hx
      exact (hg i (List.mem_range.1 hi')).1
    · have hn : 0 < n := by simpa using h0
      obtain ⟨_, cs0, hcs0, hlen0, hc0⟩ := hg 0 hn
      have h1 := (World.cells?_some hc0).2.2 0 hpos
      rw [Nat.zero_mul] at h1
      have hv0 : cs0[0]? = some cs0[0] := List.getElem?_eq_getElem (by omega)
      have ha : (a.add 0).add 0 = a := by simp [Addr.add]
      rw [ha, hv0] at h1
      obtain ⟨hlt, hsp⟩ := cell_lt h1
      obtain ⟨b, off, sp⟩ := a
      simp only at hsp hlt
      subst hsp
      refine ⟨b, off, rfl, hlt, fun j cs hj i v hiv => ?_⟩
      have hjn : j < n := by
        rcases Nat.lt_or_ge j n with h | h
        · exact h
        · rw [List.getElem?_eq_none (by simpa using h)] at hj; cases hj
      obtain ⟨_, cs1, hcs1, hlen1, hc1⟩ := hg j hjn
      have hcs : cs = cs1 := by
        simp [List.getElem?_map, List.getElem?_range, hjn] at hj
        rw [← hj, hcs1]
      subst hcs
      have hil : i < sz := by
        rcases Nat.lt_or_ge i cs.length with h | h
        · omega
        · rw [List.getElem?_eq_none h] at hiv; cases hiv
      have h2 := (World.cells?_some hc1).2.2 i hil
      rw [add_plain, add_plain] at h2
      rw [h2, hiv]
end
section
variable {H : Type} {enc : TypeId × Value → H} {w : World}
theorem open_runsF {fuel : Nat} {v : Value} {x0 : DataW H × List MemPlace} (hf : DataW.trod enc Tryz.prog w 0 (fun _ => true) true fuel 29 [v] = some x0) :
    ∃ A c, ∃ l : List (Int × Int), v = .slice A l.length c ∧ l.length ≤ c ∧ c ≤ 9223372036854775807 ∧ RunsAt w w.heap.size A l := by
  obtain ⟨A, c, l, rfl, h1, h2, h3, h4⟩ := open_listF (α := Int × Int) (sz := 2) Tryz.underlying29 (by kernel_rfl) (by omega) runC okRun (fun n cs y hlen h => by
      have hf := struct_fields Tryz.underlying65 (by kernel_rfl) h
      obtain ⟨v0, _, _, e0, f0⟩ := hf 0 _ rfl (by omega)
      obtain ⟨v1, _, _, e1, f1⟩ := hf 1 _ rfl (by omega)
      obtain ⟨n0, hn0, _, w0⟩ := DataW.trod_int Tryz.underlying3 f0
      obtain ⟨n1, hn1, _, w1⟩ := DataW.trod_int Tryz.underlying3 f1
      injection hn0 with hn0 _
      injection hn1 with hn1 _
      subst hn0; subst hn1
      have b0 := wf_i64 w0
      have b1 := wf_i64 w1
      refine ⟨(n0, n1), ⟨b0.1, b0.2, b1.1, b1.2⟩, ?_⟩
      match cs, hlen with
      | [x0, x1], _ =>
        simp at e0 e1
        rw [e0, e1]
        rfl) hf
  exact ⟨A, c, l, rfl, h1, h2, h3, h4⟩
set_option maxRecDepth 100000 in
theorem open_labelC {n : Nat} {cs : List Value} {y : DataW H × List MemPlace} (hlen : cs.length = 5) (h : DataW.trod enc Tryz.prog w 0 (fun _ => true) true n 31 cs = some y) :
    ∃ A c, ∃ l : Lab, cs = [.int .i64 l.id, .int .i64 l.unit, .string l.name, .string l.note, .slice A l.ext.length c] ∧ LabAt w A c l := by
  have hf := struct_fields Tryz.underlying31 (by kernel_rfl) h
  obtain ⟨v0, _, _, e0, f0⟩ := hf 0 _ rfl (by omega)
  obtain ⟨v1, _, _, e1, f1⟩ := hf 1 _ rfl (by omega)
  obtain ⟨v2, _, _, e2, f2⟩ := hf 2 _ rfl (by omega)
  obtain ⟨v3, _, _, e3, f3⟩ := hf 3 _ rfl (by omega)
  obtain ⟨v4, _, _, e4, f4⟩ := hf 4 _ rfl (by omega)
  obtain ⟨n0, hn0, _, w0⟩ := DataW.trod_int Tryz.underlying3 f0
  obtain ⟨n1, hn1, _, w1⟩ := DataW.trod_int Tryz.underlying3 f1
  obtain ⟨n2, hn2, _, w2⟩ := DataW.trod_string Tryz.underlying9 f2
  obtain ⟨n3, hn3, _, w3⟩ := DataW.trod_string Tryz.underlying9 f3
  obtain ⟨A, c, ext, rfl, h1, h2, h3⟩ := open_runsF f4
  injection hn0 with hn0 _
  injection hn1 with hn1 _
  injection hn2 with hn2 _
  injection hn3 with hn3 _
  subst hn0; subst hn1; subst hn2; subst hn3
  have b0 := wf_i64 w0
  have b1 := wf_i64 w1
  unfold maxLen at w2 w3
  refine ⟨A, c, ⟨n0, n1, n2, n3, ext⟩, ?_, ⟨b0.1, b0.2, b1.1, b1.2, by simpa using w2, by simpa using w3, h3, h1, h2⟩⟩
  match cs, hlen with
  | [x0, x1, x2, x3, x4], _ =>
    simp at e0 e1 e2 e3 e4
    rw [e0, e1, e2, e3, e4]
end
end Go.Proofs.YtnlaogneceanoaaGreat
namespace Go.Proofs.YtnlaogneceanoaaGreat
set_option linter.unusedVariables false
set_option linter.unusedSimpArgs false
set_option linter.unusedSectionVars false
open Go.ChangeShapes Go.WideShapes Go.ChangeAt Go.RowKit
section
variable {H : Type} {enc : TypeId × Value → H} {P : Program}
theorem trodAll_stays (hl : laidOutB P = true) {W W' : World} {sp' : Nat → Bool} : ∀ {ts : List TypeId} {vs : List Value} {ds : List (DataW H)} {ps : List MemPlace},
    ts.all (fun t => P.readableRec t && decide (t < P.types.size)) = true →
    DataW.TrodAll enc P W 0 (fun _ => true) true ts vs ds ps → (∀ p ∈ ps, W.sameAt W' p) → (∀ p ∈ ps, sp' p.block = true) → DataW.TrodAll enc P W' 0 sp' true ts vs ds ps := by
  intro ts
  induction ts with
  | nil =>
    intro vs ds ps _ h _ _
    obtain ⟨rfl, rfl, rfl⟩ := trodAll_nil h
    exact rfl
  | cons t ts ih =>
    intro vs ds ps hts h hsame hs
    obtain ⟨v, vs', d, ds', p, q, rfl, rfl, rfl, h1, h2⟩ := trodAll_cons h
    rw [List.all_cons, Bool.and_eq_true, Bool.and_eq_true] at hts
    obtain ⟨⟨ht1, ht2⟩, ht3⟩ := hts
    exact trodAll_cons_mk (WideElems.Trod_stays hl ht1 (by simpa using ht2) h1 (fun x hx => hsame x (List.mem_append_left _ hx)) (fun x hx => hs x (List.mem_append_left _ hx)))
      (ih ht3 h2 (fun x hx => hsame x (List.mem_append_right _ hx)) (fun x hx => hs x (List.mem_append_right _ hx)))
theorem law_post {f : Func} {s : ChangeSpec} {apart fresh handsOn : Bool} {W W' : World} {args : Array Value} {ds gs : List (DataW H)} {before : List MemPlace} {tb : TypeId}
    (hl : laidOutB P = true) (hread : f.params.toList.all (fun t => P.readableRec t && decide (t < P.types.size)) = true) (hrt : f.resultTypes = #[tb]) (htb : P.underlying tb = some .bool) (hvars : s.vars = [])
    (hW : DataW.Whole enc P f.params.toList s.vars apart W args.toList ds gs before) (hfn : s.fn H (ds ++ gs) = { results := [.lit (.bool true)], args := ds }) (hg : Grew W W') :
    s.post enc P f apart fresh handsOn false W args (.bool true) W' := by
  have hlt : ∀ p ∈ before, p.block < W.heap.size := fun p hp => hW.lt p hp
  have hW0 := hW
  obtain ⟨p, q, hA, hV, rfl, hfz, hnd⟩ := hW
  rw [hvars] at hV
  obtain ⟨rfl, rfl⟩ := trodVars_none hV
  rw [List.append_nil] at hlt hW0
  have hA' := trodAll_stays hl (W' := W') (sp' := fun b => decide (b < W.heap.size)) hread hA (fun x hx => hg.same (hlt x hx)) (fun x hx => by simpa using hlt x hx)
  refine ⟨ds, [], p, [], p, [], hW0, ?_, ?_, ?_, ?_, fun h => by cases h⟩
  · rw [hfn, hrt]
    show DataW.TrodAll enc P W' _ (fun _ => false) handsOn [tb] [.bool true] [.lit (.bool true)] []
    exact trodAll_mk1 (shut_bool htb true)
  · rw [hfn]
    exact hA'
  · rw [hfn, hvars]
    exact rfl
  · exact hg.frame _
end
end Go.Proofs.YtnlaogneceanoaaGreat
namespace Go.Proofs.YtnlaogneceanoaaGreat
set_option linter.unusedVariables false
set_option linter.unusedSimpArgs false
set_option linter.unusedSectionVars false
open Go.RowKit
theorem padS_size (n : Nat) (s : ByteArray) (h : s.size ≤ n) : (padS n s).size = n := by
  unfold padS
  rw [ByteArray.size_append, zeros_size]
  omega
end Go.Proofs.YtnlaogneceanoaaGreat
namespace Go.Proofs.YtnlaogneceanoaaGreat
set_option linter.unusedVariables false
set_option linter.unusedSimpArgs false
set_option linter.unusedSectionVars false
open Go.RowKit
attribute [local go_sem ↓] Go.wp_at_zero Go.wp_at_succ
theorem fewL_len (l : Lab) (h : fewL l = true) : l.name.size ≤ 100 ∧ l.note.size ≤ 500 ∧ l.ext.length ≤ 30 := by
  unfold fewL at h
  simp only [Bool.and_eq_true, decide_eq_true_eq] at h
  exact ⟨h.1.1, h.1.2, h.2⟩
end Go.Proofs.YtnlaogneceanoaaGreat
