/- Chapter 4's laws: sectors are harmed. Chapter 4: PagesFenced. Chapter 4: PagesShared. Chapter 4: PagesMends. Arguments opened: lists within structs, structs within structs. Chapter 4's laws: lists of writes, lists of lists of writes, harms: opened as arguments. Chapter 4's laws: lists of harms, opened as arguments. The row's last step, for every law: the call returns true and turns nothing that was there. -/
import Derived.ProofKit
import Derived.OpenShut
import Derived.Deep.Slices
import Derived.Deep.Fields
import Derived.ChangeSame
import Derived.Test.YtbddelefglhaaaaRows
import Derived.WalkKit
import Derived.Laws.Tables
import Derived.Deep.QuietTactic
import Derived.Test.YtbddelefglhaaaaCpA
import Derived.Test.YtbddelefglhaaaaCpB
import Derived.Test.YtbddelefglhaaaaCpC
import Derived.Test.YtbddelefglhaaaaCpD
import Derived.Test.YtbddelefglhaaaaCpE
import Derived.Test.YtbddelefglhaaaaCpF
import Derived.Test.YtbddelefglhaaaaCpG
import Derived.Test.YtbddelefglhaaaaCpH
import Derived.Test.YtbddelefglhaaaaCpI
import Derived.Test.YtbddelefglhaaaaCpJ
import Derived.Test.YtbddelefglhaaaaCpK
import Derived.Test.YtbddelefglhaaaaCmA
import Derived.Test.YtbddelefglhaaaaCmB
namespace Go.Proofs.Ytbddelefglhaaaa
set_option linter.unusedVariables false
set_option linter.unusedSimpArgs false
set_option linter.unusedSectionVars false
open Go.RowKit
attribute [local go_sem ↓] Go.wp_at_zero Go.wp_at_succ
def hC (h : HarmD) : List Value := [.int .u16 (h.raw : Int), .int .u16 (h.at_ : Int), .int .u8 (h.mask : Int), .int .u8 (h.back : Int)]
instance : Inhabited HarmD := ⟨⟨0, 0, 0, 0⟩⟩
def HarmsAt (w : World) (B : Nat) (A : Option Addr) (hs : List HarmD) : Prop := (∀ h ∈ hs, h.ok) ∧ ListAt w B 4 A (hs.map hC)
theorem HarmsAt.on {w w' : World} {A : Option Addr} {hs : List HarmD} (h : HarmsAt w w.heap.size A hs) (hg : Grew w w') : HarmsAt w' w'.heap.size A hs := ⟨h.1, (h.2.keep (Nat.le_refl _) hg).mono hg.size⟩
theorem harm_at {w : World} {B : Nat} {A : Option Addr} {hs : List HarmD} (h : HarmsAt w B A hs) {k : Nat} (hk : k < hs.length) :
    ∃ b off, A = some ⟨b, off, none⟩ ∧ b < B ∧ w.cell? ⟨b, off + k * 4, none⟩ = some (.int .u16 (hs[k].raw : Int)) ∧ w.cell? ⟨b, off + k * 4 + 1, none⟩ = some (.int .u16 (hs[k].at_ : Int)) ∧ w.cell? ⟨b, off + k * 4 + 2, none⟩ = some (.int .u8 (hs[k].mask : Int)) ∧ w.cell? ⟨b, off + k * 4 + 3, none⟩ = some (.int .u8 (hs[k].back : Int)) := by
  obtain ⟨b, off, e, hb, hc⟩ := h.2 (by rw [List.length_map]; omega)
  have hj : (hs.map hC)[k]? = some (hC hs[k]) := by rw [List.getElem?_map, List.getElem?_eq_getElem hk]; rfl
  exact ⟨b, off, e, hb, by have := hc k _ hj 0 _ rfl; rwa [Nat.add_zero] at this, hc k _ hj 1 _ rfl, hc k _ hj 2 _ rfl, hc k _ hj 3 _ rfl⟩
def hF (H : List Nat) : Int → Option Value := seenF (H.map fun i : Nat => (i : Int))
theorem hF_cons (H : List Nat) (i : Nat) : ∀ b, upd (hF H) (i : Int) (some (.bool true)) b = hF (i :: H) b := by
  intro b
  unfold hF seenF
  rw [List.map_cons]
  by_cases h : b = (i : Int)
  · subst h; rw [upd_same, if_pos (List.mem_cons_self ..)]
  · rw [upd_other _ _ h]
    by_cases h2 : b ∈ H.map fun i : Nat => (i : Int)
    · rw [if_pos h2, if_pos (List.mem_cons_of_mem _ h2)]
    · rw [if_neg h2, if_neg (fun h9 => (List.mem_cons.1 h9).elim h h2)]
theorem hF_in {H : List Nat} {i : Nat} (h : i ∈ H) : hF H (i : Int) = some (.bool true) := if_pos (List.mem_map.2 ⟨i, h, rfl⟩)
theorem hF_out {H : List Nat} {i : Nat} (h : i ∉ H) : hF H (i : Int) = none := if_neg (fun h9 => by
  obtain ⟨j, hj, e⟩ := List.mem_map.1 h9
  have e2 : j = i := by omega
  exact h (e2 ▸ hj))
theorem harm1_errs {first last : Nat} {dmg : Bool} {D : Dev} (hr : first ≤ last) (hl : last < D.st.length) {p : Dev × List Nat} (hp : Harmed first last dmg D p.1 p.2) (h : HarmD) (hok : h.ok) :
    (0 < earlierD p.1 (h.sec first last : Nat) → (returnD p.1 (h.sec first last : Nat) (1 + ((h.back % earlierD p.1 (h.sec first last : Nat) : Nat) : Int))).2 = 0) ∧ (damageD p.1 (h.sec first last : Nat) ((h.at_ % 140 : Nat) : Int) h.bits).2 = 0 := by
  have hb : first ≤ h.sec first last ∧ h.sec first last ≤ last := by
    unfold HarmD.sec
    have := Nat.mod_lt h.raw (show last - first + 1 > 0 by omega)
    omega
  have hth : thereD p.1 (h.sec first last : Nat) = true := by
    unfold thereD
    exact decide_eq_true ⟨by omega, by rw [hp.len]; omega⟩
  constructor
  · intro h0
    have he : earlierD p.1 (h.sec first last : Nat) = (p.1.olds (h.sec first last)).length := by unfold earlierD; rw [if_pos hth, Int.toNat_natCast]
    have hm := Nat.mod_lt h.back h0
    obtain ⟨b, hbk⟩ : ∃ b, h.back % earlierD p.1 (h.sec first last : Nat) = b := ⟨_, rfl⟩
    rw [hbk, he] at hm
    rw [hbk]
    unfold returnD
    rw [if_neg]
    rw [hth, Int.toNat_natCast]
    intro h9
    rcases h9 with h9 | h9 | h9
    · cases h9
    · omega
    · omega
  · have hk : h.at_ % 140 < 140 := Nat.mod_lt _ (by omega)
    unfold damageD
    rw [if_neg (by
      rw [hth]
      intro h9
      rcases h9 with h9 | h9 | h9
      · cases h9
      · omega
      · omega), if_neg (bits_ne h hok)]
theorem or_one (m : Nat) (hm : m < 256) : bits .or .u8 (m : Int) 1 = (((UInt8.ofNat (m ||| 1)).toNat : Nat) : Int) := by
  have key : ∀ x : Fin 256, bits .or .u8 (x.1 : Int) 1 = (((UInt8.ofNat (x.1 ||| 1)).toNat : Nat) : Int) := by decide +kernel
  exact key ⟨m, hm⟩
set_option maxRecDepth 100000 in
set_option maxHeartbeats 4000000 in
theorem harmL_any {w0 : World} {x : Nat} {D : Dev} {out : Nat → Prop} {W : World} (h : Live w0 x D out W) (first last : Nat) (hr : first ≤ last) (hll : last < D.st.length) (hl55 : D.st.length ≤ 1155) (dmg : Bool) (hs : List HarmD) (A : Option Addr) (c : Nat) (hat : HarmsAt w0 w0.heap.size A hs) (hn : hs.length ≤ 30) :
    Calls Try.prog 32 #[ptrV x, .slice A hs.length c, .int .i64 (first : Int), .int .i64 (last : Int), .bool dmg] W fun e w' => ∃ g D' H, e = .returned (.map (some g)) ∧ MapI w' g (hF H) ∧ harmP first last dmg D hs = (D', H) ∧ Live w0 x D' (fun q => out q ∨ q = g) w' ∧ Beside w0 out W w' ∧ Harmed first last dmg D D' H := by
  have hmm := @run_makeMap Try.prog
  have hg0 : Grew W (W.alloc (.map #[] 0)) := (Grew.refl W).alloc _
  have HM0 : Hid (MapI (W.alloc (.map #[] 0)) W.heap.size (hF [])) := Lib.hid ((MapIs.made _ rfl).congr (fun a => rfl))
  have HL0 := Lib.hid ((h.more hg0).few (out' := fun q => out q ∨ q = W.heap.size) (fun q hq => hq.elim .inl (fun h9 => .inr ⟨by omega, by rw [h9]; simp⟩)))
  have HB0 : Hid (Beside w0 out W (W.alloc (.map #[] 0))) := Lib.hid (hg0.turned _)
  have HR0 := Lib.hid (Harmed.refl first last dmg h.ok)
  have HDO := Lib.hid h.ok
  have HAT := Lib.hid hat
  have HW0 := Lib.hid h.base.size
  obtain ⟨m, hm⟩ : ∃ m, last - first = m := ⟨_, rfl⟩
  have hlast : last = first + m := by omega
  subst hlast
  have hmb : m ≤ 1154 ∧ first ≤ 1154 := by omega
  clear h hat hg0 hm hr
  go_enter Try.func32, Try.ntmps32
  go_wp2_with fail
  clear hmm
  go_loopg [19] hs.length (fun gk i' wr => ∃ (k : Nat) (D1 : Dev) (H1 : List Nat), k ≤ hs.length ∧ gk = hs.length - k ∧ i' = .int .i64 k ∧ harmP first (first + m) dmg D (hs.take k) = (D1, H1) ∧ Harmed first (first + m) dmg D D1 H1 ∧ MapI wr W.heap.size (hF H1) ∧ Live w0 x D1 (fun q => out q ∨ q = W.heap.size) wr ∧ Beside w0 out W wr)
  case atStart => exact ⟨0, D, [], by omega, by omega, rfl, rfl, HR0.out, HM0.out, HL0.out, HB0.out⟩
  case round =>
    obtain ⟨k, D1, H1, hk, hgk, rfl, hp, hh, hm1, hl1, hb1⟩ := hrel
    have HGK := Lib.hid hgk
    have HP := Lib.hid hp
    have HH := Lib.hid hh
    have HM := Lib.hid hm1
    have HL := Lib.hid hl1
    have HB := Lib.hid hb1
    clear hgk hp hh hm1 hl1 hb1
    by_cases hlt : k < hs.length
    · have hkk : (k : Int) < (hs.length : Int) := by omega
      have hka := HAT.out.2.keep (Nat.le_refl _) HL.out.base
      obtain ⟨b, off, rfl, hbb, c0, c1, c2, c3⟩ := harm_at ⟨HAT.out.1, hka⟩ hlt
      have hgw : w0.heap.size ≤ wr.heap.size := HL.out.base.size
      have hok := HAT.out.1 _ (List.getElem_mem hlt)
      have hstep := harmP_step first (first + m) dmg D hs k hlt
      rw [HP.out] at hstep
      have h1ok := harm1_ok HDO.out (Nat.le_add_right first m) hll (p := (D1, H1)) HH.out hs[k] hok
      obtain ⟨r, hrr⟩ : ∃ r : Nat, hs[k].raw % (m + 1) = r := ⟨_, rfl⟩
      have hsec : hs[k].sec first (first + m) = first + r := by
        unfold HarmD.sec
        rw [show first + m - first + 1 = m + 1 from by omega, hrr]
      have hrb : r ≤ m := by have := Nat.mod_lt hs[k].raw (show m + 1 > 0 by omega); omega
      obtain ⟨⟨r1, r2, r3, r4⟩, he⟩ : ∃ e, hs[k] = e := ⟨_, rfl⟩
      rw [he] at c0 c1 c2 c3 hok hstep h1ok hsec hrr
      simp only at c0 c1 c2 c3 hrr
      obtain ⟨k1, k2, k3, k4⟩ := hok
      simp only at k1 k2 k3 k4
      have htm : Int.tmod (r1 : Int) ((m : Int) + 1) = (r : Int) := by rw [Int.tmod_eq_emod_of_nonneg (by omega), ← hrr, Int.natCast_emod]; rfl
      have hw1 : IntKind.i64.wrap (r1 : Int) = (r1 : Int) := IntWalk.i64_in _ (by omega)
      have hw2 : IntKind.i64.wrap (r : Int) = (r : Int) := IntWalk.i64_in _ (by omega)
      have hws : ((first + m : Nat) : Int) - (first : Int) = (m : Int) := by omega
      have hm0 : (m : Int) + 1 ≠ 0 := by omega
      have hmod : (r1 : Int) % ((first : Int) + (m : Int) - (first : Int) + 1) = (r : Int) := by rw [show (first : Int) + (m : Int) - (first : Int) + 1 = (m : Int) + 1 from by omega, ← hrr, Int.natCast_emod]; rfl
      have herr := harm1_errs (Nat.le_add_right first m) hll (p := (D1, H1)) HH.out ⟨r1, r2, r3, r4⟩ ⟨k1, k2, k3, k4⟩
      unfold harm1 at hstep h1ok
      rw [hsec] at hstep h1ok herr
      simp only at hstep h1ok herr
      have hsi : ((first + r : Nat) : Int) = (first : Int) + (r : Int) := by omega
      rw [hsi] at hstep h1ok herr
      obtain ⟨hg1, hg2⟩ : Grew wr (wr.alloc (.cells #[.int .u16 (r1 : Int), .int .u16 (r2 : Int), .int .u8 (r3 : Int), .int .u8 (r4 : Int)] 122)) ∧ True := ⟨(Grew.refl wr).alloc _, trivial⟩
      have hm2 := HM.out.alloc (.cells #[.int .u16 (r1 : Int), .int .u16 (r2 : Int), .int .u8 (r3 : Int), .int .u8 (r4 : Int)] 122)
      obtain ⟨kl, hkl⟩ := int_key ((first : Int) + (r : Int)) (by unfold okI; omega)
      have hlk := hm2.lookup_val int_keyedI intV_inj Try.underlying61 (zero_bool4 _) ((first : Int) + (r : Int)) hkl
      have HST := Lib.hid hstep
      have H1O := Lib.hid h1ok
      have HER := Lib.hid herr
      have HM2 := Lib.hid hm2
      have HKL := Lib.hid hkl
      have hrbb : r ≤ 1154 := by omega
      have hbk := (Blk.new wr 122 #[.int .u16 (r1 : Int), .int .u16 (r2 : Int), .int .u8 (r3 : Int), .int .u8 (r4 : Int)] rfl)
      clear hstep h1ok herr he hka hrr hsec
      by_cases hin : first + r ∈ H1
      · rw [show hF H1 ((first : Int) + (r : Int)) = some (.bool true) from by rw [← hsi]; exact hF_in hin, Option.getD_some] at hlk
        have HIN := Lib.hid hin
        clear hin hbk hm2 hkl
        go_wp2_with fail
        go_roundg (hs.length - (k + 1))
        case measure => rw [HGK.out]; omega
        case rel => exact ⟨k + 1, D1, H1, by omega, by omega, by go_num, by rw [HST.out, if_pos HIN.out], HH.out, HM2.out, HL.out.grew hg1, HB.out.andGrew hg1⟩
      · rw [show hF H1 ((first : Int) + (r : Int)) = none from by rw [← hsi]; exact hF_out hin, Option.getD_none] at hlk
        have HIN := Lib.hid hin
        have HOL := Lib.hid (old_live (HL.out.grew hg1) ((first : Int) + (r : Int)))
        obtain ⟨od, hod⟩ : ∃ od, earlierD D1 ((first : Int) + (r : Int)) = od := ⟨_, rfl⟩
        rw [hod] at HOL HER HST H1O
        clear hin hm2 hkl
        by_cases hcond : dmg = false ∧ r3 % 2 = 0 ∧ 0 < od
        · obtain ⟨hd, hr3, hod0⟩ := hcond
          subst hd
          have hst := HST.out
          have hh1 := H1O.out.1
          rw [if_neg HIN.out, if_pos ⟨rfl, hr3, hod0⟩] at hst hh1
          have hre := HER.out.1 hod0
          obtain ⟨bb, hbb2⟩ : ∃ bb : Nat, r4 % od = bb := ⟨_, rfl⟩
          have hbod : bb < od := by rw [← hbb2]; exact Nat.mod_lt _ hod0
          have hod8 : od ≤ 8 := by
            rw [← hod]
            unfold earlierD
            split
            · have := olds_len HH.out.ok ((first : Int) + (r : Int)).toNat
              exact this
            · exact Nat.zero_le _
          rw [hbb2] at hst hh1 hre
          obtain ⟨⟨D2, er⟩, hD2⟩ : ∃ p, returnD D1 ((first : Int) + (r : Int)) (1 + (bb : Int)) = p := ⟨_, rfl⟩
          have HRL := Lib.hid (return_live (HL.out.grew hg1) ((first : Int) + (r : Int)) (1 + (bb : Int)) (by unfold okI; omega) (by unfold okI; omega))
          rw [hD2] at hst hh1 hre HRL
          have hre0 : er = 0 := hre
          subst hre0
          have hq1 : ((r3 : Int) % 2 == 0) = true := by rw [beq_iff_eq]; omega
          have hq2 : (od : Int) > 0 := by omega
          have hq3 : (r4 : Int) % (od : Int) = (bb : Int) := by rw [← hbb2, Int.natCast_emod]
          have hq4 : (od : Int) ≠ 0 := by omega
          have hq5 : decide ((0 : Int) < (od : Int)) = true := decide_eq_true (by omega)
          have HS2 := Lib.hid hst
          have HH2 := Lib.hid hh1
          clear hst hh1 hre hbb2 hod hD2 hr3 hod0
          go_wp2_with fail
          refine HOL.out.mono ?_
          rintro e w2 ⟨rfl, rfl⟩
          go_wp2_with fail
          refine HRL.out.mono ?_
          rintro e w3 ⟨rfl, hl3, hb3⟩
          have hm3 := HM2.out.turned hb3 (fun h9 => h9.2 (.inr rfl))
          have HM3 := Lib.hid hm3
          have HL3 := Lib.hid hl3
          have HB3 := Lib.hid (Beside.andThen (HB.out.andGrew hg1) hb3 (fun q hq => .inl hq))
          clear hm3 hl3 hb3
          go_wp2_with (refine wpList_mapUpdate_is rfl _ _ _ 61 rfl 4 int_keyedI intV_inj Try.underlying61 rfl HM3.out ((first : Int) + (r : Int)) HKL.out (.bool true) rfl rfl ?_; intro w4 hm4 ht4; have HM4 := Lib.hid hm4; have HT4 := Lib.hid ht4; clear hm4 ht4)
          go_roundg (hs.length - (k + 1))
          case measure => rw [HGK.out]; omega
          case rel => exact ⟨k + 1, D2, (first + r) :: H1, by omega, by omega, by go_num, HS2.out, HH2.out, HM4.out.congr (fun a => by rw [← hsi]; exact hF_cons H1 (first + r) a), HL3.out.turn1 (.inr rfl) HW0.out HT4.out, HB3.out.next HT4.out (fun q hq h9 => by omega)⟩
        · have hst := HST.out
          have hh1 := H1O.out.1
          rw [if_neg HIN.out, if_neg hcond] at hst hh1
          have hde := HER.out.2
          obtain ⟨aa, haa⟩ : ∃ aa : Nat, r2 % 140 = aa := ⟨_, rfl⟩
          have haab : aa < 140 := by rw [← haa]; exact Nat.mod_lt _ (by omega)
          obtain ⟨mb, hmbb⟩ : ∃ mb : UInt8, UInt8.ofNat (r3 ||| 1) = mb := ⟨_, rfl⟩
          have hor := or_one r3 k3
          rw [hmbb] at hor
          have hmb2 : (⟨r1, r2, r3, r4⟩ : HarmD).bits = mb := hmbb
          rw [haa, hmb2] at hst hh1 hde
          obtain ⟨⟨D2, er⟩, hD2⟩ : ∃ p, damageD D1 ((first : Int) + (r : Int)) (aa : Int) mb = p := ⟨_, rfl⟩
          have HRL := Lib.hid (damage_live (HL.out.grew hg1) ((first : Int) + (r : Int)) (aa : Int) mb (by unfold okI; omega) (by unfold okI; omega))
          rw [hD2] at hst hh1 hde HRL
          have hde0 : er = 0 := hde
          subst hde0
          have hq9 : (r2 : Int) % 140 = (aa : Int) := by rw [← haa, Int.natCast_emod]; rfl
          have hcs : dmg = true ∨ (dmg = false ∧ ((r3 : Int) % 2 == 0) = false) ∨ (dmg = false ∧ ((r3 : Int) % 2 == 0) = true ∧ decide ((0 : Int) < (od : Int)) = false ∧ ¬ (od : Int) > 0) := by
            cases dmg with
            | true => exact .inl rfl
            | false =>
              by_cases hr3 : r3 % 2 = 0
              · have : ¬ 0 < od := fun h9 => hcond ⟨rfl, hr3, h9⟩
                exact .inr (.inr ⟨rfl, by rw [beq_iff_eq]; omega, decide_eq_false (by omega), by omega⟩)
              · exact .inr (.inl ⟨rfl, by rw [beq_eq_false_iff_ne]; omega⟩)
          have HS2 := Lib.hid hst
          have HH2 := Lib.hid hh1
          clear hst hh1 hde haa hod hD2 hcond hmbb hmb2
          rcases hcs with hd | ⟨hd, hq1⟩ | ⟨hd, hq1, hq2, hq3⟩
          all_goals
            subst hd
            go_wp2_with fail
            refine HOL.out.mono ?_
            rintro e w2 ⟨rfl, rfl⟩
            go_wp2_with fail
            refine HRL.out.mono ?_
            rintro e w3 ⟨rfl, hl3, hb3⟩
            have hm3 := HM2.out.turned hb3 (fun h9 => h9.2 (.inr rfl))
            have HM3 := Lib.hid hm3
            have HL3 := Lib.hid hl3
            have HB3 := Lib.hid (Beside.andThen (HB.out.andGrew hg1) hb3 (fun q hq => .inl hq))
            clear hm3 hl3 hb3
            go_wp2_with (refine wpList_mapUpdate_is rfl _ _ _ 61 rfl 4 int_keyedI intV_inj Try.underlying61 rfl HM3.out ((first : Int) + (r : Int)) HKL.out (.bool true) rfl rfl ?_; intro w4 hm4 ht4; have HM4 := Lib.hid hm4; have HT4 := Lib.hid ht4; clear hm4 ht4)
            go_roundg (hs.length - (k + 1))
            case measure => rw [HGK.out]; omega
            case rel => exact ⟨k + 1, D2, (first + r) :: H1, by omega, by omega, by go_num, HS2.out, HH2.out, HM4.out.congr (fun a => by rw [← hsi]; exact hF_cons H1 (first + r) a), HL3.out.turn1 (.inr rfl) HW0.out HT4.out, HB3.out.next HT4.out (fun q hq h9 => by omega)⟩
    · obtain rfl : k = hs.length := by omega
      have HE := HP
      rw [List.take_of_length_le (Nat.le_refl _)] at HE
      go_wp2_with fail
      go_ret
      exact ⟨_, D1, H1, rfl, HM.out, HE.out, HL.out, HB.out, HH.out⟩
end Go.Proofs.Ytbddelefglhaaaa
namespace Go.Proofs.Ytbddelefglhaaaa
set_option linter.unusedVariables false
set_option linter.unusedSimpArgs false
set_option linter.unusedSectionVars false
open Go.RowKit
attribute [local go_sem ↓] Go.wp_at_zero Go.wp_at_succ
theorem Held.kept {w0 W W' : World} {x s m : Nat} {sy ep : Int} {D D' : Dev} {out out' : Nat → Prop} (h : Held w0 x s m sy ep D out W) (hl : Live w0 x D' out' W') (hb : Beside w0 out W W') (ho : ∀ k, out k → out' k) : Held w0 x s m sy ep D' out' W' :=
  ⟨hl, h.store.kept hb (fun hk => hk.2 h.os) (fun hk => hk.2 h.om), ho _ h.os, ho _ h.om, h.m0⟩
/-- A store beside one whose contents were read. -/
theorem Held.seen {w0 W W' : World} {x s m s2 m2 : Nat} {sy ep sy2 ep2 : Int} {D D' : Dev} {out out' : Nat → Prop} (h : Held w0 x s2 m2 sy2 ep2 D out W) (hd : Held w0 x s m sy ep D' out' W') (ht : Turned (fun k => (w0.heap.size ≤ k ∧ ¬ out k) ∨ k = m) W W') (ho : ∀ k, out k → out' k) (hne : ¬ s2 = m ∧ ¬ m2 = m) : Held w0 x s2 m2 sy2 ep2 D' out' W' :=
  ⟨hd.live, h.store.kept ht (fun h9 => h9.elim (fun h8 => h8.2 h.os) hne.1) (fun h9 => h9.elim (fun h8 => h8.2 h.om) hne.2), ho _ h.os, ho _ h.om, h.m0⟩
end Go.Proofs.Ytbddelefglhaaaa
namespace Go.Proofs.Ytbddelefglhaaaa
set_option linter.unusedVariables false
set_option linter.unusedSimpArgs false
set_option linter.unusedSectionVars false
open Go.RowKit
attribute [local go_sem ↓] Go.wp_at_zero Go.wp_at_succ
theorem LstsAt.on {w w' : World} {A : Option Addr} {xs : List WsE} (h : LstsAt w w.heap.size A xs) (hg : Grew w w') : LstsAt w' w'.heap.size A xs := ⟨fun x hx => ⟨((h.1 x hx).at_.keep (Nat.le_refl _) hg).mono hg.size, (h.1 x hx).len, (h.1 x hx).ok⟩, (h.2.keep (Nat.le_refl _) hg).mono hg.size⟩
end Go.Proofs.Ytbddelefglhaaaa
namespace Go.Proofs.Ytbddelefglhaaaa
set_option linter.unusedVariables false
set_option linter.unusedSimpArgs false
set_option linter.unusedSectionVars false
open Go.RowKit
attribute [local go_sem ↓] Go.wp_at_zero Go.wp_at_succ
/-- What Mend leaves holds the same contents. -/
theorem mend_after {D D2 D3 : Dev} {I : Img} {H : List Nat} {k : Nat} (hn : Neat D I) (hh : Harmed 0 32 true D D2 H)
    (hm : (k = 0 ∧ badL H 32 = [] ∧ 0 ∉ H ∧ D3 = D2) ∨ (k = (badL H 32).length + 1 ∧ ¬ (badL H 32 = [] ∧ 0 ∉ H) ∧ ∃ v, Clean D3 (I.mend H v) ∧ D3.fen = D2.fen ∧ D3.fuse = none)) :
    (∃ J, Neat D3 J ∧ csL J = csL I ∧ J.n = I.n) ∧ ((k = 0 ∧ H.length = 0) ∨ (0 < k ∧ 0 < H.length ∧ k ≤ H.length + 1)) := by
  have hc := badL_count hh.nodup (fun i hi => (hh.rng i hi).2)
  have hcl := hn.clean
  rcases hm with ⟨h1, h2, h3, h4⟩ | ⟨h1, h2, v, h3, h4, h5⟩
  · have hH : H = [] := hc.2 h2 h3
    subst hH
    subst h4
    refine ⟨⟨I, ⟨⟨⟨hh.ok, hcl.img, hh.len.trans hcl.len, hh.failed.trans hcl.live, hh.pend.trans hcl.pend, ?_, fun q hq => ?_, fun i hi => ?_⟩, ?_⟩, hh.fen.trans hn.fen, hh.fuse.trans hn.fuse⟩, rfl, rfl⟩, .inl ⟨h1, rfl⟩⟩
    · rw [hh.out 0 List.not_mem_nil, hcl.top]
    · rw [hh.out _ List.not_mem_nil, hcl.map q hq]
    · rw [hh.out _ List.not_mem_nil, hcl.dat i hi]
    · rw [hh.out 33 List.not_mem_nil, hcl.head]
  · refine ⟨⟨I.mend H v, ⟨h3, h4.trans (hh.fen.trans hn.fen), h5⟩, rfl, rfl⟩, .inr ⟨by omega, ?_, by have := hc.1; omega⟩⟩
    rcases Nat.eq_zero_or_pos H.length with h9 | h9
    · exfalso
      have hH : H = [] := List.length_eq_zero_iff.1 h9
      subst hH
      exact h2 ⟨by unfold badL; simp, List.not_mem_nil⟩
    · exact h9
set_option maxRecDepth 100000 in
set_option maxHeartbeats 4000000 in
theorem pagesMends_any (k : Nat) (hk : k < 256) (A : Option Addr) (c : Nat) (xs : List WsE) (B : Option Addr) (cb : Nat) (hs : List HarmD) (w : World) (hat : LstsAt w w.heap.size A xs) (hxl : xs.length ≤ 9223372036854775807) (hbt : HarmsAt w w.heap.size B hs) (hhl : hs.length ≤ 9223372036854775807) :
    Calls Try.prog 9 #[.int .u8 (k : Int), .slice A xs.length c, .slice B hs.length cb] w fun e w' => e = .returned (.bool true) ∧ Grew w w' := by
  have HAT := Lib.hid hat
  have HBT := Lib.hid hbt
  have HSH := Lib.hid (fun (w1 : World) (g : Grew w w1) => few4_any xs A c w1 (hat.on g) hxl)
  clear hat hbt
  cases hs0 : fewLs xs with
  | false =>
    rw [hs0] at HSH
    clear hs0
    go_enter Try.func9, Try.ntmps9
    go_wp2_with fail
    refine (awake4_any w).mono ?_
    rintro e w1 ⟨rfl, g1⟩
    have HG1 := Lib.hid g1
    clear g1
    go_wp2_with fail
    refine (HSH.out w1 HG1.out).mono ?_
    rintro e w2 ⟨rfl, g2⟩
    have HG2 := Lib.hid (HG1.out.trans g2)
    clear g2
    go_wp2_with fail
    refine (awake4_any w2).mono ?_
    rintro e w3 ⟨rfl, g3⟩
    go_wp2_with fail
    go_ret
    exact ⟨rfl, HG2.out.trans g3⟩
  | true =>
  by_cases hl30 : 30 < hs.length
  · rw [hs0] at HSH
    have hgt : (hs.length : Int) > 30 := by omega
    clear hs0
    go_enter Try.func9, Try.ntmps9
    go_wp2_with fail
    refine (awake4_any w).mono ?_
    rintro e w1 ⟨rfl, g1⟩
    have HG1 := Lib.hid g1
    clear g1
    go_wp2_with fail
    refine (HSH.out w1 HG1.out).mono ?_
    rintro e w2 ⟨rfl, g2⟩
    have HG2 := Lib.hid (HG1.out.trans g2)
    clear g2
    go_wp2_with fail
    refine (awake4_any w2).mono ?_
    rintro e w3 ⟨rfl, g3⟩
    go_wp2_with fail
    go_ret
    exact ⟨rfl, HG2.out.trans g3⟩
  · obtain ⟨_, hx6⟩ := fewLs_facts hs0
    have HFW := Lib.hid hs0
    rw [hs0] at HSH
    have hgt : ¬ (hs.length : Int) > 30 := by omega
    have hn1 : 1 + k % 40 ≤ 1024 := by omega
    have HBG := Lib.hid (fun (w2 : World) => beginL_any k hk w2)
    obtain ⟨n, hn⟩ : ∃ n, 1 + k % 40 = n := ⟨_, rfl⟩
    rw [hn] at HBG hn1
    have hn0 : 1 ≤ n := by omega
    have hh30 : hs.length ≤ 30 := by omega
    have HWT := Lib.hid (fun (W : World) => writerL_any 2 (by omega) W)
    rw [show sysL 2 = 3 from rfl] at HWT
    clear hs0 hk hn hxl hl30 hhl
    go_enter Try.func9, Try.ntmps9
    go_wp2_with fail
    refine (awake4_any w).mono ?_
    rintro e w1 ⟨rfl, g1⟩
    have HG1 := Lib.hid g1
    clear g1
    go_wp2_with fail
    refine (HSH.out w1 HG1.out).mono ?_
    rintro e w2 ⟨rfl, g2⟩
    have HG2 := Lib.hid (HG1.out.trans g2)
    clear g2
    go_wp2_with fail
    refine (HBG.out w2).mono ?_
    rintro e w3 ⟨x, E, rfl, hbg⟩
    have HFI := Lib.hid (fill_any hbg.live hbg.neat xs A c (HAT.out.on HG2.out) HFW.out)
    clear hbg
    go_wp2_with fail
    refine HFI.out.mono ?_
    rintro e w4 ⟨v1, D1, I1, rfl, ho1, hl1, _, hne, hin, hNb, _⟩
    have hDl : D1.st.length = 131 + n := by rw [hne.clean.len, hin]
    have hcl : ((csL I1).map fun s => [Value.string s]).length = n := by rw [List.length_map, csL_len, hin]
    obtain ⟨B1, c1, rfl, _, _, _⟩ := ho1.listAt
    rw [hcl] at ho1 hl1 ⊢
    have HHM := Lib.hid (harmL_any hl1 0 32 (by omega) (by omega) (by omega) true hs B cb (HBT.out.on HG2.out) hh30)
    rw [show ((0 : Nat) : Int) = 0 from rfl, show ((32 : Nat) : Int) = 32 from rfl] at HHM
    have HO4 := Lib.hid ho1
    have HNE := Lib.hid hne
    have HIN := Lib.hid hin
    have HNB := Lib.hid hNb
    clear ho1 hl1 hne hin hNb hDl hcl
    go_wp2_with fail
    refine HHM.out.mono ?_
    rintro e w6 ⟨g, D2, H, rfl, hmp, _, hl2, hb2, hhd⟩
    have HO6 := Lib.hid (HO4.out.beside hb2 (fun q hq => .inr hq))
    have HM6 := Lib.hid hmp
    have HL6 := Lib.hid hl2
    have HHD := Lib.hid hhd
    have HME := Lib.hid (fun (W : World) (gg : Grew w6 W) => mend_any (sy := 3) (hl2.grew gg) (hurt_of HNE.out hhd) (by have := HNB.out; omega) (by omega))
    clear hmp hl2 hb2 hhd
    go_wp2_with fail
    refine (HWT.out w6).mono ?_
    rintro e w7 ⟨rfl, g7⟩
    have HG7 := Lib.hid g7
    clear g7
    go_wp2_with fail
    refine (HME.out w7 HG7.out).mono ?_
    rintro e w8 ⟨kk, D3, rfl, hl8, hb8, hdis⟩
    obtain ⟨⟨J, hJ, hJc, hJn⟩, hcnt⟩ := mend_after HNE.out HHD.out hdis
    have HO8 := Lib.hid ((HO6.out.grew HG7.out).beside hb8 (fun q hq => .inl (.inr hq)))
    have hm8 := (HM6.out.grew HG7.out).turned hb8 (fun h9 => h9.2 (.inr rfl))
    have hlen8 := fun (ty : TypeId) => map_len hm8 (H.map fun i : Nat => (i : Int)) (by
      rw [List.Nodup, List.pairwise_map]
      exact HHD.out.nodup.imp (fun {a b} hab he => hab (by omega))) (fun a => by
      unfold hF seenF
      by_cases h9 : a ∈ H.map fun i : Nat => (i : Int)
      · rw [if_pos h9]; exact ⟨fun _ => h9, fun _ => ⟨_, rfl⟩⟩
      · rw [if_neg h9]; exact ⟨(fun hv => by obtain ⟨v, hv⟩ := hv; cases hv), fun h8 => absurd h8 h9⟩) Try.underlying61 ty
    have HL8 := Lib.hid hl8
    have HNJ := Lib.hid hJ
    have HJC := Lib.hid (And.intro hJc hJn)
    have hH33 := nodup_sub H (List.range 33) HHD.out.nodup (fun y hy => List.mem_range.2 (by have := HHD.out.rng y hy; omega))
    rw [List.length_range] at hH33
    obtain ⟨hl, hhl⟩ : ∃ hl, H.length = hl := ⟨_, rfl⟩
    rw [List.length_map, hhl] at hlen8
    rw [hhl] at hcnt hH33
    clear hl8 hb8 hdis hJ hJc hJn hm8 hhl
    rcases hcnt with ⟨h1, h2⟩ | ⟨h1, h2, h3⟩
    case' inl =>
      subst h1
      subst h2
      rw [show ((0 : Nat) : Int) = 0 from rfl] at hlen8 ⊢
    case' inr =>
      have d1 : decide ((0 : Int) < (kk : Int)) = true := decide_eq_true (by omega)
      have d2 : decide ((0 : Int) < (hl : Int)) = true := decide_eq_true (by omega)
      have d3 : decide ((hl : Int) + 1 < (kk : Int)) = false := decide_eq_false (by omega)
      have e1 : (kk : Int) > 0 := by omega
      have e2 : (hl : Int) > 0 := by omega
      have e3 : ¬ (kk : Int) > (hl : Int) + 1 := by omega
      have e4 : (hl : Int) ≤ 100 := by omega
    all_goals
      go_wp2_with fail
      refine (openC_any HL8.out HNJ.out 1 (by omega)).mono ?_
      rintro e w9 ⟨s2, m2, rfl, hh, _, hb⟩
      have HO9 := Lib.hid (HO8.out.beside hb (fun q hq => .inl (.inr hq)))
      have HH9 := Lib.hid hh
      clear hh hb
      go_wp2_with fail
      refine (contents_any HH9.out HNJ.out.clean.idle).mono ?_
      rintro e wa ⟨v3, rfl, ho3, hh, ht⟩
      have hoa := HO9.out.stays HH9.out.store ht (fun q hq => .inl (.inl (.inr hq)))
      have hsa := ho3
      have HBA := Lib.hid (bad_any hh HNJ.out.clean.idle)
      have HHa := Lib.hid hh
      have HOa := Lib.hid hoa
      have HSa := Lib.hid hsa
      clear ho3 hh ht hoa hsa
      go_wp2_with fail
      refine HBA.out.mono ?_
      rintro e wb ⟨rfl, hd⟩
      have hob := HOa.out.done HHa.out.store hd (fun q hq => .inl (.inl (.inl (.inr hq))))
      have hsb := HSa.out.done HHa.out.store hd (fun q hq => .inr hq)
      have hlJ : (csL J).length = n := by rw [csL_len, HJC.out.2, HIN.out]
      have hlI : (csL I1).length = n := by rw [csL_len, HIN.out]
      obtain ⟨B3, c3, rfl, _, _, hb3⟩ := hsb.listAt
      rw [List.length_map, hlJ]
      have HEQ := Lib.hid (equalL_any (csL J) (csL I1) B3 B1 c3 c1 wb hb3 (own_at hob) (by rw [hlJ]; omega) (by rw [hlI]; omega))
      rw [decide_eq_true HJC.out.1, hlJ, hlI] at HEQ
      have HGb := Lib.hid (HG2.out.trans hd.live.base)
      clear hob hsb hb3 hd hlJ hlI
      go_wp2_with fail
      refine HEQ.out.mono ?_
      rintro e wc ⟨rfl, gc⟩
      have HGc := Lib.hid (HGb.out.trans gc)
      clear gc
      go_wp2_with fail
      go_ret
      exact ⟨rfl, HGc.out⟩
end Go.Proofs.Ytbddelefglhaaaa
namespace Go.Proofs.Ytbddelefglhaaaa
set_option linter.unusedVariables false
set_option linter.unusedSimpArgs false
set_option linter.unusedSectionVars false
open Go.ChangeShapes Go.WideShapes Go.ChangeAt Go.RowKit Go.Deep
section
variable {H : Type} {enc : TypeId × Value → H} {P : Program} {w : World}
theorem open_listF {α : Type} [Inhabited α] {t e : Nat} {sz fuel : Nat} {v : Value} {x0 : DataW H × List MemPlace} (ht : P.underlying t = some (.slice e)) (hsz : P.cellsOf e = sz) (hpos : 0 < sz) (f : α → List Value) (Pr : α → Prop)
    (hel : ∀ n cs y, cs.length = sz → DataW.trod enc P w 0 (fun _ => true) true n e cs = some y → ∃ a, Pr a ∧ cs = f a)
    (hf : DataW.trod enc P w 0 (fun _ => true) true fuel t [v] = some x0) :
    ∃ A c, ∃ l : List α, v = .slice A l.length c ∧ l.length ≤ c ∧ c ≤ 9223372036854775807 ∧ (∀ a ∈ l, Pr a) ∧ ListAt w w.heap.size sz A (l.map f) := by
  obtain ⟨A, n, c, rfl⟩ : ∃ A n c, v = .slice A n c := by
    rcases open_slice ht hf with ⟨h0, _⟩ | ⟨a, len, cap, m, n', D, Pl, hcs, _⟩
    · exact ⟨none, 0, 0, by injection h0⟩
    · exact ⟨some a, len, cap, by injection hcs⟩
  rcases open_slice ht hf with ⟨h0, _⟩ | ⟨a, len, cap, m, n', D, Pl, hcs, hb, hl, hm, hmm, hx, hi⟩
  · simp only [List.cons.injEq, and_true] at h0
    injection h0 with h1 h2 h3
    subst h1; subst h2; subst h3
    exact ⟨none, 0, [], rfl, by simp, by simp, by simp, fun h => absurd h (by simp)⟩
  · simp only [List.cons.injEq, and_true] at hcs
    injection hcs with h1 h2 h3
    subst h1; subst h2; subst h3
    rw [if_pos rfl] at hmm
    have hlm : n ≤ m := by omega
    have each : ∀ i, i < n → ∃ x : α, Pr x ∧ ∃ cs, cs = f x ∧ cs.length = sz ∧ w.cells? 0 (a.add (i * sz)) sz = some cs := fun i hin => by
      obtain ⟨cs', hc, ht'⟩ := hi i (by omega)
      rw [hsz] at hc
      have hlen := (World.cells?_some hc).2.1
      obtain ⟨x, hp, hcs⟩ := hel n' cs' _ hlen ht'
      exact ⟨x, hp, cs', hcs, hlen, hc⟩
    obtain ⟨g, hg⟩ := choose_lt each
    refine ⟨some a, c, (List.range n).map g, by simp, by simpa using hl, by unfold maxLen at hm; simpa using hm, ?_, fun h0 => ?_⟩
    · intro x hx
      rw [List.mem_map] at hx
      obtain ⟨i, hi', rfl⟩ := hx
      exact (hg i (List.mem_range.1 hi')).1
    · have hn : 0 < n := by simpa using h0
      obtain ⟨_, cs0, hcs0, hlen0, hc0⟩ := hg 0 hn
      have h1 := (World.cells?_some hc0).2.2 0 hpos
      rw [Nat.zero_mul] at h1
      have hv0 : cs0[0]? = some cs0[0] := List.getElem?_eq_getElem (by omega)
      have ha : (a.add 0).add 0 = a := by simp [Addr.add]
      rw [ha, hv0] at h1
      obtain ⟨hlt, hsp⟩ := cell_lt h1
      obtain ⟨b, off, sp⟩ := a
      simp only at hsp hlt
      subst hsp
      refine ⟨b, off, rfl, hlt, fun j cs hj i v hiv => ?_⟩
      have hjn : j < n := by
        rcases Nat.lt_or_ge j n with h | h
        · exact h
        · rw [List.getElem?_eq_none (by simpa using h)] at hj; cases hj
      obtain ⟨_, cs1, hcs1, hlen1, hc1⟩ := hg j hjn
      have hcs : cs = cs1 := by
        simp [List.getElem?_map, List.getElem?_range, hjn] at hj
        rw [← hj, hcs1]
      subst hcs
      have hil : i < sz := by
        rcases Nat.lt_or_ge i cs.length with h | h
        · omega
        · rw [List.getElem?_eq_none h] at hiv; cases hiv
      have h2 := (World.cells?_some hc1).2.2 i hil
      rw [add_plain, add_plain] at h2
      rw [h2, hiv]
end
end Go.Proofs.Ytbddelefglhaaaa
namespace Go.Proofs.Ytbddelefglhaaaa
set_option linter.unusedVariables false
set_option linter.unusedSimpArgs false
set_option linter.unusedSectionVars false
open Go.RowKit Go.ChangeShapes Go.WideShapes Go.ChangeAt Go.Deep
theorem wf_i64p {x : Int} (h : Lit.wf (.int .i64 x) = true) : okI x := by
  simp only [Lit.wf, IntKind.min, IntKind.max, IntKind.signed, IntKind.bits] at h
  unfold okI
  simp at h
  omega
section
variable {H : Type} {enc : TypeId × Value → H} {w : World}
set_option maxRecDepth 100000 in
theorem open_swC {n : Nat} {cs : List Value} {y : DataW H × List MemPlace} (hlen : cs.length = 2) (h : DataW.trod enc Try.prog w 0 (fun _ => true) true n 72 cs = some y) : ∃ e : Int × ByteArray, okI e.1 ∧ cs = entC e := by
  have hf := struct_fields Try.underlying72 (by kernel_rfl) h
  obtain ⟨v0, _, _, e0, f0⟩ := hf 0 _ rfl (by omega)
  obtain ⟨v1, _, _, e1, f1⟩ := hf 1 _ rfl (by omega)
  obtain ⟨n0, hn0, _, w0⟩ := DataW.trod_int Try.underlying3 f0
  obtain ⟨n1, hn1, _, w1⟩ := DataW.trod_string Try.underlying9 f1
  injection hn0 with hn0 _
  injection hn1 with hn1 _
  subst hn0; subst hn1
  refine ⟨(n0, n1), wf_i64p w0, ?_⟩
  match cs, hlen with
  | [x0, x1], _ =>
    simp at e0 e1
    rw [e0, e1]
    rfl
set_option maxRecDepth 100000 in
theorem open_lsts {r : Reach} {b0 : Nat} {v : Value} {d : DataW H} {ps : List MemPlace} (hv : Value.okWide Try.prog w r b0 46 v) (hd : DataW.Trod enc Try.prog w 0 (fun _ => true) true 46 v d ps) :
    ∃ A c, ∃ l : List WsE, v = .slice A l.length c ∧ l.length ≤ c ∧ c ≤ 9223372036854775807 ∧ LstsAt w w.heap.size A l := by
  obtain ⟨A, c, l, rfl, h1, h2, h3, h4⟩ := open_list (α := WsE) (sz := 1) Try.underlying46 (by kernel_rfl) (by omega) wsC (fun x => WsOk w w.heap.size x.A x.l) (fun n cs y hlen h => by
    match cs, hlen with
    | [u], _ =>
      obtain ⟨A1, c1, l1, rfl, g1, g2, g3, g4⟩ := open_listF (α := Int × ByteArray) (sz := 2) Try.underlying29 (by kernel_rfl) (by omega) entC (fun e => okI e.1) (fun n cs y hlen h => open_swC hlen h) h
      exact ⟨⟨A1, c1, l1⟩, ⟨g4, Nat.le_trans g1 g2, g3⟩, rfl⟩) hv hd
  exact ⟨A, c, l, rfl, h1, h2, h3, h4⟩
end
end Go.Proofs.Ytbddelefglhaaaa
namespace Go.Proofs.Ytbddelefglhaaaa
set_option linter.unusedVariables false
set_option linter.unusedSimpArgs false
set_option linter.unusedSectionVars false
open Go.RowKit Go.ChangeShapes Go.WideShapes Go.ChangeAt Go.Deep
theorem wf_u16p {x : Int} (h : Lit.wf (.int .u16 x) = true) : 0 ≤ x ∧ x < 65536 := by
  simp only [Lit.wf, IntKind.min, IntKind.max, IntKind.signed, IntKind.bits] at h
  simp at h
  omega
theorem wf_u8p {x : Int} (h : Lit.wf (.int .u8 x) = true) : 0 ≤ x ∧ x < 256 := by
  simp only [Lit.wf, IntKind.min, IntKind.max, IntKind.signed, IntKind.bits] at h
  simp at h
  omega
section
variable {H : Type} {enc : TypeId × Value → H} {w : World}
set_option maxRecDepth 100000 in
theorem open_harmC {n : Nat} {cs : List Value} {y : DataW H × List MemPlace} (hlen : cs.length = 4) (h : DataW.trod enc Try.prog w 0 (fun _ => true) true n 122 cs = some y) : ∃ e : HarmD, e.ok ∧ cs = hC e := by
  have hf := struct_fields Try.underlying122 (by kernel_rfl) h
  obtain ⟨v0, _, _, e0, f0⟩ := hf 0 _ rfl (by omega)
  obtain ⟨v1, _, _, e1, f1⟩ := hf 1 _ rfl (by omega)
  obtain ⟨v2, _, _, e2, f2⟩ := hf 2 _ rfl (by omega)
  obtain ⟨v3, _, _, e3, f3⟩ := hf 3 _ rfl (by omega)
  obtain ⟨n0, hn0, _, w0⟩ := DataW.trod_int Try.underlying120 f0
  obtain ⟨n1, hn1, _, w1⟩ := DataW.trod_int Try.underlying120 f1
  obtain ⟨n2, hn2, _, w2⟩ := DataW.trod_int Try.underlying5 f2
  obtain ⟨n3, hn3, _, w3⟩ := DataW.trod_int Try.underlying5 f3
  injection hn0 with hn0 _
  injection hn1 with hn1 _
  injection hn2 with hn2 _
  injection hn3 with hn3 _
  subst hn0; subst hn1; subst hn2; subst hn3
  have b0 := wf_u16p w0
  have b1 := wf_u16p w1
  have b2 := wf_u8p w2
  have b3 := wf_u8p w3
  refine ⟨⟨n0.toNat, n1.toNat, n2.toNat, n3.toNat⟩, ⟨by show n0.toNat < _; omega, by show n1.toNat < _; omega, by show n2.toNat < _; omega, by show n3.toNat < _; omega⟩, ?_⟩
  match cs, hlen with
  | [x0, x1, x2, x3], _ =>
    simp at e0 e1 e2 e3
    rw [e0, e1, e2, e3]
    unfold hC
    simp only []
    rw [show ((n0.toNat : Nat) : Int) = n0 from by omega, show ((n1.toNat : Nat) : Int) = n1 from by omega, show ((n2.toNat : Nat) : Int) = n2 from by omega, show ((n3.toNat : Nat) : Int) = n3 from by omega]
set_option maxRecDepth 100000 in
theorem open_harms {r : Reach} {b0 : Nat} {v : Value} {d : DataW H} {ps : List MemPlace} (hv : Value.okWide Try.prog w r b0 59 v) (hd : DataW.Trod enc Try.prog w 0 (fun _ => true) true 59 v d ps) :
    ∃ A c, ∃ l : List HarmD, v = .slice A l.length c ∧ l.length ≤ c ∧ c ≤ 9223372036854775807 ∧ HarmsAt w w.heap.size A l := by
  obtain ⟨A, c, l, rfl, h1, h2, h3, h4⟩ := open_list (α := HarmD) (sz := 4) Try.underlying59 (by kernel_rfl) (by omega) hC HarmD.ok (fun n cs y hlen h => open_harmC hlen h) hv hd
  exact ⟨A, c, l, rfl, h1, h2, h3, h4⟩
end
end Go.Proofs.Ytbddelefglhaaaa
namespace Go.Proofs.Ytbddelefglhaaaa
set_option linter.unusedVariables false
set_option linter.unusedSimpArgs false
set_option linter.unusedSectionVars false
open Go.ChangeShapes Go.WideShapes Go.ChangeAt Go.RowKit
section
variable {H : Type} {enc : TypeId × Value → H} {P : Program}
theorem trodAll_stays (hl : laidOutB P = true) {W W' : World} {sp' : Nat → Bool} : ∀ {ts : List TypeId} {vs : List Value} {ds : List (DataW H)} {ps : List MemPlace},
    ts.all (fun t => P.readableRec t && decide (t < P.types.size)) = true →
    DataW.TrodAll enc P W 0 (fun _ => true) true ts vs ds ps → (∀ p ∈ ps, W.sameAt W' p) → (∀ p ∈ ps, sp' p.block = true) → DataW.TrodAll enc P W' 0 sp' true ts vs ds ps := by
  intro ts
  induction ts with
  | nil =>
    intro vs ds ps _ h _ _
    obtain ⟨rfl, rfl, rfl⟩ := trodAll_nil h
    exact rfl
  | cons t ts ih =>
    intro vs ds ps hts h hsame hs
    obtain ⟨v, vs', d, ds', p, q, rfl, rfl, rfl, h1, h2⟩ := trodAll_cons h
    rw [List.all_cons, Bool.and_eq_true, Bool.and_eq_true] at hts
    obtain ⟨⟨ht1, ht2⟩, ht3⟩ := hts
    exact trodAll_cons_mk (WideElems.Trod_stays hl ht1 (by simpa using ht2) h1 (fun x hx => hsame x (List.mem_append_left _ hx)) (fun x hx => hs x (List.mem_append_left _ hx)))
      (ih ht3 h2 (fun x hx => hsame x (List.mem_append_right _ hx)) (fun x hx => hs x (List.mem_append_right _ hx)))
theorem law_post {f : Func} {s : ChangeSpec} {apart fresh handsOn : Bool} {W W' : World} {args : Array Value} {ds gs : List (DataW H)} {before : List MemPlace} {tb : TypeId}
    (hl : laidOutB P = true) (hread : f.params.toList.all (fun t => P.readableRec t && decide (t < P.types.size)) = true) (hrt : f.resultTypes = #[tb]) (htb : P.underlying tb = some .bool) (hvars : s.vars = [])
    (hW : DataW.Whole enc P f.params.toList s.vars apart W args.toList ds gs before) (hfn : s.fn H (ds ++ gs) = { results := [.lit (.bool true)], args := ds }) (hg : Grew W W') :
    s.post enc P f apart fresh handsOn false W args (.bool true) W' := by
  have hlt : ∀ p ∈ before, p.block < W.heap.size := fun p hp => hW.lt p hp
  have hW0 := hW
  obtain ⟨p, q, hA, hV, rfl, hfz, hnd⟩ := hW
  rw [hvars] at hV
  obtain ⟨rfl, rfl⟩ := trodVars_none hV
  rw [List.append_nil] at hlt hW0
  have hA' := trodAll_stays hl (W' := W') (sp' := fun b => decide (b < W.heap.size)) hread hA (fun x hx => hg.same (hlt x hx)) (fun x hx => by simpa using hlt x hx)
  refine ⟨ds, [], p, [], p, [], hW0, ?_, ?_, ?_, ?_, fun h => by cases h⟩
  · rw [hfn, hrt]
    show DataW.TrodAll enc P W' _ (fun _ => false) handsOn [tb] [.bool true] [.lit (.bool true)] []
    exact trodAll_mk1 (shut_bool htb true)
  · rw [hfn]
    exact hA'
  · rw [hfn, hvars]
    exact rfl
  · exact hg.frame _
end
end Go.Proofs.Ytbddelefglhaaaa
