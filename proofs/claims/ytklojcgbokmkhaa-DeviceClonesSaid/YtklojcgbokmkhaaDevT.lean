/- Chapter 3: the reference's End. -/
import Derived.Test.YtklojcgbokmkhaaDevS
namespace Go.Proofs.Ytklojcgbokmkhaa
set_option linter.unusedVariables false
set_option linter.unusedSimpArgs false
set_option linter.unusedSectionVars false
open Go.RowKit
open Go.Maps (Keyed)
attribute [local go_sem ↓] Go.wp_at_zero Go.wp_at_succ
def prR (s : Int) (r : Wr) : Bool := decide (s = 0) || decide (r.sys = s)
def svR (all : Bool) (l : List Int) (k : Nat) : Nat := if all then 140 else svN l k
theorem svR_le (all : Bool) (l : List Int) (k : Nat) : svR all l k ≤ 140 := by unfold svR; split; omega; exact svN_le l k
theorem info_rwr : (Try.prog.info? 97).map (fun i => (i.zero, i.size, i.bytes)) = some (some (.agg #[.int .i64 0, .int .i64 0, .string ⟨#[]⟩]), 3, 32) := by kernel_rfl
theorem rv_one (p : RefP) (D : Dev) : (rv p D).all (·.oneCell') = true := by simp only [rv, List.all_toArray]; rfl
theorem wp_store_blk {P : Program} {o : Oper} {a : Act} {w : World} {K : Act → World → Prop} {Q : Exit → Act → World → Prop} (ty : TypeId) (x y : Operand) (ho : o.op = .store ty x y)
    (g : Nat) (cells : Array Value) (hx : a.eval x = .pointer (some ⟨g, 0, none⟩)) (hy : a.eval y = .agg cells) (t : TypeId) (old : Array Value) (hb : Blk w g t old) (hs : old.size = cells.size)
    (hi : (P.info? ty).map (·.size) = some cells.size) (h1 : cells.all (·.oneCell') = true)
    (h : K (a.put o.dst undef) (w.setRow g cells)) : o.wp P a w K Q := by
  unfold Oper.wp execOp
  simp only [ho, hx, hy, Instr.storeAt, Instr.sureAddr, Sem.run_bind, Sem.run_pure, Result.andThen_ok, run_storeVar_row w g t ty old cells hb hi hs h1]
  exact h
theorem Turned.ofGrown {w w' : World} {row : Option Nat} (hg : w.grownBy w' row) : Turned (fun k => row = some k) w w' := ⟨hg.os, hg.tape, hg.output, hg.size, fun k hk hs => hg.block k hk (fun e => hs e.symm)⟩
theorem endStep_no {p : Wr → Bool} {sv : Nat → Nat} {E : Dev} {c : Nat} {r : Wr} (h : p r = false) : endStep p sv (E, c) r = (E, c) := by unfold endStep; rw [h]; rfl
theorem endStep_yes {p : Wr → Bool} {sv : Nat → Nat} {E : Dev} {c : Nat} {r : Wr} (h : p r = true) : endStep p sv (E, c) r = (changeD E r.sec (cutW r (sv c) (E.at r.sec)), c + 1) := by unfold endStep; rw [h]; rfl
section
variable {w : World} {p : RefP} {D : Dev} (h : RefM w p D) (s : Int) (A : Option Addr) (c : Nat) (l : List Int) (all : Bool)
include h
set_option maxRecDepth 100000 in
set_option maxHeartbeats 8000000 in
theorem rend_any (hl : ListAt w w.heap.size 1 A (l.map intC)) (hlok : ∀ n ∈ l, okI n) (hcap : capOk l.length c) (hsmall : D.pend.length ≤ 1000000) :
    Calls Try.prog 47 #[.agg (rv p D), .int .i64 s, .slice A l.length c, .bool all] w fun e w' => ∃ p', e = .returned (.agg (rv p' (finishD D (prR s) (svR all l)))) ∧ RDid w w' p D p' (finishD D (prR s) (svR all l)) := by
  unfold capOk at hcap
  have hb := ((Blk.new w 32 (rv p D) rfl).alloc (.cells #[.slice none 0 0, .slice none 0 0, .slice none 0 0, .slice none 0 0, .bool false, .int .i64 0, .slice none 0 0] 32)).alloc (.cells #[] 97)
  have hr := (Blk.new (w.alloc (.cells (rv p D) 32)) 32 #[.slice none 0 0, .slice none 0 0, .slice none 0 0, .slice none 0 0, .bool false, .int .i64 0, .slice none 0 0] (n := w.heap.size + 1) (by simp)).alloc (.cells #[] 97)
  have hG0 := (((Grew.refl w).alloc (.cells (rv p D) 32)).alloc (.cells #[.slice none 0 0, .slice none 0 0, .slice none 0 0, .slice none 0 0, .bool false, .int .i64 0, .slice none 0 0] 32)).alloc (.cells #[] 97)
  have hE0 := OwnL.empty ((w.alloc (.cells (rv p D) 32)).alloc (.cells #[.slice none 0 0, .slice none 0 0, .slice none 0 0, .slice none 0 0, .bool false, .int .i64 0, .slice none 0 0] 32)) (w.heap.size + 2) 97 3 (by simp) (n := w.heap.size + 2) (by simp)
  have HH := Lib.hid h
  have HKEPT := fun j => Lib.hid (runEnd_kept h.ok (prR s) (svR all l) (svR_le all l) (D.pend.take j) (fun r hr => List.mem_of_mem_take hr))
  have HPOK := Lib.hid h.ok.pend
  have hdl : D.st.length ≤ 1155 := h.ok.lim
  have HLOK := Lib.hid hlok
  have HFIN := Lib.hid (show finishD D (prR s) (svR all l) = { (runEnd D (prR s) (svR all l) D.pend).1 with pend := D.pend.filter fun r => !(prR s) r } from rfl)
  obtain ⟨w1, hw1⟩ : ∃ w1, w1 = ((w.alloc (.cells (rv p D) 32)).alloc (.cells #[.slice none 0 0, .slice none 0 0, .slice none 0 0, .slice none 0 0, .bool false, .int .i64 0, .slice none 0 0] 32)).alloc (.cells #[] 97) := ⟨_, rfl⟩
  rw [← hw1] at hb hr hG0 hE0
  have hz1 : w1.heap.size = w.heap.size + 3 := by rw [hw1]; simp
  have HLS := Lib.hid hl
  have HG0 := Lib.hid hG0
  have HH1 := Lib.hid (h.grew hG0)
  have HE0 := Lib.hid hE0
  have HB := Lib.hid hb
  have HR := Lib.hid hr
  unfold rv at hw1 ⊢
  clear h hl hlok hb hr hG0 hE0
  go_enter Try.func47, Try.ntmps47
  go_wp2_with fail
  rw [← hw1]
  clear hw1
  go_loopg [9, 10, 11] D.pend.length (fun gk left kv iv wr => ∃ (j : Nat) (p' : RefP), j ≤ D.pend.length ∧ gk = D.pend.length - j ∧ iv = .int .i64 (j : Int) ∧ kv = .int .i64 ((runEnd D (prR s) (svR all l) (D.pend.take j)).2 : Int) ∧ OwnL wr (w.heap.size + 2) 97 3 left (((D.pend.take j).filter fun r => !(prR s) r).map wrC) ∧
    Blk wr w.heap.size 32 (rv p' (runEnd D (prR s) (svR all l) (D.pend.take j)).1) ∧ Blk wr (w.heap.size + 1) 32 #[.slice none 0 0, .slice none 0 0, .slice none 0 0, .slice none 0 0, .bool false, .int .i64 0, .slice none 0 0] ∧ RefM wr p' (runEnd D (prR s) (svR all l) (D.pend.take j)).1 ∧ Grew w wr ∧ (∀ k, p'.feet (runEnd D (prR s) (svR all l) (D.pend.take j)).1 k → (p.feet D k ∨ w.heap.size ≤ k) ∧ left.ownBlock ≠ some k ∧ k ≠ w.heap.size ∧ k ≠ w.heap.size + 1))
  case atStart => exact ⟨0, p, Nat.zero_le _, rfl, rfl, rfl, HE0.out, HB.out, HR.out, HH1.out, HG0.out, fun k hk => ⟨.inl hk, by have := HH.out.lt k hk; exact own_ne _ _ (by omega), by have := HH.out.lt k hk; omega, by have := HH.out.lt k hk; omega⟩⟩
  case round =>
    obtain ⟨j, p', hj, hgk, rfl, rfl, hown, hbr, hrr, hd, hg, hft⟩ := hrel
    have HFE := Lib.hid hft
    have HGK := Lib.hid hgk
    have HD := Lib.hid hd
    have HG := Lib.hid hg
    have HRR := Lib.hid hrr
    have HOWN := Lib.hid hown
    have HBR := Lib.hid hbr
    have hxr := hbr.lt
    have hyr := hrr.lt
    have hz := hg.size
    have hk' := (HKEPT j).out
    have hpe := hk'.pend
    have hel := hk'.len
    clear hgk hg hrr hown hft
    by_cases hlt : j < D.pend.length
    · have hpl := hd.pend
      have hcp2 := hd.cap2
      have hcp0 := hd.cap0
      rw [hpe] at hpl hcp2
      rw [hel] at hcp0
      unfold capOk at hcp2 hcp0
      obtain ⟨b, off, hA2, hbb, z0, z1, z2⟩ := wr_at hpl hlt
      have HPJ := Lib.hid (HPOK.out D.pend[j] (List.getElem_mem hlt))
      have HSN := Lib.hid (runEnd_snoc D (prR s) (svR all l) D.pend j hlt)
      have hcnt := runEnd_cnt D (prR s) (svR all l) (D.pend.take j)
      have hcl : (runEnd D (prR s) (svR all l) (D.pend.take j)).2 ≤ j := by rw [hcnt]; exact Nat.le_trans (List.length_filter_le _ _) (by rw [List.length_take]; omega)
      have x2 := hbr.cell 2
      unfold rv at x2
      rw [hpe, hA2] at x2
      clear hcnt hbr hpl hd
      obtain ⟨r, hr0⟩ : ∃ r, D.pend[j] = r := ⟨_, rfl⟩
      have HR0 := Lib.hid hr0
      rw [hr0] at z0 z1 z2 HPJ HSN
      clear hr0
      generalize hE : runEnd D (prR s) (svR all l) (D.pend.take j) = E at *
      obtain ⟨E, cnt⟩ := E
      simp only at hcl hk' hel hpe x2 HFE
      have HE := Lib.hid hE
      clear hE
      go_upto_region 7 with fail
      have hba := HBR.out.alloc (.cells #[.int .i64 r.sys, .int .i64 (r.sec : Int), .string r.data] 97)
      have hva := Blk.new wr 97 #[.int .i64 r.sys, .int .i64 (r.sec : Int), .string r.data] rfl
      have hda := HD.out.grew ((Grew.refl wr).alloc (.cells #[.int .i64 r.sys, .int .i64 (r.sec : Int), .string r.data] 97))
      have hga := HG.out.alloc (.cells #[.int .i64 r.sys, .int .i64 (r.sec : Int), .string r.data] 97)
      have hra := HRR.out.alloc (.cells #[.int .i64 r.sys, .int .i64 (r.sec : Int), .string r.data] 97)
      have howna := HOWN.out.alloc (.cells #[.int .i64 r.sys, .int .i64 (r.sec : Int), .string r.data] 97)
      obtain ⟨wa, hwa⟩ : ∃ wa, wa = wr.alloc (.cells #[.int .i64 r.sys, .int .i64 (r.sec : Int), .string r.data] 97) := ⟨_, rfl⟩
      rw [← hwa] at hba hva hda hga hra howna ⊢
      have HBA := Lib.hid hba
      have HVA := Lib.hid hva
      have HDA := Lib.hid hda
      have HGA := Lib.hid hga
      have HRA := Lib.hid hra
      have HOA := Lib.hid howna
      have hval := hva.lt
      have hxa := hba.lt
      have hya := hra.lt
      clear hwa z0 z1 z2 x2 hba hva hda hga hra howna HBR HD HG HRR HOWN
      go_cut [1, 26, 34] (fun sl rl m wx => sl = .int .i64 s ∧ rl = .agg #[.int .i64 r.sys, .int .i64 (r.sec : Int), .string r.data] ∧ m = .bool (!(prR s r)) ∧ wa = wx)
      case first =>
        have v0 := HVA.out.cell 0
        by_cases h0 : s = 0
        · have hq : prR s r = true := by unfold prR; rw [decide_eq_true h0]; rfl
          have hb0 : (s == 0) = true := by rw [h0]; rfl
          have hb0' : (s != 0) = false := by rw [h0]; rfl
          have HQ := Lib.hid hq
          have H0 := Lib.hid h0
          clear hq h0
          go_wp2_with fail
          go_meet
          exact ⟨by rw [H0.out], rfl, by rw [HQ.out]; first | done | rfl, rfl⟩
        · have hb0 : (s == 0) = false := beq_eq_false_iff_ne.2 h0
          have hb0' : (s != 0) = true := bne_iff_ne.2 h0
          by_cases h1 : r.sys = s
          · have hq : prR s r = true := by unfold prR; rw [decide_eq_true h1, Bool.or_true]
            have hb1 : (r.sys == s) = true := by rw [h1]; exact beq_self_eq_true _
            have hb1' : (r.sys != s) = false := by rw [h1]; simp
            have HQ := Lib.hid hq
            have H1 := Lib.hid h1
            clear hq h0 h1
            go_wp2_with fail
            go_meet
            exact ⟨rfl, by rw [H1.out], by rw [HQ.out]; first | done | rfl, rfl⟩
          · have hq : prR s r = false := by unfold prR; rw [decide_eq_false h1, decide_eq_false h0]; rfl
            have hb1 : (r.sys == s) = false := beq_eq_false_iff_ne.2 h1
            have hb1' : (r.sys != s) = true := bne_iff_ne.2 h1
            have HQ := Lib.hid hq
            clear hq h0 h1
            go_wp2_with fail
            go_meet
            exact ⟨rfl, rfl, by rw [HQ.out]; first | done | rfl, rfl⟩
      case rest =>
        obtain ⟨rfl, rfl, rfl, rfl⟩ := hcut
        cases hq : prR s r with
        | false =>
          simp only [Bool.not_false]
          have HQ := Lib.hid hq
          have HST := Lib.hid (endStep_no (sv := svR all l) (E := E) (c := cnt) hq)
          have HFT := Lib.hid (take_filter_false (prR s) D.pend j hlt (by rw [HR0.out]; exact hq))
          have hfl : ((D.pend.take j).filter fun r => !(prR s) r).length ≤ j := Nat.le_trans (List.length_filter_le _ _) (by rw [List.length_take]; omega)
          have v0 := HVA.out.cell 0
          have v1 := HVA.out.cell 1
          have v2 := HVA.out.cell 2
          clear hq
          go_wp2_with (at_builtin; (refine wpList_push2 rfl _ _ 29 rfl (w.heap.size + 2) 97 3 32 _ Try.underlying29 info_rwr rfl (by decide) _ _ (((D.pend.take j).filter fun r => !(prR s) r).map wrC) (wrC r) rfl rfl (HOA.out.alloc _) wa.heap.size (by rfl) (Blk.new _ _ _ rfl) rfl (by rw [wrC_len]; omega) (by rw [wrC_len]; omega) (by simp; omega) _ (wrC_len _) ?_); intro g5 c5 w5 hown5 hgr5 hat5 hlt5)
          have hg5 := Grew.own (HGA.out.alloc (.cells #[.int .i64 r.sys, .int .i64 (r.sec : Int), .string r.data] 97)) hgr5 HOA.out.row_ge (by omega)
          have hbx5 := (HBA.out.alloc (.cells #[.int .i64 r.sys, .int .i64 (r.sec : Int), .string r.data] 97)).own hgr5 (fun e => by have := HOA.out.row_ge _ e; omega)
          have hrx5 := (HRA.out.alloc (.cells #[.int .i64 r.sys, .int .i64 (r.sec : Int), .string r.data] 97)).own hgr5 (fun e => by have := HOA.out.row_ge _ e; omega)
          have hda5 := HDA.out.grew ((Grew.refl wa).alloc (.cells #[.int .i64 r.sys, .int .i64 (r.sec : Int), .string r.data] 97))
          have hd5 := hda5.turned (Turned.ofGrown hgr5) (fun k hk => (HFE.out k hk).2.1)
          have hft5 : ∀ k, p'.feet E k → (p.feet D k ∨ w.heap.size ≤ k) ∧ (Value.slice (some ⟨g5, 0, none⟩) (((D.pend.take j).filter fun r => !(prR s) r).length + 1) c5).ownBlock ≠ some k ∧ k ≠ w.heap.size ∧ k ≠ w.heap.size + 1 := fun k hk => by
            obtain ⟨h1, h2, h3⟩ := HFE.out k hk
            refine ⟨h1, fun e => ?_, h3⟩
            rcases hat5 with h9 | h9
            · exact h2 (h9.trans e)
            · have := hda5.lt k hk
              injection e with e
              have e' : g5 = k := e
              have hz9 : (wa.alloc (.cells #[.int .i64 r.sys, .int .i64 (r.sec : Int), .string r.data] 97)).heap.size = g5 := h9.symm
              omega
          go_roundg (D.pend.length - (j + 1))
          case measure => rw [HGK.out]; omega
          case rel => exact ⟨j + 1, p', by omega, by omega, by go_num, by rw [HSN.out, HST.out], by rw [HFT.out, HR0.out, List.map_append]; exact hown5, by rw [HSN.out, HST.out]; exact hbx5, hrx5, by rw [HSN.out, HST.out]; exact hd5, hg5, by rw [HSN.out, HST.out]; exact hft5⟩
        | true =>
          simp only [Bool.not_true]
          have HQ := Lib.hid hq
          have HST := Lib.hid (endStep_yes (sv := svR all l) (E := E) (c := cnt) hq)
          have HFT := Lib.hid (take_filter_true (prR s) D.pend j hlt (by rw [HR0.out]; exact hq))
          clear hq
          go_upto_if 42 with fail
          go_cut [13] (fun m wx => m = .int .i64 (svN l cnt : Int) ∧ wa = wx)
          case first =>
            obtain ⟨n, hn⟩ : ∃ n, svN l cnt = n := ⟨_, rfl⟩
            have hn140 : n ≤ 140 := by rw [← hn]; exact svN_le l cnt
            by_cases hc : cnt < l.length
            · obtain ⟨b3, off3, rfl, hb3, s0⟩ := int_at (HLS.out.on HGA.out) hc
              have hnv : n = (min (max 0 l[cnt]) 140).toNat := by rw [← hn]; unfold svN; rw [List.getD_eq_getElem?_getD, List.getElem?_eq_getElem hc]; rfl
              have hlo := HLOK.out l[cnt] (List.getElem_mem hc)
              unfold okI at hlo
              have HN := Lib.hid hn
              clear hn
              generalize l[cnt] = u at *
              by_cases h1 : u ≤ 0
              · obtain rfl : n = 0 := by omega
                clear hnv
                rcases Int.lt_or_eq_of_le h1 with h2 | rfl
                · go_wp2_with fail
                  go_meet
                  exact ⟨by rw [HN.out]; first | done | rfl, rfl⟩
                · go_wp2_with fail
                  go_meet
                  exact ⟨by rw [HN.out]; first | done | rfl, rfl⟩
              · by_cases h2 : u < 140
                · obtain rfl : u = (n : Int) := by omega
                  clear hnv
                  go_wp2_with fail
                  go_meet
                  exact ⟨by rw [HN.out]; first | done | rfl, rfl⟩
                · obtain rfl : n = 140 := by omega
                  clear hnv
                  rcases Int.lt_or_eq_of_le (show (140 : Int) ≤ u by omega) with h3 | rfl
                  · go_wp2_with fail
                    go_meet
                    exact ⟨by rw [HN.out]; first | done | rfl, rfl⟩
                  · go_wp2_with fail
                    go_meet
                    exact ⟨by rw [HN.out]; first | done | rfl, rfl⟩
            · obtain rfl : n = 0 := by rw [← hn]; unfold svN; rw [List.getD_eq_getElem?_getD, List.getElem?_eq_none (by omega)]; rfl
              have HN := Lib.hid hn
              clear hn
              go_wp2_with fail
              go_meet
              exact ⟨by rw [HN.out]; first | done | rfl, rfl⟩
          case rest =>
            obtain ⟨rfl, rfl⟩ := hcut
            go_upto_if 49 with fail
            go_cut [13] (fun m wx => m = .int .i64 (svR all l cnt : Int) ∧ wa = wx)
            case first =>
              cases all
              · go_wp2_with fail
                go_meet
                exact ⟨rfl, rfl⟩
              · go_wp2_with fail
                go_meet
                exact ⟨rfl, rfl⟩
            case rest =>
              obtain ⟨rfl, rfl⟩ := hcut
              go_wp2_with fail
              obtain ⟨hsec, hdsz, _⟩ := HPJ.out
              obtain ⟨n, hn⟩ : ∃ n, svR all l cnt = n := ⟨_, rfl⟩
              have hn140 : n ≤ 140 := by rw [← hn]; exact svR_le all l cnt
              rw [hn] at HST ⊢
              have hsecE : r.sec < E.st.length := by rw [hel]; exact hsec
              have hat := at_size hk'.ok hsecE
              have HSZ := Lib.hid (cutW_size (r := r) (n := n) hdsz hat hn140)
              have HCH := Lib.hid (rchange_any (w := wa.drew) (HDA.out.grew ((Grew.refl wa).drew)) r.sec hsecE (cutW r n (E.at r.sec)) HSZ.out)
              obtain ⟨b0, off0, hA0, hb0, y0⟩ := str_at HDA.out.st hsecE
              rw [← Dev.at_get hsecE] at y0
              have HCW := Lib.hid (show r.data.extract 0 n ++ (E.at r.sec).extract n (E.at r.sec).size = cutW r n (E.at r.sec) from rfl)
              obtain ⟨E2, hE2⟩ : ∃ E2, changeD E r.sec (cutW r n (E.at r.sec)) = E2 := ⟨_, rfl⟩
              rw [hE2] at HCH HST
              have hds1 : n ≤ r.data.size := by omega
              have hds2 : n ≤ (E.at r.sec).size := by omega
              have hds3 : r.data.size ≤ 140 := by omega
              have hds4 : (E.at r.sec).size ≤ 140 := by omega
              have hcp0E := HDA.out.cap0
              unfold capOk at hcp0E
              have hb9 := HBA.out
              unfold rv at hb9 HCH
              rw [hA0] at hb9 HCH
              have v1 := HVA.out.cell 1
              have v2 := HVA.out.cell 2
              have hS := (show (fun w' : World => (w'.cell? ⟨w.heap.size, 0, none⟩ = some (.slice (some ⟨b0, off0, none⟩) E.st.length p'.c0) ∧ w'.cell? ⟨w.heap.size, 1, none⟩ = some (.slice p'.A1 E.st.length p'.c1) ∧ w'.cell? ⟨w.heap.size, 2, none⟩ = some (.slice p'.A2 E.pend.length p'.c2) ∧ w'.cell? ⟨w.heap.size, 3, none⟩ = some (.slice p'.A3 5 p'.c3) ∧ w'.cell? ⟨w.heap.size, 4, none⟩ = some (.bool E.failed) ∧ w'.cell? ⟨w.heap.size, 5, none⟩ = some (.int .i64 p'.fu) ∧ w'.cell? ⟨w.heap.size, 6, none⟩ = some (.slice p'.A6 p'.svl.length p'.c6)) ∧ w'.cell? ⟨wr.heap.size, 1, none⟩ = some (.int .i64 (r.sec : Int)) ∧ w'.cell? ⟨wr.heap.size, 2, none⟩ = some (.string r.data) ∧ w'.cell? ⟨b0, off0 + r.sec, none⟩ = some (.string (E.at r.sec))) wa.drew from ⟨⟨hb9.cell 0, hb9.cell 1, hb9.cell 2, hb9.cell 3, hb9.cell 4, hb9.cell 5, hb9.cell 6⟩, v1, v2, y0⟩)
              have HEL := Lib.hid hel
              have HPE := Lib.hid hpe
              clear hb9 hat hdsz hn v1 v2 y0 hel hpe hA2
              generalize E.at r.sec = a at *
              refine wp_region_R [16, 17] (fun w' : World => (w'.cell? ⟨w.heap.size, 0, none⟩ = some (.slice (some ⟨b0, off0, none⟩) E.st.length p'.c0) ∧ w'.cell? ⟨w.heap.size, 1, none⟩ = some (.slice p'.A1 E.st.length p'.c1) ∧ w'.cell? ⟨w.heap.size, 2, none⟩ = some (.slice p'.A2 E.pend.length p'.c2) ∧ w'.cell? ⟨w.heap.size, 3, none⟩ = some (.slice p'.A3 5 p'.c3) ∧ w'.cell? ⟨w.heap.size, 4, none⟩ = some (.bool E.failed) ∧ w'.cell? ⟨w.heap.size, 5, none⟩ = some (.int .i64 p'.fu) ∧ w'.cell? ⟨w.heap.size, 6, none⟩ = some (.slice p'.A6 p'.svl.length p'.c6)) ∧ w'.cell? ⟨wr.heap.size, 1, none⟩ = some (.int .i64 (r.sec : Int)) ∧ w'.cell? ⟨wr.heap.size, 2, none⟩ = some (.string r.data) ∧ w'.cell? ⟨b0, off0 + r.sec, none⟩ = some (.string a)) (by kernel_rfl) ?_
              refine wpAnyR_take (i := 0) (v := ?_) [16, 17] (some 52) rfl rfl (by kernel_rfl) (by kernel_rfl) (by kernel_rfl) (by kernel_rfl) (by kernel_rfl) (by kernel_rfl) (by kernel_rfl) (fun _ _ _ h => h) (Or.inl ⟨by rfl, ?_⟩) hS ?_
              rotate_left
              focus (intro wS hSw; (try dsimp only at hSw); go_simp; (try with_reducible rfl); (try (first | (rw [if_pos (by omega)]; (try go_simp); (try with_reducible rfl)) | (rw [if_neg (by omega)]; (try go_simp); (try with_reducible rfl)))))
              try simp only [Act.put, List.setIfInBounds_toArray, List.set_cons_zero, List.set_cons_succ]
              refine wpAnyR_takeQ (i := 1) (v := ?_) (some 53) rfl rfl (by kernel_rfl) (by kernel_rfl) (by kernel_rfl) (by kernel_rfl) (fun _ _ _ h => h) (Or.inl ⟨by rfl, ?_⟩) ?_
              rotate_left
              focus (intro wS hSw; (try dsimp only at hSw); go_simp; (try with_reducible rfl); (try (first | (rw [if_pos (by omega)]; (try go_simp); (try with_reducible rfl)) | (rw [if_neg (by omega)]; (try go_simp); (try with_reducible rfl)))))
              try simp only [Act.put, List.setIfInBounds_toArray, List.set_cons_zero, List.set_cons_succ]
              refine wpAnyR_take (i := 2) (v := ?_) [16, 17] (some 54) rfl rfl (by kernel_rfl) (by kernel_rfl) (by kernel_rfl) (by kernel_rfl) (by kernel_rfl) (by kernel_rfl) (by kernel_rfl) (fun _ _ _ h => h) (Or.inl ⟨by rfl, ?_⟩) hS ?_
              rotate_left
              focus (intro wS hSw; (try dsimp only at hSw); go_simp; (try with_reducible rfl); (try (first | (rw [if_pos (by omega)]; (try go_simp); (try with_reducible rfl)) | (rw [if_neg (by omega)]; (try go_simp); (try with_reducible rfl)))))
              try simp only [Act.put, List.setIfInBounds_toArray, List.set_cons_zero, List.set_cons_succ]
              refine wpAnyR_takeQ (i := 3) (v := ?_) (some 55) rfl rfl (by kernel_rfl) (by kernel_rfl) (by kernel_rfl) (by kernel_rfl) (fun _ _ _ h => h) (Or.inl ⟨by rfl, ?_⟩) ?_
              rotate_left
              focus (intro wS hSw; (try dsimp only at hSw); go_simp; (try with_reducible rfl); (try (first | (rw [if_pos (by omega)]; (try go_simp); (try with_reducible rfl)) | (rw [if_neg (by omega)]; (try go_simp); (try with_reducible rfl)))))
              try simp only [Act.put, List.setIfInBounds_toArray, List.set_cons_zero, List.set_cons_succ]
              refine wpAnyR_take (i := 4) (v := ?_) [6, 15, 16, 17] (some 56) rfl rfl (by kernel_rfl) (by kernel_rfl) (by kernel_rfl) (by kernel_rfl) (by kernel_rfl) (by kernel_rfl) (by kernel_rfl) (fun _ _ _ h => h) (Or.inl ⟨by rfl, ?_⟩) hS ?_
              rotate_left
              focus (intro wS hSw; (try dsimp only at hSw); go_simp; (try with_reducible rfl); (try (first | (rw [if_pos (by omega)]; (try go_simp); (try with_reducible rfl)) | (rw [if_neg (by omega)]; (try go_simp); (try with_reducible rfl)))))
              try simp only [Act.put, List.setIfInBounds_toArray, List.set_cons_zero, List.set_cons_succ]
              refine wpAnyR_takeQ (i := 5) (v := ?_) (some 57) rfl rfl (by kernel_rfl) (by kernel_rfl) (by kernel_rfl) (by kernel_rfl) (fun _ _ _ h => h) (Or.inl ⟨by rfl, ?_⟩) ?_
              rotate_left
              focus (intro wS hSw; (try dsimp only at hSw); go_simp; (try with_reducible rfl); (try (first | (rw [if_pos (by omega)]; (try go_simp); (try with_reducible rfl)) | (rw [if_neg (by omega)]; (try go_simp); (try with_reducible rfl)))))
              try simp only [Act.put, List.setIfInBounds_toArray, List.set_cons_zero, List.set_cons_succ]
              refine wpAnyR_takeQ (i := 6) (v := ?_) (some 58) rfl rfl (by kernel_rfl) (by kernel_rfl) (by kernel_rfl) (by kernel_rfl) (fun _ _ _ h => h) (Or.inl ⟨by rfl, ?_⟩) ?_
              rotate_left
              focus (intro wS hSw; (try dsimp only at hSw); go_simp; (try with_reducible rfl); (try (first | (rw [if_pos (by omega)]; (try go_simp); (try with_reducible rfl)) | (rw [if_neg (by omega)]; (try go_simp); (try with_reducible rfl)))))
              try simp only [Act.put, List.setIfInBounds_toArray, List.set_cons_zero, List.set_cons_succ]
              refine wpAnyR_takeQ (i := 7) (v := ?_) (some 59) rfl rfl (by kernel_rfl) (by kernel_rfl) (by kernel_rfl) (by kernel_rfl) (fun _ _ _ h => h) (Or.inl ⟨by rfl, ?_⟩) ?_
              rotate_left
              focus (intro wS hSw; (try dsimp only at hSw); go_simp; (try with_reducible rfl); (try (first | (rw [if_pos (by omega)]; (try go_simp); (try with_reducible rfl)) | (rw [if_neg (by omega)]; (try go_simp); (try with_reducible rfl)))))
              try simp only [Act.put, List.setIfInBounds_toArray, List.set_cons_zero, List.set_cons_succ]
              refine wpAnyR_take (i := 8) (v := ?_) [11, 12, 14, 15, 16, 17] (some 60) rfl rfl (by kernel_rfl) (by kernel_rfl) (by kernel_rfl) (by kernel_rfl) (by kernel_rfl) (by kernel_rfl) (by kernel_rfl) (fun _ _ _ h => h) (Or.inl ⟨by rfl, ?_⟩) hS ?_
              rotate_left
              focus (intro wS hSw; (try dsimp only at hSw); go_simp; (try with_reducible rfl); (try (first | (rw [if_pos (by omega)]; (try go_simp); (try with_reducible rfl)) | (rw [if_neg (by omega)]; (try go_simp); (try with_reducible rfl)))))
              try simp only [Act.put, List.setIfInBounds_toArray, List.set_cons_zero, List.set_cons_succ]
              refine wpAnyR_takeQ (i := 9) (v := ?_) (some 61) rfl rfl (by kernel_rfl) (by kernel_rfl) (by kernel_rfl) (by kernel_rfl) (fun _ _ _ h => h) (Or.inl ⟨by rfl, ?_⟩) ?_
              rotate_left
              focus (intro wS hSw; (try dsimp only at hSw); go_simp; (try with_reducible rfl); (try (first | (rw [if_pos (by omega)]; (try go_simp); (try with_reducible rfl)) | (rw [if_neg (by omega)]; (try go_simp); (try with_reducible rfl)))))
              try simp only [Act.put, List.setIfInBounds_toArray, List.set_cons_zero, List.set_cons_succ]
              refine wpAnyR_take (i := 10) (v := ?_) [11, 12, 14, 15, 16, 17] (some 62) rfl rfl (by kernel_rfl) (by kernel_rfl) (by kernel_rfl) (by kernel_rfl) (by kernel_rfl) (by kernel_rfl) (by kernel_rfl) (fun _ _ _ h => h) (Or.inl ⟨by rfl, ?_⟩) hS ?_
              rotate_left
              focus (intro wS hSw; (try dsimp only at hSw); go_simp; (try with_reducible rfl); (try (first | (rw [if_pos (by omega)]; (try go_simp); (try with_reducible rfl)) | (rw [if_neg (by omega)]; (try go_simp); (try with_reducible rfl)))))
              try simp only [Act.put, List.setIfInBounds_toArray, List.set_cons_zero, List.set_cons_succ]
              refine wpAnyR_takeQ (i := 11) (v := ?_) (some 63) rfl rfl (by kernel_rfl) (by kernel_rfl) (by kernel_rfl) (by kernel_rfl) (fun _ _ _ h => h) (Or.inl ⟨by rfl, ?_⟩) ?_
              rotate_left
              focus (intro wS hSw; (try dsimp only at hSw); go_simp; (try with_reducible rfl); (try (first | (rw [if_pos (by omega)]; (try go_simp); (try with_reducible rfl)) | (rw [if_neg (by omega)]; (try go_simp); (try with_reducible rfl)))))
              try simp only [Act.put, List.setIfInBounds_toArray, List.set_cons_zero, List.set_cons_succ]
              refine wpAnyR_take (i := 12) (v := ?_) [14, 15, 16, 17] (some 64) rfl rfl (by kernel_rfl) (by kernel_rfl) (by kernel_rfl) (by kernel_rfl) (by kernel_rfl) (by kernel_rfl) (by kernel_rfl) (fun _ _ _ h => h) (Or.inl ⟨by rfl, ?_⟩) hS ?_
              rotate_left
              focus (intro wS hSw; (try dsimp only at hSw); go_simp; (try with_reducible rfl); (try (first | (rw [if_pos (by omega)]; (try go_simp); (try with_reducible rfl)) | (rw [if_neg (by omega)]; (try go_simp); (try with_reducible rfl)))))
              try simp only [Act.put, List.setIfInBounds_toArray, List.set_cons_zero, List.set_cons_succ]
              refine wpAnyR_takeQ (i := 13) (v := ?_) (some 65) rfl rfl (by kernel_rfl) (by kernel_rfl) (by kernel_rfl) (by kernel_rfl) (fun _ _ _ h => h) (Or.inl ⟨by rfl, ?_⟩) ?_
              rotate_left
              focus (intro wS hSw; (try dsimp only at hSw); go_simp; (try with_reducible rfl); (try (first | (rw [if_pos (by omega)]; (try go_simp); (try with_reducible rfl)) | (rw [if_neg (by omega)]; (try go_simp); (try with_reducible rfl)))))
              try simp only [Act.put, List.setIfInBounds_toArray, List.set_cons_zero, List.set_cons_succ]
              refine wpAnyR_takeQ (i := 14) (v := ?_) (some 66) rfl rfl (by kernel_rfl) (by kernel_rfl) (by kernel_rfl) (by kernel_rfl) (fun _ _ _ h => h) (Or.inl ⟨by rfl, ?_⟩) ?_
              rotate_left
              focus (intro wS hSw; (try dsimp only at hSw); go_simp; (try with_reducible rfl); (try (first | (rw [if_pos (by omega)]; (try go_simp); (try with_reducible rfl)) | (rw [if_neg (by omega)]; (try go_simp); (try with_reducible rfl)))))
              try simp only [Act.put, List.setIfInBounds_toArray, List.set_cons_zero, List.set_cons_succ]
              refine wpAnyR_takeQ (i := 15) (v := ?_) (some 67) rfl rfl (by kernel_rfl) (by kernel_rfl) (by kernel_rfl) (by kernel_rfl) (fun _ _ _ h => h) (Or.inl ⟨by rfl, ?_⟩) ?_
              rotate_left
              focus (intro wS hSw; (try dsimp only at hSw); go_simp; (try with_reducible rfl); (try (first | (rw [if_pos (by omega)]; (try go_simp); (try with_reducible rfl)) | (rw [if_neg (by omega)]; (try go_simp); (try with_reducible rfl)))))
              try simp only [Act.put, List.setIfInBounds_toArray, List.set_cons_zero, List.set_cons_succ]
              try rw [HCW.out]
              refine wpAnyR_n1 (i := 16) rfl (by kernel_rfl) ?_
              intro K' hK
              rw [if_pos (by rfl)]
              simp only [List.getElem_toArray, List.getElem_cons_succ, List.getElem_cons_zero]
              go_wp2_with fail
              refine HCH.out.mono ?_
              rintro e w3 ⟨p3, rfl, hd3⟩
              go_wp2_with fail
              refine hK.out _ _ (.inl rfl) ?_
              clear hK hS
              have hb3 := (HBA.out.drew).grew hd3.grew
              have hr3 := (HRA.out.drew).grew hd3.grew
              have ho3 := (HOA.out.drew).grew hd3.grew
              have hg3 := HGA.out.drew.trans hd3.grew
              have HD3 := Lib.hid hd3
              have HB3 := Lib.hid hb3
              have hx3 := hb3.lt
              unfold rv at hb3
              clear hd3
              refine wpAnyR_n1 (i := 17) rfl (by kernel_rfl) ?_
              intro K' hK
              rw [if_pos (by rfl)]
              simp only [List.getElem_toArray, List.getElem_cons_succ, List.getElem_cons_zero]
              refine wp_store_blk 32 _ _ rfl w.heap.size (rv p3 E2) rfl rfl 32 _ hb3 rfl info_rdev (rv_one _ _) ?_
              simp only [Act.put]
              refine hK.out _ _ (.inl rfl) ?_
              clear hK
              refine wpAnyR_done (by kernel_rfl) ?_ _
              have ht4 : ∀ W, Turned (fun k => k = w.heap.size) w3 W → Blk W w.heap.size 32 (rv p3 E2) → RefM W p3 E2 ∧ OwnL W (w.heap.size + 2) 97 3 u9 (((D.pend.take j).filter fun r => !(prR s) r).map wrC) ∧ Blk W (w.heap.size + 1) 32 #[.slice none 0 0, .slice none 0 0, .slice none 0 0, .slice none 0 0, .bool false, .int .i64 0, .slice none 0 0] ∧ Grew w W ∧ (∀ k, p3.feet E2 k → (p.feet D k ∨ w.heap.size ≤ k) ∧ u9.ownBlock ≠ some k ∧ k ≠ w.heap.size ∧ k ≠ w.heap.size + 1) := by
                intro W hW hBW
                have hsz : wa.drew.heap.size = wa.heap.size := rfl
                have hfe : ∀ k, p3.feet E2 k → (p.feet D k ∨ w.heap.size ≤ k) ∧ u9.ownBlock ≠ some k ∧ k ≠ w.heap.size ∧ k ≠ w.heap.size + 1 := fun k hk => by
                  rcases HD3.out.feet k hk with h1 | h1
                  · exact HFE.out k h1
                  · exact ⟨.inr (by omega), fun e => by have := (HOA.out.own_ge e).2; omega, by omega, by omega⟩
                exact ⟨HD3.out.ref.turned hW (fun k hk => (hfe k hk).2.2.1), ho3.kept hW (fun g hg => by have := (ho3.own_ge hg).1; omega), hr3.turned hW (by omega), hg3.turn hW (fun k hk => by omega), hfe⟩
              have hb4 := HB3.out.setRow (rv p3 E2)
              have ht5 : Turned (fun k => k = w.heap.size) w3 (w3.setRow w.heap.size (rv p3 E2)) := (Turned.refl (fun k => k = w.heap.size) w3).setRow (fun _ => rfl) _
              obtain ⟨w4, hw4⟩ : ∃ w4, w4 = w3.setRow w.heap.size (rv p3 E2) := ⟨_, rfl⟩
              rw [← hw4] at hb4 ht5 ⊢
              clear hw4 hb3
              obtain ⟨q1, q2, q3, q4, q5⟩ := ht4 w4 ht5 hb4
              clear ht4 ht5
              have Q1 := Lib.hid q1
              have Q2 := Lib.hid q2
              have Q3 := Lib.hid q3
              have Q4 := Lib.hid q4
              have Q5 := Lib.hid q5
              have Q6 := Lib.hid hb4
              have hx4 := hb4.lt
              clear q1 q2 q3 q4 q5 hb4 ho3 hr3 hg3
              go_wp2_with fail
              go_roundg (D.pend.length - (j + 1))
              case measure => rw [HGK.out]; omega
              case rel => exact ⟨j + 1, p3, by omega, by omega, by go_num, by rw [HSN.out, HST.out]; go_num, by rw [HFT.out]; exact Q2.out, by rw [HSN.out, HST.out]; exact Q6.out, Q3.out, by rw [HSN.out, HST.out]; exact Q1.out, Q4.out, by rw [HSN.out, HST.out]; exact Q5.out⟩
    · obtain rfl : j = D.pend.length := by omega
      rw [List.take_length] at hbr hk' HFE HD HOWN HBR hpe hel
      obtain ⟨E, hE⟩ : ∃ E, (runEnd D (prR s) (svR all l) D.pend).1 = E := ⟨_, rfl⟩
      rw [hE] at hbr hk' HFE HD HBR HFIN hpe hel
      have hown := HOWN.out
      obtain ⟨A5, c5, hv5, hc5, hc59, hl5⟩ := hown.listAt
      rw [wrC_len] at hv5 hc5
      subst hv5
      have HL5 := Lib.hid hl5
      have HOW := Lib.hid hown
      have hpl := hd.pend
      have hcp2 := hd.cap2
      unfold capOk at hcp2
      unfold rv at hbr
      rw [hel, hpe] at hbr
      have x0 := hbr.cell 0
      have f0 := hbr.frozen 0
      have y0 := HRR.out.cell 0
      have g0 := HRR.out.frozen 0
      have x1 := hbr.cell 1
      have f1 := hbr.frozen 1
      have y1 := HRR.out.cell 1
      have g1 := HRR.out.frozen 1
      have x2 := hbr.cell 2
      have f2 := hbr.frozen 2
      have y2 := HRR.out.cell 2
      have g2 := HRR.out.frozen 2
      have x3 := hbr.cell 3
      have f3 := hbr.frozen 3
      have y3 := HRR.out.cell 3
      have g3 := HRR.out.frozen 3
      have x4 := hbr.cell 4
      have f4 := hbr.frozen 4
      have y4 := HRR.out.cell 4
      have g4 := HRR.out.frozen 4
      have x5 := hbr.cell 5
      have f5 := hbr.frozen 5
      have y5 := HRR.out.cell 5
      have g5 := HRR.out.frozen 5
      have x6 := hbr.cell 6
      have f6 := hbr.frozen 6
      have y6 := HRR.out.cell 6
      have g6 := HRR.out.frozen 6
      have HEL := Lib.hid hel
      have HPE := Lib.hid hpe
      clear hbr hown hl5 hpl hd hE hel hpe
      go_wp2_with fail
      refine bodyPost_ret (by first | (simp [*, results, Try.results47, go_sem]; rfl) | simp [*, results, Try.results47, go_sem]) rfl ?_
      rw [HFIN.out]
      refine ⟨{ p' with A2 := A5, c2 := c5 }, by simp only [HEL.out], ?_⟩
      have hT : ∀ W, Turned (fun k => k = w.heap.size ∨ k = w.heap.size + 1) wr W → RDid w W p D { p' with A2 := A5, c2 := c5 } { E with pend := D.pend.filter fun r => !(prR s) r } := by
        intro W hW
        have hr := HD.out.turned hW (fun k hk => by have := (HFE.out k hk).2.2; omega)
        have hl := (HOW.out.kept hW (fun g hg => by have := (HOW.out.own_ge hg).1; omega)).listA
        refine ⟨⟨hr.st, hr.old, hr.olen, hr.each, hl, hr.fen, hr.sv, hr.fuse, hr.fub, hr.svok, hr.cap0, hr.cap1, ⟨hc5, hc59⟩, hr.cap3, hr.cap6, ?_⟩, HG.out.turn hW (fun k hk => by omega), fun k hk => ?_⟩
        · have := finishD_ok HH.out.ok (prR s) (svR all l) (svR_le all l)
          rw [HFIN.out] at this
          exact this
        · rcases hk with hk | hk | hk | hk | hk | hk
          · exact (HFE.out k (.inl hk)).1
          · exact (HFE.out k (.inr (.inl hk))).1
          · obtain ⟨_, off, e⟩ := hk
            have h9 := (HOW.out.own_ge (g := k) (by show (Value.slice A5 _ _).ownBlock = _; simp only at e; rw [e]; rfl)).1
            exact .inr (by omega)
          · exact (HFE.out k (.inr (.inr (.inr (.inl hk))))).1
          · exact (HFE.out k (.inr (.inr (.inr (.inr (.inl hk)))))).1
          · exact (HFE.out k (.inr (.inr (.inr (.inr (.inr hk)))))).1
      refine hT _ ?_
      (repeat' first | (with_reducible exact Turned.refl _ _) | (with_reducible assumption) | (with_reducible refine Turned.alloc ?_ _) | (with_reducible refine Turned.drew ?_) | (with_reducible refine Turned.drewN ?_ _) | (with_reducible refine Turned.setRow ?_ (by first | (simp; done) | (simp; omega) | omega) _) | (with_reducible refine Turned.setCell ?_ (by first | (simp; done) | (simp; omega) | omega) _) | ((with_reducible apply Turned.andGrew); rotate_left; (with_reducible assumption)) | ((with_reducible apply Turned.trans); rotate_left; (with_reducible assumption)) | fail)
end
end Go.Proofs.Ytklojcgbokmkhaa
