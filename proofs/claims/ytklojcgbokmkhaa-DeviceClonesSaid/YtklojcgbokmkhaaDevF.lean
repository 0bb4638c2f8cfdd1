/- Chapter 3: finish. -/
import Derived.Test.YtklojcgbokmkhaaDevE
namespace Go.Proofs.Ytklojcgbokmkhaa
set_option linter.unusedVariables false
set_option linter.unusedSimpArgs false
set_option linter.unusedSectionVars false
open Go.RowKit
open Go.Maps (Keyed)
attribute [local go_sem ↓] Go.wp_at_zero Go.wp_at_succ
theorem int_at {w : World} {B : Nat} {A : Option Addr} {l : List Int} (h : ListAt w B 1 A (l.map intC)) {k : Nat} (hk : k < l.length) :
    ∃ b off, A = some ⟨b, off, none⟩ ∧ b < B ∧ w.cell? ⟨b, off + k, none⟩ = some (.int .i64 l[k]) := by
  obtain ⟨b, off, e, hb, hc⟩ := h (by simp; omega)
  have hcc := hc k (intC l[k]) (by rw [List.getElem?_map, List.getElem?_eq_getElem hk]; rfl)
  have := hcc 0 _ rfl
  rw [Nat.mul_one, Nat.add_zero] at this
  exact ⟨b, off, e, hb, this⟩
/-- A list in memory, in a block that does not turn. -/
theorem ListAt.keptT {w w' : World} {B sz : Nat} {A : Option Addr} {cells : List (List Value)} (h : ListAt w B sz A cells) (hB : B ≤ w.heap.size) {S : Nat → Prop} (ht : Turned S w w') (hS : 0 < cells.length → ∀ b (off : Nat), A = some ⟨b, off, Option.none⟩ → ¬ S b) : ListAt w' B sz A cells :=
  fun hl => by
    obtain ⟨b, off, e, hb, hc⟩ := h hl
    exact ⟨b, off, e, hb, fun j cs hj i v hi => (ht.cellEq _ _ (Nat.lt_of_lt_of_le hb hB) (hS hl b off e)).trans (hc j cs hj i v hi)⟩
/-- What a device's calls turn. -/
def DevP.turns (q : DevP) (k : Nat) : Prop := k = q.x ∨ q.vs.ownBlock = some k ∨ q.vo.ownBlock = some k ∨ q.vp.ownBlock = some k
theorem DevP.turns_feet (q : DevP) (k : Nat) (h : q.turns k) : q.feet k := h.elim .inl (fun h => h.elim (fun h => .inr (.inr (.inl h))) (fun h => h.elim (fun h => .inr (.inr (.inr (.inl h)))) (fun h => .inr (.inr (.inr (.inr (.inl h)))))))
/-- The blocks of the device behind a call: its former ones and new ones. -/
structure Foot' (w : World) (q q' : DevP) : Prop where
  x : q'.x = q.x
  m : q'.m = q.m
  feet : ∀ k, q'.feet k → q.feet k ∨ w.heap.size ≤ k
theorem Foot'.refl (w : World) (q : DevP) : Foot' w q q := ⟨rfl, rfl, fun _ h => .inl h⟩
theorem Foot'.trans {w w' : World} {a b c : DevP} (h : Foot' w a b) (k : Foot' w' b c) (hs : w.heap.size ≤ w'.heap.size) : Foot' w a c :=
  ⟨k.x.trans h.x, k.m.trans h.m, fun i hi => (k.feet i hi).elim (h.feet i) (fun h9 => .inr (Nat.le_trans hs h9))⟩
section
variable {w w1 : World} {q : DevP} {D : Dev}
theorem DevM.new_pend (h : DevM w q D) (ht : Turned (fun k => q.vp.ownBlock = some k) w w1) {vp' : Value} {P' : List Wr} (hown : OwnL w1 0 77 3 vp' (P'.map wrC)) (hok : ∀ r ∈ P', r.sec < D.st.length ∧ r.data.size = 140 ∧ (1 ≤ r.sys ∧ r.sys ≤ 4)) :
    DevM (w1.setCell ⟨q.x, 2, none⟩ vp') { q with vp := vp' } { D with pend := P' } := by
  have hbx := h.pend.ne_blk h.blk (by decide)
  have hb := (h.blk.turned ht hbx)
  have h1 := h.st.kept ht (own_own_ne h.st h.pend (by decide))
  have h2 := h.old.kept ht (own_own_ne h.old h.pend (by decide))
  have h3 := h.sv.kept ht (own_own_ne h.sv h.pend (by decide))
  have hm : ¬ q.vp.ownBlock = some q.m := own_map_ne h.pend h.map
  have h4 := h.map.turned ht hm
  refine ⟨(hb.set_ 2 vp').conv rfl, h1.far (p := ⟨q.x, 2, none⟩) (h1.ne_blk hb (by decide)) _, h2.far (p := ⟨q.x, 2, none⟩) (h2.ne_blk hb (by decide)) _, h.olen, fun j v l hv hl => ?_, hown.far (p := ⟨q.x, 2, none⟩) (hown.ne_blk hb (by decide)) _,
    h3.far (p := ⟨q.x, 2, none⟩) (h3.ne_blk hb (by decide)) _, h4.far (p := ⟨q.x, 2, none⟩) (fun e => blk_map_ne hb h4 e.symm) _, h.fen, h.fuse, h.left, h.svok, ⟨h.ok.len, h.ok.pos, h.ok.lim, h.ok.st, h.ok.old, hok, h.ok.fen⟩⟩
  obtain ⟨h5, h6⟩ := h.each j v l hv hl
  have h7 := h5.kept ht (own_own_ne h5 h.pend (by decide))
  exact ⟨h7.far (p := ⟨q.x, 2, none⟩) (h7.ne_blk hb (by decide)) _, h6⟩
end
section
variable (bs : Nat) {w : World} {q : DevP} {D : Dev} (h : DevM w q D) (p : Wr → Bool) (A2 : Option Addr) (c2 : Nat) (l : List Int) (KP : World → Prop) (hl : ListAt w w.heap.size 1 A2 (l.map intC)) (hlA : 0 < l.length → ∀ b off, A2 = some ⟨b, off, none⟩ → ¬ q.turns b) (hlen : l.length ≤ 9223372036854775807) (hlok : ∀ n ∈ l, okI n) (hsmall : D.pend.length ≤ 1000000)
  (hKP : ∀ W W', KP W → Turned q.turns W W' → KP W') (hKG : ∀ W W', KP W → Grew W W' → KP W') (hkp : KP w)
  (hcall : ∀ W (r : Wr), KP W → Calls Try.prog 58 #[.agg #[.int .i64 r.sys, .int .i64 (r.sec : Int), .string r.data], .pointer (some ⟨bs, 0, none⟩)] W fun e w' => e = .returned (.bool (p r)) ∧ Grew W w')
include h hl hlA hlen hlok hsmall hKP hKG hkp hcall
set_option maxRecDepth 100000 in
set_option maxHeartbeats 8000000 in
theorem finish_of : Calls Try.prog 37 #[.pointer (some ⟨q.x, 0, none⟩), .func (.func 58) #[] #[.pointer (some ⟨bs, 0, none⟩)], .slice A2 l.length c2] w fun e w' => e = .returned (.tuple #[]) ∧ ∃ q', DevM w' q' (finishD D p (svN l)) ∧ Foot' w q q' ∧ Turned q.turns w w' := by
  obtain ⟨gs, cs, hvs, hgs, hs1, hs2, hs3⟩ := h.st_form
  obtain ⟨A, c, hvp, hc1, hc2, hpl⟩ := h.pend_list
  have hk := h.blk
  rw [hvs, hvp] at hk
  have hxl := hk.lt
  have x2 := hk.cell 2
  have HH := Lib.hid h
  have HCALL := fun W r hk => Lib.hid (hcall W r hk)
  have HKEPT := fun j => Lib.hid (runEnd_kept h.ok p (svN l) (svN_le l) (D.pend.take j) (fun r hr => List.mem_of_mem_take hr))
  have HVS := Lib.hid hvs
  have HVP := Lib.hid hvp
  have HLS := Lib.hid hl
  have HPL := Lib.hid hpl
  have HKP := Lib.hid hkp
  have HLOK := Lib.hid hlok
  have HPOK := Lib.hid h.ok.pend
  have HVPT := Lib.hid (show ∀ b off, A = some ⟨b, off, none⟩ → ¬ (q.vs.ownBlock = some b ∨ q.vo.ownBlock = some b) from fun b off e hh => by
    have hb : q.vp.ownBlock = some b := by
      rcases h.pend.form with ⟨hv, _⟩ | ⟨g, cap, hv, _⟩
      · rw [hvp] at hv; injection hv with hv _ _; rw [hv] at e; cases e
      · rw [hvp] at hv; injection hv with hv _ _; rw [hv] at e; injection e with e; injection e with e _ _; rw [hvp, hv, e]; rfl
    rcases hh with hh | hh
    · exact own_own_ne h.st h.pend (by decide) b hh hb
    · exact own_own_ne h.old h.pend (by decide) b hh hb)
  have HFIN := Lib.hid (show finishD D p (svN l) = { (runEnd D p (svN l) D.pend).1 with pend := D.pend.filter fun r => !p r } from rfl)
  have HDEL := Lib.hid (show ∀ (W : World) g cap, KP W → q.vp = .slice (some ⟨g, 0, none⟩) D.pend.length cap → OwnL W 0 77 3 (.slice (some ⟨g, 0, none⟩) D.pend.length cap) (D.pend.map wrC) → Calls Try.prog 57 #[.slice (some ⟨g, 0, none⟩) D.pend.length cap, .func (.func 58) #[] #[.pointer (some ⟨bs, 0, none⟩)]] W fun e w' =>
      e = .returned (.slice (some ⟨g, 0, none⟩) (D.pend.filter fun x => !p x).length cap) ∧ OwnL w' 0 77 3 (.slice (some ⟨g, 0, none⟩) (D.pend.filter fun x => !p x).length cap) ((D.pend.filter fun x => !p x).map wrC) ∧ Turned (fun k => k = g) W w' from fun W g cap hk hv ho =>
    deleteFunc_of bs p D.pend g D.pend.length cap KP rfl hsmall (fun W W' h1 h2 => hKP W W' h1 (h2.mono (fun k _ hk => .inr (.inr (.inr (by rw [hv, hk]; rfl)))))) hKG hcall W ho hk)
  have HPF := Lib.hid h.pend.form
  have hdl : D.st.length ≤ 1155 := h.ok.lim
  clear h hvs hvp hcall hl hpl hkp hlok
  go_enter Try.func37, Try.ntmps37
  go_wp2_with fail
  go_loopg [6, 15] D.pend.length (fun gk nv iv wr => ∃ (j : Nat) (os' : List Value), j ≤ D.pend.length ∧ gk = D.pend.length - j ∧ iv = .int .i64 (j : Int) ∧ nv = .int .i64 ((runEnd D p (svN l) (D.pend.take j)).2 : Int) ∧ DevM wr { q with os := os' } (runEnd D p (svN l) (D.pend.take j)).1 ∧ Turned (fun k => q.vs.ownBlock = some k ∨ q.vo.ownBlock = some k) w wr ∧ KP wr ∧ (∀ v ∈ os', v ∈ q.os ∨ ∃ g, v.ownBlock = some g ∧ w.heap.size ≤ g))
  case atStart => exact ⟨0, q.os, Nat.zero_le _, rfl, rfl, rfl, HH.out, Turned.refl _ _, HKP.out, fun v hv => .inl hv⟩
  case round =>
    obtain ⟨j, os', hj, hgk, rfl, rfl, hd, ht, hkpr, hos⟩ := hrel
    have HGK := Lib.hid hgk
    have HD := Lib.hid hd
    have HOS := Lib.hid hos
    have HKR := Lib.hid hkpr
    have HT := Lib.hid ht
    have hxr : q.x < wr.heap.size := by have := ht.size; omega
    clear hgk hos hkpr
    by_cases hlt : j < D.pend.length
    · obtain ⟨b, off, rfl, hbb, z0, z1, z2⟩ := wr_at (HPL.out.keptT (Nat.le_refl _) ht (fun _ b off e => HVPT.out b off e)) hlt
      have HPJ := Lib.hid (HPOK.out D.pend[j] (List.getElem_mem hlt))
      have HSN := Lib.hid (runEnd_snoc D p (svN l) D.pend j hlt)
      have hcnt := runEnd_cnt D p (svN l) (D.pend.take j)
      have hcl : (runEnd D p (svN l) (D.pend.take j)).2 ≤ j := by rw [hcnt]; exact Nat.le_trans (List.length_filter_le _ _) (by rw [List.length_take]; omega)
      have hk' := (HKEPT j).out
      have hel := hk'.len
      clear hcnt hd ht
      generalize D.pend[j] = r at *
      generalize hE : runEnd D p (svN l) (D.pend.take j) = E at *
      obtain ⟨E, cnt⟩ := E
      simp only at hcl hk' hel
      have HE := Lib.hid hE
      clear hE
      have gal := (Grew.refl wr).alloc (.cells #[.int .i64 r.sys, .int .i64 (r.sec : Int), .string r.data] 77)
      have HC := Lib.hid (HCALL _ r (hKG _ _ HKR.out gal)).out
      have hbl := Blk.new wr 77 #[.int .i64 r.sys, .int .i64 (r.sec : Int), .string r.data] rfl
      have HDA := Lib.hid (HD.out.grew gal)
      have HTA := Lib.hid (HT.out.andGrew gal)
      have HKA := Lib.hid (hKG _ _ HKR.out gal)
      clear gal
      go_wp2_with fail
      refine HC.out.mono ?_
      rintro e w2 ⟨rfl, g2⟩
      have HD2 := Lib.hid (HDA.out.grew g2)
      have HT2 := Lib.hid (HTA.out.andGrew g2)
      have HK2 := Lib.hid (hKG _ _ HKA.out g2)
      have hbl2 := hbl.grew g2
      have hz := g2.size
      simp at hz
      clear g2 hbl z0 z1 z2
      cases hq : p r with
      | false =>
        have HQ := Lib.hid hq
        have HST := Lib.hid (show endStep p (svN l) (E, cnt) r = (E, cnt) from by unfold endStep; rw [hq]; rfl)
        clear hq
        go_wp2_with fail
        go_roundg (D.pend.length - (j + 1))
        case measure => rw [HGK.out]; omega
        case rel => exact ⟨j + 1, os', by omega, by omega, by go_num, by rw [HSN.out, HST.out], by rw [HSN.out, HST.out]; exact HD2.out, HT2.out, HK2.out, HOS.out⟩
      | true =>
        have HQ := Lib.hid hq
        have HST := Lib.hid (show endStep p (svN l) (E, cnt) r = (changeD E r.sec (cutW r (svN l cnt) (E.at r.sec)), cnt + 1) from by unfold endStep; rw [hq]; rfl)
        clear hq
        obtain ⟨hsec, hdsz, _⟩ := HPJ.out
        obtain ⟨n, hn⟩ : ∃ n, svN l cnt = n := ⟨_, rfl⟩
        have hn140 : n ≤ 140 := by rw [← hn]; exact svN_le l cnt
        rw [hn] at HST
        have hat := at_size hk'.ok (show r.sec < E.st.length by rw [hel]; exact hsec)
        have HSZ := Lib.hid (cutW_size (r := r) (n := n) hdsz hat hn140)
        have hsecE : r.sec < E.st.length := by rw [hel]; exact hsec
        have HCH := Lib.hid (change_any (q := { q with os := os' }) (D := E) (w := w2.drew) (HD2.out.grew ((Grew.refl w2).drew)) hsecE (cutW r n (E.at r.sec)) HSZ.out)
        have hbx := HD2.out.blk
        have y0 := HD2.out.st_cell (g := gs) (cap := cs) (by rw [hel]; exact HVS.out) hsecE
        simp only [HVS.out] at hbx
        have hgsw : gs < w2.heap.size := by have := HT2.out.size; omega
        have hxw : q.x < w2.heap.size := by have := HT2.out.size; omega
        have HCW := Lib.hid (show r.data.extract 0 n ++ (E.at r.sec).extract n (E.at r.sec).size = cutW r n (E.at r.sec) from rfl)
        have hds1 : n ≤ r.data.size := by omega
        have hds2 : n ≤ (E.at r.sec).size := by omega
        have hds3 : r.data.size ≤ 140 := by omega
        have hds4 : (E.at r.sec).size ≤ 140 := by omega
        have x0 := hbx.cell 0
        have v0 := hbl2.cell 0
        have v1 := hbl2.cell 1
        have v2 := hbl2.cell 2
        clear hbx hat hdsz
        generalize hEA : E.at r.sec = a at *
        go_upto_if 26 with fail
        go_cut [9] (fun m wx => m = .int .i64 (n : Int) ∧ w2 = wx)
        case first =>
          by_cases hc : cnt < l.length
          · obtain ⟨b3, off3, rfl, hb3, s0⟩ := int_at ((HLS.out.keptT (Nat.le_refl _) HT2.out (fun hp b off e => fun hh => hlA (by simpa using hp) b off e (hh.elim (fun h => .inr (.inl h)) (fun h => .inr (.inr (.inl h))))))) hc
            have hnv : n = (min (max 0 l[cnt]) 140).toNat := by rw [← hn]; unfold svN; rw [List.getD_eq_getElem?_getD, List.getElem?_eq_getElem hc]; rfl
            have hlo := HLOK.out l[cnt] (List.getElem_mem hc)
            unfold okI at hlo
            clear hn
            generalize l[cnt] = u at *
            by_cases h1 : u ≤ 0
            · obtain rfl : n = 0 := by omega
              clear hnv
              rcases Int.lt_or_eq_of_le h1 with h2 | rfl
              · go_wp2_with fail
                go_meet
                exact ⟨rfl, rfl⟩
              · go_wp2_with fail
                go_meet
                exact ⟨rfl, rfl⟩
            · by_cases h2 : u < 140
              · obtain rfl : u = (n : Int) := by omega
                clear hnv
                go_wp2_with fail
                go_meet
                exact ⟨rfl, rfl⟩
              · obtain rfl : n = 140 := by omega
                clear hnv
                rcases Int.lt_or_eq_of_le (show (140 : Int) ≤ u by omega) with h3 | rfl
                · go_wp2_with fail
                  go_meet
                  exact ⟨rfl, rfl⟩
                · go_wp2_with fail
                  go_meet
                  exact ⟨rfl, rfl⟩
          · obtain rfl : n = 0 := by rw [← hn]; unfold svN; rw [List.getD_eq_getElem?_getD, List.getElem?_eq_none (by omega)]; rfl
            clear hn
            go_wp2_with fail
            go_meet
            exact ⟨rfl, rfl⟩
        case rest =>
          obtain ⟨rfl, rfl⟩ := hcut
          clear hn
          go_wp2_with fail
          refine wp_region_R [18] (fun w' : World => w'.cell? ⟨wr.heap.size, 1, none⟩ = some (.int .i64 (r.sec : Int)) ∧ w'.cell? ⟨wr.heap.size, 2, none⟩ = some (.string r.data) ∧ w'.cell? ⟨q.x, 0, none⟩ = some (.slice (some ⟨gs, 0, none⟩) D.st.length cs) ∧ w'.cell? ⟨gs, r.sec, none⟩ = some (.string a)) (by kernel_rfl) ?_
          have hS := (show (fun w' : World => w'.cell? ⟨wr.heap.size, 1, none⟩ = some (.int .i64 (r.sec : Int)) ∧ w'.cell? ⟨wr.heap.size, 2, none⟩ = some (.string r.data) ∧ w'.cell? ⟨q.x, 0, none⟩ = some (.slice (some ⟨gs, 0, none⟩) D.st.length cs) ∧ w'.cell? ⟨gs, r.sec, none⟩ = some (.string a)) w2.drew from ⟨v1, v2, x0, y0⟩)
          refine wpAnyR_takeQ (i := 0) (v := ?_) (some 35) rfl rfl (by kernel_rfl) (by kernel_rfl) (by kernel_rfl) (by kernel_rfl) (fun _ _ _ h => h) (Or.inl ⟨by rfl, ?_⟩) ?_
          rotate_left
          focus (intro wS hSw; (try dsimp only at hSw); go_simp; (try with_reducible rfl); (try (first | (rw [if_pos (by omega)]; (try go_simp); (try with_reducible rfl)) | (rw [if_neg (by omega)]; (try go_simp); (try with_reducible rfl)))))
          try simp only [Act.put, List.setIfInBounds_toArray, List.set_cons_zero, List.set_cons_succ]
          refine wpAnyR_takeQ (i := 1) (v := ?_) (some 36) rfl rfl (by kernel_rfl) (by kernel_rfl) (by kernel_rfl) (by kernel_rfl) (fun _ _ _ h => h) (Or.inl ⟨by rfl, ?_⟩) ?_
          rotate_left
          focus (intro wS hSw; (try dsimp only at hSw); go_simp; (try with_reducible rfl); (try (first | (rw [if_pos (by omega)]; (try go_simp); (try with_reducible rfl)) | (rw [if_neg (by omega)]; (try go_simp); (try with_reducible rfl)))))
          try simp only [Act.put, List.setIfInBounds_toArray, List.set_cons_zero, List.set_cons_succ]
          refine wpAnyR_take (i := 2) (v := ?_) [18] (some 37) rfl rfl (by kernel_rfl) (by kernel_rfl) (by kernel_rfl) (by kernel_rfl) (by kernel_rfl) (by kernel_rfl) (by kernel_rfl) (fun _ _ _ h => h) (Or.inl ⟨by rfl, ?_⟩) hS ?_
          rotate_left
          focus (intro wS hSw; (try dsimp only at hSw); go_simp; (try with_reducible rfl); (try (first | (rw [if_pos (by omega)]; (try go_simp); (try with_reducible rfl)) | (rw [if_neg (by omega)]; (try go_simp); (try with_reducible rfl)))))
          try simp only [Act.put, List.setIfInBounds_toArray, List.set_cons_zero, List.set_cons_succ]
          refine wpAnyR_takeQ (i := 3) (v := ?_) (some 38) rfl rfl (by kernel_rfl) (by kernel_rfl) (by kernel_rfl) (by kernel_rfl) (fun _ _ _ h => h) (Or.inl ⟨by rfl, ?_⟩) ?_
          rotate_left
          focus (intro wS hSw; (try dsimp only at hSw); go_simp; (try with_reducible rfl); (try (first | (rw [if_pos (by omega)]; (try go_simp); (try with_reducible rfl)) | (rw [if_neg (by omega)]; (try go_simp); (try with_reducible rfl)))))
          try simp only [Act.put, List.setIfInBounds_toArray, List.set_cons_zero, List.set_cons_succ]
          refine wpAnyR_take (i := 4) (v := ?_) [6, 17, 18] (some 39) rfl rfl (by kernel_rfl) (by kernel_rfl) (by kernel_rfl) (by kernel_rfl) (by kernel_rfl) (by kernel_rfl) (by kernel_rfl) (fun _ _ _ h => h) (Or.inl ⟨by rfl, ?_⟩) hS ?_
          rotate_left
          focus (intro wS hSw; (try dsimp only at hSw); go_simp; (try with_reducible rfl); (try (first | (rw [if_pos (by omega)]; (try go_simp); (try with_reducible rfl)) | (rw [if_neg (by omega)]; (try go_simp); (try with_reducible rfl)))))
          try simp only [Act.put, List.setIfInBounds_toArray, List.set_cons_zero, List.set_cons_succ]
          refine wpAnyR_takeQ (i := 5) (v := ?_) (some 40) rfl rfl (by kernel_rfl) (by kernel_rfl) (by kernel_rfl) (by kernel_rfl) (fun _ _ _ h => h) (Or.inl ⟨by rfl, ?_⟩) ?_
          rotate_left
          focus (intro wS hSw; (try dsimp only at hSw); go_simp; (try with_reducible rfl); (try (first | (rw [if_pos (by omega)]; (try go_simp); (try with_reducible rfl)) | (rw [if_neg (by omega)]; (try go_simp); (try with_reducible rfl)))))
          try simp only [Act.put, List.setIfInBounds_toArray, List.set_cons_zero, List.set_cons_succ]
          refine wpAnyR_takeQ (i := 6) (v := ?_) (some 41) rfl rfl (by kernel_rfl) (by kernel_rfl) (by kernel_rfl) (by kernel_rfl) (fun _ _ _ h => h) (Or.inl ⟨by rfl, ?_⟩) ?_
          rotate_left
          focus (intro wS hSw; (try dsimp only at hSw); go_simp; (try with_reducible rfl); (try (first | (rw [if_pos (by omega)]; (try go_simp); (try with_reducible rfl)) | (rw [if_neg (by omega)]; (try go_simp); (try with_reducible rfl)))))
          try simp only [Act.put, List.setIfInBounds_toArray, List.set_cons_zero, List.set_cons_succ]
          refine wpAnyR_takeQ (i := 7) (v := ?_) (some 42) rfl rfl (by kernel_rfl) (by kernel_rfl) (by kernel_rfl) (by kernel_rfl) (fun _ _ _ h => h) (Or.inl ⟨by rfl, ?_⟩) ?_
          rotate_left
          focus (intro wS hSw; (try dsimp only at hSw); go_simp; (try with_reducible rfl); (try (first | (rw [if_pos (by omega)]; (try go_simp); (try with_reducible rfl)) | (rw [if_neg (by omega)]; (try go_simp); (try with_reducible rfl)))))
          try simp only [Act.put, List.setIfInBounds_toArray, List.set_cons_zero, List.set_cons_succ]
          refine wpAnyR_take (i := 8) (v := ?_) [9, 10, 13, 14, 16, 17, 18] (some 43) rfl rfl (by kernel_rfl) (by kernel_rfl) (by kernel_rfl) (by kernel_rfl) (by kernel_rfl) (by kernel_rfl) (by kernel_rfl) (fun _ _ _ h => h) (Or.inl ⟨by rfl, ?_⟩) hS ?_
          rotate_left
          focus (intro wS hSw; (try dsimp only at hSw); go_simp; (try with_reducible rfl); (try (first | (rw [if_pos (by omega)]; (try go_simp); (try with_reducible rfl)) | (rw [if_neg (by omega)]; (try go_simp); (try with_reducible rfl)))))
          try simp only [Act.put, List.setIfInBounds_toArray, List.set_cons_zero, List.set_cons_succ]
          refine wpAnyR_takeQ (i := 9) (v := ?_) (some 44) rfl rfl (by kernel_rfl) (by kernel_rfl) (by kernel_rfl) (by kernel_rfl) (fun _ _ _ h => h) (Or.inl ⟨by rfl, ?_⟩) ?_
          rotate_left
          focus (intro wS hSw; (try dsimp only at hSw); go_simp; (try with_reducible rfl); (try (first | (rw [if_pos (by omega)]; (try go_simp); (try with_reducible rfl)) | (rw [if_neg (by omega)]; (try go_simp); (try with_reducible rfl)))))
          try simp only [Act.put, List.setIfInBounds_toArray, List.set_cons_zero, List.set_cons_succ]
          refine wpAnyR_take (i := 10) (v := ?_) [13, 14, 16, 17, 18] (some 45) rfl rfl (by kernel_rfl) (by kernel_rfl) (by kernel_rfl) (by kernel_rfl) (by kernel_rfl) (by kernel_rfl) (by kernel_rfl) (fun _ _ _ h => h) (Or.inl ⟨by rfl, ?_⟩) hS ?_
          rotate_left
          focus (intro wS hSw; (try dsimp only at hSw); go_simp; (try with_reducible rfl); (try (first | (rw [if_pos (by omega)]; (try go_simp); (try with_reducible rfl)) | (rw [if_neg (by omega)]; (try go_simp); (try with_reducible rfl)))))
          try simp only [Act.put, List.setIfInBounds_toArray, List.set_cons_zero, List.set_cons_succ]
          refine wpAnyR_takeQ (i := 11) (v := ?_) (some 46) rfl rfl (by kernel_rfl) (by kernel_rfl) (by kernel_rfl) (by kernel_rfl) (fun _ _ _ h => h) (Or.inl ⟨by rfl, ?_⟩) ?_
          rotate_left
          focus (intro wS hSw; (try dsimp only at hSw); go_simp; (try with_reducible rfl); (try (first | (rw [if_pos (by omega)]; (try go_simp); (try with_reducible rfl)) | (rw [if_neg (by omega)]; (try go_simp); (try with_reducible rfl)))))
          try simp only [Act.put, List.setIfInBounds_toArray, List.set_cons_zero, List.set_cons_succ]
          refine wpAnyR_take (i := 12) (v := ?_) [13, 14, 16, 17, 18] (some 47) rfl rfl (by kernel_rfl) (by kernel_rfl) (by kernel_rfl) (by kernel_rfl) (by kernel_rfl) (by kernel_rfl) (by kernel_rfl) (fun _ _ _ h => h) (Or.inl ⟨by rfl, ?_⟩) hS ?_
          rotate_left
          focus (intro wS hSw; (try dsimp only at hSw); go_simp; (try with_reducible rfl); (try (first | (rw [if_pos (by omega)]; (try go_simp); (try with_reducible rfl)) | (rw [if_neg (by omega)]; (try go_simp); (try with_reducible rfl)))))
          try simp only [Act.put, List.setIfInBounds_toArray, List.set_cons_zero, List.set_cons_succ]
          refine wpAnyR_takeQ (i := 13) (v := ?_) (some 48) rfl rfl (by kernel_rfl) (by kernel_rfl) (by kernel_rfl) (by kernel_rfl) (fun _ _ _ h => h) (Or.inl ⟨by rfl, ?_⟩) ?_
          rotate_left
          focus (intro wS hSw; (try dsimp only at hSw); go_simp; (try with_reducible rfl); (try (first | (rw [if_pos (by omega)]; (try go_simp); (try with_reducible rfl)) | (rw [if_neg (by omega)]; (try go_simp); (try with_reducible rfl)))))
          try simp only [Act.put, List.setIfInBounds_toArray, List.set_cons_zero, List.set_cons_succ]
          refine wpAnyR_take (i := 14) (v := ?_) [16, 17, 18] (some 49) rfl rfl (by kernel_rfl) (by kernel_rfl) (by kernel_rfl) (by kernel_rfl) (by kernel_rfl) (by kernel_rfl) (by kernel_rfl) (fun _ _ _ h => h) (Or.inl ⟨by rfl, ?_⟩) hS ?_
          rotate_left
          focus (intro wS hSw; (try dsimp only at hSw); go_simp; (try with_reducible rfl); (try (first | (rw [if_pos (by omega)]; (try go_simp); (try with_reducible rfl)) | (rw [if_neg (by omega)]; (try go_simp); (try with_reducible rfl)))))
          try simp only [Act.put, List.setIfInBounds_toArray, List.set_cons_zero, List.set_cons_succ]
          refine wpAnyR_takeQ (i := 15) (v := ?_) (some 50) rfl rfl (by kernel_rfl) (by kernel_rfl) (by kernel_rfl) (by kernel_rfl) (fun _ _ _ h => h) (Or.inl ⟨by rfl, ?_⟩) ?_
          rotate_left
          focus (intro wS hSw; (try dsimp only at hSw); go_simp; (try with_reducible rfl); (try (first | (rw [if_pos (by omega)]; (try go_simp); (try with_reducible rfl)) | (rw [if_neg (by omega)]; (try go_simp); (try with_reducible rfl)))))
          try simp only [Act.put, List.setIfInBounds_toArray, List.set_cons_zero, List.set_cons_succ]
          refine wpAnyR_takeQ (i := 16) (v := ?_) (some 51) rfl rfl (by kernel_rfl) (by kernel_rfl) (by kernel_rfl) (by kernel_rfl) (fun _ _ _ h => h) (Or.inl ⟨by rfl, ?_⟩) ?_
          rotate_left
          focus (intro wS hSw; (try dsimp only at hSw); go_simp; (try with_reducible rfl); (try (first | (rw [if_pos (by omega)]; (try go_simp); (try with_reducible rfl)) | (rw [if_neg (by omega)]; (try go_simp); (try with_reducible rfl)))))
          try simp only [Act.put, List.setIfInBounds_toArray, List.set_cons_zero, List.set_cons_succ]
          refine wpAnyR_takeQ (i := 17) (v := ?_) (some 52) rfl rfl (by kernel_rfl) (by kernel_rfl) (by kernel_rfl) (by kernel_rfl) (fun _ _ _ h => h) (Or.inl ⟨by rfl, ?_⟩) ?_
          rotate_left
          focus (intro wS hSw; (try dsimp only at hSw); go_simp; (try with_reducible rfl); (try (first | (rw [if_pos (by omega)]; (try go_simp); (try with_reducible rfl)) | (rw [if_neg (by omega)]; (try go_simp); (try with_reducible rfl)))))
          try simp only [Act.put, List.setIfInBounds_toArray, List.set_cons_zero, List.set_cons_succ]
          try rw [HCW.out]
          refine wpAnyR_n1 (i := 18) rfl (by kernel_rfl) ?_
          intro K' hK
          rw [if_pos (by rfl)]
          simp only [List.getElem_toArray, List.getElem_cons_succ, List.getElem_cons_zero]
          go_wp2_with fail
          refine HCH.out.mono ?_
          rintro e w3 ⟨rfl, os3, hd3, ht3, hos3⟩
          go_wp2_with fail
          refine hK.out _ _ (.inl rfl) ?_
          clear hK hS
          refine wpAnyR_done (by kernel_rfl) ?_ _
          have HD3 := Lib.hid hd3
          have HT3 := Lib.hid ((HT2.out.drew).trans ht3)
          have HK3 := Lib.hid (hKP _ _ HK2.out ((Turned.refl q.turns w2).drew.trans (ht3.mono (fun k _ hk => .inr (hk.elim .inl (fun h => .inr (.inl h)))))))
          have HO3 := Lib.hid (show ∀ v ∈ os3, v ∈ q.os ∨ ∃ g, v.ownBlock = some g ∧ w.heap.size ≤ g from fun v hv => (hos3 v hv).elim (fun h9 => HOS.out v h9) (fun ⟨g, h1, h2⟩ => .inr ⟨g, h1, by
            have h5 : w2.drew.heap.size = w2.heap.size := rfl
            have h6 := HT2.out.size
            omega⟩))
          clear hd3 ht3 hos3 x0 y0 v0 v1 v2
          go_wp2_with fail
          go_roundg (D.pend.length - (j + 1))
          case measure => rw [HGK.out]; omega
          case rel => exact ⟨j + 1, os3, by omega, by omega, by go_num, by rw [HSN.out, HST.out]; go_num, by rw [HSN.out, HST.out]; exact HD3.out, HT3.out, HK3.out, HO3.out⟩
    · obtain rfl : j = D.pend.length := by omega
      have hke := (HKEPT D.pend.length).out
      rw [List.take_length] at hd hke
      have hHD : DevM wr { q with os := os' } (runEnd D p (svN l) D.pend).1 := hd
      have hHT := HT.out
      have HKE := Lib.hid hke
      have HHD := Lib.hid hHD
      have hbr := hHD.blk
      have hpo := hHD.pend
      rw [hke.pend] at hpo
      have HPO := Lib.hid hpo
      have HFO := Lib.hid (show ∀ (k : Nat) (vp' : Value), (vp'.ownBlock = some k → q.vp.ownBlock = some k) → ({ q with os := os', vp := vp' } : DevP).feet k → q.feet k ∨ w.heap.size ≤ k from fun k vp' hvp' hk => by
        rcases hk with hk | hk | hk | hk | hk | hk | ⟨v, hv, hk⟩
        · exact .inl (.inl hk)
        · exact .inl (.inr (.inl hk))
        · exact .inl (.inr (.inr (.inl hk)))
        · exact .inl (.inr (.inr (.inr (.inl hk))))
        · exact .inl (.inr (.inr (.inr (.inr (.inl (hvp' hk))))))
        · exact .inl (.inr (.inr (.inr (.inr (.inr (.inl hk))))))
        · rcases HOS.out v hv with h9 | ⟨g, h9, h10⟩
          · exact .inl (.inr (.inr (.inr (.inr (.inr (.inr ⟨v, h9, hk⟩))))))
          · rw [h9] at hk; injection hk with hk; subst hk; exact .inr h10)
      have HTW := Lib.hid (show Turned q.turns w wr from hHT.mono (fun k _ hk => .inr (hk.elim .inl (fun h => .inr (.inl h)))))
      clear HD HT hHD hHT hd ht hke hpo
      rcases HPF.out with ⟨hv0, hr0⟩ | ⟨g, cap, hv1, _, _, _, _⟩
      · have hP0 : D.pend = [] := List.map_eq_nil_iff.1 hr0
        have hpl0 : D.pend.length = 0 := by rw [hP0]; rfl
        have hvp0 := HVP.out
        rw [hv0, hpl0] at hvp0
        injection hvp0 with hA _ hc
        subst hA; subst hc
        have x2r := hbr.cell 2
        have f2r := hbr.frozen 2
        simp only [hv0] at x2r
        have HBR := Lib.hid hbr
        have HV0 := Lib.hid hv0
        have HP0 := Lib.hid hP0
        rw [hpl0]
        clear x2 hbr hv0 hr0
        go_wp2_with fail
        refine (deleteNil_of bs wr).mono ?_
        rintro e wx ⟨rfl, rfl⟩
        go_wp2_with fail
        go_end0
        have hnew := HHD.out.new_pend (Turned.refl _ _) (vp' := .slice none 0 0) (P' := []) (by have := HPO.out; rw [HP0.out] at this; simp only [HV0.out] at this; exact this) (fun r hr => by cases hr)
        refine ⟨rfl, { q with os := os', vp := .slice none 0 0 }, ?_, ⟨rfl, rfl, fun k hk => HFO.out k _ (fun h => by cases h) hk⟩, HTW.out.setCell (p := ⟨q.x, 2, none⟩) (fun _ => .inl rfl) _⟩
        rw [HFIN.out]
        have hf0 : (D.pend.filter fun r => !p r) = [] := by rw [HP0.out]; rfl
        rw [hf0]
        exact hnew
      · rw [wrC_len] at hv1
        have hvp0 := HVP.out
        rw [hv1] at hvp0
        injection hvp0 with hA _ hc
        subst hA; subst hc
        have x2r := hbr.cell 2
        simp only [hv1] at x2r
        have hpo := HPO.out
        simp only [hv1] at hpo
        have HCD := Lib.hid (HDEL.out wr g cap HKR.out hv1 hpo)
        have HBR := Lib.hid hbr
        have HV1 := Lib.hid hv1
        have hvb : q.vp.ownBlock = some g := by rw [hv1]; rfl
        have hgx : ¬ q.x = g := fun e => HHD.out.pend.ne_blk HHD.out.blk (by decide) (by show q.vp.ownBlock = _; rw [hvb]; exact congrArg some e.symm)
        clear x2 hbr hv1 hpo
        go_wp2_with fail
        refine HCD.out.mono ?_
        rintro e wx ⟨rfl, hown, htx⟩
        have hbx := HBR.out.turned htx hgx
        have hxx := hbx.lt
        have x2x := hbx.cell 2
        have f2x := hbx.frozen 2
        have hnew := HHD.out.new_pend (w1 := wx) (htx.mono (fun k _ hk => by rw [hk]; exact hvb)) hown (fun r hr => by have := HPOK.out r (List.mem_filter.1 hr).1; rw [HKE.out.len]; exact this)
        have HNEW := Lib.hid hnew
        have HTX := Lib.hid (show Turned q.turns w wx from HTW.out.trans (htx.mono (fun k _ hk => .inr (.inr (.inr (by rw [hk]; exact hvb))))))
        clear htx hown hbx hnew
        go_wp2_with fail
        go_end0
        refine ⟨rfl, { q with os := os', vp := .slice (some ⟨g, 0, none⟩) (D.pend.filter fun x => !p x).length cap }, ?_, ⟨rfl, rfl, fun k hk => HFO.out k _ (fun h => by rw [hvb]; exact h) hk⟩, HTX.out.setCell (p := ⟨q.x, 2, none⟩) (fun _ => .inl rfl) _⟩
        rw [HFIN.out]
        exact HNEW.out
end
section
variable  {w : World} {q : DevP} {D : Dev} (h : DevM w q D) (p : Wr → Bool) (A2 : Option Addr) (c2 : Nat) (l : List Int) (KP : World → Prop) (hl : ListAt w w.heap.size 1 A2 (l.map intC)) (hlA : 0 < l.length → ∀ b off, A2 = some ⟨b, off, none⟩ → ¬ q.turns b) (hlen : l.length ≤ 9223372036854775807) (hlok : ∀ n ∈ l, okI n) (hsmall : D.pend.length ≤ 1000000)
  (hKP : ∀ W W', KP W → Turned q.turns W W' → KP W') (hKG : ∀ W W', KP W → Grew W W' → KP W') (hkp : KP w)
  (hcall : ∀ W (r : Wr), KP W → Calls Try.prog 55 #[.agg #[.int .i64 r.sys, .int .i64 (r.sec : Int), .string r.data]] W fun e w' => e = .returned (.bool (p r)) ∧ Grew W w')
include h hl hlA hlen hlok hsmall hKP hKG hkp hcall
set_option maxRecDepth 100000 in
set_option maxHeartbeats 8000000 in
theorem finish_all : Calls Try.prog 37 #[.pointer (some ⟨q.x, 0, none⟩), .func (.func 55) #[] #[], .slice A2 l.length c2] w fun e w' => e = .returned (.tuple #[]) ∧ ∃ q', DevM w' q' (finishD D p (svN l)) ∧ Foot' w q q' ∧ Turned q.turns w w' := by
  obtain ⟨gs, cs, hvs, hgs, hs1, hs2, hs3⟩ := h.st_form
  obtain ⟨A, c, hvp, hc1, hc2, hpl⟩ := h.pend_list
  have hk := h.blk
  rw [hvs, hvp] at hk
  have hxl := hk.lt
  have x2 := hk.cell 2
  have HH := Lib.hid h
  have HCALL := fun W r hk => Lib.hid (hcall W r hk)
  have HKEPT := fun j => Lib.hid (runEnd_kept h.ok p (svN l) (svN_le l) (D.pend.take j) (fun r hr => List.mem_of_mem_take hr))
  have HVS := Lib.hid hvs
  have HVP := Lib.hid hvp
  have HLS := Lib.hid hl
  have HPL := Lib.hid hpl
  have HKP := Lib.hid hkp
  have HLOK := Lib.hid hlok
  have HPOK := Lib.hid h.ok.pend
  have HVPT := Lib.hid (show ∀ b off, A = some ⟨b, off, none⟩ → ¬ (q.vs.ownBlock = some b ∨ q.vo.ownBlock = some b) from fun b off e hh => by
    have hb : q.vp.ownBlock = some b := by
      rcases h.pend.form with ⟨hv, _⟩ | ⟨g, cap, hv, _⟩
      · rw [hvp] at hv; injection hv with hv _ _; rw [hv] at e; cases e
      · rw [hvp] at hv; injection hv with hv _ _; rw [hv] at e; injection e with e; injection e with e _ _; rw [hvp, hv, e]; rfl
    rcases hh with hh | hh
    · exact own_own_ne h.st h.pend (by decide) b hh hb
    · exact own_own_ne h.old h.pend (by decide) b hh hb)
  have HFIN := Lib.hid (show finishD D p (svN l) = { (runEnd D p (svN l) D.pend).1 with pend := D.pend.filter fun r => !p r } from rfl)
  have HDEL := Lib.hid (show ∀ (W : World) g cap, KP W → q.vp = .slice (some ⟨g, 0, none⟩) D.pend.length cap → OwnL W 0 77 3 (.slice (some ⟨g, 0, none⟩) D.pend.length cap) (D.pend.map wrC) → Calls Try.prog 57 #[.slice (some ⟨g, 0, none⟩) D.pend.length cap, .func (.func 55) #[] #[]] W fun e w' =>
      e = .returned (.slice (some ⟨g, 0, none⟩) (D.pend.filter fun x => !p x).length cap) ∧ OwnL w' 0 77 3 (.slice (some ⟨g, 0, none⟩) (D.pend.filter fun x => !p x).length cap) ((D.pend.filter fun x => !p x).map wrC) ∧ Turned (fun k => k = g) W w' from fun W g cap hk hv ho =>
    deleteFunc_all  p D.pend g D.pend.length cap KP rfl hsmall (fun W W' h1 h2 => hKP W W' h1 (h2.mono (fun k _ hk => .inr (.inr (.inr (by rw [hv, hk]; rfl)))))) hKG hcall W ho hk)
  have HPF := Lib.hid h.pend.form
  have hdl : D.st.length ≤ 1155 := h.ok.lim
  clear h hvs hvp hcall hl hpl hkp hlok
  go_enter Try.func37, Try.ntmps37
  go_wp2_with fail
  go_loopg [6, 15] D.pend.length (fun gk nv iv wr => ∃ (j : Nat) (os' : List Value), j ≤ D.pend.length ∧ gk = D.pend.length - j ∧ iv = .int .i64 (j : Int) ∧ nv = .int .i64 ((runEnd D p (svN l) (D.pend.take j)).2 : Int) ∧ DevM wr { q with os := os' } (runEnd D p (svN l) (D.pend.take j)).1 ∧ Turned (fun k => q.vs.ownBlock = some k ∨ q.vo.ownBlock = some k) w wr ∧ KP wr ∧ (∀ v ∈ os', v ∈ q.os ∨ ∃ g, v.ownBlock = some g ∧ w.heap.size ≤ g))
  case atStart => exact ⟨0, q.os, Nat.zero_le _, rfl, rfl, rfl, HH.out, Turned.refl _ _, HKP.out, fun v hv => .inl hv⟩
  case round =>
    obtain ⟨j, os', hj, hgk, rfl, rfl, hd, ht, hkpr, hos⟩ := hrel
    have HGK := Lib.hid hgk
    have HD := Lib.hid hd
    have HOS := Lib.hid hos
    have HKR := Lib.hid hkpr
    have HT := Lib.hid ht
    have hxr : q.x < wr.heap.size := by have := ht.size; omega
    clear hgk hos hkpr
    by_cases hlt : j < D.pend.length
    · obtain ⟨b, off, rfl, hbb, z0, z1, z2⟩ := wr_at (HPL.out.keptT (Nat.le_refl _) ht (fun _ b off e => HVPT.out b off e)) hlt
      have HPJ := Lib.hid (HPOK.out D.pend[j] (List.getElem_mem hlt))
      have HSN := Lib.hid (runEnd_snoc D p (svN l) D.pend j hlt)
      have hcnt := runEnd_cnt D p (svN l) (D.pend.take j)
      have hcl : (runEnd D p (svN l) (D.pend.take j)).2 ≤ j := by rw [hcnt]; exact Nat.le_trans (List.length_filter_le _ _) (by rw [List.length_take]; omega)
      have hk' := (HKEPT j).out
      have hel := hk'.len
      clear hcnt hd ht
      generalize D.pend[j] = r at *
      generalize hE : runEnd D p (svN l) (D.pend.take j) = E at *
      obtain ⟨E, cnt⟩ := E
      simp only at hcl hk' hel
      have HE := Lib.hid hE
      clear hE
      have gal := (Grew.refl wr).alloc (.cells #[.int .i64 r.sys, .int .i64 (r.sec : Int), .string r.data] 77)
      have HC := Lib.hid (HCALL _ r (hKG _ _ HKR.out gal)).out
      have hbl := Blk.new wr 77 #[.int .i64 r.sys, .int .i64 (r.sec : Int), .string r.data] rfl
      have HDA := Lib.hid (HD.out.grew gal)
      have HTA := Lib.hid (HT.out.andGrew gal)
      have HKA := Lib.hid (hKG _ _ HKR.out gal)
      clear gal
      go_wp2_with fail
      refine HC.out.mono ?_
      rintro e w2 ⟨rfl, g2⟩
      have HD2 := Lib.hid (HDA.out.grew g2)
      have HT2 := Lib.hid (HTA.out.andGrew g2)
      have HK2 := Lib.hid (hKG _ _ HKA.out g2)
      have hbl2 := hbl.grew g2
      have hz := g2.size
      simp at hz
      clear g2 hbl z0 z1 z2
      cases hq : p r with
      | false =>
        have HQ := Lib.hid hq
        have HST := Lib.hid (show endStep p (svN l) (E, cnt) r = (E, cnt) from by unfold endStep; rw [hq]; rfl)
        clear hq
        go_wp2_with fail
        go_roundg (D.pend.length - (j + 1))
        case measure => rw [HGK.out]; omega
        case rel => exact ⟨j + 1, os', by omega, by omega, by go_num, by rw [HSN.out, HST.out], by rw [HSN.out, HST.out]; exact HD2.out, HT2.out, HK2.out, HOS.out⟩
      | true =>
        have HQ := Lib.hid hq
        have HST := Lib.hid (show endStep p (svN l) (E, cnt) r = (changeD E r.sec (cutW r (svN l cnt) (E.at r.sec)), cnt + 1) from by unfold endStep; rw [hq]; rfl)
        clear hq
        obtain ⟨hsec, hdsz, _⟩ := HPJ.out
        obtain ⟨n, hn⟩ : ∃ n, svN l cnt = n := ⟨_, rfl⟩
        have hn140 : n ≤ 140 := by rw [← hn]; exact svN_le l cnt
        rw [hn] at HST
        have hat := at_size hk'.ok (show r.sec < E.st.length by rw [hel]; exact hsec)
        have HSZ := Lib.hid (cutW_size (r := r) (n := n) hdsz hat hn140)
        have hsecE : r.sec < E.st.length := by rw [hel]; exact hsec
        have HCH := Lib.hid (change_any (q := { q with os := os' }) (D := E) (w := w2.drew) (HD2.out.grew ((Grew.refl w2).drew)) hsecE (cutW r n (E.at r.sec)) HSZ.out)
        have hbx := HD2.out.blk
        have y0 := HD2.out.st_cell (g := gs) (cap := cs) (by rw [hel]; exact HVS.out) hsecE
        simp only [HVS.out] at hbx
        have hgsw : gs < w2.heap.size := by have := HT2.out.size; omega
        have hxw : q.x < w2.heap.size := by have := HT2.out.size; omega
        have HCW := Lib.hid (show r.data.extract 0 n ++ (E.at r.sec).extract n (E.at r.sec).size = cutW r n (E.at r.sec) from rfl)
        have hds1 : n ≤ r.data.size := by omega
        have hds2 : n ≤ (E.at r.sec).size := by omega
        have hds3 : r.data.size ≤ 140 := by omega
        have hds4 : (E.at r.sec).size ≤ 140 := by omega
        have x0 := hbx.cell 0
        have v0 := hbl2.cell 0
        have v1 := hbl2.cell 1
        have v2 := hbl2.cell 2
        clear hbx hat hdsz
        generalize hEA : E.at r.sec = a at *
        go_upto_if 26 with fail
        go_cut [9] (fun m wx => m = .int .i64 (n : Int) ∧ w2 = wx)
        case first =>
          by_cases hc : cnt < l.length
          · obtain ⟨b3, off3, rfl, hb3, s0⟩ := int_at ((HLS.out.keptT (Nat.le_refl _) HT2.out (fun hp b off e => fun hh => hlA (by simpa using hp) b off e (hh.elim (fun h => .inr (.inl h)) (fun h => .inr (.inr (.inl h))))))) hc
            have hnv : n = (min (max 0 l[cnt]) 140).toNat := by rw [← hn]; unfold svN; rw [List.getD_eq_getElem?_getD, List.getElem?_eq_getElem hc]; rfl
            have hlo := HLOK.out l[cnt] (List.getElem_mem hc)
            unfold okI at hlo
            clear hn
            generalize l[cnt] = u at *
            by_cases h1 : u ≤ 0
            · obtain rfl : n = 0 := by omega
              clear hnv
              rcases Int.lt_or_eq_of_le h1 with h2 | rfl
              · go_wp2_with fail
                go_meet
                exact ⟨rfl, rfl⟩
              · go_wp2_with fail
                go_meet
                exact ⟨rfl, rfl⟩
            · by_cases h2 : u < 140
              · obtain rfl : u = (n : Int) := by omega
                clear hnv
                go_wp2_with fail
                go_meet
                exact ⟨rfl, rfl⟩
              · obtain rfl : n = 140 := by omega
                clear hnv
                rcases Int.lt_or_eq_of_le (show (140 : Int) ≤ u by omega) with h3 | rfl
                · go_wp2_with fail
                  go_meet
                  exact ⟨rfl, rfl⟩
                · go_wp2_with fail
                  go_meet
                  exact ⟨rfl, rfl⟩
          · obtain rfl : n = 0 := by rw [← hn]; unfold svN; rw [List.getD_eq_getElem?_getD, List.getElem?_eq_none (by omega)]; rfl
            clear hn
            go_wp2_with fail
            go_meet
            exact ⟨rfl, rfl⟩
        case rest =>
          obtain ⟨rfl, rfl⟩ := hcut
          clear hn
          go_wp2_with fail
          refine wp_region_R [18] (fun w' : World => w'.cell? ⟨wr.heap.size, 1, none⟩ = some (.int .i64 (r.sec : Int)) ∧ w'.cell? ⟨wr.heap.size, 2, none⟩ = some (.string r.data) ∧ w'.cell? ⟨q.x, 0, none⟩ = some (.slice (some ⟨gs, 0, none⟩) D.st.length cs) ∧ w'.cell? ⟨gs, r.sec, none⟩ = some (.string a)) (by kernel_rfl) ?_
          have hS := (show (fun w' : World => w'.cell? ⟨wr.heap.size, 1, none⟩ = some (.int .i64 (r.sec : Int)) ∧ w'.cell? ⟨wr.heap.size, 2, none⟩ = some (.string r.data) ∧ w'.cell? ⟨q.x, 0, none⟩ = some (.slice (some ⟨gs, 0, none⟩) D.st.length cs) ∧ w'.cell? ⟨gs, r.sec, none⟩ = some (.string a)) w2.drew from ⟨v1, v2, x0, y0⟩)
          refine wpAnyR_takeQ (i := 0) (v := ?_) (some 35) rfl rfl (by kernel_rfl) (by kernel_rfl) (by kernel_rfl) (by kernel_rfl) (fun _ _ _ h => h) (Or.inl ⟨by rfl, ?_⟩) ?_
          rotate_left
          focus (intro wS hSw; (try dsimp only at hSw); go_simp; (try with_reducible rfl); (try (first | (rw [if_pos (by omega)]; (try go_simp); (try with_reducible rfl)) | (rw [if_neg (by omega)]; (try go_simp); (try with_reducible rfl)))))
          try simp only [Act.put, List.setIfInBounds_toArray, List.set_cons_zero, List.set_cons_succ]
          refine wpAnyR_takeQ (i := 1) (v := ?_) (some 36) rfl rfl (by kernel_rfl) (by kernel_rfl) (by kernel_rfl) (by kernel_rfl) (fun _ _ _ h => h) (Or.inl ⟨by rfl, ?_⟩) ?_
          rotate_left
          focus (intro wS hSw; (try dsimp only at hSw); go_simp; (try with_reducible rfl); (try (first | (rw [if_pos (by omega)]; (try go_simp); (try with_reducible rfl)) | (rw [if_neg (by omega)]; (try go_simp); (try with_reducible rfl)))))
          try simp only [Act.put, List.setIfInBounds_toArray, List.set_cons_zero, List.set_cons_succ]
          refine wpAnyR_take (i := 2) (v := ?_) [18] (some 37) rfl rfl (by kernel_rfl) (by kernel_rfl) (by kernel_rfl) (by kernel_rfl) (by kernel_rfl) (by kernel_rfl) (by kernel_rfl) (fun _ _ _ h => h) (Or.inl ⟨by rfl, ?_⟩) hS ?_
          rotate_left
          focus (intro wS hSw; (try dsimp only at hSw); go_simp; (try with_reducible rfl); (try (first | (rw [if_pos (by omega)]; (try go_simp); (try with_reducible rfl)) | (rw [if_neg (by omega)]; (try go_simp); (try with_reducible rfl)))))
          try simp only [Act.put, List.setIfInBounds_toArray, List.set_cons_zero, List.set_cons_succ]
          refine wpAnyR_takeQ (i := 3) (v := ?_) (some 38) rfl rfl (by kernel_rfl) (by kernel_rfl) (by kernel_rfl) (by kernel_rfl) (fun _ _ _ h => h) (Or.inl ⟨by rfl, ?_⟩) ?_
          rotate_left
          focus (intro wS hSw; (try dsimp only at hSw); go_simp; (try with_reducible rfl); (try (first | (rw [if_pos (by omega)]; (try go_simp); (try with_reducible rfl)) | (rw [if_neg (by omega)]; (try go_simp); (try with_reducible rfl)))))
          try simp only [Act.put, List.setIfInBounds_toArray, List.set_cons_zero, List.set_cons_succ]
          refine wpAnyR_take (i := 4) (v := ?_) [6, 17, 18] (some 39) rfl rfl (by kernel_rfl) (by kernel_rfl) (by kernel_rfl) (by kernel_rfl) (by kernel_rfl) (by kernel_rfl) (by kernel_rfl) (fun _ _ _ h => h) (Or.inl ⟨by rfl, ?_⟩) hS ?_
          rotate_left
          focus (intro wS hSw; (try dsimp only at hSw); go_simp; (try with_reducible rfl); (try (first | (rw [if_pos (by omega)]; (try go_simp); (try with_reducible rfl)) | (rw [if_neg (by omega)]; (try go_simp); (try with_reducible rfl)))))
          try simp only [Act.put, List.setIfInBounds_toArray, List.set_cons_zero, List.set_cons_succ]
          refine wpAnyR_takeQ (i := 5) (v := ?_) (some 40) rfl rfl (by kernel_rfl) (by kernel_rfl) (by kernel_rfl) (by kernel_rfl) (fun _ _ _ h => h) (Or.inl ⟨by rfl, ?_⟩) ?_
          rotate_left
          focus (intro wS hSw; (try dsimp only at hSw); go_simp; (try with_reducible rfl); (try (first | (rw [if_pos (by omega)]; (try go_simp); (try with_reducible rfl)) | (rw [if_neg (by omega)]; (try go_simp); (try with_reducible rfl)))))
          try simp only [Act.put, List.setIfInBounds_toArray, List.set_cons_zero, List.set_cons_succ]
          refine wpAnyR_takeQ (i := 6) (v := ?_) (some 41) rfl rfl (by kernel_rfl) (by kernel_rfl) (by kernel_rfl) (by kernel_rfl) (fun _ _ _ h => h) (Or.inl ⟨by rfl, ?_⟩) ?_
          rotate_left
          focus (intro wS hSw; (try dsimp only at hSw); go_simp; (try with_reducible rfl); (try (first | (rw [if_pos (by omega)]; (try go_simp); (try with_reducible rfl)) | (rw [if_neg (by omega)]; (try go_simp); (try with_reducible rfl)))))
          try simp only [Act.put, List.setIfInBounds_toArray, List.set_cons_zero, List.set_cons_succ]
          refine wpAnyR_takeQ (i := 7) (v := ?_) (some 42) rfl rfl (by kernel_rfl) (by kernel_rfl) (by kernel_rfl) (by kernel_rfl) (fun _ _ _ h => h) (Or.inl ⟨by rfl, ?_⟩) ?_
          rotate_left
          focus (intro wS hSw; (try dsimp only at hSw); go_simp; (try with_reducible rfl); (try (first | (rw [if_pos (by omega)]; (try go_simp); (try with_reducible rfl)) | (rw [if_neg (by omega)]; (try go_simp); (try with_reducible rfl)))))
          try simp only [Act.put, List.setIfInBounds_toArray, List.set_cons_zero, List.set_cons_succ]
          refine wpAnyR_take (i := 8) (v := ?_) [9, 10, 13, 14, 16, 17, 18] (some 43) rfl rfl (by kernel_rfl) (by kernel_rfl) (by kernel_rfl) (by kernel_rfl) (by kernel_rfl) (by kernel_rfl) (by kernel_rfl) (fun _ _ _ h => h) (Or.inl ⟨by rfl, ?_⟩) hS ?_
          rotate_left
          focus (intro wS hSw; (try dsimp only at hSw); go_simp; (try with_reducible rfl); (try (first | (rw [if_pos (by omega)]; (try go_simp); (try with_reducible rfl)) | (rw [if_neg (by omega)]; (try go_simp); (try with_reducible rfl)))))
          try simp only [Act.put, List.setIfInBounds_toArray, List.set_cons_zero, List.set_cons_succ]
          refine wpAnyR_takeQ (i := 9) (v := ?_) (some 44) rfl rfl (by kernel_rfl) (by kernel_rfl) (by kernel_rfl) (by kernel_rfl) (fun _ _ _ h => h) (Or.inl ⟨by rfl, ?_⟩) ?_
          rotate_left
          focus (intro wS hSw; (try dsimp only at hSw); go_simp; (try with_reducible rfl); (try (first | (rw [if_pos (by omega)]; (try go_simp); (try with_reducible rfl)) | (rw [if_neg (by omega)]; (try go_simp); (try with_reducible rfl)))))
          try simp only [Act.put, List.setIfInBounds_toArray, List.set_cons_zero, List.set_cons_succ]
          refine wpAnyR_take (i := 10) (v := ?_) [13, 14, 16, 17, 18] (some 45) rfl rfl (by kernel_rfl) (by kernel_rfl) (by kernel_rfl) (by kernel_rfl) (by kernel_rfl) (by kernel_rfl) (by kernel_rfl) (fun _ _ _ h => h) (Or.inl ⟨by rfl, ?_⟩) hS ?_
          rotate_left
          focus (intro wS hSw; (try dsimp only at hSw); go_simp; (try with_reducible rfl); (try (first | (rw [if_pos (by omega)]; (try go_simp); (try with_reducible rfl)) | (rw [if_neg (by omega)]; (try go_simp); (try with_reducible rfl)))))
          try simp only [Act.put, List.setIfInBounds_toArray, List.set_cons_zero, List.set_cons_succ]
          refine wpAnyR_takeQ (i := 11) (v := ?_) (some 46) rfl rfl (by kernel_rfl) (by kernel_rfl) (by kernel_rfl) (by kernel_rfl) (fun _ _ _ h => h) (Or.inl ⟨by rfl, ?_⟩) ?_
          rotate_left
          focus (intro wS hSw; (try dsimp only at hSw); go_simp; (try with_reducible rfl); (try (first | (rw [if_pos (by omega)]; (try go_simp); (try with_reducible rfl)) | (rw [if_neg (by omega)]; (try go_simp); (try with_reducible rfl)))))
          try simp only [Act.put, List.setIfInBounds_toArray, List.set_cons_zero, List.set_cons_succ]
          refine wpAnyR_take (i := 12) (v := ?_) [13, 14, 16, 17, 18] (some 47) rfl rfl (by kernel_rfl) (by kernel_rfl) (by kernel_rfl) (by kernel_rfl) (by kernel_rfl) (by kernel_rfl) (by kernel_rfl) (fun _ _ _ h => h) (Or.inl ⟨by rfl, ?_⟩) hS ?_
          rotate_left
          focus (intro wS hSw; (try dsimp only at hSw); go_simp; (try with_reducible rfl); (try (first | (rw [if_pos (by omega)]; (try go_simp); (try with_reducible rfl)) | (rw [if_neg (by omega)]; (try go_simp); (try with_reducible rfl)))))
          try simp only [Act.put, List.setIfInBounds_toArray, List.set_cons_zero, List.set_cons_succ]
          refine wpAnyR_takeQ (i := 13) (v := ?_) (some 48) rfl rfl (by kernel_rfl) (by kernel_rfl) (by kernel_rfl) (by kernel_rfl) (fun _ _ _ h => h) (Or.inl ⟨by rfl, ?_⟩) ?_
          rotate_left
          focus (intro wS hSw; (try dsimp only at hSw); go_simp; (try with_reducible rfl); (try (first | (rw [if_pos (by omega)]; (try go_simp); (try with_reducible rfl)) | (rw [if_neg (by omega)]; (try go_simp); (try with_reducible rfl)))))
          try simp only [Act.put, List.setIfInBounds_toArray, List.set_cons_zero, List.set_cons_succ]
          refine wpAnyR_take (i := 14) (v := ?_) [16, 17, 18] (some 49) rfl rfl (by kernel_rfl) (by kernel_rfl) (by kernel_rfl) (by kernel_rfl) (by kernel_rfl) (by kernel_rfl) (by kernel_rfl) (fun _ _ _ h => h) (Or.inl ⟨by rfl, ?_⟩) hS ?_
          rotate_left
          focus (intro wS hSw; (try dsimp only at hSw); go_simp; (try with_reducible rfl); (try (first | (rw [if_pos (by omega)]; (try go_simp); (try with_reducible rfl)) | (rw [if_neg (by omega)]; (try go_simp); (try with_reducible rfl)))))
          try simp only [Act.put, List.setIfInBounds_toArray, List.set_cons_zero, List.set_cons_succ]
          refine wpAnyR_takeQ (i := 15) (v := ?_) (some 50) rfl rfl (by kernel_rfl) (by kernel_rfl) (by kernel_rfl) (by kernel_rfl) (fun _ _ _ h => h) (Or.inl ⟨by rfl, ?_⟩) ?_
          rotate_left
          focus (intro wS hSw; (try dsimp only at hSw); go_simp; (try with_reducible rfl); (try (first | (rw [if_pos (by omega)]; (try go_simp); (try with_reducible rfl)) | (rw [if_neg (by omega)]; (try go_simp); (try with_reducible rfl)))))
          try simp only [Act.put, List.setIfInBounds_toArray, List.set_cons_zero, List.set_cons_succ]
          refine wpAnyR_takeQ (i := 16) (v := ?_) (some 51) rfl rfl (by kernel_rfl) (by kernel_rfl) (by kernel_rfl) (by kernel_rfl) (fun _ _ _ h => h) (Or.inl ⟨by rfl, ?_⟩) ?_
          rotate_left
          focus (intro wS hSw; (try dsimp only at hSw); go_simp; (try with_reducible rfl); (try (first | (rw [if_pos (by omega)]; (try go_simp); (try with_reducible rfl)) | (rw [if_neg (by omega)]; (try go_simp); (try with_reducible rfl)))))
          try simp only [Act.put, List.setIfInBounds_toArray, List.set_cons_zero, List.set_cons_succ]
          refine wpAnyR_takeQ (i := 17) (v := ?_) (some 52) rfl rfl (by kernel_rfl) (by kernel_rfl) (by kernel_rfl) (by kernel_rfl) (fun _ _ _ h => h) (Or.inl ⟨by rfl, ?_⟩) ?_
          rotate_left
          focus (intro wS hSw; (try dsimp only at hSw); go_simp; (try with_reducible rfl); (try (first | (rw [if_pos (by omega)]; (try go_simp); (try with_reducible rfl)) | (rw [if_neg (by omega)]; (try go_simp); (try with_reducible rfl)))))
          try simp only [Act.put, List.setIfInBounds_toArray, List.set_cons_zero, List.set_cons_succ]
          try rw [HCW.out]
          refine wpAnyR_n1 (i := 18) rfl (by kernel_rfl) ?_
          intro K' hK
          rw [if_pos (by rfl)]
          simp only [List.getElem_toArray, List.getElem_cons_succ, List.getElem_cons_zero]
          go_wp2_with fail
          refine HCH.out.mono ?_
          rintro e w3 ⟨rfl, os3, hd3, ht3, hos3⟩
          go_wp2_with fail
          refine hK.out _ _ (.inl rfl) ?_
          clear hK hS
          refine wpAnyR_done (by kernel_rfl) ?_ _
          have HD3 := Lib.hid hd3
          have HT3 := Lib.hid ((HT2.out.drew).trans ht3)
          have HK3 := Lib.hid (hKP _ _ HK2.out ((Turned.refl q.turns w2).drew.trans (ht3.mono (fun k _ hk => .inr (hk.elim .inl (fun h => .inr (.inl h)))))))
          have HO3 := Lib.hid (show ∀ v ∈ os3, v ∈ q.os ∨ ∃ g, v.ownBlock = some g ∧ w.heap.size ≤ g from fun v hv => (hos3 v hv).elim (fun h9 => HOS.out v h9) (fun ⟨g, h1, h2⟩ => .inr ⟨g, h1, by
            have h5 : w2.drew.heap.size = w2.heap.size := rfl
            have h6 := HT2.out.size
            omega⟩))
          clear hd3 ht3 hos3 x0 y0 v0 v1 v2
          go_wp2_with fail
          go_roundg (D.pend.length - (j + 1))
          case measure => rw [HGK.out]; omega
          case rel => exact ⟨j + 1, os3, by omega, by omega, by go_num, by rw [HSN.out, HST.out]; go_num, by rw [HSN.out, HST.out]; exact HD3.out, HT3.out, HK3.out, HO3.out⟩
    · obtain rfl : j = D.pend.length := by omega
      have hke := (HKEPT D.pend.length).out
      rw [List.take_length] at hd hke
      have hHD : DevM wr { q with os := os' } (runEnd D p (svN l) D.pend).1 := hd
      have hHT := HT.out
      have HKE := Lib.hid hke
      have HHD := Lib.hid hHD
      have hbr := hHD.blk
      have hpo := hHD.pend
      rw [hke.pend] at hpo
      have HPO := Lib.hid hpo
      have HFO := Lib.hid (show ∀ (k : Nat) (vp' : Value), (vp'.ownBlock = some k → q.vp.ownBlock = some k) → ({ q with os := os', vp := vp' } : DevP).feet k → q.feet k ∨ w.heap.size ≤ k from fun k vp' hvp' hk => by
        rcases hk with hk | hk | hk | hk | hk | hk | ⟨v, hv, hk⟩
        · exact .inl (.inl hk)
        · exact .inl (.inr (.inl hk))
        · exact .inl (.inr (.inr (.inl hk)))
        · exact .inl (.inr (.inr (.inr (.inl hk))))
        · exact .inl (.inr (.inr (.inr (.inr (.inl (hvp' hk))))))
        · exact .inl (.inr (.inr (.inr (.inr (.inr (.inl hk))))))
        · rcases HOS.out v hv with h9 | ⟨g, h9, h10⟩
          · exact .inl (.inr (.inr (.inr (.inr (.inr (.inr ⟨v, h9, hk⟩))))))
          · rw [h9] at hk; injection hk with hk; subst hk; exact .inr h10)
      have HTW := Lib.hid (show Turned q.turns w wr from hHT.mono (fun k _ hk => .inr (hk.elim .inl (fun h => .inr (.inl h)))))
      clear HD HT hHD hHT hd ht hke hpo
      rcases HPF.out with ⟨hv0, hr0⟩ | ⟨g, cap, hv1, _, _, _, _⟩
      · have hP0 : D.pend = [] := List.map_eq_nil_iff.1 hr0
        have hpl0 : D.pend.length = 0 := by rw [hP0]; rfl
        have hvp0 := HVP.out
        rw [hv0, hpl0] at hvp0
        injection hvp0 with hA _ hc
        subst hA; subst hc
        have x2r := hbr.cell 2
        have f2r := hbr.frozen 2
        simp only [hv0] at x2r
        have HBR := Lib.hid hbr
        have HV0 := Lib.hid hv0
        have HP0 := Lib.hid hP0
        rw [hpl0]
        clear x2 hbr hv0 hr0
        go_wp2_with fail
        refine (deleteNil_all  wr).mono ?_
        rintro e wx ⟨rfl, rfl⟩
        go_wp2_with fail
        go_end0
        have hnew := HHD.out.new_pend (Turned.refl _ _) (vp' := .slice none 0 0) (P' := []) (by have := HPO.out; rw [HP0.out] at this; simp only [HV0.out] at this; exact this) (fun r hr => by cases hr)
        refine ⟨rfl, { q with os := os', vp := .slice none 0 0 }, ?_, ⟨rfl, rfl, fun k hk => HFO.out k _ (fun h => by cases h) hk⟩, HTW.out.setCell (p := ⟨q.x, 2, none⟩) (fun _ => .inl rfl) _⟩
        rw [HFIN.out]
        have hf0 : (D.pend.filter fun r => !p r) = [] := by rw [HP0.out]; rfl
        rw [hf0]
        exact hnew
      · rw [wrC_len] at hv1
        have hvp0 := HVP.out
        rw [hv1] at hvp0
        injection hvp0 with hA _ hc
        subst hA; subst hc
        have x2r := hbr.cell 2
        simp only [hv1] at x2r
        have hpo := HPO.out
        simp only [hv1] at hpo
        have HCD := Lib.hid (HDEL.out wr g cap HKR.out hv1 hpo)
        have HBR := Lib.hid hbr
        have HV1 := Lib.hid hv1
        have hvb : q.vp.ownBlock = some g := by rw [hv1]; rfl
        have hgx : ¬ q.x = g := fun e => HHD.out.pend.ne_blk HHD.out.blk (by decide) (by show q.vp.ownBlock = _; rw [hvb]; exact congrArg some e.symm)
        clear x2 hbr hv1 hpo
        go_wp2_with fail
        refine HCD.out.mono ?_
        rintro e wx ⟨rfl, hown, htx⟩
        have hbx := HBR.out.turned htx hgx
        have hxx := hbx.lt
        have x2x := hbx.cell 2
        have f2x := hbx.frozen 2
        have hnew := HHD.out.new_pend (w1 := wx) (htx.mono (fun k _ hk => by rw [hk]; exact hvb)) hown (fun r hr => by have := HPOK.out r (List.mem_filter.1 hr).1; rw [HKE.out.len]; exact this)
        have HNEW := Lib.hid hnew
        have HTX := Lib.hid (show Turned q.turns w wx from HTW.out.trans (htx.mono (fun k _ hk => .inr (.inr (.inr (by rw [hk]; exact hvb))))))
        clear htx hown hbx hnew
        go_wp2_with fail
        go_end0
        refine ⟨rfl, { q with os := os', vp := .slice (some ⟨g, 0, none⟩) (D.pend.filter fun x => !p x).length cap }, ?_, ⟨rfl, rfl, fun k hk => HFO.out k _ (fun h => by rw [hvb]; exact h) hk⟩, HTX.out.setCell (p := ⟨q.x, 2, none⟩) (fun _ => .inl rfl) _⟩
        rw [HFIN.out]
        exact HNEW.out
end
end Go.Proofs.Ytklojcgbokmkhaa
