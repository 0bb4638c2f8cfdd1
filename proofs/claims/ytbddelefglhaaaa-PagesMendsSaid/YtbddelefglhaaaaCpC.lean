/- Chapter 3: finish. Chapter 3: plain and admit. Chapter 3: Write. Chapter 3: Crash, Sync. -/
import Derived.OwnWalk
import Derived.Test.YtbddelefglhaaaaCpB
namespace Go.Proofs.Ytbddelefglhaaaa
set_option linter.unusedVariables false
set_option linter.unusedSimpArgs false
set_option linter.unusedSectionVars false
open Go.RowKit
open Go.Maps (Keyed)
attribute [local go_sem ↓] Go.wp_at_zero Go.wp_at_succ
theorem int_at {w : World} {B : Nat} {A : Option Addr} {l : List Int} (h : ListAt w B 1 A (l.map intC)) {k : Nat} (hk : k < l.length) :
    ∃ b off, A = some ⟨b, off, none⟩ ∧ b < B ∧ w.cell? ⟨b, off + k, none⟩ = some (.int .i64 l[k]) := by
  obtain ⟨b, off, e, hb, hc⟩ := h (by simp; omega)
  have hcc := hc k (intC l[k]) (by rw [List.getElem?_map, List.getElem?_eq_getElem hk]; rfl)
  have := hcc 0 _ rfl
  rw [Nat.mul_one, Nat.add_zero] at this
  exact ⟨b, off, e, hb, this⟩
/-- A list in memory, in a block that does not turn. -/
theorem ListAt.keptT {w w' : World} {B sz : Nat} {A : Option Addr} {cells : List (List Value)} (h : ListAt w B sz A cells) (hB : B ≤ w.heap.size) {S : Nat → Prop} (ht : Turned S w w') (hS : 0 < cells.length → ∀ b (off : Nat), A = some ⟨b, off, Option.none⟩ → ¬ S b) : ListAt w' B sz A cells :=
  fun hl => by
    obtain ⟨b, off, e, hb, hc⟩ := h hl
    exact ⟨b, off, e, hb, fun j cs hj i v hi => (ht.cellEq _ _ (Nat.lt_of_lt_of_le hb hB) (hS hl b off e)).trans (hc j cs hj i v hi)⟩
/-- What a device's calls turn. -/
def DevP.turns (q : DevP) (k : Nat) : Prop := k = q.x ∨ q.vs.ownBlock = some k ∨ q.vo.ownBlock = some k ∨ q.vp.ownBlock = some k
theorem DevP.turns_feet (q : DevP) (k : Nat) (h : q.turns k) : q.feet k := h.elim .inl (fun h => h.elim (fun h => .inr (.inr (.inl h))) (fun h => h.elim (fun h => .inr (.inr (.inr (.inl h)))) (fun h => .inr (.inr (.inr (.inr (.inl h)))))))
/-- The blocks of the device behind a call: its former ones and new ones. -/
structure Foot' (w : World) (q q' : DevP) : Prop where
  x : q'.x = q.x
  m : q'.m = q.m
  feet : ∀ k, q'.feet k → q.feet k ∨ w.heap.size ≤ k
theorem Foot'.refl (w : World) (q : DevP) : Foot' w q q := ⟨rfl, rfl, fun _ h => .inl h⟩
theorem Foot'.trans {w w' : World} {a b c : DevP} (h : Foot' w a b) (k : Foot' w' b c) (hs : w.heap.size ≤ w'.heap.size) : Foot' w a c :=
  ⟨k.x.trans h.x, k.m.trans h.m, fun i hi => (k.feet i hi).elim (h.feet i) (fun h9 => .inr (Nat.le_trans hs h9))⟩
section
variable {w w1 : World} {q : DevP} {D : Dev}
theorem DevM.new_pend (h : DevM w q D) (ht : Turned (fun k => q.vp.ownBlock = some k) w w1) {vp' : Value} {P' : List Wr} (hown : OwnL w1 0 140 3 vp' (P'.map wrC)) (hok : ∀ r ∈ P', r.sec < D.st.length ∧ r.data.size = 140 ∧ (1 ≤ r.sys ∧ r.sys ≤ 4)) :
    DevM (w1.setCell ⟨q.x, 2, none⟩ vp') { q with vp := vp' } { D with pend := P' } := by
  have hbx := h.pend.ne_blk h.blk (by decide)
  have hb := (h.blk.turned ht hbx)
  have h1 := h.st.kept ht (own_own_ne h.st h.pend (by decide))
  have h2 := h.old.kept ht (own_own_ne h.old h.pend (by decide))
  have h3 := h.sv.kept ht (own_own_ne h.sv h.pend (by decide))
  have hm : ¬ q.vp.ownBlock = some q.m := own_map_ne h.pend h.map
  have h4 := h.map.turned ht hm
  refine ⟨(hb.set_ 2 vp').conv rfl, h1.far (p := ⟨q.x, 2, none⟩) (h1.ne_blk hb (by decide)) _, h2.far (p := ⟨q.x, 2, none⟩) (h2.ne_blk hb (by decide)) _, h.olen, fun j v l hv hl => ?_, hown.far (p := ⟨q.x, 2, none⟩) (hown.ne_blk hb (by decide)) _,
    h3.far (p := ⟨q.x, 2, none⟩) (h3.ne_blk hb (by decide)) _, h4.far (p := ⟨q.x, 2, none⟩) (fun e => blk_map_ne hb h4 e.symm) _, h.fen, h.fuse, h.left, h.svok, ⟨h.ok.len, h.ok.pos, h.ok.lim, h.ok.st, h.ok.old, hok, h.ok.fen⟩⟩
  obtain ⟨h5, h6⟩ := h.each j v l hv hl
  have h7 := h5.kept ht (own_own_ne h5 h.pend (by decide))
  exact ⟨h7.far (p := ⟨q.x, 2, none⟩) (h7.ne_blk hb (by decide)) _, h6⟩
end
section
variable (bs : Nat) {w : World} {q : DevP} {D : Dev} (h : DevM w q D) (p : Wr → Bool) (A2 : Option Addr) (c2 : Nat) (l : List Int) (KP : World → Prop) (hl : ListAt w w.heap.size 1 A2 (l.map intC)) (hlA : 0 < l.length → ∀ b off, A2 = some ⟨b, off, none⟩ → ¬ q.turns b) (hlen : l.length ≤ 9223372036854775807) (hlok : ∀ n ∈ l, okI n) (hsmall : D.pend.length ≤ 1000000)
  (hKP : ∀ W W', KP W → Turned q.turns W W' → KP W') (hKG : ∀ W W', KP W → Grew W W' → KP W') (hkp : KP w)
  (hcall : ∀ W (r : Wr), KP W → Calls Try.prog 113 #[.agg #[.int .i64 r.sys, .int .i64 (r.sec : Int), .string r.data], .pointer (some ⟨bs, 0, none⟩)] W fun e w' => e = .returned (.bool (p r)) ∧ Grew W w')
include h hl hlA hlen hlok hsmall hKP hKG hkp hcall
set_option maxRecDepth 100000 in
set_option maxHeartbeats 8000000 in
theorem finish_of : Calls Try.prog 102 #[.pointer (some ⟨q.x, 0, none⟩), .func (.func 113) #[] #[.pointer (some ⟨bs, 0, none⟩)], .slice A2 l.length c2] w fun e w' => e = .returned (.tuple #[]) ∧ ∃ q', DevM w' q' (finishD D p (svN l)) ∧ Foot' w q q' ∧ Turned q.turns w w' := by
  obtain ⟨gs, cs, hvs, hgs, hs1, hs2, hs3⟩ := h.st_form
  obtain ⟨A, c, hvp, hc1, hc2, hpl⟩ := h.pend_list
  have hk := h.blk
  rw [hvs, hvp] at hk
  have hxl := hk.lt
  have x2 := hk.cell 2
  have HH := Lib.hid h
  have HCALL := fun W r hk => Lib.hid (hcall W r hk)
  have HKEPT := fun j => Lib.hid (runEnd_kept h.ok p (svN l) (svN_le l) (D.pend.take j) (fun r hr => List.mem_of_mem_take hr))
  have HVS := Lib.hid hvs
  have HVP := Lib.hid hvp
  have HLS := Lib.hid hl
  have HPL := Lib.hid hpl
  have HKP := Lib.hid hkp
  have HLOK := Lib.hid hlok
  have HPOK := Lib.hid h.ok.pend
  have HVPT := Lib.hid (show ∀ b off, A = some ⟨b, off, none⟩ → ¬ (q.vs.ownBlock = some b ∨ q.vo.ownBlock = some b) from fun b off e hh => by
    have hb : q.vp.ownBlock = some b := by
      rcases h.pend.form with ⟨hv, _⟩ | ⟨g, cap, hv, _⟩
      · rw [hvp] at hv; injection hv with hv _ _; rw [hv] at e; cases e
      · rw [hvp] at hv; injection hv with hv _ _; rw [hv] at e; injection e with e; injection e with e _ _; rw [hvp, hv, e]; rfl
    rcases hh with hh | hh
    · exact own_own_ne h.st h.pend (by decide) b hh hb
    · exact own_own_ne h.old h.pend (by decide) b hh hb)
  have HFIN := Lib.hid (show finishD D p (svN l) = { (runEnd D p (svN l) D.pend).1 with pend := D.pend.filter fun r => !p r } from rfl)
  have HDEL := Lib.hid (show ∀ (W : World) g cap, KP W → q.vp = .slice (some ⟨g, 0, none⟩) D.pend.length cap → OwnL W 0 140 3 (.slice (some ⟨g, 0, none⟩) D.pend.length cap) (D.pend.map wrC) → Calls Try.prog 112 #[.slice (some ⟨g, 0, none⟩) D.pend.length cap, .func (.func 113) #[] #[.pointer (some ⟨bs, 0, none⟩)]] W fun e w' =>
      e = .returned (.slice (some ⟨g, 0, none⟩) (D.pend.filter fun x => !p x).length cap) ∧ OwnL w' 0 140 3 (.slice (some ⟨g, 0, none⟩) (D.pend.filter fun x => !p x).length cap) ((D.pend.filter fun x => !p x).map wrC) ∧ Turned (fun k => k = g) W w' from fun W g cap hk hv ho =>
    deleteFunc_of bs p D.pend g D.pend.length cap KP rfl hsmall (fun W W' h1 h2 => hKP W W' h1 (h2.mono (fun k _ hk => .inr (.inr (.inr (by rw [hv, hk]; rfl)))))) hKG hcall W ho hk)
  have HPF := Lib.hid h.pend.form
  have hdl : D.st.length ≤ 1155 := h.ok.lim
  clear h hvs hvp hcall hl hpl hkp hlok
  go_enter Try.func102, Try.ntmps102
  go_wp2_with fail
  go_loopg [6, 15] D.pend.length (fun gk nv iv wr => ∃ (j : Nat) (os' : List Value), j ≤ D.pend.length ∧ gk = D.pend.length - j ∧ iv = .int .i64 (j : Int) ∧ nv = .int .i64 ((runEnd D p (svN l) (D.pend.take j)).2 : Int) ∧ DevM wr { q with os := os' } (runEnd D p (svN l) (D.pend.take j)).1 ∧ Turned (fun k => q.vs.ownBlock = some k ∨ q.vo.ownBlock = some k) w wr ∧ KP wr ∧ (∀ v ∈ os', v ∈ q.os ∨ ∃ g, v.ownBlock = some g ∧ w.heap.size ≤ g))
  case atStart => exact ⟨0, q.os, Nat.zero_le _, rfl, rfl, rfl, HH.out, Turned.refl _ _, HKP.out, fun v hv => .inl hv⟩
  case round =>
    obtain ⟨j, os', hj, hgk, rfl, rfl, hd, ht, hkpr, hos⟩ := hrel
    have HGK := Lib.hid hgk
    have HD := Lib.hid hd
    have HOS := Lib.hid hos
    have HKR := Lib.hid hkpr
    have HT := Lib.hid ht
    have hxr : q.x < wr.heap.size := by have := ht.size; omega
    clear hgk hos hkpr
    by_cases hlt : j < D.pend.length
    · obtain ⟨b, off, rfl, hbb, z0, z1, z2⟩ := wr_at (HPL.out.keptT (Nat.le_refl _) ht (fun _ b off e => HVPT.out b off e)) hlt
      have HPJ := Lib.hid (HPOK.out D.pend[j] (List.getElem_mem hlt))
      have HSN := Lib.hid (runEnd_snoc D p (svN l) D.pend j hlt)
      have hcnt := runEnd_cnt D p (svN l) (D.pend.take j)
      have hcl : (runEnd D p (svN l) (D.pend.take j)).2 ≤ j := by rw [hcnt]; exact Nat.le_trans (List.length_filter_le _ _) (by rw [List.length_take]; omega)
      have hk' := (HKEPT j).out
      have hel := hk'.len
      clear hcnt hd ht
      generalize D.pend[j] = r at *
      generalize hE : runEnd D p (svN l) (D.pend.take j) = E at *
      obtain ⟨E, cnt⟩ := E
      simp only at hcl hk' hel
      have HE := Lib.hid hE
      clear hE
      have gal := (Grew.refl wr).alloc (.cells #[.int .i64 r.sys, .int .i64 (r.sec : Int), .string r.data] 140)
      have HC := Lib.hid (HCALL _ r (hKG _ _ HKR.out gal)).out
      have hbl := Blk.new wr 140 #[.int .i64 r.sys, .int .i64 (r.sec : Int), .string r.data] rfl
      have HDA := Lib.hid (HD.out.grew gal)
      have HTA := Lib.hid (HT.out.andGrew gal)
      have HKA := Lib.hid (hKG _ _ HKR.out gal)
      clear gal
      go_wp2_with fail
      refine HC.out.mono ?_
      rintro e w2 ⟨rfl, g2⟩
      have HD2 := Lib.hid (HDA.out.grew g2)
      have HT2 := Lib.hid (HTA.out.andGrew g2)
      have HK2 := Lib.hid (hKG _ _ HKA.out g2)
      have hbl2 := hbl.grew g2
      have hz := g2.size
      simp at hz
      clear g2 hbl z0 z1 z2
      cases hq : p r with
      | false =>
        have HQ := Lib.hid hq
        have HST := Lib.hid (show endStep p (svN l) (E, cnt) r = (E, cnt) from by unfold endStep; rw [hq]; rfl)
        clear hq
        go_wp2_with fail
        go_roundg (D.pend.length - (j + 1))
        case measure => rw [HGK.out]; omega
        case rel => exact ⟨j + 1, os', by omega, by omega, by go_num, by rw [HSN.out, HST.out], by rw [HSN.out, HST.out]; exact HD2.out, HT2.out, HK2.out, HOS.out⟩
      | true =>
        have HQ := Lib.hid hq
        have HST := Lib.hid (show endStep p (svN l) (E, cnt) r = (changeD E r.sec (cutW r (svN l cnt) (E.at r.sec)), cnt + 1) from by unfold endStep; rw [hq]; rfl)
        clear hq
        obtain ⟨hsec, hdsz, _⟩ := HPJ.out
        obtain ⟨n, hn⟩ : ∃ n, svN l cnt = n := ⟨_, rfl⟩
        have hn140 : n ≤ 140 := by rw [← hn]; exact svN_le l cnt
        rw [hn] at HST
        have hat := at_size hk'.ok (show r.sec < E.st.length by rw [hel]; exact hsec)
        have HSZ := Lib.hid (cutW_size (r := r) (n := n) hdsz hat hn140)
        have hsecE : r.sec < E.st.length := by rw [hel]; exact hsec
        have HCH := Lib.hid (change_any (q := { q with os := os' }) (D := E) (w := w2.drew) (HD2.out.grew ((Grew.refl w2).drew)) hsecE (cutW r n (E.at r.sec)) HSZ.out)
        have hbx := HD2.out.blk
        have y0 := HD2.out.st_cell (g := gs) (cap := cs) (by rw [hel]; exact HVS.out) hsecE
        simp only [HVS.out] at hbx
        have hgsw : gs < w2.heap.size := by have := HT2.out.size; omega
        have hxw : q.x < w2.heap.size := by have := HT2.out.size; omega
        have HCW := Lib.hid (show r.data.extract 0 n ++ (E.at r.sec).extract n (E.at r.sec).size = cutW r n (E.at r.sec) from rfl)
        have hds1 : n ≤ r.data.size := by omega
        have hds2 : n ≤ (E.at r.sec).size := by omega
        have hds3 : r.data.size ≤ 140 := by omega
        have hds4 : (E.at r.sec).size ≤ 140 := by omega
        have x0 := hbx.cell 0
        have v0 := hbl2.cell 0
        have v1 := hbl2.cell 1
        have v2 := hbl2.cell 2
        clear hbx hat hdsz
        generalize hEA : E.at r.sec = a at *
        go_upto_if 26 with fail
        go_cut [9] (fun m wx => m = .int .i64 (n : Int) ∧ w2 = wx)
        case first =>
          by_cases hc : cnt < l.length
          · obtain ⟨b3, off3, rfl, hb3, s0⟩ := int_at ((HLS.out.keptT (Nat.le_refl _) HT2.out (fun hp b off e => fun hh => hlA (by simpa using hp) b off e (hh.elim (fun h => .inr (.inl h)) (fun h => .inr (.inr (.inl h))))))) hc
            have hnv : n = (min (max 0 l[cnt]) 140).toNat := by rw [← hn]; unfold svN; rw [List.getD_eq_getElem?_getD, List.getElem?_eq_getElem hc]; rfl
            have hlo := HLOK.out l[cnt] (List.getElem_mem hc)
            unfold okI at hlo
            clear hn
            generalize l[cnt] = u at *
            by_cases h1 : u ≤ 0
            · obtain rfl : n = 0 := by omega
              clear hnv
              rcases Int.lt_or_eq_of_le h1 with h2 | rfl
              · go_wp2_with fail
                go_meet
                exact ⟨rfl, rfl⟩
              · go_wp2_with fail
                go_meet
                exact ⟨rfl, rfl⟩
            · by_cases h2 : u < 140
              · obtain rfl : u = (n : Int) := by omega
                clear hnv
                go_wp2_with fail
                go_meet
                exact ⟨rfl, rfl⟩
              · obtain rfl : n = 140 := by omega
                clear hnv
                rcases Int.lt_or_eq_of_le (show (140 : Int) ≤ u by omega) with h3 | rfl
                · go_wp2_with fail
                  go_meet
                  exact ⟨rfl, rfl⟩
                · go_wp2_with fail
                  go_meet
                  exact ⟨rfl, rfl⟩
          · obtain rfl : n = 0 := by rw [← hn]; unfold svN; rw [List.getD_eq_getElem?_getD, List.getElem?_eq_none (by omega)]; rfl
            clear hn
            go_wp2_with fail
            go_meet
            exact ⟨rfl, rfl⟩
        case rest =>
          obtain ⟨rfl, rfl⟩ := hcut
          clear hn
          go_wp2_with fail
          refine wp_region_R [18] (fun w' : World => w'.cell? ⟨wr.heap.size, 1, none⟩ = some (.int .i64 (r.sec : Int)) ∧ w'.cell? ⟨wr.heap.size, 2, none⟩ = some (.string r.data) ∧ w'.cell? ⟨q.x, 0, none⟩ = some (.slice (some ⟨gs, 0, none⟩) D.st.length cs) ∧ w'.cell? ⟨gs, r.sec, none⟩ = some (.string a)) (by kernel_rfl) ?_
          have hS := (show (fun w' : World => w'.cell? ⟨wr.heap.size, 1, none⟩ = some (.int .i64 (r.sec : Int)) ∧ w'.cell? ⟨wr.heap.size, 2, none⟩ = some (.string r.data) ∧ w'.cell? ⟨q.x, 0, none⟩ = some (.slice (some ⟨gs, 0, none⟩) D.st.length cs) ∧ w'.cell? ⟨gs, r.sec, none⟩ = some (.string a)) w2.drew from ⟨v1, v2, x0, y0⟩)
          refine wpAnyR_takeQ (i := 0) (v := ?_) (some 35) rfl rfl (by kernel_rfl) (by kernel_rfl) (by kernel_rfl) (by kernel_rfl) (fun _ _ _ h => h) (Or.inl ⟨by rfl, ?_⟩) ?_
          rotate_left
          focus (intro wS hSw; (try dsimp only at hSw); go_simp; (try with_reducible rfl); (try (first | (rw [if_pos (by omega)]; (try go_simp); (try with_reducible rfl)) | (rw [if_neg (by omega)]; (try go_simp); (try with_reducible rfl)))))
          try simp only [Act.put, List.setIfInBounds_toArray, List.set_cons_zero, List.set_cons_succ]
          refine wpAnyR_takeQ (i := 1) (v := ?_) (some 36) rfl rfl (by kernel_rfl) (by kernel_rfl) (by kernel_rfl) (by kernel_rfl) (fun _ _ _ h => h) (Or.inl ⟨by rfl, ?_⟩) ?_
          rotate_left
          focus (intro wS hSw; (try dsimp only at hSw); go_simp; (try with_reducible rfl); (try (first | (rw [if_pos (by omega)]; (try go_simp); (try with_reducible rfl)) | (rw [if_neg (by omega)]; (try go_simp); (try with_reducible rfl)))))
          try simp only [Act.put, List.setIfInBounds_toArray, List.set_cons_zero, List.set_cons_succ]
          refine wpAnyR_take (i := 2) (v := ?_) [18] (some 37) rfl rfl (by kernel_rfl) (by kernel_rfl) (by kernel_rfl) (by kernel_rfl) (by kernel_rfl) (by kernel_rfl) (by kernel_rfl) (fun _ _ _ h => h) (Or.inl ⟨by rfl, ?_⟩) hS ?_
          rotate_left
          focus (intro wS hSw; (try dsimp only at hSw); go_simp; (try with_reducible rfl); (try (first | (rw [if_pos (by omega)]; (try go_simp); (try with_reducible rfl)) | (rw [if_neg (by omega)]; (try go_simp); (try with_reducible rfl)))))
          try simp only [Act.put, List.setIfInBounds_toArray, List.set_cons_zero, List.set_cons_succ]
          refine wpAnyR_takeQ (i := 3) (v := ?_) (some 38) rfl rfl (by kernel_rfl) (by kernel_rfl) (by kernel_rfl) (by kernel_rfl) (fun _ _ _ h => h) (Or.inl ⟨by rfl, ?_⟩) ?_
          rotate_left
          focus (intro wS hSw; (try dsimp only at hSw); go_simp; (try with_reducible rfl); (try (first | (rw [if_pos (by omega)]; (try go_simp); (try with_reducible rfl)) | (rw [if_neg (by omega)]; (try go_simp); (try with_reducible rfl)))))
          try simp only [Act.put, List.setIfInBounds_toArray, List.set_cons_zero, List.set_cons_succ]
          refine wpAnyR_take (i := 4) (v := ?_) [6, 17, 18] (some 39) rfl rfl (by kernel_rfl) (by kernel_rfl) (by kernel_rfl) (by kernel_rfl) (by kernel_rfl) (by kernel_rfl) (by kernel_rfl) (fun _ _ _ h => h) (Or.inl ⟨by rfl, ?_⟩) hS ?_
          rotate_left
          focus (intro wS hSw; (try dsimp only at hSw); go_simp; (try with_reducible rfl); (try (first | (rw [if_pos (by omega)]; (try go_simp); (try with_reducible rfl)) | (rw [if_neg (by omega)]; (try go_simp); (try with_reducible rfl)))))
          try simp only [Act.put, List.setIfInBounds_toArray, List.set_cons_zero, List.set_cons_succ]
          refine wpAnyR_takeQ (i := 5) (v := ?_) (some 40) rfl rfl (by kernel_rfl) (by kernel_rfl) (by kernel_rfl) (by kernel_rfl) (fun _ _ _ h => h) (Or.inl ⟨by rfl, ?_⟩) ?_
          rotate_left
          focus (intro wS hSw; (try dsimp only at hSw); go_simp; (try with_reducible rfl); (try (first | (rw [if_pos (by omega)]; (try go_simp); (try with_reducible rfl)) | (rw [if_neg (by omega)]; (try go_simp); (try with_reducible rfl)))))
          try simp only [Act.put, List.setIfInBounds_toArray, List.set_cons_zero, List.set_cons_succ]
          refine wpAnyR_takeQ (i := 6) (v := ?_) (some 41) rfl rfl (by kernel_rfl) (by kernel_rfl) (by kernel_rfl) (by kernel_rfl) (fun _ _ _ h => h) (Or.inl ⟨by rfl, ?_⟩) ?_
          rotate_left
          focus (intro wS hSw; (try dsimp only at hSw); go_simp; (try with_reducible rfl); (try (first | (rw [if_pos (by omega)]; (try go_simp); (try with_reducible rfl)) | (rw [if_neg (by omega)]; (try go_simp); (try with_reducible rfl)))))
          try simp only [Act.put, List.setIfInBounds_toArray, List.set_cons_zero, List.set_cons_succ]
          refine wpAnyR_takeQ (i := 7) (v := ?_) (some 42) rfl rfl (by kernel_rfl) (by kernel_rfl) (by kernel_rfl) (by kernel_rfl) (fun _ _ _ h => h) (Or.inl ⟨by rfl, ?_⟩) ?_
          rotate_left
          focus (intro wS hSw; (try dsimp only at hSw); go_simp; (try with_reducible rfl); (try (first | (rw [if_pos (by omega)]; (try go_simp); (try with_reducible rfl)) | (rw [if_neg (by omega)]; (try go_simp); (try with_reducible rfl)))))
          try simp only [Act.put, List.setIfInBounds_toArray, List.set_cons_zero, List.set_cons_succ]
          refine wpAnyR_take (i := 8) (v := ?_) [9, 10, 13, 14, 16, 17, 18] (some 43) rfl rfl (by kernel_rfl) (by kernel_rfl) (by kernel_rfl) (by kernel_rfl) (by kernel_rfl) (by kernel_rfl) (by kernel_rfl) (fun _ _ _ h => h) (Or.inl ⟨by rfl, ?_⟩) hS ?_
          rotate_left
          focus (intro wS hSw; (try dsimp only at hSw); go_simp; (try with_reducible rfl); (try (first | (rw [if_pos (by omega)]; (try go_simp); (try with_reducible rfl)) | (rw [if_neg (by omega)]; (try go_simp); (try with_reducible rfl)))))
          try simp only [Act.put, List.setIfInBounds_toArray, List.set_cons_zero, List.set_cons_succ]
          refine wpAnyR_takeQ (i := 9) (v := ?_) (some 44) rfl rfl (by kernel_rfl) (by kernel_rfl) (by kernel_rfl) (by kernel_rfl) (fun _ _ _ h => h) (Or.inl ⟨by rfl, ?_⟩) ?_
          rotate_left
          focus (intro wS hSw; (try dsimp only at hSw); go_simp; (try with_reducible rfl); (try (first | (rw [if_pos (by omega)]; (try go_simp); (try with_reducible rfl)) | (rw [if_neg (by omega)]; (try go_simp); (try with_reducible rfl)))))
          try simp only [Act.put, List.setIfInBounds_toArray, List.set_cons_zero, List.set_cons_succ]
          refine wpAnyR_take (i := 10) (v := ?_) [13, 14, 16, 17, 18] (some 45) rfl rfl (by kernel_rfl) (by kernel_rfl) (by kernel_rfl) (by kernel_rfl) (by kernel_rfl) (by kernel_rfl) (by kernel_rfl) (fun _ _ _ h => h) (Or.inl ⟨by rfl, ?_⟩) hS ?_
          rotate_left
          focus (intro wS hSw; (try dsimp only at hSw); go_simp; (try with_reducible rfl); (try (first | (rw [if_pos (by omega)]; (try go_simp); (try with_reducible rfl)) | (rw [if_neg (by omega)]; (try go_simp); (try with_reducible rfl)))))
          try simp only [Act.put, List.setIfInBounds_toArray, List.set_cons_zero, List.set_cons_succ]
          refine wpAnyR_takeQ (i := 11) (v := ?_) (some 46) rfl rfl (by kernel_rfl) (by kernel_rfl) (by kernel_rfl) (by kernel_rfl) (fun _ _ _ h => h) (Or.inl ⟨by rfl, ?_⟩) ?_
          rotate_left
          focus (intro wS hSw; (try dsimp only at hSw); go_simp; (try with_reducible rfl); (try (first | (rw [if_pos (by omega)]; (try go_simp); (try with_reducible rfl)) | (rw [if_neg (by omega)]; (try go_simp); (try with_reducible rfl)))))
          try simp only [Act.put, List.setIfInBounds_toArray, List.set_cons_zero, List.set_cons_succ]
          refine wpAnyR_take (i := 12) (v := ?_) [13, 14, 16, 17, 18] (some 47) rfl rfl (by kernel_rfl) (by kernel_rfl) (by kernel_rfl) (by kernel_rfl) (by kernel_rfl) (by kernel_rfl) (by kernel_rfl) (fun _ _ _ h => h) (Or.inl ⟨by rfl, ?_⟩) hS ?_
          rotate_left
          focus (intro wS hSw; (try dsimp only at hSw); go_simp; (try with_reducible rfl); (try (first | (rw [if_pos (by omega)]; (try go_simp); (try with_reducible rfl)) | (rw [if_neg (by omega)]; (try go_simp); (try with_reducible rfl)))))
          try simp only [Act.put, List.setIfInBounds_toArray, List.set_cons_zero, List.set_cons_succ]
          refine wpAnyR_takeQ (i := 13) (v := ?_) (some 48) rfl rfl (by kernel_rfl) (by kernel_rfl) (by kernel_rfl) (by kernel_rfl) (fun _ _ _ h => h) (Or.inl ⟨by rfl, ?_⟩) ?_
          rotate_left
          focus (intro wS hSw; (try dsimp only at hSw); go_simp; (try with_reducible rfl); (try (first | (rw [if_pos (by omega)]; (try go_simp); (try with_reducible rfl)) | (rw [if_neg (by omega)]; (try go_simp); (try with_reducible rfl)))))
          try simp only [Act.put, List.setIfInBounds_toArray, List.set_cons_zero, List.set_cons_succ]
          refine wpAnyR_take (i := 14) (v := ?_) [16, 17, 18] (some 49) rfl rfl (by kernel_rfl) (by kernel_rfl) (by kernel_rfl) (by kernel_rfl) (by kernel_rfl) (by kernel_rfl) (by kernel_rfl) (fun _ _ _ h => h) (Or.inl ⟨by rfl, ?_⟩) hS ?_
          rotate_left
          focus (intro wS hSw; (try dsimp only at hSw); go_simp; (try with_reducible rfl); (try (first | (rw [if_pos (by omega)]; (try go_simp); (try with_reducible rfl)) | (rw [if_neg (by omega)]; (try go_simp); (try with_reducible rfl)))))
          try simp only [Act.put, List.setIfInBounds_toArray, List.set_cons_zero, List.set_cons_succ]
          refine wpAnyR_takeQ (i := 15) (v := ?_) (some 50) rfl rfl (by kernel_rfl) (by kernel_rfl) (by kernel_rfl) (by kernel_rfl) (fun _ _ _ h => h) (Or.inl ⟨by rfl, ?_⟩) ?_
          rotate_left
          focus (intro wS hSw; (try dsimp only at hSw); go_simp; (try with_reducible rfl); (try (first | (rw [if_pos (by omega)]; (try go_simp); (try with_reducible rfl)) | (rw [if_neg (by omega)]; (try go_simp); (try with_reducible rfl)))))
          try simp only [Act.put, List.setIfInBounds_toArray, List.set_cons_zero, List.set_cons_succ]
          refine wpAnyR_takeQ (i := 16) (v := ?_) (some 51) rfl rfl (by kernel_rfl) (by kernel_rfl) (by kernel_rfl) (by kernel_rfl) (fun _ _ _ h => h) (Or.inl ⟨by rfl, ?_⟩) ?_
          rotate_left
          focus (intro wS hSw; (try dsimp only at hSw); go_simp; (try with_reducible rfl); (try (first | (rw [if_pos (by omega)]; (try go_simp); (try with_reducible rfl)) | (rw [if_neg (by omega)]; (try go_simp); (try with_reducible rfl)))))
          try simp only [Act.put, List.setIfInBounds_toArray, List.set_cons_zero, List.set_cons_succ]
          refine wpAnyR_takeQ (i := 17) (v := ?_) (some 52) rfl rfl (by kernel_rfl) (by kernel_rfl) (by kernel_rfl) (by kernel_rfl) (fun _ _ _ h => h) (Or.inl ⟨by rfl, ?_⟩) ?_
          rotate_left
          focus (intro wS hSw; (try dsimp only at hSw); go_simp; (try with_reducible rfl); (try (first | (rw [if_pos (by omega)]; (try go_simp); (try with_reducible rfl)) | (rw [if_neg (by omega)]; (try go_simp); (try with_reducible rfl)))))
          try simp only [Act.put, List.setIfInBounds_toArray, List.set_cons_zero, List.set_cons_succ]
          try rw [HCW.out]
          refine wpAnyR_n1 (i := 18) rfl (by kernel_rfl) ?_
          intro K' hK
          rw [if_pos (by rfl)]
          simp only [List.getElem_toArray, List.getElem_cons_succ, List.getElem_cons_zero]
          go_wp2_with fail
          refine HCH.out.mono ?_
          rintro e w3 ⟨rfl, os3, hd3, ht3, hos3⟩
          go_wp2_with fail
          refine hK.out _ _ (.inl rfl) ?_
          clear hK hS
          refine wpAnyR_done (by kernel_rfl) ?_ _
          have HD3 := Lib.hid hd3
          have HT3 := Lib.hid ((HT2.out.drew).trans ht3)
          have HK3 := Lib.hid (hKP _ _ HK2.out ((Turned.refl q.turns w2).drew.trans (ht3.mono (fun k _ hk => .inr (hk.elim .inl (fun h => .inr (.inl h)))))))
          have HO3 := Lib.hid (show ∀ v ∈ os3, v ∈ q.os ∨ ∃ g, v.ownBlock = some g ∧ w.heap.size ≤ g from fun v hv => (hos3 v hv).elim (fun h9 => HOS.out v h9) (fun ⟨g, h1, h2⟩ => .inr ⟨g, h1, by
            have h5 : w2.drew.heap.size = w2.heap.size := rfl
            have h6 := HT2.out.size
            omega⟩))
          clear hd3 ht3 hos3 x0 y0 v0 v1 v2
          go_wp2_with fail
          go_roundg (D.pend.length - (j + 1))
          case measure => rw [HGK.out]; omega
          case rel => exact ⟨j + 1, os3, by omega, by omega, by go_num, by rw [HSN.out, HST.out]; go_num, by rw [HSN.out, HST.out]; exact HD3.out, HT3.out, HK3.out, HO3.out⟩
    · obtain rfl : j = D.pend.length := by omega
      have hke := (HKEPT D.pend.length).out
      rw [List.take_length] at hd hke
      have hHD : DevM wr { q with os := os' } (runEnd D p (svN l) D.pend).1 := hd
      have hHT := HT.out
      have HKE := Lib.hid hke
      have HHD := Lib.hid hHD
      have hbr := hHD.blk
      have hpo := hHD.pend
      rw [hke.pend] at hpo
      have HPO := Lib.hid hpo
      have HFO := Lib.hid (show ∀ (k : Nat) (vp' : Value), (vp'.ownBlock = some k → q.vp.ownBlock = some k) → ({ q with os := os', vp := vp' } : DevP).feet k → q.feet k ∨ w.heap.size ≤ k from fun k vp' hvp' hk => by
        rcases hk with hk | hk | hk | hk | hk | hk | ⟨v, hv, hk⟩
        · exact .inl (.inl hk)
        · exact .inl (.inr (.inl hk))
        · exact .inl (.inr (.inr (.inl hk)))
        · exact .inl (.inr (.inr (.inr (.inl hk))))
        · exact .inl (.inr (.inr (.inr (.inr (.inl (hvp' hk))))))
        · exact .inl (.inr (.inr (.inr (.inr (.inr (.inl hk))))))
        · rcases HOS.out v hv with h9 | ⟨g, h9, h10⟩
          · exact .inl (.inr (.inr (.inr (.inr (.inr (.inr ⟨v, h9, hk⟩))))))
          · rw [h9] at hk; injection hk with hk; subst hk; exact .inr h10)
      have HTW := Lib.hid (show Turned q.turns w wr from hHT.mono (fun k _ hk => .inr (hk.elim .inl (fun h => .inr (.inl h)))))
      clear HD HT hHD hHT hd ht hke hpo
      rcases HPF.out with ⟨hv0, hr0⟩ | ⟨g, cap, hv1, _, _, _, _⟩
      · have hP0 : D.pend = [] := List.map_eq_nil_iff.1 hr0
        have hpl0 : D.pend.length = 0 := by rw [hP0]; rfl
        have hvp0 := HVP.out
        rw [hv0, hpl0] at hvp0
        injection hvp0 with hA _ hc
        subst hA; subst hc
        have x2r := hbr.cell 2
        have f2r := hbr.frozen 2
        simp only [hv0] at x2r
        have HBR := Lib.hid hbr
        have HV0 := Lib.hid hv0
        have HP0 := Lib.hid hP0
        rw [hpl0]
        clear x2 hbr hv0 hr0
        go_wp2_with fail
        refine (deleteNil_of bs wr).mono ?_
        rintro e wx ⟨rfl, rfl⟩
        go_wp2_with fail
        go_end0
        have hnew := HHD.out.new_pend (Turned.refl _ _) (vp' := .slice none 0 0) (P' := []) (by have := HPO.out; rw [HP0.out] at this; simp only [HV0.out] at this; exact this) (fun r hr => by cases hr)
        refine ⟨rfl, { q with os := os', vp := .slice none 0 0 }, ?_, ⟨rfl, rfl, fun k hk => HFO.out k _ (fun h => by cases h) hk⟩, HTW.out.setCell (p := ⟨q.x, 2, none⟩) (fun _ => .inl rfl) _⟩
        rw [HFIN.out]
        have hf0 : (D.pend.filter fun r => !p r) = [] := by rw [HP0.out]; rfl
        rw [hf0]
        exact hnew
      · rw [wrC_len] at hv1
        have hvp0 := HVP.out
        rw [hv1] at hvp0
        injection hvp0 with hA _ hc
        subst hA; subst hc
        have x2r := hbr.cell 2
        simp only [hv1] at x2r
        have hpo := HPO.out
        simp only [hv1] at hpo
        have HCD := Lib.hid (HDEL.out wr g cap HKR.out hv1 hpo)
        have HBR := Lib.hid hbr
        have HV1 := Lib.hid hv1
        have hvb : q.vp.ownBlock = some g := by rw [hv1]; rfl
        have hgx : ¬ q.x = g := fun e => HHD.out.pend.ne_blk HHD.out.blk (by decide) (by show q.vp.ownBlock = _; rw [hvb]; exact congrArg some e.symm)
        clear x2 hbr hv1 hpo
        go_wp2_with fail
        refine HCD.out.mono ?_
        rintro e wx ⟨rfl, hown, htx⟩
        have hbx := HBR.out.turned htx hgx
        have hxx := hbx.lt
        have x2x := hbx.cell 2
        have f2x := hbx.frozen 2
        have hnew := HHD.out.new_pend (w1 := wx) (htx.mono (fun k _ hk => by rw [hk]; exact hvb)) hown (fun r hr => by have := HPOK.out r (List.mem_filter.1 hr).1; rw [HKE.out.len]; exact this)
        have HNEW := Lib.hid hnew
        have HTX := Lib.hid (show Turned q.turns w wx from HTW.out.trans (htx.mono (fun k _ hk => .inr (.inr (.inr (by rw [hk]; exact hvb))))))
        clear htx hown hbx hnew
        go_wp2_with fail
        go_end0
        refine ⟨rfl, { q with os := os', vp := .slice (some ⟨g, 0, none⟩) (D.pend.filter fun x => !p x).length cap }, ?_, ⟨rfl, rfl, fun k hk => HFO.out k _ (fun h => by rw [hvb]; exact h) hk⟩, HTX.out.setCell (p := ⟨q.x, 2, none⟩) (fun _ => .inl rfl) _⟩
        rw [HFIN.out]
        exact HNEW.out
end
section
variable  {w : World} {q : DevP} {D : Dev} (h : DevM w q D) (p : Wr → Bool) (A2 : Option Addr) (c2 : Nat) (l : List Int) (KP : World → Prop) (hl : ListAt w w.heap.size 1 A2 (l.map intC)) (hlA : 0 < l.length → ∀ b off, A2 = some ⟨b, off, none⟩ → ¬ q.turns b) (hlen : l.length ≤ 9223372036854775807) (hlok : ∀ n ∈ l, okI n) (hsmall : D.pend.length ≤ 1000000)
  (hKP : ∀ W W', KP W → Turned q.turns W W' → KP W') (hKG : ∀ W W', KP W → Grew W W' → KP W') (hkp : KP w)
  (hcall : ∀ W (r : Wr), KP W → Calls Try.prog 109 #[.agg #[.int .i64 r.sys, .int .i64 (r.sec : Int), .string r.data]] W fun e w' => e = .returned (.bool (p r)) ∧ Grew W w')
include h hl hlA hlen hlok hsmall hKP hKG hkp hcall
set_option maxRecDepth 100000 in
set_option maxHeartbeats 8000000 in
theorem finish_all : Calls Try.prog 102 #[.pointer (some ⟨q.x, 0, none⟩), .func (.func 109) #[] #[], .slice A2 l.length c2] w fun e w' => e = .returned (.tuple #[]) ∧ ∃ q', DevM w' q' (finishD D p (svN l)) ∧ Foot' w q q' ∧ Turned q.turns w w' := by
  obtain ⟨gs, cs, hvs, hgs, hs1, hs2, hs3⟩ := h.st_form
  obtain ⟨A, c, hvp, hc1, hc2, hpl⟩ := h.pend_list
  have hk := h.blk
  rw [hvs, hvp] at hk
  have hxl := hk.lt
  have x2 := hk.cell 2
  have HH := Lib.hid h
  have HCALL := fun W r hk => Lib.hid (hcall W r hk)
  have HKEPT := fun j => Lib.hid (runEnd_kept h.ok p (svN l) (svN_le l) (D.pend.take j) (fun r hr => List.mem_of_mem_take hr))
  have HVS := Lib.hid hvs
  have HVP := Lib.hid hvp
  have HLS := Lib.hid hl
  have HPL := Lib.hid hpl
  have HKP := Lib.hid hkp
  have HLOK := Lib.hid hlok
  have HPOK := Lib.hid h.ok.pend
  have HVPT := Lib.hid (show ∀ b off, A = some ⟨b, off, none⟩ → ¬ (q.vs.ownBlock = some b ∨ q.vo.ownBlock = some b) from fun b off e hh => by
    have hb : q.vp.ownBlock = some b := by
      rcases h.pend.form with ⟨hv, _⟩ | ⟨g, cap, hv, _⟩
      · rw [hvp] at hv; injection hv with hv _ _; rw [hv] at e; cases e
      · rw [hvp] at hv; injection hv with hv _ _; rw [hv] at e; injection e with e; injection e with e _ _; rw [hvp, hv, e]; rfl
    rcases hh with hh | hh
    · exact own_own_ne h.st h.pend (by decide) b hh hb
    · exact own_own_ne h.old h.pend (by decide) b hh hb)
  have HFIN := Lib.hid (show finishD D p (svN l) = { (runEnd D p (svN l) D.pend).1 with pend := D.pend.filter fun r => !p r } from rfl)
  have HDEL := Lib.hid (show ∀ (W : World) g cap, KP W → q.vp = .slice (some ⟨g, 0, none⟩) D.pend.length cap → OwnL W 0 140 3 (.slice (some ⟨g, 0, none⟩) D.pend.length cap) (D.pend.map wrC) → Calls Try.prog 112 #[.slice (some ⟨g, 0, none⟩) D.pend.length cap, .func (.func 109) #[] #[]] W fun e w' =>
      e = .returned (.slice (some ⟨g, 0, none⟩) (D.pend.filter fun x => !p x).length cap) ∧ OwnL w' 0 140 3 (.slice (some ⟨g, 0, none⟩) (D.pend.filter fun x => !p x).length cap) ((D.pend.filter fun x => !p x).map wrC) ∧ Turned (fun k => k = g) W w' from fun W g cap hk hv ho =>
    deleteFunc_all  p D.pend g D.pend.length cap KP rfl hsmall (fun W W' h1 h2 => hKP W W' h1 (h2.mono (fun k _ hk => .inr (.inr (.inr (by rw [hv, hk]; rfl)))))) hKG hcall W ho hk)
  have HPF := Lib.hid h.pend.form
  have hdl : D.st.length ≤ 1155 := h.ok.lim
  clear h hvs hvp hcall hl hpl hkp hlok
  go_enter Try.func102, Try.ntmps102
  go_wp2_with fail
  go_loopg [6, 15] D.pend.length (fun gk nv iv wr => ∃ (j : Nat) (os' : List Value), j ≤ D.pend.length ∧ gk = D.pend.length - j ∧ iv = .int .i64 (j : Int) ∧ nv = .int .i64 ((runEnd D p (svN l) (D.pend.take j)).2 : Int) ∧ DevM wr { q with os := os' } (runEnd D p (svN l) (D.pend.take j)).1 ∧ Turned (fun k => q.vs.ownBlock = some k ∨ q.vo.ownBlock = some k) w wr ∧ KP wr ∧ (∀ v ∈ os', v ∈ q.os ∨ ∃ g, v.ownBlock = some g ∧ w.heap.size ≤ g))
  case atStart => exact ⟨0, q.os, Nat.zero_le _, rfl, rfl, rfl, HH.out, Turned.refl _ _, HKP.out, fun v hv => .inl hv⟩
  case round =>
    obtain ⟨j, os', hj, hgk, rfl, rfl, hd, ht, hkpr, hos⟩ := hrel
    have HGK := Lib.hid hgk
    have HD := Lib.hid hd
    have HOS := Lib.hid hos
    have HKR := Lib.hid hkpr
    have HT := Lib.hid ht
    have hxr : q.x < wr.heap.size := by have := ht.size; omega
    clear hgk hos hkpr
    by_cases hlt : j < D.pend.length
    · obtain ⟨b, off, rfl, hbb, z0, z1, z2⟩ := wr_at (HPL.out.keptT (Nat.le_refl _) ht (fun _ b off e => HVPT.out b off e)) hlt
      have HPJ := Lib.hid (HPOK.out D.pend[j] (List.getElem_mem hlt))
      have HSN := Lib.hid (runEnd_snoc D p (svN l) D.pend j hlt)
      have hcnt := runEnd_cnt D p (svN l) (D.pend.take j)
      have hcl : (runEnd D p (svN l) (D.pend.take j)).2 ≤ j := by rw [hcnt]; exact Nat.le_trans (List.length_filter_le _ _) (by rw [List.length_take]; omega)
      have hk' := (HKEPT j).out
      have hel := hk'.len
      clear hcnt hd ht
      generalize D.pend[j] = r at *
      generalize hE : runEnd D p (svN l) (D.pend.take j) = E at *
      obtain ⟨E, cnt⟩ := E
      simp only at hcl hk' hel
      have HE := Lib.hid hE
      clear hE
      have gal := (Grew.refl wr).alloc (.cells #[.int .i64 r.sys, .int .i64 (r.sec : Int), .string r.data] 140)
      have HC := Lib.hid (HCALL _ r (hKG _ _ HKR.out gal)).out
      have hbl := Blk.new wr 140 #[.int .i64 r.sys, .int .i64 (r.sec : Int), .string r.data] rfl
      have HDA := Lib.hid (HD.out.grew gal)
      have HTA := Lib.hid (HT.out.andGrew gal)
      have HKA := Lib.hid (hKG _ _ HKR.out gal)
      clear gal
      go_wp2_with fail
      refine HC.out.mono ?_
      rintro e w2 ⟨rfl, g2⟩
      have HD2 := Lib.hid (HDA.out.grew g2)
      have HT2 := Lib.hid (HTA.out.andGrew g2)
      have HK2 := Lib.hid (hKG _ _ HKA.out g2)
      have hbl2 := hbl.grew g2
      have hz := g2.size
      simp at hz
      clear g2 hbl z0 z1 z2
      cases hq : p r with
      | false =>
        have HQ := Lib.hid hq
        have HST := Lib.hid (show endStep p (svN l) (E, cnt) r = (E, cnt) from by unfold endStep; rw [hq]; rfl)
        clear hq
        go_wp2_with fail
        go_roundg (D.pend.length - (j + 1))
        case measure => rw [HGK.out]; omega
        case rel => exact ⟨j + 1, os', by omega, by omega, by go_num, by rw [HSN.out, HST.out], by rw [HSN.out, HST.out]; exact HD2.out, HT2.out, HK2.out, HOS.out⟩
      | true =>
        have HQ := Lib.hid hq
        have HST := Lib.hid (show endStep p (svN l) (E, cnt) r = (changeD E r.sec (cutW r (svN l cnt) (E.at r.sec)), cnt + 1) from by unfold endStep; rw [hq]; rfl)
        clear hq
        obtain ⟨hsec, hdsz, _⟩ := HPJ.out
        obtain ⟨n, hn⟩ : ∃ n, svN l cnt = n := ⟨_, rfl⟩
        have hn140 : n ≤ 140 := by rw [← hn]; exact svN_le l cnt
        rw [hn] at HST
        have hat := at_size hk'.ok (show r.sec < E.st.length by rw [hel]; exact hsec)
        have HSZ := Lib.hid (cutW_size (r := r) (n := n) hdsz hat hn140)
        have hsecE : r.sec < E.st.length := by rw [hel]; exact hsec
        have HCH := Lib.hid (change_any (q := { q with os := os' }) (D := E) (w := w2.drew) (HD2.out.grew ((Grew.refl w2).drew)) hsecE (cutW r n (E.at r.sec)) HSZ.out)
        have hbx := HD2.out.blk
        have y0 := HD2.out.st_cell (g := gs) (cap := cs) (by rw [hel]; exact HVS.out) hsecE
        simp only [HVS.out] at hbx
        have hgsw : gs < w2.heap.size := by have := HT2.out.size; omega
        have hxw : q.x < w2.heap.size := by have := HT2.out.size; omega
        have HCW := Lib.hid (show r.data.extract 0 n ++ (E.at r.sec).extract n (E.at r.sec).size = cutW r n (E.at r.sec) from rfl)
        have hds1 : n ≤ r.data.size := by omega
        have hds2 : n ≤ (E.at r.sec).size := by omega
        have hds3 : r.data.size ≤ 140 := by omega
        have hds4 : (E.at r.sec).size ≤ 140 := by omega
        have x0 := hbx.cell 0
        have v0 := hbl2.cell 0
        have v1 := hbl2.cell 1
        have v2 := hbl2.cell 2
        clear hbx hat hdsz
        generalize hEA : E.at r.sec = a at *
        go_upto_if 26 with fail
        go_cut [9] (fun m wx => m = .int .i64 (n : Int) ∧ w2 = wx)
        case first =>
          by_cases hc : cnt < l.length
          · obtain ⟨b3, off3, rfl, hb3, s0⟩ := int_at ((HLS.out.keptT (Nat.le_refl _) HT2.out (fun hp b off e => fun hh => hlA (by simpa using hp) b off e (hh.elim (fun h => .inr (.inl h)) (fun h => .inr (.inr (.inl h))))))) hc
            have hnv : n = (min (max 0 l[cnt]) 140).toNat := by rw [← hn]; unfold svN; rw [List.getD_eq_getElem?_getD, List.getElem?_eq_getElem hc]; rfl
            have hlo := HLOK.out l[cnt] (List.getElem_mem hc)
            unfold okI at hlo
            clear hn
            generalize l[cnt] = u at *
            by_cases h1 : u ≤ 0
            · obtain rfl : n = 0 := by omega
              clear hnv
              rcases Int.lt_or_eq_of_le h1 with h2 | rfl
              · go_wp2_with fail
                go_meet
                exact ⟨rfl, rfl⟩
              · go_wp2_with fail
                go_meet
                exact ⟨rfl, rfl⟩
            · by_cases h2 : u < 140
              · obtain rfl : u = (n : Int) := by omega
                clear hnv
                go_wp2_with fail
                go_meet
                exact ⟨rfl, rfl⟩
              · obtain rfl : n = 140 := by omega
                clear hnv
                rcases Int.lt_or_eq_of_le (show (140 : Int) ≤ u by omega) with h3 | rfl
                · go_wp2_with fail
                  go_meet
                  exact ⟨rfl, rfl⟩
                · go_wp2_with fail
                  go_meet
                  exact ⟨rfl, rfl⟩
          · obtain rfl : n = 0 := by rw [← hn]; unfold svN; rw [List.getD_eq_getElem?_getD, List.getElem?_eq_none (by omega)]; rfl
            clear hn
            go_wp2_with fail
            go_meet
            exact ⟨rfl, rfl⟩
        case rest =>
          obtain ⟨rfl, rfl⟩ := hcut
          clear hn
          go_wp2_with fail
          refine wp_region_R [18] (fun w' : World => w'.cell? ⟨wr.heap.size, 1, none⟩ = some (.int .i64 (r.sec : Int)) ∧ w'.cell? ⟨wr.heap.size, 2, none⟩ = some (.string r.data) ∧ w'.cell? ⟨q.x, 0, none⟩ = some (.slice (some ⟨gs, 0, none⟩) D.st.length cs) ∧ w'.cell? ⟨gs, r.sec, none⟩ = some (.string a)) (by kernel_rfl) ?_
          have hS := (show (fun w' : World => w'.cell? ⟨wr.heap.size, 1, none⟩ = some (.int .i64 (r.sec : Int)) ∧ w'.cell? ⟨wr.heap.size, 2, none⟩ = some (.string r.data) ∧ w'.cell? ⟨q.x, 0, none⟩ = some (.slice (some ⟨gs, 0, none⟩) D.st.length cs) ∧ w'.cell? ⟨gs, r.sec, none⟩ = some (.string a)) w2.drew from ⟨v1, v2, x0, y0⟩)
          refine wpAnyR_takeQ (i := 0) (v := ?_) (some 35) rfl rfl (by kernel_rfl) (by kernel_rfl) (by kernel_rfl) (by kernel_rfl) (fun _ _ _ h => h) (Or.inl ⟨by rfl, ?_⟩) ?_
          rotate_left
          focus (intro wS hSw; (try dsimp only at hSw); go_simp; (try with_reducible rfl); (try (first | (rw [if_pos (by omega)]; (try go_simp); (try with_reducible rfl)) | (rw [if_neg (by omega)]; (try go_simp); (try with_reducible rfl)))))
          try simp only [Act.put, List.setIfInBounds_toArray, List.set_cons_zero, List.set_cons_succ]
          refine wpAnyR_takeQ (i := 1) (v := ?_) (some 36) rfl rfl (by kernel_rfl) (by kernel_rfl) (by kernel_rfl) (by kernel_rfl) (fun _ _ _ h => h) (Or.inl ⟨by rfl, ?_⟩) ?_
          rotate_left
          focus (intro wS hSw; (try dsimp only at hSw); go_simp; (try with_reducible rfl); (try (first | (rw [if_pos (by omega)]; (try go_simp); (try with_reducible rfl)) | (rw [if_neg (by omega)]; (try go_simp); (try with_reducible rfl)))))
          try simp only [Act.put, List.setIfInBounds_toArray, List.set_cons_zero, List.set_cons_succ]
          refine wpAnyR_take (i := 2) (v := ?_) [18] (some 37) rfl rfl (by kernel_rfl) (by kernel_rfl) (by kernel_rfl) (by kernel_rfl) (by kernel_rfl) (by kernel_rfl) (by kernel_rfl) (fun _ _ _ h => h) (Or.inl ⟨by rfl, ?_⟩) hS ?_
          rotate_left
          focus (intro wS hSw; (try dsimp only at hSw); go_simp; (try with_reducible rfl); (try (first | (rw [if_pos (by omega)]; (try go_simp); (try with_reducible rfl)) | (rw [if_neg (by omega)]; (try go_simp); (try with_reducible rfl)))))
          try simp only [Act.put, List.setIfInBounds_toArray, List.set_cons_zero, List.set_cons_succ]
          refine wpAnyR_takeQ (i := 3) (v := ?_) (some 38) rfl rfl (by kernel_rfl) (by kernel_rfl) (by kernel_rfl) (by kernel_rfl) (fun _ _ _ h => h) (Or.inl ⟨by rfl, ?_⟩) ?_
          rotate_left
          focus (intro wS hSw; (try dsimp only at hSw); go_simp; (try with_reducible rfl); (try (first | (rw [if_pos (by omega)]; (try go_simp); (try with_reducible rfl)) | (rw [if_neg (by omega)]; (try go_simp); (try with_reducible rfl)))))
          try simp only [Act.put, List.setIfInBounds_toArray, List.set_cons_zero, List.set_cons_succ]
          refine wpAnyR_take (i := 4) (v := ?_) [6, 17, 18] (some 39) rfl rfl (by kernel_rfl) (by kernel_rfl) (by kernel_rfl) (by kernel_rfl) (by kernel_rfl) (by kernel_rfl) (by kernel_rfl) (fun _ _ _ h => h) (Or.inl ⟨by rfl, ?_⟩) hS ?_
          rotate_left
          focus (intro wS hSw; (try dsimp only at hSw); go_simp; (try with_reducible rfl); (try (first | (rw [if_pos (by omega)]; (try go_simp); (try with_reducible rfl)) | (rw [if_neg (by omega)]; (try go_simp); (try with_reducible rfl)))))
          try simp only [Act.put, List.setIfInBounds_toArray, List.set_cons_zero, List.set_cons_succ]
          refine wpAnyR_takeQ (i := 5) (v := ?_) (some 40) rfl rfl (by kernel_rfl) (by kernel_rfl) (by kernel_rfl) (by kernel_rfl) (fun _ _ _ h => h) (Or.inl ⟨by rfl, ?_⟩) ?_
          rotate_left
          focus (intro wS hSw; (try dsimp only at hSw); go_simp; (try with_reducible rfl); (try (first | (rw [if_pos (by omega)]; (try go_simp); (try with_reducible rfl)) | (rw [if_neg (by omega)]; (try go_simp); (try with_reducible rfl)))))
          try simp only [Act.put, List.setIfInBounds_toArray, List.set_cons_zero, List.set_cons_succ]
          refine wpAnyR_takeQ (i := 6) (v := ?_) (some 41) rfl rfl (by kernel_rfl) (by kernel_rfl) (by kernel_rfl) (by kernel_rfl) (fun _ _ _ h => h) (Or.inl ⟨by rfl, ?_⟩) ?_
          rotate_left
          focus (intro wS hSw; (try dsimp only at hSw); go_simp; (try with_reducible rfl); (try (first | (rw [if_pos (by omega)]; (try go_simp); (try with_reducible rfl)) | (rw [if_neg (by omega)]; (try go_simp); (try with_reducible rfl)))))
          try simp only [Act.put, List.setIfInBounds_toArray, List.set_cons_zero, List.set_cons_succ]
          refine wpAnyR_takeQ (i := 7) (v := ?_) (some 42) rfl rfl (by kernel_rfl) (by kernel_rfl) (by kernel_rfl) (by kernel_rfl) (fun _ _ _ h => h) (Or.inl ⟨by rfl, ?_⟩) ?_
          rotate_left
          focus (intro wS hSw; (try dsimp only at hSw); go_simp; (try with_reducible rfl); (try (first | (rw [if_pos (by omega)]; (try go_simp); (try with_reducible rfl)) | (rw [if_neg (by omega)]; (try go_simp); (try with_reducible rfl)))))
          try simp only [Act.put, List.setIfInBounds_toArray, List.set_cons_zero, List.set_cons_succ]
          refine wpAnyR_take (i := 8) (v := ?_) [9, 10, 13, 14, 16, 17, 18] (some 43) rfl rfl (by kernel_rfl) (by kernel_rfl) (by kernel_rfl) (by kernel_rfl) (by kernel_rfl) (by kernel_rfl) (by kernel_rfl) (fun _ _ _ h => h) (Or.inl ⟨by rfl, ?_⟩) hS ?_
          rotate_left
          focus (intro wS hSw; (try dsimp only at hSw); go_simp; (try with_reducible rfl); (try (first | (rw [if_pos (by omega)]; (try go_simp); (try with_reducible rfl)) | (rw [if_neg (by omega)]; (try go_simp); (try with_reducible rfl)))))
          try simp only [Act.put, List.setIfInBounds_toArray, List.set_cons_zero, List.set_cons_succ]
          refine wpAnyR_takeQ (i := 9) (v := ?_) (some 44) rfl rfl (by kernel_rfl) (by kernel_rfl) (by kernel_rfl) (by kernel_rfl) (fun _ _ _ h => h) (Or.inl ⟨by rfl, ?_⟩) ?_
          rotate_left
          focus (intro wS hSw; (try dsimp only at hSw); go_simp; (try with_reducible rfl); (try (first | (rw [if_pos (by omega)]; (try go_simp); (try with_reducible rfl)) | (rw [if_neg (by omega)]; (try go_simp); (try with_reducible rfl)))))
          try simp only [Act.put, List.setIfInBounds_toArray, List.set_cons_zero, List.set_cons_succ]
          refine wpAnyR_take (i := 10) (v := ?_) [13, 14, 16, 17, 18] (some 45) rfl rfl (by kernel_rfl) (by kernel_rfl) (by kernel_rfl) (by kernel_rfl) (by kernel_rfl) (by kernel_rfl) (by kernel_rfl) (fun _ _ _ h => h) (Or.inl ⟨by rfl, ?_⟩) hS ?_
          rotate_left
          focus (intro wS hSw; (try dsimp only at hSw); go_simp; (try with_reducible rfl); (try (first | (rw [if_pos (by omega)]; (try go_simp); (try with_reducible rfl)) | (rw [if_neg (by omega)]; (try go_simp); (try with_reducible rfl)))))
          try simp only [Act.put, List.setIfInBounds_toArray, List.set_cons_zero, List.set_cons_succ]
          refine wpAnyR_takeQ (i := 11) (v := ?_) (some 46) rfl rfl (by kernel_rfl) (by kernel_rfl) (by kernel_rfl) (by kernel_rfl) (fun _ _ _ h => h) (Or.inl ⟨by rfl, ?_⟩) ?_
          rotate_left
          focus (intro wS hSw; (try dsimp only at hSw); go_simp; (try with_reducible rfl); (try (first | (rw [if_pos (by omega)]; (try go_simp); (try with_reducible rfl)) | (rw [if_neg (by omega)]; (try go_simp); (try with_reducible rfl)))))
          try simp only [Act.put, List.setIfInBounds_toArray, List.set_cons_zero, List.set_cons_succ]
          refine wpAnyR_take (i := 12) (v := ?_) [13, 14, 16, 17, 18] (some 47) rfl rfl (by kernel_rfl) (by kernel_rfl) (by kernel_rfl) (by kernel_rfl) (by kernel_rfl) (by kernel_rfl) (by kernel_rfl) (fun _ _ _ h => h) (Or.inl ⟨by rfl, ?_⟩) hS ?_
          rotate_left
          focus (intro wS hSw; (try dsimp only at hSw); go_simp; (try with_reducible rfl); (try (first | (rw [if_pos (by omega)]; (try go_simp); (try with_reducible rfl)) | (rw [if_neg (by omega)]; (try go_simp); (try with_reducible rfl)))))
          try simp only [Act.put, List.setIfInBounds_toArray, List.set_cons_zero, List.set_cons_succ]
          refine wpAnyR_takeQ (i := 13) (v := ?_) (some 48) rfl rfl (by kernel_rfl) (by kernel_rfl) (by kernel_rfl) (by kernel_rfl) (fun _ _ _ h => h) (Or.inl ⟨by rfl, ?_⟩) ?_
          rotate_left
          focus (intro wS hSw; (try dsimp only at hSw); go_simp; (try with_reducible rfl); (try (first | (rw [if_pos (by omega)]; (try go_simp); (try with_reducible rfl)) | (rw [if_neg (by omega)]; (try go_simp); (try with_reducible rfl)))))
          try simp only [Act.put, List.setIfInBounds_toArray, List.set_cons_zero, List.set_cons_succ]
          refine wpAnyR_take (i := 14) (v := ?_) [16, 17, 18] (some 49) rfl rfl (by kernel_rfl) (by kernel_rfl) (by kernel_rfl) (by kernel_rfl) (by kernel_rfl) (by kernel_rfl) (by kernel_rfl) (fun _ _ _ h => h) (Or.inl ⟨by rfl, ?_⟩) hS ?_
          rotate_left
          focus (intro wS hSw; (try dsimp only at hSw); go_simp; (try with_reducible rfl); (try (first | (rw [if_pos (by omega)]; (try go_simp); (try with_reducible rfl)) | (rw [if_neg (by omega)]; (try go_simp); (try with_reducible rfl)))))
          try simp only [Act.put, List.setIfInBounds_toArray, List.set_cons_zero, List.set_cons_succ]
          refine wpAnyR_takeQ (i := 15) (v := ?_) (some 50) rfl rfl (by kernel_rfl) (by kernel_rfl) (by kernel_rfl) (by kernel_rfl) (fun _ _ _ h => h) (Or.inl ⟨by rfl, ?_⟩) ?_
          rotate_left
          focus (intro wS hSw; (try dsimp only at hSw); go_simp; (try with_reducible rfl); (try (first | (rw [if_pos (by omega)]; (try go_simp); (try with_reducible rfl)) | (rw [if_neg (by omega)]; (try go_simp); (try with_reducible rfl)))))
          try simp only [Act.put, List.setIfInBounds_toArray, List.set_cons_zero, List.set_cons_succ]
          refine wpAnyR_takeQ (i := 16) (v := ?_) (some 51) rfl rfl (by kernel_rfl) (by kernel_rfl) (by kernel_rfl) (by kernel_rfl) (fun _ _ _ h => h) (Or.inl ⟨by rfl, ?_⟩) ?_
          rotate_left
          focus (intro wS hSw; (try dsimp only at hSw); go_simp; (try with_reducible rfl); (try (first | (rw [if_pos (by omega)]; (try go_simp); (try with_reducible rfl)) | (rw [if_neg (by omega)]; (try go_simp); (try with_reducible rfl)))))
          try simp only [Act.put, List.setIfInBounds_toArray, List.set_cons_zero, List.set_cons_succ]
          refine wpAnyR_takeQ (i := 17) (v := ?_) (some 52) rfl rfl (by kernel_rfl) (by kernel_rfl) (by kernel_rfl) (by kernel_rfl) (fun _ _ _ h => h) (Or.inl ⟨by rfl, ?_⟩) ?_
          rotate_left
          focus (intro wS hSw; (try dsimp only at hSw); go_simp; (try with_reducible rfl); (try (first | (rw [if_pos (by omega)]; (try go_simp); (try with_reducible rfl)) | (rw [if_neg (by omega)]; (try go_simp); (try with_reducible rfl)))))
          try simp only [Act.put, List.setIfInBounds_toArray, List.set_cons_zero, List.set_cons_succ]
          try rw [HCW.out]
          refine wpAnyR_n1 (i := 18) rfl (by kernel_rfl) ?_
          intro K' hK
          rw [if_pos (by rfl)]
          simp only [List.getElem_toArray, List.getElem_cons_succ, List.getElem_cons_zero]
          go_wp2_with fail
          refine HCH.out.mono ?_
          rintro e w3 ⟨rfl, os3, hd3, ht3, hos3⟩
          go_wp2_with fail
          refine hK.out _ _ (.inl rfl) ?_
          clear hK hS
          refine wpAnyR_done (by kernel_rfl) ?_ _
          have HD3 := Lib.hid hd3
          have HT3 := Lib.hid ((HT2.out.drew).trans ht3)
          have HK3 := Lib.hid (hKP _ _ HK2.out ((Turned.refl q.turns w2).drew.trans (ht3.mono (fun k _ hk => .inr (hk.elim .inl (fun h => .inr (.inl h)))))))
          have HO3 := Lib.hid (show ∀ v ∈ os3, v ∈ q.os ∨ ∃ g, v.ownBlock = some g ∧ w.heap.size ≤ g from fun v hv => (hos3 v hv).elim (fun h9 => HOS.out v h9) (fun ⟨g, h1, h2⟩ => .inr ⟨g, h1, by
            have h5 : w2.drew.heap.size = w2.heap.size := rfl
            have h6 := HT2.out.size
            omega⟩))
          clear hd3 ht3 hos3 x0 y0 v0 v1 v2
          go_wp2_with fail
          go_roundg (D.pend.length - (j + 1))
          case measure => rw [HGK.out]; omega
          case rel => exact ⟨j + 1, os3, by omega, by omega, by go_num, by rw [HSN.out, HST.out]; go_num, by rw [HSN.out, HST.out]; exact HD3.out, HT3.out, HK3.out, HO3.out⟩
    · obtain rfl : j = D.pend.length := by omega
      have hke := (HKEPT D.pend.length).out
      rw [List.take_length] at hd hke
      have hHD : DevM wr { q with os := os' } (runEnd D p (svN l) D.pend).1 := hd
      have hHT := HT.out
      have HKE := Lib.hid hke
      have HHD := Lib.hid hHD
      have hbr := hHD.blk
      have hpo := hHD.pend
      rw [hke.pend] at hpo
      have HPO := Lib.hid hpo
      have HFO := Lib.hid (show ∀ (k : Nat) (vp' : Value), (vp'.ownBlock = some k → q.vp.ownBlock = some k) → ({ q with os := os', vp := vp' } : DevP).feet k → q.feet k ∨ w.heap.size ≤ k from fun k vp' hvp' hk => by
        rcases hk with hk | hk | hk | hk | hk | hk | ⟨v, hv, hk⟩
        · exact .inl (.inl hk)
        · exact .inl (.inr (.inl hk))
        · exact .inl (.inr (.inr (.inl hk)))
        · exact .inl (.inr (.inr (.inr (.inl hk))))
        · exact .inl (.inr (.inr (.inr (.inr (.inl (hvp' hk))))))
        · exact .inl (.inr (.inr (.inr (.inr (.inr (.inl hk))))))
        · rcases HOS.out v hv with h9 | ⟨g, h9, h10⟩
          · exact .inl (.inr (.inr (.inr (.inr (.inr (.inr ⟨v, h9, hk⟩))))))
          · rw [h9] at hk; injection hk with hk; subst hk; exact .inr h10)
      have HTW := Lib.hid (show Turned q.turns w wr from hHT.mono (fun k _ hk => .inr (hk.elim .inl (fun h => .inr (.inl h)))))
      clear HD HT hHD hHT hd ht hke hpo
      rcases HPF.out with ⟨hv0, hr0⟩ | ⟨g, cap, hv1, _, _, _, _⟩
      · have hP0 : D.pend = [] := List.map_eq_nil_iff.1 hr0
        have hpl0 : D.pend.length = 0 := by rw [hP0]; rfl
        have hvp0 := HVP.out
        rw [hv0, hpl0] at hvp0
        injection hvp0 with hA _ hc
        subst hA; subst hc
        have x2r := hbr.cell 2
        have f2r := hbr.frozen 2
        simp only [hv0] at x2r
        have HBR := Lib.hid hbr
        have HV0 := Lib.hid hv0
        have HP0 := Lib.hid hP0
        rw [hpl0]
        clear x2 hbr hv0 hr0
        go_wp2_with fail
        refine (deleteNil_all  wr).mono ?_
        rintro e wx ⟨rfl, rfl⟩
        go_wp2_with fail
        go_end0
        have hnew := HHD.out.new_pend (Turned.refl _ _) (vp' := .slice none 0 0) (P' := []) (by have := HPO.out; rw [HP0.out] at this; simp only [HV0.out] at this; exact this) (fun r hr => by cases hr)
        refine ⟨rfl, { q with os := os', vp := .slice none 0 0 }, ?_, ⟨rfl, rfl, fun k hk => HFO.out k _ (fun h => by cases h) hk⟩, HTW.out.setCell (p := ⟨q.x, 2, none⟩) (fun _ => .inl rfl) _⟩
        rw [HFIN.out]
        have hf0 : (D.pend.filter fun r => !p r) = [] := by rw [HP0.out]; rfl
        rw [hf0]
        exact hnew
      · rw [wrC_len] at hv1
        have hvp0 := HVP.out
        rw [hv1] at hvp0
        injection hvp0 with hA _ hc
        subst hA; subst hc
        have x2r := hbr.cell 2
        simp only [hv1] at x2r
        have hpo := HPO.out
        simp only [hv1] at hpo
        have HCD := Lib.hid (HDEL.out wr g cap HKR.out hv1 hpo)
        have HBR := Lib.hid hbr
        have HV1 := Lib.hid hv1
        have hvb : q.vp.ownBlock = some g := by rw [hv1]; rfl
        have hgx : ¬ q.x = g := fun e => HHD.out.pend.ne_blk HHD.out.blk (by decide) (by show q.vp.ownBlock = _; rw [hvb]; exact congrArg some e.symm)
        clear x2 hbr hv1 hpo
        go_wp2_with fail
        refine HCD.out.mono ?_
        rintro e wx ⟨rfl, hown, htx⟩
        have hbx := HBR.out.turned htx hgx
        have hxx := hbx.lt
        have x2x := hbx.cell 2
        have f2x := hbx.frozen 2
        have hnew := HHD.out.new_pend (w1 := wx) (htx.mono (fun k _ hk => by rw [hk]; exact hvb)) hown (fun r hr => by have := HPOK.out r (List.mem_filter.1 hr).1; rw [HKE.out.len]; exact this)
        have HNEW := Lib.hid hnew
        have HTX := Lib.hid (show Turned q.turns w wx from HTW.out.trans (htx.mono (fun k _ hk => .inr (.inr (.inr (by rw [hk]; exact hvb))))))
        clear htx hown hbx hnew
        go_wp2_with fail
        go_end0
        refine ⟨rfl, { q with os := os', vp := .slice (some ⟨g, 0, none⟩) (D.pend.filter fun x => !p x).length cap }, ?_, ⟨rfl, rfl, fun k hk => HFO.out k _ (fun h => by rw [hvb]; exact h) hk⟩, HTX.out.setCell (p := ⟨q.x, 2, none⟩) (fun _ => .inl rfl) _⟩
        rw [HFIN.out]
        exact HNEW.out
end
end Go.Proofs.Ytbddelefglhaaaa
namespace Go.Proofs.Ytbddelefglhaaaa
set_option linter.unusedVariables false
set_option linter.unusedSimpArgs false
set_option linter.unusedSectionVars false
open Go.RowKit
open Go.Maps (Keyed)
attribute [local go_sem ↓] Go.wp_at_zero Go.wp_at_succ
/-- A device's call: what it leaves. -/
def Did (w w' : World) (q : DevP) (D : Dev) : Prop := ∃ q', DevM w' q' D ∧ Foot' w q q' ∧ Turned q.feet w w'
theorem Did.same {w w' : World} {q : DevP} {D : Dev} (h : DevM w q D) (hg : Grew w w') : Did w w' q D := ⟨q, h.grew hg, Foot'.refl _ _, hg.turned _⟩
theorem Foot'.feetT {w w1 w2 : World} {q q1 : DevP} (f : Foot' w q q1) (ht : Turned q.feet w w1) (k : Turned q1.feet w1 w2) : Turned q.feet w w2 :=
  ht.next k (fun i hi h => (f.feet i h).elim id (fun h9 => absurd hi (by omega)))
theorem Did.trans {w w1 w2 : World} {q q1 : DevP} {D2 : Dev} (f : Foot' w q q1) (ht : Turned q.feet w w1) (k : Did w1 w2 q1 D2) : Did w w2 q D2 := by
  obtain ⟨q2, h2, f2, t2⟩ := k
  exact ⟨q2, h2, f.trans f2 ht.size, f.feetT ht t2⟩
/-- The device's own block anew. -/
theorem DevM.rex {w w' : World} {q : DevP} {D : Dev} (h : DevM w q D) (ht : Turned (fun k => k = q.x) w w') (se : Bool) (le : Int) (sl : List Int) (vsv : Value) (fa : Bool) (fu : Option (Nat × List Int))
    (hb : Blk w' q.x 117 #[q.vs, q.vo, q.vp, .map (some q.m), .bool se, .int .i64 le, vsv, .bool fa]) (hsv : OwnL w' 0 3 1 vsv (sl.map intC)) (hfu : fu = if se then some (le.toNat, sl) else none)
    (hle : 0 ≤ le ∧ le ≤ 9223372036854775807) (hsl : (∀ n ∈ sl, okI n) ∧ sl.length ≤ 1000000) : DevM w' { q with set := se, left := le, svl := sl, vsv := vsv } { D with failed := fa, fuse := fu } := by
  have hx := h.blk
  refine ⟨hb, h.st.kept ht (fun g hg e => h.st.ne_blk hx (by decide) (by rw [hg, e])), h.old.kept ht (fun g hg e => h.old.ne_blk hx (by decide) (by rw [hg, e])), h.olen, fun j v l hv hl => ?_, h.pend.kept ht (fun g hg e => h.pend.ne_blk hx (by decide) (by rw [hg, e])), hsv,
    h.map.turned ht (fun e => blk_map_ne hx h.map e.symm), h.fen, hfu, hle, hsl, ⟨h.ok.len, h.ok.pos, h.ok.lim, h.ok.st, h.ok.old, h.ok.pend, h.ok.fen⟩⟩
  obtain ⟨h5, h6⟩ := h.each j v l hv hl
  exact ⟨h5.kept ht (fun g hg e => h5.ne_blk hx (by decide) (by rw [hg, e])), h6⟩
theorem rex_foot (w : World) (q : DevP) (se : Bool) (le : Int) (sl : List Int) (vsv : Value) (hv : ∀ k, vsv.ownBlock = some k → q.vsv.ownBlock = some k ∨ w.heap.size ≤ k) : Foot' w q { q with set := se, left := le, svl := sl, vsv := vsv } := by
  refine ⟨rfl, rfl, fun k hk => ?_⟩
  rcases hk with hk | hk | hk | hk | hk | hk | hk
  · exact .inl (.inl hk)
  · exact .inl (.inr (.inl hk))
  · exact .inl (.inr (.inr (.inl hk)))
  · exact .inl (.inr (.inr (.inr (.inl hk))))
  · exact .inl (.inr (.inr (.inr (.inr (.inl hk)))))
  · exact (hv k hk).elim (fun h => .inl (.inr (.inr (.inr (.inr (.inr (.inl h))))))) .inr
  · exact .inl (.inr (.inr (.inr (.inr (.inr (.inr hk))))))
/-- The list of the fuse. -/
theorem DevM.sv_list {w : World} {q : DevP} {D : Dev} (h : DevM w q D) : ∃ A c, q.vsv = .slice A q.svl.length c ∧ q.svl.length ≤ 9223372036854775807 ∧ ListAt w w.heap.size 1 A (q.svl.map intC) ∧ ∀ b off, A = some ⟨b, off, none⟩ → ¬ q.turns b := by
  obtain ⟨A, c, hv, h1, h2, h3⟩ := h.sv.listAt
  rw [List.length_map] at hv h1
  refine ⟨A, c, hv, by omega, h3, fun b off e hb => ?_⟩
  have hvb : q.vsv.ownBlock = some b := by rw [hv, e]; rfl
  rcases hb with rfl | hb | hb | hb
  · exact h.sv.ne_blk h.blk (by decide) hvb
  · exact own_own_ne h.st h.sv (by decide) b hb hvb
  · exact own_own_ne h.old h.sv (by decide) b hb hvb
  · exact own_own_ne h.pend h.sv (by decide) b hb hvb
/-- Ends of writes do not look at the fuse. -/
theorem finishD_set (D : Dev) (p : Wr → Bool) (sv : Nat → Nat) (fa : Bool) (fu : Option (Nat × List Int)) : finishD { D with failed := fa, fuse := fu } p sv = { finishD D p sv with failed := fa, fuse := fu } := by
  have hc : ∀ (E : Dev) i s, changeD { E with failed := fa, fuse := fu } i s = { changeD E i s with failed := fa, fuse := fu } := by
    intro E i s
    by_cases hh : E.at i = s
    · have h1 : changeD { E with failed := fa, fuse := fu } i s = { E with failed := fa, fuse := fu } := by unfold changeD; exact if_pos hh
      have h2 : changeD E i s = E := by unfold changeD; exact if_pos hh
      rw [h1, h2]
    · have h1 : changeD { E with failed := fa, fuse := fu } i s = { E with failed := fa, fuse := fu, st := E.st.set i s, old := E.old.set i ((E.at i :: E.olds i).take 8) } := by unfold changeD; exact if_neg hh
      have h2 : changeD E i s = { E with st := E.st.set i s, old := E.old.set i ((E.at i :: E.olds i).take 8) } := by unfold changeD; exact if_neg hh
      rw [h1, h2]
  have key : ∀ (l : List Wr) (E : Dev) (k : Nat), l.foldl (endStep p sv) ({ E with failed := fa, fuse := fu }, k) = ({ (l.foldl (endStep p sv) (E, k)).1 with failed := fa, fuse := fu }, (l.foldl (endStep p sv) (E, k)).2) := by
    intro l
    induction l with
    | nil => intro E k; rfl
    | cons r l ih =>
      intro E k
      rw [List.foldl_cons, List.foldl_cons]
      have he : endStep p sv ({ E with failed := fa, fuse := fu }, k) r = ({ (endStep p sv (E, k) r).1 with failed := fa, fuse := fu }, (endStep p sv (E, k) r).2) := by
        unfold endStep
        cases p r with
        | true => simp only [if_true]; rw [hc]; rfl
        | false => rfl
      rw [he, ih]
  unfold finishD runEnd
  show ({ (D.pend.foldl (endStep p sv) ({ D with failed := fa, fuse := fu }, 0)).1 with pend := _ } : Dev) = _
  rw [key]
theorem zero_int (w : World) : (zeroValue 3).run Try.prog w = .ok (.int .i64 0) w := by kernel_rfl
/-- What the map of fences answers. -/
def FenA (v : Option Value) (f : Int) (b : Bool) : Prop := (b = false ∧ f = 0 ∧ v = none) ∨ (b = true ∧ okI f ∧ v = some (.int .i64 f))
theorem fen_look {w : World} {m : Nat} {F : Int → Option Value} (hm : MapI w m F) {s f : Int} {b : Bool} (hs : okI s) (h : FenA (F s) f b) : (Instr.lookup 113 (.map (some m)) (.int .i64 s) true).run Try.prog w = .ok (.tuple #[.int .i64 f, .bool b]) w := by
  obtain ⟨kl, hkey⟩ := int_key s hs
  have := hm.lookup_ok int_keyedI intV_inj Try.underlying113 (zero_int _) s hkey
  rcases h with ⟨rfl, rfl, hv⟩ | ⟨rfl, _, hv⟩
  · rw [hv] at this; exact this
  · rw [hv] at this; exact this
theorem DevM.fence {w : World} {q : DevP} {D : Dev} (h : DevM w q D) {s : Int} (h1 : 1 ≤ s) (h2 : s ≤ 4) : ∃ f b, okI f ∧ FenA (q.E s) f b ∧ (b = false → D.fen s = 0) ∧ (b = true → D.fen s = clipE f) := by
  rcases h.fen s h1 h2 with ⟨he, hf⟩ | ⟨e, ho, he, hf⟩
  · exact ⟨0, false, by unfold okI; omega, .inl ⟨rfl, rfl, he⟩, fun _ => hf, fun h => (by cases h)⟩
  · exact ⟨e, true, ho, .inr ⟨rfl, ho, he⟩, fun h => (by cases h), fun _ => hf⟩
theorem admitD_failed {D : Dev} {s e : Int} (h : D.failed = true) : admitD D s e = (D, 10) := by unfold admitD; rw [if_pos h]
theorem admitD_fenced {D : Dev} {s e : Int} (h : D.failed = false) (hf : e < D.fen s) : admitD D s e = (D, 13) := by unfold admitD; rw [if_neg (by rw [h]; decide), if_pos hf]
theorem admitD_none {D : Dev} {s e : Int} (h : D.failed = false) (hf : ¬ e < D.fen s) (hn : D.fuse = none) : admitD D s e = (D, 0) := by
  unfold admitD useD
  rw [if_neg (by rw [h]; decide), if_neg hf, hn]; rfl
theorem admitD_some {D : Dev} {s e : Int} {n : Nat} {l : List Int} (h : D.failed = false) (hf : ¬ e < D.fen s) (hn : D.fuse = some (n + 1, l)) : admitD D s e = ({ D with fuse := some (n, l) }, 0) := by
  unfold admitD useD
  rw [if_neg (by rw [h]; decide), if_neg hf, hn]; rfl
theorem admitD_zero {D : Dev} {s e : Int} {l : List Int} (h : D.failed = false) (hf : ¬ e < D.fen s) (hn : D.fuse = some (0, l)) : admitD D s e = ({ finishD D (fun _ => true) (svN l) with failed := true, fuse := none }, 10) := by
  unfold admitD useD
  rw [if_neg (by rw [h]; decide), if_neg hf, hn]; rfl
/-- What admit answers. -/
def AdmitR (w : World) (q : DevP) (D : Dev) (e f : Int) (b : Bool) (er : Ending) (w' : World) : Prop :=
  ((b = true ∧ e ≤ f) ∧ er = .returned (.int .i64 13) ∧ Grew w w') ∨
  (¬ (b = true ∧ e ≤ f) ∧ ((q.set = false ∧ er = .returned (.int .i64 0) ∧ Grew w w') ∨
    (q.set = true ∧ 0 < q.left ∧ er = .returned (.int .i64 0) ∧ Did w w' q { D with failed := false, fuse := some ((q.left - 1).toNat, q.svl) }) ∨
    (q.set = true ∧ q.left = 0 ∧ er = .returned (.int .i64 10) ∧ Did w w' q { finishD D (fun _ => true) (svN q.svl) with failed := true, fuse := none })))
section
variable {w : World} {q : DevP} {D : Dev} (h : DevM w q D) (s e : Int)
include h
set_option maxRecDepth 100000 in
set_option maxHeartbeats 4000000 in
omit h in
theorem plain_any (w : World) (s e : Int) : Calls Try.prog 98 #[.agg #[.int .i64 s, .int .i64 e]] w fun er w' => er = .returned (.bool (plainW s e)) ∧ Grew w w' := by
  have HB := Lib.hid (show plainW s e = decide (1 ≤ s ∧ s ≤ 4 ∧ 0 ≤ e ∧ e ≤ 1099511627776) from rfl)
  generalize plainW s e = b at *
  by_cases h1 : 1 ≤ s
  · by_cases h2 : s ≤ 4
    · by_cases h3 : 0 ≤ e
      · by_cases h4 : e ≤ 1099511627776
        · go_enter Try.func98, Try.ntmps98
          go_wp2_with fail
          go_ret
          exact ⟨ret_bool (by rw [HB.out, decide_eq_true (by omega)]), by (repeat' first | (with_reducible exact Grew.refl _) | (with_reducible assumption) | (with_reducible refine Grew.alloc ?_ _) | (with_reducible refine Grew.drew ?_) | (with_reducible refine Grew.drewN ?_ _) | (with_reducible refine Grew.setRow ?_ (by first | (simp; done) | (simp; omega) | omega) _) | (with_reducible refine Grew.setCell ?_ (by first | (simp; done) | (simp; omega) | omega) _) | ((with_reducible apply Grew.trans); rotate_left; (with_reducible assumption)) | ((with_reducible apply Grew.turn); rotate_left; (with_reducible assumption); (focus (intro i hi; first | omega | (simp at hi; omega)))) | fail)⟩
        · go_enter Try.func98, Try.ntmps98
          go_wp2_with fail
          go_ret
          exact ⟨ret_bool (by rw [HB.out, decide_eq_false (by omega)]), by (repeat' first | (with_reducible exact Grew.refl _) | (with_reducible assumption) | (with_reducible refine Grew.alloc ?_ _) | (with_reducible refine Grew.drew ?_) | (with_reducible refine Grew.drewN ?_ _) | (with_reducible refine Grew.setRow ?_ (by first | (simp; done) | (simp; omega) | omega) _) | (with_reducible refine Grew.setCell ?_ (by first | (simp; done) | (simp; omega) | omega) _) | ((with_reducible apply Grew.trans); rotate_left; (with_reducible assumption)) | ((with_reducible apply Grew.turn); rotate_left; (with_reducible assumption); (focus (intro i hi; first | omega | (simp at hi; omega)))) | fail)⟩
      · go_enter Try.func98, Try.ntmps98
        go_wp2_with fail
        go_ret
        exact ⟨ret_bool (by rw [HB.out, decide_eq_false (by omega)]), by (repeat' first | (with_reducible exact Grew.refl _) | (with_reducible assumption) | (with_reducible refine Grew.alloc ?_ _) | (with_reducible refine Grew.drew ?_) | (with_reducible refine Grew.drewN ?_ _) | (with_reducible refine Grew.setRow ?_ (by first | (simp; done) | (simp; omega) | omega) _) | (with_reducible refine Grew.setCell ?_ (by first | (simp; done) | (simp; omega) | omega) _) | ((with_reducible apply Grew.trans); rotate_left; (with_reducible assumption)) | ((with_reducible apply Grew.turn); rotate_left; (with_reducible assumption); (focus (intro i hi; first | omega | (simp at hi; omega)))) | fail)⟩
    · go_enter Try.func98, Try.ntmps98
      go_wp2_with fail
      go_ret
      exact ⟨ret_bool (by rw [HB.out, decide_eq_false (by omega)]), by (repeat' first | (with_reducible exact Grew.refl _) | (with_reducible assumption) | (with_reducible refine Grew.alloc ?_ _) | (with_reducible refine Grew.drew ?_) | (with_reducible refine Grew.drewN ?_ _) | (with_reducible refine Grew.setRow ?_ (by first | (simp; done) | (simp; omega) | omega) _) | (with_reducible refine Grew.setCell ?_ (by first | (simp; done) | (simp; omega) | omega) _) | ((with_reducible apply Grew.trans); rotate_left; (with_reducible assumption)) | ((with_reducible apply Grew.turn); rotate_left; (with_reducible assumption); (focus (intro i hi; first | omega | (simp at hi; omega)))) | fail)⟩
  · go_enter Try.func98, Try.ntmps98
    go_wp2_with fail
    go_ret
    exact ⟨ret_bool (by rw [HB.out, decide_eq_false (by omega)]), by (repeat' first | (with_reducible exact Grew.refl _) | (with_reducible assumption) | (with_reducible refine Grew.alloc ?_ _) | (with_reducible refine Grew.drew ?_) | (with_reducible refine Grew.drewN ?_ _) | (with_reducible refine Grew.setRow ?_ (by first | (simp; done) | (simp; omega) | omega) _) | (with_reducible refine Grew.setCell ?_ (by first | (simp; done) | (simp; omega) | omega) _) | ((with_reducible apply Grew.trans); rotate_left; (with_reducible assumption)) | ((with_reducible apply Grew.turn); rotate_left; (with_reducible assumption); (focus (intro i hi; first | omega | (simp at hi; omega)))) | fail)⟩
set_option maxRecDepth 100000 in
set_option maxHeartbeats 2000000 in
theorem admit_failed (hf : D.failed = true) : Calls Try.prog 99 #[.pointer (some ⟨q.x, 0, none⟩), .agg #[.int .i64 s, .int .i64 e]] w fun er w' => er = .returned (.int .i64 10) ∧ Grew w w' := by
  have hk := h.blk.alloc (.cells #[.int .i64 s, .int .i64 e] 50)
  rw [hf] at hk
  have hxl := h.blk.lt
  have x7 := hk.cell 7
  clear h hk
  go_enter Try.func99, Try.ntmps99
  go_wp2_with fail
  go_ret
  exact ⟨rfl, by (repeat' first | (with_reducible exact Grew.refl _) | (with_reducible assumption) | (with_reducible refine Grew.alloc ?_ _) | (with_reducible refine Grew.drew ?_) | (with_reducible refine Grew.drewN ?_ _) | (with_reducible refine Grew.setRow ?_ (by first | (simp; done) | (simp; omega) | omega) _) | (with_reducible refine Grew.setCell ?_ (by first | (simp; done) | (simp; omega) | omega) _) | ((with_reducible apply Grew.trans); rotate_left; (with_reducible assumption)) | ((with_reducible apply Grew.turn); rotate_left; (with_reducible assumption); (focus (intro i hi; first | omega | (simp at hi; omega)))) | fail)⟩
set_option maxRecDepth 100000 in
set_option maxHeartbeats 4000000 in
theorem admit_live (hf : D.failed = false) (hp : plainW s e = true) (hsmall : D.pend.length ≤ 1000000) (f : Int) (b : Bool) (hfo : okI f) (hfa : FenA (q.E s) f b) :
    Calls Try.prog 99 #[.pointer (some ⟨q.x, 0, none⟩), .agg #[.int .i64 s, .int .i64 e]] w (AdmitR w q D e f b) := by
  have hp1 := of_decide_eq_true hp
  have hk := h.blk.alloc (.cells #[.int .i64 s, .int .i64 e] 50)
  rw [hf] at hk
  obtain ⟨A2, c2, hsv, hs1, hsl, hst⟩ := h.sv_list
  rw [hsv] at hk
  have hxl := h.blk.lt
  have hle := h.left
  have hA1 := Blk.new w 50 #[.int .i64 s, .int .i64 e] rfl
  have hso : okI s := by unfold okI; omega
  have HLK := Lib.hid (show ∀ W, MapI W q.m q.E → (Instr.lookup 113 (.map (some q.m)) (.int .i64 s) true).run Try.prog W = .ok (.tuple #[.int .i64 f, .bool b]) W from fun W hm => fen_look hm hso hfa)
  have hm1 := h.map.alloc (.cells #[.int .i64 s, .int .i64 e] 50)
  have hG := (Grew.refl w).alloc (.cells #[.int .i64 s, .int .i64 e] 50)
  have HH := Lib.hid h
  have HSV := Lib.hid hsv
  have HSL := Lib.hid hsl
  have HSV9 := Lib.hid hs1
  have HST := Lib.hid hst
  have hbe : (((b = true ∧ e ≤ f)) ∨ (b = true ∧ f < e) ∨ b = false) := by cases b <;> simp <;> omega
  have hx3 := hk.cell 3
  have hx7 := hk.cell 7
  have ha0 := hA1.cell 0
  have ha1 := hA1.cell 1
  unfold okI at hfo
  have HF := Lib.hid hf
  clear h hsv hsl hst hp hfa hf
  rcases hbe with ⟨rfl, hef⟩ | hbe
  · have hS : (fun w' : World => w'.cell? ⟨w.heap.size, 0, none⟩ = some (.int .i64 s) ∧ w'.cell? ⟨q.x, 3, none⟩ = some (.map (some q.m)) ∧ (Instr.lookup 113 (.map (some q.m)) (.int .i64 s) true).run Try.prog w' = .ok (.tuple #[.int .i64 f, .bool true]) w') (w.alloc (.cells #[.int .i64 s, .int .i64 e] 50)).drew := ⟨ha0, hx3, HLK.out _ hm1.drew⟩
    go_enter Try.func99, Try.ntmps99
    go_wp2_with fail
    refine wp_region_R [] (fun w' : World => w'.cell? ⟨w.heap.size, 0, none⟩ = some (.int .i64 s) ∧ w'.cell? ⟨q.x, 3, none⟩ = some (.map (some q.m)) ∧ (Instr.lookup 113 (.map (some q.m)) (.int .i64 s) true).run Try.prog w' = .ok (.tuple #[.int .i64 f, .bool true]) w') (by kernel_rfl) ?_
    refine wpAnyR_takeQ (i := 0) (v := ?_) (some 13) rfl rfl (by kernel_rfl) (by kernel_rfl) (by kernel_rfl) (by kernel_rfl) (fun _ _ _ h => h) (Or.inl ⟨by rfl, ?_⟩) ?_
    rotate_left
    focus (intro wS hSw; (try dsimp only at hSw); go_simp; (try with_reducible rfl); (try (first | (rw [if_pos (by omega)]; (try go_simp); (try with_reducible rfl)) | (rw [if_neg (by omega)]; (try go_simp); (try with_reducible rfl)))))
    try simp only [Act.put, List.setIfInBounds_toArray, List.set_cons_zero, List.set_cons_succ]
    refine wpAnyR_take (i := 1) (v := ?_) [2, 3, 6, 7, 8, 9, 10, 11] (some 14) rfl rfl (by kernel_rfl) (by kernel_rfl) (by kernel_rfl) (by kernel_rfl) (by kernel_rfl) (by kernel_rfl) (by kernel_rfl) (fun _ _ _ h => h) (Or.inl ⟨by rfl, ?_⟩) hS ?_
    rotate_left
    focus (intro wS hSw; (try dsimp only at hSw); go_simp; (try with_reducible rfl); (try (first | (rw [if_pos (by omega)]; (try go_simp); (try with_reducible rfl)) | (rw [if_neg (by omega)]; (try go_simp); (try with_reducible rfl)))))
    try simp only [Act.put, List.setIfInBounds_toArray, List.set_cons_zero, List.set_cons_succ]
    refine wpAnyR_takeQ (i := 2) (v := ?_) (some 15) rfl rfl (by kernel_rfl) (by kernel_rfl) (by kernel_rfl) (by kernel_rfl) (fun _ _ _ h => h) (Or.inl ⟨by rfl, ?_⟩) ?_
    rotate_left
    focus (intro wS hSw; (try dsimp only at hSw); go_simp; (try with_reducible rfl); (try (first | (rw [if_pos (by omega)]; (try go_simp); (try with_reducible rfl)) | (rw [if_neg (by omega)]; (try go_simp); (try with_reducible rfl)))))
    try simp only [Act.put, List.setIfInBounds_toArray, List.set_cons_zero, List.set_cons_succ]
    refine wpAnyR_take (i := 3) (v := ?_) [6, 7, 8, 9, 10, 11] (some 16) rfl rfl (by kernel_rfl) (by kernel_rfl) (by kernel_rfl) (by kernel_rfl) (by kernel_rfl) (by kernel_rfl) (by kernel_rfl) (fun _ _ _ h => h) (Or.inl ⟨by rfl, ?_⟩) hS ?_
    rotate_left
    focus (intro wS hSw; (try dsimp only at hSw); go_simp; (try with_reducible rfl); (try (first | (rw [if_pos (by omega)]; (try go_simp); (try with_reducible rfl)) | (rw [if_neg (by omega)]; (try go_simp); (try with_reducible rfl)))))
    try simp only [Act.put, List.setIfInBounds_toArray, List.set_cons_zero, List.set_cons_succ]
    refine wpAnyR_takeQ (i := 4) (v := ?_) (some 17) rfl rfl (by kernel_rfl) (by kernel_rfl) (by kernel_rfl) (by kernel_rfl) (fun _ _ _ h => h) (Or.inl ⟨by rfl, ?_⟩) ?_
    rotate_left
    focus (intro wS hSw; (try dsimp only at hSw); go_simp; (try with_reducible rfl); (try (first | (rw [if_pos (by omega)]; (try go_simp); (try with_reducible rfl)) | (rw [if_neg (by omega)]; (try go_simp); (try with_reducible rfl)))))
    try simp only [Act.put, List.setIfInBounds_toArray, List.set_cons_zero, List.set_cons_succ]
    refine wpAnyR_take (i := 5) (v := ?_) [6, 7, 8, 9, 10, 11] (some 18) rfl rfl (by kernel_rfl) (by kernel_rfl) (by kernel_rfl) (by kernel_rfl) (by kernel_rfl) (by kernel_rfl) (by kernel_rfl) (fun _ _ _ h => h) (Or.inl ⟨by rfl, ?_⟩) hS ?_
    rotate_left
    focus (intro wS hSw; (try dsimp only at hSw); go_simp; (try with_reducible rfl); (try (first | (rw [if_pos (by omega)]; (try go_simp); (try with_reducible rfl)) | (rw [if_neg (by omega)]; (try go_simp); (try with_reducible rfl)))))
    try simp only [Act.put, List.setIfInBounds_toArray, List.set_cons_zero, List.set_cons_succ]
    refine wpAnyR_take (i := 6) (v := ?_) [7, 8, 9, 10, 11] (some 19) rfl rfl (by kernel_rfl) (by kernel_rfl) (by kernel_rfl) (by kernel_rfl) (by kernel_rfl) (by kernel_rfl) (by kernel_rfl) (fun _ _ _ h => h) (Or.inl ⟨by rfl, ?_⟩) hS ?_
    rotate_left
    focus (intro wS hSw; (try dsimp only at hSw); go_simp; (try with_reducible rfl); (try (first | (rw [if_pos (by omega)]; (try go_simp); (try with_reducible rfl)) | (rw [if_neg (by omega)]; (try go_simp); (try with_reducible rfl)))))
    try simp only [Act.put, List.setIfInBounds_toArray, List.set_cons_zero, List.set_cons_succ]
    refine wpAnyR_takeQ (i := 7) (v := ?_) (some 12) rfl rfl (by kernel_rfl) (by kernel_rfl) (by kernel_rfl) (by kernel_rfl) (fun _ _ _ h => h) (Or.inl ⟨by rfl, ?_⟩) ?_
    rotate_left
    focus (intro wS hSw; (try dsimp only at hSw); go_simp; (try with_reducible rfl); (try (first | (rw [if_pos (by omega)]; (try go_simp); (try with_reducible rfl)) | (rw [if_neg (by omega)]; (try go_simp); (try with_reducible rfl)))))
    try simp only [Act.put, List.setIfInBounds_toArray, List.set_cons_zero, List.set_cons_succ]
    refine wpAnyR_takeQ (i := 8) (v := ?_) (some 20) rfl rfl (by kernel_rfl) (by kernel_rfl) (by kernel_rfl) (by kernel_rfl) (fun _ _ _ h => h) (Or.inl ⟨by rfl, ?_⟩) ?_
    rotate_left
    focus (intro wS hSw; (try dsimp only at hSw); go_simp; (try with_reducible rfl); (try (first | (rw [if_pos (by omega)]; (try go_simp); (try with_reducible rfl)) | (rw [if_neg (by omega)]; (try go_simp); (try with_reducible rfl)))))
    try simp only [Act.put, List.setIfInBounds_toArray, List.set_cons_zero, List.set_cons_succ]
    refine wpAnyR_takeQ (i := 9) (v := ?_) (some 21) rfl rfl (by kernel_rfl) (by kernel_rfl) (by kernel_rfl) (by kernel_rfl) (fun _ _ _ h => h) (Or.inl ⟨by rfl, ?_⟩) ?_
    rotate_left
    focus (intro wS hSw; (try dsimp only at hSw); go_simp; (try with_reducible rfl); (try (first | (rw [if_pos (by omega)]; (try go_simp); (try with_reducible rfl)) | (rw [if_neg (by omega)]; (try go_simp); (try with_reducible rfl)))))
    try simp only [Act.put, List.setIfInBounds_toArray, List.set_cons_zero, List.set_cons_succ]
    refine wpAnyR_takeQ (i := 10) (v := ?_) (some 5) rfl rfl (by kernel_rfl) (by kernel_rfl) (by kernel_rfl) (by kernel_rfl) (fun _ _ _ h => h) (Or.inl ⟨by rfl, ?_⟩) ?_
    rotate_left
    focus (intro wS hSw; (try dsimp only at hSw); go_simp; (try with_reducible rfl); (try (first | (rw [if_pos (by omega)]; (try go_simp); (try with_reducible rfl)) | (rw [if_neg (by omega)]; (try go_simp); (try with_reducible rfl)))))
    try simp only [Act.put, List.setIfInBounds_toArray, List.set_cons_zero, List.set_cons_succ]
    refine wpAnyR_takeQ (i := 11) (v := ?_) (some 6) rfl rfl (by kernel_rfl) (by kernel_rfl) (by kernel_rfl) (by kernel_rfl) (fun _ _ _ h => h) (Or.inl ⟨by rfl, ?_⟩) ?_
    rotate_left
    focus (intro wS hSw; (try dsimp only at hSw); go_simp; (try with_reducible rfl); (try (first | (rw [if_pos (by omega)]; (try go_simp); (try with_reducible rfl)) | (rw [if_neg (by omega)]; (try go_simp); (try with_reducible rfl)))))
    try simp only [Act.put, List.setIfInBounds_toArray, List.set_cons_zero, List.set_cons_succ]
    refine wpAnyR_done (by kernel_rfl) ?_ _
    clear hS
    go_wp2_with fail
    go_ret
    exact .inl ⟨⟨by first | rfl | trivial, hef⟩, rfl, by (repeat' first | (with_reducible exact Grew.refl _) | (with_reducible assumption) | (with_reducible refine Grew.alloc ?_ _) | (with_reducible refine Grew.drew ?_) | (with_reducible refine Grew.drewN ?_ _) | (with_reducible refine Grew.setRow ?_ (by first | (simp; done) | (simp; omega) | omega) _) | (with_reducible refine Grew.setCell ?_ (by first | (simp; done) | (simp; omega) | omega) _) | ((with_reducible apply Grew.trans); rotate_left; (with_reducible assumption)) | ((with_reducible apply Grew.turn); rotate_left; (with_reducible assumption); (focus (intro i hi; first | omega | (simp at hi; omega)))) | fail)⟩
  · have HNB := Lib.hid (show ¬ (b = true ∧ e ≤ f) from by rcases hbe with ⟨rfl, h⟩ | rfl <;> simp <;> omega)
    have hS : (fun w' : World => w'.cell? ⟨w.heap.size, 0, none⟩ = some (.int .i64 s) ∧ w'.cell? ⟨q.x, 3, none⟩ = some (.map (some q.m)) ∧ (Instr.lookup 113 (.map (some q.m)) (.int .i64 s) true).run Try.prog w' = .ok (.tuple #[.int .i64 f, .bool b]) w') (w.alloc (.cells #[.int .i64 s, .int .i64 e] 50)).drew := ⟨ha0, hx3, HLK.out _ hm1.drew⟩
    go_enter Try.func99, Try.ntmps99
    go_wp2_with fail
    refine wp_region_R [] (fun w' : World => w'.cell? ⟨w.heap.size, 0, none⟩ = some (.int .i64 s) ∧ w'.cell? ⟨q.x, 3, none⟩ = some (.map (some q.m)) ∧ (Instr.lookup 113 (.map (some q.m)) (.int .i64 s) true).run Try.prog w' = .ok (.tuple #[.int .i64 f, .bool b]) w') (by kernel_rfl) ?_
    refine wpAnyR_takeQ (i := 0) (v := ?_) (some 13) rfl rfl (by kernel_rfl) (by kernel_rfl) (by kernel_rfl) (by kernel_rfl) (fun _ _ _ h => h) (Or.inl ⟨by rfl, ?_⟩) ?_
    rotate_left
    focus (intro wS hSw; (try dsimp only at hSw); go_simp; (try with_reducible rfl); (try (first | (rw [if_pos (by omega)]; (try go_simp); (try with_reducible rfl)) | (rw [if_neg (by omega)]; (try go_simp); (try with_reducible rfl)))))
    try simp only [Act.put, List.setIfInBounds_toArray, List.set_cons_zero, List.set_cons_succ]
    refine wpAnyR_take (i := 1) (v := ?_) [2, 3, 6, 7, 8, 9, 10, 11] (some 14) rfl rfl (by kernel_rfl) (by kernel_rfl) (by kernel_rfl) (by kernel_rfl) (by kernel_rfl) (by kernel_rfl) (by kernel_rfl) (fun _ _ _ h => h) (Or.inl ⟨by rfl, ?_⟩) hS ?_
    rotate_left
    focus (intro wS hSw; (try dsimp only at hSw); go_simp; (try with_reducible rfl); (try (first | (rw [if_pos (by omega)]; (try go_simp); (try with_reducible rfl)) | (rw [if_neg (by omega)]; (try go_simp); (try with_reducible rfl)))))
    try simp only [Act.put, List.setIfInBounds_toArray, List.set_cons_zero, List.set_cons_succ]
    refine wpAnyR_takeQ (i := 2) (v := ?_) (some 15) rfl rfl (by kernel_rfl) (by kernel_rfl) (by kernel_rfl) (by kernel_rfl) (fun _ _ _ h => h) (Or.inl ⟨by rfl, ?_⟩) ?_
    rotate_left
    focus (intro wS hSw; (try dsimp only at hSw); go_simp; (try with_reducible rfl); (try (first | (rw [if_pos (by omega)]; (try go_simp); (try with_reducible rfl)) | (rw [if_neg (by omega)]; (try go_simp); (try with_reducible rfl)))))
    try simp only [Act.put, List.setIfInBounds_toArray, List.set_cons_zero, List.set_cons_succ]
    refine wpAnyR_take (i := 3) (v := ?_) [6, 7, 8, 9, 10, 11] (some 16) rfl rfl (by kernel_rfl) (by kernel_rfl) (by kernel_rfl) (by kernel_rfl) (by kernel_rfl) (by kernel_rfl) (by kernel_rfl) (fun _ _ _ h => h) (Or.inl ⟨by rfl, ?_⟩) hS ?_
    rotate_left
    focus (intro wS hSw; (try dsimp only at hSw); go_simp; (try with_reducible rfl); (try (first | (rw [if_pos (by omega)]; (try go_simp); (try with_reducible rfl)) | (rw [if_neg (by omega)]; (try go_simp); (try with_reducible rfl)))))
    try simp only [Act.put, List.setIfInBounds_toArray, List.set_cons_zero, List.set_cons_succ]
    refine wpAnyR_takeQ (i := 4) (v := ?_) (some 17) rfl rfl (by kernel_rfl) (by kernel_rfl) (by kernel_rfl) (by kernel_rfl) (fun _ _ _ h => h) (Or.inl ⟨by rfl, ?_⟩) ?_
    rotate_left
    focus (intro wS hSw; (try dsimp only at hSw); go_simp; (try with_reducible rfl); (try (first | (rw [if_pos (by omega)]; (try go_simp); (try with_reducible rfl)) | (rw [if_neg (by omega)]; (try go_simp); (try with_reducible rfl)))))
    try simp only [Act.put, List.setIfInBounds_toArray, List.set_cons_zero, List.set_cons_succ]
    refine wpAnyR_take (i := 5) (v := ?_) [6, 7, 8, 9, 10, 11] (some 18) rfl rfl (by kernel_rfl) (by kernel_rfl) (by kernel_rfl) (by kernel_rfl) (by kernel_rfl) (by kernel_rfl) (by kernel_rfl) (fun _ _ _ h => h) (Or.inl ⟨by rfl, ?_⟩) hS ?_
    rotate_left
    focus (intro wS hSw; (try dsimp only at hSw); go_simp; (try with_reducible rfl); (try (first | (rw [if_pos (by omega)]; (try go_simp); (try with_reducible rfl)) | (rw [if_neg (by omega)]; (try go_simp); (try with_reducible rfl)))))
    try simp only [Act.put, List.setIfInBounds_toArray, List.set_cons_zero, List.set_cons_succ]
    refine wpAnyR_take (i := 6) (v := ?_) [7, 8, 9, 10, 11] (some 19) rfl rfl (by kernel_rfl) (by kernel_rfl) (by kernel_rfl) (by kernel_rfl) (by kernel_rfl) (by kernel_rfl) (by kernel_rfl) (fun _ _ _ h => h) (Or.inl ⟨by rfl, ?_⟩) hS ?_
    rotate_left
    focus (intro wS hSw; (try dsimp only at hSw); go_simp; (try with_reducible rfl); (try (first | (rw [if_pos (by omega)]; (try go_simp); (try with_reducible rfl)) | (rw [if_neg (by omega)]; (try go_simp); (try with_reducible rfl)))))
    try simp only [Act.put, List.setIfInBounds_toArray, List.set_cons_zero, List.set_cons_succ]
    refine wpAnyR_takeQ (i := 7) (v := ?_) (some 12) rfl rfl (by kernel_rfl) (by kernel_rfl) (by kernel_rfl) (by kernel_rfl) (fun _ _ _ h => h) (Or.inl ⟨by rfl, ?_⟩) ?_
    rotate_left
    focus (intro wS hSw; (try dsimp only at hSw); go_simp; (try with_reducible rfl); (try (first | (rw [if_pos (by omega)]; (try go_simp); (try with_reducible rfl)) | (rw [if_neg (by omega)]; (try go_simp); (try with_reducible rfl)))))
    try simp only [Act.put, List.setIfInBounds_toArray, List.set_cons_zero, List.set_cons_succ]
    refine wpAnyR_takeQ (i := 8) (v := ?_) (some 20) rfl rfl (by kernel_rfl) (by kernel_rfl) (by kernel_rfl) (by kernel_rfl) (fun _ _ _ h => h) (Or.inl ⟨by rfl, ?_⟩) ?_
    rotate_left
    focus (intro wS hSw; (try dsimp only at hSw); go_simp; (try with_reducible rfl); (try (first | (rw [if_pos (by omega)]; (try go_simp); (try with_reducible rfl)) | (rw [if_neg (by omega)]; (try go_simp); (try with_reducible rfl)))))
    try simp only [Act.put, List.setIfInBounds_toArray, List.set_cons_zero, List.set_cons_succ]
    refine wpAnyR_takeQ (i := 9) (v := ?_) (some 21) rfl rfl (by kernel_rfl) (by kernel_rfl) (by kernel_rfl) (by kernel_rfl) (fun _ _ _ h => h) (Or.inl ⟨by rfl, ?_⟩) ?_
    rotate_left
    focus (intro wS hSw; (try dsimp only at hSw); go_simp; (try with_reducible rfl); (try (first | (rw [if_pos (by omega)]; (try go_simp); (try with_reducible rfl)) | (rw [if_neg (by omega)]; (try go_simp); (try with_reducible rfl)))))
    try simp only [Act.put, List.setIfInBounds_toArray, List.set_cons_zero, List.set_cons_succ]
    refine wpAnyR_takeQ (i := 10) (v := ?_) (some 5) rfl rfl (by kernel_rfl) (by kernel_rfl) (by kernel_rfl) (by kernel_rfl) (fun _ _ _ h => h) (Or.inl ⟨by rfl, ?_⟩) ?_
    rotate_left
    focus (intro wS hSw; (try dsimp only at hSw); go_simp; (try with_reducible rfl); (try (first | (rw [if_pos (by omega)]; (try go_simp); (try with_reducible rfl)) | (rw [if_neg (by omega)]; (try go_simp); (try with_reducible rfl)))))
    try simp only [Act.put, List.setIfInBounds_toArray, List.set_cons_zero, List.set_cons_succ]
    refine wpAnyR_takeQ (i := 11) (v := ?_) (some 6) rfl rfl (by kernel_rfl) (by kernel_rfl) (by kernel_rfl) (by kernel_rfl) (fun _ _ _ h => h) (Or.inl ⟨by rfl, ?_⟩) ?_
    rotate_left
    focus (intro wS hSw; (try dsimp only at hSw); go_simp; (try with_reducible rfl); (try (first | (rw [if_pos (by omega)]; (try go_simp); (try with_reducible rfl)) | (rw [if_neg (by omega)]; (try go_simp); (try with_reducible rfl)))))
    try simp only [Act.put, List.setIfInBounds_toArray, List.set_cons_zero, List.set_cons_succ]
    refine wpAnyR_done (by kernel_rfl) ?_ _
    clear hS
    have hh := (HH.out.grew hG).grew (Grew.refl _).drew
    have hgw := hG.drew
    obtain ⟨w1, hw1⟩ : ∃ w1, w1 = (w.alloc (.cells #[.int .i64 s, .int .i64 e] 50)).drew := ⟨_, rfl⟩
    rw [← hw1] at hh hgw ⊢
    have hb1 := hh.blk
    rw [HF.out, HSV.out] at hb1
    have hx4 := hb1.cell 4
    have hx5 := hb1.cell 5
    have hx6 := hb1.cell 6
    have hx7 := hb1.cell 7
    have hf4 := hb1.frozen 4
    have hf5 := hb1.frozen 5
    have hf6 := hb1.frozen 6
    have hf7 := hb1.frozen 7
    replace ha0 := (show w1.cell? ⟨w.heap.size, 0, none⟩ = some (.int .i64 s) by rw [hw1]; exact ha0)
    replace ha1 := (show w1.cell? ⟨w.heap.size, 1, none⟩ = some (.int .i64 e) by rw [hw1]; exact ha1)
    have hxl1 := hb1.lt
    have HGW := Lib.hid hgw
    have HH1 := Lib.hid hh
    have hwl : w.heap.size < w1.heap.size := by rw [hw1]; show w.heap.size < (w.alloc _).heap.size; simp
    clear hw1 hb1 hx3 hm1 hG hA1 hk hxl hh hgw
    rcases hbe with ⟨rfl, hef⟩ | rfl
    · cases hse : q.set with
      | false =>
        rw [hse] at hx4
        go_wp2_with fail
        go_ret
        exact .inr ⟨(by first | (intro hh; exact absurd hh.1 (by decide)) | (intro hh; have := hh.2; omega)), .inl ⟨by first | rfl | trivial, rfl, HGW.out⟩⟩
      | true =>
        rw [hse] at hx4
        have HSE := Lib.hid hse
        clear hse
        by_cases hl0 : 0 < q.left
        · have hl1 : -9223372036854775808 ≤ q.left - 1 ∧ q.left - 1 ≤ 9223372036854775807 := by omega
          go_wp2_with fail
          go_ret
          have hh := HH1.out
          have hr := hh.rex (w' := w1.setCell ⟨q.x, 5, none⟩ (.int .i64 (q.left - 1))) ((Turned.refl (fun k => k = q.x) w1).setCell (p := ⟨q.x, 5, none⟩) (fun _ => rfl) _) true (q.left - 1) q.svl q.vsv false (some ((q.left - 1).toNat, q.svl))
            ((hh.blk.set_ 5 _).conv (by rw [HSE.out, HF.out]; rfl)) (hh.sv.far (p := ⟨q.x, 5, none⟩) (hh.sv.ne_blk hh.blk (by decide)) _) rfl (by omega) hh.svok
          exact .inr ⟨(by first | (intro hh; exact absurd hh.1 (by decide)) | (intro hh; have := hh.2; omega)), .inr (.inl ⟨HSE.out, hl0, rfl, { q with set := true, left := q.left - 1 }, hr, rex_foot _ _ _ _ _ _ (fun k hk => .inl hk), (HGW.out.turned _).setCell (p := ⟨q.x, 5, none⟩) (fun _ => .inl rfl) _⟩)⟩
        · have hl1 : q.left = 0 := by omega
          rw [hl1] at hx5
          have hh := HH1.out
          have ht4 := (((((Turned.refl (fun k => k = q.x) w1).setCell (p := ⟨q.x, 7, none⟩) (fun _ => rfl) (.bool true)).setCell (p := ⟨q.x, 4, none⟩) (fun _ => rfl) (.bool false)).setCell (p := ⟨q.x, 5, none⟩) (fun _ => rfl) (.int .i64 0)).setCell (p := ⟨q.x, 6, none⟩) (fun _ => rfl) (.slice none 0 0))
          have hr := hh.rex ht4 false 0 [] (.slice none 0 0) true none (((((hh.blk.set_ 7 _).set_ 4 _).set_ 5 _).set_ 6 _).conv rfl) (OwnL.nil _ _ _ _) rfl (by omega) ⟨(fun n hn => by cases hn), by decide⟩
          have hl2 := ((HSL.out.keep (Nat.le_refl _) HGW.out).keptT HGW.out.size ht4 (fun _ b off e hh => HST.out b off e (.inl hh))).mono (Nat.le_trans HGW.out.size ht4.size)
          have hfin := finish_all hr (fun _ => true) A2 c2 q.svl (fun _ => True) hl2 (fun _ => HST.out) HSV9.out HH.out.svok.1 hsmall (fun _ _ _ _ => trivial) (fun _ _ _ _ => trivial) trivial (fun W r _ => admit1_any r W)
          have HFIN := Lib.hid hfin
          have HT4 := Lib.hid ht4
          clear hh ht4 hr hl2 hfin
          go_wp2_with fail
          refine HFIN.out.mono ?_
          rintro er w3 ⟨rfl, q3, hd3, hf3, ht3⟩
          have HD3 := Lib.hid (show Did w w3 q { finishD D (fun _ => true) (svN q.svl) with failed := true, fuse := none } from by
            refine ⟨q3, by rw [← finishD_set]; exact hd3, ((rex_foot w q _ _ _ _ (fun k hk => by cases hk)).trans hf3 (Nat.le_trans HGW.out.size HT4.out.size)), ?_⟩
            exact ((HGW.out.turned q.feet).next HT4.out (fun i _ h => .inl h)).next ht3 (fun i _ h => DevP.turns_feet q i h))
          clear hd3 hf3 ht3
          go_wp2_with fail
          go_ret
          exact .inr ⟨(by first | (intro hh; exact absurd hh.1 (by decide)) | (intro hh; have := hh.2; omega)), .inr (.inr ⟨HSE.out, hl1, rfl, HD3.out⟩)⟩
    · cases hse : q.set with
      | false =>
        rw [hse] at hx4
        go_wp2_with fail
        go_ret
        exact .inr ⟨(by first | (intro hh; exact absurd hh.1 (by decide)) | (intro hh; have := hh.2; omega)), .inl ⟨by first | rfl | trivial, rfl, HGW.out⟩⟩
      | true =>
        rw [hse] at hx4
        have HSE := Lib.hid hse
        clear hse
        by_cases hl0 : 0 < q.left
        · have hl1 : -9223372036854775808 ≤ q.left - 1 ∧ q.left - 1 ≤ 9223372036854775807 := by omega
          go_wp2_with fail
          go_ret
          have hh := HH1.out
          have hr := hh.rex (w' := w1.setCell ⟨q.x, 5, none⟩ (.int .i64 (q.left - 1))) ((Turned.refl (fun k => k = q.x) w1).setCell (p := ⟨q.x, 5, none⟩) (fun _ => rfl) _) true (q.left - 1) q.svl q.vsv false (some ((q.left - 1).toNat, q.svl))
            ((hh.blk.set_ 5 _).conv (by rw [HSE.out, HF.out]; rfl)) (hh.sv.far (p := ⟨q.x, 5, none⟩) (hh.sv.ne_blk hh.blk (by decide)) _) rfl (by omega) hh.svok
          exact .inr ⟨(by first | (intro hh; exact absurd hh.1 (by decide)) | (intro hh; have := hh.2; omega)), .inr (.inl ⟨HSE.out, hl0, rfl, { q with set := true, left := q.left - 1 }, hr, rex_foot _ _ _ _ _ _ (fun k hk => .inl hk), (HGW.out.turned _).setCell (p := ⟨q.x, 5, none⟩) (fun _ => .inl rfl) _⟩)⟩
        · have hl1 : q.left = 0 := by omega
          rw [hl1] at hx5
          have hh := HH1.out
          have ht4 := (((((Turned.refl (fun k => k = q.x) w1).setCell (p := ⟨q.x, 7, none⟩) (fun _ => rfl) (.bool true)).setCell (p := ⟨q.x, 4, none⟩) (fun _ => rfl) (.bool false)).setCell (p := ⟨q.x, 5, none⟩) (fun _ => rfl) (.int .i64 0)).setCell (p := ⟨q.x, 6, none⟩) (fun _ => rfl) (.slice none 0 0))
          have hr := hh.rex ht4 false 0 [] (.slice none 0 0) true none (((((hh.blk.set_ 7 _).set_ 4 _).set_ 5 _).set_ 6 _).conv rfl) (OwnL.nil _ _ _ _) rfl (by omega) ⟨(fun n hn => by cases hn), by decide⟩
          have hl2 := ((HSL.out.keep (Nat.le_refl _) HGW.out).keptT HGW.out.size ht4 (fun _ b off e hh => HST.out b off e (.inl hh))).mono (Nat.le_trans HGW.out.size ht4.size)
          have hfin := finish_all hr (fun _ => true) A2 c2 q.svl (fun _ => True) hl2 (fun _ => HST.out) HSV9.out HH.out.svok.1 hsmall (fun _ _ _ _ => trivial) (fun _ _ _ _ => trivial) trivial (fun W r _ => admit1_any r W)
          have HFIN := Lib.hid hfin
          have HT4 := Lib.hid ht4
          clear hh ht4 hr hl2 hfin
          go_wp2_with fail
          refine HFIN.out.mono ?_
          rintro er w3 ⟨rfl, q3, hd3, hf3, ht3⟩
          have HD3 := Lib.hid (show Did w w3 q { finishD D (fun _ => true) (svN q.svl) with failed := true, fuse := none } from by
            refine ⟨q3, by rw [← finishD_set]; exact hd3, ((rex_foot w q _ _ _ _ (fun k hk => by cases hk)).trans hf3 (Nat.le_trans HGW.out.size HT4.out.size)), ?_⟩
            exact ((HGW.out.turned q.feet).next HT4.out (fun i _ h => .inl h)).next ht3 (fun i _ h => DevP.turns_feet q i h))
          clear hd3 hf3 ht3
          go_wp2_with fail
          go_ret
          exact .inr ⟨(by first | (intro hh; exact absurd hh.1 (by decide)) | (intro hh; have := hh.2; omega)), .inr (.inr ⟨HSE.out, hl1, rfl, HD3.out⟩)⟩
theorem admit_any (hp : plainW s e = true) (hsmall : D.pend.length ≤ 1000000) :
    Calls Try.prog 99 #[.pointer (some ⟨q.x, 0, none⟩), .agg #[.int .i64 s, .int .i64 e]] w fun er w' => er = .returned (.int .i64 (admitD D s e).2) ∧ Did w w' q (admitD D s e).1 := by
  have hp1 := of_decide_eq_true hp
  cases hf : D.failed with
  | true =>
    rw [admitD_failed hf]
    exact (admit_failed h s e hf).mono fun er w' ⟨h1, h2⟩ => ⟨h1, Did.same h h2⟩
  | false =>
    obtain ⟨f, b, ho, ha, hb0, hb1⟩ := h.fence hp1.1 hp1.2.1
    have hiff : e < D.fen s ↔ (b = true ∧ e ≤ f) := by
      cases b with
      | false => rw [hb0 rfl]; simp; omega
      | true => rw [hb1 rfl]; unfold clipE; split <;> simp <;> omega
    refine (admit_live h s e hf hp hsmall f b ho ha).mono ?_
    rintro er w' (⟨h1, rfl, h2⟩ | ⟨h1, ⟨hs, rfl, h2⟩ | ⟨hs, hl, rfl, h2⟩ | ⟨hs, hl, rfl, h2⟩⟩)
    · rw [admitD_fenced hf (hiff.2 h1)]
      exact ⟨rfl, Did.same h h2⟩
    · rw [admitD_none hf (fun hh => h1 (hiff.1 hh)) (by rw [h.fuse, hs]; rfl)]
      exact ⟨rfl, Did.same h h2⟩
    · have hn : D.fuse = some ((q.left - 1).toNat + 1, q.svl) := by rw [h.fuse, hs]; simp only [if_true]; congr 2; omega
      rw [admitD_some hf (fun hh => h1 (hiff.1 hh)) hn]
      refine ⟨rfl, ?_⟩
      rw [← hf] at h2
      exact h2
    · have hn : D.fuse = some (0, q.svl) := by rw [h.fuse, hs, hl]; rfl
      rw [admitD_zero hf (fun hh => h1 (hiff.1 hh)) hn]
      exact ⟨rfl, h2⟩
omit h in
/-- What an admitted call leaves: at most the fuse has turned. -/
theorem admitD_zero_kept {D : Dev} {s e : Int} (h : (admitD D s e).2 = 0) : ∃ fu, (admitD D s e).1 = { D with fuse := fu } := by
  unfold admitD at h ⊢
  split at h
  · cases h
  · split at h
    · cases h
    · split at h
      · cases h
      · rename_i h1 h2 h3
        rw [if_neg h1, if_neg h2, if_neg h3]
        unfold useD at h3 ⊢
        split at h3
        · exact ⟨D.fuse, rfl⟩
        · exact ⟨_, rfl⟩
        · exact absurd rfl h3
end
end Go.Proofs.Ytbddelefglhaaaa
namespace Go.Proofs.Ytbddelefglhaaaa
set_option linter.unusedVariables false
set_option linter.unusedSimpArgs false
set_option linter.unusedSectionVars false
open Go.RowKit
open Go.Maps (Keyed)
attribute [local go_sem ↓] Go.wp_at_zero Go.wp_at_succ
theorem info_wr : (Try.prog.info? 140).map (fun i => (i.zero, i.size, i.bytes)) = some (some (.agg #[.int .i64 0, .int .i64 0, .string ⟨#[]⟩]), 3, 32) := by kernel_rfl
section
variable {w : World} {q : DevP} {D : Dev} (h : DevM w q D) (s e sec : Int) (data : ByteArray) (hsmall : D.pend.length ≤ 999999)
include h hsmall
set_option maxRecDepth 100000 in
set_option maxHeartbeats 8000000 in
theorem write_any (hsz : data.size ≤ 9223372036854775807) : Calls Try.prog 82 #[.pointer (some ⟨q.x, 0, none⟩), .agg #[.int .i64 s, .int .i64 e], .int .i64 sec, .string data] w fun er w' => er = .returned (.int .i64 (writeD D s e sec data).2) ∧ Did w w' q (writeD D s e sec data).1 := by
  have HH := Lib.hid h
  have hG0 := (Grew.refl w).alloc (.cells #[.int .i64 s, .int .i64 e] 50)
  have hA1 := Blk.new w 50 #[.int .i64 s, .int .i64 e] rfl
  have a0 := hA1.cell 0
  have a1 := hA1.cell 1
  have HPL := Lib.hid (plain_any (w.alloc (.cells #[.int .i64 s, .int .i64 e] 50)) s e)
  cases hp : plainW s e with
  | false =>
    have HV := Lib.hid (show writeD D s e sec data = (D, 1) from by unfold writeD; rw [if_pos (.inl hp)])
    have HP := Lib.hid hp
    clear h hp hA1
    go_enter Try.func82, Try.ntmps82
    go_wp2_with fail
    refine HPL.out.mono ?_
    rw [HP.out]
    rintro er w1 ⟨rfl, g1⟩
    have hG := hG0.trans g1
    go_wp2_with fail
    go_ret
    rw [HV.out]
    exact ⟨rfl, Did.same HH.out hG⟩
  | true =>
    by_cases hd : data.size = 140
    · cases ht : thereD D sec with
      | false =>
        have HV := Lib.hid (show writeD D s e sec data = (D, 2) from by unfold writeD; rw [if_neg (by rw [hp, hd]; simp), if_pos ht])
        have HP := Lib.hid hp
        have HT := Lib.hid ht
        have hdi : (data.size : Int) = 140 := by omega
        clear h hp hA1 ht hd
        go_enter Try.func82, Try.ntmps82
        go_wp2_with fail
        refine HPL.out.mono ?_
        rw [HP.out]
        rintro er w1 ⟨rfl, g1⟩
        have hG := hG0.trans g1
        have HTH := Lib.hid (there_any (HH.out.grew hG) sec false HT.out)
        go_wp2_with fail
        refine HTH.out.mono ?_
        rintro er w2 ⟨rfl, rfl⟩
        go_wp2_with fail
        go_ret
        rw [HV.out]
        exact ⟨rfl, Did.same HH.out hG⟩
      | true =>
        have HV := Lib.hid (show writeD D s e sec data = if (admitD D s e).2 ≠ 0 then admitD D s e else ({ (admitD D s e).1 with pend := (admitD D s e).1.pend ++ [⟨s, sec.toNat, data⟩] }, 0) from by unfold writeD; rw [if_neg (by rw [hp, hd]; simp), if_neg (by rw [ht]; decide)])
        have HP := Lib.hid hp
        have HT := Lib.hid ht
        have hdi : (data.size : Int) = 140 := by omega
        have HDS := Lib.hid hd
        have HTH0 := Lib.hid (of_decide_eq_true ht)
        have HKZ := fun hz => Lib.hid (admitD_zero_kept (D := D) (s := s) (e := e) hz)
        clear h hp hA1 ht hd
        generalize hAD : admitD D s e = AD at *
        obtain ⟨D1, er1⟩ := AD
        have HAD := Lib.hid hAD
        clear hAD
        go_enter Try.func82, Try.ntmps82
        go_wp2_with fail
        refine HPL.out.mono ?_
        rw [HP.out]
        rintro er w1 ⟨rfl, g1⟩
        have hG := hG0.trans g1
        have HTH := Lib.hid (there_any (HH.out.grew hG) sec true HT.out)
        have b0 := (g1.cellEq w.heap.size 0 (by simp)).trans a0
        have b1 := (g1.cellEq w.heap.size 1 (by simp)).trans a1
        have HAM := Lib.hid (admit_any (HH.out.grew hG) s e HP.out (by omega))
        have HG := Lib.hid hG
        have hwl : w.heap.size < w1.heap.size := by have := g1.size; simp at this; omega
        rw [HAD.out] at HAM
        clear g1 a0 a1 hG0 hG
        go_wp2_with fail
        refine HTH.out.mono ?_
        rintro er w2 ⟨rfl, rfl⟩
        go_wp2_with fail
        refine HAM.out.mono ?_
        rintro er w3 ⟨rfl, q3, hd3, hf3, ht3⟩
        have HF3 := Lib.hid hf3
        have hnf : ¬ q.feet w.heap.size := fun hh => absurd (HH.out.feet_lt _ hh) (by omega)
        have b0' := (ht3.cellEq w.heap.size 0 hwl hnf).trans b0
        have b1' := (ht3.cellEq w.heap.size 1 hwl hnf).trans b1
        have HT3 := Lib.hid ((HG.out.turned q.feet).trans ht3)
        have HD3 := Lib.hid hd3
        have hwl3 : w.heap.size < w3.heap.size := by have := ht3.size; omega
        have HDID := Lib.hid (show Did w1 w3 q D1 from ⟨q3, hd3, hf3, ht3⟩)
        have HT39 := Lib.hid ht3
        have hnf3 : ¬ q3.feet w.heap.size := fun hh => (hf3.feet _ hh).elim hnf (fun h9 => absurd hwl (by omega))
        clear hf3 hd3 ht3 b0 b1
        by_cases hz : er1 = 0
        · subst hz
          obtain ⟨fu, hD1⟩ := (HKZ rfl).out
          have HKD := Lib.hid hD1
          have hpe : D1.pend = D.pend := by rw [hD1]
          have hpl1 : D1.pend.length ≤ 999999 := by rw [hpe]; exact hsmall
          have hst1 : D1.st.length = D.st.length := by rw [hD1]
          have HPE := Lib.hid hpe
          have HS1 := Lib.hid hst1
          clear hD1 hpe hst1 HKZ
          have hb3 := HD3.out.blk
          rw [HF3.out.x] at hb3
          have hxl3 := hb3.lt
          have x2 := hb3.cell 2
          have HB3 := Lib.hid hb3
          have hsys := of_decide_eq_true HP.out
          clear hb3
          go_wp2_with fail
          refine wp_region_R [14] (fun w' : World => w'.cell? ⟨w.heap.size, 0, none⟩ = some (.int .i64 s) ∧ w'.cell? ⟨q.x, 2, none⟩ = some q3.vp) (by kernel_rfl) ?_
          have hS := (show (fun w' : World => w'.cell? ⟨w.heap.size, 0, none⟩ = some (.int .i64 s) ∧ w'.cell? ⟨q.x, 2, none⟩ = some q3.vp) w3.drew from ⟨b0', x2⟩)
          refine wpAnyR_takeQ (i := 0) (v := ?_) (some 28) rfl rfl (by kernel_rfl) (by kernel_rfl) (by kernel_rfl) (by kernel_rfl) (fun _ _ _ h => h) (Or.inl ⟨by rfl, ?_⟩) ?_
          rotate_left
          focus (intro wS hSw; (try dsimp only at hSw); go_simp; (try with_reducible rfl); (try (first | (rw [if_pos (by omega)]; (try go_simp); (try with_reducible rfl)) | (rw [if_neg (by omega)]; (try go_simp); (try with_reducible rfl)))))
          try simp only [Act.put, List.setIfInBounds_toArray, List.set_cons_zero, List.set_cons_succ]
          refine wpAnyR_takeQ (i := 1) (v := ?_) (some 29) rfl rfl (by kernel_rfl) (by kernel_rfl) (by kernel_rfl) (by kernel_rfl) (fun _ _ _ h => h) (Or.inl ⟨by rfl, ?_⟩) ?_
          rotate_left
          focus (intro wS hSw; (try dsimp only at hSw); go_simp; (try with_reducible rfl); (try (first | (rw [if_pos (by omega)]; (try go_simp); (try with_reducible rfl)) | (rw [if_neg (by omega)]; (try go_simp); (try with_reducible rfl)))))
          try simp only [Act.put, List.setIfInBounds_toArray, List.set_cons_zero, List.set_cons_succ]
          refine wpAnyR_take (i := 2) (v := ?_) [3, 4, 11, 12, 13, 14] (some 30) rfl rfl (by kernel_rfl) (by kernel_rfl) (by kernel_rfl) (by kernel_rfl) (by kernel_rfl) (by kernel_rfl) (by kernel_rfl) (fun _ _ _ h => h) (Or.inl ⟨by rfl, ?_⟩) hS ?_
          rotate_left
          focus (intro wS hSw; (try dsimp only at hSw); go_simp; (try with_reducible rfl); (try (first | (rw [if_pos (by omega)]; (try go_simp); (try with_reducible rfl)) | (rw [if_neg (by omega)]; (try go_simp); (try with_reducible rfl)))))
          try simp only [Act.put, List.setIfInBounds_toArray, List.set_cons_zero, List.set_cons_succ]
          refine wpAnyR_takeQ (i := 3) (v := ?_) (some 31) rfl rfl (by kernel_rfl) (by kernel_rfl) (by kernel_rfl) (by kernel_rfl) (fun _ _ _ h => h) (Or.inl ⟨by rfl, ?_⟩) ?_
          rotate_left
          focus (intro wS hSw; (try dsimp only at hSw); go_simp; (try with_reducible rfl); (try (first | (rw [if_pos (by omega)]; (try go_simp); (try with_reducible rfl)) | (rw [if_neg (by omega)]; (try go_simp); (try with_reducible rfl)))))
          try simp only [Act.put, List.setIfInBounds_toArray, List.set_cons_zero, List.set_cons_succ]
          refine wpAnyR_take (i := 4) (v := ?_) [11, 12, 13, 14] (some 32) rfl rfl (by kernel_rfl) (by kernel_rfl) (by kernel_rfl) (by kernel_rfl) (by kernel_rfl) (by kernel_rfl) (by kernel_rfl) (fun _ _ _ h => h) (Or.inl ⟨by rfl, ?_⟩) hS ?_
          rotate_left
          focus (intro wS hSw; (try dsimp only at hSw); go_simp; (try with_reducible rfl); (try (first | (rw [if_pos (by omega)]; (try go_simp); (try with_reducible rfl)) | (rw [if_neg (by omega)]; (try go_simp); (try with_reducible rfl)))))
          try simp only [Act.put, List.setIfInBounds_toArray, List.set_cons_zero, List.set_cons_succ]
          refine wpAnyR_takeQ (i := 5) (v := ?_) (some 33) rfl rfl (by kernel_rfl) (by kernel_rfl) (by kernel_rfl) (by kernel_rfl) (fun _ _ _ h => h) (Or.inl ⟨by rfl, ?_⟩) ?_
          rotate_left
          focus (intro wS hSw; (try dsimp only at hSw); go_simp; (try with_reducible rfl); (try (first | (rw [if_pos (by omega)]; (try go_simp); (try with_reducible rfl)) | (rw [if_neg (by omega)]; (try go_simp); (try with_reducible rfl)))))
          try simp only [Act.put, List.setIfInBounds_toArray, List.set_cons_zero, List.set_cons_succ]
          refine wpAnyR_take (i := 6) (v := ?_) [9, 10, 11, 12, 13, 14] (some 34) rfl rfl (by kernel_rfl) (by kernel_rfl) (by kernel_rfl) (by kernel_rfl) (by kernel_rfl) (by kernel_rfl) (by kernel_rfl) (fun _ _ _ h => h) (Or.inl ⟨by rfl, ?_⟩) hS ?_
          rotate_left
          focus (intro wS hSw; (try dsimp only at hSw); go_simp; (try with_reducible rfl); (try (first | (rw [if_pos (by omega)]; (try go_simp); (try with_reducible rfl)) | (rw [if_neg (by omega)]; (try go_simp); (try with_reducible rfl)))))
          try simp only [Act.put, List.setIfInBounds_toArray, List.set_cons_zero, List.set_cons_succ]
          refine wpAnyR_takeQ (i := 7) (v := ?_) (some 35) rfl rfl (by kernel_rfl) (by kernel_rfl) (by kernel_rfl) (by kernel_rfl) (fun _ _ _ h => h) (Or.inl ⟨by rfl, ?_⟩) ?_
          rotate_left
          focus (intro wS hSw; (try dsimp only at hSw); go_simp; (try with_reducible rfl); (try (first | (rw [if_pos (by omega)]; (try go_simp); (try with_reducible rfl)) | (rw [if_neg (by omega)]; (try go_simp); (try with_reducible rfl)))))
          try simp only [Act.put, List.setIfInBounds_toArray, List.set_cons_zero, List.set_cons_succ]
          refine wpAnyR_takeQ (i := 8) (v := ?_) (some 36) rfl rfl (by kernel_rfl) (by kernel_rfl) (by kernel_rfl) (by kernel_rfl) (fun _ _ _ h => h) (Or.inl ⟨by rfl, ?_⟩) ?_
          rotate_left
          focus (intro wS hSw; (try dsimp only at hSw); go_simp; (try with_reducible rfl); (try (first | (rw [if_pos (by omega)]; (try go_simp); (try with_reducible rfl)) | (rw [if_neg (by omega)]; (try go_simp); (try with_reducible rfl)))))
          try simp only [Act.put, List.setIfInBounds_toArray, List.set_cons_zero, List.set_cons_succ]
          refine wpAnyR_takeQ (i := 9) (v := ?_) (some 37) rfl rfl (by kernel_rfl) (by kernel_rfl) (by kernel_rfl) (by kernel_rfl) (fun _ _ _ h => h) (Or.inl ⟨by rfl, ?_⟩) ?_
          rotate_left
          focus (intro wS hSw; (try dsimp only at hSw); go_simp; (try with_reducible rfl); (try (first | (rw [if_pos (by omega)]; (try go_simp); (try with_reducible rfl)) | (rw [if_neg (by omega)]; (try go_simp); (try with_reducible rfl)))))
          try simp only [Act.put, List.setIfInBounds_toArray, List.set_cons_zero, List.set_cons_succ]
          refine wpAnyR_n1 (i := 10) rfl (by kernel_rfl) ?_
          intro K' hK
          rw [if_pos (by rfl)]
          simp only [List.getElem_toArray, List.getElem_cons_succ, List.getElem_cons_zero]
          go_wp2_with fail
          have hg4 := ((Grew.refl w3.drew).alloc (.cells #[.int .i64 s, .int .i64 sec, .string data] 140))
          have hB4 := HB3.out.drew.grew hg4
          refine hK.out _ _ (.inr (fun _ => ⟨(hg4.cellEq _ _ (by show w.heap.size < w3.heap.size; omega)).trans b0', hB4.cell 2⟩)) ?_
          clear hK hS
          refine wpAnyR_n1 (i := 11) rfl (by kernel_rfl) ?_
          intro K' hK
          rw [if_pos (by rfl)]
          simp only [List.getElem_toArray, List.getElem_cons_succ, List.getElem_cons_zero]
          have hpo := (HD3.out.grew (Grew.refl w3).drew).pend
          refine wp_push (.tmp 32) (.tmp 38) 112 rfl 0 140 3 32 _ Try.underlying112 info_wr rfl (by decide) _ q3.vp (D1.pend.map wrC) [.int .i64 s, .int .i64 sec, .string data] rfl rfl (hpo.grew hg4) w3.heap.size rfl (Blk.new w3.drew _ _ rfl) rfl (by rw [wrC_len]; omega) (by rw [wrC_len]; omega) (Nat.zero_le _) D1.pend.length (wrC_len _) ?_
          intro g5 c5 w5 hown5 hgrow hat hlt5
          have hgx : q3.vp.ownBlock ≠ some q.x := by rw [← HF3.out.x]; exact HD3.out.pend.ne_blk HD3.out.blk (by decide)
          have hgb : q3.vp.ownBlock ≠ some w.heap.size := fun hh => hnf3 (.inr (.inr (.inr (.inr (.inl hh)))))
          have ht5 := ((((Grew.refl w3).drew).alloc (.cells #[.int .i64 s, .int .i64 sec, .string data] 140)).turned (fun k => q3.vp.ownBlock = some k)).trans ⟨hgrow.os, hgrow.tape, hgrow.output, hgrow.size, fun k hk hn => hgrow.block k hk (fun e => hn e.symm)⟩
          have hB5 := HB3.out.turned ht5 hgx
          have hc5 := (ht5.cellEq w.heap.size 0 hwl3 hgb).trans b0'
          have x5 := hB5.cell 2
          have f5 := hB5.frozen 2
          have hl5 := hB5.lt
          refine hK.out _ _ (.inr (fun _ => ⟨hc5, x5⟩)) ?_
          clear hK
          have hS := (show (fun w' : World => w'.cell? ⟨w.heap.size, 0, none⟩ = some (.int .i64 s) ∧ w'.cell? ⟨q.x, 2, none⟩ = some q3.vp) w5 from ⟨hc5, x5⟩)
          simp only [Act.put, List.setIfInBounds_toArray, List.set_cons_zero, List.set_cons_succ]
          refine wpAnyR_take (i := 12) (v := ?_) [13, 14] (some 40) rfl rfl (by kernel_rfl) (by kernel_rfl) (by kernel_rfl) (by kernel_rfl) (by kernel_rfl) (by kernel_rfl) (by kernel_rfl) (fun _ _ _ h => h) (Or.inl ⟨by rfl, ?_⟩) hS ?_
          rotate_left
          focus (intro wS hSw; (try dsimp only at hSw); go_simp; (try with_reducible rfl); (try (first | (rw [if_pos (by omega)]; (try go_simp); (try with_reducible rfl)) | (rw [if_neg (by omega)]; (try go_simp); (try with_reducible rfl)))))
          try simp only [Act.put, List.setIfInBounds_toArray, List.set_cons_zero, List.set_cons_succ]
          refine wpAnyR_takeQ (i := 13) (v := ?_) (some 41) rfl rfl (by kernel_rfl) (by kernel_rfl) (by kernel_rfl) (by kernel_rfl) (fun _ _ _ h => h) (Or.inl ⟨by rfl, ?_⟩) ?_
          rotate_left
          focus (intro wS hSw; (try dsimp only at hSw); go_simp; (try with_reducible rfl); (try (first | (rw [if_pos (by omega)]; (try go_simp); (try with_reducible rfl)) | (rw [if_neg (by omega)]; (try go_simp); (try with_reducible rfl)))))
          try simp only [Act.put, List.setIfInBounds_toArray, List.set_cons_zero, List.set_cons_succ]
          refine wpAnyR_n1 (i := 14) rfl (by kernel_rfl) ?_
          intro K' hK
          rw [if_pos (by rfl)]
          simp only [List.getElem_toArray, List.getElem_cons_succ, List.getElem_cons_zero]
          go_wp2_with fail
          refine hK.out _ _ (.inl rfl) ?_
          clear hK hS
          refine wpAnyR_done (by kernel_rfl) ?_ _
          have hthere := HTH0.out
          have hnew := HD3.out.new_pend (w1 := w5) ht5 (P' := D1.pend ++ [⟨s, sec.toNat, data⟩]) (vp' := .slice (some ⟨g5, 0, none⟩) (D1.pend.length + 1) c5) (by
              rw [List.map_append]
              have : [(⟨s, sec.toNat, data⟩ : Wr)].map wrC = [[.int .i64 s, .int .i64 sec, .string data]] := by
                show [[Value.int .i64 s, .int .i64 ((sec.toNat : Nat) : Int), .string data]] = _
                rw [Int.toNat_of_nonneg hthere.1]
              rw [this]
              exact hown5) (fun r hr => by
              rcases List.mem_append.1 hr with hr | hr
              · exact HD3.out.ok.pend r hr
              · rw [List.mem_singleton.1 hr]
                refine ⟨?_, HDS.out, ?_⟩
                · rw [HS1.out]; show sec.toNat < _; omega
                · show 1 ≤ s ∧ s ≤ 4; omega)
          rw [HF3.out.x] at hnew
          have HNEW := Lib.hid hnew
          have HT5 := Lib.hid ht5
          clear hnew ht5 hgrow hown5 hB5 hB4 hc5 x5 f5 b0' b1' x2
          go_wp2_with fail
          go_ret
          rw [HV.out, if_neg (by decide)]
          refine ⟨rfl, Did.trans (Foot'.refl w q) (HG.out.turned _) (Did.trans HF3.out HT39.out ⟨_, HNEW.out, ⟨HF3.out.x.symm, rfl, fun k hk => ?_⟩, ?_⟩)⟩
          · rcases hk with hk | hk | hk | hk | hk | hk | hk
            · exact .inl (.inl (hk.trans HF3.out.x.symm))
            · exact .inl (.inr (.inl hk))
            · exact .inl (.inr (.inr (.inl hk)))
            · exact .inl (.inr (.inr (.inr (.inl hk))))
            · rcases hat with hat | hat
              · exact .inl (.inr (.inr (.inr (.inr (.inl (by rw [hat]; exact hk))))))
              · injection hk with hk; subst hk; rw [hat]; right; simp
            · exact .inl (.inr (.inr (.inr (.inr (.inr (.inl hk))))))
            · exact .inl (.inr (.inr (.inr (.inr (.inr (.inr hk))))))
          · exact (HT5.out.mono (fun k _ hk => .inr (.inr (.inr (.inr (.inl hk)))))).setCell (p := ⟨q.x, 2, none⟩) (fun _ => .inl HF3.out.x.symm) _
        · have hz' : (er1 == 0) = false := beq_eq_false_iff_ne.2 hz
          have HZ := Lib.hid hz
          clear hz
          go_wp2_with fail
          go_ret
          rw [HV.out, if_pos HZ.out]
          exact ⟨rfl, Did.trans (Foot'.refl w q) (HG.out.turned _) HDID.out⟩
    · have HV := Lib.hid (show writeD D s e sec data = (D, 1) from by unfold writeD; rw [if_pos (.inr hd)])
      have HP := Lib.hid hp
      have hdi : ¬ (data.size : Int) = 140 := by omega
      clear h hp hA1 hd
      go_enter Try.func82, Try.ntmps82
      go_wp2_with fail
      refine HPL.out.mono ?_
      rw [HP.out]
      rintro er w1 ⟨rfl, g1⟩
      have hG := hG0.trans g1
      go_wp2_with fail
      go_ret
      rw [HV.out]
      exact ⟨rfl, Did.same HH.out hG⟩
end
end Go.Proofs.Ytbddelefglhaaaa
namespace Go.Proofs.Ytbddelefglhaaaa
set_option linter.unusedVariables false
set_option linter.unusedSimpArgs false
set_option linter.unusedSectionVars false
open Go.RowKit
open Go.Maps (Keyed)
attribute [local go_sem ↓] Go.wp_at_zero Go.wp_at_succ
theorem runEnd_congr (p : Wr → Bool) (sv sv' : Nat → Nat) : ∀ (l : List Wr) (E : Dev) (k : Nat), (∀ i, k ≤ i → i < k + l.length → sv i = sv' i) → l.foldl (endStep p sv) (E, k) = l.foldl (endStep p sv') (E, k)
  | [], _, _, _ => rfl
  | r :: l, E, k, h => by
    rw [List.foldl_cons, List.foldl_cons]
    have he : endStep p sv (E, k) r = endStep p sv' (E, k) r := by
      unfold endStep
      cases p r with
      | false => rfl
      | true => simp only [if_true]; rw [h k (Nat.le_refl _) (by simp)]
    rw [he]
    obtain ⟨E', k', hE⟩ : ∃ E' k', endStep p sv' (E, k) r = (E', k') := ⟨_, _, rfl⟩
    have hk : k ≤ k' ∧ k' ≤ k + 1 := by
      have : k' = (endStep p sv' (E, k) r).2 := by rw [hE]
      rw [this]
      unfold endStep
      cases p r <;> simp
    rw [hE]
    exact runEnd_congr p sv sv' l E' k' (fun i h1 h2 => h i (by omega) (by simp; omega))
theorem finishD_congr (D : Dev) (p : Wr → Bool) (sv sv' : Nat → Nat) (h : ∀ i, i < D.pend.length → sv i = sv' i) : finishD D p sv = finishD D p sv' := by
  unfold finishD runEnd
  rw [runEnd_congr p sv sv' D.pend D 0 (fun i _ h2 => h i (by omega))]
/-- Cells just made. -/
theorem made_one {t e : TypeId} {z : Value} {b : Nat} (w : World) (n : Nat) (ht : Try.prog.underlying t = some (.slice e)) (hi : (Try.prog.info? e).map (fun i => (i.zero, i.size, i.bytes)) = some (some z, 1, b)) (hz : z.cells = #[z]) (hb : n * b ≤ 140737488355328) (hn : n ≤ 1000000) :
    (Instr.makeSlice t (.int .i64 (n : Int)) (.int .i64 (n : Int))).run Try.prog w = .ok (.slice (some ⟨w.heap.size, 0, none⟩) n n) (w.alloc (.cells (Array.replicate n z) e)) := by
  obtain ⟨i, hi, hz0, hz1, hz2⟩ := info_parts hi
  have hbb : (i.bytes : Int) * (n : Int) ≤ 281474976710656 := by
    obtain ⟨m, hm⟩ : ∃ m, n * b = m := ⟨_, rfl⟩
    rw [hm] at hb
    have : (i.bytes : Int) * (n : Int) = (m : Int) := by rw [hz2, ← hm, Int.natCast_mul, Int.mul_comm]
    omega
  have h := run_make (P := Try.prog) w t e i _ ht hi hz0 .i64 .i64 (n : Int) (n : Int) (by omega) (by omega) hbb (by omega)
  rw [hz1] at h
  simp only [Int.toNat_natCast, Nat.mul_one] at h
  rw [h]
  have hc : madeCells z.cells n = Array.replicate n z := by
    unfold madeCells
    rw [hz]
    apply Array.ext
    · simp
    · intro j h1 h2
      simp [Nat.mod_one]
  rw [hc]
theorem OwnL.made (w : World) (base e n : Nat) (z : Value) (hb : base ≤ w.heap.size) (hn : n ≤ 9223372036854775807) {m : Nat} (hm : m = w.heap.size) : OwnL (w.alloc (.cells (Array.replicate n z) e)) base e 1 (.slice (some ⟨m, 0, none⟩) n n) (List.replicate n [z]) := by
  subst hm
  refine ⟨fun r hr => by rw [(List.mem_replicate.1 hr).2]; rfl, ?_⟩
  have := World.ownsRow_lit (base := base) (e := e) (size := 1) w (Array.replicate n z) n hb (by unfold maxLen; exact hn) (by simp)
  have h2 : (List.replicate n [z]).flatten = (Array.replicate n z).toList := by
    rw [Array.toList_replicate]
    induction n with
    | zero => rfl
    | succ n ih =>
      rw [List.replicate_succ, List.flatten_cons, List.replicate_succ]
      rw [ih (by omega) (World.ownsRow_lit (base := base) (e := e) (size := 1) w (Array.replicate n z) n hb (by unfold maxLen; omega) (by simp))]
      rfl
  rw [h2, List.length_replicate]
  exact this
theorem info_int : (Try.prog.info? 3).map (fun i => (i.zero, i.size, i.bytes)) = some (some (.int .i64 0), 1, 8) := by kernel_rfl
section
variable {w : World} {q : DevP} {D : Dev} (h : DevM w q D) (s : Int)
include h
set_option maxRecDepth 100000 in
set_option maxHeartbeats 8000000 in
theorem sync_any (e : Int) (hsmall : D.pend.length ≤ 1000000) :
    Calls Try.prog 84 #[.pointer (some ⟨q.x, 0, none⟩), .agg #[.int .i64 s, .int .i64 e]] w fun er w' => er = .returned (.int .i64 (syncD D s e).2) ∧ Did w w' q (syncD D s e).1 := by
  have HH := Lib.hid h
  have hG0 := (Grew.refl w).alloc (.cells #[.int .i64 s, .int .i64 e] 50)
  have hA1 := Blk.new w 50 #[.int .i64 s, .int .i64 e] rfl
  have a0 := hA1.cell 0
  have a1 := hA1.cell 1
  have HPL := Lib.hid (plain_any (w.alloc (.cells #[.int .i64 s, .int .i64 e] 50)) s e)
  cases hp : plainW s e with
  | false =>
    have HV := Lib.hid (show syncD D s e = (D, 1) from by unfold syncD; rw [if_pos hp])
    have HP := Lib.hid hp
    clear h hp hA1
    go_enter Try.func84, Try.ntmps84
    go_wp2_with fail
    refine HPL.out.mono ?_
    rw [HP.out]
    rintro er w1 ⟨rfl, g1⟩
    have hG := hG0.trans g1
    go_wp2_with fail
    go_ret
    rw [HV.out]
    exact ⟨rfl, Did.same HH.out hG⟩
  | true =>
    have HV := Lib.hid (show syncD D s e = if (admitD D s e).2 ≠ 0 then admitD D s e else (finishD (admitD D s e).1 (ofSys s) (fun _ => 140), 0) from by unfold syncD; rw [if_neg (by rw [hp]; simp)])
    have HP := Lib.hid hp
    have HKZ := fun hz => Lib.hid (admitD_zero_kept (D := D) (s := s) (e := e) hz)
    clear h hp hA1
    generalize hAD : admitD D s e = AD at *
    obtain ⟨D1, er1⟩ := AD
    have HAD := Lib.hid hAD
    clear hAD
    go_enter Try.func84, Try.ntmps84
    go_wp2_with fail
    refine HPL.out.mono ?_
    rw [HP.out]
    rintro er w1 ⟨rfl, g1⟩
    have hG := hG0.trans g1
    have b0 := (g1.cellEq w.heap.size 0 (by simp)).trans a0
    have b1 := (g1.cellEq w.heap.size 1 (by simp)).trans a1
    have HAM := Lib.hid (admit_any (HH.out.grew hG) s e HP.out (by omega))
    have HG := Lib.hid hG
    have hwl : w.heap.size < w1.heap.size := by have := g1.size; simp at this; omega
    rw [HAD.out] at HAM
    clear g1 a0 a1 hG0 hG
    go_wp2_with fail
    refine HAM.out.mono ?_
    rintro er w3 ⟨rfl, q3, hd3, hf3, ht3⟩
    have HF3 := Lib.hid hf3
    have hnf : ¬ q.feet w.heap.size := fun hh => absurd (HH.out.feet_lt _ hh) (by omega)
    have b0' := (ht3.cellEq w.heap.size 0 hwl hnf).trans b0
    have HD3 := Lib.hid hd3
    have hwl3 : w.heap.size < w3.heap.size := by have := ht3.size; omega
    have HDID := Lib.hid (show Did w1 w3 q D1 from ⟨q3, hd3, hf3, ht3⟩)
    have HT39 := Lib.hid ht3
    clear hf3 hd3 ht3 b0 b1
    by_cases hz : er1 = 0
    · subst hz
      obtain ⟨fu, hD1⟩ := (HKZ rfl).out
      have hpe : D1.pend = D.pend := by rw [hD1]
      have hpl1 : D1.pend.length ≤ 1000000 := by rw [hpe]; exact hsmall
      obtain ⟨A, c, hvp, hc1, hc2, hpl⟩ := HD3.out.pend_list
      have hb3 := HD3.out.blk
      rw [HF3.out.x, hvp] at hb3
      have hxl3 := hb3.lt
      have x2 := hb3.cell 2
      have hmk := made_one w3 D1.pend.length Try.underlying54 info_int rfl (by omega) hpl1
      have hown := OwnL.made w3 0 3 D1.pend.length (.int .i64 0) (Nat.zero_le _) (by omega) rfl
      have hg4 := (Grew.refl w3).alloc (.cells (Array.replicate D1.pend.length (.int .i64 0)) 3)
      have HG4 := Lib.hid hg4
      have HOWN := Lib.hid hown
      have hb0 := (hg4.cellEq _ _ hwl3).trans b0'
      have HB0 := Lib.hid b0'
      clear hD1 hpe HKZ hb3 hvp hpl hg4 hown b0'
      generalize hn : D1.pend.length = n at *
      have HN := Lib.hid hn
      clear hn
      go_wp2_with fail
      obtain ⟨w4, hw4⟩ : ∃ w4, w4 = w3.alloc (.cells (Array.replicate n (.int .i64 0)) 3) := ⟨_, rfl⟩
      rw [← hw4] at HG4 HOWN hb0 ⊢
      have hwl4 : w3.heap.size < w4.heap.size := by rw [hw4]; simp
      have hz4 : w4.heap.size = w3.heap.size + 1 := by rw [hw4]; simp
      clear hw4 x2 hmk
      go_loopg [25] n (fun gk iv wr => ∃ j : Nat, j ≤ n ∧ gk = n - j ∧ iv = .int .i64 (j : Int) ∧ OwnL wr 0 3 1 (.slice (some ⟨w3.heap.size, 0, none⟩) n n) ((List.replicate j (140 : Int) ++ List.replicate (n - j) 0).map intC) ∧ Turned (fun k => k = w3.heap.size) w4 wr)
      case atStart => exact ⟨0, by omega, rfl, rfl, by rw [List.replicate_zero, List.nil_append, List.map_replicate]; exact HOWN.out, Turned.refl _ _⟩
      case round =>
        obtain ⟨j, hj, hgk, rfl, hor, htr⟩ := hrel
        have HGK := Lib.hid hgk
        have HTR := Lib.hid htr
        have HOR := Lib.hid hor
        have hzr := htr.size
        clear hgk
        by_cases hlt : j < n
        · have hrow : ((List.replicate j (140 : Int) ++ List.replicate (n - j) 0).map intC)[j]? = some (intC 0) := by
            rw [List.getElem?_map, List.getElem?_append_right (by simp), List.length_replicate, Nat.sub_self, List.getElem?_replicate, if_pos (by omega)]; rfl
          have c0 := hor.cell (i := 0) hrow rfl
          rw [Nat.mul_one, Nat.add_zero] at c0
          have f0 := hor.frozen j
          have hs := hor.set_ (j := j) (i := 0) (o := j) hrow (by omega) (by omega) (.int .i64 140)
          have he : ((List.replicate j (140 : Int) ++ List.replicate (n - j) 0).map intC).set j ((intC 0).set 0 (.int .i64 140)) = (List.replicate (j + 1) (140 : Int) ++ List.replicate (n - (j + 1)) 0).map intC := by
            rw [show (intC 0).set 0 (.int .i64 140) = intC 140 from rfl, ← List.map_set]
            congr 1
            rw [List.set_append_right _ _ (by simp), List.length_replicate, Nat.sub_self, show n - j = (n - (j + 1)) + 1 by omega, List.replicate_succ, List.set_cons_zero, List.replicate_succ', List.append_assoc]
            rfl
          rw [he] at hs
          have HS := Lib.hid hs
          clear hs he hrow hor htr
          go_wp2_with fail
          go_roundg (n - (j + 1))
          case measure => rw [HGK.out]; omega
          case rel => exact ⟨j + 1, by omega, by omega, by go_num, HS.out, HTR.out.setCell (p := ⟨w3.heap.size, j, none⟩) (fun _ => rfl) _⟩
        · obtain rfl : j = n := by omega
          have hor := HOR.out
          rw [Nat.sub_self, List.replicate_zero, List.append_nil] at hor
          have hgr : Grew w3 wr := HG4.out.turn HTR.out (fun k hk => by omega)
          have hbo := (hgr.cellEq _ _ hwl3).trans HB0.out
          have hd4 := HD3.out.grew hgr
          have g5 := (Grew.refl wr).alloc (.cells #[.int .i64 s] 3)
          have hbs := Blk.new wr 3 #[.int .i64 s] rfl
          have hdx : q3.x = q.x := HF3.out.x
          have hnt : ¬ q3.turns wr.heap.size := fun hh => absurd (hd4.feet_lt _ (DevP.turns_feet _ _ hh)) (by omega)
          have hnt3 : ¬ q3.turns w3.heap.size := fun hh => absurd (HD3.out.feet_lt _ (DevP.turns_feet _ _ hh)) (by omega)
          have hla : ListAt wr wr.heap.size 1 (some ⟨w3.heap.size, 0, none⟩) ((List.replicate j (140 : Int)).map intC) := hor.listA
          have hfin := finish_of wr.heap.size (hd4.grew g5) (ofSys s) (some ⟨w3.heap.size, 0, none⟩) j (List.replicate j 140) (fun W => Blk W wr.heap.size 3 #[.int .i64 s]) ((hla.keep (Nat.le_refl _) g5).mono g5.size) (fun _ b off he hb => by
            injection he with he
            injection he with he _ _
            rw [← he] at hb
            exact hnt3 hb) (by rw [List.length_replicate]; omega) (fun n hn => by rw [(List.mem_replicate.1 hn).2]; unfold okI; omega) (by rw [HN.out]; omega) (fun W W' hk ht => hk.turned ht hnt) (fun W W' hk hg => hk.grew hg) hbs (fun W r hk => of1_any s r _ W hk)
          rw [List.length_replicate, hdx] at hfin
          have HFIN := Lib.hid hfin
          have HGR := Lib.hid hgr
          clear hor hgr hd4 g5 hbs hla hfin hb0
          go_wp2_with fail
          refine (of_any s wr).mono ?_
          rintro er w5 ⟨rfl, rfl⟩
          go_wp2_with fail
          refine HFIN.out.mono ?_
          rintro er w6 ⟨rfl, q6, hd6, hf6, ht6⟩
          have hfc : finishD D1 (ofSys s) (svN (List.replicate j 140)) = finishD D1 (ofSys s) (fun _ => 140) := finishD_congr _ _ _ _ (fun i hi => by
            unfold svN
            rw [List.getD_eq_getElem?_getD, List.getElem?_replicate, if_pos (by rw [HN.out] at hi; exact hi)]; rfl)
          rw [hfc] at hd6
          have HD6 := Lib.hid (show Did w3 w6 q3 (finishD D1 (ofSys s) (fun _ => 140)) from ⟨q6, hd6, (Foot'.refl w3 q3).trans hf6 (by have := HGR.out.size; simp; omega), ((HGR.out.alloc _).turned _).next ht6 (fun k _ hk => DevP.turns_feet _ k hk)⟩)
          clear hd6 hf6 ht6
          go_wp2_with fail
          go_ret
          rw [HV.out, if_neg (by decide)]
          exact ⟨rfl, Did.trans (Foot'.refl w q) (HG.out.turned _) (Did.trans HF3.out HT39.out HD6.out)⟩
    · have hz' : (er1 == 0) = false := beq_eq_false_iff_ne.2 hz
      have HZ := Lib.hid hz
      clear hz
      go_wp2_with fail
      go_ret
      rw [HV.out, if_pos HZ.out]
      exact ⟨rfl, Did.trans (Foot'.refl w q) (HG.out.turned _) HDID.out⟩
end
end Go.Proofs.Ytbddelefglhaaaa
