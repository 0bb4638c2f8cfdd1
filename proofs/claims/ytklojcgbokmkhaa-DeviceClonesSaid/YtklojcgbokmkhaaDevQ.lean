/- Chapter 3: the reference's device by value; what looks at it. -/
import Derived.Test.YtklojcgbokmkhaaDevP
namespace Go.Proofs.Ytklojcgbokmkhaa
set_option linter.unusedVariables false
set_option linter.unusedSimpArgs false
set_option linter.unusedSectionVars false
open Go.RowKit
open Go.Maps (Keyed)
attribute [local go_sem ↓] Go.wp_at_zero Go.wp_at_succ
structure RefP where
  A0 : Option Addr
  c0 : Nat
  A1 : Option Addr
  c1 : Nat
  os : List Value
  A2 : Option Addr
  c2 : Nat
  A3 : Option Addr
  c3 : Nat
  fu : Int
  A6 : Option Addr
  c6 : Nat
  svl : List Int
def rv (p : RefP) (D : Dev) : Array Value :=
  #[.slice p.A0 D.st.length p.c0, .slice p.A1 D.st.length p.c1, .slice p.A2 D.pend.length p.c2, .slice p.A3 5 p.c3, .bool D.failed, .int .i64 p.fu, .slice p.A6 p.svl.length p.c6]
def fenL (D : Dev) : List Int := [0, D.fen 1, D.fen 2, D.fen 3, D.fen 4]
def capOk (n c : Nat) : Prop := n ≤ c ∧ c ≤ 9223372036854775807
/-- The reference's device: its lists in memory. -/
structure RefM (w : World) (p : RefP) (D : Dev) : Prop where
  st : ListAt w w.heap.size 1 p.A0 (D.st.map strC)
  old : ListAt w w.heap.size 1 p.A1 (p.os.map fun v => [v])
  olen : p.os.length = D.st.length
  each : ∀ (i : Nat) (v : Value) (l : List ByteArray), p.os[i]? = some v → D.old[i]? = some l → ∃ A c, v = .slice A l.length c ∧ capOk l.length c ∧ ListAt w w.heap.size 1 A (l.map strC)
  pend : ListAt w w.heap.size 3 p.A2 (D.pend.map wrC)
  fen : ListAt w w.heap.size 1 p.A3 ((fenL D).map intC)
  sv : ListAt w w.heap.size 1 p.A6 (p.svl.map intC)
  fuse : (D.fuse = none ∧ p.fu = -1) ∨ ∃ n : Nat, D.fuse = some (n, p.svl) ∧ p.fu = n
  fub : p.fu ≤ 9223372036854775807
  svok : ∀ n ∈ p.svl, okI n
  cap0 : capOk D.st.length p.c0
  cap1 : capOk D.st.length p.c1
  cap2 : capOk D.pend.length p.c2
  cap3 : capOk 5 p.c3
  cap6 : capOk p.svl.length p.c6
  ok : D.Ok
theorem ListAt.on {w w' : World} {sz : Nat} {A : Option Addr} {cells : List (List Value)} (h : ListAt w w.heap.size sz A cells) (hg : Grew w w') : ListAt w' w'.heap.size sz A cells := (h.keep (Nat.le_refl _) hg).mono hg.size
theorem RefM.grew {w w' : World} {p : RefP} {D : Dev} (h : RefM w p D) (hg : Grew w w') : RefM w' p D :=
  ⟨h.st.on hg, h.old.on hg, h.olen, fun i v l h1 h2 => by obtain ⟨A, c, h3, h4, h5⟩ := h.each i v l h1 h2; exact ⟨A, c, h3, h4, h5.on hg⟩, h.pend.on hg, h.fen.on hg, h.sv.on hg, h.fuse, h.fub, h.svok, h.cap0, h.cap1, h.cap2, h.cap3, h.cap6, h.ok⟩
theorem str_at {w : World} {B : Nat} {A : Option Addr} {l : List ByteArray} (h : ListAt w B 1 A (l.map strC)) {k : Nat} (hk : k < l.length) :
    ∃ b off, A = some ⟨b, off, none⟩ ∧ b < B ∧ w.cell? ⟨b, off + k, none⟩ = some (.string l[k]) := by
  obtain ⟨b, off, e, hb, hc⟩ := h (by simp; omega)
  have hcc := hc k (strC l[k]) (by rw [List.getElem?_map, List.getElem?_eq_getElem hk]; rfl)
  have := hcc 0 _ rfl
  rw [Nat.mul_one, Nat.add_zero] at this
  exact ⟨b, off, e, hb, this⟩
theorem val_at {w : World} {B : Nat} {A : Option Addr} {l : List Value} (h : ListAt w B 1 A (l.map fun v => [v])) {k : Nat} (hk : k < l.length) :
    ∃ b off, A = some ⟨b, off, none⟩ ∧ b < B ∧ w.cell? ⟨b, off + k, none⟩ = some l[k] := by
  obtain ⟨b, off, e, hb, hc⟩ := h (by simp; omega)
  have hcc := hc k [l[k]] (by rw [List.getElem?_map, List.getElem?_eq_getElem hk]; rfl)
  have := hcc 0 _ rfl
  rw [Nat.mul_one, Nat.add_zero] at this
  exact ⟨b, off, e, hb, this⟩
theorem Dev.at_get {D : Dev} {k : Nat} (hk : k < D.st.length) : D.at k = D.st[k] := by unfold Dev.at; rw [List.getD_eq_getElem?_getD, List.getElem?_eq_getElem hk]; rfl
theorem RefM.old_at {w : World} {p : RefP} {D : Dev} (h : RefM w p D) {i : Nat} (hi : i < D.st.length) : ∃ A c b off, p.os[i]? = some (.slice A (D.olds i).length c) ∧ capOk (D.olds i).length c ∧ ListAt w w.heap.size 1 A ((D.olds i).map strC) ∧
    p.A1 = some ⟨b, off, none⟩ ∧ b < w.heap.size ∧ w.cell? ⟨b, off + i, none⟩ = some (.slice A (D.olds i).length c) := by
  have h1 : i < D.old.length := by rw [h.ok.len]; exact hi
  have h2 : i < p.os.length := by rw [h.olen]; exact hi
  obtain ⟨b, off, e, hb, hc⟩ := val_at h.old h2
  obtain ⟨A, c, hv, hcap, hl⟩ := h.each i _ _ (List.getElem?_eq_getElem h2) (List.getElem?_eq_getElem h1)
  have ho : D.olds i = D.old[i] := by unfold Dev.olds; rw [List.getD_eq_getElem?_getD, List.getElem?_eq_getElem h1]; rfl
  rw [ho]
  rw [hv] at hc
  exact ⟨A, c, b, off, by rw [List.getElem?_eq_getElem h2, hv], hcap, hl, e, hb, hc⟩
section
variable {w : World} {p : RefP} {D : Dev} (h : RefM w p D)
include h
set_option maxRecDepth 100000 in
set_option maxHeartbeats 2000000 in
theorem rthere_any (i : Int) (hi : okI i) : Calls Try.prog 53 #[.agg (rv p D), .int .i64 i] w fun e w' => e = .returned (.bool (thereD D i)) ∧ Grew w w' := by
  have hsl := h.ok.lim
  have HB := Lib.hid (show thereD D i = decide (0 ≤ i ∧ i < (D.st.length : Int)) from rfl)
  generalize thereD D i = b at *
  unfold rv
  unfold okI at hi
  clear h
  by_cases h0 : 0 ≤ i
  · by_cases h1 : i < (D.st.length : Int)
    · go_enter Try.func53, Try.ntmps53
      go_wp2_with fail
      go_ret
      exact ⟨ret_bool (by rw [HB.out, decide_eq_true ⟨h0, h1⟩]), by (repeat' first | (with_reducible exact Grew.refl _) | (with_reducible assumption) | (with_reducible refine Grew.alloc ?_ _) | (with_reducible refine Grew.drew ?_) | (with_reducible refine Grew.drewN ?_ _) | (with_reducible refine Grew.setRow ?_ (by first | (simp; done) | (simp; omega) | omega) _) | (with_reducible refine Grew.setCell ?_ (by first | (simp; done) | (simp; omega) | omega) _) | ((with_reducible apply Grew.trans); rotate_left; (with_reducible assumption)) | ((with_reducible apply Grew.turn); rotate_left; (with_reducible assumption); (focus (intro i hi; first | omega | (simp at hi; omega)))) | fail)⟩
    · go_enter Try.func53, Try.ntmps53
      go_wp2_with fail
      go_ret
      exact ⟨ret_bool (by rw [HB.out, decide_eq_false (by omega)]), by (repeat' first | (with_reducible exact Grew.refl _) | (with_reducible assumption) | (with_reducible refine Grew.alloc ?_ _) | (with_reducible refine Grew.drew ?_) | (with_reducible refine Grew.drewN ?_ _) | (with_reducible refine Grew.setRow ?_ (by first | (simp; done) | (simp; omega) | omega) _) | (with_reducible refine Grew.setCell ?_ (by first | (simp; done) | (simp; omega) | omega) _) | ((with_reducible apply Grew.trans); rotate_left; (with_reducible assumption)) | ((with_reducible apply Grew.turn); rotate_left; (with_reducible assumption); (focus (intro i hi; first | omega | (simp at hi; omega)))) | fail)⟩
  · go_enter Try.func53, Try.ntmps53
    go_wp2_with fail
    go_ret
    exact ⟨ret_bool (by rw [HB.out, decide_eq_false (by omega)]), by (repeat' first | (with_reducible exact Grew.refl _) | (with_reducible assumption) | (with_reducible refine Grew.alloc ?_ _) | (with_reducible refine Grew.drew ?_) | (with_reducible refine Grew.drewN ?_ _) | (with_reducible refine Grew.setRow ?_ (by first | (simp; done) | (simp; omega) | omega) _) | (with_reducible refine Grew.setCell ?_ (by first | (simp; done) | (simp; omega) | omega) _) | ((with_reducible apply Grew.trans); rotate_left; (with_reducible assumption)) | ((with_reducible apply Grew.turn); rotate_left; (with_reducible assumption); (focus (intro i hi; first | omega | (simp at hi; omega)))) | fail)⟩
set_option maxRecDepth 100000 in
set_option maxHeartbeats 4000000 in
theorem rcontent_any (k : Nat) (hk : k < D.st.length) (hsmall : D.pend.length ≤ 1000000) : Calls Try.prog 54 #[.agg (rv p D), .int .i64 (k : Int)] w fun e w' => e = .returned (.string (D.content k)) ∧ Grew w w' := by
  have hG0 := (Grew.refl w).alloc (.cells (rv p D) 32)
  have hb := Blk.new w 32 (rv p D) rfl
  obtain ⟨b0, off0, hA0, hb0, y0⟩ := str_at h.st hk
  rw [← Dev.at_get hk] at y0
  have hc2 := h.cap2
  have hc0 := h.cap0
  unfold capOk at hc2 hc0
  have hlim := h.ok.lim
  have HL := Lib.hid (h.pend.on hG0)
  have HR := Lib.hid (show D.content k = (lastW D.pend k).getD (D.at k) from rfl)
  have y1 := (hG0.cellEq _ _ hb0).trans y0
  unfold rv at hb HL y1 hG0 ⊢
  rw [hA0] at hb HL y1 hG0 ⊢
  generalize D.content k = s at *
  generalize D.at k = a at *
  have x0 := hb.cell 0
  have x2 := hb.cell 2
  have hxl := hb.lt
  generalize hP : D.pend = P at *
  have hb0' : b0 < (w.alloc (.cells #[.slice (some ⟨b0, off0, none⟩) D.st.length p.c0, .slice p.A1 D.st.length p.c1, .slice p.A2 P.length p.c2, .slice p.A3 5 p.c3, .bool D.failed, .int .i64 p.fu, .slice p.A6 p.svl.length p.c6] 32)).heap.size := by have := hG0.size; omega
  clear h hb hP
  go_enter Try.func54, Try.ntmps54
  go_wp2_with fail
  obtain ⟨w1, hw1⟩ : ∃ w1, w1 = w.alloc (.cells #[.slice (some ⟨b0, off0, none⟩) D.st.length p.c0, .slice p.A1 D.st.length p.c1, .slice p.A2 P.length p.c2, .slice p.A3 5 p.c3, .bool D.failed, .int .i64 p.fu, .slice p.A6 p.svl.length p.c6] 32) := ⟨_, rfl⟩
  rw [← hw1] at HL y1 hG0 x0 x2 hxl hb0' ⊢
  clear hw1
  go_loopg [5] P.length (fun gk iv wr => w1 = wr ∧ ∃ j : Nat, j ≤ P.length ∧ gk = j ∧ iv = .int .i64 ((j : Int) - 1) ∧ lastW P k = lastW (P.take j) k)
  case atStart => exact ⟨rfl, P.length, Nat.le_refl _, rfl, rfl, by rw [List.take_length]⟩
  case round =>
    obtain ⟨rfl, j, hj, hgk, rfl, hlast⟩ := hrel
    have HGK := Lib.hid hgk
    have HLA := Lib.hid hlast
    clear hgk hlast
    cases j with
    | zero =>
      have HZ := Lib.hid (show lastW P k = none from by rw [HLA.out]; rfl)
      go_wp2_with fail
      go_ret
      exact ⟨ret_str (by rw [HR.out, HZ.out]; rfl), hG0⟩
    | succ j =>
      have hjl : j < P.length := hj
      obtain ⟨b, off, hA2, hbb, z0, z1, z2⟩ := wr_at HL.out hjl
      rw [hA2] at x2
      have HSN := Lib.hid (show lastW (P.take (j + 1)) k = if P[j].sec = k then some P[j].data else lastW (P.take j) k from by rw [List.take_succ_eq_append_getElem hjl, lastW_snoc])
      have hw1 : ((j + 1 : Nat) : Int) - 1 = (j : Int) := by omega
      rw [hw1]
      clear z0
      generalize P[j] = r at *
      by_cases hs : r.sec = k
      · have hsb : ((r.sec : Int) == (k : Int)) = true := by rw [hs]; exact beq_self_eq_true _
        have HS := Lib.hid hs
        clear hs
        go_wp2_with fail
        go_ret
        exact ⟨ret_str (by rw [HR.out, HLA.out, HSN.out, if_pos HS.out]; rfl), hG0⟩
      · have hsb : ((r.sec : Int) == (k : Int)) = false := beq_eq_false_iff_ne.2 (by omega)
        have HS := Lib.hid hs
        clear hs
        go_wp2_with fail
        go_roundg j
        case measure => rw [HGK.out]; omega
        case rel => exact ⟨rfl, j, by omega, rfl, by go_num, by rw [HLA.out, HSN.out, if_neg HS.out]⟩
set_option maxRecDepth 100000 in
set_option maxHeartbeats 4000000 in
theorem rread_any (i : Int) (hi : okI i) (s : ByteArray) (er : Int) (hr : readD D i = (s, er)) (hsmall : D.pend.length ≤ 1000000) : Calls Try.prog 31 #[.agg (rv p D), .int .i64 i] w fun e w' => e = .returned (.tuple #[.string s, .int .i64 er]) ∧ Grew w w' := by
  have hG0 := (Grew.refl w).alloc (.cells (rv p D) 32)
  have hb := Blk.new w 32 (rv p D) rfl
  have HT := Lib.hid (rthere_any (h.grew hG0) i hi)
  unfold readD at hr
  cases hb' : thereD D i with
  | false =>
    rw [hb'] at hr HT
    simp only [if_true] at hr
    injection hr with hr1 hr2
    subst hr1; subst hr2
    unfold rv at hb HT hG0 ⊢
    clear h hb' hb
    go_enter Try.func31, Try.ntmps31
    go_wp2_with fail
    refine HT.out.mono ?_
    rintro e w1 ⟨rfl, g1⟩
    have hG := hG0.trans g1
    go_wp2_with fail
    go_ret2
    exact ⟨rfl, hG⟩
  | true =>
    rw [hb'] at hr HT
    simp only [Bool.true_eq_false, if_false] at hr
    have h0 := of_decide_eq_true hb'
    obtain ⟨k, rfl⟩ : ∃ k : Nat, i = (k : Int) := ⟨i.toNat, by omega⟩
    have hkl : k < D.st.length := by omega
    have HC := fun (W : World) (hg : Grew w W) => Lib.hid (rcontent_any (h.grew hg) k hkl hsmall)
    clear hb' h
    unfold rv at hb HT hG0 HC ⊢
    cases hf : D.failed with
    | true =>
      rw [hf] at hb HT hG0 hr
      simp only [if_true] at hr
      injection hr with hr1 hr2
      subst hr1; subst hr2
      have HB := Lib.hid hb
      clear hb hf HC
      go_enter Try.func31, Try.ntmps31
      go_wp2_with fail
      refine HT.out.mono ?_
      rintro e w1 ⟨rfl, g1⟩
      have hG := hG0.trans g1
      have x4 := (HB.out.grew g1).cell 4
      have hxl := (HB.out.grew g1).lt
      go_wp2_with fail
      go_ret2
      exact ⟨rfl, hG⟩
    | false =>
      rw [hf] at hb HT hG0 hr HC
      simp only [Bool.false_eq_true, if_false, Int.toNat_natCast] at hr
      injection hr with hr1 hr2
      subst hr1; subst hr2
      have HB := Lib.hid hb
      clear hb hf
      go_enter Try.func31, Try.ntmps31
      go_wp2_with fail
      refine HT.out.mono ?_
      rintro e w1 ⟨rfl, g1⟩
      have hG := hG0.trans g1
      have hB1 := HB.out.grew g1
      have x0 := hB1.cell 0
      have x1 := hB1.cell 1
      have x2 := hB1.cell 2
      have x3 := hB1.cell 3
      have x4 := hB1.cell 4
      have x5 := hB1.cell 5
      have x6 := hB1.cell 6
      have hxl := hB1.lt
      have HCC := HC w1 hG
      go_wp2_with fail
      refine HCC.out.mono ?_
      rintro e w2 ⟨rfl, g2⟩
      have hG2 := hG.trans g2
      go_wp2_with fail
      go_ret2
      exact ⟨rfl, hG2⟩
end
end Go.Proofs.Ytklojcgbokmkhaa
