/- Chapter 3: Read, Pending. -/
import Derived.Test.YtklojcgbokmkhaaDevB
namespace Go.Proofs.Ytklojcgbokmkhaa
set_option linter.unusedVariables false
set_option linter.unusedSimpArgs false
set_option linter.unusedSectionVars false
open Go.RowKit
open Go.Maps (Keyed)
theorem wrC_len (l : List Wr) : (l.map wrC).length = l.length := List.length_map ..
theorem wr_at {w : World} {B : Nat} {A : Option Addr} {l : List Wr} (h : ListAt w B 3 A (l.map wrC)) {k : Nat} (hk : k < l.length) :
    ∃ b off, A = some ⟨b, off, none⟩ ∧ b < B ∧ w.cell? ⟨b, off + k * 3, none⟩ = some (.int .i64 l[k].sys) ∧ w.cell? ⟨b, off + k * 3 + 1, none⟩ = some (.int .i64 (l[k].sec : Int)) ∧ w.cell? ⟨b, off + k * 3 + 2, none⟩ = some (.string l[k].data) := by
  obtain ⟨b, off, e, hb, hc⟩ := h (by simp; omega)
  have hcc := hc k (wrC l[k]) (by rw [List.getElem?_map, List.getElem?_eq_getElem hk]; rfl)
  exact ⟨b, off, e, hb, hcc 0 _ rfl, hcc 1 _ rfl, hcc 2 _ rfl⟩
theorem DevM.pend_list {w : World} {q : DevP} {D : Dev} (h : DevM w q D) : ∃ A c, q.vp = .slice A D.pend.length c ∧ D.pend.length ≤ c ∧ c ≤ 9223372036854775807 ∧ ListAt w w.heap.size 3 A (D.pend.map wrC) := by
  have := h.pend.listAt
  rwa [wrC_len] at this
section
variable {w : World} {q : DevP} {D : Dev} (h : DevM w q D)
include h
set_option maxRecDepth 100000 in
set_option maxHeartbeats 2000000 in
theorem read_any (i : Int) (s : ByteArray) (er : Int) (hr : readD D i = (s, er)) : Calls Try.prog 19 #[.pointer (some ⟨q.x, 0, none⟩), .int .i64 i] w fun e w' => e = .returned (.tuple #[.string s, .int .i64 er]) ∧ w = w' := by
  have HT := Lib.hid (fun b hb => there_any h i b hb)
  unfold readD at hr
  cases hb : thereD D i with
  | false =>
    rw [hb] at hr
    simp only [if_true] at hr
    injection hr with hr1 hr2
    subst hr1; subst hr2
    have HB := Lib.hid hb
    clear hb h
    go_enter Try.func19, Try.ntmps19
    go_wp2_with fail
    refine (HT.out false HB.out).mono ?_
    rintro e w1 ⟨rfl, rfl⟩
    go_wp2_with fail
    go_ret2
    exact ⟨rfl, rfl⟩
  | true =>
    rw [hb] at hr
    simp only [Bool.true_eq_false, if_false] at hr
    have HB := Lib.hid hb
    have h0 := of_decide_eq_true hb
    obtain ⟨k, rfl⟩ : ∃ k : Nat, i = (k : Int) := ⟨i.toNat, by omega⟩
    have hkl : k < D.st.length := by omega
    clear hb
    cases hf : D.failed with
    | true =>
      have hk := h.blk
      rw [hf] at hk
      have hxl := hk.lt
      have x5 := hk.cell 7
      rw [hf] at hr
      simp only [if_true] at hr
      injection hr with hr1 hr2
      subst hr1; subst hr2
      clear h hf
      go_enter Try.func19, Try.ntmps19
      go_wp2_with fail
      refine (HT.out true HB.out).mono ?_
      rintro e w1 ⟨rfl, rfl⟩
      go_wp2_with fail
      go_ret2
      exact ⟨rfl, rfl⟩
    | false =>
      rw [hf] at hr
      simp only [Bool.false_eq_true, if_false, Int.toNat_natCast] at hr
      injection hr with hr1 hr2
      subst hr2
      obtain ⟨gs, cs, hvs, hgs, hs1, hs2, hs3⟩ := h.st_form
      obtain ⟨A, c, hvp, hc1, hc2, hl⟩ := h.pend_list
      have y0 := h.st_cell hvs hkl
      have hk := h.blk
      rw [hf, hvs, hvp] at hk
      have hxl := hk.lt
      have x0 := hk.cell 0
      have x2 := hk.cell 2
      have x5 := hk.cell 7
      have HL := Lib.hid hl
      have HR := Lib.hid (show s = (lastW D.pend k).getD (D.at k) from hr1.symm)
      clear h hvs hvp hl hf hr1
      generalize D.at k = a at *
      generalize D.pend = P at *
      go_enter Try.func19, Try.ntmps19
      go_wp2_with fail
      refine (HT.out true HB.out).mono ?_
      rintro e w1 ⟨rfl, rfl⟩
      go_wp2_with fail
      go_loopg [6] P.length (fun gk iv wr => w = wr ∧ ∃ j : Nat, j ≤ P.length ∧ gk = j ∧ iv = .int .i64 ((j : Int) - 1) ∧ lastW P k = lastW (P.take j) k)
      case atStart => exact ⟨rfl, P.length, Nat.le_refl _, rfl, rfl, by rw [List.take_length]⟩
      case round =>
        obtain ⟨rfl, j, hj, hgk, rfl, hlast⟩ := hrel
        have HGK := Lib.hid hgk
        have HLA := Lib.hid hlast
        clear hgk hlast
        cases j with
        | zero =>
          have HZ := Lib.hid (show lastW P k = none from by rw [HLA.out]; rfl)
          go_wp2_with fail
          go_ret2
          exact ⟨ret_si (by rw [HR.out, HZ.out]; rfl) rfl, rfl⟩
        | succ j =>
          have hjl : j < P.length := hj
          obtain ⟨b, off, rfl, hbb, z0, z1, z2⟩ := wr_at HL.out hjl
          have HSN := Lib.hid (show lastW (P.take (j + 1)) k = if P[j].sec = k then some P[j].data else lastW (P.take j) k from by rw [List.take_succ_eq_append_getElem hjl, lastW_snoc])
          have hw1 : ((j + 1 : Nat) : Int) - 1 = (j : Int) := by omega
          have hge : (-1 : Int) ≤ (j : Int) := by omega
          rw [hw1]
          clear z0
          generalize P[j] = r at *
          by_cases hs : r.sec = k
          · have hsb : ((r.sec : Int) == (k : Int)) = true := by rw [hs]; exact beq_self_eq_true _
            have HS := Lib.hid hs
            clear hs
            go_wp2_with fail
            go_ret2
            exact ⟨ret_si (by rw [HR.out, HLA.out, HSN.out, if_pos HS.out]; rfl) rfl, rfl⟩
          · have hsb : ((r.sec : Int) == (k : Int)) = false := beq_eq_false_iff_ne.2 (by omega)
            have HS := Lib.hid hs
            clear hs
            go_wp2_with fail
            go_roundg j
            case measure => rw [HGK.out]; omega
            case rel => exact ⟨rfl, j, by omega, rfl, by go_num, by rw [HLA.out, HSN.out, if_neg HS.out]⟩
set_option maxRecDepth 100000 in
set_option maxHeartbeats 1000000 in
omit h in
theorem of_any (s : Int) (w : World) : Calls Try.prog 38 #[.int .i64 s] w fun e w' => e = .returned (.func (.func 58) #[] #[.pointer (some ⟨w.heap.size, 0, none⟩)]) ∧ w' = w.alloc (.cells #[.int .i64 s] 3) := by
  go_enter Try.func38, Try.ntmps38
  go_wp2_with fail
  go_ret
  exact ⟨rfl, rfl⟩
set_option maxRecDepth 100000 in
set_option maxHeartbeats 1000000 in
omit h in
theorem of1_any (s : Int) (r : Wr) (g : Nat) (W : World) (hb : Blk W g 3 #[.int .i64 s]) : Calls Try.prog 58 #[.agg #[.int .i64 r.sys, .int .i64 (r.sec : Int), .string r.data], .pointer (some ⟨g, 0, none⟩)] W fun e w' => e = .returned (.bool (ofSys s r)) ∧ Grew W w' := by
  have hlt := hb.lt
  have x0 := hb.cell 0
  go_enter Try.func58, Try.ntmps58
  go_wp2
  all_goals
    go_ret
    exact ⟨ret_bool (by unfold ofSys; first | rfl | (simp; done) | simp [*]), by (repeat' first | (with_reducible exact Grew.refl _) | (with_reducible assumption) | (with_reducible refine Grew.alloc ?_ _) | (with_reducible refine Grew.drew ?_) | (with_reducible refine Grew.drewN ?_ _) | (with_reducible refine Grew.setRow ?_ (by first | (simp; done) | (simp; omega) | omega) _) | (with_reducible refine Grew.setCell ?_ (by first | (simp; done) | (simp; omega) | omega) _) | ((with_reducible apply Grew.trans); rotate_left; (with_reducible assumption)) | ((with_reducible apply Grew.turn); rotate_left; (with_reducible assumption); (focus (intro i hi; first | omega | (simp at hi; omega)))) | fail)⟩
set_option maxRecDepth 100000 in
set_option maxHeartbeats 1000000 in
omit h in
theorem admit1_any (r : Wr) (W : World) : Calls Try.prog 55 #[.agg #[.int .i64 r.sys, .int .i64 (r.sec : Int), .string r.data]] W fun e w' => e = .returned (.bool true) ∧ Grew W w' := by
  go_enter Try.func55, Try.ntmps55
  go_wp2
  go_ret
  exact ⟨rfl, by (repeat' first | (with_reducible exact Grew.refl _) | (with_reducible assumption) | (with_reducible refine Grew.alloc ?_ _) | (with_reducible refine Grew.drew ?_) | (with_reducible refine Grew.drewN ?_ _) | (with_reducible refine Grew.setRow ?_ (by first | (simp; done) | (simp; omega) | omega) _) | (with_reducible refine Grew.setCell ?_ (by first | (simp; done) | (simp; omega) | omega) _) | ((with_reducible apply Grew.trans); rotate_left; (with_reducible assumption)) | ((with_reducible apply Grew.turn); rotate_left; (with_reducible assumption); (focus (intro i hi; first | omega | (simp at hi; omega)))) | fail)⟩
set_option maxRecDepth 100000 in
set_option maxHeartbeats 2000000 in
theorem pending_any (s : Int) (hp : D.pend.length ≤ 1000000) : Calls Try.prog 20 #[.pointer (some ⟨q.x, 0, none⟩), .int .i64 s] w fun e w' => e = .returned (.int .i64 (waitD D s : Int)) ∧ Grew w w' := by
  obtain ⟨A, c, hvp, hc1, hc2, hl⟩ := h.pend_list
  have hk := h.blk
  rw [hvp] at hk
  have hk1 := hk.alloc (.cells #[.int .i64 s] 3)
  have hxl := hk1.lt
  have x2 := hk1.cell 2
  have hl1 := hl.keep (Nat.le_refl _) ((Grew.refl w).alloc (.cells #[.int .i64 s] 3))
  have HW := Lib.hid (show waitD D s = (D.pend.filter (ofSys s)).length from rfl)
  have hb1 := Blk.new w 3 #[.int .i64 s] rfl
  have hG0 := (Grew.refl w).alloc (.cells #[.int .i64 s] 3)
  clear h hvp hl hk hk1
  generalize waitD D s = n at *
  generalize D.pend = P at *
  go_enter Try.func20, Try.ntmps20
  go_wp2_with fail
  refine (of_any s w).mono ?_
  rintro e w1 ⟨rfl, rfl⟩
  obtain ⟨wa, hwa⟩ : ∃ wa, wa = w.alloc (.cells #[.int .i64 s] 3) := ⟨_, rfl⟩
  rw [← hwa] at hxl x2 hl1 hb1 hG0 ⊢
  have HL := Lib.hid hl1
  have hbw : w.heap.size ≤ wa.heap.size := hG0.size
  clear hwa hl1
  go_wp2_with fail
  go_loopg [5, 16] P.length (fun gk nv iv wr => ∃ j : Nat, j ≤ P.length ∧ gk = P.length - j ∧ iv = .int .i64 (j : Int) ∧ nv = .int .i64 (((P.take j).filter (ofSys s)).length : Int) ∧ Grew wa wr)
  case atStart => exact ⟨0, Nat.zero_le _, rfl, rfl, rfl, Grew.refl _⟩
  case round =>
    obtain ⟨j, hj, hgk, rfl, rfl, hg⟩ := hrel
    have HGK := Lib.hid hgk
    clear hgk
    by_cases hlt : j < P.length
    · obtain ⟨b, off, rfl, hbb, z0, z1, z2⟩ := wr_at (HL.out.keep hbw hg) hlt
      have HSN := Lib.hid (show ((P.take (j + 1)).filter (ofSys s)).length = ((P.take j).filter (ofSys s)).length + if ofSys s P[j] then 1 else 0 from by
        rw [List.take_succ_eq_append_getElem hlt, List.filter_append, List.length_append, List.filter_cons]
        cases ofSys s P[j] <;> rfl)
      have hcl : ((P.take j).filter (ofSys s)).length ≤ j := Nat.le_trans (List.length_filter_le _ _) (by rw [List.length_take]; omega)
      have hb2 := hb1.grew hg
      generalize P[j] = r at *
      generalize ((P.take j).filter (ofSys s)).length = cnt at *
      have gal := (Grew.refl wr).alloc (.cells #[.int .i64 r.sys, .int .i64 (r.sec : Int), .string r.data] 77)
      have hb3 := hb2.grew gal
      have hg3 := hg.trans gal
      cases hof : ofSys s r with
      | false =>
        have HO := Lib.hid (show Calls Try.prog 58 #[.agg #[.int .i64 r.sys, .int .i64 (r.sec : Int), .string r.data], .pointer (some ⟨w.heap.size, 0, none⟩)] (wr.alloc (.cells #[.int .i64 r.sys, .int .i64 (r.sec : Int), .string r.data] 77)) fun e w' => e = .returned (.bool false) ∧ Grew (wr.alloc (.cells #[.int .i64 r.sys, .int .i64 (r.sec : Int), .string r.data] 77)) w' from by
          rw [← hof]; exact of1_any s r _ _ hb3)
        have HOF := Lib.hid hof
        clear hof gal
        go_wp2_with fail
        refine HO.out.mono ?_
        rintro e w2 ⟨rfl, g2⟩
        go_wp2_with fail
        go_roundg (P.length - (j + 1))
        case measure => rw [HGK.out]; omega
        case rel => exact ⟨j + 1, by omega, by omega, by go_num, by rw [HSN.out, HOF.out]; rfl, hg3.trans g2⟩
      | true =>
        have HO := Lib.hid (show Calls Try.prog 58 #[.agg #[.int .i64 r.sys, .int .i64 (r.sec : Int), .string r.data], .pointer (some ⟨w.heap.size, 0, none⟩)] (wr.alloc (.cells #[.int .i64 r.sys, .int .i64 (r.sec : Int), .string r.data] 77)) fun e w' => e = .returned (.bool true) ∧ Grew (wr.alloc (.cells #[.int .i64 r.sys, .int .i64 (r.sec : Int), .string r.data] 77)) w' from by
          rw [← hof]; exact of1_any s r _ _ hb3)
        have HOF := Lib.hid hof
        clear hof gal
        go_wp2_with fail
        refine HO.out.mono ?_
        rintro e w2 ⟨rfl, g2⟩
        go_wp2_with fail
        go_roundg (P.length - (j + 1))
        case measure => rw [HGK.out]; omega
        case rel => exact ⟨j + 1, by omega, by omega, by go_num, by rw [HSN.out, HOF.out]; go_num, hg3.trans g2⟩
    · obtain rfl : j = P.length := by omega
      have HE := Lib.hid (show ((P.take P.length).filter (ofSys s)).length = n from by rw [List.take_length, HW.out])
      go_wp2_with fail
      go_ret
      exact ⟨ret_int (by rw [HE.out]), hG0.trans hg⟩
end
end Go.Proofs.Ytklojcgbokmkhaa
