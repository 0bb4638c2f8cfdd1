/- slices.IndexFunc and slices.DeleteFunc over places, whatever the predicate keeps. -/
import Derived.Test.YtfmhiocigoejjaaBufA
namespace Go.Proofs.Ytfmhiocigoejjaa
set_option linter.unusedVariables false
set_option linter.unusedSimpArgs false
set_option linter.unusedSectionVars false
open Go.RowKit
open Go.Maps (Keyed)
def contentV (s : ByteArray) (v : Int) : Value := .agg #[.string s, .int .i64 v]
theorem zero_content (w : World) : (zeroValue 64).run Try.prog w = .ok (.agg #[.string ⟨#[]⟩, .int .i64 0]) w := by kernel_rfl
theorem field_ver (W : World) (s : ByteArray) (v : Int) : (Instr.field 64 (.agg #[.string s, .int .i64 v]) 1).run Try.prog W = .ok (.int .i64 v) W := by kernel_rfl
set_option maxRecDepth 100000 in
set_option maxHeartbeats 2000000 in
theorem inv1_any (a b c d v : Int) (r : Bool) (bp bx bv x m : Nat) (c0 c2 c3 c4 : Value) (F : Place → Option Value) (W : World) (hbp : Blk W bp 40 #[.int .i64 c, .int .i64 d])
    (hbx : Blk W bx 23 #[.pointer (some ⟨x, 0, none⟩)]) (hbv : Blk W bv 3 #[.int .i64 v]) (hx : Blk W x 61 #[c0, .map (some m), c2, c3, c4]) (hm : MapP W m F) (hok : okPlace (a, b))
    (hF : (a, b) = (c, d) → ∃ s u, F (a, b) = some (contentV s u) ∧ decide (u < v) = r) (hne : (a, b) ≠ (c, d) → r = false) :
    Calls Try.prog 27 #[.agg #[.int .i64 a, .int .i64 b], .pointer (some ⟨bp, 0, none⟩), .pointer (some ⟨bx, 0, none⟩), .pointer (some ⟨bv, 0, none⟩)] W fun e w' => e = .returned (.bool r) ∧ Grew W w' := by
  have h1 := hbp.lt
  have h2 := hbx.lt
  have h3 := hbv.lt
  have h4 := hx.lt
  have x0 := hbp.cell 0
  have x1 := hbp.cell 1
  by_cases hab : (a, b) = (c, d)
  · obtain ⟨s, u, hFu, hr⟩ := hF hab
    injection hab with hac hbd
    subst hac; subst hbd
    obtain ⟨kl, hkey⟩ := place_key (a, b) hok
    have hlk : ∀ n, (Instr.lookup 59 (.map (some m)) (.agg #[.int .i64 a, .int .i64 b]) false).run Try.prog ((W.alloc (.cells #[.int .i64 a, .int .i64 b] 40)).drewN n) = .ok (.agg #[.string s, .int .i64 u]) ((W.alloc (.cells #[.int .i64 a, .int .i64 b] 40)).drewN n) := fun n => by
      have := ((hm.alloc (.cells #[.int .i64 a, .int .i64 b] 40)).drewN n).lookup_val place_keyed place_inj Try.underlying59 (zero_content _) (a, b) hkey
      rw [hFu] at this
      exact this
    have hfd := field_ver
    have y0 := hbx.cell 0
    have y1 := hbv.cell 0
    have y2 := hx.cell 1
    have HKEY := Lib.hid hkey
    have HF := Lib.hid hFu
    clear hkey hFu hF hne
    by_cases huv : u < v
    · have HR := Lib.hid (show r = true from by rw [← hr]; exact decide_eq_true huv)
      clear hr
      go_enter Try.func27, Try.ntmps27
      go_wp2_with fail
      go_quiet (fail)
      go_wp2_with fail
      go_ret
      exact ⟨ret_bool (by first | (rw [HR.out]; done) | (rw [HR.out]; simp [*]; done) | (rw [HR.out]; simp; omega)), by (repeat' first | (with_reducible exact Grew.refl _) | (with_reducible assumption) | (with_reducible refine Grew.alloc ?_ _) | (with_reducible refine Grew.drew ?_) | (with_reducible refine Grew.drewN ?_ _) | (with_reducible refine Grew.setRow ?_ (by first | (simp; done) | (simp; omega) | omega) _) | (with_reducible refine Grew.setCell ?_ (by first | (simp; done) | (simp; omega) | omega) _) | ((with_reducible apply Grew.trans); rotate_left; (with_reducible assumption)) | ((with_reducible apply Grew.turn); rotate_left; (with_reducible assumption); (focus (intro i hi; first | omega | (simp at hi; omega)))) | fail)⟩
    · have HR := Lib.hid (show r = false from by rw [← hr]; exact decide_eq_false huv)
      clear hr
      go_enter Try.func27, Try.ntmps27
      go_wp2_with fail
      go_quiet (fail)
      go_wp2_with fail
      go_ret
      exact ⟨ret_bool (by first | (rw [HR.out]; done) | (rw [HR.out]; simp [*]; done) | (rw [HR.out]; simp; omega)), by (repeat' first | (with_reducible exact Grew.refl _) | (with_reducible assumption) | (with_reducible refine Grew.alloc ?_ _) | (with_reducible refine Grew.drew ?_) | (with_reducible refine Grew.drewN ?_ _) | (with_reducible refine Grew.setRow ?_ (by first | (simp; done) | (simp; omega) | omega) _) | (with_reducible refine Grew.setCell ?_ (by first | (simp; done) | (simp; omega) | omega) _) | ((with_reducible apply Grew.trans); rotate_left; (with_reducible assumption)) | ((with_reducible apply Grew.turn); rotate_left; (with_reducible assumption); (focus (intro i hi; first | omega | (simp at hi; omega)))) | fail)⟩
  · have HR := Lib.hid (hne hab)
    clear hF hne
    by_cases hac : a = c
    · have hbd : (b == d) = false := beq_eq_false_iff_ne.2 (fun e => hab (by rw [hac, e]))
      subst hac
      clear hab
      go_enter Try.func27, Try.ntmps27
      go_wp2_with fail
      go_quiet (fail)
      go_wp2_with fail
      go_ret
      exact ⟨ret_bool (by first | (rw [HR.out]; done) | (rw [HR.out]; simp [*]; done) | (rw [HR.out]; simp; omega)), by (repeat' first | (with_reducible exact Grew.refl _) | (with_reducible assumption) | (with_reducible refine Grew.alloc ?_ _) | (with_reducible refine Grew.drew ?_) | (with_reducible refine Grew.drewN ?_ _) | (with_reducible refine Grew.setRow ?_ (by first | (simp; done) | (simp; omega) | omega) _) | (with_reducible refine Grew.setCell ?_ (by first | (simp; done) | (simp; omega) | omega) _) | ((with_reducible apply Grew.trans); rotate_left; (with_reducible assumption)) | ((with_reducible apply Grew.turn); rotate_left; (with_reducible assumption); (focus (intro i hi; first | omega | (simp at hi; omega)))) | fail)⟩
    · have hbd : (a == c) = false := beq_eq_false_iff_ne.2 hac
      clear hab
      go_enter Try.func27, Try.ntmps27
      go_wp2_with fail
      go_quiet (fail)
      go_wp2_with fail
      go_ret
      exact ⟨ret_bool (by first | (rw [HR.out]; done) | (rw [HR.out]; simp [*]; done) | (rw [HR.out]; simp; omega)), by (repeat' first | (with_reducible exact Grew.refl _) | (with_reducible assumption) | (with_reducible refine Grew.alloc ?_ _) | (with_reducible refine Grew.drew ?_) | (with_reducible refine Grew.drewN ?_ _) | (with_reducible refine Grew.setRow ?_ (by first | (simp; done) | (simp; omega) | omega) _) | (with_reducible refine Grew.setCell ?_ (by first | (simp; done) | (simp; omega) | omega) _) | ((with_reducible apply Grew.trans); rotate_left; (with_reducible assumption)) | ((with_reducible apply Grew.turn); rotate_left; (with_reducible assumption); (focus (intro i hi; first | omega | (simp at hi; omega)))) | fail)⟩
theorem zero_place (w : World) : (zeroValue 40).run Try.prog w = .ok (.agg #[.int .i64 0, .int .i64 0]) w := by kernel_rfl
theorem place_one : ∀ v ∈ (Value.agg #[.int .i64 0, .int .i64 0]).cells, v.oneCell' = true := by
  intro v hv
  simp [Value.cells] at hv
  subst hv
  rfl
/-- The places in a slice of the call's own. -/
theorem own_place {w : World} {base g n cap : Nat} {L : List Place} (h : OwnL w base 40 2 (.slice (some ⟨g, 0, none⟩) n cap) (L.map placeC)) {k : Nat} (hk : k < L.length) :
    w.cell? ⟨g, k * 2, none⟩ = some (.int .i64 L[k].1) ∧ w.cell? ⟨g, k * 2 + 1, none⟩ = some (.int .i64 L[k].2) := by
  have hr : (L.map placeC)[k]? = some (placeC L[k]) := by rw [List.getElem?_map, List.getElem?_eq_getElem hk]; rfl
  exact ⟨h.cell (i := 0) hr rfl, h.cell (i := 1) hr rfl⟩
section
variable (bw bx : Nat) (q : Place → Bool) (L : List Place) (g n cap base : Nat) (S : Nat → Prop) (Inv : Nat → World → Prop) (hn : n = L.length) (hsmall : n ≤ 100000) (hSg : ¬ S g)
  (hst : ∀ j W W', Inv j W → Turned (fun k => k = g) W W' → Inv j W')
  (hcall : ∀ j W (hj : j < L.length), Inv j W → Calls Try.prog 36 #[.agg #[.int .i64 L[j].1, .int .i64 L[j].2], .pointer (some ⟨bw, 0, none⟩), .pointer (some ⟨bx, 0, none⟩)] W fun e w' => e = .returned (.bool (q L[j])) ∧ Inv (j + 1) w' ∧ Turned S W w')
include hn hsmall hSg hst hcall
set_option maxRecDepth 100000 in
set_option maxHeartbeats 4000000 in
theorem indexFunc_any (w : World) (hown : OwnL w base 40 2 (.slice (some ⟨g, 0, none⟩) n cap) (L.map placeC)) (hinv : Inv 0 w) :
    Calls Try.prog 39 #[.slice (some ⟨g, 0, none⟩) n cap, .func (.func 36) #[] #[.pointer (some ⟨bw, 0, none⟩), .pointer (some ⟨bx, 0, none⟩)]] w fun e w' => Turned S w w' ∧
      ((∃ (i : Nat) (hi : i < L.length), e = .returned (.int .i64 (i : Int)) ∧ q L[i] = true ∧ (∀ j (hj : j < L.length), j < i → q L[j] = false) ∧ Inv (i + 1) w') ∨ (e = .returned (.int .i64 (-1)) ∧ (∀ j (hj : j < L.length), q L[j] = false) ∧ Inv L.length w')) := by
  have HN := Lib.hid hn
  have HCALL := fun j W hj hi => Lib.hid (hcall j W hj hi)
  clear hn hcall hst
  go_enter Try.func39, Try.ntmps39
  go_wp2_with fail
  go_loopg [8] n (fun gk i wr => ∃ k : Nat, k ≤ n ∧ gk = n - k ∧ i = .int .i64 k ∧ (∀ j (hj : j < L.length), j < k → q L[j] = false) ∧ Inv k wr ∧ Turned S w wr)
  case atStart => exact ⟨0, by omega, by omega, rfl, fun j _ h => by omega, hinv, Turned.refl _ _⟩
  case round =>
    obtain ⟨k, hk, hgk, rfl, hall, hi, ht⟩ := hrel
    have HGK := Lib.hid hgk
    have HA := Lib.hid hall
    have HI := Lib.hid hi
    clear hgk hall hi
    by_cases hlt : k < n
    · have hkl : k < L.length := by rw [← HN.out]; exact hlt
      have hownr := hown.kept ht (fun g' h => by simp [Value.ownBlock] at h; subst h; exact hSg)
      obtain ⟨c0, c1⟩ := own_place hownr hkl
      have HC := Lib.hid (HCALL k wr hkl HI.out).out
      have HX : ∀ j (hj : j < L.length), j < k + 1 → j ≠ k → q L[j] = false := fun j hj h1 h2 => HA.out j hj (by omega)
      have HX2 := Lib.hid HX
      clear HX
      go_wp2_with fail
      refine HC.out.mono ?_
      rintro e w1 ⟨rfl, hi1, ht1⟩
      have HI1 := Lib.hid hi1
      have ht2 := ht.trans ht1
      clear hi1 ht1 ht c0 c1
      cases hq : q L[k]
      · have HQ := Lib.hid hq
        clear hq
        go_wp2_with fail
        go_roundg (n - (k + 1))
        case measure => rw [HGK.out]; omega
        case rel => exact ⟨k + 1, by omega, by omega, by go_num, fun j hj h => by
          by_cases e : j = k
          · subst e; exact HQ.out
          · exact HX2.out j hj h e, HI1.out, ht2⟩
      · have HQ := Lib.hid hq
        clear hq
        go_wp2_with fail
        go_ret
        exact ⟨ht2, .inl ⟨k, hkl, rfl, HQ.out, HA.out, HI1.out⟩⟩
    · obtain rfl : k = n := by omega
      go_wp2_with fail
      go_ret
      exact ⟨ht, .inr ⟨rfl, fun j hj => HA.out j hj (by have := HN.out; omega), by rw [← HN.out]; exact HI.out⟩⟩
omit hn hsmall hSg hst hcall in
theorem take_set_snoc (R : List Place) (i : Nat) (hi : i < R.length) (p : Place) : (R.set i p).take (i + 1) = R.take i ++ [p] := by
  rw [List.take_succ_eq_append_getElem (by rw [List.length_set]; exact hi), List.getElem_set_self, List.take_set_of_le (by omega)]
omit hn hsmall hSg hst hcall in
theorem set_place (R : List Place) (i : Nat) (hi : i < R.length) (p : Place) : ((R.map placeC).set i ((placeC R[i]).set 0 (.int .i64 p.1))).set i (((placeC R[i]).set 0 (.int .i64 p.1)).set 1 (.int .i64 p.2)) = (R.set i p).map placeC := by
  rw [List.set_set, List.map_set]
  rfl
omit hn hsmall hSg hst hcall in
theorem take_filter_true (j : Nat) (hj : j < L.length) (hq : q L[j] = true) : (L.take (j + 1)).filter (fun x => !q x) = (L.take j).filter (fun x => !q x) := by
  rw [List.take_succ_eq_append_getElem hj, List.filter_append, List.filter_cons_of_neg (by simp [hq])]
  simp
omit hn hsmall hSg hst hcall in
theorem take_filter_false (j : Nat) (hj : j < L.length) (hq : q L[j] = false) : (L.take (j + 1)).filter (fun x => !q x) = (L.take j).filter (fun x => !q x) ++ [L[j]] := by
  rw [List.take_succ_eq_append_getElem hj, List.filter_append, List.filter_cons_of_pos (by simp [hq])]
  simp
set_option maxRecDepth 100000 in
set_option maxHeartbeats 8000000 in
theorem deleteFunc_any (w : World) (hSw : ∀ k, S k → k < w.heap.size) (hown : OwnL w base 40 2 (.slice (some ⟨g, 0, none⟩) n cap) (L.map placeC)) (hinv : Inv 0 w) :
    Calls Try.prog 35 #[.slice (some ⟨g, 0, none⟩) n cap, .func (.func 36) #[] #[.pointer (some ⟨bw, 0, none⟩), .pointer (some ⟨bx, 0, none⟩)]] w fun e w' =>
      e = .returned (.slice (some ⟨g, 0, none⟩) (L.filter fun x => !q x).length cap) ∧ OwnL w' base 40 2 (.slice (some ⟨g, 0, none⟩) (L.filter fun x => !q x).length cap) ((L.filter fun x => !q x).map placeC) ∧ Inv L.length w' ∧ Turned (fun k => S k ∨ k = g) w w' := by
  obtain ⟨hlen, hncap, hcapm⟩ := hown.len
  have HIDX := Lib.hid (indexFunc_any bw bx q L g n cap base S Inv hn hsmall hSg hst hcall w hown hinv)
  have HN := Lib.hid hn
  have HCALL := fun j W hj hi => Lib.hid (hcall j W hj hi)
  have hgl := (hown.own_ge (g := g) rfl).2
  clear hn hcall hlen
  go_enter Try.func35, Try.ntmps35
  go_wp2_with fail
  refine HIDX.out.mono ?_
  rintro e w1 ⟨ht1, ⟨i, hi, rfl, hqi, hlo, hinv1⟩ | ⟨rfl, hall, hinv1⟩⟩
  · have HS : ∀ g', (Value.slice (some ⟨g, 0, none⟩) n cap).ownBlock = some g' → ¬ S g' := fun g' h => by simp [Value.ownBlock] at h; subst h; exact hSg
    have hown1 := hown.kept ht1 HS
    have hin : i < n := by have := HN.out; omega
    have HI1 := Lib.hid hinv1
    have hbi : ((i : Int) == -1) = false := beq_eq_false_iff_ne.2 (by omega)
    have HF0 := Lib.hid (show L.take i = (L.take (i + 1)).filter (fun x => !q x) from by
      rw [take_filter_true q L i hi hqi]
      refine (List.filter_eq_self.2 fun x hx => ?_).symm
      obtain ⟨j, hj, rfl⟩ := List.mem_take_iff_getElem.1 hx
      rw [hlo j (by omega) (by omega)]; rfl)
    have hgl1 : g < w1.heap.size := by have := ht1.size; omega
    clear hqi hlo hinv1 hinv hown
    go_wp2_with fail
    go_loopg [5, 6] (n - (i + 1)) (fun gk ii jj wr => ∃ (i j : Nat) (R : List Place), i < j ∧ j ≤ n ∧ gk = n - j ∧ ii = .int .i64 i ∧ jj = .int .i64 j ∧ R.length = n ∧ R.take i = (L.take j).filter (fun x => !q x) ∧ R.drop j = L.drop j ∧ OwnL wr base 40 2 (.slice (some ⟨g, 0, none⟩) n cap) (R.map placeC) ∧ Inv j wr ∧ Turned (fun k => S k ∨ k = g) w wr)
    case atStart => exact ⟨i, i + 1, L, by omega, by omega, by omega, rfl, by go_num, HN.out.symm, HF0.out, rfl, hown1, HI1.out, ht1.mono (fun _ _ h => .inl h)⟩
    case round =>
      clear hown1 hin hbi
      obtain ⟨i, j, R, hij, hj, hgk, rfl, rfl, hRl, hRt, hRd, hownr, hir, htr⟩ := hrel
      have HGK := Lib.hid hgk
      have HRL := Lib.hid hRl
      have HRT := Lib.hid hRt
      have HRD := Lib.hid hRd
      have HIR := Lib.hid hir
      clear hgk hRl hRt hRd hir ht1
      have hglr := (hownr.own_ge (g := g) rfl).2
      by_cases hlt : j < n
      · have hjl : j < L.length := by rw [← HN.out]; exact hlt
        have hjR : j < R.length := by rw [HRL.out]; exact hlt
        have hiR : i < R.length := by rw [HRL.out]; omega
        have hLR : R[j] = L[j] := by
          have h1 := congrArg (fun l => l[0]?) HRD.out
          simp only [List.getElem?_drop, Nat.add_zero] at h1
          rw [List.getElem?_eq_getElem hjR, List.getElem?_eq_getElem hjl] at h1
          injection h1
        obtain ⟨c0, c1⟩ := own_place hownr hjR
        rw [hLR] at c0 c1
        have HC := Lib.hid (HCALL j (wr.alloc (.cells #[.int .i64 L[j].1, .int .i64 L[j].2] 40)) hjl (hst j _ _ HIR.out ((Turned.refl _ wr).alloc _))).out
        have HDN := Lib.hid (show R.drop (j + 1) = L.drop (j + 1) from by
          have h1 := congrArg (List.drop 1) HRD.out
          rwa [List.drop_drop, List.drop_drop] at h1)
        have HTT := fun h => Lib.hid (take_filter_true q L j hjl h)
        have HTF := fun h => Lib.hid (take_filter_false q L j hjl h)
        have hset := fun p => set_place R i hiR p
        have hrow : (R.map placeC)[i]? = some (placeC R[i]) := by rw [List.getElem?_map, List.getElem?_eq_getElem hiR]; rfl
        have HROW := Lib.hid hrow
        have HSETP := Lib.hid hset
        clear hLR hrow hset
        generalize L[j] = p at *
        obtain ⟨pa, pb⟩ := p
        simp only at c0 c1
        go_wp2_with fail
        refine HC.out.mono ?_
        rintro e w2 ⟨rfl, hi2, ht2⟩
        have HI2 := Lib.hid hi2
        have hown2 := (hownr.alloc (.cells #[.int .i64 pa, .int .i64 pb] 40)).kept ht2 HS
        have ht2' := (htr.alloc (.cells #[.int .i64 pa, .int .i64 pb] 40)).next ht2 (fun _ _ h => .inl h)
        have hz2 := ht2.size
        simp at hz2
        have hvb := (Blk.new wr 40 #[.int .i64 pa, .int .i64 pb] rfl).turned ht2 (fun h => by have := hSw _ h; have := htr.size; omega)
        have v0 := hvb.cell 0
        have v1 := hvb.cell 1
        clear hi2 ht2 hownr htr c0 c1 hvb
        cases hq : q (pa, pb)
        · have HT1 := HTF hq
          have HQ := Lib.hid hq
          clear hq HTT HTF
          have f0 := hown2.frozen (i * 2)
          have f1 := hown2.frozen (i * 2 + 1)
          obtain ⟨d0, d1⟩ := own_place hown2 hiR
          have HD0 := d0
          have hs1 := hown2.set_ (j := i) (i := 0) (o := i * 2) HROW.out (by omega) rfl (.int .i64 pa)
          have hs2 := hs1.set_ (j := i) (i := 1) (o := i * 2 + 1) (r := (placeC R[i]).set 0 (.int .i64 pa)) (by rw [List.getElem?_set_self (by rw [List.length_map]; exact hiR)]) (by omega) rfl (.int .i64 pb)
          rw [HSETP.out (pa, pb)] at hs2
          have HS2 := Lib.hid hs2
          have HTS := Lib.hid (take_set_snoc R i hiR (pa, pb))
          clear hs1 hs2
          have hg2 : g < w2.heap.size := by omega
          generalize R[i] = r0 at *
          go_wp2_with fail
          go_roundg (n - (j + 1))
          case measure => rw [HGK.out]; omega
          case rel =>
            refine ⟨i + 1, j + 1, R.set i (pa, pb), by omega, by omega, by omega, by go_num, by go_num, by rw [List.length_set]; exact HRL.out, by rw [HTS.out, HT1.out, HRT.out], by rw [List.drop_set_of_lt (by omega)]; exact HDN.out, HS2.out, hst _ _ _ HI2.out (((Turned.refl (fun k => k = g) w2).setCell (p := ⟨g, i * 2, none⟩) (fun _ => rfl) _).setCell (p := ⟨g, i * 2 + 1, none⟩) (fun _ => rfl) _), (ht2'.setCell (p := ⟨g, i * 2, none⟩) (fun _ => .inr rfl) _).setCell (p := ⟨g, i * 2 + 1, none⟩) (fun _ => .inr rfl) _⟩
        · have HT1 := HTT hq
          have HQ := Lib.hid hq
          clear hq HTT HTF
          go_wp2_with fail
          go_roundg (n - (j + 1))
          case measure => rw [HGK.out]; omega
          case rel => exact ⟨i, j + 1, R, by omega, by omega, by omega, rfl, by go_num, HRL.out, by rw [HT1.out, HRT.out], HDN.out, hown2, HI2.out, ht2'⟩
      · obtain rfl : j = n := by omega
        have hci : ¬ cap = i := by omega
        have hzc := zero_place
        have HTE := Lib.hid (show R.take i = L.filter (fun x => !q x) from by rw [HRT.out, HN.out, List.take_length])
        have HTL := Lib.hid (show (L.filter (fun x => !q x)).length = i from by rw [← HTE.out, List.length_take, HRL.out]; omega)
        have HIN := Lib.hid (show Inv L.length wr from by rw [← HN.out]; exact HIR.out)
        go_wp2_with (refine wpList_clear_own rfl (.tmp 38) 28 rfl base 40 2 _ Try.underlying28 zero_place rfl place_one (by decide) g j cap i (R.map placeC) hownr hij _ _ rfl rfl ?_; intro w3 hown3 ht3)
        go_ret
        rw [HTL.out]
        refine ⟨rfl, ?_, hst _ _ _ HIN.out ht3, htr.next ht3 (fun _ _ h => .inr h)⟩
        rw [← List.map_take, HTE.out] at hown3
        exact hown3
  · have HFE := Lib.hid (show L.filter (fun x => !q x) = L from List.filter_eq_self.2 fun x hx => by
      obtain ⟨j, hj, rfl⟩ := List.mem_iff_getElem.1 hx
      rw [hall j hj]; rfl)
    have hown1 := hown.kept ht1 (fun g' h => by simp [Value.ownBlock] at h; subst h; exact hSg)
    go_wp2_with fail
    go_ret
    rw [HFE.out, ← HN.out]
    exact ⟨rfl, hown1, by rw [HN.out]; exact hinv1, ht1.mono (fun _ _ h => .inl h)⟩
end
end Go.Proofs.Ytfmhiocigoejjaa
