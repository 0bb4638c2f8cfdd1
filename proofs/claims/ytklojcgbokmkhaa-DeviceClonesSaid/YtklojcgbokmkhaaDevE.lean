/- Chapter 3: slices.IndexFunc and slices.DeleteFunc over pending writes. -/
import Derived.Test.YtklojcgbokmkhaaDevD
namespace Go.Proofs.Ytklojcgbokmkhaa
set_option linter.unusedVariables false
set_option linter.unusedSimpArgs false
set_option linter.unusedSectionVars false
open Go.RowKit
open Go.Maps (Keyed)
theorem zero_wr (w : World) : (zeroValue 77).run Try.prog w = .ok (.agg #[.int .i64 0, .int .i64 0, .string ⟨#[]⟩]) w := by kernel_rfl
theorem wr_one : ∀ v ∈ (Value.agg #[.int .i64 0, .int .i64 0, .string ⟨#[]⟩]).cells, v.oneCell' = true := by
  intro v hv
  simp [Value.cells] at hv
  rcases hv with rfl | rfl <;> rfl
theorem own_wr {w : World} {base g n cap : Nat} {L : List Wr} (h : OwnL w base 77 3 (.slice (some ⟨g, 0, none⟩) n cap) (L.map wrC)) {k : Nat} (hk : k < L.length) :
    w.cell? ⟨g, k * 3, none⟩ = some (.int .i64 L[k].sys) ∧ w.cell? ⟨g, k * 3 + 1, none⟩ = some (.int .i64 (L[k].sec : Int)) ∧ w.cell? ⟨g, k * 3 + 2, none⟩ = some (.string L[k].data) := by
  have hr : (L.map wrC)[k]? = some (wrC L[k]) := by rw [List.getElem?_map, List.getElem?_eq_getElem hk]; rfl
  exact ⟨h.cell (i := 0) hr rfl, h.cell (i := 1) hr rfl, h.cell (i := 2) hr rfl⟩
theorem take_set_snoc (R : List Wr) (i : Nat) (hi : i < R.length) (p : Wr) : (R.set i p).take (i + 1) = R.take i ++ [p] := by
  rw [List.take_succ_eq_append_getElem (by rw [List.length_set]; exact hi), List.getElem_set_self, List.take_set_of_le (by omega)]
theorem set_wr (R : List Wr) (i : Nat) (hi : i < R.length) (p : Wr) : (((R.map wrC).set i ((wrC R[i]).set 0 (.int .i64 p.sys))).set i (((wrC R[i]).set 0 (.int .i64 p.sys)).set 1 (.int .i64 (p.sec : Int)))).set i ((((wrC R[i]).set 0 (.int .i64 p.sys)).set 1 (.int .i64 (p.sec : Int))).set 2 (.string p.data)) = (R.set i p).map wrC := by
  rw [List.set_set, List.set_set, List.map_set]
  rfl
theorem take_filter_true (p : Wr → Bool) (L : List Wr) (j : Nat) (hj : j < L.length) (hq : p L[j] = true) : (L.take (j + 1)).filter (fun x => !p x) = (L.take j).filter (fun x => !p x) := by
  rw [List.take_succ_eq_append_getElem hj, List.filter_append, List.filter_cons_of_neg (by simp [hq])]
  simp
theorem take_filter_false (p : Wr → Bool) (L : List Wr) (j : Nat) (hj : j < L.length) (hq : p L[j] = false) : (L.take (j + 1)).filter (fun x => !p x) = (L.take j).filter (fun x => !p x) ++ [L[j]] := by
  rw [List.take_succ_eq_append_getElem hj, List.filter_append, List.filter_cons_of_pos (by simp [hq])]
  simp
section
variable (bs : Nat) (p : Wr → Bool) (L : List Wr) (g n cap : Nat) (KP : World → Prop) (hn : n = L.length) (hsmall : n ≤ 1000000)
  (hKP : ∀ W W', KP W → Turned (fun k => k = g) W W' → KP W') (hKG : ∀ W W', KP W → Grew W W' → KP W')
  (hcall : ∀ W (r : Wr), KP W → Calls Try.prog 58 #[.agg #[.int .i64 r.sys, .int .i64 (r.sec : Int), .string r.data], .pointer (some ⟨bs, 0, none⟩)] W fun e w' => e = .returned (.bool (p r)) ∧ Grew W w')
include hn hsmall hKP hKG hcall
set_option maxRecDepth 100000 in
set_option maxHeartbeats 4000000 in
theorem indexFunc_of (w : World) (hown : OwnL w 0 77 3 (.slice (some ⟨g, 0, none⟩) n cap) (L.map wrC)) (hkp : KP w) :
    Calls Try.prog 63 #[.slice (some ⟨g, 0, none⟩) n cap, .func (.func 58) #[] #[.pointer (some ⟨bs, 0, none⟩)]] w fun e w' => Grew w w' ∧
      ((∃ (i : Nat) (hi : i < L.length), e = .returned (.int .i64 (i : Int)) ∧ p L[i] = true ∧ (∀ j (hj : j < L.length), j < i → p L[j] = false)) ∨ (e = .returned (.int .i64 (-1)) ∧ (∀ j (hj : j < L.length), p L[j] = false))) := by
  have HN := Lib.hid hn
  have HCALL := fun W r hk => Lib.hid (hcall W r hk)
  clear hn hcall hKP
  go_enter Try.func63, Try.ntmps63
  go_wp2_with fail
  go_loopg [8] n (fun gk i wr => ∃ k : Nat, k ≤ n ∧ gk = n - k ∧ i = .int .i64 k ∧ (∀ j (hj : j < L.length), j < k → p L[j] = false) ∧ KP wr ∧ Grew w wr)
  case atStart => exact ⟨0, by omega, by omega, rfl, fun j _ h => by omega, hkp, Grew.refl _⟩
  case round =>
    obtain ⟨k, hk, hgk, rfl, hall, hi, ht⟩ := hrel
    have HGK := Lib.hid hgk
    have HA := Lib.hid hall
    have HI := Lib.hid hi
    clear hgk hall hi
    by_cases hlt : k < n
    · have hkl : k < L.length := by rw [← HN.out]; exact hlt
      obtain ⟨c0, c1, c2⟩ := own_wr (hown.grew ht) hkl
      have HC := Lib.hid (HCALL wr L[k] HI.out).out
      have HX2 := Lib.hid (show ∀ j (hj : j < L.length), j < k + 1 → j ≠ k → p L[j] = false from fun j hj h1 h2 => HA.out j hj (by omega))
      go_wp2_with fail
      refine HC.out.mono ?_
      rintro e w1 ⟨rfl, g1⟩
      have HI1 := Lib.hid (hKG _ _ HI.out g1)
      have ht2 := ht.trans g1
      clear g1 ht c0 c1 c2
      cases hq : p L[k]
      · have HQ := Lib.hid hq
        clear hq
        go_wp2_with fail
        go_roundg (n - (k + 1))
        case measure => rw [HGK.out]; omega
        case rel => exact ⟨k + 1, by omega, by omega, by go_num, fun j hj h => by
          by_cases e : j = k
          · subst e; exact HQ.out
          · exact HX2.out j hj h e, HI1.out, ht2⟩
      · have HQ := Lib.hid hq
        clear hq
        go_wp2_with fail
        go_ret
        exact ⟨ht2, .inl ⟨k, hkl, rfl, HQ.out, HA.out⟩⟩
    · obtain rfl : k = n := by omega
      go_wp2_with fail
      go_ret
      exact ⟨ht, .inr ⟨rfl, fun j hj => HA.out j hj (by have := HN.out; omega)⟩⟩
set_option maxRecDepth 100000 in
set_option maxHeartbeats 8000000 in
theorem deleteFunc_of (w : World) (hown : OwnL w 0 77 3 (.slice (some ⟨g, 0, none⟩) n cap) (L.map wrC)) (hkp : KP w) :
    Calls Try.prog 57 #[.slice (some ⟨g, 0, none⟩) n cap, .func (.func 58) #[] #[.pointer (some ⟨bs, 0, none⟩)]] w fun e w' =>
      e = .returned (.slice (some ⟨g, 0, none⟩) (L.filter fun x => !p x).length cap) ∧ OwnL w' 0 77 3 (.slice (some ⟨g, 0, none⟩) (L.filter fun x => !p x).length cap) ((L.filter fun x => !p x).map wrC) ∧ Turned (fun k => k = g) w w' := by
  obtain ⟨hlen, hncap, hcapm⟩ := hown.len
  have HIDX := Lib.hid (indexFunc_of bs p L g n cap KP hn hsmall hKP hKG hcall w hown hkp)
  have HN := Lib.hid hn
  have HCALL := fun W r hk => Lib.hid (hcall W r hk)
  have hgl := (hown.own_ge (g := g) rfl).2
  clear hn hcall hlen
  go_enter Try.func57, Try.ntmps57
  go_wp2_with fail
  refine HIDX.out.mono ?_
  rintro e w1 ⟨hg1, ⟨i, hi, rfl, hqi, hlo⟩ | ⟨rfl, hall⟩⟩
  · have hown1 := hown.grew hg1
    have hin : i < n := by have := HN.out; omega
    have HI1 := Lib.hid (hKG _ _ hkp hg1)
    have hbi : ((i : Int) == -1) = false := beq_eq_false_iff_ne.2 (by omega)
    have HF0 := Lib.hid (show L.take i = (L.take (i + 1)).filter (fun x => !p x) from by
      rw [take_filter_true p L i hi hqi]
      refine (List.filter_eq_self.2 fun x hx => ?_).symm
      obtain ⟨j, hj, rfl⟩ := List.mem_take_iff_getElem.1 hx
      rw [hlo j (by omega) (by omega)]; rfl)
    have hgl1 : g < w1.heap.size := by have := hg1.size; omega
    have ht1 := hg1.turned (fun k => k = g)
    clear hqi hlo hown hg1 hkp
    go_wp2_with fail
    go_loopg [5, 6] (n - (i + 1)) (fun gk ii jj wr => ∃ (i j : Nat) (R : List Wr), i < j ∧ j ≤ n ∧ gk = n - j ∧ ii = .int .i64 i ∧ jj = .int .i64 j ∧ R.length = n ∧ R.take i = (L.take j).filter (fun x => !p x) ∧ R.drop j = L.drop j ∧ OwnL wr 0 77 3 (.slice (some ⟨g, 0, none⟩) n cap) (R.map wrC) ∧ KP wr ∧ Turned (fun k => k = g) w wr)
    case atStart => exact ⟨i, i + 1, L, by omega, by omega, by omega, rfl, by go_num, HN.out.symm, HF0.out, rfl, hown1, HI1.out, ht1⟩
    case round =>
      clear hown1 hin hbi
      obtain ⟨i, j, R, hij, hj, hgk, rfl, rfl, hRl, hRt, hRd, hownr, hir, htr⟩ := hrel
      have HGK := Lib.hid hgk
      have HRL := Lib.hid hRl
      have HRT := Lib.hid hRt
      have HRD := Lib.hid hRd
      have HIR := Lib.hid hir
      clear hgk hRl hRt hRd hir ht1
      have hglr := (hownr.own_ge (g := g) rfl).2
      by_cases hlt : j < n
      · have hjl : j < L.length := by rw [← HN.out]; exact hlt
        have hjR : j < R.length := by rw [HRL.out]; exact hlt
        have hiR : i < R.length := by rw [HRL.out]; omega
        have hLR : R[j] = L[j] := by
          have h1 := congrArg (fun l => l[0]?) HRD.out
          simp only [List.getElem?_drop, Nat.add_zero] at h1
          rw [List.getElem?_eq_getElem hjR, List.getElem?_eq_getElem hjl] at h1
          injection h1
        obtain ⟨c0, c1, c2⟩ := own_wr hownr hjR
        rw [hLR] at c0 c1 c2
        have HDN := Lib.hid (show R.drop (j + 1) = L.drop (j + 1) from by
          have h1 := congrArg (List.drop 1) HRD.out
          rwa [List.drop_drop, List.drop_drop] at h1)
        have HTT := fun h => Lib.hid (take_filter_true p L j hjl h)
        have HTF := fun h => Lib.hid (take_filter_false p L j hjl h)
        have hrow : (R.map wrC)[i]? = some (wrC R[i]) := by rw [List.getElem?_map, List.getElem?_eq_getElem hiR]; rfl
        have HROW := Lib.hid hrow
        have HSETP := Lib.hid (fun p => set_wr R i hiR p)
        clear hLR hrow
        generalize L[j] = r at *
        have gal := (Grew.refl wr).alloc (.cells #[.int .i64 r.sys, .int .i64 (r.sec : Int), .string r.data] 77)
        have HC := Lib.hid (HCALL _ r (hKG _ _ HIR.out gal)).out
        go_wp2_with fail
        refine HC.out.mono ?_
        rintro e w2 ⟨rfl, g2⟩
        have HI2 := Lib.hid (hKG _ _ (hKG _ _ HIR.out gal) g2)
        have hown2 := (hownr.grew gal).grew g2
        have ht2' := (htr.andGrew gal).andGrew g2
        have hvb := (Blk.new wr 77 #[.int .i64 r.sys, .int .i64 (r.sec : Int), .string r.data] rfl).grew g2
        have hz2 := hvb.lt
        have v0 := hvb.cell 0
        have v1 := hvb.cell 1
        have v2 := hvb.cell 2
        clear g2 hownr htr c0 c1 c2 hvb gal
        cases hq : p r
        · have HT1 := HTF hq
          have HQ := Lib.hid hq
          clear hq HTT HTF
          have f0 := hown2.frozen (i * 3)
          have f1 := hown2.frozen (i * 3 + 1)
          have f2 := hown2.frozen (i * 3 + 2)
          obtain ⟨d0, d1, d2⟩ := own_wr hown2 hiR
          have hs1 := hown2.set_ (j := i) (i := 0) (o := i * 3) HROW.out (by omega) rfl (.int .i64 r.sys)
          have hs2 := hs1.set_ (j := i) (i := 1) (o := i * 3 + 1) (r := (wrC R[i]).set 0 (.int .i64 r.sys)) (by rw [List.getElem?_set_self (by rw [List.length_map]; exact hiR)]) (by omega) rfl (.int .i64 (r.sec : Int))
          have hs3 := hs2.set_ (j := i) (i := 2) (o := i * 3 + 2) (r := ((wrC R[i]).set 0 (.int .i64 r.sys)).set 1 (.int .i64 (r.sec : Int))) (by rw [List.getElem?_set_self (by rw [List.length_set, List.length_map]; exact hiR)]) (by omega) rfl (.string r.data)
          rw [HSETP.out r] at hs3
          have HS2 := Lib.hid hs3
          have HTS := Lib.hid (take_set_snoc R i hiR r)
          clear hs1 hs2 hs3
          have hg2 : g < w2.heap.size := by omega
          generalize R[i] = r0 at *
          go_wp2_with fail
          go_roundg (n - (j + 1))
          case measure => rw [HGK.out]; omega
          case rel =>
            refine ⟨i + 1, j + 1, R.set i r, by omega, by omega, by omega, by go_num, by go_num, by rw [List.length_set]; exact HRL.out, by rw [HTS.out, HT1.out, HRT.out], by rw [List.drop_set_of_lt (by omega)]; exact HDN.out, HS2.out, hKP _ _ HI2.out ((((Turned.refl (fun k => k = g) w2).setCell (p := ⟨g, i * 3, none⟩) (fun _ => rfl) _).setCell (p := ⟨g, i * 3 + 1, none⟩) (fun _ => rfl) _).setCell (p := ⟨g, i * 3 + 2, none⟩) (fun _ => rfl) _), (((ht2'.setCell (p := ⟨g, i * 3, none⟩) (fun _ => rfl) _).setCell (p := ⟨g, i * 3 + 1, none⟩) (fun _ => rfl) _).setCell (p := ⟨g, i * 3 + 2, none⟩) (fun _ => rfl) _)⟩
        · have HT1 := HTT hq
          have HQ := Lib.hid hq
          clear hq HTT HTF
          go_wp2_with fail
          go_roundg (n - (j + 1))
          case measure => rw [HGK.out]; omega
          case rel => exact ⟨i, j + 1, R, by omega, by omega, by omega, rfl, by go_num, HRL.out, by rw [HT1.out, HRT.out], HDN.out, hown2, HI2.out, ht2'⟩
      · obtain rfl : j = n := by omega
        have hci : ¬ cap = i := by omega
        have hzc := zero_wr
        have HTE := Lib.hid (show R.take i = L.filter (fun x => !p x) from by rw [HRT.out, HN.out, List.take_length])
        have HTL := Lib.hid (show (L.filter (fun x => !p x)).length = i from by rw [← HTE.out, List.length_take, HRL.out]; omega)
        go_wp2_with (refine wpList_clear_own rfl (.tmp 38) 65 rfl 0 77 3 _ Try.underlying65 zero_wr rfl wr_one (by decide) g j cap i (R.map wrC) hownr hij _ _ rfl rfl ?_; intro w3 hown3 ht3)
        go_ret
        rw [HTL.out]
        refine ⟨rfl, ?_, htr.trans ht3⟩
        rw [← List.map_take, HTE.out] at hown3
        exact hown3
  · have HFE := Lib.hid (show L.filter (fun x => !p x) = L from List.filter_eq_self.2 fun x hx => by
      obtain ⟨j, hj, rfl⟩ := List.mem_iff_getElem.1 hx
      rw [hall j hj]; rfl)
    have hown1 := hown.grew hg1
    have ht1 := hg1.turned (fun k => k = g)
    clear hg1
    go_wp2_with fail
    go_ret
    rw [HFE.out, ← HN.out]
    exact ⟨rfl, hown1, ht1⟩
end
set_option maxRecDepth 100000 in
set_option maxHeartbeats 1000000 in
theorem deleteNil_of (bs : Nat) (w : World) : Calls Try.prog 57 #[.slice none 0 0, .func (.func 58) #[] #[.pointer (some ⟨bs, 0, none⟩)]] w fun e w' => e = .returned (.slice none 0 0) ∧ w = w' := by
  have hI : Calls Try.prog 63 #[.slice none 0 0, .func (.func 58) #[] #[.pointer (some ⟨bs, 0, none⟩)]] w fun e w' => e = .returned (.int .i64 (-1)) ∧ w = w' := by
    go_enter Try.func63, Try.ntmps63
    go_wp2_with fail
    go_loopg [8] 0 (fun gk i wr => gk = 0 ∧ i = .int .i64 0 ∧ w = wr)
    case atStart => exact ⟨rfl, rfl, rfl⟩
    case round =>
      obtain ⟨_, rfl, rfl⟩ := hrel
      go_wp2_with fail
      go_ret
      exact ⟨rfl, rfl⟩
  have HI := Lib.hid hI
  clear hI
  go_enter Try.func57, Try.ntmps57
  go_wp2_with fail
  refine HI.out.mono ?_
  rintro e w1 ⟨rfl, rfl⟩
  go_wp2_with fail
  go_ret
  exact ⟨rfl, rfl⟩
section
variable  (p : Wr → Bool) (L : List Wr) (g n cap : Nat) (KP : World → Prop) (hn : n = L.length) (hsmall : n ≤ 1000000)
  (hKP : ∀ W W', KP W → Turned (fun k => k = g) W W' → KP W') (hKG : ∀ W W', KP W → Grew W W' → KP W')
  (hcall : ∀ W (r : Wr), KP W → Calls Try.prog 55 #[.agg #[.int .i64 r.sys, .int .i64 (r.sec : Int), .string r.data]] W fun e w' => e = .returned (.bool (p r)) ∧ Grew W w')
include hn hsmall hKP hKG hcall
set_option maxRecDepth 100000 in
set_option maxHeartbeats 4000000 in
theorem indexFunc_all (w : World) (hown : OwnL w 0 77 3 (.slice (some ⟨g, 0, none⟩) n cap) (L.map wrC)) (hkp : KP w) :
    Calls Try.prog 63 #[.slice (some ⟨g, 0, none⟩) n cap, .func (.func 55) #[] #[]] w fun e w' => Grew w w' ∧
      ((∃ (i : Nat) (hi : i < L.length), e = .returned (.int .i64 (i : Int)) ∧ p L[i] = true ∧ (∀ j (hj : j < L.length), j < i → p L[j] = false)) ∨ (e = .returned (.int .i64 (-1)) ∧ (∀ j (hj : j < L.length), p L[j] = false))) := by
  have HN := Lib.hid hn
  have HCALL := fun W r hk => Lib.hid (hcall W r hk)
  clear hn hcall hKP
  go_enter Try.func63, Try.ntmps63
  go_wp2_with fail
  go_loopg [8] n (fun gk i wr => ∃ k : Nat, k ≤ n ∧ gk = n - k ∧ i = .int .i64 k ∧ (∀ j (hj : j < L.length), j < k → p L[j] = false) ∧ KP wr ∧ Grew w wr)
  case atStart => exact ⟨0, by omega, by omega, rfl, fun j _ h => by omega, hkp, Grew.refl _⟩
  case round =>
    obtain ⟨k, hk, hgk, rfl, hall, hi, ht⟩ := hrel
    have HGK := Lib.hid hgk
    have HA := Lib.hid hall
    have HI := Lib.hid hi
    clear hgk hall hi
    by_cases hlt : k < n
    · have hkl : k < L.length := by rw [← HN.out]; exact hlt
      obtain ⟨c0, c1, c2⟩ := own_wr (hown.grew ht) hkl
      have HC := Lib.hid (HCALL wr L[k] HI.out).out
      have HX2 := Lib.hid (show ∀ j (hj : j < L.length), j < k + 1 → j ≠ k → p L[j] = false from fun j hj h1 h2 => HA.out j hj (by omega))
      go_wp2_with fail
      refine HC.out.mono ?_
      rintro e w1 ⟨rfl, g1⟩
      have HI1 := Lib.hid (hKG _ _ HI.out g1)
      have ht2 := ht.trans g1
      clear g1 ht c0 c1 c2
      cases hq : p L[k]
      · have HQ := Lib.hid hq
        clear hq
        go_wp2_with fail
        go_roundg (n - (k + 1))
        case measure => rw [HGK.out]; omega
        case rel => exact ⟨k + 1, by omega, by omega, by go_num, fun j hj h => by
          by_cases e : j = k
          · subst e; exact HQ.out
          · exact HX2.out j hj h e, HI1.out, ht2⟩
      · have HQ := Lib.hid hq
        clear hq
        go_wp2_with fail
        go_ret
        exact ⟨ht2, .inl ⟨k, hkl, rfl, HQ.out, HA.out⟩⟩
    · obtain rfl : k = n := by omega
      go_wp2_with fail
      go_ret
      exact ⟨ht, .inr ⟨rfl, fun j hj => HA.out j hj (by have := HN.out; omega)⟩⟩
set_option maxRecDepth 100000 in
set_option maxHeartbeats 8000000 in
theorem deleteFunc_all (w : World) (hown : OwnL w 0 77 3 (.slice (some ⟨g, 0, none⟩) n cap) (L.map wrC)) (hkp : KP w) :
    Calls Try.prog 57 #[.slice (some ⟨g, 0, none⟩) n cap, .func (.func 55) #[] #[]] w fun e w' =>
      e = .returned (.slice (some ⟨g, 0, none⟩) (L.filter fun x => !p x).length cap) ∧ OwnL w' 0 77 3 (.slice (some ⟨g, 0, none⟩) (L.filter fun x => !p x).length cap) ((L.filter fun x => !p x).map wrC) ∧ Turned (fun k => k = g) w w' := by
  obtain ⟨hlen, hncap, hcapm⟩ := hown.len
  have HIDX := Lib.hid (indexFunc_all  p L g n cap KP hn hsmall hKP hKG hcall w hown hkp)
  have HN := Lib.hid hn
  have HCALL := fun W r hk => Lib.hid (hcall W r hk)
  have hgl := (hown.own_ge (g := g) rfl).2
  clear hn hcall hlen
  go_enter Try.func57, Try.ntmps57
  go_wp2_with fail
  refine HIDX.out.mono ?_
  rintro e w1 ⟨hg1, ⟨i, hi, rfl, hqi, hlo⟩ | ⟨rfl, hall⟩⟩
  · have hown1 := hown.grew hg1
    have hin : i < n := by have := HN.out; omega
    have HI1 := Lib.hid (hKG _ _ hkp hg1)
    have hbi : ((i : Int) == -1) = false := beq_eq_false_iff_ne.2 (by omega)
    have HF0 := Lib.hid (show L.take i = (L.take (i + 1)).filter (fun x => !p x) from by
      rw [take_filter_true p L i hi hqi]
      refine (List.filter_eq_self.2 fun x hx => ?_).symm
      obtain ⟨j, hj, rfl⟩ := List.mem_take_iff_getElem.1 hx
      rw [hlo j (by omega) (by omega)]; rfl)
    have hgl1 : g < w1.heap.size := by have := hg1.size; omega
    have ht1 := hg1.turned (fun k => k = g)
    clear hqi hlo hown hg1 hkp
    go_wp2_with fail
    go_loopg [5, 6] (n - (i + 1)) (fun gk ii jj wr => ∃ (i j : Nat) (R : List Wr), i < j ∧ j ≤ n ∧ gk = n - j ∧ ii = .int .i64 i ∧ jj = .int .i64 j ∧ R.length = n ∧ R.take i = (L.take j).filter (fun x => !p x) ∧ R.drop j = L.drop j ∧ OwnL wr 0 77 3 (.slice (some ⟨g, 0, none⟩) n cap) (R.map wrC) ∧ KP wr ∧ Turned (fun k => k = g) w wr)
    case atStart => exact ⟨i, i + 1, L, by omega, by omega, by omega, rfl, by go_num, HN.out.symm, HF0.out, rfl, hown1, HI1.out, ht1⟩
    case round =>
      clear hown1 hin hbi
      obtain ⟨i, j, R, hij, hj, hgk, rfl, rfl, hRl, hRt, hRd, hownr, hir, htr⟩ := hrel
      have HGK := Lib.hid hgk
      have HRL := Lib.hid hRl
      have HRT := Lib.hid hRt
      have HRD := Lib.hid hRd
      have HIR := Lib.hid hir
      clear hgk hRl hRt hRd hir ht1
      have hglr := (hownr.own_ge (g := g) rfl).2
      by_cases hlt : j < n
      · have hjl : j < L.length := by rw [← HN.out]; exact hlt
        have hjR : j < R.length := by rw [HRL.out]; exact hlt
        have hiR : i < R.length := by rw [HRL.out]; omega
        have hLR : R[j] = L[j] := by
          have h1 := congrArg (fun l => l[0]?) HRD.out
          simp only [List.getElem?_drop, Nat.add_zero] at h1
          rw [List.getElem?_eq_getElem hjR, List.getElem?_eq_getElem hjl] at h1
          injection h1
        obtain ⟨c0, c1, c2⟩ := own_wr hownr hjR
        rw [hLR] at c0 c1 c2
        have HDN := Lib.hid (show R.drop (j + 1) = L.drop (j + 1) from by
          have h1 := congrArg (List.drop 1) HRD.out
          rwa [List.drop_drop, List.drop_drop] at h1)
        have HTT := fun h => Lib.hid (take_filter_true p L j hjl h)
        have HTF := fun h => Lib.hid (take_filter_false p L j hjl h)
        have hrow : (R.map wrC)[i]? = some (wrC R[i]) := by rw [List.getElem?_map, List.getElem?_eq_getElem hiR]; rfl
        have HROW := Lib.hid hrow
        have HSETP := Lib.hid (fun p => set_wr R i hiR p)
        clear hLR hrow
        generalize L[j] = r at *
        have gal := (Grew.refl wr).alloc (.cells #[.int .i64 r.sys, .int .i64 (r.sec : Int), .string r.data] 77)
        have HC := Lib.hid (HCALL _ r (hKG _ _ HIR.out gal)).out
        go_wp2_with fail
        refine HC.out.mono ?_
        rintro e w2 ⟨rfl, g2⟩
        have HI2 := Lib.hid (hKG _ _ (hKG _ _ HIR.out gal) g2)
        have hown2 := (hownr.grew gal).grew g2
        have ht2' := (htr.andGrew gal).andGrew g2
        have hvb := (Blk.new wr 77 #[.int .i64 r.sys, .int .i64 (r.sec : Int), .string r.data] rfl).grew g2
        have hz2 := hvb.lt
        have v0 := hvb.cell 0
        have v1 := hvb.cell 1
        have v2 := hvb.cell 2
        clear g2 hownr htr c0 c1 c2 hvb gal
        cases hq : p r
        · have HT1 := HTF hq
          have HQ := Lib.hid hq
          clear hq HTT HTF
          have f0 := hown2.frozen (i * 3)
          have f1 := hown2.frozen (i * 3 + 1)
          have f2 := hown2.frozen (i * 3 + 2)
          obtain ⟨d0, d1, d2⟩ := own_wr hown2 hiR
          have hs1 := hown2.set_ (j := i) (i := 0) (o := i * 3) HROW.out (by omega) rfl (.int .i64 r.sys)
          have hs2 := hs1.set_ (j := i) (i := 1) (o := i * 3 + 1) (r := (wrC R[i]).set 0 (.int .i64 r.sys)) (by rw [List.getElem?_set_self (by rw [List.length_map]; exact hiR)]) (by omega) rfl (.int .i64 (r.sec : Int))
          have hs3 := hs2.set_ (j := i) (i := 2) (o := i * 3 + 2) (r := ((wrC R[i]).set 0 (.int .i64 r.sys)).set 1 (.int .i64 (r.sec : Int))) (by rw [List.getElem?_set_self (by rw [List.length_set, List.length_map]; exact hiR)]) (by omega) rfl (.string r.data)
          rw [HSETP.out r] at hs3
          have HS2 := Lib.hid hs3
          have HTS := Lib.hid (take_set_snoc R i hiR r)
          clear hs1 hs2 hs3
          have hg2 : g < w2.heap.size := by omega
          generalize R[i] = r0 at *
          go_wp2_with fail
          go_roundg (n - (j + 1))
          case measure => rw [HGK.out]; omega
          case rel =>
            refine ⟨i + 1, j + 1, R.set i r, by omega, by omega, by omega, by go_num, by go_num, by rw [List.length_set]; exact HRL.out, by rw [HTS.out, HT1.out, HRT.out], by rw [List.drop_set_of_lt (by omega)]; exact HDN.out, HS2.out, hKP _ _ HI2.out ((((Turned.refl (fun k => k = g) w2).setCell (p := ⟨g, i * 3, none⟩) (fun _ => rfl) _).setCell (p := ⟨g, i * 3 + 1, none⟩) (fun _ => rfl) _).setCell (p := ⟨g, i * 3 + 2, none⟩) (fun _ => rfl) _), (((ht2'.setCell (p := ⟨g, i * 3, none⟩) (fun _ => rfl) _).setCell (p := ⟨g, i * 3 + 1, none⟩) (fun _ => rfl) _).setCell (p := ⟨g, i * 3 + 2, none⟩) (fun _ => rfl) _)⟩
        · have HT1 := HTT hq
          have HQ := Lib.hid hq
          clear hq HTT HTF
          go_wp2_with fail
          go_roundg (n - (j + 1))
          case measure => rw [HGK.out]; omega
          case rel => exact ⟨i, j + 1, R, by omega, by omega, by omega, rfl, by go_num, HRL.out, by rw [HT1.out, HRT.out], HDN.out, hown2, HI2.out, ht2'⟩
      · obtain rfl : j = n := by omega
        have hci : ¬ cap = i := by omega
        have hzc := zero_wr
        have HTE := Lib.hid (show R.take i = L.filter (fun x => !p x) from by rw [HRT.out, HN.out, List.take_length])
        have HTL := Lib.hid (show (L.filter (fun x => !p x)).length = i from by rw [← HTE.out, List.length_take, HRL.out]; omega)
        go_wp2_with (refine wpList_clear_own rfl (.tmp 38) 65 rfl 0 77 3 _ Try.underlying65 zero_wr rfl wr_one (by decide) g j cap i (R.map wrC) hownr hij _ _ rfl rfl ?_; intro w3 hown3 ht3)
        go_ret
        rw [HTL.out]
        refine ⟨rfl, ?_, htr.trans ht3⟩
        rw [← List.map_take, HTE.out] at hown3
        exact hown3
  · have HFE := Lib.hid (show L.filter (fun x => !p x) = L from List.filter_eq_self.2 fun x hx => by
      obtain ⟨j, hj, rfl⟩ := List.mem_iff_getElem.1 hx
      rw [hall j hj]; rfl)
    have hown1 := hown.grew hg1
    have ht1 := hg1.turned (fun k => k = g)
    clear hg1
    go_wp2_with fail
    go_ret
    rw [HFE.out, ← HN.out]
    exact ⟨rfl, hown1, ht1⟩
end
set_option maxRecDepth 100000 in
set_option maxHeartbeats 1000000 in
theorem deleteNil_all  (w : World) : Calls Try.prog 57 #[.slice none 0 0, .func (.func 55) #[] #[]] w fun e w' => e = .returned (.slice none 0 0) ∧ w = w' := by
  have hI : Calls Try.prog 63 #[.slice none 0 0, .func (.func 55) #[] #[]] w fun e w' => e = .returned (.int .i64 (-1)) ∧ w = w' := by
    go_enter Try.func63, Try.ntmps63
    go_wp2_with fail
    go_loopg [8] 0 (fun gk i wr => gk = 0 ∧ i = .int .i64 0 ∧ w = wr)
    case atStart => exact ⟨rfl, rfl, rfl⟩
    case round =>
      obtain ⟨_, rfl, rfl⟩ := hrel
      go_wp2_with fail
      go_ret
      exact ⟨rfl, rfl⟩
  have HI := Lib.hid hI
  clear hI
  go_enter Try.func57, Try.ntmps57
  go_wp2_with fail
  refine HI.out.mono ?_
  rintro e w1 ⟨rfl, rfl⟩
  go_wp2_with fail
  go_ret
  exact ⟨rfl, rfl⟩
end Go.Proofs.Ytklojcgbokmkhaa
