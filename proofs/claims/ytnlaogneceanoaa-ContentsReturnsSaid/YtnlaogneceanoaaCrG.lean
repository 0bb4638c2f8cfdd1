/- Chapter 8: searches among the labels of a table. Chapter 8: copies of tables. A map of the call's own, as a function of its keys. 'append(v, x...)' at a step of a region that draws its order; parts of a list. -/
import Derived.Maps.Own
import Derived.Maps.OwnSet
import Derived.Maps.RangeWalk
import Derived.Test.YtnlaogneceanoaaCrA
import Derived.Test.YtnlaogneceanoaaCrC
import Derived.Test.YtnlaogneceanoaaCrF
namespace Go.Proofs.Ytnlaogneceanoaa
set_option linter.unusedVariables false
set_option linter.unusedSimpArgs false
set_option linter.unusedSectionVars false
open Go.RowKit
theorem neq_beq (a b : Int) (h : (a == b) = true) : (a != b) = false := by simp [bne, h]
theorem neq_bne (a b : Int) (h : (a == b) = false) : (a != b) = true := by simp [bne, h]
set_option maxRecDepth 100000 in
set_option maxHeartbeats 1000000 in
theorem empty_any (B : Option Addr) (d : Nat) (l : Lab) (w : World) (h : LabAt w B d l) (hl : l.ext.length ≤ 1000) :
    Calls Try.prog 42 #[.agg #[.int .i64 l.id, .int .i64 l.unit, .string l.name, .string l.note, .slice B l.ext.length d]] w fun e w' => e = .returned (.bool (emL l)) ∧ Grew w w' := by
  have g0 := (Grew.refl w).alloc (.cells #[.int .i64 l.id, .int .i64 l.unit, .string l.name, .string l.note, .slice B l.ext.length d] 24)
  have HC := Lib.hid (equalZ_any B d l _ (h.hold g0) (by omega))
  have HG := Lib.hid g0
  have HE := Lib.hid (show emL l = eqL l labZ from rfl)
  clear h g0
  go_enter Try.func42, Try.ntmps42
  go_wp2_with fail
  refine HC.out.mono ?_
  rintro e w1 ⟨rfl, g1⟩
  go_wp2_with fail
  go_ret
  exact ⟨ret_bool (by rw [HE.out]), HG.out.trans g1⟩
set_option maxRecDepth 100000 in
set_option maxHeartbeats 1000000 in
theorem index1_any (B : Option Addr) (d : Nat) (l : Lab) (id unit : Int) (g : Nat) (w : World) (hb : Blk w g 37 #[.int .i64 id, .int .i64 unit]) :
    Calls Try.prog 70 #[.agg #[.int .i64 l.id, .int .i64 l.unit, .string l.name, .string l.note, .slice B l.ext.length d], .pointer (some ⟨g, 0, none⟩)] w fun e w' => e = .returned (.bool (hitL id unit l)) ∧ Grew w w' := by
  have x0 := hb.cell 0
  have x1 := hb.cell 1
  have hl := hb.lt
  obtain ⟨i, u, nm, nt, ex⟩ := l
  simp only
  have HE := Lib.hid (show hitL id unit ⟨i, u, nm, nt, ex⟩ = (!(id == 0) && (i == id) && (u == unit)) from rfl)
  clear hb
  cases b1 : (id == 0) with
  | true =>
    have HB := Lib.hid b1
    have c1 := neq_beq _ _ b1
    clear b1
    go_enter Try.func70, Try.ntmps70
    go_wp2_with fail
    go_ret
    exact ⟨ret_bool (by rw [HE.out, HB.out]; rfl), by (repeat' first | (with_reducible exact Grew.refl _) | (with_reducible assumption) | (with_reducible refine Grew.alloc ?_ _) | (with_reducible refine Grew.drew ?_) | (with_reducible refine Grew.drewN ?_ _) | (with_reducible refine Grew.setRow ?_ (by first | (simp; done) | (simp; omega) | omega) _) | (with_reducible refine Grew.setCell ?_ (by first | (simp; done) | (simp; omega) | omega) _) | ((with_reducible apply Grew.trans); rotate_left; (with_reducible assumption)) | ((with_reducible apply Grew.turn); rotate_left; (with_reducible assumption); (focus (intro i hi; first | omega | (simp at hi; omega)))) | fail)⟩
  | false =>
    have HB1 := Lib.hid b1
    have c1 := neq_bne _ _ b1
    clear b1
    cases b2 : (i == id) with
    | false =>
      have HB := Lib.hid b2
      go_enter Try.func70, Try.ntmps70
      go_wp2_with fail
      go_ret
      exact ⟨ret_bool (by rw [HE.out, HB1.out, HB.out]; rfl), by (repeat' first | (with_reducible exact Grew.refl _) | (with_reducible assumption) | (with_reducible refine Grew.alloc ?_ _) | (with_reducible refine Grew.drew ?_) | (with_reducible refine Grew.drewN ?_ _) | (with_reducible refine Grew.setRow ?_ (by first | (simp; done) | (simp; omega) | omega) _) | (with_reducible refine Grew.setCell ?_ (by first | (simp; done) | (simp; omega) | omega) _) | ((with_reducible apply Grew.trans); rotate_left; (with_reducible assumption)) | ((with_reducible apply Grew.turn); rotate_left; (with_reducible assumption); (focus (intro i hi; first | omega | (simp at hi; omega)))) | fail)⟩
    | true =>
      have HB2 := Lib.hid b2
      cases b3 : (u == unit) with
      | false =>
        have HB := Lib.hid b3
        go_enter Try.func70, Try.ntmps70
        go_wp2_with fail
        go_ret
        exact ⟨ret_bool (by rw [HE.out, HB1.out, HB2.out, HB.out]; rfl), by (repeat' first | (with_reducible exact Grew.refl _) | (with_reducible assumption) | (with_reducible refine Grew.alloc ?_ _) | (with_reducible refine Grew.drew ?_) | (with_reducible refine Grew.drewN ?_ _) | (with_reducible refine Grew.setRow ?_ (by first | (simp; done) | (simp; omega) | omega) _) | (with_reducible refine Grew.setCell ?_ (by first | (simp; done) | (simp; omega) | omega) _) | ((with_reducible apply Grew.trans); rotate_left; (with_reducible assumption)) | ((with_reducible apply Grew.turn); rotate_left; (with_reducible assumption); (focus (intro i hi; first | omega | (simp at hi; omega)))) | fail)⟩
      | true =>
        have HB := Lib.hid b3
        go_enter Try.func70, Try.ntmps70
        go_wp2_with fail
        go_ret
        exact ⟨ret_bool (by rw [HE.out, HB1.out, HB2.out, HB.out]; rfl), by (repeat' first | (with_reducible exact Grew.refl _) | (with_reducible assumption) | (with_reducible refine Grew.alloc ?_ _) | (with_reducible refine Grew.drew ?_) | (with_reducible refine Grew.drewN ?_ _) | (with_reducible refine Grew.setRow ?_ (by first | (simp; done) | (simp; omega) | omega) _) | (with_reducible refine Grew.setCell ?_ (by first | (simp; done) | (simp; omega) | omega) _) | ((with_reducible apply Grew.trans); rotate_left; (with_reducible assumption)) | ((with_reducible apply Grew.turn); rotate_left; (with_reducible assumption); (focus (intro i hi; first | omega | (simp at hi; omega)))) | fail)⟩
set_option maxRecDepth 100000 in
set_option maxHeartbeats 1000000 in
theorem create1_any (B : Option Addr) (d : Nat) (l : Lab) (id unit : Int) (g : Nat) (w : World) (hb : Blk w g 37 #[.int .i64 id, .int .i64 unit]) :
    Calls Try.prog 64 #[.agg #[.int .i64 l.id, .int .i64 l.unit, .string l.name, .string l.note, .slice B l.ext.length d], .pointer (some ⟨g, 0, none⟩)] w fun e w' => e = .returned (.bool (tentL id l)) ∧ Grew w w' := by
  have x0 := hb.cell 0
  have hl := hb.lt
  obtain ⟨i, u, nm, nt, ex⟩ := l
  simp only
  have HE := Lib.hid (show tentL id ⟨i, u, nm, nt, ex⟩ = ((i == id) && decide (0 < u)) from rfl)
  clear hb
  cases b1 : (i == id) with
  | false =>
    have HB := Lib.hid b1
    go_enter Try.func64, Try.ntmps64
    go_wp2_with fail
    go_ret
    exact ⟨ret_bool (by rw [HE.out, HB.out]; rfl), by (repeat' first | (with_reducible exact Grew.refl _) | (with_reducible assumption) | (with_reducible refine Grew.alloc ?_ _) | (with_reducible refine Grew.drew ?_) | (with_reducible refine Grew.drewN ?_ _) | (with_reducible refine Grew.setRow ?_ (by first | (simp; done) | (simp; omega) | omega) _) | (with_reducible refine Grew.setCell ?_ (by first | (simp; done) | (simp; omega) | omega) _) | ((with_reducible apply Grew.trans); rotate_left; (with_reducible assumption)) | ((with_reducible apply Grew.turn); rotate_left; (with_reducible assumption); (focus (intro i hi; first | omega | (simp at hi; omega)))) | fail)⟩
  | true =>
    have HB1 := Lib.hid b1
    by_cases b2 : 0 < u
    · have HB := Lib.hid (decide_eq_true b2)
      go_enter Try.func64, Try.ntmps64
      go_wp2_with fail
      go_ret
      exact ⟨ret_bool (by rw [HE.out, HB1.out, HB.out]; rfl), by (repeat' first | (with_reducible exact Grew.refl _) | (with_reducible assumption) | (with_reducible refine Grew.alloc ?_ _) | (with_reducible refine Grew.drew ?_) | (with_reducible refine Grew.drewN ?_ _) | (with_reducible refine Grew.setRow ?_ (by first | (simp; done) | (simp; omega) | omega) _) | (with_reducible refine Grew.setCell ?_ (by first | (simp; done) | (simp; omega) | omega) _) | ((with_reducible apply Grew.trans); rotate_left; (with_reducible assumption)) | ((with_reducible apply Grew.turn); rotate_left; (with_reducible assumption); (focus (intro i hi; first | omega | (simp at hi; omega)))) | fail)⟩
    · have HB := Lib.hid (decide_eq_false b2)
      go_enter Try.func64, Try.ntmps64
      go_wp2_with fail
      go_ret
      exact ⟨ret_bool (by rw [HE.out, HB1.out, HB.out]; rfl), by (repeat' first | (with_reducible exact Grew.refl _) | (with_reducible assumption) | (with_reducible refine Grew.alloc ?_ _) | (with_reducible refine Grew.drew ?_) | (with_reducible refine Grew.drewN ?_ _) | (with_reducible refine Grew.setRow ?_ (by first | (simp; done) | (simp; omega) | omega) _) | (with_reducible refine Grew.setCell ?_ (by first | (simp; done) | (simp; omega) | omega) _) | ((with_reducible apply Grew.trans); rotate_left; (with_reducible assumption)) | ((with_reducible apply Grew.turn); rotate_left; (with_reducible assumption); (focus (intro i hi; first | omega | (simp at hi; omega)))) | fail)⟩
section
variable (A : Option Addr) (c : Nat) (xs : List LabE) (T : Tab) (g : Nat) (id unit : Int) (w : World)
set_option maxRecDepth 100000 in
set_option maxHeartbeats 2000000 in
theorem find_index (h : TabAt w A c xs T) (hs : SmallT T) (hb : Blk w g 37 #[.int .i64 id, .int .i64 unit]) (n : Nat) (hn : n = T.labels.length) :
    Calls Try.prog 65 #[.slice A n c, .func (.func 70) #[] #[.pointer (some ⟨g, 0, none⟩)]] w fun e w' => e = .returned (.int .i64 (idxP (hitL id unit) T.labels)) ∧ Grew w w' := by
  subst hn
  have HT := Lib.hid h
  have HS := Lib.hid hs
  have HBB := Lib.hid hb
  have hlen := hs.len
  obtain ⟨q, hq⟩ : ∃ q, hitL id unit = q := ⟨_, rfl⟩
  have HQ := Lib.hid hq
  rw [hq]
  clear h hs hb hq
  go_enter Try.func65, Try.ntmps65
  go_wp2_with fail
  go_loopg [8] T.labels.length (fun gk i wr => ∃ k : Nat, k ≤ T.labels.length ∧ gk = T.labels.length - k ∧ i = .int .i64 k ∧ (∀ j (hj : j < T.labels.length), j < k → q T.labels[j] = false) ∧ Grew w wr)
  case atStart => exact ⟨0, by omega, by omega, rfl, fun j _ h => by omega, Grew.refl _⟩
  case round =>
    obtain ⟨k, hk, hgk, rfl, hall, hg⟩ := hrel
    have HGK := Lib.hid hgk
    have HA := Lib.hid hall
    have HG := Lib.hid hg
    clear hgk hall
    by_cases hlt : k < T.labels.length
    · obtain ⟨b, off, B, d, l, rfl, hbl, hxk, hv, hla, c0, c1, c2, c3, c4⟩ := (HT.out.hold hg).at_ hlt
      have hle := HS.out.ext T.labels[k] (List.getElem_mem hlt)
      rw [hv] at hle
      have hb := HBB.out
      have HC := Lib.hid (index1_any B d l id unit g wr (hb.hold hg))
      have HV := Lib.hid hv
      clear hv hxk hb hla
      rw [HQ.out] at HC
      go_wp2_with fail
      refine HC.out.mono ?_
      rintro e w3 ⟨rfl, g3⟩
      cases hbd : q l with
      | true =>
        have HI := Lib.hid (idxP_hit q T.labels k hlt (by rw [HV.out]; exact hbd) HA.out)
        clear hbd
        go_wp2_with fail
        go_ret
        exact ⟨ret_int (by rw [HI.out]), HG.out.trans g3⟩
      | false =>
        have HN := Lib.hid (show ∀ j (hj : j < T.labels.length), j < k + 1 → q T.labels[j] = false from fun j hj hjk => by
          by_cases hjk' : j = k
          · subst hjk'; rw [HV.out]; exact hbd
          · exact HA.out j hj (by omega))
        clear hbd
        go_wp2_with fail
        go_roundg (T.labels.length - (k + 1))
        case measure => rw [HGK.out]; omega
        case rel => exact ⟨k + 1, by omega, by omega, by go_num, HN.out, HG.out.trans g3⟩
    · have HN := Lib.hid (idxP_none q T.labels (fun j hj => HA.out j hj (by omega)))
      go_wp2_with fail
      go_ret
      exact ⟨ret_int (by rw [HN.out]), HG.out⟩
set_option maxRecDepth 100000 in
set_option maxHeartbeats 2000000 in
theorem find_tent (h : TabAt w A c xs T) (hs : SmallT T) (hb : Blk w g 37 #[.int .i64 id, .int .i64 unit]) (n : Nat) (hn : n = T.labels.length) :
    Calls Try.prog 65 #[.slice A n c, .func (.func 64) #[] #[.pointer (some ⟨g, 0, none⟩)]] w fun e w' => e = .returned (.int .i64 (idxP (tentL id) T.labels)) ∧ Grew w w' := by
  subst hn
  have HT := Lib.hid h
  have HS := Lib.hid hs
  have HBB := Lib.hid hb
  have hlen := hs.len
  obtain ⟨q, hq⟩ : ∃ q, tentL id = q := ⟨_, rfl⟩
  have HQ := Lib.hid hq
  rw [hq]
  clear h hs hb hq
  go_enter Try.func65, Try.ntmps65
  go_wp2_with fail
  go_loopg [8] T.labels.length (fun gk i wr => ∃ k : Nat, k ≤ T.labels.length ∧ gk = T.labels.length - k ∧ i = .int .i64 k ∧ (∀ j (hj : j < T.labels.length), j < k → q T.labels[j] = false) ∧ Grew w wr)
  case atStart => exact ⟨0, by omega, by omega, rfl, fun j _ h => by omega, Grew.refl _⟩
  case round =>
    obtain ⟨k, hk, hgk, rfl, hall, hg⟩ := hrel
    have HGK := Lib.hid hgk
    have HA := Lib.hid hall
    have HG := Lib.hid hg
    clear hgk hall
    by_cases hlt : k < T.labels.length
    · obtain ⟨b, off, B, d, l, rfl, hbl, hxk, hv, hla, c0, c1, c2, c3, c4⟩ := (HT.out.hold hg).at_ hlt
      have hle := HS.out.ext T.labels[k] (List.getElem_mem hlt)
      rw [hv] at hle
      have hb := HBB.out
      have HC := Lib.hid (create1_any B d l id unit g wr (hb.hold hg))
      have HV := Lib.hid hv
      clear hv hxk hb hla
      rw [HQ.out] at HC
      go_wp2_with fail
      refine HC.out.mono ?_
      rintro e w3 ⟨rfl, g3⟩
      cases hbd : q l with
      | true =>
        have HI := Lib.hid (idxP_hit q T.labels k hlt (by rw [HV.out]; exact hbd) HA.out)
        clear hbd
        go_wp2_with fail
        go_ret
        exact ⟨ret_int (by rw [HI.out]), HG.out.trans g3⟩
      | false =>
        have HN := Lib.hid (show ∀ j (hj : j < T.labels.length), j < k + 1 → q T.labels[j] = false from fun j hj hjk => by
          by_cases hjk' : j = k
          · subst hjk'; rw [HV.out]; exact hbd
          · exact HA.out j hj (by omega))
        clear hbd
        go_wp2_with fail
        go_roundg (T.labels.length - (k + 1))
        case measure => rw [HGK.out]; omega
        case rel => exact ⟨k + 1, by omega, by omega, by go_num, HN.out, HG.out.trans g3⟩
    · have HN := Lib.hid (idxP_none q T.labels (fun j hj => HA.out j hj (by omega)))
      go_wp2_with fail
      go_ret
      exact ⟨ret_int (by rw [HN.out]), HG.out⟩
set_option maxRecDepth 100000 in
set_option maxHeartbeats 2000000 in
theorem find_empty (h : TabAt w A c xs T) (hs : SmallT T) (hb : Blk w g 37 #[.int .i64 id, .int .i64 unit]) (n : Nat) (hn : n = T.labels.length) :
    Calls Try.prog 65 #[.slice A n c, .func (.func 42) #[] #[]] w fun e w' => e = .returned (.int .i64 (idxP (emL) T.labels)) ∧ Grew w w' := by
  subst hn
  have HT := Lib.hid h
  have HS := Lib.hid hs
  have HBB := Lib.hid hb
  have hlen := hs.len
  obtain ⟨q, hq⟩ : ∃ q, emL = q := ⟨_, rfl⟩
  have HQ := Lib.hid hq
  rw [hq]
  clear h hs hb hq
  go_enter Try.func65, Try.ntmps65
  go_wp2_with fail
  go_loopg [8] T.labels.length (fun gk i wr => ∃ k : Nat, k ≤ T.labels.length ∧ gk = T.labels.length - k ∧ i = .int .i64 k ∧ (∀ j (hj : j < T.labels.length), j < k → q T.labels[j] = false) ∧ Grew w wr)
  case atStart => exact ⟨0, by omega, by omega, rfl, fun j _ h => by omega, Grew.refl _⟩
  case round =>
    obtain ⟨k, hk, hgk, rfl, hall, hg⟩ := hrel
    have HGK := Lib.hid hgk
    have HA := Lib.hid hall
    have HG := Lib.hid hg
    clear hgk hall
    by_cases hlt : k < T.labels.length
    · obtain ⟨b, off, B, d, l, rfl, hbl, hxk, hv, hla, c0, c1, c2, c3, c4⟩ := (HT.out.hold hg).at_ hlt
      have hle := HS.out.ext T.labels[k] (List.getElem_mem hlt)
      rw [hv] at hle
      have hb := HBB.out
      have HC := Lib.hid (empty_any B d l wr hla hle)
      have HV := Lib.hid hv
      clear hv hxk hb hla
      rw [HQ.out] at HC
      go_wp2_with fail
      refine HC.out.mono ?_
      rintro e w3 ⟨rfl, g3⟩
      cases hbd : q l with
      | true =>
        have HI := Lib.hid (idxP_hit q T.labels k hlt (by rw [HV.out]; exact hbd) HA.out)
        clear hbd
        go_wp2_with fail
        go_ret
        exact ⟨ret_int (by rw [HI.out]), HG.out.trans g3⟩
      | false =>
        have HN := Lib.hid (show ∀ j (hj : j < T.labels.length), j < k + 1 → q T.labels[j] = false from fun j hj hjk => by
          by_cases hjk' : j = k
          · subst hjk'; rw [HV.out]; exact hbd
          · exact HA.out j hj (by omega))
        clear hbd
        go_wp2_with fail
        go_roundg (T.labels.length - (k + 1))
        case measure => rw [HGK.out]; omega
        case rel => exact ⟨k + 1, by omega, by omega, by go_num, HN.out, HG.out.trans g3⟩
    · have HN := Lib.hid (idxP_none q T.labels (fun j hj => HA.out j hj (by omega)))
      go_wp2_with fail
      go_ret
      exact ⟨ret_int (by rw [HN.out]), HG.out⟩
set_option maxRecDepth 100000 in
theorem hasTent_any (h : TabAt w A c xs T) (hs : SmallT T) (hb : Blk w g 37 #[.int .i64 id, .int .i64 unit]) (n : Nat) (hn : n = T.labels.length) :
    Calls Try.prog 63 #[.slice A n c, .func (.func 64) #[] #[.pointer (some ⟨g, 0, none⟩)]] w fun e w' => e = .returned (.bool (T.labels.any (tentL id))) ∧ Grew w w' := by
  subst hn
  have HC := Lib.hid (find_tent A c xs T g id unit w h hs hb _ rfl)
  have HE := Lib.hid (idxP_any (tentL id) T.labels)
  generalize idxP (tentL id) T.labels = i at *
  clear h hs hb
  go_enter Try.func63, Try.ntmps63
  go_wp2_with fail
  refine HC.out.mono ?_
  rintro e w1 ⟨rfl, g1⟩
  go_wp2_with fail
  go_ret
  exact ⟨ret_bool (by rw [← HE.out]), g1⟩
set_option maxRecDepth 100000 in
theorem cindex_any (h : TabAt w A c xs T) (hs : SmallT T) (n : Nat) (hn : n = T.labels.length) (k : Int) (hk : idxT T id unit = k) :
    Calls Try.prog 35 #[.agg #[.string T.name, .int .i64 T.tracks, .slice A n c], .agg #[.int .i64 id, .int .i64 unit]] w fun e w' => e = .returned (.int .i64 k) ∧ Grew w w' := by
  subst hk; subst hn
  have g0 := ((Grew.refl w).alloc (.cells #[.string T.name, .int .i64 T.tracks, .slice A T.labels.length c] 34)).alloc (.cells #[.int .i64 id, .int .i64 unit] 37)
  have hbr := Blk.new (w.alloc (.cells #[.string T.name, .int .i64 T.tracks, .slice A T.labels.length c] 34)) 37 #[.int .i64 id, .int .i64 unit] (n := w.heap.size + 1) (by simp)
  have HC := Lib.hid (find_index A c xs T (w.heap.size + 1) id unit _ (h.hold g0) hs hbr _ rfl)
  have HG := Lib.hid g0
  have HI := Lib.hid (show idxT T id unit = idxP (hitL id unit) T.labels from rfl)
  clear h g0 hs hbr
  go_enter Try.func35, Try.ntmps35
  go_wp2_with fail
  refine HC.out.mono ?_
  rintro e w1 ⟨rfl, g1⟩
  go_wp2_with fail
  go_ret
  exact ⟨ret_int (by rw [HI.out]), HG.out.trans g1⟩
end
end Go.Proofs.Ytnlaogneceanoaa
namespace Go.Proofs.Ytnlaogneceanoaa
set_option linter.unusedVariables false
set_option linter.unusedSimpArgs false
set_option linter.unusedSectionVars false
open Go.RowKit
attribute [local go_sem ↓] Go.wp_at_zero Go.wp_at_succ
theorem info_lab : (Try.prog.info? 24).map (fun i => (i.zero, i.size, i.bytes)) = some (some (.agg #[.int .i64 0, .int .i64 0, .string ⟨#[]⟩, .string ⟨#[]⟩, .slice none 0 0]), 5, 72) := by kernel_rfl
set_option maxRecDepth 100000 in
set_option maxHeartbeats 2000000 in
theorem clone_runs (A : Option Addr) (c n : Nat) (l : List (Int × Int)) (w : World) (hn : n = l.length) (hl : l.length ≤ 1000000) (hr : ListAt w w.heap.size 2 A (l.map runC)) :
    Calls Try.prog 36 #[.slice A n c] w fun e w' => ∃ v, e = .returned v ∧ OwnL w' w.heap.size 58 2 v (l.map runC) ∧ Grew w w' := by
  subst hn
  cases A with
  | none =>
    have h0 : l = [] := by
      rcases Nat.eq_zero_or_pos l.length with h0 | h0
      · exact List.length_eq_zero_iff.1 h0
      · obtain ⟨b, off, e, _⟩ := hr (by rw [List.length_map]; exact h0)
        cases e
    subst h0
    have hnil := fun (W : World) => Lib.run_eql_slice_nil (P := Try.prog) W 22 58 none 0 c 0 0 Try.underlying22
    go_enter Try.func36, Try.ntmps36
    go_wp2
    go_ret
    exact ⟨_, rfl, OwnL.nil _ _ _ _, by (repeat' first | (with_reducible exact Grew.refl _) | (with_reducible assumption) | (with_reducible refine Grew.alloc ?_ _) | (with_reducible refine Grew.drew ?_) | (with_reducible refine Grew.drewN ?_ _) | (with_reducible refine Grew.setRow ?_ (by first | (simp; done) | (simp; omega) | omega) _) | (with_reducible refine Grew.setCell ?_ (by first | (simp; done) | (simp; omega) | omega) _) | ((with_reducible apply Grew.trans); rotate_left; (with_reducible assumption)) | ((with_reducible apply Grew.turn); rotate_left; (with_reducible assumption); (focus (intro i hi; first | omega | (simp at hi; omega)))) | fail)⟩
  | some ad =>
    have hnil := fun (W : World) => Lib.run_eql_slice_nil (P := Try.prog) W 22 58 (some ad) l.length c 0 0 Try.underlying22
    have hra := ListAt.mono (B' := w.heap.size + 1) (hr.keep (Nat.le_refl _) ((Grew.refl w).alloc (.cells #[] 58))) (by omega)
    go_enter Try.func36, Try.ntmps36
    go_wp2_with (at_builtin; refine wpList_pushAll (by rfl) _ _ 22 rfl w.heap.size 58 2 16 _ Try.underlying22 info_run rfl (by decide) _ [] (l.map runC) (by rfl) (OwnL.empty w _ _ _ (Nat.le_refl _) rfl) _ l.length _ (by rfl) (by simp) (by intro r hr; obtain ⟨x, _, rfl⟩ := List.mem_map.1 hr; rfl) (by simpa using hra) (by intro r hr; obtain ⟨x, _, rfl⟩ := List.mem_map.1 hr; rfl) (by simp; omega) (by simp; omega) (by simp) ?_; intro v1 w3 hown1 hgr1 hat1)
    go_ret
    exact ⟨v1, rfl, hown1, Grew.own ((Grew.refl w).alloc _) hgr1 (by simp [Value.ownBlock]) (Nat.le_refl _)⟩
set_option maxRecDepth 100000 in
set_option maxHeartbeats 2000000 in
theorem clone_labs (A : Option Addr) (c n : Nat) (l : List (LabE)) (w : World) (hn : n = l.length) (hl : l.length ≤ 1000000) (hr : ListAt w w.heap.size 5 A (l.map labC)) :
    Calls Try.prog 102 #[.slice A n c] w fun e w' => ∃ v, e = .returned v ∧ OwnL w' w.heap.size 24 5 v (l.map labC) ∧ Grew w w' := by
  subst hn
  cases A with
  | none =>
    have h0 : l = [] := by
      rcases Nat.eq_zero_or_pos l.length with h0 | h0
      · exact List.length_eq_zero_iff.1 h0
      · obtain ⟨b, off, e, _⟩ := hr (by rw [List.length_map]; exact h0)
        cases e
    subst h0
    have hnil := fun (W : World) => Lib.run_eql_slice_nil (P := Try.prog) W 32 24 none 0 c 0 0 Try.underlying32
    go_enter Try.func102, Try.ntmps102
    go_wp2
    go_ret
    exact ⟨_, rfl, OwnL.nil _ _ _ _, by (repeat' first | (with_reducible exact Grew.refl _) | (with_reducible assumption) | (with_reducible refine Grew.alloc ?_ _) | (with_reducible refine Grew.drew ?_) | (with_reducible refine Grew.drewN ?_ _) | (with_reducible refine Grew.setRow ?_ (by first | (simp; done) | (simp; omega) | omega) _) | (with_reducible refine Grew.setCell ?_ (by first | (simp; done) | (simp; omega) | omega) _) | ((with_reducible apply Grew.trans); rotate_left; (with_reducible assumption)) | ((with_reducible apply Grew.turn); rotate_left; (with_reducible assumption); (focus (intro i hi; first | omega | (simp at hi; omega)))) | fail)⟩
  | some ad =>
    have hnil := fun (W : World) => Lib.run_eql_slice_nil (P := Try.prog) W 32 24 (some ad) l.length c 0 0 Try.underlying32
    have hra := ListAt.mono (B' := w.heap.size + 1) (hr.keep (Nat.le_refl _) ((Grew.refl w).alloc (.cells #[] 24))) (by omega)
    go_enter Try.func102, Try.ntmps102
    go_wp2_with (at_builtin; refine wpList_pushAll (by rfl) _ _ 32 rfl w.heap.size 24 5 72 _ Try.underlying32 info_lab rfl (by decide) _ [] (l.map labC) (by rfl) (OwnL.empty w _ _ _ (Nat.le_refl _) rfl) _ l.length _ (by rfl) (by simp) (by intro r hr; obtain ⟨x, _, rfl⟩ := List.mem_map.1 hr; rfl) (by simpa using hra) (by intro r hr; obtain ⟨x, _, rfl⟩ := List.mem_map.1 hr; rfl) (by simp; omega) (by simp; omega) (by simp) ?_; intro v1 w3 hown1 hgr1 hat1)
    go_ret
    exact ⟨v1, rfl, hown1, Grew.own ((Grew.refl w).alloc _) hgr1 (by simp [Value.ownBlock]) (Nat.le_refl _)⟩
/-- A table whose labels' slice is the call's own. -/
structure TabO (w : World) (base : Nat) (v : Value) (ys : List LabE) (ls : List Lab) : Prop where
  own : OwnL w base 24 5 v (ys.map labC)
  lab : ∀ y ∈ ys, LabAt w y.A y.c y.l
  far : ∀ y ∈ ys, 0 < y.l.ext.length → ∀ b off, y.A = some ⟨b, off, none⟩ → v.ownBlock ≠ some b
  eq : ys.map (·.l) = ls
theorem TabO.hold {w w' : World} {base : Nat} {v : Value} {ys : List LabE} {ls : List Lab} (h : TabO w base v ys ls) (hg : Grew w w') : TabO w' base v ys ls :=
  ⟨h.own.grew hg, fun y hy => (h.lab y hy).hold hg, h.far, h.eq⟩
theorem TabO.lower {w : World} {b b' : Nat} {v : Value} {ys : List LabE} {ls : List Lab} (h : TabO w b v ys ls) (hb : b' ≤ b) : TabO w b' v ys ls := by
  refine ⟨⟨h.own.1, h.own.2.1, ?_⟩, h.lab, h.far, h.eq⟩
  rcases h.own.2.2 with h0 | ⟨g, cap, cur, h1, h2, h3⟩
  · exact .inl h0
  · exact .inr ⟨g, cap, cur, h1, Nat.le_trans hb h2, h3⟩
theorem TabO.len {w : World} {base : Nat} {v : Value} {ys : List LabE} {ls : List Lab} (h : TabO w base v ys ls) : ys.length = ls.length := by rw [← h.eq, List.length_map]
theorem TabO.form {w : World} {base : Nat} {v : Value} {ys : List LabE} {ls : List Lab} (h : TabO w base v ys ls) :
    ∃ A c, v = .slice A ls.length c ∧ ∀ (nm : ByteArray) (t : Int), nm.size ≤ 9223372036854775807 → -9223372036854775808 ≤ t → t ≤ 9223372036854775807 → TabAt w A c ys ⟨nm, t, ls⟩ := by
  obtain ⟨A, c, hv, h1, h2, h3⟩ := h.own.listAt
  rw [List.length_map] at hv h1
  rw [h.len] at hv
  exact ⟨A, c, hv, fun nm t hn ht0 ht1 => ⟨h.lab, h3, h1, h2, h.eq, ht0, ht1, hn⟩⟩
theorem LabAt.turned {S : Nat → Prop} {w w' : World} {A : Option Addr} {c : Nat} {l : Lab} (h : LabAt w A c l) (ht : Turned S w w') (hS : 0 < l.ext.length → ∀ b off, A = some ⟨b, off, none⟩ → ¬ S b) : LabAt w' A c l :=
  ⟨h.id0, h.id1, h.unit0, h.unit1, h.name, h.note, ⟨h.runs.1, fun h0 => by
    obtain ⟨b, off, e, hb, hc⟩ := h.runs.2 h0
    exact ⟨b, off, e, Nat.lt_of_lt_of_le hb ht.size, fun j cs hj i v hi => by rw [ht.cellEq _ _ hb (hS (by simpa using h0) b off e)]; exact hc j cs hj i v hi⟩⟩, h.len, h.cap⟩
/-- One label of the own slice is another one now. -/
theorem TabO.set_ {w w' : World} {base g n cap : Nat} {ys : List LabE} {ls : List Lab} (h : TabO w base (.slice (some ⟨g, 0, none⟩) n cap) ys ls) (i : Nat) (y : LabE) (hi : i < ls.length)
    (hown : OwnL w' base 24 5 (.slice (some ⟨g, 0, none⟩) n cap) ((ys.map labC).set i (labC y))) (ht : Turned (fun k => k = g) w w') (hy : LabAt w' y.A y.c y.l) (hf : 0 < y.l.ext.length → ∀ b off, y.A = some ⟨b, off, none⟩ → b ≠ g) :
    TabO w' base (.slice (some ⟨g, 0, none⟩) n cap) (ys.set i y) (ls.set i y.l) := by
  have hmap : (ys.set i y).map labC = (ys.map labC).set i (labC y) := by rw [List.map_set]
  refine ⟨by rw [hmap]; exact hown, fun z hz => ?_, fun z hz hz0 b off e => ?_, by rw [List.map_set, h.eq]⟩
  · rcases List.mem_or_eq_of_mem_set hz with hz | rfl
    · exact (h.lab z hz).turned ht (fun h0 b off e hk => h.far z hz h0 b off e (by rw [hk]; rfl))
    · exact hy
  · rcases List.mem_or_eq_of_mem_set hz with hz | rfl
    · exact h.far z hz hz0 b off e
    · intro e2
      exact hf hz0 b off e (by simpa [Value.ownBlock] using e2.symm)
theorem TabO.turned {S : Nat → Prop} {w w' : World} {base : Nat} {v : Value} {ys : List LabE} {ls : List Lab} (h : TabO w base v ys ls) (ht : Turned S w w') (h1 : ∀ g, v.ownBlock = some g → ¬ S g) (h2 : ∀ y ∈ ys, 0 < y.l.ext.length → ∀ b off, y.A = some ⟨b, off, none⟩ → ¬ S b) : TabO w' base v ys ls :=
  ⟨h.own.kept ht h1, fun y hy => (h.lab y hy).turned ht (h2 y hy), h.far, h.eq⟩
theorem own_far {w : World} {base e sz g : Nat} {v : Value} {rows : List (List Value)} (h : OwnL w base e sz v rows) (hg : g < base) {A : Option Addr} {n c : Nat} (hv : v = .slice A n c) : ∀ b off, A = some ⟨b, off, none⟩ → b ≠ g := by
  intro b off e
  subst hv; subst e
  rcases h.form with ⟨h0, _⟩ | ⟨g', cap, h1, h2, _⟩
  · cases h0
  · injection h1 with h1
    injection h1 with h1
    injection h1 with h1
    omega
theorem own_runsL {w : World} {base : Nat} {v : Value} {l : List (Int × Int)} (h : OwnL w base 58 2 v (l.map runC)) (hok : ∀ r ∈ l, okRun r) : ∃ A c, v = .slice A l.length c ∧ l.length ≤ c ∧ c ≤ 9223372036854775807 ∧ RunsAt w w.heap.size A l := by
  obtain ⟨A, c, hv, h1, h2, h3⟩ := h.listAt
  rw [List.length_map] at hv h1
  exact ⟨A, c, hv, h1, h2, hok, h3⟩
set_option maxRecDepth 100000 in
set_option maxHeartbeats 4000000 in
theorem clone_tab (A : Option Addr) (c : Nat) (xs : List LabE) (T : Tab) (w : World) (h : TabAt w A c xs T) (hs : SmallT T) (n : Nat) (hn : n = T.labels.length) :
    Calls Try.prog 67 #[.agg #[.string T.name, .int .i64 T.tracks, .slice A n c]] w fun e w' => ∃ v ys, e = .returned (.agg #[.string T.name, .int .i64 T.tracks, v]) ∧ TabO w' w.heap.size v ys T.labels ∧ Grew w w' := by
  subst hn
  have hlen := hs.len
  have g0 := ((Grew.refl w).alloc (.cells #[.string T.name, .int .i64 T.tracks, .slice A T.labels.length c] 34)).alloc (.cells #[.string ⟨#[]⟩, .int .i64 0, .slice none 0 0] 34)
  have hb0 := (Blk.new w 34 #[.string T.name, .int .i64 T.tracks, .slice A T.labels.length c] rfl).alloc (.cells #[.string ⟨#[]⟩, .int .i64 0, .slice none 0 0] 34)
  have hb1 := Blk.new (w.alloc (.cells #[.string T.name, .int .i64 T.tracks, .slice A T.labels.length c] 34)) 34 #[.string ⟨#[]⟩, .int .i64 0, .slice none 0 0] (n := w.heap.size + 1) (by simp)
  have h0 := h.hold g0
  have hx := h.xlen
  have HC := Lib.hid (clone_labs A c T.labels.length xs _ hx.symm (by omega) h0.rows)
  have HT := Lib.hid h
  have HS := Lib.hid hs
  have HB0 := Lib.hid hb0
  have HB1 := Lib.hid hb1
  have HG0 := Lib.hid g0
  clear h hs h0 hb0 hb1 g0
  go_enter Try.func67, Try.ntmps67
  go_wp2_with fail
  refine HC.out.mono ?_
  rintro e w1 ⟨v, rfl, hown, g1⟩
  obtain ⟨A1, c1, hv, _, _, _⟩ := hown.listAt
  rw [List.length_map, hx] at hv
  subst hv
  have hg1 := HG0.out.trans g1
  have hzw : w.heap.size + 2 ≤ w1.heap.size := by have := g1.size; simp at this; omega
  have hown0 : OwnL w1 (w.heap.size + 2) 24 5 (.slice A1 T.labels.length c1) (xs.map labC) := by have := hown; simp only [World.alloc, Array.size_push] at this; exact this
  have hg2 : Grew w (w1.setCell ⟨w.heap.size, 2, none⟩ (.slice A1 T.labels.length c1)) := hg1.setCell (Nat.le_refl _) _
  have hown2 : OwnL (w1.setCell ⟨w.heap.size, 2, none⟩ (.slice A1 T.labels.length c1)) (w.heap.size + 2) 24 5 (.slice A1 T.labels.length c1) (xs.map labC) := hown0.far (fun hk => by have := (hown0.own_ge hk).1; simp at this; omega) _
  have hto : TabO (w1.setCell ⟨w.heap.size, 2, none⟩ (.slice A1 T.labels.length c1)) (w.heap.size + 2) (.slice A1 T.labels.length c1) xs T.labels := ⟨hown2, fun y hy => (HT.out.lab y hy).hold hg2, fun y hy h0 b off e hk => by
    have h9 := (hown0.own_ge hk).1
    obtain ⟨b', off', e', hb', _⟩ := (HT.out.lab y hy).runs.2 (by simpa using h0)
    rw [e] at e'
    injection e' with e'
    injection e' with e'
    omega, HT.out.eq⟩
  have hb := HB0.out.grew g1
  have hc := HB1.out.grew g1
  have hz := hb.lt
  have x2 := hb.cell 2
  have f2 := hb.frozen 2
  have HTO := Lib.hid hto
  have HFR := Lib.hid (show ∀ y ∈ xs, 0 < y.l.ext.length → ∀ b off, y.A = some ⟨b, off, none⟩ → b < w.heap.size ∨ w.heap.size + 2 ≤ b from fun y hy h0 b off e => by
    obtain ⟨b', off', e', hb', _⟩ := (HT.out.lab y hy).runs.2 (by simpa using h0)
    rw [e] at e'
    injection e' with e'
    injection e' with e'
    omega)
  have HG2 := Lib.hid hg2
  have HB2 := Lib.hid (hb.set_ 2 (.slice A1 T.labels.length c1))
  have HC2 := Lib.hid (hc.far (p := ⟨w.heap.size, 2, none⟩) (by simp) (.slice A1 T.labels.length c1))
  clear hown hown0 hown2 hto HC hg2 hb hc hg1
  go_wp2_with fail
  go_loopg [11] T.labels.length (fun gk i wr => ∃ (k : Nat) (ys : List LabE), k ≤ T.labels.length ∧ gk = T.labels.length - k ∧ i = .int .i64 k ∧ TabO wr (w.heap.size + 2) (.slice A1 T.labels.length c1) ys T.labels ∧ Blk wr w.heap.size 34 #[.string T.name, .int .i64 T.tracks, .slice A1 T.labels.length c1] ∧ Blk wr (w.heap.size + 1) 34 #[.string ⟨#[]⟩, .int .i64 0, .slice none 0 0] ∧ (∀ y ∈ ys, 0 < y.l.ext.length → ∀ b off, y.A = some ⟨b, off, none⟩ → b < w.heap.size ∨ w.heap.size + 2 ≤ b) ∧ Grew w wr)
  case atStart => exact ⟨0, xs, by omega, by omega, rfl, HTO.out, HB2.out, HC2.out, HFR.out, HG2.out⟩
  case round =>
    obtain ⟨k, ys, hk, hgk, rfl, hto, hb, hc, hfr, hg⟩ := hrel
    have HFR := Lib.hid hfr
    clear hfr
    have HGK := Lib.hid hgk
    clear hgk
    have hyl := hto.len
    have hzb := hb.lt
    have hzc := hc.lt
    have x2 := hb.cell 2
    by_cases hlt : k < T.labels.length
    · obtain ⟨g, cap, hv, hgb, hgs⟩ : ∃ g cap, Value.slice A1 T.labels.length c1 = .slice (some ⟨g, 0, none⟩) T.labels.length cap ∧ w.heap.size + 2 ≤ g ∧ g < wr.heap.size := by
        rcases hto.own.form with ⟨_, h0⟩ | ⟨g, cap, hv, h1, h2, _⟩
        · have := congrArg List.length h0; rw [List.length_map, hyl, List.length_nil] at this; omega
        · rw [List.length_map, hyl] at hv; exact ⟨g, cap, hv, h1, h2⟩
      injection hv with hv1 _ hv2
      subst hv1; subst hv2
      have hky : k < ys.length := by omega
      have hrow : (ys.map labC)[k]? = some (labC ys[k]) := by rw [List.getElem?_map, List.getElem?_eq_getElem hky]; rfl
      have hla := hto.lab ys[k] (List.getElem_mem hky)
      have hyg : T.labels[k] = ys[k].l := by
        have : (ys.map (·.l))[k]? = some ys[k].l := by rw [List.getElem?_map, List.getElem?_eq_getElem hky]; rfl
        rw [hto.eq, List.getElem?_eq_getElem hlt] at this
        exact Option.some.inj this
      have hle := HS.out.ext T.labels[k] (List.getElem_mem hlt)
      obtain ⟨B, d, l, hy⟩ : ∃ B d l, ys[k] = ⟨B, d, l⟩ := ⟨_, _, _, rfl⟩
      rw [hy] at hrow hla hyg
      rw [hyg] at hle
      have x4 : wr.cell? ⟨g, k * 5 + 4, none⟩ = some (.slice B l.ext.length d) := hto.own.cell hrow (i := 4) rfl
      have f4 := hto.own.frozen (k * 5 + 4)
      have HTO := Lib.hid hto
      have HB := Lib.hid hb
      have HC := Lib.hid hc
      have HG := Lib.hid hg
      have HLA := Lib.hid hla
      have HROW := Lib.hid hrow
      have HYG := Lib.hid hyg
      have hSg : ∀ w1 w2 : World, Grew w1 w2 → (w1.cell? ⟨w.heap.size, 2, none⟩ = some (.slice (some ⟨g, 0, none⟩) T.labels.length c1) ∧ w1.cell? ⟨g, k * 5 + 4, none⟩ = some (.slice B l.ext.length d) ∧ w.heap.size < w1.heap.size ∧ g < w1.heap.size) → (w2.cell? ⟨w.heap.size, 2, none⟩ = some (.slice (some ⟨g, 0, none⟩) T.labels.length c1) ∧ w2.cell? ⟨g, k * 5 + 4, none⟩ = some (.slice B l.ext.length d) ∧ w.heap.size < w2.heap.size ∧ g < w2.heap.size) := fun w1 w2 h9 ⟨a1, a2, a3, a4⟩ => by
        rw [h9.cellEq _ _ a3, h9.cellEq _ _ a4]
        exact ⟨a1, a2, Nat.lt_of_lt_of_le a3 h9.size, Nat.lt_of_lt_of_le a4 h9.size⟩
      have HSG := Lib.hid hSg
      clear hto hb hc hg hla hrow hyg hy hyl hSg
      go_wp2_with fail
      refine wp_region_R [12] (fun w' : World => w'.cell? ⟨w.heap.size, 2, none⟩ = some (.slice (some ⟨g, 0, none⟩) T.labels.length c1) ∧ w'.cell? ⟨g, k * 5 + 4, none⟩ = some (.slice B l.ext.length d) ∧ w.heap.size < w'.heap.size ∧ g < w'.heap.size) (by kernel_rfl) ?_
      have hS : (fun w' : World => w'.cell? ⟨w.heap.size, 2, none⟩ = some (.slice (some ⟨g, 0, none⟩) T.labels.length c1) ∧ w'.cell? ⟨g, k * 5 + 4, none⟩ = some (.slice B l.ext.length d) ∧ w.heap.size < w'.heap.size ∧ g < w'.heap.size) wr.drew := ⟨x2, x4, hzb, hgs⟩
      refine wpAnyR_takeQ (i := 0) (v := ?_) (some 14) rfl rfl (by kernel_rfl) (by kernel_rfl) (by kernel_rfl) (by kernel_rfl) (fun _ _ _ h => h) (Or.inl ⟨by rfl, ?_⟩) ?_
      rotate_left
      focus (intro wS hSw; (try dsimp only at hSw); go_simp; (try with_reducible rfl); (try (first | (rw [if_pos (by omega)]; (try go_simp); (try with_reducible rfl)) | (rw [if_neg (by omega)]; (try go_simp); (try with_reducible rfl)))))
      try simp only [Act.put, zA, zB, zC]
      refine wpAnyR_take (i := 1) (v := ?_) [10, 11, 12] (some 15) rfl rfl (by kernel_rfl) (by kernel_rfl) (by kernel_rfl) (by kernel_rfl) (by kernel_rfl) (by kernel_rfl) (by kernel_rfl) (fun _ _ _ h => h) (Or.inl ⟨by rfl, ?_⟩) hS ?_
      rotate_left
      focus (intro wS hSw; (try dsimp only at hSw); go_simp; (try with_reducible rfl); (try (first | (rw [if_pos (by omega)]; (try go_simp); (try with_reducible rfl)) | (rw [if_neg (by omega)]; (try go_simp); (try with_reducible rfl)))))
      try simp only [Act.put, zA, zB, zC]
      refine wpAnyR_takeQ (i := 2) (v := ?_) (some 16) rfl rfl (by kernel_rfl) (by kernel_rfl) (by kernel_rfl) (by kernel_rfl) (fun _ _ _ h => h) (Or.inl ⟨by rfl, ?_⟩) ?_
      rotate_left
      focus (intro wS hSw; (try dsimp only at hSw); go_simp; (try with_reducible rfl); (try (first | (rw [if_pos (by omega)]; (try go_simp); (try with_reducible rfl)) | (rw [if_neg (by omega)]; (try go_simp); (try with_reducible rfl)))))
      try simp only [Act.put, zA, zB, zC]
      refine wpAnyR_takeQ (i := 3) (v := ?_) (some 17) rfl rfl (by kernel_rfl) (by kernel_rfl) (by kernel_rfl) (by kernel_rfl) (fun _ _ _ h => h) (Or.inl ⟨by rfl, ?_⟩) ?_
      rotate_left
      focus (intro wS hSw; (try dsimp only at hSw); go_simp; (try with_reducible rfl); (try (first | (rw [if_pos (by omega)]; (try go_simp); (try with_reducible rfl)) | (rw [if_neg (by omega)]; (try go_simp); (try with_reducible rfl)))))
      try simp only [Act.put, zA, zB, zC]
      refine wpAnyR_take (i := 4) (v := ?_) [6, 7, 8, 9, 10, 11, 12] (some 18) rfl rfl (by kernel_rfl) (by kernel_rfl) (by kernel_rfl) (by kernel_rfl) (by kernel_rfl) (by kernel_rfl) (by kernel_rfl) (fun _ _ _ h => h) (Or.inl ⟨by rfl, ?_⟩) hS ?_
      rotate_left
      focus (intro wS hSw; (try dsimp only at hSw); go_simp; (try with_reducible rfl); (try (first | (rw [if_pos (by omega)]; (try go_simp); (try with_reducible rfl)) | (rw [if_neg (by omega)]; (try go_simp); (try with_reducible rfl)))))
      try simp only [Act.put, zA, zB, zC]
      refine wpAnyR_takeQ (i := 5) (v := ?_) (some 19) rfl rfl (by kernel_rfl) (by kernel_rfl) (by kernel_rfl) (by kernel_rfl) (fun _ _ _ h => h) (Or.inl ⟨by rfl, ?_⟩) ?_
      rotate_left
      focus (intro wS hSw; (try dsimp only at hSw); go_simp; (try with_reducible rfl); (try (first | (rw [if_pos (by omega)]; (try go_simp); (try with_reducible rfl)) | (rw [if_neg (by omega)]; (try go_simp); (try with_reducible rfl)))))
      try simp only [Act.put, zA, zB, zC]
      refine wpAnyR_takeQ (i := 6) (v := ?_) (some 20) rfl rfl (by kernel_rfl) (by kernel_rfl) (by kernel_rfl) (by kernel_rfl) (fun _ _ _ h => h) (Or.inl ⟨by rfl, ?_⟩) ?_
      rotate_left
      focus (intro wS hSw; (try dsimp only at hSw); go_simp; (try with_reducible rfl); (try (first | (rw [if_pos (by omega)]; (try go_simp); (try with_reducible rfl)) | (rw [if_neg (by omega)]; (try go_simp); (try with_reducible rfl)))))
      try simp only [Act.put, zA, zB, zC]
      refine wpAnyR_takeQ (i := 7) (v := ?_) (some 21) rfl rfl (by kernel_rfl) (by kernel_rfl) (by kernel_rfl) (by kernel_rfl) (fun _ _ _ h => h) (Or.inl ⟨by rfl, ?_⟩) ?_
      rotate_left
      focus (intro wS hSw; (try dsimp only at hSw); go_simp; (try with_reducible rfl); (try (first | (rw [if_pos (by omega)]; (try go_simp); (try with_reducible rfl)) | (rw [if_neg (by omega)]; (try go_simp); (try with_reducible rfl)))))
      try simp only [Act.put, zA, zB, zC]
      refine wpAnyR_take (i := 8) (v := ?_) [9, 10, 11, 12] (some 22) rfl rfl (by kernel_rfl) (by kernel_rfl) (by kernel_rfl) (by kernel_rfl) (by kernel_rfl) (by kernel_rfl) (by kernel_rfl) (fun _ _ _ h => h) (Or.inl ⟨by rfl, ?_⟩) hS ?_
      rotate_left
      focus (intro wS hSw; (try dsimp only at hSw); go_simp; (try with_reducible rfl); (try (first | (rw [if_pos (by omega)]; (try go_simp); (try with_reducible rfl)) | (rw [if_neg (by omega)]; (try go_simp); (try with_reducible rfl)))))
      try simp only [Act.put, zA, zB, zC]
      refine wpAnyR_n1 (i := 9) rfl (by kernel_rfl) ?_
      intro K' hK
      rw [if_pos (by rfl)]
      simp only [List.getElem_toArray, List.getElem_cons_succ, List.getElem_cons_zero]
      go_wp2_with fail
      refine (clone_runs B d l.ext.length l.ext _ rfl (by omega) (HLA.out.hold ((Grew.refl wr).drew)).runs.2).mono ?_
      rintro e w4 ⟨v4, rfl, hown4, g4⟩
      obtain ⟨A4, c4, hv4, hlc4, hc4, hr4⟩ := own_runsL hown4 HLA.out.runs.1
      subst hv4
      have g4' : Grew wr w4 := (Grew.refl wr).drew.trans g4
      have hf4 := own_far hown4 (show g < wr.drew.heap.size from hgs) rfl
      have HF4 := Lib.hid hf4
      have HFA := Lib.hid (show ∀ b off, A4 = some ⟨b, off, none⟩ → wr.drew.heap.size ≤ b from fun b off e => (hown4.own_ge (by rw [e]; rfl)).1)
      have HR4 := Lib.hid hr4
      clear hr4 hown4 hf4
      go_wp2_with fail
      refine hK.out _ _ (.inr (HSG.out _ _ g4)) ?_
      clear hK hS x2 x4 f4
      have hz4 : w.heap.size < w4.heap.size := Nat.lt_of_lt_of_le hzb g4'.size
      have hgs4 : g < w4.heap.size := Nat.lt_of_lt_of_le hgs g4'.size
      have hto4 := HTO.out.hold g4'
      have x4 : w4.cell? ⟨g, k * 5 + 4, none⟩ = some (.slice B l.ext.length d) := hto4.own.cell HROW.out (i := 4) rfl
      have f4 := hto4.own.frozen (k * 5 + 4)
      have HTO4 := Lib.hid hto4
      have HG4 := Lib.hid g4'
      clear hto4 g4' g4
      refine wpAnyR_takeQ (i := 10) (v := ?_) (some 24) rfl rfl (by kernel_rfl) (by kernel_rfl) (by kernel_rfl) (by kernel_rfl) (fun _ _ _ h => h) (Or.inl ⟨by rfl, ?_⟩) ?_
      rotate_left
      focus (intro wS hSw; (try dsimp only at hSw); go_simp; (try with_reducible rfl); (try (first | (rw [if_pos (by omega)]; (try go_simp); (try with_reducible rfl)) | (rw [if_neg (by omega)]; (try go_simp); (try with_reducible rfl)))))
      try simp only [Act.put, zA, zB, zC]
      refine wpAnyR_takeQ (i := 11) (v := ?_) (some 25) rfl rfl (by kernel_rfl) (by kernel_rfl) (by kernel_rfl) (by kernel_rfl) (fun _ _ _ h => h) (Or.inl ⟨by rfl, ?_⟩) ?_
      rotate_left
      focus (intro wS hSw; (try dsimp only at hSw); go_simp; (try with_reducible rfl); (try (first | (rw [if_pos (by omega)]; (try go_simp); (try with_reducible rfl)) | (rw [if_neg (by omega)]; (try go_simp); (try with_reducible rfl)))))
      try simp only [Act.put, zA, zB, zC]
      refine wpAnyR_n1 (i := 12) rfl (by kernel_rfl) ?_
      intro K' hK
      rw [if_pos (by rfl)]
      simp only [List.getElem_toArray, List.getElem_cons_succ, List.getElem_cons_zero]
      go_wp2_with fail
      refine hK.out _ _ (.inl rfl) ?_
      refine wpAnyR_done (by kernel_rfl) ?_ _
      have hb5 := (HB.out.grew HG4.out).far (p := ⟨g, k * 5 + 4, none⟩) (by simp; omega) (.slice A4 l.ext.length c4)
      have hc5 := (HC.out.grew HG4.out).far (p := ⟨g, k * 5 + 4, none⟩) (by simp; omega) (.slice A4 l.ext.length c4)
      have hg5 := (HG.out.trans HG4.out).setCell (p := ⟨g, k * 5 + 4, none⟩) (by simp; omega) (.slice A4 l.ext.length c4)
      have hrow4 := HROW.out
      have ho5 := HTO4.out.own.set_ hrow4 (i := 4) (o := k * 5 + 4) (by decide) rfl (.slice A4 l.ext.length c4)
      have ht5 : Turned (fun x => x = g) w4 (w4.setCell ⟨g, k * 5 + 4, none⟩ (.slice A4 l.ext.length c4)) := (Turned.refl (fun x => x = g) w4).setCell (p := ⟨g, k * 5 + 4, none⟩) (fun _ => rfl) _
      have hla5 : LabAt (w4.setCell ⟨g, k * 5 + 4, none⟩ (.slice A4 l.ext.length c4)) A4 c4 l := by
        have hl := HLA.out
        have : LabAt w4 A4 c4 l := ⟨hl.id0, hl.id1, hl.unit0, hl.unit1, hl.name, hl.note, HR4.out, hlc4, hc4⟩
        exact this.turned ht5 (fun _ b off e hk => HF4.out b off e hk)
      have hto5 := HTO4.out.set_ k ⟨A4, c4, l⟩ hlt (by simpa [labC] using ho5) ht5 hla5 (fun _ b off e => HF4.out b off e)
      have hls : T.labels.set k l = T.labels := by rw [← HYG.out]; exact List.set_getElem_self ..
      rw [hls] at hto5
      have HT5 := Lib.hid hto5
      have HB5 := Lib.hid hb5
      have HC5 := Lib.hid hc5
      have HG5 := Lib.hid hg5
      have HFR5 := Lib.hid (show ∀ y ∈ ys.set k (⟨A4, c4, l⟩ : LabE), 0 < y.l.ext.length → ∀ b off, y.A = some ⟨b, off, none⟩ → b < w.heap.size ∨ w.heap.size + 2 ≤ b from fun y hy h0 b off e => by
        rcases List.mem_or_eq_of_mem_set hy with hy | rfl
        · exact HFR.out y hy h0 b off e
        · exact .inr (Nat.le_trans (show w.heap.size + 2 ≤ wr.drew.heap.size from hzc) (HFA.out b off e)))
      clear hb5 hc5 hg5 hrow4 ho5 ht5 hla5 hto5 hls x4 f4
      go_wp2_with fail
      go_roundg (T.labels.length - (k + 1))
      case measure => rw [HGK.out]; omega
      case rel => exact ⟨k + 1, _, by omega, by omega, by go_num, HT5.out, HB5.out, HC5.out, HFR5.out, HG5.out⟩
    · have b0 := hb.cell 0
      have b1 := hb.cell 1
      have HTO := Lib.hid hto
      have HG := Lib.hid hg
      have y0 := hc.cell 0
      have y1 := hc.cell 1
      have y2 := hc.cell 2
      have fc0 := hc.frozen 0
      have fc1 := hc.frozen 1
      have fc2 := hc.frozen 2
      have HOL := Lib.hid (show ∀ g, (Value.slice A1 T.labels.length c1).ownBlock = some g → ¬ g = w.heap.size + 1 from fun g hg2 => by have := (hto.own.own_ge hg2).1; omega)
      clear hto hg hb hc
      go_wp2_with fail
      refine bodyPost_ret (by first | (simp [*, results, Try.results67, go_sem]; rfl) | simp [*, results, Try.results67, go_sem]) rfl ?_
      exact ⟨_, _, rfl, (HTO.out.turned (S := fun k => k = w.heap.size + 1) (by (repeat' first | (with_reducible exact Turned.refl _ _) | (with_reducible assumption) | (with_reducible refine Turned.alloc ?_ _) | (with_reducible refine Turned.drew ?_) | (with_reducible refine Turned.drewN ?_ _) | (with_reducible refine Turned.setRow ?_ (by first | (simp; done) | (simp; omega) | omega) _) | (with_reducible refine Turned.setCell ?_ (by first | (simp; done) | (simp; omega) | omega) _) | ((with_reducible apply Turned.andGrew); rotate_left; (with_reducible assumption)) | ((with_reducible apply Turned.trans); rotate_left; (with_reducible assumption)) | fail)) HOL.out (fun y hy h0 b off e hk => by have := HFR.out y hy h0 b off e; omega)).lower (by omega), by have hg := HG.out; (repeat' first | (with_reducible exact Grew.refl _) | (with_reducible assumption) | (with_reducible refine Grew.alloc ?_ _) | (with_reducible refine Grew.drew ?_) | (with_reducible refine Grew.drewN ?_ _) | (with_reducible refine Grew.setRow ?_ (by first | (simp; done) | (simp; omega) | omega) _) | (with_reducible refine Grew.setCell ?_ (by first | (simp; done) | (simp; omega) | omega) _) | ((with_reducible apply Grew.trans); rotate_left; (with_reducible assumption)) | ((with_reducible apply Grew.turn); rotate_left; (with_reducible assumption); (focus (intro i hi; first | omega | (simp at hi; omega)))) | fail)⟩
end Go.Proofs.Ytnlaogneceanoaa
namespace Go.Proofs.Ytnlaogneceanoaa
set_option linter.unusedVariables false
set_option linter.unusedSimpArgs false
set_option linter.unusedSectionVars false
open Go.RowKit Go.MapKept
open Go.Maps (Keyed)
/-- A function of keys, changed at one. -/
def upd {α β : Type} [DecidableEq α] (F : α → β) (a : α) (b : β) : α → β := fun x => if x = a then b else F x
theorem upd_same {α β : Type} [DecidableEq α] (F : α → β) (a : α) (b : β) : upd F a b a = b := if_pos rfl
theorem upd_other {α β : Type} [DecidableEq α] (F : α → β) {a x : α} (b : β) (h : x ≠ a) : upd F a b x = F x := if_neg h
theorem nodup_at {α : Type} {l : List α} (h : l.Nodup) {i j : Nat} {a : α} (hi : l[i]? = some a) (hj : l[j]? = some a) : i = j := by
  obtain ⟨hi1, e1⟩ := List.getElem?_eq_some_iff.1 hi
  obtain ⟨hj1, e2⟩ := List.getElem?_eq_some_iff.1 hj
  rcases Nat.lt_trichotomy i j with h1 | h1 | h1
  · exact absurd (e1.trans e2.symm) (List.pairwise_iff_getElem.1 h i j hi1 hj1 h1)
  · exact h1
  · exact absurd (e2.trans e1.symm) (List.pairwise_iff_getElem.1 h j i hj1 hi1 h1)
/-- Block m is a map whose keys are 'kv a'; at a it holds F a. -/
def MapIs {α : Type} (P : Program) (k : TypeId) (kv : α → Value) (w : World) (m : Nat) (F : α → Option Value) : Prop :=
  ∃ (es : Array MapEntry) (clock : Nat) (l : List (α × Value)), w.heap[m]? = some (.map es clock) ∧ es.toList.map (fun e => (e.key, e.val)) = l.map (fun p => (kv p.1, p.2)) ∧ (l.map (·.1)).Nodup ∧ (∀ p ∈ l, ∃ x, keyOf P k (kv p.1) = some x) ∧ (∀ a v, F a = some v ↔ (a, v) ∈ l) ∧ (∀ x ∈ es.toList, x.born < clock) ∧ (es.toList.map (·.born)).Nodup
section
variable {α : Type} {P : Program} {k : TypeId} {kv : α → Value} {w w' : World} {m : Nat} {F : α → Option Value}
theorem MapIs.lt (h : MapIs P k kv w m F) : m < w.heap.size := by
  obtain ⟨es, clock, l, hb, _⟩ := h
  rcases Nat.lt_or_ge m w.heap.size with hlt | hge
  · exact hlt
  · rw [Array.getElem?_eq_none hge] at hb; cases hb
theorem MapIs.same (h : MapIs P k kv w m F) (e : w'.heap[m]? = w.heap[m]?) : MapIs P k kv w' m F := by
  obtain ⟨es, clock, l, hb, hr⟩ := h
  exact ⟨es, clock, l, e.trans hb, hr⟩
theorem MapIs.alloc (h : MapIs P k kv w m F) (o : Obj) : MapIs P k kv (w.alloc o) m F := h.same (Below.heap_alloc w o m h.lt)
theorem MapIs.drew (h : MapIs P k kv w m F) : MapIs P k kv w.drew m F := h
theorem MapIs.drewN (h : MapIs P k kv w m F) (n : Nat) : MapIs P k kv (w.drewN n) m F := h
theorem MapIs.far (h : MapIs P k kv w m F) {p : Addr} (hp : m ≠ p.block) (u : Value) : MapIs P k kv (w.setCell p u) m F := h.same (Below.heap_setCell w p u m hp)
theorem MapIs.turned (h : MapIs P k kv w m F) {S : Nat → Prop} (ht : Turned S w w') (hS : ¬ S m) : MapIs P k kv w' m F := h.same (ht.block m h.lt hS)
theorem MapIs.grew (h : MapIs P k kv w m F) (hg : Grew w w') : MapIs P k kv w' m F := h.same (hg.block m h.lt)
theorem MapIs.grown (h : MapIs P k kv w m F) {row : Option Nat} (hg : w.grownBy w' row) (hne : row ≠ some m) : MapIs P k kv w' m F := h.same (hg.block m h.lt (fun e => hne e.symm))
theorem MapIs.congr (h : MapIs P k kv w m F) {G : α → Option Value} (e : ∀ a, F a = G a) : MapIs P k kv w m G := by
  have : F = G := funext e
  rwa [← this]
theorem MapIs.made (w : World) {n : Nat} (hn : n = w.heap.size) : MapIs P k kv (w.alloc (.map #[] 0)) n (fun _ => none) := by
  subst hn
  exact ⟨#[], 0, [], heap_alloc_new w _, rfl, by simp, by simp, by simp, by simp, by simp⟩
theorem heap_set_other (w : World) (m i : Nat) (o : Obj) (h : i ≠ m) : (w.heap.setIfInBounds m o)[i]? = w.heap[i]? := by
  rw [Array.getElem?_setIfInBounds]; rw [if_neg (fun e => h e.symm)]
theorem heap_set_self (w : World) (m : Nat) (o : Obj) (h : m < w.heap.size) : (w.heap.setIfInBounds m o)[m]? = some o := by
  rw [Array.getElem?_setIfInBounds, if_pos rfl, if_pos h]
theorem setObj_turned (w : World) (m : Nat) (o : Obj) : Turned (fun x => x = m) w { w with heap := w.heap.setIfInBounds m o } :=
  ⟨rfl, rfl, rfl, by simp, fun i _ hi => heap_set_other w m i o hi⟩
variable (K : Keyed P k) (hinj : ∀ a b, kv a = kv b → a = b)
include K hinj
/-- The entry of a key. -/
theorem find_is {es : Array MapEntry} {l : List (α × Value)} (he : es.toList.map (fun e => (e.key, e.val)) = l.map (fun p => (kv p.1, p.2))) (hnd : (l.map (·.1)).Nodup) (hok : ∀ p ∈ l, ∃ x, keyOf P k (kv p.1) = some x)
    (hF : ∀ a v, F a = some v ↔ (a, v) ∈ l) (w : World) (a : α) {x : Lit} (hx : keyOf P k (kv a) = some x) :
    ((Instr.findKey k (kv a) es.toList).run P w = .ok none w ∧ F a = none) ∨ ∃ j v, (Instr.findKey k (kv a) es.toList).run P w = .ok (some (j, v)) w ∧ F a = some v ∧ l[j]? = some (a, v) := by
  have hall : ∀ e ∈ es.toList, ∃ l, keyOf P k e.key = some l := by
    intro e hee
    have hm : (e.key, e.val) ∈ es.toList.map (fun e => (e.key, e.val)) := List.mem_map_of_mem hee
    rw [he] at hm
    obtain ⟨p, hp, hpe⟩ := List.mem_map.1 hm
    injection hpe with h1 _
    rw [← h1]
    exact hok p hp
  rcases K.find w hx es.toList hall with ⟨h1, h2⟩ | ⟨j, e, h1, h2, h3⟩
  · refine .inl ⟨h1, ?_⟩
    cases hFa : F a with
    | none => rfl
    | some v =>
      exfalso
      have hm := (hF a v).1 hFa
      have hm' : (kv a, v) ∈ l.map (fun p => (kv p.1, p.2)) := List.mem_map.2 ⟨(a, v), hm, rfl⟩
      rw [← he] at hm'
      obtain ⟨e, hee, hek⟩ := List.mem_map.1 hm'
      injection hek with hk1 _
      exact h2 e hee hk1
  · refine .inr ⟨j, e.val, h1, ?_, ?_⟩
    · have hj : (es.toList.map (fun e => (e.key, e.val)))[j]? = some (e.key, e.val) := by rw [List.getElem?_map, h2]; rfl
      rw [he, List.getElem?_map] at hj
      cases hq : l[j]? with
      | none => rw [hq] at hj; cases hj
      | some p =>
        rw [hq] at hj
        injection hj with hj
        injection hj with hj1 hj2
        have hpa : p.1 = a := hinj _ _ (hj1.trans h3)
        exact (hF a e.val).2 (by rw [← hpa, ← hj2]; exact List.mem_of_getElem? hq)
    · have hj : (es.toList.map (fun e => (e.key, e.val)))[j]? = some (e.key, e.val) := by rw [List.getElem?_map, h2]; rfl
      rw [he, List.getElem?_map] at hj
      cases hq : l[j]? with
      | none => rw [hq] at hj; cases hj
      | some p =>
        rw [hq] at hj
        injection hj with hj
        injection hj with hj1 hj2
        have hpa : p.1 = a := hinj _ _ (hj1.trans h3)
        rw [← hpa, ← hj2]
theorem MapIs.lookup_val (h : MapIs P k kv w m F) {t e : TypeId} {z : Value} (ht : P.underlying t = some (.map k e)) (hz : (zeroValue e).run P w = .ok z w) (a : α) {x : Lit} (hx : keyOf P k (kv a) = some x) :
    (Instr.lookup t (.map (some m)) (kv a) false).run P w = .ok ((F a).getD z) w := by
  obtain ⟨es, clock, l, hb, he, hnd, hok, hF, hS1, hS2⟩ := h
  rcases find_is K hinj he hnd hok hF w a hx with ⟨h1, h2⟩ | ⟨j, v, h1, h2, _⟩
  · simp [Instr.lookup, run_underlying ht, Go.MapKept.run_getObj_map hb, K.check w _ hx, h1, h2, hz]
  · simp [Instr.lookup, run_underlying ht, Go.MapKept.run_getObj_map hb, K.check w _ hx, h1, h2]
theorem MapIs.update [DecidableEq α] (h : MapIs P k kv w m F) {t e : TypeId} (ht : P.underlying t = some (.map k e)) (a : α) {x : Lit} (hx : keyOf P k (kv a) = some x) (v : Value) :
    ∃ w', (Instr.mapUpdate t (.map (some m)) (kv a) v).run P w = .ok () w' ∧ MapIs P k kv w' m (upd F a (some v)) ∧ Turned (fun x => x = m) w w' := by
  obtain ⟨es, clock, l, hb, he, hnd, hok, hF, hS1, hS2⟩ := h
  have hlt : m < w.heap.size := MapIs.lt (P := P) (k := k) (kv := kv) (F := F) ⟨es, clock, l, hb, he, hnd, hok, hF, hS1, hS2⟩
  rcases find_is K hinj he hnd hok hF w a hx with ⟨h1, h2⟩ | ⟨j, v0, h1, h2, hj⟩
  · refine ⟨_, ?_, ?_, setObj_turned w m (.map (es.push { key := kv a, val := v, born := clock }) (clock + 1))⟩
    · simp [Instr.mapUpdate, run_underlying ht, Go.MapKept.run_getObj_map hb, K.check w _ hx, h1, Go.MapKept.run_setObj_map _ hb]
    · have hna : ∀ v, (a, v) ∉ l := fun v hv => by have := (hF a v).2 hv; rw [h2] at this; cases this
      refine ⟨_, _, l ++ [(a, v)], heap_set_self w m _ hlt, by simp [he], ?_, ?_, ?_, ?_, ?_⟩
      · rw [List.map_append, List.nodup_append]
        refine ⟨hnd, by simp, fun y hy z hz e => ?_⟩
        simp at hz
        subst hz
        subst e
        obtain ⟨p, hp, hpe⟩ := List.mem_map.1 hy
        exact hna p.2 (by rw [← hpe]; exact hp)
      · intro p hp
        rcases List.mem_append.1 hp with hp | hp
        · exact hok p hp
        · rw [List.mem_singleton.1 hp]; exact ⟨x, hx⟩
      · intro b u
        rw [List.mem_append]
        by_cases hba : b = a
        · subst hba
          rw [upd_same]
          simp [hna]
          exact eq_comm
        · rw [upd_other _ _ hba, hF b u]
          simp [hba]
      · intro y hy
        rw [Array.toList_push] at hy
        rcases List.mem_append.1 hy with hy | hy
        · have := hS1 y hy; omega
        · rw [List.mem_singleton.1 hy]; exact Nat.lt_succ_self _
      · rw [Array.toList_push, List.map_append, List.nodup_append]
        refine ⟨hS2, by simp, fun y hy z hz e => ?_⟩
        simp at hz
        subst hz
        subst e
        obtain ⟨q, hq, hqe⟩ := List.mem_map.1 hy
        have := hS1 q hq
        omega
  · have hjl : j < es.size := by
      have := (List.getElem?_eq_some_iff.1 hj).1
      have hlen := congrArg List.length he
      simp at hlen
      omega
    have hkj : (es[j]'hjl).key = kv a := by
      have hq : (es.toList.map (fun e => (e.key, e.val)))[j]? = (l.map (fun p => (kv p.1, p.2)))[j]? := by rw [he]
      rw [List.getElem?_map, List.getElem?_map, hj] at hq
      rw [Array.getElem?_toList, Array.getElem?_eq_getElem hjl] at hq
      simp at hq
      exact hq.1
    refine ⟨_, ?_, ?_, setObj_turned w m (.map (es.modify j fun e => { e with key := kv a, val := v }) clock)⟩
    · simp [Instr.mapUpdate, run_underlying ht, Go.MapKept.run_getObj_map hb, K.check w _ hx, h1, Go.MapKept.run_setObj_map _ hb, hjl, hkj, K.stays w hx]
    · have hbo : (es.modify j fun e => { e with key := kv a, val := v }).toList.map (·.born) = es.toList.map (·.born) := by
        apply List.ext_getElem?
        intro i
        rw [List.getElem?_map, List.getElem?_map, Array.getElem?_toList, Array.getElem?_toList, Array.getElem?_modify]
        by_cases hij : j = i
        · subst hij
          rw [if_pos rfl, Array.getElem?_eq_getElem hjl]; rfl
        · rw [if_neg hij]
      refine ⟨_, _, l.set j (a, v), heap_set_self w m _ hlt, ?_, ?_, ?_, ?_, ?_, by rw [hbo]; exact hS2⟩
      · apply List.ext_getElem?
        intro i
        have hi := congrArg (fun z => z[i]?) he
        simp only [List.getElem?_map, Array.getElem?_toList] at hi
        rw [List.getElem?_map, List.getElem?_map, Array.getElem?_toList, Array.getElem?_modify, List.getElem?_set]
        by_cases hij : j = i
        · subst hij
          rw [if_pos rfl, if_pos rfl, if_pos (List.getElem?_eq_some_iff.1 hj).1, Array.getElem?_eq_getElem hjl]
          rfl
        · rw [if_neg hij, if_neg hij]
          exact hi
      · rw [List.map_set]
        have : (l.map (·.1)).set j a = l.map (·.1) := by
          apply List.ext_getElem?
          intro i
          rw [List.getElem?_set]
          by_cases hij : j = i
          · subst hij
            rw [if_pos rfl, List.getElem?_map, hj]
            have : j < (l.map (·.1)).length := by rw [List.length_map]; exact (List.getElem?_eq_some_iff.1 hj).1
            rw [if_pos this]
            rfl
          · rw [if_neg hij]
        rw [this]
        exact hnd
      · intro p hp
        rcases List.mem_or_eq_of_mem_set hp with hp | rfl
        · exact hok p hp
        · exact ⟨x, hx⟩
      · intro b u
        have hjl2 := (List.getElem?_eq_some_iff.1 hj).1
        have huniq : ∀ i q, l[i]? = some q → q.1 = a → i = j := by
          intro i q hi hq
          have h1 : (l.map (·.1))[i]? = some a := by rw [List.getElem?_map, hi]; simp [hq]
          have h2 : (l.map (·.1))[j]? = some a := by rw [List.getElem?_map, hj]; rfl
          exact nodup_at hnd h1 h2
        by_cases hba : b = a
        · subst hba
          rw [upd_same, List.mem_iff_getElem?]
          constructor
          · intro e
            injection e with e
            subst e
            exact ⟨j, by rw [List.getElem?_set_self hjl2]⟩
          · rintro ⟨i, hi⟩
            rw [List.getElem?_set] at hi
            by_cases hij : j = i
            · rw [if_pos hij, if_pos (by omega)] at hi
              injection hi with hi
              injection hi with _ hi
              rw [hi]
            · rw [if_neg hij] at hi
              exact absurd (huniq i _ hi rfl).symm hij
        · rw [upd_other _ _ hba, hF b u, List.mem_iff_getElem?, List.mem_iff_getElem?]
          constructor
          · rintro ⟨i, hi⟩
            refine ⟨i, ?_⟩
            rw [List.getElem?_set, if_neg]
            · exact hi
            · rintro rfl
              rw [hj] at hi
              injection hi with hi
              injection hi with hi _
              exact hba hi.symm
          · rintro ⟨i, hi⟩
            rw [List.getElem?_set] at hi
            by_cases hij : j = i
            · rw [if_pos hij, if_pos (by omega)] at hi
              injection hi with hi
              injection hi with hi _
              exact absurd hi.symm hba
            · rw [if_neg hij] at hi
              exact ⟨i, hi⟩
      · intro y hy
        have h9 : y.born ∈ es.toList.map (·.born) := by rw [← hbo]; exact List.mem_map_of_mem hy
        obtain ⟨q, hq, hqe⟩ := List.mem_map.1 h9
        have := hS1 q hq
        omega
end
section
variable {α : Type} {P : Program} {k : TypeId} {kv : α → Value} {w : World} {m : Nat} {F : α → Option Value}
theorem wp_mapUpdate_is [DecidableEq α] {o : Oper} {a : Act} {Kp : Act → World → Prop} {Q : Exit → Act → World → Prop} (mo x v : Operand) (t : TypeId) (hop : o.op = Op.mapUpdate t mo x v)
    (e : TypeId) (K : Keyed P k) (hinj : ∀ a b, kv a = kv b → a = b) (ht : P.underlying t = some (.map k e)) (hm : a.eval mo = .map (some m)) (h : MapIs P k kv w m F) (key : α) {kl : Lit} (hkey : keyOf P k (kv key) = some kl) (val : Value) (hx : a.eval x = kv key) (hv : a.eval v = val)
    (hK : ∀ w', MapIs P k kv w' m (upd F key (some val)) → Turned (fun x => x = m) w w' → Kp (a.put o.dst undef) w') : o.wp P a w Kp Q := by
  obtain ⟨w', hrun, r1, r2⟩ := h.update K hinj ht key hkey val
  unfold Oper.wp
  simp [execOp, hop, hm, hx, hv, hrun, Result.andThen]
  exact hK w' r1 r2
end
/-- 'for k, v := range m' under way: S tells which keys have come. -/
def MapIt {α : Type} (P : Program) (k : TypeId) (kv : α → Value) (w : World) (m r : Nat) (F : α → Option Value) (S : α → Bool) (cnt : Nat) : Prop :=
  ∃ (es : Array MapEntry) (clock : Nat) (l : List (α × Value)) (since : Nat) (seen : Array Nat) (c0 : Nat), w.heap[m]? = some (.map es clock) ∧ es.toList.map (fun e => (e.key, e.val)) = l.map (fun p => (kv p.1, p.2)) ∧ (l.map (·.1)).Nodup ∧ ((∀ p ∈ l, ∃ x, keyOf P k (kv p.1) = some x) ∧ ∀ a v, F a = some v ↔ (a, v) ∈ l) ∧
    w.heap[r]? = some (.mapIter (some m) since seen c0) ∧ (∀ x ∈ es.toList, x.born < since) ∧ (es.toList.map (·.born)).Nodup ∧ since ≤ c0 ∧ since ≤ clock ∧ (leftOf es seen).size = cnt ∧ ∀ (i : Nat) (x : MapEntry) (p : α × Value), es.toList[i]? = some x → l[i]? = some p → S p.1 = seen.contains x.born
section
variable {α : Type} {P : Program} {k : TypeId} {kv : α → Value} {w w' : World} {m r cnt : Nat} {F : α → Option Value} {S : α → Bool}
theorem MapIt.kept (h : MapIt P k kv w m r F S cnt) (hm : w'.heap[m]? = w.heap[m]?) (hr : w'.heap[r]? = w.heap[r]?) : MapIt P k kv w' m r F S cnt := by
  obtain ⟨es, clock, l, since, seen, c0, h1, h2, h3, h4, h5, h6⟩ := h
  exact ⟨es, clock, l, since, seen, c0, hm.trans h1, h2, h3, h4, hr.trans h5, h6⟩
theorem MapIt.lt (h : MapIt P k kv w m r F S cnt) : m < w.heap.size ∧ r < w.heap.size := by
  obtain ⟨es, clock, l, since, seen, c0, h1, h2, h3, h4, h5, h6⟩ := h
  exact ⟨(Array.getElem?_eq_some_iff.1 h1).1, (Array.getElem?_eq_some_iff.1 h5).1⟩
theorem MapIt.turned (h : MapIt P k kv w m r F S cnt) {T : Nat → Prop} (ht : Turned T w w') (hm : ¬ T m) (hr : ¬ T r) : MapIt P k kv w' m r F S cnt := h.kept (ht.block m h.lt.1 hm) (ht.block r h.lt.2 hr)
theorem MapIs.range (h : MapIs P k kv w m F) {t e : TypeId} (ht : P.underlying t = some (.map k e)) :
    ∃ w', (Instr.range t (.map (some m))).run P w = .ok (.pointer (some ⟨w.heap.size, 0, none⟩)) w' ∧ (∃ cnt, MapIt P k kv w' m w.heap.size F (fun _ => false) cnt) ∧ Grew w w' ∧ w'.heap.size = w.heap.size + 1 := by
  have hlt := h.lt
  obtain ⟨es, clock, l, hb, he, hnd, hok, hF, hS1, hS2⟩ := h
  refine ⟨_, run_range_map w t k e m es clock ht hb, ⟨_, es, clock, l, clock, #[], clock, (Below.heap_alloc w _ m hlt).trans hb, he, hnd, ⟨hok, hF⟩, heap_alloc_new w _, hS1, hS2, Nat.le_refl _, Nat.le_refl _, rfl, fun i x p _ _ => by simp⟩, (Grew.refl w).alloc _, by simp⟩
theorem MapIt.next [DecidableEq α] (h : MapIt P k kv w m r F S cnt) (hne : m ≠ r) (ty : TypeId) :
    ((∀ a v, F a = some v → S a = true) ∧ (Instr.next (.pointer (some ⟨r, 0, none⟩)) false ty).run P w = .ok (.tuple #[.bool false]) w) ∨
    ∃ a v w' cnt', (∃ x, keyOf P k (kv a) = some x) ∧ F a = some v ∧ S a = false ∧ (Instr.next (.pointer (some ⟨r, 0, none⟩)) false ty).run P w = .ok (.tuple #[.bool true, kv a, v]) w' ∧ MapIt P k kv w' m r F (upd S a true) cnt' ∧ cnt' < cnt ∧ Turned (fun x => x = r) w w' ∧
      (Instr.entry (.pointer (some ⟨r, 0, none⟩))).run P w' = .ok (.tuple #[kv a, v]) w' := by
  obtain ⟨es, clock, l, since, seen, c0, hb, he, hnd, ⟨hok, hF⟩, hr, hold, hbn, hsc, hsk, rfl, hS⟩ := h
  have hlen : es.toList.length = l.length := by have := congrArg List.length he; simpa using this
  rcases run_next_at (P := P) w ty r m since c0 seen es clock hr hb hold hsc with ⟨h0, hrun⟩ | ⟨e, hem, w1, hal, hrun⟩
  · refine .inl ⟨fun a v hav => ?_, hrun⟩
    obtain ⟨i, hi, hil⟩ := List.mem_iff_getElem.1 ((hF a v).1 hav)
    have hie : i < es.toList.length := by omega
    have := hS i _ _ (List.getElem?_eq_getElem hie) (List.getElem?_eq_getElem hi)
    rw [hil] at this
    rw [this]
    exact all_seen es seen h0 _ (List.getElem_mem hie)
  · obtain ⟨he1, hes⟩ := mem_left hem
    obtain ⟨i, hi, hie⟩ := List.mem_iff_getElem.1 he1
    have hil : i < l.length := by omega
    have hkv : (e.key, e.val) = (kv l[i].1, l[i].2) := by
      have h9 : (es.toList.map (fun e => (e.key, e.val)))[i]? = (l.map (fun p => (kv p.1, p.2)))[i]? := by rw [he]
      rw [List.getElem?_map, List.getElem?_map, List.getElem?_eq_getElem hi, List.getElem?_eq_getElem hil, hie] at h9
      simpa using h9
    injection hkv with hk1 hk2
    rw [hk1, hk2] at hrun
    have hr1 : w1.heap[r]? = some (.mapIter (some m) since seen c0) := by rcases hal with rfl | rfl <;> exact hr
    have hb1 : w1.heap[m]? = some (.map es clock) := by rcases hal with rfl | rfl <;> exact hb
    have hset := Go.MapKept.heap_set (o' := .mapIter (some m) since (seen.push e.born) clock) hr1
    have hb' : (Go.ChangeMaps.setBlock w1 r (.mapIter (some m) since (seen.push e.born) clock)).heap[m]? = some (.map es clock) := (hset.2 m hne).trans hb1
    refine .inr ⟨l[i].1, l[i].2, _, _, hok _ (List.getElem_mem hil), (hF _ _).2 (List.getElem_mem hil), ?_, hrun, ⟨es, clock, l, since, seen.push e.born, clock, hb', he, hnd, ⟨hok, hF⟩, hset.1, hold, hbn, hsk, hsk, rfl, fun j x p hj hp => ?_⟩, left_shrinks es seen e hem, ?_, ?_⟩
    · have := hS i _ _ (List.getElem?_eq_getElem hi) (List.getElem?_eq_getElem hil)
      rw [this, hie]; exact hes
    · rw [contains_push]
      have h1 := hS j x p hj hp
      by_cases hpa : p.1 = l[i].1
      · have hji : j = i := nodup_at hnd (a := l[i].1) (by rw [List.getElem?_map, hp]; simp [hpa]) (by rw [List.getElem?_map, List.getElem?_eq_getElem hil]; rfl)
        subst hji
        rw [List.getElem?_eq_getElem hi, hie] at hj
        injection hj with hj
        rw [hpa, upd_same, ← hj]
        simp
      · rw [upd_other _ _ hpa, h1]
        have hxe : x.born ≠ e.born := fun h9 => by
          have hxm : x ∈ es.toList := List.mem_of_getElem? hj
          have hx9 := born_inj hbn hxm he1 h9
          have hji : j = i := by
            have hj' := (List.getElem?_eq_some_iff.1 hj).1
            have b1 : (es.toList.map (·.born))[j]? = some e.born := by rw [List.getElem?_map, hj, hx9]; rfl
            have b2 : (es.toList.map (·.born))[i]? = some e.born := by rw [List.getElem?_map, List.getElem?_eq_getElem hi, hie]; rfl
            exact nodup_at hbn b1 b2
          subst hji
          rw [List.getElem?_eq_getElem hil] at hp
          injection hp with hp
          exact hpa (by rw [hp])
        rw [show (x.born == e.born) = false from beq_eq_false_iff_ne.2 hxe, Bool.or_false]
    · rcases hal with rfl | rfl <;> exact ⟨rfl, rfl, rfl, by simp [Go.ChangeMaps.setBlock], fun i _ hi => hset.2 i hi⟩
    · have := run_entry_at (P := P) _ r m since seen es clock e hset.1 hb' he1 hbn
      rw [hk1, hk2] at this
      exact this
end
end Go.Proofs.Ytnlaogneceanoaa
namespace Go.Proofs.Ytnlaogneceanoaa
set_option linter.unusedVariables false
set_option linter.unusedSimpArgs false
set_option linter.unusedSectionVars false
open Go.RowKit
section
variable {P : Program}
theorem wp_pushAll {W : World} {o : Oper} {a : Act} {K : Act → World → Prop} {Q : Exit → Act → World → Prop} (s x : Operand) (t : TypeId)
    (ho : o.op = .call { callee := .builtin .append, args := #[s, x], argTypes := #[t, t] })
    (base e size bytes : Nat) (z : Value) (ht : P.underlying t = some (.slice e)) (hi : (P.info? e).map (fun i => (i.zero, i.size, i.bytes)) = some (some z, size, bytes)) (hzs : z.cells.size = size) (hsz : 0 < size)
    (v : Value) (rows rows' : List (List Value)) (hs : a.eval s = v) (hown : OwnL W base e size v rows) (A : Option Addr) (m c : Nat) (hx : a.eval x = .slice A m c) (hm : m = rows'.length) (hlen' : ∀ r ∈ rows', r.length = size) (hl : ListAt W W.heap.size size A rows') (h1 : ∀ r ∈ rows', r.all (·.oneCell') = true)
    (hlen : (rows.length + m) * bytes ≤ 140737488355328) (h63 : rows.length + m ≤ 9223372036854775807) (hbase : base ≤ W.heap.size)
    (h : ∀ v' w', OwnL w' base e size v' (rows ++ rows') → W.grownBy w' v.ownBlock → (v'.ownBlock = v.ownBlock ∨ v'.ownBlock = some W.heap.size) → K (a.put o.dst v') w') :
    o.wp P a W K Q := by
  subst hm
  obtain ⟨i, hi', hz0, hz1, hz2⟩ : ∃ i, P.info? e = some i ∧ i.zero = some z ∧ i.size = size ∧ i.bytes = bytes := by
    cases hq : P.info? e with
    | none => rw [hq] at hi; cases hi
    | some i => rw [hq] at hi; simp at hi; exact ⟨i, rfl, hi.1, hi.2.1, hi.2.2⟩
  have hflat := flatten_len hlen'
  obtain ⟨v', w', hrun, hown', hg, hat⟩ : ∃ v' w', (Builtin.append_ #[t, t] o.type #[v, .slice A rows'.length c]).run P W = .ok v' w' ∧ w'.ownsRow base e size v' (rows.length + rows'.length) (rows.flatten ++ rows'.flatten) ∧ W.grownBy w' v.ownBlock ∧
      (v'.ownBlock = v.ownBlock ∨ v'.ownBlock = some W.heap.size) := by
    cases A with
    | none =>
      have h0 : rows' = [] := by
        rcases Nat.eq_zero_or_pos rows'.length with h0 | h0
        · exact List.length_eq_zero_iff.1 h0
        · obtain ⟨b, off, e, _⟩ := hl h0
          cases e
      subst h0
      exact ⟨v, W, run_append_empty base t o.type e i size ht hi' v _ _ hown.2 c, by simpa using hown.2, World.grownBy.refl W _, .inl rfl⟩
    | some ad =>
      obtain ⟨v', w', hrun, h2, h3, _, h5⟩ := run_append_own_at (P := P) W base t o.type e i z size bytes ht hi' hz0 hz1 hz2 hzs hsz v rows.length rows.flatten hown.2 ad rows'.length c rows'.flatten hflat
        (fun q u hq => by
          obtain ⟨j, i, r, hj, hir, hqq⟩ := flatten_row hlen' q u hq
          obtain ⟨b, off, e, _, hc⟩ := hl (by have := (List.getElem?_eq_some_iff.1 hj).1; omega)
          injection e with e
          subst e
          rw [add_plain, hqq, ← Nat.add_assoc]
          exact hc j r hj i u hir)
        (fun u hu => by
          obtain ⟨r, hr, hur⟩ := List.mem_flatten.1 hu
          exact List.all_eq_true.1 (h1 r hr) u hur) (by unfold maxLen; omega) hlen hbase
      exact ⟨v', w', hrun, h2, h3, h5⟩
  have hend := h v' w' ⟨fun r hr => (List.mem_append.1 hr).elim (hown.1 r) (hlen' r), by rw [List.flatten_append, List.length_append]; exact hown'⟩ hg hat
  unfold Oper.wp execOp
  simp only [ho, resolve, invoke, builtin, Sem.run_bind, Sem.run_pure, Result.andThen_ok, List.map_toArray, List.map_cons, List.map_nil, hs, hx, hrun]
  exact hend
end
theorem ListAt.take {w : World} {B sz : Nat} {A : Option Addr} {rows : List (List Value)} (h : ListAt w B sz A rows) (n : Nat) : ListAt w B sz A (rows.take n) := fun hl => by
  obtain ⟨b, off, e, hb, hc⟩ := h (by rw [List.length_take] at hl; omega)
  refine ⟨b, off, e, hb, fun j cs hj i v hi => hc j cs ?_ i v hi⟩
  rw [List.getElem?_take] at hj
  split at hj
  · exact hj
  · cases hj
theorem ListAt.drop {w : World} {B sz b off off' : Nat} {rows : List (List Value)} (h : ListAt w B sz (some ⟨b, off, none⟩) rows) (n : Nat) (ho : off' = off + n * sz) : ListAt w B sz (some ⟨b, off', none⟩) (rows.drop n) := fun hl => by
  obtain ⟨b', off2, e, hb, hc⟩ := h (by rw [List.length_drop] at hl; omega)
  injection e with e
  injection e with e1 e2 _
  subst e1; subst e2
  refine ⟨b, off', rfl, hb, fun j cs hj i v hi => ?_⟩
  rw [List.getElem?_drop] at hj
  have := hc (n + j) cs hj i v hi
  rw [ho]
  rw [show off + n * sz + j * sz + i = off + (n + j) * sz + i by rw [Nat.add_mul]; omega]
  exact this
theorem ListAt.none {w : World} {B sz : Nat} (A : Option Addr) : ListAt w B sz A [] := fun h => absurd h (by simp)
theorem OwnL.listA {w : World} {base e sz n c : Nat} {A : Option Addr} {rows : List (List Value)} (h : OwnL w base e sz (.slice A n c) rows) : ListAt w w.heap.size sz A rows := by
  obtain ⟨A', c', hv, _, _, hl⟩ := h.listAt
  injection hv with h1 _ _
  rw [h1]
  exact hl
end Go.Proofs.Ytnlaogneceanoaa
