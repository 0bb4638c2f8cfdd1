/- Chapter 8: change, and the changes of one label. -/
import Derived.Test.YtnlaogneceanoaaCkI
namespace Go.Proofs.Ytnlaogneceanoaa
set_option linter.unusedVariables false
set_option linter.unusedSimpArgs false
set_option linter.unusedSectionVars false
open Go.RowKit
attribute [local go_sem ↓] Go.wp_at_zero Go.wp_at_succ
theorem runs_ne_tab {w : World} {A : Option Addr} {l : List (Int × Int)} {g : Nat} {t : TypeId} {s : ByteArray} {i : Int} {a : Option Addr} {n c : Nat} (h : RunsAt w w.heap.size A l) (hl : 0 < l.length) (hb : Blk w g t #[.string s, .int .i64 i, .slice a n c]) : ∀ b off, A = some ⟨b, off, none⟩ → b ≠ g := by
  rintro b off e rfl
  obtain ⟨b', off', x, y, e', hb', hv, _, c0, c1⟩ := h.at_ (k := 0) hl
  rw [e] at e'
  injection e' with e'
  injection e' with e1 e2 _
  subst e1; subst e2
  rw [Nat.zero_mul, Nat.add_zero] at c0 c1
  rw [hb.cell] at c0 c1
  match off with
  | 0 => simp at c0
  | 1 => simp at c1
  | 2 => simp at c0
  | off + 3 => simp at c0
theorem TabO.apart {w : World} {base : Nat} {v : Value} {ys : List LabE} {ls : List Lab} (h : TabO w base v ys ls) {g : Nat} {t : TypeId} {s : ByteArray} {i : Int} {a : Option Addr} {n c : Nat} (hb : Blk w g t #[.string s, .int .i64 i, .slice a n c]) : ∀ y ∈ ys, 0 < y.l.ext.length → ∀ b off, y.A = some ⟨b, off, none⟩ → ¬ b = g :=
  fun y hy h0 b off e => runs_ne_tab (h.lab y hy).runs h0 hb b off e
theorem TabO.nlen {w : World} {base g n cap : Nat} {ys : List LabE} {ls : List Lab} (h : TabO w base (.slice (some ⟨g, 0, none⟩) n cap) ys ls) : ls.length = n := by
  have h1 := h.own.len.1
  rw [List.length_map, h.len] at h1
  exact h1
theorem chgT_cases (T : Tab) (id unit : Int) (F : Nat → Lab → List Lab × Int) : (validT T = false ∧ chgT T id unit F = (tabZ, 1)) ∨ (validT T = true ∧ idxT T id unit = -1 ∧ chgT T id unit F = (tabZ, 6)) ∨
    (validT T = true ∧ ∃ (k : Nat) (hk : k < T.labels.length), idxT T id unit = (k : Int) ∧ hitL id unit T.labels[k] = true ∧ (((F k T.labels[k]).2 = 0 ∧ chgT T id unit F = ({ T with labels := (F k T.labels[k]).1 }, 0)) ∨ ((F k T.labels[k]).2 ≠ 0 ∧ chgT T id unit F = (tabZ, (F k T.labels[k]).2)))) := by
  unfold chgT
  cases hv : validT T with
  | false => exact .inl ⟨rfl, if_neg (by simp)⟩
  | true =>
    right
    rw [if_pos rfl]
    rcases idxP_cases (hitL id unit) T.labels with ⟨k, hk, h1, h2, _⟩ | ⟨h1, _⟩
    · have h1' : idxT T id unit = (k : Int) := h1
      right
      rw [h1', if_pos (by omega), Int.toNat_natCast, List.getD_eq_getElem?_getD, List.getElem?_eq_getElem hk, Option.getD_some]
      refine ⟨rfl, k, hk, rfl, h2, ?_⟩
      by_cases h0 : (F k T.labels[k]).2 = 0
      · exact .inl ⟨h0, by rw [if_pos h0]⟩
      · exact .inr ⟨h0, by rw [if_neg h0]⟩
    · have h1' : idxT T id unit = -1 := h1
      left
      rw [h1', if_neg (by omega)]
      exact ⟨rfl, rfl, rfl⟩
/-- A table and an error, returned. -/
def TabR (w : World) (T : Tab) (er : Int) (e : Ending) (w' : World) : Prop :=
  ∃ A c xs, e = .returned (.tuple #[.agg #[.string T.name, .int .i64 T.tracks, .slice A T.labels.length c], .int .i64 er]) ∧ TabAt w' A c xs T ∧ Grew w w'
section
variable (A : Option Addr) (c : Nat) (xs : List LabE) (T : Tab) (id unit : Int) (w : World) (p1 p2 : Nat)
set_option maxRecDepth 100000 in
set_option maxHeartbeats 8000000 in
theorem change_ext (h : TabAt w A c xs T) (hs : SmallT T) (F : Nat → Lab → List Lab × Int)
    (HC : ∀ (w1 : World) (base g cap xo : Nat) (ys : List LabE) (k : Nat) (hk : k < T.labels.length), hitL id unit T.labels[k] = true → OutAt w w1 base g cap xo ys T → Calls Try.prog 85 #[.pointer (some ⟨g, k * 5, none⟩), .pointer (some ⟨xo, 0, none⟩), .pointer (some ⟨p1, 0, none⟩), .pointer (some ⟨p2, 0, none⟩)] w1 (ChgR w1 base g cap T.labels.length (F k T.labels[k])))
    (T' : Tab) (er : Int) (hr : chgT T id unit F = (T', er)) :
    Calls Try.prog 37 #[.agg #[.string T.name, .int .i64 T.tracks, .slice A T.labels.length c], .agg #[.int .i64 id, .int .i64 unit], .func (.func 85) #[] #[.pointer (some ⟨p1, 0, none⟩), .pointer (some ⟨p2, 0, none⟩)]] w (TabR w T' er) := by
  have hg0 := (((Grew.refl w).alloc (.cells #[.string T.name, .int .i64 T.tracks, .slice A T.labels.length c] 34)).alloc (.cells #[.int .i64 id, .int .i64 unit] 37)).alloc (.cells #[.string ⟨#[]⟩, .int .i64 0, .slice none 0 0] 34)
  have hb0 := ((Blk.new w 34 #[.string T.name, .int .i64 T.tracks, .slice A T.labels.length c] rfl).alloc (.cells #[.int .i64 id, .int .i64 unit] 37)).alloc (.cells #[.string ⟨#[]⟩, .int .i64 0, .slice none 0 0] 34)
  have hrf0 := (Blk.new (w.alloc (.cells #[.string T.name, .int .i64 T.tracks, .slice A T.labels.length c] 34)) 37 #[.int .i64 id, .int .i64 unit] (n := w.heap.size + 1) (by simp)).alloc (.cells #[.string ⟨#[]⟩, .int .i64 0, .slice none 0 0] 34)
  have hz0 := Blk.new ((w.alloc (.cells #[.string T.name, .int .i64 T.tracks, .slice A T.labels.length c] 34)).alloc (.cells #[.int .i64 id, .int .i64 unit] 37)) 34 #[.string ⟨#[]⟩, .int .i64 0, .slice none 0 0] (n := w.heap.size + 1 + 1) (by simp)
  have HV := Lib.hid (valid_tab A c xs T _ (h.hold hg0) hs _ rfl)
  have HIX := Lib.hid (fun w2 (g2 : Grew w w2) k hk => cindex_any A c xs T id unit w2 (h.hold g2) hs _ rfl k hk)
  have HCL := Lib.hid (fun w2 (g2 : Grew w w2) => clone_tab A c xs T w2 (h.hold g2) hs _ rfl)
  have HNM := Lib.hid (show T.name.size ≤ 9223372036854775807 ∧ -9223372036854775808 ≤ T.tracks ∧ T.tracks ≤ 9223372036854775807 from ⟨h.name, h.tr0, h.tr1⟩)
  have HCC := Lib.hid HC
  have HG0 := Lib.hid hg0
  have HB0 := Lib.hid hb0
  have HRF := Lib.hid hrf0
  have HZ0 := Lib.hid hz0
  clear h hs HC hg0 hb0 hrf0 hz0
  rcases chgT_cases T id unit F with ⟨hv, hx⟩ | ⟨hv, hi, hx⟩ | ⟨hv, k, hk, hi, hhit, hx⟩
  · rw [hx] at hr
    injection hr with h1 h2
    subst h1; subst h2
    have HVF := Lib.hid hv
    clear hv hx
    go_enter Try.func37, Try.ntmps37
    go_wp2_with fail
    refine HV.out.mono ?_
    rintro e w1 ⟨rfl, g1⟩
    rw [HVF.out]
    have hz1 := HZ0.out.grew g1
    have z0 := hz1.cell 0
    have z1 := hz1.cell 1
    have z2 := hz1.cell 2
    have f0 := hz1.frozen 0
    have f1 := hz1.frozen 1
    have f2 := hz1.frozen 2
    have hzl := hz1.lt
    have hg1 := HG0.out.trans g1
    clear hz1 g1
    go_wp2_with fail
    refine bodyPost_ret (by first | (simp [*, results, Try.results37, go_sem]; rfl) | simp [*, results, Try.results37, go_sem]) rfl ?_
    exact ⟨none, 0, [], rfl, TabAt.zero _, by (repeat' first | (with_reducible exact Grew.refl _) | (with_reducible assumption) | (with_reducible refine Grew.alloc ?_ _) | (with_reducible refine Grew.drew ?_) | (with_reducible refine Grew.drewN ?_ _) | (with_reducible refine Grew.setRow ?_ (by first | (simp; done) | (simp; omega) | omega) _) | (with_reducible refine Grew.setCell ?_ (by first | (simp; done) | (simp; omega) | omega) _) | ((with_reducible apply Grew.trans); rotate_left; (with_reducible assumption)) | ((with_reducible apply Grew.turn); rotate_left; (with_reducible assumption); (focus (intro i hi; first | omega | (simp at hi; omega)))) | fail)⟩
  · rw [hx] at hr
    injection hr with h1 h2
    subst h1; subst h2
    have HVF := Lib.hid hv
    have HI := Lib.hid hi
    clear hv hx hi
    go_enter Try.func37, Try.ntmps37
    go_wp2_with fail
    refine HV.out.mono ?_
    rintro e w1 ⟨rfl, g1⟩
    rw [HVF.out]
    have hb1 := HB0.out.grew g1
    have b0 := hb1.cell 0
    have b1 := hb1.cell 1
    have b2 := hb1.cell 2
    have hbl := hb1.lt
    have hr1 := HRF.out.grew g1
    have r0 := hr1.cell 0
    have r1 := hr1.cell 1
    have hrl := hr1.lt
    have HG1 := Lib.hid (HG0.out.trans g1)
    have HZ1 := Lib.hid (HZ0.out.grew g1)
    clear hb1 hr1 g1
    go_wp2_with fail
    refine (HIX.out w1 HG1.out _ HI.out).mono ?_
    rintro e w2 ⟨rfl, g2⟩
    have hz1 := HZ1.out.grew g2
    have z0 := hz1.cell 0
    have z1 := hz1.cell 1
    have z2 := hz1.cell 2
    have f0 := hz1.frozen 0
    have f1 := hz1.frozen 1
    have f2 := hz1.frozen 2
    have hzl := hz1.lt
    have hg1 := HG1.out.trans g2
    clear hz1 g2 b0 b1 b2 r0 r1
    go_wp2_with fail
    refine bodyPost_ret (by first | (simp [*, results, Try.results37, go_sem]; rfl) | simp [*, results, Try.results37, go_sem]) rfl ?_
    exact ⟨none, 0, [], rfl, TabAt.zero _, by (repeat' first | (with_reducible exact Grew.refl _) | (with_reducible assumption) | (with_reducible refine Grew.alloc ?_ _) | (with_reducible refine Grew.drew ?_) | (with_reducible refine Grew.drewN ?_ _) | (with_reducible refine Grew.setRow ?_ (by first | (simp; done) | (simp; omega) | omega) _) | (with_reducible refine Grew.setCell ?_ (by first | (simp; done) | (simp; omega) | omega) _) | ((with_reducible apply Grew.trans); rotate_left; (with_reducible assumption)) | ((with_reducible apply Grew.turn); rotate_left; (with_reducible assumption); (focus (intro i hi; first | omega | (simp at hi; omega)))) | fail)⟩
  · have HVF := Lib.hid hv
    have HI := Lib.hid hi
    have HHIT := Lib.hid hhit
    obtain ⟨⟨r1, r2⟩, hF⟩ : ∃ r, F k T.labels[k] = r := ⟨_, rfl⟩
    rw [hF] at hx
    have HF := Lib.hid hF
    have hkn : (k : Int) < (T.labels.length : Int) := by omega
    clear hv hi hhit hF
    go_enter Try.func37, Try.ntmps37
    go_wp2_with fail
    refine HV.out.mono ?_
    rintro e w1 ⟨rfl, g1⟩
    rw [HVF.out]
    have hb1 := HB0.out.grew g1
    have b0 := hb1.cell 0
    have b1 := hb1.cell 1
    have b2 := hb1.cell 2
    have hbl := hb1.lt
    have hrr1 := HRF.out.grew g1
    have rr0 := hrr1.cell 0
    have rr1 := hrr1.cell 1
    have hrl := hrr1.lt
    have HG1 := Lib.hid (HG0.out.trans g1)
    have HZ1 := Lib.hid (HZ0.out.grew g1)
    have HB1 := Lib.hid hb1
    clear hb1 hrr1 g1
    go_wp2_with fail
    refine (HIX.out w1 HG1.out _ HI.out).mono ?_
    rintro e w2 ⟨rfl, g2⟩
    have hb2 := HB1.out.grew g2
    clear b0 b1 b2 rr0 rr1
    have b0 := hb2.cell 0
    have b1 := hb2.cell 1
    have b2 := hb2.cell 2
    have hbl2 := hb2.lt
    have HG2 := Lib.hid (HG1.out.trans g2)
    have HZ2 := Lib.hid (HZ1.out.grew g2)
    clear hb2 g2
    go_wp2_with fail
    refine (HCL.out w2 HG2.out).mono ?_
    rintro e w3 ⟨v, ys, rfl, hto, g3⟩
    obtain ⟨g, cap, rfl, hgb, hgs⟩ : ∃ g cap, v = .slice (some ⟨g, 0, none⟩) T.labels.length cap ∧ w2.heap.size ≤ g ∧ g < w3.heap.size := by
      rcases hto.own.form with ⟨_, h0⟩ | ⟨g, cap, hv, h1, h2, _⟩
      · have := congrArg List.length h0; rw [List.length_map, hto.len, List.length_nil] at this; omega
      · rw [List.length_map, hto.len] at hv; exact ⟨g, cap, hv, h1, h2⟩
    have hgx : Grew w3 (w3.alloc (.cells #[.string T.name, .int .i64 T.tracks, .slice (some ⟨g, 0, none⟩) T.labels.length cap] 34)) := (Grew.refl w3).alloc _
    have hg3 := HG2.out.trans g3
    have hz2 := HZ2.out.lt
    have hOut : OutAt w (w3.alloc (.cells #[.string T.name, .int .i64 T.tracks, .slice (some ⟨g, 0, none⟩) T.labels.length cap] 34)) w2.heap.size g cap w3.heap.size ys T :=
      ⟨hg3.trans hgx, by omega, hg3.size, by omega, hto.hold hgx, Blk.new w3 _ _ rfl⟩
    have HCA := Lib.hid (HCC.out _ _ _ _ _ _ k hk HHIT.out hOut)
    have hl1 : k < cap := by have := hto.own.len.2.1; omega
    have HZ3 := Lib.hid ((HZ2.out.grew g3).grew hgx)
    have HG3 := Lib.hid (hg3.trans hgx)
    have HOB := Lib.hid hOut.blk
    have hgne : ¬ w.heap.size + 1 + 1 = g := by omega
    have hxne : ¬ w3.heap.size = g := by omega
    have hzx : w.heap.size + 1 + 1 < w3.heap.size := Nat.lt_of_lt_of_le hz2 g3.size
    have hgw : w.heap.size ≤ g := by omega
    rw [HF.out] at HCA
    clear hto hgx hg3 hOut g3 b0 b1 b2
    go_wp2_with fail
    refine HCA.out.mono ?_
    rintro e w4 ⟨rfl, ⟨ys4, ht4⟩, tu4⟩
    have hz4 := HZ3.out.turned tu4 hgne
    have ho4 := HOB.out.turned tu4 hxne
    have z0 := hz4.cell 0
    have z1 := hz4.cell 1
    have z2 := hz4.cell 2
    have f0 := hz4.frozen 0
    have f1 := hz4.frozen 1
    have f2 := hz4.frozen 2
    have o0 := ho4.cell 0
    have o1 := ho4.cell 1
    have o2 := ho4.cell 2
    have hzl := hz4.lt
    have hol := ho4.lt
    have hg4 : Grew w w4 := HG3.out.turn tu4 (fun i e => by omega)
    have hap := ht4.apart hz4
    have HT4 := Lib.hid ht4
    have HAP := Lib.hid hap
    have HN4 := Lib.hid ht4.nlen
    clear hz4 ho4 tu4 ht4 hap HCA
    rcases hx with ⟨h0, hx⟩ | ⟨h0, hx⟩
    · try simp only at h0
      subst h0
      rw [hx] at hr
      injection hr with h1 h2
      subst h2
      have HT' := Lib.hid h1
      clear hx h1
      go_wp2_with fail
      refine bodyPost_ret (by first | (simp [*, results, Try.results37, go_sem]; rfl) | simp [*, results, Try.results37, go_sem]) rfl ?_
      refine ⟨some ⟨g, 0, none⟩, cap, ys4, by rw [← HT'.out]; simp only [HN4.out], ?_, by (repeat' first | (with_reducible exact Grew.refl _) | (with_reducible assumption) | (with_reducible refine Grew.alloc ?_ _) | (with_reducible refine Grew.drew ?_) | (with_reducible refine Grew.drewN ?_ _) | (with_reducible refine Grew.setRow ?_ (by first | (simp; done) | (simp; omega) | omega) _) | (with_reducible refine Grew.setCell ?_ (by first | (simp; done) | (simp; omega) | omega) _) | ((with_reducible apply Grew.trans); rotate_left; (with_reducible assumption)) | ((with_reducible apply Grew.turn); rotate_left; (with_reducible assumption); (focus (intro i hi; first | omega | (simp at hi; omega)))) | fail)⟩
      rw [← HT'.out]
      exact (HT4.out.turned (S := fun k => k = w.heap.size + 1 + 1) (by (repeat' first | (with_reducible exact Turned.refl _ _) | (with_reducible assumption) | (with_reducible refine Turned.alloc ?_ _) | (with_reducible refine Turned.drew ?_) | (with_reducible refine Turned.drewN ?_ _) | (with_reducible refine Turned.setRow ?_ (by first | (simp; done) | (simp; omega) | omega) _) | (with_reducible refine Turned.setCell ?_ (by first | (simp; done) | (simp; omega) | omega) _) | ((with_reducible apply Turned.andGrew); rotate_left; (with_reducible assumption)) | ((with_reducible apply Turned.trans); rotate_left; (with_reducible assumption)) | fail)) (fun g' e => by have e' : g = g' := Option.some.inj e; omega) (fun y hy h0 b off e => HAP.out y hy h0 b off e)).tabAt _ _ HNM.out.1 HNM.out.2.1 HNM.out.2.2
    · try simp only at h0 hx
      rw [hx] at hr
      injection hr with h1 h2
      subst h1; subst h2
      have hne : (r2 != 0) = true := by rw [bne_iff_ne]; exact h0
      clear hx h0
      go_wp2_with fail
      refine bodyPost_ret (by first | (simp [*, results, Try.results37, go_sem]; rfl) | simp [*, results, Try.results37, go_sem]) rfl ?_
      exact ⟨none, 0, [], rfl, TabAt.zero _, by (repeat' first | (with_reducible exact Grew.refl _) | (with_reducible assumption) | (with_reducible refine Grew.alloc ?_ _) | (with_reducible refine Grew.drew ?_) | (with_reducible refine Grew.drewN ?_ _) | (with_reducible refine Grew.setRow ?_ (by first | (simp; done) | (simp; omega) | omega) _) | (with_reducible refine Grew.setCell ?_ (by first | (simp; done) | (simp; omega) | omega) _) | ((with_reducible apply Grew.trans); rotate_left; (with_reducible assumption)) | ((with_reducible apply Grew.turn); rotate_left; (with_reducible assumption); (focus (intro i hi; first | omega | (simp at hi; omega)))) | fail)⟩
set_option maxRecDepth 100000 in
set_option maxHeartbeats 8000000 in
theorem change_rel (h : TabAt w A c xs T) (hs : SmallT T) (F : Nat → Lab → List Lab × Int)
    (HC : ∀ (w1 : World) (base g cap xo : Nat) (ys : List LabE) (k : Nat) (hk : k < T.labels.length), hitL id unit T.labels[k] = true → OutAt w w1 base g cap xo ys T → Calls Try.prog 87 #[.pointer (some ⟨g, k * 5, none⟩), .pointer (some ⟨xo, 0, none⟩), .pointer (some ⟨p1, 0, none⟩)] w1 (ChgR w1 base g cap T.labels.length (F k T.labels[k])))
    (T' : Tab) (er : Int) (hr : chgT T id unit F = (T', er)) :
    Calls Try.prog 37 #[.agg #[.string T.name, .int .i64 T.tracks, .slice A T.labels.length c], .agg #[.int .i64 id, .int .i64 unit], .func (.func 87) #[] #[.pointer (some ⟨p1, 0, none⟩)]] w (TabR w T' er) := by
  have hg0 := (((Grew.refl w).alloc (.cells #[.string T.name, .int .i64 T.tracks, .slice A T.labels.length c] 34)).alloc (.cells #[.int .i64 id, .int .i64 unit] 37)).alloc (.cells #[.string ⟨#[]⟩, .int .i64 0, .slice none 0 0] 34)
  have hb0 := ((Blk.new w 34 #[.string T.name, .int .i64 T.tracks, .slice A T.labels.length c] rfl).alloc (.cells #[.int .i64 id, .int .i64 unit] 37)).alloc (.cells #[.string ⟨#[]⟩, .int .i64 0, .slice none 0 0] 34)
  have hrf0 := (Blk.new (w.alloc (.cells #[.string T.name, .int .i64 T.tracks, .slice A T.labels.length c] 34)) 37 #[.int .i64 id, .int .i64 unit] (n := w.heap.size + 1) (by simp)).alloc (.cells #[.string ⟨#[]⟩, .int .i64 0, .slice none 0 0] 34)
  have hz0 := Blk.new ((w.alloc (.cells #[.string T.name, .int .i64 T.tracks, .slice A T.labels.length c] 34)).alloc (.cells #[.int .i64 id, .int .i64 unit] 37)) 34 #[.string ⟨#[]⟩, .int .i64 0, .slice none 0 0] (n := w.heap.size + 1 + 1) (by simp)
  have HV := Lib.hid (valid_tab A c xs T _ (h.hold hg0) hs _ rfl)
  have HIX := Lib.hid (fun w2 (g2 : Grew w w2) k hk => cindex_any A c xs T id unit w2 (h.hold g2) hs _ rfl k hk)
  have HCL := Lib.hid (fun w2 (g2 : Grew w w2) => clone_tab A c xs T w2 (h.hold g2) hs _ rfl)
  have HNM := Lib.hid (show T.name.size ≤ 9223372036854775807 ∧ -9223372036854775808 ≤ T.tracks ∧ T.tracks ≤ 9223372036854775807 from ⟨h.name, h.tr0, h.tr1⟩)
  have HCC := Lib.hid HC
  have HG0 := Lib.hid hg0
  have HB0 := Lib.hid hb0
  have HRF := Lib.hid hrf0
  have HZ0 := Lib.hid hz0
  clear h hs HC hg0 hb0 hrf0 hz0
  rcases chgT_cases T id unit F with ⟨hv, hx⟩ | ⟨hv, hi, hx⟩ | ⟨hv, k, hk, hi, hhit, hx⟩
  · rw [hx] at hr
    injection hr with h1 h2
    subst h1; subst h2
    have HVF := Lib.hid hv
    clear hv hx
    go_enter Try.func37, Try.ntmps37
    go_wp2_with fail
    refine HV.out.mono ?_
    rintro e w1 ⟨rfl, g1⟩
    rw [HVF.out]
    have hz1 := HZ0.out.grew g1
    have z0 := hz1.cell 0
    have z1 := hz1.cell 1
    have z2 := hz1.cell 2
    have f0 := hz1.frozen 0
    have f1 := hz1.frozen 1
    have f2 := hz1.frozen 2
    have hzl := hz1.lt
    have hg1 := HG0.out.trans g1
    clear hz1 g1
    go_wp2_with fail
    refine bodyPost_ret (by first | (simp [*, results, Try.results37, go_sem]; rfl) | simp [*, results, Try.results37, go_sem]) rfl ?_
    exact ⟨none, 0, [], rfl, TabAt.zero _, by (repeat' first | (with_reducible exact Grew.refl _) | (with_reducible assumption) | (with_reducible refine Grew.alloc ?_ _) | (with_reducible refine Grew.drew ?_) | (with_reducible refine Grew.drewN ?_ _) | (with_reducible refine Grew.setRow ?_ (by first | (simp; done) | (simp; omega) | omega) _) | (with_reducible refine Grew.setCell ?_ (by first | (simp; done) | (simp; omega) | omega) _) | ((with_reducible apply Grew.trans); rotate_left; (with_reducible assumption)) | ((with_reducible apply Grew.turn); rotate_left; (with_reducible assumption); (focus (intro i hi; first | omega | (simp at hi; omega)))) | fail)⟩
  · rw [hx] at hr
    injection hr with h1 h2
    subst h1; subst h2
    have HVF := Lib.hid hv
    have HI := Lib.hid hi
    clear hv hx hi
    go_enter Try.func37, Try.ntmps37
    go_wp2_with fail
    refine HV.out.mono ?_
    rintro e w1 ⟨rfl, g1⟩
    rw [HVF.out]
    have hb1 := HB0.out.grew g1
    have b0 := hb1.cell 0
    have b1 := hb1.cell 1
    have b2 := hb1.cell 2
    have hbl := hb1.lt
    have hr1 := HRF.out.grew g1
    have r0 := hr1.cell 0
    have r1 := hr1.cell 1
    have hrl := hr1.lt
    have HG1 := Lib.hid (HG0.out.trans g1)
    have HZ1 := Lib.hid (HZ0.out.grew g1)
    clear hb1 hr1 g1
    go_wp2_with fail
    refine (HIX.out w1 HG1.out _ HI.out).mono ?_
    rintro e w2 ⟨rfl, g2⟩
    have hz1 := HZ1.out.grew g2
    have z0 := hz1.cell 0
    have z1 := hz1.cell 1
    have z2 := hz1.cell 2
    have f0 := hz1.frozen 0
    have f1 := hz1.frozen 1
    have f2 := hz1.frozen 2
    have hzl := hz1.lt
    have hg1 := HG1.out.trans g2
    clear hz1 g2 b0 b1 b2 r0 r1
    go_wp2_with fail
    refine bodyPost_ret (by first | (simp [*, results, Try.results37, go_sem]; rfl) | simp [*, results, Try.results37, go_sem]) rfl ?_
    exact ⟨none, 0, [], rfl, TabAt.zero _, by (repeat' first | (with_reducible exact Grew.refl _) | (with_reducible assumption) | (with_reducible refine Grew.alloc ?_ _) | (with_reducible refine Grew.drew ?_) | (with_reducible refine Grew.drewN ?_ _) | (with_reducible refine Grew.setRow ?_ (by first | (simp; done) | (simp; omega) | omega) _) | (with_reducible refine Grew.setCell ?_ (by first | (simp; done) | (simp; omega) | omega) _) | ((with_reducible apply Grew.trans); rotate_left; (with_reducible assumption)) | ((with_reducible apply Grew.turn); rotate_left; (with_reducible assumption); (focus (intro i hi; first | omega | (simp at hi; omega)))) | fail)⟩
  · have HVF := Lib.hid hv
    have HI := Lib.hid hi
    have HHIT := Lib.hid hhit
    obtain ⟨⟨r1, r2⟩, hF⟩ : ∃ r, F k T.labels[k] = r := ⟨_, rfl⟩
    rw [hF] at hx
    have HF := Lib.hid hF
    have hkn : (k : Int) < (T.labels.length : Int) := by omega
    clear hv hi hhit hF
    go_enter Try.func37, Try.ntmps37
    go_wp2_with fail
    refine HV.out.mono ?_
    rintro e w1 ⟨rfl, g1⟩
    rw [HVF.out]
    have hb1 := HB0.out.grew g1
    have b0 := hb1.cell 0
    have b1 := hb1.cell 1
    have b2 := hb1.cell 2
    have hbl := hb1.lt
    have hrr1 := HRF.out.grew g1
    have rr0 := hrr1.cell 0
    have rr1 := hrr1.cell 1
    have hrl := hrr1.lt
    have HG1 := Lib.hid (HG0.out.trans g1)
    have HZ1 := Lib.hid (HZ0.out.grew g1)
    have HB1 := Lib.hid hb1
    clear hb1 hrr1 g1
    go_wp2_with fail
    refine (HIX.out w1 HG1.out _ HI.out).mono ?_
    rintro e w2 ⟨rfl, g2⟩
    have hb2 := HB1.out.grew g2
    clear b0 b1 b2 rr0 rr1
    have b0 := hb2.cell 0
    have b1 := hb2.cell 1
    have b2 := hb2.cell 2
    have hbl2 := hb2.lt
    have HG2 := Lib.hid (HG1.out.trans g2)
    have HZ2 := Lib.hid (HZ1.out.grew g2)
    clear hb2 g2
    go_wp2_with fail
    refine (HCL.out w2 HG2.out).mono ?_
    rintro e w3 ⟨v, ys, rfl, hto, g3⟩
    obtain ⟨g, cap, rfl, hgb, hgs⟩ : ∃ g cap, v = .slice (some ⟨g, 0, none⟩) T.labels.length cap ∧ w2.heap.size ≤ g ∧ g < w3.heap.size := by
      rcases hto.own.form with ⟨_, h0⟩ | ⟨g, cap, hv, h1, h2, _⟩
      · have := congrArg List.length h0; rw [List.length_map, hto.len, List.length_nil] at this; omega
      · rw [List.length_map, hto.len] at hv; exact ⟨g, cap, hv, h1, h2⟩
    have hgx : Grew w3 (w3.alloc (.cells #[.string T.name, .int .i64 T.tracks, .slice (some ⟨g, 0, none⟩) T.labels.length cap] 34)) := (Grew.refl w3).alloc _
    have hg3 := HG2.out.trans g3
    have hz2 := HZ2.out.lt
    have hOut : OutAt w (w3.alloc (.cells #[.string T.name, .int .i64 T.tracks, .slice (some ⟨g, 0, none⟩) T.labels.length cap] 34)) w2.heap.size g cap w3.heap.size ys T :=
      ⟨hg3.trans hgx, by omega, hg3.size, by omega, hto.hold hgx, Blk.new w3 _ _ rfl⟩
    have HCA := Lib.hid (HCC.out _ _ _ _ _ _ k hk HHIT.out hOut)
    have hl1 : k < cap := by have := hto.own.len.2.1; omega
    have HZ3 := Lib.hid ((HZ2.out.grew g3).grew hgx)
    have HG3 := Lib.hid (hg3.trans hgx)
    have HOB := Lib.hid hOut.blk
    have hgne : ¬ w.heap.size + 1 + 1 = g := by omega
    have hxne : ¬ w3.heap.size = g := by omega
    have hzx : w.heap.size + 1 + 1 < w3.heap.size := Nat.lt_of_lt_of_le hz2 g3.size
    have hgw : w.heap.size ≤ g := by omega
    rw [HF.out] at HCA
    clear hto hgx hg3 hOut g3 b0 b1 b2
    go_wp2_with fail
    refine HCA.out.mono ?_
    rintro e w4 ⟨rfl, ⟨ys4, ht4⟩, tu4⟩
    have hz4 := HZ3.out.turned tu4 hgne
    have ho4 := HOB.out.turned tu4 hxne
    have z0 := hz4.cell 0
    have z1 := hz4.cell 1
    have z2 := hz4.cell 2
    have f0 := hz4.frozen 0
    have f1 := hz4.frozen 1
    have f2 := hz4.frozen 2
    have o0 := ho4.cell 0
    have o1 := ho4.cell 1
    have o2 := ho4.cell 2
    have hzl := hz4.lt
    have hol := ho4.lt
    have hg4 : Grew w w4 := HG3.out.turn tu4 (fun i e => by omega)
    have hap := ht4.apart hz4
    have HT4 := Lib.hid ht4
    have HAP := Lib.hid hap
    have HN4 := Lib.hid ht4.nlen
    clear hz4 ho4 tu4 ht4 hap HCA
    rcases hx with ⟨h0, hx⟩ | ⟨h0, hx⟩
    · try simp only at h0
      subst h0
      rw [hx] at hr
      injection hr with h1 h2
      subst h2
      have HT' := Lib.hid h1
      clear hx h1
      go_wp2_with fail
      refine bodyPost_ret (by first | (simp [*, results, Try.results37, go_sem]; rfl) | simp [*, results, Try.results37, go_sem]) rfl ?_
      refine ⟨some ⟨g, 0, none⟩, cap, ys4, by rw [← HT'.out]; simp only [HN4.out], ?_, by (repeat' first | (with_reducible exact Grew.refl _) | (with_reducible assumption) | (with_reducible refine Grew.alloc ?_ _) | (with_reducible refine Grew.drew ?_) | (with_reducible refine Grew.drewN ?_ _) | (with_reducible refine Grew.setRow ?_ (by first | (simp; done) | (simp; omega) | omega) _) | (with_reducible refine Grew.setCell ?_ (by first | (simp; done) | (simp; omega) | omega) _) | ((with_reducible apply Grew.trans); rotate_left; (with_reducible assumption)) | ((with_reducible apply Grew.turn); rotate_left; (with_reducible assumption); (focus (intro i hi; first | omega | (simp at hi; omega)))) | fail)⟩
      rw [← HT'.out]
      exact (HT4.out.turned (S := fun k => k = w.heap.size + 1 + 1) (by (repeat' first | (with_reducible exact Turned.refl _ _) | (with_reducible assumption) | (with_reducible refine Turned.alloc ?_ _) | (with_reducible refine Turned.drew ?_) | (with_reducible refine Turned.drewN ?_ _) | (with_reducible refine Turned.setRow ?_ (by first | (simp; done) | (simp; omega) | omega) _) | (with_reducible refine Turned.setCell ?_ (by first | (simp; done) | (simp; omega) | omega) _) | ((with_reducible apply Turned.andGrew); rotate_left; (with_reducible assumption)) | ((with_reducible apply Turned.trans); rotate_left; (with_reducible assumption)) | fail)) (fun g' e => by have e' : g = g' := Option.some.inj e; omega) (fun y hy h0 b off e => HAP.out y hy h0 b off e)).tabAt _ _ HNM.out.1 HNM.out.2.1 HNM.out.2.2
    · try simp only at h0 hx
      rw [hx] at hr
      injection hr with h1 h2
      subst h1; subst h2
      have hne : (r2 != 0) = true := by rw [bne_iff_ne]; exact h0
      clear hx h0
      go_wp2_with fail
      refine bodyPost_ret (by first | (simp [*, results, Try.results37, go_sem]; rfl) | simp [*, results, Try.results37, go_sem]) rfl ?_
      exact ⟨none, 0, [], rfl, TabAt.zero _, by (repeat' first | (with_reducible exact Grew.refl _) | (with_reducible assumption) | (with_reducible refine Grew.alloc ?_ _) | (with_reducible refine Grew.drew ?_) | (with_reducible refine Grew.drewN ?_ _) | (with_reducible refine Grew.setRow ?_ (by first | (simp; done) | (simp; omega) | omega) _) | (with_reducible refine Grew.setCell ?_ (by first | (simp; done) | (simp; omega) | omega) _) | ((with_reducible apply Grew.trans); rotate_left; (with_reducible assumption)) | ((with_reducible apply Grew.turn); rotate_left; (with_reducible assumption); (focus (intro i hi; first | omega | (simp at hi; omega)))) | fail)⟩
set_option maxRecDepth 100000 in
set_option maxHeartbeats 8000000 in
theorem change_rep (h : TabAt w A c xs T) (hs : SmallT T) (F : Nat → Lab → List Lab × Int)
    (HC : ∀ (w1 : World) (base g cap xo : Nat) (ys : List LabE) (k : Nat) (hk : k < T.labels.length), hitL id unit T.labels[k] = true → OutAt w w1 base g cap xo ys T → Calls Try.prog 89 #[.pointer (some ⟨g, k * 5, none⟩), .pointer (some ⟨xo, 0, none⟩), .pointer (some ⟨p1, 0, none⟩)] w1 (ChgR w1 base g cap T.labels.length (F k T.labels[k])))
    (T' : Tab) (er : Int) (hr : chgT T id unit F = (T', er)) :
    Calls Try.prog 37 #[.agg #[.string T.name, .int .i64 T.tracks, .slice A T.labels.length c], .agg #[.int .i64 id, .int .i64 unit], .func (.func 89) #[] #[.pointer (some ⟨p1, 0, none⟩)]] w (TabR w T' er) := by
  have hg0 := (((Grew.refl w).alloc (.cells #[.string T.name, .int .i64 T.tracks, .slice A T.labels.length c] 34)).alloc (.cells #[.int .i64 id, .int .i64 unit] 37)).alloc (.cells #[.string ⟨#[]⟩, .int .i64 0, .slice none 0 0] 34)
  have hb0 := ((Blk.new w 34 #[.string T.name, .int .i64 T.tracks, .slice A T.labels.length c] rfl).alloc (.cells #[.int .i64 id, .int .i64 unit] 37)).alloc (.cells #[.string ⟨#[]⟩, .int .i64 0, .slice none 0 0] 34)
  have hrf0 := (Blk.new (w.alloc (.cells #[.string T.name, .int .i64 T.tracks, .slice A T.labels.length c] 34)) 37 #[.int .i64 id, .int .i64 unit] (n := w.heap.size + 1) (by simp)).alloc (.cells #[.string ⟨#[]⟩, .int .i64 0, .slice none 0 0] 34)
  have hz0 := Blk.new ((w.alloc (.cells #[.string T.name, .int .i64 T.tracks, .slice A T.labels.length c] 34)).alloc (.cells #[.int .i64 id, .int .i64 unit] 37)) 34 #[.string ⟨#[]⟩, .int .i64 0, .slice none 0 0] (n := w.heap.size + 1 + 1) (by simp)
  have HV := Lib.hid (valid_tab A c xs T _ (h.hold hg0) hs _ rfl)
  have HIX := Lib.hid (fun w2 (g2 : Grew w w2) k hk => cindex_any A c xs T id unit w2 (h.hold g2) hs _ rfl k hk)
  have HCL := Lib.hid (fun w2 (g2 : Grew w w2) => clone_tab A c xs T w2 (h.hold g2) hs _ rfl)
  have HNM := Lib.hid (show T.name.size ≤ 9223372036854775807 ∧ -9223372036854775808 ≤ T.tracks ∧ T.tracks ≤ 9223372036854775807 from ⟨h.name, h.tr0, h.tr1⟩)
  have HCC := Lib.hid HC
  have HG0 := Lib.hid hg0
  have HB0 := Lib.hid hb0
  have HRF := Lib.hid hrf0
  have HZ0 := Lib.hid hz0
  clear h hs HC hg0 hb0 hrf0 hz0
  rcases chgT_cases T id unit F with ⟨hv, hx⟩ | ⟨hv, hi, hx⟩ | ⟨hv, k, hk, hi, hhit, hx⟩
  · rw [hx] at hr
    injection hr with h1 h2
    subst h1; subst h2
    have HVF := Lib.hid hv
    clear hv hx
    go_enter Try.func37, Try.ntmps37
    go_wp2_with fail
    refine HV.out.mono ?_
    rintro e w1 ⟨rfl, g1⟩
    rw [HVF.out]
    have hz1 := HZ0.out.grew g1
    have z0 := hz1.cell 0
    have z1 := hz1.cell 1
    have z2 := hz1.cell 2
    have f0 := hz1.frozen 0
    have f1 := hz1.frozen 1
    have f2 := hz1.frozen 2
    have hzl := hz1.lt
    have hg1 := HG0.out.trans g1
    clear hz1 g1
    go_wp2_with fail
    refine bodyPost_ret (by first | (simp [*, results, Try.results37, go_sem]; rfl) | simp [*, results, Try.results37, go_sem]) rfl ?_
    exact ⟨none, 0, [], rfl, TabAt.zero _, by (repeat' first | (with_reducible exact Grew.refl _) | (with_reducible assumption) | (with_reducible refine Grew.alloc ?_ _) | (with_reducible refine Grew.drew ?_) | (with_reducible refine Grew.drewN ?_ _) | (with_reducible refine Grew.setRow ?_ (by first | (simp; done) | (simp; omega) | omega) _) | (with_reducible refine Grew.setCell ?_ (by first | (simp; done) | (simp; omega) | omega) _) | ((with_reducible apply Grew.trans); rotate_left; (with_reducible assumption)) | ((with_reducible apply Grew.turn); rotate_left; (with_reducible assumption); (focus (intro i hi; first | omega | (simp at hi; omega)))) | fail)⟩
  · rw [hx] at hr
    injection hr with h1 h2
    subst h1; subst h2
    have HVF := Lib.hid hv
    have HI := Lib.hid hi
    clear hv hx hi
    go_enter Try.func37, Try.ntmps37
    go_wp2_with fail
    refine HV.out.mono ?_
    rintro e w1 ⟨rfl, g1⟩
    rw [HVF.out]
    have hb1 := HB0.out.grew g1
    have b0 := hb1.cell 0
    have b1 := hb1.cell 1
    have b2 := hb1.cell 2
    have hbl := hb1.lt
    have hr1 := HRF.out.grew g1
    have r0 := hr1.cell 0
    have r1 := hr1.cell 1
    have hrl := hr1.lt
    have HG1 := Lib.hid (HG0.out.trans g1)
    have HZ1 := Lib.hid (HZ0.out.grew g1)
    clear hb1 hr1 g1
    go_wp2_with fail
    refine (HIX.out w1 HG1.out _ HI.out).mono ?_
    rintro e w2 ⟨rfl, g2⟩
    have hz1 := HZ1.out.grew g2
    have z0 := hz1.cell 0
    have z1 := hz1.cell 1
    have z2 := hz1.cell 2
    have f0 := hz1.frozen 0
    have f1 := hz1.frozen 1
    have f2 := hz1.frozen 2
    have hzl := hz1.lt
    have hg1 := HG1.out.trans g2
    clear hz1 g2 b0 b1 b2 r0 r1
    go_wp2_with fail
    refine bodyPost_ret (by first | (simp [*, results, Try.results37, go_sem]; rfl) | simp [*, results, Try.results37, go_sem]) rfl ?_
    exact ⟨none, 0, [], rfl, TabAt.zero _, by (repeat' first | (with_reducible exact Grew.refl _) | (with_reducible assumption) | (with_reducible refine Grew.alloc ?_ _) | (with_reducible refine Grew.drew ?_) | (with_reducible refine Grew.drewN ?_ _) | (with_reducible refine Grew.setRow ?_ (by first | (simp; done) | (simp; omega) | omega) _) | (with_reducible refine Grew.setCell ?_ (by first | (simp; done) | (simp; omega) | omega) _) | ((with_reducible apply Grew.trans); rotate_left; (with_reducible assumption)) | ((with_reducible apply Grew.turn); rotate_left; (with_reducible assumption); (focus (intro i hi; first | omega | (simp at hi; omega)))) | fail)⟩
  · have HVF := Lib.hid hv
    have HI := Lib.hid hi
    have HHIT := Lib.hid hhit
    obtain ⟨⟨r1, r2⟩, hF⟩ : ∃ r, F k T.labels[k] = r := ⟨_, rfl⟩
    rw [hF] at hx
    have HF := Lib.hid hF
    have hkn : (k : Int) < (T.labels.length : Int) := by omega
    clear hv hi hhit hF
    go_enter Try.func37, Try.ntmps37
    go_wp2_with fail
    refine HV.out.mono ?_
    rintro e w1 ⟨rfl, g1⟩
    rw [HVF.out]
    have hb1 := HB0.out.grew g1
    have b0 := hb1.cell 0
    have b1 := hb1.cell 1
    have b2 := hb1.cell 2
    have hbl := hb1.lt
    have hrr1 := HRF.out.grew g1
    have rr0 := hrr1.cell 0
    have rr1 := hrr1.cell 1
    have hrl := hrr1.lt
    have HG1 := Lib.hid (HG0.out.trans g1)
    have HZ1 := Lib.hid (HZ0.out.grew g1)
    have HB1 := Lib.hid hb1
    clear hb1 hrr1 g1
    go_wp2_with fail
    refine (HIX.out w1 HG1.out _ HI.out).mono ?_
    rintro e w2 ⟨rfl, g2⟩
    have hb2 := HB1.out.grew g2
    clear b0 b1 b2 rr0 rr1
    have b0 := hb2.cell 0
    have b1 := hb2.cell 1
    have b2 := hb2.cell 2
    have hbl2 := hb2.lt
    have HG2 := Lib.hid (HG1.out.trans g2)
    have HZ2 := Lib.hid (HZ1.out.grew g2)
    clear hb2 g2
    go_wp2_with fail
    refine (HCL.out w2 HG2.out).mono ?_
    rintro e w3 ⟨v, ys, rfl, hto, g3⟩
    obtain ⟨g, cap, rfl, hgb, hgs⟩ : ∃ g cap, v = .slice (some ⟨g, 0, none⟩) T.labels.length cap ∧ w2.heap.size ≤ g ∧ g < w3.heap.size := by
      rcases hto.own.form with ⟨_, h0⟩ | ⟨g, cap, hv, h1, h2, _⟩
      · have := congrArg List.length h0; rw [List.length_map, hto.len, List.length_nil] at this; omega
      · rw [List.length_map, hto.len] at hv; exact ⟨g, cap, hv, h1, h2⟩
    have hgx : Grew w3 (w3.alloc (.cells #[.string T.name, .int .i64 T.tracks, .slice (some ⟨g, 0, none⟩) T.labels.length cap] 34)) := (Grew.refl w3).alloc _
    have hg3 := HG2.out.trans g3
    have hz2 := HZ2.out.lt
    have hOut : OutAt w (w3.alloc (.cells #[.string T.name, .int .i64 T.tracks, .slice (some ⟨g, 0, none⟩) T.labels.length cap] 34)) w2.heap.size g cap w3.heap.size ys T :=
      ⟨hg3.trans hgx, by omega, hg3.size, by omega, hto.hold hgx, Blk.new w3 _ _ rfl⟩
    have HCA := Lib.hid (HCC.out _ _ _ _ _ _ k hk HHIT.out hOut)
    have hl1 : k < cap := by have := hto.own.len.2.1; omega
    have HZ3 := Lib.hid ((HZ2.out.grew g3).grew hgx)
    have HG3 := Lib.hid (hg3.trans hgx)
    have HOB := Lib.hid hOut.blk
    have hgne : ¬ w.heap.size + 1 + 1 = g := by omega
    have hxne : ¬ w3.heap.size = g := by omega
    have hzx : w.heap.size + 1 + 1 < w3.heap.size := Nat.lt_of_lt_of_le hz2 g3.size
    have hgw : w.heap.size ≤ g := by omega
    rw [HF.out] at HCA
    clear hto hgx hg3 hOut g3 b0 b1 b2
    go_wp2_with fail
    refine HCA.out.mono ?_
    rintro e w4 ⟨rfl, ⟨ys4, ht4⟩, tu4⟩
    have hz4 := HZ3.out.turned tu4 hgne
    have ho4 := HOB.out.turned tu4 hxne
    have z0 := hz4.cell 0
    have z1 := hz4.cell 1
    have z2 := hz4.cell 2
    have f0 := hz4.frozen 0
    have f1 := hz4.frozen 1
    have f2 := hz4.frozen 2
    have o0 := ho4.cell 0
    have o1 := ho4.cell 1
    have o2 := ho4.cell 2
    have hzl := hz4.lt
    have hol := ho4.lt
    have hg4 : Grew w w4 := HG3.out.turn tu4 (fun i e => by omega)
    have hap := ht4.apart hz4
    have HT4 := Lib.hid ht4
    have HAP := Lib.hid hap
    have HN4 := Lib.hid ht4.nlen
    clear hz4 ho4 tu4 ht4 hap HCA
    rcases hx with ⟨h0, hx⟩ | ⟨h0, hx⟩
    · try simp only at h0
      subst h0
      rw [hx] at hr
      injection hr with h1 h2
      subst h2
      have HT' := Lib.hid h1
      clear hx h1
      go_wp2_with fail
      refine bodyPost_ret (by first | (simp [*, results, Try.results37, go_sem]; rfl) | simp [*, results, Try.results37, go_sem]) rfl ?_
      refine ⟨some ⟨g, 0, none⟩, cap, ys4, by rw [← HT'.out]; simp only [HN4.out], ?_, by (repeat' first | (with_reducible exact Grew.refl _) | (with_reducible assumption) | (with_reducible refine Grew.alloc ?_ _) | (with_reducible refine Grew.drew ?_) | (with_reducible refine Grew.drewN ?_ _) | (with_reducible refine Grew.setRow ?_ (by first | (simp; done) | (simp; omega) | omega) _) | (with_reducible refine Grew.setCell ?_ (by first | (simp; done) | (simp; omega) | omega) _) | ((with_reducible apply Grew.trans); rotate_left; (with_reducible assumption)) | ((with_reducible apply Grew.turn); rotate_left; (with_reducible assumption); (focus (intro i hi; first | omega | (simp at hi; omega)))) | fail)⟩
      rw [← HT'.out]
      exact (HT4.out.turned (S := fun k => k = w.heap.size + 1 + 1) (by (repeat' first | (with_reducible exact Turned.refl _ _) | (with_reducible assumption) | (with_reducible refine Turned.alloc ?_ _) | (with_reducible refine Turned.drew ?_) | (with_reducible refine Turned.drewN ?_ _) | (with_reducible refine Turned.setRow ?_ (by first | (simp; done) | (simp; omega) | omega) _) | (with_reducible refine Turned.setCell ?_ (by first | (simp; done) | (simp; omega) | omega) _) | ((with_reducible apply Turned.andGrew); rotate_left; (with_reducible assumption)) | ((with_reducible apply Turned.trans); rotate_left; (with_reducible assumption)) | fail)) (fun g' e => by have e' : g = g' := Option.some.inj e; omega) (fun y hy h0 b off e => HAP.out y hy h0 b off e)).tabAt _ _ HNM.out.1 HNM.out.2.1 HNM.out.2.2
    · try simp only at h0 hx
      rw [hx] at hr
      injection hr with h1 h2
      subst h1; subst h2
      have hne : (r2 != 0) = true := by rw [bne_iff_ne]; exact h0
      clear hx h0
      go_wp2_with fail
      refine bodyPost_ret (by first | (simp [*, results, Try.results37, go_sem]; rfl) | simp [*, results, Try.results37, go_sem]) rfl ?_
      exact ⟨none, 0, [], rfl, TabAt.zero _, by (repeat' first | (with_reducible exact Grew.refl _) | (with_reducible assumption) | (with_reducible refine Grew.alloc ?_ _) | (with_reducible refine Grew.drew ?_) | (with_reducible refine Grew.drewN ?_ _) | (with_reducible refine Grew.setRow ?_ (by first | (simp; done) | (simp; omega) | omega) _) | (with_reducible refine Grew.setCell ?_ (by first | (simp; done) | (simp; omega) | omega) _) | ((with_reducible apply Grew.trans); rotate_left; (with_reducible assumption)) | ((with_reducible apply Grew.turn); rotate_left; (with_reducible assumption); (focus (intro i hi; first | omega | (simp at hi; omega)))) | fail)⟩
set_option maxRecDepth 100000 in
set_option maxHeartbeats 8000000 in
theorem change_con (h : TabAt w A c xs T) (hs : SmallT T) (F : Nat → Lab → List Lab × Int)
    (HC : ∀ (w1 : World) (base g cap xo : Nat) (ys : List LabE) (k : Nat) (hk : k < T.labels.length), hitL id unit T.labels[k] = true → OutAt w w1 base g cap xo ys T → Calls Try.prog 38 #[.pointer (some ⟨g, k * 5, none⟩), .pointer (some ⟨xo, 0, none⟩), .pointer (some ⟨p1, 0, none⟩), .pointer (some ⟨p2, 0, none⟩)] w1 (ChgR w1 base g cap T.labels.length (F k T.labels[k])))
    (T' : Tab) (er : Int) (hr : chgT T id unit F = (T', er)) :
    Calls Try.prog 37 #[.agg #[.string T.name, .int .i64 T.tracks, .slice A T.labels.length c], .agg #[.int .i64 id, .int .i64 unit], .func (.func 38) #[] #[.pointer (some ⟨p1, 0, none⟩), .pointer (some ⟨p2, 0, none⟩)]] w (TabR w T' er) := by
  have hg0 := (((Grew.refl w).alloc (.cells #[.string T.name, .int .i64 T.tracks, .slice A T.labels.length c] 34)).alloc (.cells #[.int .i64 id, .int .i64 unit] 37)).alloc (.cells #[.string ⟨#[]⟩, .int .i64 0, .slice none 0 0] 34)
  have hb0 := ((Blk.new w 34 #[.string T.name, .int .i64 T.tracks, .slice A T.labels.length c] rfl).alloc (.cells #[.int .i64 id, .int .i64 unit] 37)).alloc (.cells #[.string ⟨#[]⟩, .int .i64 0, .slice none 0 0] 34)
  have hrf0 := (Blk.new (w.alloc (.cells #[.string T.name, .int .i64 T.tracks, .slice A T.labels.length c] 34)) 37 #[.int .i64 id, .int .i64 unit] (n := w.heap.size + 1) (by simp)).alloc (.cells #[.string ⟨#[]⟩, .int .i64 0, .slice none 0 0] 34)
  have hz0 := Blk.new ((w.alloc (.cells #[.string T.name, .int .i64 T.tracks, .slice A T.labels.length c] 34)).alloc (.cells #[.int .i64 id, .int .i64 unit] 37)) 34 #[.string ⟨#[]⟩, .int .i64 0, .slice none 0 0] (n := w.heap.size + 1 + 1) (by simp)
  have HV := Lib.hid (valid_tab A c xs T _ (h.hold hg0) hs _ rfl)
  have HIX := Lib.hid (fun w2 (g2 : Grew w w2) k hk => cindex_any A c xs T id unit w2 (h.hold g2) hs _ rfl k hk)
  have HCL := Lib.hid (fun w2 (g2 : Grew w w2) => clone_tab A c xs T w2 (h.hold g2) hs _ rfl)
  have HNM := Lib.hid (show T.name.size ≤ 9223372036854775807 ∧ -9223372036854775808 ≤ T.tracks ∧ T.tracks ≤ 9223372036854775807 from ⟨h.name, h.tr0, h.tr1⟩)
  have HCC := Lib.hid HC
  have HG0 := Lib.hid hg0
  have HB0 := Lib.hid hb0
  have HRF := Lib.hid hrf0
  have HZ0 := Lib.hid hz0
  clear h hs HC hg0 hb0 hrf0 hz0
  rcases chgT_cases T id unit F with ⟨hv, hx⟩ | ⟨hv, hi, hx⟩ | ⟨hv, k, hk, hi, hhit, hx⟩
  · rw [hx] at hr
    injection hr with h1 h2
    subst h1; subst h2
    have HVF := Lib.hid hv
    clear hv hx
    go_enter Try.func37, Try.ntmps37
    go_wp2_with fail
    refine HV.out.mono ?_
    rintro e w1 ⟨rfl, g1⟩
    rw [HVF.out]
    have hz1 := HZ0.out.grew g1
    have z0 := hz1.cell 0
    have z1 := hz1.cell 1
    have z2 := hz1.cell 2
    have f0 := hz1.frozen 0
    have f1 := hz1.frozen 1
    have f2 := hz1.frozen 2
    have hzl := hz1.lt
    have hg1 := HG0.out.trans g1
    clear hz1 g1
    go_wp2_with fail
    refine bodyPost_ret (by first | (simp [*, results, Try.results37, go_sem]; rfl) | simp [*, results, Try.results37, go_sem]) rfl ?_
    exact ⟨none, 0, [], rfl, TabAt.zero _, by (repeat' first | (with_reducible exact Grew.refl _) | (with_reducible assumption) | (with_reducible refine Grew.alloc ?_ _) | (with_reducible refine Grew.drew ?_) | (with_reducible refine Grew.drewN ?_ _) | (with_reducible refine Grew.setRow ?_ (by first | (simp; done) | (simp; omega) | omega) _) | (with_reducible refine Grew.setCell ?_ (by first | (simp; done) | (simp; omega) | omega) _) | ((with_reducible apply Grew.trans); rotate_left; (with_reducible assumption)) | ((with_reducible apply Grew.turn); rotate_left; (with_reducible assumption); (focus (intro i hi; first | omega | (simp at hi; omega)))) | fail)⟩
  · rw [hx] at hr
    injection hr with h1 h2
    subst h1; subst h2
    have HVF := Lib.hid hv
    have HI := Lib.hid hi
    clear hv hx hi
    go_enter Try.func37, Try.ntmps37
    go_wp2_with fail
    refine HV.out.mono ?_
    rintro e w1 ⟨rfl, g1⟩
    rw [HVF.out]
    have hb1 := HB0.out.grew g1
    have b0 := hb1.cell 0
    have b1 := hb1.cell 1
    have b2 := hb1.cell 2
    have hbl := hb1.lt
    have hr1 := HRF.out.grew g1
    have r0 := hr1.cell 0
    have r1 := hr1.cell 1
    have hrl := hr1.lt
    have HG1 := Lib.hid (HG0.out.trans g1)
    have HZ1 := Lib.hid (HZ0.out.grew g1)
    clear hb1 hr1 g1
    go_wp2_with fail
    refine (HIX.out w1 HG1.out _ HI.out).mono ?_
    rintro e w2 ⟨rfl, g2⟩
    have hz1 := HZ1.out.grew g2
    have z0 := hz1.cell 0
    have z1 := hz1.cell 1
    have z2 := hz1.cell 2
    have f0 := hz1.frozen 0
    have f1 := hz1.frozen 1
    have f2 := hz1.frozen 2
    have hzl := hz1.lt
    have hg1 := HG1.out.trans g2
    clear hz1 g2 b0 b1 b2 r0 r1
    go_wp2_with fail
    refine bodyPost_ret (by first | (simp [*, results, Try.results37, go_sem]; rfl) | simp [*, results, Try.results37, go_sem]) rfl ?_
    exact ⟨none, 0, [], rfl, TabAt.zero _, by (repeat' first | (with_reducible exact Grew.refl _) | (with_reducible assumption) | (with_reducible refine Grew.alloc ?_ _) | (with_reducible refine Grew.drew ?_) | (with_reducible refine Grew.drewN ?_ _) | (with_reducible refine Grew.setRow ?_ (by first | (simp; done) | (simp; omega) | omega) _) | (with_reducible refine Grew.setCell ?_ (by first | (simp; done) | (simp; omega) | omega) _) | ((with_reducible apply Grew.trans); rotate_left; (with_reducible assumption)) | ((with_reducible apply Grew.turn); rotate_left; (with_reducible assumption); (focus (intro i hi; first | omega | (simp at hi; omega)))) | fail)⟩
  · have HVF := Lib.hid hv
    have HI := Lib.hid hi
    have HHIT := Lib.hid hhit
    obtain ⟨⟨r1, r2⟩, hF⟩ : ∃ r, F k T.labels[k] = r := ⟨_, rfl⟩
    rw [hF] at hx
    have HF := Lib.hid hF
    have hkn : (k : Int) < (T.labels.length : Int) := by omega
    clear hv hi hhit hF
    go_enter Try.func37, Try.ntmps37
    go_wp2_with fail
    refine HV.out.mono ?_
    rintro e w1 ⟨rfl, g1⟩
    rw [HVF.out]
    have hb1 := HB0.out.grew g1
    have b0 := hb1.cell 0
    have b1 := hb1.cell 1
    have b2 := hb1.cell 2
    have hbl := hb1.lt
    have hrr1 := HRF.out.grew g1
    have rr0 := hrr1.cell 0
    have rr1 := hrr1.cell 1
    have hrl := hrr1.lt
    have HG1 := Lib.hid (HG0.out.trans g1)
    have HZ1 := Lib.hid (HZ0.out.grew g1)
    have HB1 := Lib.hid hb1
    clear hb1 hrr1 g1
    go_wp2_with fail
    refine (HIX.out w1 HG1.out _ HI.out).mono ?_
    rintro e w2 ⟨rfl, g2⟩
    have hb2 := HB1.out.grew g2
    clear b0 b1 b2 rr0 rr1
    have b0 := hb2.cell 0
    have b1 := hb2.cell 1
    have b2 := hb2.cell 2
    have hbl2 := hb2.lt
    have HG2 := Lib.hid (HG1.out.trans g2)
    have HZ2 := Lib.hid (HZ1.out.grew g2)
    clear hb2 g2
    go_wp2_with fail
    refine (HCL.out w2 HG2.out).mono ?_
    rintro e w3 ⟨v, ys, rfl, hto, g3⟩
    obtain ⟨g, cap, rfl, hgb, hgs⟩ : ∃ g cap, v = .slice (some ⟨g, 0, none⟩) T.labels.length cap ∧ w2.heap.size ≤ g ∧ g < w3.heap.size := by
      rcases hto.own.form with ⟨_, h0⟩ | ⟨g, cap, hv, h1, h2, _⟩
      · have := congrArg List.length h0; rw [List.length_map, hto.len, List.length_nil] at this; omega
      · rw [List.length_map, hto.len] at hv; exact ⟨g, cap, hv, h1, h2⟩
    have hgx : Grew w3 (w3.alloc (.cells #[.string T.name, .int .i64 T.tracks, .slice (some ⟨g, 0, none⟩) T.labels.length cap] 34)) := (Grew.refl w3).alloc _
    have hg3 := HG2.out.trans g3
    have hz2 := HZ2.out.lt
    have hOut : OutAt w (w3.alloc (.cells #[.string T.name, .int .i64 T.tracks, .slice (some ⟨g, 0, none⟩) T.labels.length cap] 34)) w2.heap.size g cap w3.heap.size ys T :=
      ⟨hg3.trans hgx, by omega, hg3.size, by omega, hto.hold hgx, Blk.new w3 _ _ rfl⟩
    have HCA := Lib.hid (HCC.out _ _ _ _ _ _ k hk HHIT.out hOut)
    have hl1 : k < cap := by have := hto.own.len.2.1; omega
    have HZ3 := Lib.hid ((HZ2.out.grew g3).grew hgx)
    have HG3 := Lib.hid (hg3.trans hgx)
    have HOB := Lib.hid hOut.blk
    have hgne : ¬ w.heap.size + 1 + 1 = g := by omega
    have hxne : ¬ w3.heap.size = g := by omega
    have hzx : w.heap.size + 1 + 1 < w3.heap.size := Nat.lt_of_lt_of_le hz2 g3.size
    have hgw : w.heap.size ≤ g := by omega
    rw [HF.out] at HCA
    clear hto hgx hg3 hOut g3 b0 b1 b2
    go_wp2_with fail
    refine HCA.out.mono ?_
    rintro e w4 ⟨rfl, ⟨ys4, ht4⟩, tu4⟩
    have hz4 := HZ3.out.turned tu4 hgne
    have ho4 := HOB.out.turned tu4 hxne
    have z0 := hz4.cell 0
    have z1 := hz4.cell 1
    have z2 := hz4.cell 2
    have f0 := hz4.frozen 0
    have f1 := hz4.frozen 1
    have f2 := hz4.frozen 2
    have o0 := ho4.cell 0
    have o1 := ho4.cell 1
    have o2 := ho4.cell 2
    have hzl := hz4.lt
    have hol := ho4.lt
    have hg4 : Grew w w4 := HG3.out.turn tu4 (fun i e => by omega)
    have hap := ht4.apart hz4
    have HT4 := Lib.hid ht4
    have HAP := Lib.hid hap
    have HN4 := Lib.hid ht4.nlen
    clear hz4 ho4 tu4 ht4 hap HCA
    rcases hx with ⟨h0, hx⟩ | ⟨h0, hx⟩
    · try simp only at h0
      subst h0
      rw [hx] at hr
      injection hr with h1 h2
      subst h2
      have HT' := Lib.hid h1
      clear hx h1
      go_wp2_with fail
      refine bodyPost_ret (by first | (simp [*, results, Try.results37, go_sem]; rfl) | simp [*, results, Try.results37, go_sem]) rfl ?_
      refine ⟨some ⟨g, 0, none⟩, cap, ys4, by rw [← HT'.out]; simp only [HN4.out], ?_, by (repeat' first | (with_reducible exact Grew.refl _) | (with_reducible assumption) | (with_reducible refine Grew.alloc ?_ _) | (with_reducible refine Grew.drew ?_) | (with_reducible refine Grew.drewN ?_ _) | (with_reducible refine Grew.setRow ?_ (by first | (simp; done) | (simp; omega) | omega) _) | (with_reducible refine Grew.setCell ?_ (by first | (simp; done) | (simp; omega) | omega) _) | ((with_reducible apply Grew.trans); rotate_left; (with_reducible assumption)) | ((with_reducible apply Grew.turn); rotate_left; (with_reducible assumption); (focus (intro i hi; first | omega | (simp at hi; omega)))) | fail)⟩
      rw [← HT'.out]
      exact (HT4.out.turned (S := fun k => k = w.heap.size + 1 + 1) (by (repeat' first | (with_reducible exact Turned.refl _ _) | (with_reducible assumption) | (with_reducible refine Turned.alloc ?_ _) | (with_reducible refine Turned.drew ?_) | (with_reducible refine Turned.drewN ?_ _) | (with_reducible refine Turned.setRow ?_ (by first | (simp; done) | (simp; omega) | omega) _) | (with_reducible refine Turned.setCell ?_ (by first | (simp; done) | (simp; omega) | omega) _) | ((with_reducible apply Turned.andGrew); rotate_left; (with_reducible assumption)) | ((with_reducible apply Turned.trans); rotate_left; (with_reducible assumption)) | fail)) (fun g' e => by have e' : g = g' := Option.some.inj e; omega) (fun y hy h0 b off e => HAP.out y hy h0 b off e)).tabAt _ _ HNM.out.1 HNM.out.2.1 HNM.out.2.2
    · try simp only at h0 hx
      rw [hx] at hr
      injection hr with h1 h2
      subst h1; subst h2
      have hne : (r2 != 0) = true := by rw [bne_iff_ne]; exact h0
      clear hx h0
      go_wp2_with fail
      refine bodyPost_ret (by first | (simp [*, results, Try.results37, go_sem]; rfl) | simp [*, results, Try.results37, go_sem]) rfl ?_
      exact ⟨none, 0, [], rfl, TabAt.zero _, by (repeat' first | (with_reducible exact Grew.refl _) | (with_reducible assumption) | (with_reducible refine Grew.alloc ?_ _) | (with_reducible refine Grew.drew ?_) | (with_reducible refine Grew.drewN ?_ _) | (with_reducible refine Grew.setRow ?_ (by first | (simp; done) | (simp; omega) | omega) _) | (with_reducible refine Grew.setCell ?_ (by first | (simp; done) | (simp; omega) | omega) _) | ((with_reducible apply Grew.trans); rotate_left; (with_reducible assumption)) | ((with_reducible apply Grew.turn); rotate_left; (with_reducible assumption); (focus (intro i hi; first | omega | (simp at hi; omega)))) | fail)⟩
set_option maxRecDepth 100000 in
set_option maxHeartbeats 8000000 in
theorem change_note (h : TabAt w A c xs T) (hs : SmallT T) (F : Nat → Lab → List Lab × Int)
    (HC : ∀ (w1 : World) (base g cap xo : Nat) (ys : List LabE) (k : Nat) (hk : k < T.labels.length), hitL id unit T.labels[k] = true → OutAt w w1 base g cap xo ys T → Calls Try.prog 90 #[.pointer (some ⟨g, k * 5, none⟩), .pointer (some ⟨xo, 0, none⟩), .pointer (some ⟨p1, 0, none⟩)] w1 (ChgR w1 base g cap T.labels.length (F k T.labels[k])))
    (T' : Tab) (er : Int) (hr : chgT T id unit F = (T', er)) :
    Calls Try.prog 37 #[.agg #[.string T.name, .int .i64 T.tracks, .slice A T.labels.length c], .agg #[.int .i64 id, .int .i64 unit], .func (.func 90) #[] #[.pointer (some ⟨p1, 0, none⟩)]] w (TabR w T' er) := by
  have hg0 := (((Grew.refl w).alloc (.cells #[.string T.name, .int .i64 T.tracks, .slice A T.labels.length c] 34)).alloc (.cells #[.int .i64 id, .int .i64 unit] 37)).alloc (.cells #[.string ⟨#[]⟩, .int .i64 0, .slice none 0 0] 34)
  have hb0 := ((Blk.new w 34 #[.string T.name, .int .i64 T.tracks, .slice A T.labels.length c] rfl).alloc (.cells #[.int .i64 id, .int .i64 unit] 37)).alloc (.cells #[.string ⟨#[]⟩, .int .i64 0, .slice none 0 0] 34)
  have hrf0 := (Blk.new (w.alloc (.cells #[.string T.name, .int .i64 T.tracks, .slice A T.labels.length c] 34)) 37 #[.int .i64 id, .int .i64 unit] (n := w.heap.size + 1) (by simp)).alloc (.cells #[.string ⟨#[]⟩, .int .i64 0, .slice none 0 0] 34)
  have hz0 := Blk.new ((w.alloc (.cells #[.string T.name, .int .i64 T.tracks, .slice A T.labels.length c] 34)).alloc (.cells #[.int .i64 id, .int .i64 unit] 37)) 34 #[.string ⟨#[]⟩, .int .i64 0, .slice none 0 0] (n := w.heap.size + 1 + 1) (by simp)
  have HV := Lib.hid (valid_tab A c xs T _ (h.hold hg0) hs _ rfl)
  have HIX := Lib.hid (fun w2 (g2 : Grew w w2) k hk => cindex_any A c xs T id unit w2 (h.hold g2) hs _ rfl k hk)
  have HCL := Lib.hid (fun w2 (g2 : Grew w w2) => clone_tab A c xs T w2 (h.hold g2) hs _ rfl)
  have HNM := Lib.hid (show T.name.size ≤ 9223372036854775807 ∧ -9223372036854775808 ≤ T.tracks ∧ T.tracks ≤ 9223372036854775807 from ⟨h.name, h.tr0, h.tr1⟩)
  have HCC := Lib.hid HC
  have HG0 := Lib.hid hg0
  have HB0 := Lib.hid hb0
  have HRF := Lib.hid hrf0
  have HZ0 := Lib.hid hz0
  clear h hs HC hg0 hb0 hrf0 hz0
  rcases chgT_cases T id unit F with ⟨hv, hx⟩ | ⟨hv, hi, hx⟩ | ⟨hv, k, hk, hi, hhit, hx⟩
  · rw [hx] at hr
    injection hr with h1 h2
    subst h1; subst h2
    have HVF := Lib.hid hv
    clear hv hx
    go_enter Try.func37, Try.ntmps37
    go_wp2_with fail
    refine HV.out.mono ?_
    rintro e w1 ⟨rfl, g1⟩
    rw [HVF.out]
    have hz1 := HZ0.out.grew g1
    have z0 := hz1.cell 0
    have z1 := hz1.cell 1
    have z2 := hz1.cell 2
    have f0 := hz1.frozen 0
    have f1 := hz1.frozen 1
    have f2 := hz1.frozen 2
    have hzl := hz1.lt
    have hg1 := HG0.out.trans g1
    clear hz1 g1
    go_wp2_with fail
    refine bodyPost_ret (by first | (simp [*, results, Try.results37, go_sem]; rfl) | simp [*, results, Try.results37, go_sem]) rfl ?_
    exact ⟨none, 0, [], rfl, TabAt.zero _, by (repeat' first | (with_reducible exact Grew.refl _) | (with_reducible assumption) | (with_reducible refine Grew.alloc ?_ _) | (with_reducible refine Grew.drew ?_) | (with_reducible refine Grew.drewN ?_ _) | (with_reducible refine Grew.setRow ?_ (by first | (simp; done) | (simp; omega) | omega) _) | (with_reducible refine Grew.setCell ?_ (by first | (simp; done) | (simp; omega) | omega) _) | ((with_reducible apply Grew.trans); rotate_left; (with_reducible assumption)) | ((with_reducible apply Grew.turn); rotate_left; (with_reducible assumption); (focus (intro i hi; first | omega | (simp at hi; omega)))) | fail)⟩
  · rw [hx] at hr
    injection hr with h1 h2
    subst h1; subst h2
    have HVF := Lib.hid hv
    have HI := Lib.hid hi
    clear hv hx hi
    go_enter Try.func37, Try.ntmps37
    go_wp2_with fail
    refine HV.out.mono ?_
    rintro e w1 ⟨rfl, g1⟩
    rw [HVF.out]
    have hb1 := HB0.out.grew g1
    have b0 := hb1.cell 0
    have b1 := hb1.cell 1
    have b2 := hb1.cell 2
    have hbl := hb1.lt
    have hr1 := HRF.out.grew g1
    have r0 := hr1.cell 0
    have r1 := hr1.cell 1
    have hrl := hr1.lt
    have HG1 := Lib.hid (HG0.out.trans g1)
    have HZ1 := Lib.hid (HZ0.out.grew g1)
    clear hb1 hr1 g1
    go_wp2_with fail
    refine (HIX.out w1 HG1.out _ HI.out).mono ?_
    rintro e w2 ⟨rfl, g2⟩
    have hz1 := HZ1.out.grew g2
    have z0 := hz1.cell 0
    have z1 := hz1.cell 1
    have z2 := hz1.cell 2
    have f0 := hz1.frozen 0
    have f1 := hz1.frozen 1
    have f2 := hz1.frozen 2
    have hzl := hz1.lt
    have hg1 := HG1.out.trans g2
    clear hz1 g2 b0 b1 b2 r0 r1
    go_wp2_with fail
    refine bodyPost_ret (by first | (simp [*, results, Try.results37, go_sem]; rfl) | simp [*, results, Try.results37, go_sem]) rfl ?_
    exact ⟨none, 0, [], rfl, TabAt.zero _, by (repeat' first | (with_reducible exact Grew.refl _) | (with_reducible assumption) | (with_reducible refine Grew.alloc ?_ _) | (with_reducible refine Grew.drew ?_) | (with_reducible refine Grew.drewN ?_ _) | (with_reducible refine Grew.setRow ?_ (by first | (simp; done) | (simp; omega) | omega) _) | (with_reducible refine Grew.setCell ?_ (by first | (simp; done) | (simp; omega) | omega) _) | ((with_reducible apply Grew.trans); rotate_left; (with_reducible assumption)) | ((with_reducible apply Grew.turn); rotate_left; (with_reducible assumption); (focus (intro i hi; first | omega | (simp at hi; omega)))) | fail)⟩
  · have HVF := Lib.hid hv
    have HI := Lib.hid hi
    have HHIT := Lib.hid hhit
    obtain ⟨⟨r1, r2⟩, hF⟩ : ∃ r, F k T.labels[k] = r := ⟨_, rfl⟩
    rw [hF] at hx
    have HF := Lib.hid hF
    have hkn : (k : Int) < (T.labels.length : Int) := by omega
    clear hv hi hhit hF
    go_enter Try.func37, Try.ntmps37
    go_wp2_with fail
    refine HV.out.mono ?_
    rintro e w1 ⟨rfl, g1⟩
    rw [HVF.out]
    have hb1 := HB0.out.grew g1
    have b0 := hb1.cell 0
    have b1 := hb1.cell 1
    have b2 := hb1.cell 2
    have hbl := hb1.lt
    have hrr1 := HRF.out.grew g1
    have rr0 := hrr1.cell 0
    have rr1 := hrr1.cell 1
    have hrl := hrr1.lt
    have HG1 := Lib.hid (HG0.out.trans g1)
    have HZ1 := Lib.hid (HZ0.out.grew g1)
    have HB1 := Lib.hid hb1
    clear hb1 hrr1 g1
    go_wp2_with fail
    refine (HIX.out w1 HG1.out _ HI.out).mono ?_
    rintro e w2 ⟨rfl, g2⟩
    have hb2 := HB1.out.grew g2
    clear b0 b1 b2 rr0 rr1
    have b0 := hb2.cell 0
    have b1 := hb2.cell 1
    have b2 := hb2.cell 2
    have hbl2 := hb2.lt
    have HG2 := Lib.hid (HG1.out.trans g2)
    have HZ2 := Lib.hid (HZ1.out.grew g2)
    clear hb2 g2
    go_wp2_with fail
    refine (HCL.out w2 HG2.out).mono ?_
    rintro e w3 ⟨v, ys, rfl, hto, g3⟩
    obtain ⟨g, cap, rfl, hgb, hgs⟩ : ∃ g cap, v = .slice (some ⟨g, 0, none⟩) T.labels.length cap ∧ w2.heap.size ≤ g ∧ g < w3.heap.size := by
      rcases hto.own.form with ⟨_, h0⟩ | ⟨g, cap, hv, h1, h2, _⟩
      · have := congrArg List.length h0; rw [List.length_map, hto.len, List.length_nil] at this; omega
      · rw [List.length_map, hto.len] at hv; exact ⟨g, cap, hv, h1, h2⟩
    have hgx : Grew w3 (w3.alloc (.cells #[.string T.name, .int .i64 T.tracks, .slice (some ⟨g, 0, none⟩) T.labels.length cap] 34)) := (Grew.refl w3).alloc _
    have hg3 := HG2.out.trans g3
    have hz2 := HZ2.out.lt
    have hOut : OutAt w (w3.alloc (.cells #[.string T.name, .int .i64 T.tracks, .slice (some ⟨g, 0, none⟩) T.labels.length cap] 34)) w2.heap.size g cap w3.heap.size ys T :=
      ⟨hg3.trans hgx, by omega, hg3.size, by omega, hto.hold hgx, Blk.new w3 _ _ rfl⟩
    have HCA := Lib.hid (HCC.out _ _ _ _ _ _ k hk HHIT.out hOut)
    have hl1 : k < cap := by have := hto.own.len.2.1; omega
    have HZ3 := Lib.hid ((HZ2.out.grew g3).grew hgx)
    have HG3 := Lib.hid (hg3.trans hgx)
    have HOB := Lib.hid hOut.blk
    have hgne : ¬ w.heap.size + 1 + 1 = g := by omega
    have hxne : ¬ w3.heap.size = g := by omega
    have hzx : w.heap.size + 1 + 1 < w3.heap.size := Nat.lt_of_lt_of_le hz2 g3.size
    have hgw : w.heap.size ≤ g := by omega
    rw [HF.out] at HCA
    clear hto hgx hg3 hOut g3 b0 b1 b2
    go_wp2_with fail
    refine HCA.out.mono ?_
    rintro e w4 ⟨rfl, ⟨ys4, ht4⟩, tu4⟩
    have hz4 := HZ3.out.turned tu4 hgne
    have ho4 := HOB.out.turned tu4 hxne
    have z0 := hz4.cell 0
    have z1 := hz4.cell 1
    have z2 := hz4.cell 2
    have f0 := hz4.frozen 0
    have f1 := hz4.frozen 1
    have f2 := hz4.frozen 2
    have o0 := ho4.cell 0
    have o1 := ho4.cell 1
    have o2 := ho4.cell 2
    have hzl := hz4.lt
    have hol := ho4.lt
    have hg4 : Grew w w4 := HG3.out.turn tu4 (fun i e => by omega)
    have hap := ht4.apart hz4
    have HT4 := Lib.hid ht4
    have HAP := Lib.hid hap
    have HN4 := Lib.hid ht4.nlen
    clear hz4 ho4 tu4 ht4 hap HCA
    rcases hx with ⟨h0, hx⟩ | ⟨h0, hx⟩
    · try simp only at h0
      subst h0
      rw [hx] at hr
      injection hr with h1 h2
      subst h2
      have HT' := Lib.hid h1
      clear hx h1
      go_wp2_with fail
      refine bodyPost_ret (by first | (simp [*, results, Try.results37, go_sem]; rfl) | simp [*, results, Try.results37, go_sem]) rfl ?_
      refine ⟨some ⟨g, 0, none⟩, cap, ys4, by rw [← HT'.out]; simp only [HN4.out], ?_, by (repeat' first | (with_reducible exact Grew.refl _) | (with_reducible assumption) | (with_reducible refine Grew.alloc ?_ _) | (with_reducible refine Grew.drew ?_) | (with_reducible refine Grew.drewN ?_ _) | (with_reducible refine Grew.setRow ?_ (by first | (simp; done) | (simp; omega) | omega) _) | (with_reducible refine Grew.setCell ?_ (by first | (simp; done) | (simp; omega) | omega) _) | ((with_reducible apply Grew.trans); rotate_left; (with_reducible assumption)) | ((with_reducible apply Grew.turn); rotate_left; (with_reducible assumption); (focus (intro i hi; first | omega | (simp at hi; omega)))) | fail)⟩
      rw [← HT'.out]
      exact (HT4.out.turned (S := fun k => k = w.heap.size + 1 + 1) (by (repeat' first | (with_reducible exact Turned.refl _ _) | (with_reducible assumption) | (with_reducible refine Turned.alloc ?_ _) | (with_reducible refine Turned.drew ?_) | (with_reducible refine Turned.drewN ?_ _) | (with_reducible refine Turned.setRow ?_ (by first | (simp; done) | (simp; omega) | omega) _) | (with_reducible refine Turned.setCell ?_ (by first | (simp; done) | (simp; omega) | omega) _) | ((with_reducible apply Turned.andGrew); rotate_left; (with_reducible assumption)) | ((with_reducible apply Turned.trans); rotate_left; (with_reducible assumption)) | fail)) (fun g' e => by have e' : g = g' := Option.some.inj e; omega) (fun y hy h0 b off e => HAP.out y hy h0 b off e)).tabAt _ _ HNM.out.1 HNM.out.2.1 HNM.out.2.2
    · try simp only at h0 hx
      rw [hx] at hr
      injection hr with h1 h2
      subst h1; subst h2
      have hne : (r2 != 0) = true := by rw [bne_iff_ne]; exact h0
      clear hx h0
      go_wp2_with fail
      refine bodyPost_ret (by first | (simp [*, results, Try.results37, go_sem]; rfl) | simp [*, results, Try.results37, go_sem]) rfl ?_
      exact ⟨none, 0, [], rfl, TabAt.zero _, by (repeat' first | (with_reducible exact Grew.refl _) | (with_reducible assumption) | (with_reducible refine Grew.alloc ?_ _) | (with_reducible refine Grew.drew ?_) | (with_reducible refine Grew.drewN ?_ _) | (with_reducible refine Grew.setRow ?_ (by first | (simp; done) | (simp; omega) | omega) _) | (with_reducible refine Grew.setCell ?_ (by first | (simp; done) | (simp; omega) | omega) _) | ((with_reducible apply Grew.trans); rotate_left; (with_reducible assumption)) | ((with_reducible apply Grew.turn); rotate_left; (with_reducible assumption); (focus (intro i hi; first | omega | (simp at hi; omega)))) | fail)⟩
set_option maxRecDepth 100000 in
set_option maxHeartbeats 8000000 in
theorem change_rem (h : TabAt w A c xs T) (hs : SmallT T) (F : Nat → Lab → List Lab × Int)
    (HC : ∀ (w1 : World) (base g cap xo : Nat) (ys : List LabE) (k : Nat) (hk : k < T.labels.length), hitL id unit T.labels[k] = true → OutAt w w1 base g cap xo ys T → Calls Try.prog 91 #[.pointer (some ⟨g, k * 5, none⟩), .pointer (some ⟨xo, 0, none⟩)] w1 (ChgR w1 base g cap T.labels.length (F k T.labels[k])))
    (T' : Tab) (er : Int) (hr : chgT T id unit F = (T', er)) :
    Calls Try.prog 37 #[.agg #[.string T.name, .int .i64 T.tracks, .slice A T.labels.length c], .agg #[.int .i64 id, .int .i64 unit], .func (.func 91) #[] #[]] w (TabR w T' er) := by
  have hg0 := (((Grew.refl w).alloc (.cells #[.string T.name, .int .i64 T.tracks, .slice A T.labels.length c] 34)).alloc (.cells #[.int .i64 id, .int .i64 unit] 37)).alloc (.cells #[.string ⟨#[]⟩, .int .i64 0, .slice none 0 0] 34)
  have hb0 := ((Blk.new w 34 #[.string T.name, .int .i64 T.tracks, .slice A T.labels.length c] rfl).alloc (.cells #[.int .i64 id, .int .i64 unit] 37)).alloc (.cells #[.string ⟨#[]⟩, .int .i64 0, .slice none 0 0] 34)
  have hrf0 := (Blk.new (w.alloc (.cells #[.string T.name, .int .i64 T.tracks, .slice A T.labels.length c] 34)) 37 #[.int .i64 id, .int .i64 unit] (n := w.heap.size + 1) (by simp)).alloc (.cells #[.string ⟨#[]⟩, .int .i64 0, .slice none 0 0] 34)
  have hz0 := Blk.new ((w.alloc (.cells #[.string T.name, .int .i64 T.tracks, .slice A T.labels.length c] 34)).alloc (.cells #[.int .i64 id, .int .i64 unit] 37)) 34 #[.string ⟨#[]⟩, .int .i64 0, .slice none 0 0] (n := w.heap.size + 1 + 1) (by simp)
  have HV := Lib.hid (valid_tab A c xs T _ (h.hold hg0) hs _ rfl)
  have HIX := Lib.hid (fun w2 (g2 : Grew w w2) k hk => cindex_any A c xs T id unit w2 (h.hold g2) hs _ rfl k hk)
  have HCL := Lib.hid (fun w2 (g2 : Grew w w2) => clone_tab A c xs T w2 (h.hold g2) hs _ rfl)
  have HNM := Lib.hid (show T.name.size ≤ 9223372036854775807 ∧ -9223372036854775808 ≤ T.tracks ∧ T.tracks ≤ 9223372036854775807 from ⟨h.name, h.tr0, h.tr1⟩)
  have HCC := Lib.hid HC
  have HG0 := Lib.hid hg0
  have HB0 := Lib.hid hb0
  have HRF := Lib.hid hrf0
  have HZ0 := Lib.hid hz0
  clear h hs HC hg0 hb0 hrf0 hz0
  rcases chgT_cases T id unit F with ⟨hv, hx⟩ | ⟨hv, hi, hx⟩ | ⟨hv, k, hk, hi, hhit, hx⟩
  · rw [hx] at hr
    injection hr with h1 h2
    subst h1; subst h2
    have HVF := Lib.hid hv
    clear hv hx
    go_enter Try.func37, Try.ntmps37
    go_wp2_with fail
    refine HV.out.mono ?_
    rintro e w1 ⟨rfl, g1⟩
    rw [HVF.out]
    have hz1 := HZ0.out.grew g1
    have z0 := hz1.cell 0
    have z1 := hz1.cell 1
    have z2 := hz1.cell 2
    have f0 := hz1.frozen 0
    have f1 := hz1.frozen 1
    have f2 := hz1.frozen 2
    have hzl := hz1.lt
    have hg1 := HG0.out.trans g1
    clear hz1 g1
    go_wp2_with fail
    refine bodyPost_ret (by first | (simp [*, results, Try.results37, go_sem]; rfl) | simp [*, results, Try.results37, go_sem]) rfl ?_
    exact ⟨none, 0, [], rfl, TabAt.zero _, by (repeat' first | (with_reducible exact Grew.refl _) | (with_reducible assumption) | (with_reducible refine Grew.alloc ?_ _) | (with_reducible refine Grew.drew ?_) | (with_reducible refine Grew.drewN ?_ _) | (with_reducible refine Grew.setRow ?_ (by first | (simp; done) | (simp; omega) | omega) _) | (with_reducible refine Grew.setCell ?_ (by first | (simp; done) | (simp; omega) | omega) _) | ((with_reducible apply Grew.trans); rotate_left; (with_reducible assumption)) | ((with_reducible apply Grew.turn); rotate_left; (with_reducible assumption); (focus (intro i hi; first | omega | (simp at hi; omega)))) | fail)⟩
  · rw [hx] at hr
    injection hr with h1 h2
    subst h1; subst h2
    have HVF := Lib.hid hv
    have HI := Lib.hid hi
    clear hv hx hi
    go_enter Try.func37, Try.ntmps37
    go_wp2_with fail
    refine HV.out.mono ?_
    rintro e w1 ⟨rfl, g1⟩
    rw [HVF.out]
    have hb1 := HB0.out.grew g1
    have b0 := hb1.cell 0
    have b1 := hb1.cell 1
    have b2 := hb1.cell 2
    have hbl := hb1.lt
    have hr1 := HRF.out.grew g1
    have r0 := hr1.cell 0
    have r1 := hr1.cell 1
    have hrl := hr1.lt
    have HG1 := Lib.hid (HG0.out.trans g1)
    have HZ1 := Lib.hid (HZ0.out.grew g1)
    clear hb1 hr1 g1
    go_wp2_with fail
    refine (HIX.out w1 HG1.out _ HI.out).mono ?_
    rintro e w2 ⟨rfl, g2⟩
    have hz1 := HZ1.out.grew g2
    have z0 := hz1.cell 0
    have z1 := hz1.cell 1
    have z2 := hz1.cell 2
    have f0 := hz1.frozen 0
    have f1 := hz1.frozen 1
    have f2 := hz1.frozen 2
    have hzl := hz1.lt
    have hg1 := HG1.out.trans g2
    clear hz1 g2 b0 b1 b2 r0 r1
    go_wp2_with fail
    refine bodyPost_ret (by first | (simp [*, results, Try.results37, go_sem]; rfl) | simp [*, results, Try.results37, go_sem]) rfl ?_
    exact ⟨none, 0, [], rfl, TabAt.zero _, by (repeat' first | (with_reducible exact Grew.refl _) | (with_reducible assumption) | (with_reducible refine Grew.alloc ?_ _) | (with_reducible refine Grew.drew ?_) | (with_reducible refine Grew.drewN ?_ _) | (with_reducible refine Grew.setRow ?_ (by first | (simp; done) | (simp; omega) | omega) _) | (with_reducible refine Grew.setCell ?_ (by first | (simp; done) | (simp; omega) | omega) _) | ((with_reducible apply Grew.trans); rotate_left; (with_reducible assumption)) | ((with_reducible apply Grew.turn); rotate_left; (with_reducible assumption); (focus (intro i hi; first | omega | (simp at hi; omega)))) | fail)⟩
  · have HVF := Lib.hid hv
    have HI := Lib.hid hi
    have HHIT := Lib.hid hhit
    obtain ⟨⟨r1, r2⟩, hF⟩ : ∃ r, F k T.labels[k] = r := ⟨_, rfl⟩
    rw [hF] at hx
    have HF := Lib.hid hF
    have hkn : (k : Int) < (T.labels.length : Int) := by omega
    clear hv hi hhit hF
    go_enter Try.func37, Try.ntmps37
    go_wp2_with fail
    refine HV.out.mono ?_
    rintro e w1 ⟨rfl, g1⟩
    rw [HVF.out]
    have hb1 := HB0.out.grew g1
    have b0 := hb1.cell 0
    have b1 := hb1.cell 1
    have b2 := hb1.cell 2
    have hbl := hb1.lt
    have hrr1 := HRF.out.grew g1
    have rr0 := hrr1.cell 0
    have rr1 := hrr1.cell 1
    have hrl := hrr1.lt
    have HG1 := Lib.hid (HG0.out.trans g1)
    have HZ1 := Lib.hid (HZ0.out.grew g1)
    have HB1 := Lib.hid hb1
    clear hb1 hrr1 g1
    go_wp2_with fail
    refine (HIX.out w1 HG1.out _ HI.out).mono ?_
    rintro e w2 ⟨rfl, g2⟩
    have hb2 := HB1.out.grew g2
    clear b0 b1 b2 rr0 rr1
    have b0 := hb2.cell 0
    have b1 := hb2.cell 1
    have b2 := hb2.cell 2
    have hbl2 := hb2.lt
    have HG2 := Lib.hid (HG1.out.trans g2)
    have HZ2 := Lib.hid (HZ1.out.grew g2)
    clear hb2 g2
    go_wp2_with fail
    refine (HCL.out w2 HG2.out).mono ?_
    rintro e w3 ⟨v, ys, rfl, hto, g3⟩
    obtain ⟨g, cap, rfl, hgb, hgs⟩ : ∃ g cap, v = .slice (some ⟨g, 0, none⟩) T.labels.length cap ∧ w2.heap.size ≤ g ∧ g < w3.heap.size := by
      rcases hto.own.form with ⟨_, h0⟩ | ⟨g, cap, hv, h1, h2, _⟩
      · have := congrArg List.length h0; rw [List.length_map, hto.len, List.length_nil] at this; omega
      · rw [List.length_map, hto.len] at hv; exact ⟨g, cap, hv, h1, h2⟩
    have hgx : Grew w3 (w3.alloc (.cells #[.string T.name, .int .i64 T.tracks, .slice (some ⟨g, 0, none⟩) T.labels.length cap] 34)) := (Grew.refl w3).alloc _
    have hg3 := HG2.out.trans g3
    have hz2 := HZ2.out.lt
    have hOut : OutAt w (w3.alloc (.cells #[.string T.name, .int .i64 T.tracks, .slice (some ⟨g, 0, none⟩) T.labels.length cap] 34)) w2.heap.size g cap w3.heap.size ys T :=
      ⟨hg3.trans hgx, by omega, hg3.size, by omega, hto.hold hgx, Blk.new w3 _ _ rfl⟩
    have HCA := Lib.hid (HCC.out _ _ _ _ _ _ k hk HHIT.out hOut)
    have hl1 : k < cap := by have := hto.own.len.2.1; omega
    have HZ3 := Lib.hid ((HZ2.out.grew g3).grew hgx)
    have HG3 := Lib.hid (hg3.trans hgx)
    have HOB := Lib.hid hOut.blk
    have hgne : ¬ w.heap.size + 1 + 1 = g := by omega
    have hxne : ¬ w3.heap.size = g := by omega
    have hzx : w.heap.size + 1 + 1 < w3.heap.size := Nat.lt_of_lt_of_le hz2 g3.size
    have hgw : w.heap.size ≤ g := by omega
    rw [HF.out] at HCA
    clear hto hgx hg3 hOut g3 b0 b1 b2
    go_wp2_with fail
    refine HCA.out.mono ?_
    rintro e w4 ⟨rfl, ⟨ys4, ht4⟩, tu4⟩
    have hz4 := HZ3.out.turned tu4 hgne
    have ho4 := HOB.out.turned tu4 hxne
    have z0 := hz4.cell 0
    have z1 := hz4.cell 1
    have z2 := hz4.cell 2
    have f0 := hz4.frozen 0
    have f1 := hz4.frozen 1
    have f2 := hz4.frozen 2
    have o0 := ho4.cell 0
    have o1 := ho4.cell 1
    have o2 := ho4.cell 2
    have hzl := hz4.lt
    have hol := ho4.lt
    have hg4 : Grew w w4 := HG3.out.turn tu4 (fun i e => by omega)
    have hap := ht4.apart hz4
    have HT4 := Lib.hid ht4
    have HAP := Lib.hid hap
    have HN4 := Lib.hid ht4.nlen
    clear hz4 ho4 tu4 ht4 hap HCA
    rcases hx with ⟨h0, hx⟩ | ⟨h0, hx⟩
    · try simp only at h0
      subst h0
      rw [hx] at hr
      injection hr with h1 h2
      subst h2
      have HT' := Lib.hid h1
      clear hx h1
      go_wp2_with fail
      refine bodyPost_ret (by first | (simp [*, results, Try.results37, go_sem]; rfl) | simp [*, results, Try.results37, go_sem]) rfl ?_
      refine ⟨some ⟨g, 0, none⟩, cap, ys4, by rw [← HT'.out]; simp only [HN4.out], ?_, by (repeat' first | (with_reducible exact Grew.refl _) | (with_reducible assumption) | (with_reducible refine Grew.alloc ?_ _) | (with_reducible refine Grew.drew ?_) | (with_reducible refine Grew.drewN ?_ _) | (with_reducible refine Grew.setRow ?_ (by first | (simp; done) | (simp; omega) | omega) _) | (with_reducible refine Grew.setCell ?_ (by first | (simp; done) | (simp; omega) | omega) _) | ((with_reducible apply Grew.trans); rotate_left; (with_reducible assumption)) | ((with_reducible apply Grew.turn); rotate_left; (with_reducible assumption); (focus (intro i hi; first | omega | (simp at hi; omega)))) | fail)⟩
      rw [← HT'.out]
      exact (HT4.out.turned (S := fun k => k = w.heap.size + 1 + 1) (by (repeat' first | (with_reducible exact Turned.refl _ _) | (with_reducible assumption) | (with_reducible refine Turned.alloc ?_ _) | (with_reducible refine Turned.drew ?_) | (with_reducible refine Turned.drewN ?_ _) | (with_reducible refine Turned.setRow ?_ (by first | (simp; done) | (simp; omega) | omega) _) | (with_reducible refine Turned.setCell ?_ (by first | (simp; done) | (simp; omega) | omega) _) | ((with_reducible apply Turned.andGrew); rotate_left; (with_reducible assumption)) | ((with_reducible apply Turned.trans); rotate_left; (with_reducible assumption)) | fail)) (fun g' e => by have e' : g = g' := Option.some.inj e; omega) (fun y hy h0 b off e => HAP.out y hy h0 b off e)).tabAt _ _ HNM.out.1 HNM.out.2.1 HNM.out.2.2
    · try simp only at h0 hx
      rw [hx] at hr
      injection hr with h1 h2
      subst h1; subst h2
      have hne : (r2 != 0) = true := by rw [bne_iff_ne]; exact h0
      clear hx h0
      go_wp2_with fail
      refine bodyPost_ret (by first | (simp [*, results, Try.results37, go_sem]; rfl) | simp [*, results, Try.results37, go_sem]) rfl ?_
      exact ⟨none, 0, [], rfl, TabAt.zero _, by (repeat' first | (with_reducible exact Grew.refl _) | (with_reducible assumption) | (with_reducible refine Grew.alloc ?_ _) | (with_reducible refine Grew.drew ?_) | (with_reducible refine Grew.drewN ?_ _) | (with_reducible refine Grew.setRow ?_ (by first | (simp; done) | (simp; omega) | omega) _) | (with_reducible refine Grew.setCell ?_ (by first | (simp; done) | (simp; omega) | omega) _) | ((with_reducible apply Grew.trans); rotate_left; (with_reducible assumption)) | ((with_reducible apply Grew.turn); rotate_left; (with_reducible assumption); (focus (intro i hi; first | omega | (simp at hi; omega)))) | fail)⟩
end
end Go.Proofs.Ytnlaogneceanoaa
