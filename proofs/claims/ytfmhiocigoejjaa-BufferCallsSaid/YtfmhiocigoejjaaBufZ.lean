/- step: a call of the pool and of the reference. -/
import Derived.Test.YtfmhiocigoejjaaBufY
import Derived.Test.YtfmhiocigoejjaaBufR
namespace Go.Proofs.Ytfmhiocigoejjaa
set_option linter.unusedVariables false
set_option linter.unusedSimpArgs false
set_option linter.unusedSectionVars false
open Go.RowKit
def StepQ (w : World) (A : Option Addr) (k : Nat) : Prop := (k < w.heap.size ∨ w.heap.size + 3 ≤ k) ∧ ∀ off sp, A ≠ some ⟨k, off, sp⟩
def StepP (w : World) (base x m : Nat) (cap : Int) (A : Option Addr) (s : St) (S : Nat → Prop) (e : Ending) (w' : World) : Prop :=
  ∃ v' A' c', e = .returned (.tuple #[.agg #[.int .i64 cap, .slice A' s.pages.length c', .int .i64 s.hits, .int .i64 s.misses], .bool true]) ∧ PoolM w' base x m v' cap s.pages s.hits s.misses ∧ PgsAt w' w'.heap.size A' s.pages ∧ s.pages.length ≤ c' ∧ c' ≤ 9223372036854775807 ∧ ApA w' A' x m v' ∧ (A' = A ∨ NewA w.heap.size w'.heap.size A') ∧ Foot S w' x m v' ∧ Turned S w w'
theorem step_end {w w1 w2 w3 : World} {base x m : Nat} {v v1 : Value} {cap h1 ms1 : Int} {L1 : List Pg} {S : Nat → Prop} {A A2 : Option Addr} (c2 : Nat) (hx : x < w.heap.size) (hm : m < w.heap.size) (hp1 : PoolM w1 base x m v1 cap L1 h1 ms1) (hF1 : Foot (fun k => S k ∧ StepQ w A k) w1 x m v1) (hT1 : Turned S w w1) (hsz : w.heap.size + 3 ≤ w1.heap.size)
    (g2 : Grew w1 w2) (hT3 : Turned (fun k => k = w.heap.size + 1 + 1) w2 w3) (hr2 : PgsAt w2 w2.heap.size A2 L1) (hA2 : A2 = A ∨ NewA w1.heap.size w2.heap.size A2) (hap : ApA w A x m v) (hc : L1.length ≤ c2) (hc9 : c2 ≤ 9223372036854775807) :
    StepP w base x m cap A ⟨L1, h1, ms1⟩ S (.returned (.tuple #[.agg #[.int .i64 cap, .slice A2 L1.length c2, .int .i64 h1, .int .i64 ms1], .bool true])) w3 := by
  have hx1 := hp1.blk.lt
  have hm1 := hp1.map.lt
  have hz2 := g2.size
  have hz3 := hT3.size
  have hnb : ∀ b off sp, A2 = some ⟨b, off, sp⟩ → b < w2.heap.size ∧ b ≠ w.heap.size + 1 + 1 ∧ b ≠ x ∧ b ≠ m ∧ v1.ownBlock ≠ some b := by
    intro b off sp e
    rcases hA2 with rfl | hn
    · obtain ⟨a1, a2, a3, _⟩ := hap b off sp e
      exact ⟨by omega, by omega, a2, a3, fun ev => (hF1.own b ev).2.2 off sp e⟩
    · obtain ⟨a1, a2⟩ := hn b off sp e
      exact ⟨a2, by omega, by omega, by omega, fun ev => by have := (hp1.own.own_ge ev).2; omega⟩
  refine ⟨v1, A2, c2, rfl, (hp1.grew g2).kept hT3 (by omega) (by omega) (fun g hg e => ?_), ?_, hc, hc9, fun b off sp e => ?_, hA2.imp id (fun h => h.le (by omega) hz3), ⟨hF1.x.1, hF1.m.1, fun k hk => (hF1.own k hk).1, fun k hk => (hF1.new k (by omega)).1⟩, ?_⟩
  · have := (hF1.own g hg).2.1
    omega
  · exact ListAt.mono (ListAt.turned hr2 hT3 (Nat.le_refl _) (fun b off sp e => (hnb b off sp e).2.1)) hz3
  · obtain ⟨a1, a2, a3, a4, a5⟩ := hnb b off sp e
    exact ⟨by omega, a3, a4, a5⟩
  · exact (hT1.andGrew g2).next hT3 (fun i hi e => absurd hi (by omega))
theorem step_foot {w W : World} {base x m : Nat} {v : Value} {cap h ms : Int} {L : List Pg} {S : Nat → Prop} {A : Option Addr} (hp : PoolM w base x m v cap L h ms) (hF : Foot S w x m v) (hap : ApA w A x m v) (ga : Grew w W) (hW : W.heap.size = w.heap.size + 3) : Foot (fun k => S k ∧ StepQ w A k) W x m v :=
  (hF.grew ga).sub ⟨.inl hp.blk.lt, fun off sp e => (hap x off sp e).2.1 rfl⟩ ⟨.inl hp.map.lt, fun off sp e => (hap m off sp e).2.2.1 rfl⟩ (fun k hk => ⟨.inl (hp.own.own_ge hk).2, fun off sp e => (hap k off sp e).2.2.2 hk⟩) (fun k hk => ⟨.inr (by omega), fun off sp e => by have := (hap k off sp e).1; omega⟩)
set_option maxRecDepth 100000 in
set_option maxHeartbeats 8000000 in
theorem step_any (x m base : Nat) (v : Value) (cap : Int) (s : St) (n : Nat) (o : Opn) (A : Option Addr) (c : Nat) (w : World) (S : Nat → Prop) (hp : PoolM w base x m v cap s.pages s.hits s.misses) (hF : Foot S w x m v) (hs : Sound cap s n) (hn : n ≤ 100000) (hcap : 1 ≤ cap ∧ cap ≤ 4096) (hbw : base ≤ w.heap.size) (hok : okOp o)
    (hr : PgsAt w w.heap.size A s.pages) (hc : s.pages.length ≤ c) (hc9 : c ≤ 9223372036854775807) (hap : ApA w A x m v) :
    Calls Try.prog 22 #[.pointer (some ⟨x, 0, none⟩), .agg #[.int .i64 cap, .slice A s.pages.length c, .int .i64 s.hits, .int .i64 s.misses], .agg #[.int .i64 o.kind, .int .i64 o.id, .int .i64 o.page, .int .i64 o.ver, .string o.data]] w (StepP w base x m cap A (stepO cap s o) S) := by
  obtain ⟨kind, id, page, ver, data⟩ := o
  obtain ⟨L, h, ms⟩ := s
  obtain ⟨k0, k1, k2, k3, k4⟩ := hok
  obtain ⟨s1, s2, s3, s4, s5⟩ := hs
  simp only at *
  have hxl := hp.blk.lt
  have hml := hp.map.lt
  have ga := ((Grew.refl w).alloc (.cells #[.int .i64 cap, .slice A L.length c, .int .i64 h, .int .i64 ms] 54)).alloc (.cells #[.int .i64 kind, .int .i64 id, .int .i64 page, .int .i64 ver, .string data] 38) |>.alloc (.cells #[.int .i64 0, .slice none 0 0, .int .i64 0, .int .i64 0] 54)
  have hPW := hp.grew ga
  have hFW := step_foot hp hF hap ga (by simp)
  have hbx := ((Blk.new w 54 #[.int .i64 cap, .slice A L.length c, .int .i64 h, .int .i64 ms] rfl).alloc (.cells #[.int .i64 kind, .int .i64 id, .int .i64 page, .int .i64 ver, .string data] 38)).alloc (.cells #[.int .i64 0, .slice none 0 0, .int .i64 0, .int .i64 0] 54)
  have hop := (Blk.new (w.alloc (.cells #[.int .i64 cap, .slice A L.length c, .int .i64 h, .int .i64 ms] 54)) 38 #[.int .i64 kind, .int .i64 id, .int .i64 page, .int .i64 ver, .string data] (n := w.heap.size + 1) (by simp)).alloc (.cells #[.int .i64 0, .slice none 0 0, .int .i64 0, .int .i64 0] 54)
  have hrx := (Blk.new ((w.alloc (.cells #[.int .i64 cap, .slice A L.length c, .int .i64 h, .int .i64 ms] 54)).alloc (.cells #[.int .i64 kind, .int .i64 id, .int .i64 page, .int .i64 ver, .string data] 38)) 54 #[.int .i64 0, .slice none 0 0, .int .i64 0, .int .i64 0] (n := w.heap.size + 1 + 1) (by simp))
  have hLW : ListAt (((w.alloc (.cells #[.int .i64 cap, .slice A L.length c, .int .i64 h, .int .i64 ms] 54)).alloc (.cells #[.int .i64 kind, .int .i64 id, .int .i64 page, .int .i64 ver, .string data] 38)).alloc (.cells #[.int .i64 0, .slice none 0 0, .int .i64 0, .int .i64 0] 54)) w.heap.size 4 A (L.map pgC) := hr.hold (Nat.le_refl _) ga
  have hndL := hp.nd
  have HNDL := Lib.hid hndL
  have HTW := fun (S' : Nat → Prop) => Lib.hid (ga.turned S')
  have hbW : base ≤ (((w.alloc (.cells #[.int .i64 cap, .slice A L.length c, .int .i64 h, .int .i64 ms] 54)).alloc (.cells #[.int .i64 kind, .int .i64 id, .int .i64 page, .int .i64 ver, .string data] 38)).alloc (.cells #[.int .i64 0, .slice none 0 0, .int .i64 0, .int .i64 0] 54)).heap.size := by simp; omega
  clear hndL
  by_cases h0 : kind = 0
  · subst h0
    cases hl : look L (id, page) with
    | none =>
      have HST := Lib.hid (show stepO cap ⟨L, h, ms⟩ ⟨0, id, page, ver, data⟩ = ⟨L, h, ms + 1⟩ from by simp [stepO, hl])
      have HG := Lib.hid (get_none x m base v cap h ms L id page _ _ hPW hFW (by omega) hbW ⟨k1, k2⟩ (by omega) hl)
      go_enter Try.func22, Try.ntmps22
      go_wp2_with fail
      refine HG.out.mono ?_
      rintro e w1 ⟨rfl, ⟨v1, hp1, hF1⟩, hT1⟩
      have hz1 : w.heap.size + 3 ≤ w1.heap.size := by have := hT1.size; simp at this; omega
      have hbx1 := hbx.turned hT1 (fun hs => by have := hs.2.1; omega)
      have hop1 := hop.turned hT1 (fun hs => by have := hs.2.1; omega)
      have hrx1 := hrx.turned hT1 (fun hs => by have := hs.2.1; omega)
      have hL1 : PgsAt w1 w1.heap.size A L := ListAt.mono (ListAt.turned hLW hT1 (by simp; omega) (fun b off sp e hs => hs.2.2 off sp e)) (by omega)
      have hTS : Turned S w w1 := ((HTW S).out).trans (hT1.mono (fun k _ hk => hk.1))
      have HP1 := Lib.hid hp1
      have HF1 := Lib.hid hF1
      have HTS := Lib.hid hTS
      have HAP := Lib.hid hap
      have x0 := hbx1.cell 0
      have x1 := hbx1.cell 1
      have x2 := hbx1.cell 2
      have x3 := hbx1.cell 3
      have o0 := hop1.cell 0
      have o1 := hop1.cell 1
      have o2 := hop1.cell 2
      have o3 := hop1.cell 3
      have o4 := hop1.cell 4
      have hl1 := hrx1.lt
      have HR1 := Lib.hid hrx1
      have hL1' := hL1
      have HRC := Lib.hid (rget_none cap A c h ms L id page w1 _ (Nat.le_refl _) hL1' (by omega) (by omega) hl)
      have HL1 := Lib.hid hL1
      clear HG hL1 hL1' hT1 hbx1 hop1 hrx1 hTS hp1 hF1 hp hF hPW hFW hbx hop hrx hLW hr hap hbW
      go_wp2_with fail
      refine HRC.out.mono ?_
      rintro e w2 ⟨rfl, g2⟩
      skip
      have hrx2 := HR1.out.grew g2
      have r0 := hrx2.cell 0
      have r1 := hrx2.cell 1
      have r2 := hrx2.cell 2
      have r3 := hrx2.cell 3
      have q0 := hrx2.frozen 0
      have q1 := hrx2.frozen 1
      have q2 := hrx2.frozen 2
      have q3 := hrx2.frozen 3
      have hl2 := hrx2.lt
      have hz2 := g2.size
      clear hrx2 HRC
      go_wp2_with fail
      refine bodyPost_ret (by first | (simp [*, results, Try.results22, go_sem]; rfl) | simp [*, results, Try.results22, go_sem]) rfl ?_
      rw [HST.out]
      exact step_end c hxl hml HP1.out HF1.out HTS.out hz1 g2 ((((((Turned.refl (fun k => k = w.heap.size + 1 + 1) _).setCell (p := ⟨w.heap.size + 1 + 1, 0, none⟩) (fun _ => rfl) _).setCell (p := ⟨w.heap.size + 1 + 1, 1, none⟩) (fun _ => rfl) _).setCell (p := ⟨w.heap.size + 1 + 1, 2, none⟩) (fun _ => rfl) _).setCell (p := ⟨w.heap.size + 1 + 1, 3, none⟩) (fun _ => rfl) _).alloc _) (HL1.out.to (Nat.le_refl _) g2) (.inl rfl) HAP.out hc hc9
    | some ct =>
      obtain ⟨cs, cu⟩ := ct
      obtain ⟨P, hP⟩ : ∃ P, rmv L (id, page) ++ [((id, page), (cs, cu))] = P := ⟨_, rfl⟩
      have HPP := Lib.hid hP
      have HST := Lib.hid (show stepO cap ⟨L, h, ms⟩ ⟨0, id, page, ver, data⟩ = ⟨P, h + 1, ms⟩ from by rw [← HPP.out]; simp [stepO, hl])
      have hg0 := (get_some x m base v cap h ms L id page cs cu _ _ hPW hFW (by omega) hbW ⟨k1, k2⟩ (by omega) hl)
      rw [hP] at hg0
      have HG := Lib.hid hg0
      clear hg0 hP
      go_enter Try.func22, Try.ntmps22
      go_wp2_with fail
      refine HG.out.mono ?_
      rintro e w1 ⟨rfl, ⟨v1, hp1, hF1⟩, hT1⟩
      have hz1 : w.heap.size + 3 ≤ w1.heap.size := by have := hT1.size; simp at this; omega
      have hbx1 := hbx.turned hT1 (fun hs => by have := hs.2.1; omega)
      have hop1 := hop.turned hT1 (fun hs => by have := hs.2.1; omega)
      have hrx1 := hrx.turned hT1 (fun hs => by have := hs.2.1; omega)
      have hL1 : PgsAt w1 w1.heap.size A L := ListAt.mono (ListAt.turned hLW hT1 (by simp; omega) (fun b off sp e hs => hs.2.2 off sp e)) (by omega)
      have hTS : Turned S w w1 := ((HTW S).out).trans (hT1.mono (fun k _ hk => hk.1))
      have HP1 := Lib.hid hp1
      have HF1 := Lib.hid hF1
      have HTS := Lib.hid hTS
      have HAP := Lib.hid hap
      have x0 := hbx1.cell 0
      have x1 := hbx1.cell 1
      have x2 := hbx1.cell 2
      have x3 := hbx1.cell 3
      have o0 := hop1.cell 0
      have o1 := hop1.cell 1
      have o2 := hop1.cell 2
      have o3 := hop1.cell 3
      have o4 := hop1.cell 4
      have hl1 := hrx1.lt
      have HR1 := Lib.hid hrx1
      have hL1' := hL1
      have hr0 := (rget_some cap A c h ms L id page cs cu w1 _ (Nat.le_refl _) hL1' (by omega) hc hc9 (by omega) HNDL.out hl)
      rw [HPP.out] at hr0
      have HRC := Lib.hid hr0
      clear hr0
      have HL1 := Lib.hid hL1
      clear HG hL1 hL1' hT1 hbx1 hop1 hrx1 hTS hp1 hF1 hp hF hPW hFW hbx hop hrx hLW hr hap hbW
      go_wp2_with fail
      refine HRC.out.mono ?_
      rintro e w2 ⟨A2, c2, rfl, hown2, hc2, hc29, g2⟩
      have HO2 := Lib.hid hown2
      clear hown2
      have hrx2 := HR1.out.grew g2
      have r0 := hrx2.cell 0
      have r1 := hrx2.cell 1
      have r2 := hrx2.cell 2
      have r3 := hrx2.cell 3
      have q0 := hrx2.frozen 0
      have q1 := hrx2.frozen 1
      have q2 := hrx2.frozen 2
      have q3 := hrx2.frozen 3
      have hl2 := hrx2.lt
      have hz2 := g2.size
      clear hrx2 HRC
      go_wp2_with fail
      refine bodyPost_ret (by first | (simp [*, results, Try.results22, go_sem]; rfl) | simp [*, results, Try.results22, go_sem]) rfl ?_
      rw [HST.out]
      exact step_end c2 hxl hml HP1.out HF1.out HTS.out hz1 g2 ((((((Turned.refl (fun k => k = w.heap.size + 1 + 1) _).setCell (p := ⟨w.heap.size + 1 + 1, 0, none⟩) (fun _ => rfl) _).setCell (p := ⟨w.heap.size + 1 + 1, 1, none⟩) (fun _ => rfl) _).setCell (p := ⟨w.heap.size + 1 + 1, 2, none⟩) (fun _ => rfl) _).setCell (p := ⟨w.heap.size + 1 + 1, 3, none⟩) (fun _ => rfl) _).alloc _) (OwnL.listA HO2.out) (.inr HO2.out.newA) HAP.out hc2 hc29
  · have b0 : (kind == 0) = false := beq_eq_false_iff_ne.2 h0
    by_cases h1 : kind = 1
    · subst h1
      have HST := Lib.hid (show stepO cap ⟨L, h, ms⟩ ⟨1, id, page, ver, data⟩ = ⟨putS cap L (id, page) (data, ver), h, ms⟩ from by simp [stepO])
      have HG := Lib.hid (put_any x m base v cap h ms L id page data ver _ _ hPW hFW (by omega) hcap hbW ⟨k1, k2⟩)
      clear h0
      go_enter Try.func22, Try.ntmps22
      go_wp2_with fail
      refine HG.out.mono ?_
      rintro e w1 ⟨rfl, ⟨v1, hp1, hF1⟩, hT1⟩
      have hz1 : w.heap.size + 3 ≤ w1.heap.size := by have := hT1.size; simp at this; omega
      have hbx1 := hbx.turned hT1 (fun hs => by have := hs.2.1; omega)
      have hop1 := hop.turned hT1 (fun hs => by have := hs.2.1; omega)
      have hrx1 := hrx.turned hT1 (fun hs => by have := hs.2.1; omega)
      have hL1 : PgsAt w1 w1.heap.size A L := ListAt.mono (ListAt.turned hLW hT1 (by simp; omega) (fun b off sp e hs => hs.2.2 off sp e)) (by omega)
      have hTS : Turned S w w1 := ((HTW S).out).trans (hT1.mono (fun k _ hk => hk.1))
      have HP1 := Lib.hid hp1
      have HF1 := Lib.hid hF1
      have HTS := Lib.hid hTS
      have HAP := Lib.hid hap
      have x0 := hbx1.cell 0
      have x1 := hbx1.cell 1
      have x2 := hbx1.cell 2
      have x3 := hbx1.cell 3
      have o0 := hop1.cell 0
      have o1 := hop1.cell 1
      have o2 := hop1.cell 2
      have o3 := hop1.cell 3
      have o4 := hop1.cell 4
      have hl1 := hrx1.lt
      have HR1 := Lib.hid hrx1
      have hL1' := hL1
      have HRC := Lib.hid (rput_any cap A c h ms L id page data ver w1 _ (Nat.le_refl _) hL1' (by omega) hc hc9 (by omega) hcap.2 HNDL.out)
      have HL1 := Lib.hid hL1
      clear HG hL1 hL1' hT1 hbx1 hop1 hrx1 hTS hp1 hF1 hp hF hPW hFW hbx hop hrx hLW hr hap hbW
      go_wp2_with fail
      refine HRC.out.mono ?_
      rintro e w2 ⟨A2, c2, rfl, hown2, hc2, hc29, g2⟩
      have HO2 := Lib.hid hown2
      clear hown2
      have hrx2 := HR1.out.grew g2
      have r0 := hrx2.cell 0
      have r1 := hrx2.cell 1
      have r2 := hrx2.cell 2
      have r3 := hrx2.cell 3
      have q0 := hrx2.frozen 0
      have q1 := hrx2.frozen 1
      have q2 := hrx2.frozen 2
      have q3 := hrx2.frozen 3
      have hl2 := hrx2.lt
      have hz2 := g2.size
      clear hrx2 HRC
      go_wp2_with fail
      refine bodyPost_ret (by first | (simp [*, results, Try.results22, go_sem]; rfl) | simp [*, results, Try.results22, go_sem]) rfl ?_
      rw [HST.out]
      exact step_end c2 hxl hml HP1.out HF1.out HTS.out hz1 g2 (((((Turned.refl (fun k => k = w.heap.size + 1 + 1) _).setCell (p := ⟨w.heap.size + 1 + 1, 0, none⟩) (fun _ => rfl) _).setCell (p := ⟨w.heap.size + 1 + 1, 1, none⟩) (fun _ => rfl) _).setCell (p := ⟨w.heap.size + 1 + 1, 2, none⟩) (fun _ => rfl) _).setCell (p := ⟨w.heap.size + 1 + 1, 3, none⟩) (fun _ => rfl) _) (OwnL.listA HO2.out) (.inr HO2.out.newA) HAP.out hc2 hc29
    · have b1 : (kind == 1) = false := beq_eq_false_iff_ne.2 h1
      by_cases h2 : kind = 2
      · subst h2
        have HST := Lib.hid (show stepO cap ⟨L, h, ms⟩ ⟨2, id, page, ver, data⟩ = ⟨invS L (id, page) ver, h, ms⟩ from by simp [stepO])
        have HG := Lib.hid (inv_any x m base v cap h ms L id page ver _ _ hPW hFW (by omega) hbW)
        clear h0 h1
        go_enter Try.func22, Try.ntmps22
        go_wp2_with fail
        refine HG.out.mono ?_
        rintro e w1 ⟨rfl, ⟨v1, hp1, hF1⟩, hT1⟩
        have hz1 : w.heap.size + 3 ≤ w1.heap.size := by have := hT1.size; simp at this; omega
        have hbx1 := hbx.turned hT1 (fun hs => by have := hs.2.1; omega)
        have hop1 := hop.turned hT1 (fun hs => by have := hs.2.1; omega)
        have hrx1 := hrx.turned hT1 (fun hs => by have := hs.2.1; omega)
        have hL1 : PgsAt w1 w1.heap.size A L := ListAt.mono (ListAt.turned hLW hT1 (by simp; omega) (fun b off sp e hs => hs.2.2 off sp e)) (by omega)
        have hTS : Turned S w w1 := ((HTW S).out).trans (hT1.mono (fun k _ hk => hk.1))
        have HP1 := Lib.hid hp1
        have HF1 := Lib.hid hF1
        have HTS := Lib.hid hTS
        have HAP := Lib.hid hap
        have x0 := hbx1.cell 0
        have x1 := hbx1.cell 1
        have x2 := hbx1.cell 2
        have x3 := hbx1.cell 3
        have o0 := hop1.cell 0
        have o1 := hop1.cell 1
        have o2 := hop1.cell 2
        have o3 := hop1.cell 3
        have o4 := hop1.cell 4
        have hl1 := hrx1.lt
        have HR1 := Lib.hid hrx1
        have hL1' := hL1
        have HRC := Lib.hid (rinv_any cap A c h ms L id page ver w1 _ (Nat.le_refl _) hL1' (by omega) hc hc9 HNDL.out)
        have HL1 := Lib.hid hL1
        clear HG hL1 hL1' hT1 hbx1 hop1 hrx1 hTS hp1 hF1 hp hF hPW hFW hbx hop hrx hLW hr hap hbW
        go_wp2_with fail
        refine HRC.out.mono ?_
        rintro e w2 ⟨A2, c2, rfl, hr2, hc2, hc29, hn2, g2⟩
        have HR2 := Lib.hid hr2
        have HN2 := Lib.hid hn2
        clear hr2 hn2
        have hrx2 := HR1.out.grew g2
        have r0 := hrx2.cell 0
        have r1 := hrx2.cell 1
        have r2 := hrx2.cell 2
        have r3 := hrx2.cell 3
        have q0 := hrx2.frozen 0
        have q1 := hrx2.frozen 1
        have q2 := hrx2.frozen 2
        have q3 := hrx2.frozen 3
        have hl2 := hrx2.lt
        have hz2 := g2.size
        clear hrx2 HRC
        go_wp2_with fail
        refine bodyPost_ret (by first | (simp [*, results, Try.results22, go_sem]; rfl) | simp [*, results, Try.results22, go_sem]) rfl ?_
        rw [HST.out]
        exact step_end c2 hxl hml HP1.out HF1.out HTS.out hz1 g2 ((((((Turned.refl (fun k => k = w.heap.size + 1 + 1) _).setCell (p := ⟨w.heap.size + 1 + 1, 0, none⟩) (fun _ => rfl) _).setCell (p := ⟨w.heap.size + 1 + 1, 1, none⟩) (fun _ => rfl) _).setCell (p := ⟨w.heap.size + 1 + 1, 2, none⟩) (fun _ => rfl) _).setCell (p := ⟨w.heap.size + 1 + 1, 3, none⟩) (fun _ => rfl) _).alloc _) HR2.out HN2.out HAP.out hc2 hc29
      · have b2 : (kind == 2) = false := beq_eq_false_iff_ne.2 h2
        by_cases h3 : kind = 3
        · subst h3
          have HST := Lib.hid (show stepO cap ⟨L, h, ms⟩ ⟨3, id, page, ver, data⟩ = ⟨dropS L id, h, ms⟩ from by simp [stepO])
          have HG := Lib.hid (drop_any x m base v cap h ms L id _ _ hPW hFW (by omega) hbW)
          clear h0 h1 h2
          go_enter Try.func22, Try.ntmps22
          go_wp2_with fail
          refine HG.out.mono ?_
          rintro e w1 ⟨rfl, ⟨v1, hp1, hF1⟩, hT1⟩
          have hz1 : w.heap.size + 3 ≤ w1.heap.size := by have := hT1.size; simp at this; omega
          have hbx1 := hbx.turned hT1 (fun hs => by have := hs.2.1; omega)
          have hop1 := hop.turned hT1 (fun hs => by have := hs.2.1; omega)
          have hrx1 := hrx.turned hT1 (fun hs => by have := hs.2.1; omega)
          have hL1 : PgsAt w1 w1.heap.size A L := ListAt.mono (ListAt.turned hLW hT1 (by simp; omega) (fun b off sp e hs => hs.2.2 off sp e)) (by omega)
          have hTS : Turned S w w1 := ((HTW S).out).trans (hT1.mono (fun k _ hk => hk.1))
          have HP1 := Lib.hid hp1
          have HF1 := Lib.hid hF1
          have HTS := Lib.hid hTS
          have HAP := Lib.hid hap
          have x0 := hbx1.cell 0
          have x1 := hbx1.cell 1
          have x2 := hbx1.cell 2
          have x3 := hbx1.cell 3
          have o0 := hop1.cell 0
          have o1 := hop1.cell 1
          have o2 := hop1.cell 2
          have o3 := hop1.cell 3
          have o4 := hop1.cell 4
          have hl1 := hrx1.lt
          have HR1 := Lib.hid hrx1
          have hL1' := hL1
          have HRC := Lib.hid (rdrop_any cap A c h ms L id w1 _ (Nat.le_refl _) hL1' (by omega) hc hc9)
          have HL1 := Lib.hid hL1
          clear HG hL1 hL1' hT1 hbx1 hop1 hrx1 hTS hp1 hF1 hp hF hPW hFW hbx hop hrx hLW hr hap hbW
          go_wp2_with fail
          refine HRC.out.mono ?_
          rintro e w2 ⟨A2, c2, rfl, hr2, hc2, hc29, hn2, g2⟩
          have HR2 := Lib.hid hr2
          have HN2 := Lib.hid hn2
          clear hr2 hn2
          have hrx2 := HR1.out.grew g2
          have r0 := hrx2.cell 0
          have r1 := hrx2.cell 1
          have r2 := hrx2.cell 2
          have r3 := hrx2.cell 3
          have q0 := hrx2.frozen 0
          have q1 := hrx2.frozen 1
          have q2 := hrx2.frozen 2
          have q3 := hrx2.frozen 3
          have hl2 := hrx2.lt
          have hz2 := g2.size
          clear hrx2 HRC
          go_wp2_with fail
          refine bodyPost_ret (by first | (simp [*, results, Try.results22, go_sem]; rfl) | simp [*, results, Try.results22, go_sem]) rfl ?_
          rw [HST.out]
          exact step_end c2 hxl hml HP1.out HF1.out HTS.out hz1 g2 ((((((Turned.refl (fun k => k = w.heap.size + 1 + 1) _).setCell (p := ⟨w.heap.size + 1 + 1, 0, none⟩) (fun _ => rfl) _).setCell (p := ⟨w.heap.size + 1 + 1, 1, none⟩) (fun _ => rfl) _).setCell (p := ⟨w.heap.size + 1 + 1, 2, none⟩) (fun _ => rfl) _).setCell (p := ⟨w.heap.size + 1 + 1, 3, none⟩) (fun _ => rfl) _).alloc _) HR2.out (.inr HN2.out) HAP.out hc2 hc29
        · have b3 : (kind == 3) = false := beq_eq_false_iff_ne.2 h3
          have HST := Lib.hid (show stepO cap ⟨L, h, ms⟩ ⟨kind, id, page, ver, data⟩ = ⟨L, h, ms⟩ from by simp [stepO, h0, h1, h2, h3])
          have HP0 := Lib.hid hp
          have HF0 := Lib.hid hF
          have HAP := Lib.hid hap
          have HR0 := Lib.hid hr
          have gb : Grew w (((w.alloc (.cells #[.int .i64 cap, .slice A L.length c, .int .i64 h, .int .i64 ms] 54)).alloc (.cells #[.int .i64 kind, .int .i64 id, .int .i64 page, .int .i64 ver, .string data] 38)).alloc (.cells #[.int .i64 cap, .slice A L.length c, .int .i64 h, .int .i64 ms] 54)) := (((Grew.refl w).alloc _).alloc _).alloc _
          clear h0 h1 h2 h3 hPW hFW hp hF hr hap hbx hop hrx hLW hbW
          go_enter Try.func22, Try.ntmps22
          go_wp2_with fail
          refine bodyPost_ret (by first | (simp [*, results, Try.results22, go_sem]; rfl) | simp [*, results, Try.results22, go_sem]) rfl ?_
          rw [HST.out]
          exact step_end c hxl hml (HP0.out.grew gb) (step_foot HP0.out HF0.out HAP.out gb (by simp)) (gb.turned S) (by simp) (Grew.refl _) (Turned.refl _ _) (HR0.out.to (Nat.le_refl _) gb) (.inl rfl) HAP.out hc hc9
end Go.Proofs.Ytfmhiocigoejjaa
