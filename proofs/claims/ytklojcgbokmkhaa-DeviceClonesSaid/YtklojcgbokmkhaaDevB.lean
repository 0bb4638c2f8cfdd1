/- Chapter 3: a device in memory. -/
import Derived.Test.YtklojcgbokmkhaaDevA
import Derived.Test.YtklojcgbokmkhaaMap2
import Derived.Test.YtklojcgbokmkhaaOwn2
import Derived.Test.YtklojcgbokmkhaaPush
import Derived.Test.YtklojcgbokmkhaaApp2
import Derived.Test.YtklojcgbokmkhaaOrd3
import Derived.Test.YtklojcgbokmkhaaRow
import Derived.WalkSpells
import Derived.WalkLawsBesides
import Derived.Handy
import Derived.Lib.Hide
import Derived.Deep.LoopGhost
import Derived.Deep.QuietTactic
import Derived.BigQuiet
import Derived.Deep.DeepCutAuto
import Derived.Laws.EntriesVeiled
namespace Go.Proofs.Ytklojcgbokmkhaa
set_option linter.unusedVariables false
set_option linter.unusedSimpArgs false
set_option linter.unusedSectionVars false
open Go.RowKit
open Go.Maps (Keyed)
theorem ret_bool {a b : Bool} (h : a = b) : Ending.returned (.bool a) = .returned (.bool b) := by rw [h]
theorem ret_int {k : IntKind} {a b : Int} (h : a = b) : Ending.returned (.int k a) = .returned (.int k b) := by rw [h]
theorem ret_si {a b : ByteArray} {c d : Int} (h : a = b) (h' : c = d) : Ending.returned (.tuple #[.string a, .int .i64 c]) = .returned (.tuple #[.string b, .int .i64 d]) := by rw [h, h']
def strC (s : ByteArray) : List Value := [.string s]
def intC (n : Int) : List Value := [.int .i64 n]
def wrC (r : Wr) : List Value := [.int .i64 r.sys, .int .i64 (r.sec : Int), .string r.data]
abbrev intV (n : Int) : Value := .int .i64 n
abbrev MapI (w : World) (m : Nat) (F : Int → Option Value) : Prop := MapIs Try.prog 3 intV w m F
theorem intV_inj (a b : Int) (h : intV a = intV b) : a = b := by injection h
theorem int_keyedI : Keyed Try.prog 3 := Go.Maps.int_keyed Try.underlying3
theorem int_key (n : Int) (h : okI n) : ∃ x, keyOf Try.prog 3 (intV n) = some x := ⟨_, Go.Maps.keyOf_int_mk Try.underlying3 (WalkArith.wf_i64 h)⟩
/-- What the map holds of a system's fence. -/
def FenR (v : Option Value) (f : Int) : Prop := (v = none ∧ f = 0) ∨ ∃ e, okI e ∧ v = some (.int .i64 e) ∧ f = clipE e
structure DevP where
  x : Nat
  m : Nat
  vs : Value
  vo : Value
  vp : Value
  vsv : Value
  os : List Value
  set : Bool
  left : Int
  svl : List Int
  E : Int → Option Value
/-- A device in memory. -/
structure DevM (w : World) (q : DevP) (D : Dev) : Prop where
  blk : Blk w q.x 69 #[q.vs, q.vo, q.vp, .map (some q.m), .bool q.set, .int .i64 q.left, q.vsv, .bool D.failed]
  st : OwnL w 0 9 1 q.vs (D.st.map strC)
  old : OwnL w 0 27 1 q.vo (q.os.map fun v => [v])
  olen : q.os.length = D.old.length
  each : ∀ (i : Nat) (v : Value) (l : List ByteArray), q.os[i]? = some v → D.old[i]? = some l → OwnL w 0 9 1 v (l.map strC) ∧ ∀ g, v.ownBlock = some g → q.vs.ownBlock ≠ some g
  pend : OwnL w 0 77 3 q.vp (D.pend.map wrC)
  sv : OwnL w 0 3 1 q.vsv (q.svl.map intC)
  map : MapI w q.m q.E
  fen : ∀ s, 1 ≤ s → s ≤ 4 → FenR (q.E s) (D.fen s)
  fuse : D.fuse = if q.set then some (q.left.toNat, q.svl) else none
  left : 0 ≤ q.left ∧ q.left ≤ 9223372036854775807
  svok : (∀ n ∈ q.svl, okI n) ∧ q.svl.length ≤ 1000000
  ok : D.Ok
/-- The blocks of a device. -/
def DevP.feet (q : DevP) (k : Nat) : Prop := k = q.x ∨ k = q.m ∨ q.vs.ownBlock = some k ∨ q.vo.ownBlock = some k ∨ q.vp.ownBlock = some k ∨ q.vsv.ownBlock = some k ∨ ∃ v ∈ q.os, v.ownBlock = some k
theorem blk_map_ne {w : World} {g m : Nat} {t : TypeId} {cs : Array Value} {F : Int → Option Value} (h : Blk w g t cs) (hm : MapI w m F) : ¬ g = m := by
  rintro rfl
  obtain ⟨es, clock, l, hb, _⟩ := hm
  unfold Blk at h
  rw [h] at hb
  injection hb with hb
  cases hb
theorem own_map_ne {w : World} {base e sz m : Nat} {v : Value} {rows : List (List Value)} {F : Int → Option Value} (h : OwnL w base e sz v rows) (hm : MapI w m F) : v.ownBlock ≠ some m := by
  rcases h.2.2 with ⟨rfl, _⟩ | ⟨g', cap, cur, rfl, _, hh, _⟩
  · simp [Value.ownBlock]
  · intro he
    have e' : g' = m := by simpa [Value.ownBlock] using he
    subst e'
    exact blk_map_ne (t := e) (cs := cur) hh hm rfl
theorem own_own_ne {w : World} {base e sz base' e' sz' : Nat} {v v' : Value} {rows rows' : List (List Value)} (h : OwnL w base e sz v rows) (h' : OwnL w base' e' sz' v' rows') (hne : e ≠ e') : ∀ g, v.ownBlock = some g → v'.ownBlock ≠ some g := by
  intro g hg
  rcases h.2.2 with ⟨rfl, _⟩ | ⟨g', cap, cur, rfl, _, hh, _⟩
  · simp [Value.ownBlock] at hg
  · have e1 : g' = g := by simpa [Value.ownBlock] using hg
    subst e1
    exact h'.ne_blk (t := e) (cs := cur) hh (fun e => hne e.symm)
section
variable {w w' : World} {q : DevP} {D : Dev}
theorem DevM.feet_lt (h : DevM w q D) (k : Nat) (hk : q.feet k) : k < w.heap.size := by
  rcases hk with rfl | rfl | hk | hk | hk | hk | ⟨v, hv, hk⟩
  · exact h.blk.lt
  · exact h.map.lt
  · exact (h.st.own_ge hk).2
  · exact (h.old.own_ge hk).2
  · exact (h.pend.own_ge hk).2
  · exact (h.sv.own_ge hk).2
  · obtain ⟨i, hi, rfl⟩ := List.mem_iff_getElem.1 hv
    have hi' : i < D.old.length := by rw [← h.olen]; exact hi
    exact ((h.each i _ _ (List.getElem?_eq_getElem hi) (List.getElem?_eq_getElem hi')).1.own_ge hk).2
/-- What turns elsewhere leaves a device. -/
theorem DevM.kept (h : DevM w q D) {S : Nat → Prop} (ht : Turned S w w') (hS : ∀ k, q.feet k → ¬ S k) : DevM w' q D := by
  refine ⟨h.blk.turned ht (hS _ (.inl rfl)), h.st.kept ht (fun g hg => hS _ (.inr (.inr (.inl hg)))), h.old.kept ht (fun g hg => hS _ (.inr (.inr (.inr (.inl hg))))), h.olen, fun i v l hv hl => ?_,
    h.pend.kept ht (fun g hg => hS _ (.inr (.inr (.inr (.inr (.inl hg)))))), h.sv.kept ht (fun g hg => hS _ (.inr (.inr (.inr (.inr (.inr (.inl hg))))))), h.map.turned ht (hS _ (.inr (.inl rfl))), h.fen, h.fuse, h.left, h.svok, h.ok⟩
  obtain ⟨h1, h2⟩ := h.each i v l hv hl
  exact ⟨h1.kept ht (fun g hg => hS _ (.inr (.inr (.inr (.inr (.inr (.inr ⟨v, List.mem_of_getElem? hv, hg⟩))))))), h2⟩
theorem DevM.grew (h : DevM w q D) (hg : Grew w w') : DevM w' q D := h.kept (hg.turned (fun _ => False)) (fun _ _ hf => hf)
theorem DevM.st_form (h : DevM w q D) : ∃ g cap, q.vs = .slice (some ⟨g, 0, none⟩) D.st.length cap ∧ g < w.heap.size ∧ D.st.length ≤ cap ∧ cap ≤ 9223372036854775807 ∧ ¬ g = q.x := by
  rcases h.st.form with ⟨_, h0⟩ | ⟨g, cap, hv, _, hlt, h1, h2⟩
  · have := congrArg List.length h0
    have hp := h.ok.pos
    simp at this
    rw [this] at hp; simp at hp
  · rw [List.length_map] at hv h1
    refine ⟨g, cap, hv, hlt, h1, h2, fun e => ?_⟩
    exact h.st.ne_blk h.blk (by decide) (by rw [hv, e]; rfl)
theorem DevM.old_form (h : DevM w q D) : ∃ g cap, q.vo = .slice (some ⟨g, 0, none⟩) D.st.length cap ∧ g < w.heap.size ∧ D.st.length ≤ cap ∧ cap ≤ 9223372036854775807 ∧ ¬ g = q.x := by
  have hlen : q.os.length = D.st.length := by rw [h.olen, h.ok.len]
  rcases h.old.form with ⟨_, h0⟩ | ⟨g, cap, hv, _, hlt, h1, h2⟩
  · have := congrArg List.length h0
    have hp := h.ok.pos
    simp at this
    rw [this] at hlen; simp at hlen; omega
  · rw [List.length_map, hlen] at hv h1
    refine ⟨g, cap, hv, hlt, h1, h2, fun e => ?_⟩
    exact h.old.ne_blk h.blk (by decide) (by rw [hv, e]; rfl)
theorem DevM.st_cell (h : DevM w q D) {g cap : Nat} (hv : q.vs = .slice (some ⟨g, 0, none⟩) D.st.length cap) {i : Nat} (hi : i < D.st.length) : w.cell? ⟨g, i, none⟩ = some (.string (D.at i)) := by
  have := h.st
  rw [hv] at this
  have h2 := this.cell (j := i) (i := 0) (r := strC (D.at i)) (by rw [List.getElem?_map, List.getElem?_eq_getElem hi]; unfold Dev.at; rw [List.getD_eq_getElem?_getD, List.getElem?_eq_getElem hi]; rfl) rfl
  rwa [Nat.mul_one, Nat.add_zero] at h2
theorem DevM.old_at (h : DevM w q D) {i : Nat} (hi : i < D.st.length) : ∃ v, q.os[i]? = some v ∧ OwnL w 0 9 1 v ((D.olds i).map strC) ∧ ∀ g, v.ownBlock = some g → q.vs.ownBlock ≠ some g := by
  have h1 : i < D.old.length := by rw [h.ok.len]; exact hi
  have h2 : i < q.os.length := by rw [h.olen]; exact h1
  refine ⟨q.os[i], List.getElem?_eq_getElem h2, ?_⟩
  have := h.each i _ _ (List.getElem?_eq_getElem h2) (List.getElem?_eq_getElem h1)
  unfold Dev.olds
  rwa [List.getD_eq_getElem?_getD, List.getElem?_eq_getElem h1]
theorem DevM.old_cell (h : DevM w q D) {g cap : Nat} (hv : q.vo = .slice (some ⟨g, 0, none⟩) D.st.length cap) {i : Nat} {v : Value} (hi : q.os[i]? = some v) : w.cell? ⟨g, i, none⟩ = some v := by
  have := h.old
  rw [hv] at this
  have h2 := this.cell (j := i) (i := 0) (r := [v]) (by rw [List.getElem?_map, hi]; rfl) rfl
  rwa [Nat.mul_one, Nat.add_zero] at h2
end
section
variable {w : World} {q : DevP} {D : Dev} (h : DevM w q D)
include h
set_option maxRecDepth 100000 in
set_option maxHeartbeats 1000000 in
theorem sectors_any : Calls Try.prog 29 #[.pointer (some ⟨q.x, 0, none⟩)] w fun e w' => e = .returned (.int .i64 (D.st.length : Int)) ∧ w = w' := by
  obtain ⟨g, cap, hv, hg, h1, h2, h3⟩ := h.st_form
  have hb := h.blk
  rw [hv] at hb
  have hxl := hb.lt
  have x0 := hb.cell 0
  clear h hv
  go_enter Try.func29, Try.ntmps29
  go_wp2_with fail
  go_ret
  exact ⟨rfl, rfl⟩
set_option maxRecDepth 100000 in
set_option maxHeartbeats 1000000 in
theorem failed_any : Calls Try.prog 30 #[.pointer (some ⟨q.x, 0, none⟩)] w fun e w' => e = .returned (.bool D.failed) ∧ w = w' := by
  have hb := h.blk
  have hxl := hb.lt
  have x0 := hb.cell 7
  clear h
  go_enter Try.func30, Try.ntmps30
  go_wp2_with fail
  go_ret
  exact ⟨rfl, rfl⟩
set_option maxRecDepth 100000 in
set_option maxHeartbeats 1000000 in
theorem there_any (i : Int) (b : Bool) (hb : thereD D i = b) : Calls Try.prog 35 #[.pointer (some ⟨q.x, 0, none⟩), .int .i64 i] w fun e w' => e = .returned (.bool b) ∧ w = w' := by
  obtain ⟨g, cap, hv, hg, h1, h2, h3⟩ := h.st_form
  have hk := h.blk
  rw [hv] at hk
  have hxl := hk.lt
  have x0 := hk.cell 0
  subst hb
  have HB := Lib.hid (show thereD D i = decide (0 ≤ i ∧ i < (D.st.length : Int)) from rfl)
  generalize thereD D i = b at *
  clear h hv
  by_cases h0 : 0 ≤ i
  · by_cases h1 : i < (D.st.length : Int)
    · go_enter Try.func35, Try.ntmps35
      go_wp2_with fail
      go_ret
      exact ⟨ret_bool (by rw [HB.out, decide_eq_true ⟨h0, h1⟩]), rfl⟩
    · go_enter Try.func35, Try.ntmps35
      go_wp2_with fail
      go_ret
      exact ⟨ret_bool (by rw [HB.out, decide_eq_false (by omega)]), rfl⟩
  · go_enter Try.func35, Try.ntmps35
    go_wp2_with fail
    go_ret
    exact ⟨ret_bool (by rw [HB.out, decide_eq_false (by omega)]), rfl⟩
set_option maxRecDepth 100000 in
set_option maxHeartbeats 1000000 in
theorem old_any (i : Int) : Calls Try.prog 21 #[.pointer (some ⟨q.x, 0, none⟩), .int .i64 i] w fun e w' => e = .returned (.int .i64 (earlierD D i : Int)) ∧ w = w' := by
  have HT := Lib.hid (fun b hb => there_any h i b hb)
  cases hb : thereD D i with
  | false =>
    have HE := Lib.hid (show earlierD D i = 0 from by unfold earlierD; rw [hb]; rfl)
    have HB := Lib.hid hb
    clear hb h
    go_enter Try.func21, Try.ntmps21
    go_wp2_with fail
    refine (HT.out false HB.out).mono ?_
    rintro e w1 ⟨rfl, rfl⟩
    go_wp2_with fail
    go_ret
    exact ⟨ret_int (by rw [HE.out]; rfl), rfl⟩
  | true =>
    have HB := Lib.hid hb
    have h0 := of_decide_eq_true hb
    obtain ⟨k, rfl⟩ : ∃ k : Nat, i = (k : Int) := ⟨i.toNat, by omega⟩
    have HE := Lib.hid (show earlierD D (k : Int) = (D.olds k).length from by unfold earlierD; rw [hb]; rfl)
    obtain ⟨g, cap, hv, hg, h1, h2, h3⟩ := h.old_form
    have hkl : k < D.st.length := by omega
    obtain ⟨v, hv1, hown, _⟩ := h.old_at hkl
    have y0 := h.old_cell hv hv1
    have hk := h.blk
    rw [hv] at hk
    have hxl := hk.lt
    have x0 := hk.cell 1
    have hol := olds_len h.ok k
    clear hb h hv hv1
    rcases hown.form with ⟨rfl, he⟩ | ⟨g2, cap2, rfl, _, hlt2, h12, h22⟩
    · have HZ := Lib.hid (show (D.olds k).length = 0 from by have := congrArg List.length he; simpa using this)
      clear he hown
      go_enter Try.func21, Try.ntmps21
      go_wp2_with fail
      refine (HT.out true HB.out).mono ?_
      rintro e w1 ⟨rfl, rfl⟩
      go_wp2_with fail
      go_ret
      exact ⟨ret_int (by rw [HE.out, HZ.out]; rfl), rfl⟩
    · rw [List.length_map] at y0 h12
      clear hown
      go_enter Try.func21, Try.ntmps21
      go_wp2_with fail
      refine (HT.out true HB.out).mono ?_
      rintro e w1 ⟨rfl, rfl⟩
      go_wp2_with fail
      go_ret
      exact ⟨ret_int (by rw [HE.out]), rfl⟩
end
end Go.Proofs.Ytklojcgbokmkhaa
