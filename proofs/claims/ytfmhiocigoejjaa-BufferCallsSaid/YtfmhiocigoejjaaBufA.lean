/- Places as keys of a map; the predicates that the pool hands on. -/
import Derived.Test.YtfmhiocigoejjaaMap
import Derived.Test.YtfmhiocigoejjaaOwn2
import Derived.Test.YtfmhiocigoejjaaPush
import Derived.WalkSpells
import Derived.WalkLawsBesides
import Derived.Handy
import Derived.Lib.Hide
import Derived.Deep.LoopGhost
import Derived.Deep.QuietTactic
import Derived.BigQuiet
import Derived.Deep.DeepCutAuto
import Derived.DeepKeys4
import Derived.Laws.EntriesVeiled
import Derived.Deep.RegionHeld3
namespace Go.Proofs.Ytfmhiocigoejjaa
set_option linter.unusedVariables false
set_option linter.unusedSimpArgs false
set_option linter.unusedSectionVars false
open Go.RowKit
open Go.Maps (Keyed)
abbrev Place := Int × Int
def placeV (p : Place) : Value := .agg #[.int .i64 p.1, .int .i64 p.2]
def placeC (p : Place) : List Value := [.int .i64 p.1, .int .i64 p.2]
def okInt (n : Int) : Prop := -9223372036854775808 ≤ n ∧ n ≤ 9223372036854775807
def okPlace (p : Place) : Prop := okInt p.1 ∧ okInt p.2
theorem place_inj (a b : Place) (h : placeV a = placeV b) : a = b := by
  unfold placeV at h
  injection h with h
  injection h with h
  injection h with h1 h2
  injection h2 with h2 _
  injection h1 with _ h1
  injection h2 with _ h2
  exact Prod.ext h1 h2
theorem okInt_wf {n : Int} (h : okInt n) : (Lit.int .i64 n).wf = true := WalkArith.wf_i64 h
theorem types_pos : ∃ m, Try.prog.types.size = m + 1 := ⟨96, by kernel_rfl⟩
theorem place_keyed : Keyed Try.prog 40 := Keyed.of_law (deep_law_laid (by kernel_rfl) (m := 2) (by omega) (of_decide_eq_true (by kernel_rfl)) (by kernel_rfl) (by kernel_rfl))
theorem place_keyType : Try.prog.keyType 40 = true := by kernel_rfl
theorem place_cells : Try.prog.cellsOf 40 = 2 := by kernel_rfl
theorem int_cells : Try.prog.cellsOf 3 = 1 := by kernel_rfl
theorem place_key (p : Place) (h : okPlace p) : ∃ x, keyOf Try.prog 40 (placeV p) = some x := by
  obtain ⟨a, b⟩ := p
  have wa := okInt_wf h.1
  have wb := okInt_wf h.2
  obtain ⟨m, hm⟩ := types_pos
  refine ⟨.string (keyBytes [.int .i64 a, .int .i64 b]), ?_⟩
  unfold keyOf placeV
  simp only [Try.underlying40]
  rw [if_pos (by simp [place_keyType, Value.formed, Try.underlying40, place_cells]), hm]
  unfold Program.keyLits
  simp only [Try.underlying40, Value.cells]
  rw [if_pos (by rw [place_cells]; exact ⟨rfl, by kernel_rfl⟩)]
  simp [Program.keyLits, Try.underlying3, int_cells, wa, wb]
theorem ret_bool {a b : Bool} (h : a = b) : Ending.returned (.bool a) = .returned (.bool b) := by rw [h]
theorem ret_int {k : IntKind} {a b : Int} (h : a = b) : Ending.returned (.int k a) = .returned (.int k b) := by rw [h]
set_option maxRecDepth 100000 in
set_option maxHeartbeats 1000000 in
theorem use1_any (a b c d : Int) (g : Nat) (W : World) (hb : Blk W g 40 #[.int .i64 c, .int .i64 d]) :
    Calls Try.prog 34 #[.agg #[.int .i64 a, .int .i64 b], .pointer (some ⟨g, 0, none⟩)] W fun e w' => e = .returned (.bool (decide ((a, b) = (c, d)))) ∧ Grew W w' := by
  have hlt := hb.lt
  have x0 := hb.cell 0
  have x1 := hb.cell 1
  by_cases h1 : a = c
  · by_cases h2 : b = d
    · subst h1; subst h2
      go_enter Try.func34, Try.ntmps34
      go_wp2
      go_ret
      exact ⟨ret_bool (by simp), by (repeat' first | (with_reducible exact Grew.refl _) | (with_reducible assumption) | (with_reducible refine Grew.alloc ?_ _) | (with_reducible refine Grew.drew ?_) | (with_reducible refine Grew.drewN ?_ _) | (with_reducible refine Grew.setRow ?_ (by first | (simp; done) | (simp; omega) | omega) _) | (with_reducible refine Grew.setCell ?_ (by first | (simp; done) | (simp; omega) | omega) _) | ((with_reducible apply Grew.trans); rotate_left; (with_reducible assumption)) | ((with_reducible apply Grew.turn); rotate_left; (with_reducible assumption); (focus (intro i hi; first | omega | (simp at hi; omega)))) | fail)⟩
    · have HD := Lib.hid (show decide ((a, b) = (c, d)) = false from by simp [h2])
      go_enter Try.func34, Try.ntmps34
      go_wp2
      go_ret
      exact ⟨ret_bool (by rw [HD.out]), by (repeat' first | (with_reducible exact Grew.refl _) | (with_reducible assumption) | (with_reducible refine Grew.alloc ?_ _) | (with_reducible refine Grew.drew ?_) | (with_reducible refine Grew.drewN ?_ _) | (with_reducible refine Grew.setRow ?_ (by first | (simp; done) | (simp; omega) | omega) _) | (with_reducible refine Grew.setCell ?_ (by first | (simp; done) | (simp; omega) | omega) _) | ((with_reducible apply Grew.trans); rotate_left; (with_reducible assumption)) | ((with_reducible apply Grew.turn); rotate_left; (with_reducible assumption); (focus (intro i hi; first | omega | (simp at hi; omega)))) | fail)⟩
  · have HD := Lib.hid (show decide ((a, b) = (c, d)) = false from by simp [h1])
    go_enter Try.func34, Try.ntmps34
    go_wp2
    go_ret
    exact ⟨ret_bool (by rw [HD.out]), by (repeat' first | (with_reducible exact Grew.refl _) | (with_reducible assumption) | (with_reducible refine Grew.alloc ?_ _) | (with_reducible refine Grew.drew ?_) | (with_reducible refine Grew.drewN ?_ _) | (with_reducible refine Grew.setRow ?_ (by first | (simp; done) | (simp; omega) | omega) _) | (with_reducible refine Grew.setCell ?_ (by first | (simp; done) | (simp; omega) | omega) _) | ((with_reducible apply Grew.trans); rotate_left; (with_reducible assumption)) | ((with_reducible apply Grew.turn); rotate_left; (with_reducible assumption); (focus (intro i hi; first | omega | (simp at hi; omega)))) | fail)⟩
set_option maxRecDepth 100000 in
set_option maxHeartbeats 1000000 in
theorem put1_any (a b c d : Int) (g : Nat) (W : World) (hb : Blk W g 40 #[.int .i64 c, .int .i64 d]) :
    Calls Try.prog 33 #[.agg #[.int .i64 a, .int .i64 b], .pointer (some ⟨g, 0, none⟩)] W fun e w' => e = .returned (.bool (decide ((a, b) = (c, d)))) ∧ Grew W w' := by
  have hlt := hb.lt
  have x0 := hb.cell 0
  have x1 := hb.cell 1
  by_cases h1 : a = c
  · by_cases h2 : b = d
    · subst h1; subst h2
      go_enter Try.func33, Try.ntmps33
      go_wp2
      go_ret
      exact ⟨ret_bool (by simp), by (repeat' first | (with_reducible exact Grew.refl _) | (with_reducible assumption) | (with_reducible refine Grew.alloc ?_ _) | (with_reducible refine Grew.drew ?_) | (with_reducible refine Grew.drewN ?_ _) | (with_reducible refine Grew.setRow ?_ (by first | (simp; done) | (simp; omega) | omega) _) | (with_reducible refine Grew.setCell ?_ (by first | (simp; done) | (simp; omega) | omega) _) | ((with_reducible apply Grew.trans); rotate_left; (with_reducible assumption)) | ((with_reducible apply Grew.turn); rotate_left; (with_reducible assumption); (focus (intro i hi; first | omega | (simp at hi; omega)))) | fail)⟩
    · have HD := Lib.hid (show decide ((a, b) = (c, d)) = false from by simp [h2])
      go_enter Try.func33, Try.ntmps33
      go_wp2
      go_ret
      exact ⟨ret_bool (by rw [HD.out]), by (repeat' first | (with_reducible exact Grew.refl _) | (with_reducible assumption) | (with_reducible refine Grew.alloc ?_ _) | (with_reducible refine Grew.drew ?_) | (with_reducible refine Grew.drewN ?_ _) | (with_reducible refine Grew.setRow ?_ (by first | (simp; done) | (simp; omega) | omega) _) | (with_reducible refine Grew.setCell ?_ (by first | (simp; done) | (simp; omega) | omega) _) | ((with_reducible apply Grew.trans); rotate_left; (with_reducible assumption)) | ((with_reducible apply Grew.turn); rotate_left; (with_reducible assumption); (focus (intro i hi; first | omega | (simp at hi; omega)))) | fail)⟩
  · have HD := Lib.hid (show decide ((a, b) = (c, d)) = false from by simp [h1])
    go_enter Try.func33, Try.ntmps33
    go_wp2
    go_ret
    exact ⟨ret_bool (by rw [HD.out]), by (repeat' first | (with_reducible exact Grew.refl _) | (with_reducible assumption) | (with_reducible refine Grew.alloc ?_ _) | (with_reducible refine Grew.drew ?_) | (with_reducible refine Grew.drewN ?_ _) | (with_reducible refine Grew.setRow ?_ (by first | (simp; done) | (simp; omega) | omega) _) | (with_reducible refine Grew.setCell ?_ (by first | (simp; done) | (simp; omega) | omega) _) | ((with_reducible apply Grew.trans); rotate_left; (with_reducible assumption)) | ((with_reducible apply Grew.turn); rotate_left; (with_reducible assumption); (focus (intro i hi; first | omega | (simp at hi; omega)))) | fail)⟩
set_option maxRecDepth 100000 in
set_option maxHeartbeats 1000000 in
theorem drop1_any (a b c : Int) (g : Nat) (W : World) (hb : Blk W g 3 #[.int .i64 c]) :
    Calls Try.prog 28 #[.agg #[.int .i64 a, .int .i64 b], .pointer (some ⟨g, 0, none⟩)] W fun e w' => e = .returned (.bool (decide (a = c))) ∧ Grew W w' := by
  have hlt := hb.lt
  have x0 := hb.cell 0
  go_enter Try.func28, Try.ntmps28
  go_wp2
  all_goals
    go_ret
    exact ⟨ret_bool (by first | rfl | (simp; done) | simp [*]), by (repeat' first | (with_reducible exact Grew.refl _) | (with_reducible assumption) | (with_reducible refine Grew.alloc ?_ _) | (with_reducible refine Grew.drew ?_) | (with_reducible refine Grew.drewN ?_ _) | (with_reducible refine Grew.setRow ?_ (by first | (simp; done) | (simp; omega) | omega) _) | (with_reducible refine Grew.setCell ?_ (by first | (simp; done) | (simp; omega) | omega) _) | ((with_reducible apply Grew.trans); rotate_left; (with_reducible assumption)) | ((with_reducible apply Grew.turn); rotate_left; (with_reducible assumption); (focus (intro i hi; first | omega | (simp at hi; omega)))) | fail)⟩
def poolT : TypeId := 61
abbrev MapP (w : World) (m : Nat) (F : Place → Option Value) : Prop := MapIs Try.prog 40 placeV w m F
theorem blk_map_ne {w : World} {g m : Nat} {t : TypeId} {cs : Array Value} {F : Place → Option Value} (h : Blk w g t cs) (hm : MapP w m F) : ¬ g = m := by
  rintro rfl
  obtain ⟨es, clock, l, hb, _⟩ := hm
  unfold Blk at h
  rw [h] at hb
  injection hb with hb
  cases hb
theorem step_delete_is {P : Program} {α : Type} [DecidableEq α] {k : TypeId} {kv : α → Value} {w : World} {m : Nat} {F : α → Option Value} {ops : Array Oper} {o : Oper} {a : Act} {Kp : Act → World → Prop} {Q : Exit → Act → World → Prop} {E : Prop} (hg : o.guard = none) (mo x : Operand) (t : TypeId) (hop : o.op = .call { callee := .builtin .delete, args := #[mo, x], argTypes := #[t, k] })
    (e : TypeId) (K : Keyed P k) (hinj : ∀ a b, kv a = kv b → a = b) (ht : P.underlying t = some (.map k e)) (hm : a.eval mo = .map (some m)) (h : MapIs P k kv w m F) (key : α) {kl : Lit} (hkey : keyOf P k (kv key) = some kl) (hx : a.eval x = kv key)
    (hK : ∀ w', MapIs P k kv w' m (upd F key none) → Turned (fun x => x = m) w w' → Kp (a.put o.dst (.tuple #[])) w') : if Region.wanted o (yielded ops a.tmps) = true then Oper.wp P o a w Kp Q else E := by
  have hw : Region.wanted o (yielded ops a.tmps) = true := by simp [Region.wanted, hg]
  rw [if_pos hw]
  obtain ⟨w', hrun, r1, r2⟩ := h.delete K hinj ht key hkey o.type
  unfold Oper.wp
  simp [execOp, hop, resolve, invoke, builtin, hm, hx, hrun, Result.andThen]
  exact hK w' r1 r2
set_option maxRecDepth 100000 in
set_option maxHeartbeats 2000000 in
theorem forget1_use (a b : Int) (bw bx x m : Nat) (p1 : Value) (c0 c2 c3 c4 : Value) (F : Place → Option Value) (r : Bool) (W : World)
    (hbw : Blk W bw 68 #[.func (.func 34) #[] #[p1]]) (hbx : Blk W bx 23 #[.pointer (some ⟨x, 0, none⟩)]) (hx : Blk W x 61 #[c0, .map (some m), c2, c3, c4]) (hm : MapP W m F) (hok : okPlace (a, b))
    (hw : ∀ W', Grew W W' → Calls Try.prog 34 #[.agg #[.int .i64 a, .int .i64 b], p1] W' fun e w' => e = .returned (.bool r) ∧ Grew W' w') :
    Calls Try.prog 36 #[.agg #[.int .i64 a, .int .i64 b], .pointer (some ⟨bw, 0, none⟩), .pointer (some ⟨bx, 0, none⟩)] W fun e w' => e = .returned (.bool r) ∧ MapP w' m (if r then upd F (a, b) none else F) ∧ Turned (fun k => k = m) W w' := by
  have HW := fun W' h => Lib.hid (hw W' h)
  clear hw
  have h1 := hbw.lt
  have h2 := hbx.lt
  have h3 := hx.lt
  have h4 := hm.lt
  have n1 : ¬ bx = m := blk_map_ne hbx hm
  have n2 : ¬ x = m := blk_map_ne hx hm
  have n3 : ¬ W.heap.size = m := by omega
  have x0 := hbw.cell 0
  have hbx1 := (hbx.alloc (.cells #[.int .i64 a, .int .i64 b] 40))
  have hx1 := (hx.alloc (.cells #[.int .i64 a, .int .i64 b] 40))
  have hm1 := (hm.alloc (.cells #[.int .i64 a, .int .i64 b] 40))
  obtain ⟨kl, hkey⟩ := place_key (a, b) hok
  have HKEY := Lib.hid hkey
  clear hkey
  go_enter Try.func36, Try.ntmps36
  go_wp2_with fail
  refine (HW _ ((Grew.refl W).alloc _)).out.mono ?_
  rintro e w1 ⟨rfl, g1⟩
  have g1' := g1
  have hbx2 := hbx1.grew g1
  have hx2 := hx1.grew g1
  have hm2 := hm1.grew g1
  have ha2 := (Blk.new W 40 #[.int .i64 a, .int .i64 b] rfl).grew g1
  have hg2 : Grew W w1 := by (repeat' first | (with_reducible exact Grew.refl _) | (with_reducible assumption) | (with_reducible refine Grew.alloc ?_ _) | (with_reducible refine Grew.drew ?_) | (with_reducible refine Grew.drewN ?_ _) | (with_reducible refine Grew.setRow ?_ (by first | (simp; done) | (simp; omega) | omega) _) | (with_reducible refine Grew.setCell ?_ (by first | (simp; done) | (simp; omega) | omega) _) | ((with_reducible apply Grew.trans); rotate_left; (with_reducible assumption)) | ((with_reducible apply Grew.turn); rotate_left; (with_reducible assumption); (focus (intro i hi; first | omega | (simp at hi; omega)))) | fail)
  have hz2 : W.heap.size < w1.heap.size := ha2.lt
  clear g1 g1' hbx1 hx1 hm1 x0
  have y0 := hbx2.cell 0
  have y1 := hx2.cell 1
  have z0 := ha2.cell 0
  have z1 := ha2.cell 1
  cases r
  · go_wp2_with fail
    go_ret
    exact ⟨rfl, hm2, hg2.turned _⟩
  · go_wp2_with fail
    go_region_held3 (fun w' => w'.cell? ⟨bx, 0, none⟩ = some (.pointer (some ⟨x, 0, none⟩)) ∧ w'.cell? ⟨x, 1, none⟩ = some (.map (some m)) ∧ w'.cell? ⟨W.heap.size, 0, none⟩ = some (.int .i64 a) ∧ w'.cell? ⟨W.heap.size, 1, none⟩ = some (.int .i64 b)) (first | go_keep | (go_split_ands; exact ⟨(ht3.cellEq _ _ (by simp; omega) n1).trans y0, (ht3.cellEq _ _ (by simp; omega) n2).trans y1, (ht3.cellEq _ _ (by simp; omega) n3).trans z0, (ht3.cellEq _ _ (by simp; omega) n3).trans z1⟩))
      ((refine step_delete_is (by rfl) _ _ 59 (by rfl) 64 place_keyed place_inj Try.underlying59 (by rfl) (by first | exact hm2 | exact hm2.drew | exact hm2.drewN _) (a, b) HKEY.out (by rfl) ?_; intro w3 hm3 ht3))
    all_goals
      go_wp2_with fail
      go_ret
      exact ⟨rfl, hm3, (hg2.turned _).trans (by first | exact ht3 | exact (Turned.refl _ w1).drew.trans ht3 | exact ((Turned.refl _ w1).drewN _).trans ht3)⟩
set_option maxRecDepth 100000 in
set_option maxHeartbeats 2000000 in
theorem forget1_put (a b : Int) (bw bx x m : Nat) (p1 : Value) (c0 c2 c3 c4 : Value) (F : Place → Option Value) (r : Bool) (W : World)
    (hbw : Blk W bw 68 #[.func (.func 33) #[] #[p1]]) (hbx : Blk W bx 23 #[.pointer (some ⟨x, 0, none⟩)]) (hx : Blk W x 61 #[c0, .map (some m), c2, c3, c4]) (hm : MapP W m F) (hok : okPlace (a, b))
    (hw : ∀ W', Grew W W' → Calls Try.prog 33 #[.agg #[.int .i64 a, .int .i64 b], p1] W' fun e w' => e = .returned (.bool r) ∧ Grew W' w') :
    Calls Try.prog 36 #[.agg #[.int .i64 a, .int .i64 b], .pointer (some ⟨bw, 0, none⟩), .pointer (some ⟨bx, 0, none⟩)] W fun e w' => e = .returned (.bool r) ∧ MapP w' m (if r then upd F (a, b) none else F) ∧ Turned (fun k => k = m) W w' := by
  have HW := fun W' h => Lib.hid (hw W' h)
  clear hw
  have h1 := hbw.lt
  have h2 := hbx.lt
  have h3 := hx.lt
  have h4 := hm.lt
  have n1 : ¬ bx = m := blk_map_ne hbx hm
  have n2 : ¬ x = m := blk_map_ne hx hm
  have n3 : ¬ W.heap.size = m := by omega
  have x0 := hbw.cell 0
  have hbx1 := (hbx.alloc (.cells #[.int .i64 a, .int .i64 b] 40))
  have hx1 := (hx.alloc (.cells #[.int .i64 a, .int .i64 b] 40))
  have hm1 := (hm.alloc (.cells #[.int .i64 a, .int .i64 b] 40))
  obtain ⟨kl, hkey⟩ := place_key (a, b) hok
  have HKEY := Lib.hid hkey
  clear hkey
  go_enter Try.func36, Try.ntmps36
  go_wp2_with fail
  refine (HW _ ((Grew.refl W).alloc _)).out.mono ?_
  rintro e w1 ⟨rfl, g1⟩
  have g1' := g1
  have hbx2 := hbx1.grew g1
  have hx2 := hx1.grew g1
  have hm2 := hm1.grew g1
  have ha2 := (Blk.new W 40 #[.int .i64 a, .int .i64 b] rfl).grew g1
  have hg2 : Grew W w1 := by (repeat' first | (with_reducible exact Grew.refl _) | (with_reducible assumption) | (with_reducible refine Grew.alloc ?_ _) | (with_reducible refine Grew.drew ?_) | (with_reducible refine Grew.drewN ?_ _) | (with_reducible refine Grew.setRow ?_ (by first | (simp; done) | (simp; omega) | omega) _) | (with_reducible refine Grew.setCell ?_ (by first | (simp; done) | (simp; omega) | omega) _) | ((with_reducible apply Grew.trans); rotate_left; (with_reducible assumption)) | ((with_reducible apply Grew.turn); rotate_left; (with_reducible assumption); (focus (intro i hi; first | omega | (simp at hi; omega)))) | fail)
  have hz2 : W.heap.size < w1.heap.size := ha2.lt
  clear g1 g1' hbx1 hx1 hm1 x0
  have y0 := hbx2.cell 0
  have y1 := hx2.cell 1
  have z0 := ha2.cell 0
  have z1 := ha2.cell 1
  cases r
  · go_wp2_with fail
    go_ret
    exact ⟨rfl, hm2, hg2.turned _⟩
  · go_wp2_with fail
    go_region_held3 (fun w' => w'.cell? ⟨bx, 0, none⟩ = some (.pointer (some ⟨x, 0, none⟩)) ∧ w'.cell? ⟨x, 1, none⟩ = some (.map (some m)) ∧ w'.cell? ⟨W.heap.size, 0, none⟩ = some (.int .i64 a) ∧ w'.cell? ⟨W.heap.size, 1, none⟩ = some (.int .i64 b)) (first | go_keep | (go_split_ands; exact ⟨(ht3.cellEq _ _ (by simp; omega) n1).trans y0, (ht3.cellEq _ _ (by simp; omega) n2).trans y1, (ht3.cellEq _ _ (by simp; omega) n3).trans z0, (ht3.cellEq _ _ (by simp; omega) n3).trans z1⟩))
      ((refine step_delete_is (by rfl) _ _ 59 (by rfl) 64 place_keyed place_inj Try.underlying59 (by rfl) (by first | exact hm2 | exact hm2.drew | exact hm2.drewN _) (a, b) HKEY.out (by rfl) ?_; intro w3 hm3 ht3))
    all_goals
      go_wp2_with fail
      go_ret
      exact ⟨rfl, hm3, (hg2.turned _).trans (by first | exact ht3 | exact (Turned.refl _ w1).drew.trans ht3 | exact ((Turned.refl _ w1).drewN _).trans ht3)⟩
set_option maxRecDepth 100000 in
set_option maxHeartbeats 2000000 in
theorem forget1_drop (a b : Int) (bw bx x m : Nat) (p1 : Value) (c0 c2 c3 c4 : Value) (F : Place → Option Value) (r : Bool) (W : World)
    (hbw : Blk W bw 68 #[.func (.func 28) #[] #[p1]]) (hbx : Blk W bx 23 #[.pointer (some ⟨x, 0, none⟩)]) (hx : Blk W x 61 #[c0, .map (some m), c2, c3, c4]) (hm : MapP W m F) (hok : okPlace (a, b))
    (hw : ∀ W', Grew W W' → Calls Try.prog 28 #[.agg #[.int .i64 a, .int .i64 b], p1] W' fun e w' => e = .returned (.bool r) ∧ Grew W' w') :
    Calls Try.prog 36 #[.agg #[.int .i64 a, .int .i64 b], .pointer (some ⟨bw, 0, none⟩), .pointer (some ⟨bx, 0, none⟩)] W fun e w' => e = .returned (.bool r) ∧ MapP w' m (if r then upd F (a, b) none else F) ∧ Turned (fun k => k = m) W w' := by
  have HW := fun W' h => Lib.hid (hw W' h)
  clear hw
  have h1 := hbw.lt
  have h2 := hbx.lt
  have h3 := hx.lt
  have h4 := hm.lt
  have n1 : ¬ bx = m := blk_map_ne hbx hm
  have n2 : ¬ x = m := blk_map_ne hx hm
  have n3 : ¬ W.heap.size = m := by omega
  have x0 := hbw.cell 0
  have hbx1 := (hbx.alloc (.cells #[.int .i64 a, .int .i64 b] 40))
  have hx1 := (hx.alloc (.cells #[.int .i64 a, .int .i64 b] 40))
  have hm1 := (hm.alloc (.cells #[.int .i64 a, .int .i64 b] 40))
  obtain ⟨kl, hkey⟩ := place_key (a, b) hok
  have HKEY := Lib.hid hkey
  clear hkey
  go_enter Try.func36, Try.ntmps36
  go_wp2_with fail
  refine (HW _ ((Grew.refl W).alloc _)).out.mono ?_
  rintro e w1 ⟨rfl, g1⟩
  have g1' := g1
  have hbx2 := hbx1.grew g1
  have hx2 := hx1.grew g1
  have hm2 := hm1.grew g1
  have ha2 := (Blk.new W 40 #[.int .i64 a, .int .i64 b] rfl).grew g1
  have hg2 : Grew W w1 := by (repeat' first | (with_reducible exact Grew.refl _) | (with_reducible assumption) | (with_reducible refine Grew.alloc ?_ _) | (with_reducible refine Grew.drew ?_) | (with_reducible refine Grew.drewN ?_ _) | (with_reducible refine Grew.setRow ?_ (by first | (simp; done) | (simp; omega) | omega) _) | (with_reducible refine Grew.setCell ?_ (by first | (simp; done) | (simp; omega) | omega) _) | ((with_reducible apply Grew.trans); rotate_left; (with_reducible assumption)) | ((with_reducible apply Grew.turn); rotate_left; (with_reducible assumption); (focus (intro i hi; first | omega | (simp at hi; omega)))) | fail)
  have hz2 : W.heap.size < w1.heap.size := ha2.lt
  clear g1 g1' hbx1 hx1 hm1 x0
  have y0 := hbx2.cell 0
  have y1 := hx2.cell 1
  have z0 := ha2.cell 0
  have z1 := ha2.cell 1
  cases r
  · go_wp2_with fail
    go_ret
    exact ⟨rfl, hm2, hg2.turned _⟩
  · go_wp2_with fail
    go_region_held3 (fun w' => w'.cell? ⟨bx, 0, none⟩ = some (.pointer (some ⟨x, 0, none⟩)) ∧ w'.cell? ⟨x, 1, none⟩ = some (.map (some m)) ∧ w'.cell? ⟨W.heap.size, 0, none⟩ = some (.int .i64 a) ∧ w'.cell? ⟨W.heap.size, 1, none⟩ = some (.int .i64 b)) (first | go_keep | (go_split_ands; exact ⟨(ht3.cellEq _ _ (by simp; omega) n1).trans y0, (ht3.cellEq _ _ (by simp; omega) n2).trans y1, (ht3.cellEq _ _ (by simp; omega) n3).trans z0, (ht3.cellEq _ _ (by simp; omega) n3).trans z1⟩))
      ((refine step_delete_is (by rfl) _ _ 59 (by rfl) 64 place_keyed place_inj Try.underlying59 (by rfl) (by first | exact hm2 | exact hm2.drew | exact hm2.drewN _) (a, b) HKEY.out (by rfl) ?_; intro w3 hm3 ht3))
    all_goals
      go_wp2_with fail
      go_ret
      exact ⟨rfl, hm3, (hg2.turned _).trans (by first | exact ht3 | exact (Turned.refl _ w1).drew.trans ht3 | exact ((Turned.refl _ w1).drewN _).trans ht3)⟩
set_option maxRecDepth 100000 in
set_option maxHeartbeats 2000000 in
theorem forget1_inv (a b : Int) (bw bx x m : Nat) (p1 p2 p3 : Value) (c0 c2 c3 c4 : Value) (F : Place → Option Value) (r : Bool) (W : World)
    (hbw : Blk W bw 68 #[.func (.func 27) #[] #[p1, p2, p3]]) (hbx : Blk W bx 23 #[.pointer (some ⟨x, 0, none⟩)]) (hx : Blk W x 61 #[c0, .map (some m), c2, c3, c4]) (hm : MapP W m F) (hok : okPlace (a, b))
    (hw : ∀ W', Grew W W' → Calls Try.prog 27 #[.agg #[.int .i64 a, .int .i64 b], p1, p2, p3] W' fun e w' => e = .returned (.bool r) ∧ Grew W' w') :
    Calls Try.prog 36 #[.agg #[.int .i64 a, .int .i64 b], .pointer (some ⟨bw, 0, none⟩), .pointer (some ⟨bx, 0, none⟩)] W fun e w' => e = .returned (.bool r) ∧ MapP w' m (if r then upd F (a, b) none else F) ∧ Turned (fun k => k = m) W w' := by
  have HW := fun W' h => Lib.hid (hw W' h)
  clear hw
  have h1 := hbw.lt
  have h2 := hbx.lt
  have h3 := hx.lt
  have h4 := hm.lt
  have n1 : ¬ bx = m := blk_map_ne hbx hm
  have n2 : ¬ x = m := blk_map_ne hx hm
  have n3 : ¬ W.heap.size = m := by omega
  have x0 := hbw.cell 0
  have hbx1 := (hbx.alloc (.cells #[.int .i64 a, .int .i64 b] 40))
  have hx1 := (hx.alloc (.cells #[.int .i64 a, .int .i64 b] 40))
  have hm1 := (hm.alloc (.cells #[.int .i64 a, .int .i64 b] 40))
  obtain ⟨kl, hkey⟩ := place_key (a, b) hok
  have HKEY := Lib.hid hkey
  clear hkey
  go_enter Try.func36, Try.ntmps36
  go_wp2_with fail
  refine (HW _ ((Grew.refl W).alloc _)).out.mono ?_
  rintro e w1 ⟨rfl, g1⟩
  have g1' := g1
  have hbx2 := hbx1.grew g1
  have hx2 := hx1.grew g1
  have hm2 := hm1.grew g1
  have ha2 := (Blk.new W 40 #[.int .i64 a, .int .i64 b] rfl).grew g1
  have hg2 : Grew W w1 := by (repeat' first | (with_reducible exact Grew.refl _) | (with_reducible assumption) | (with_reducible refine Grew.alloc ?_ _) | (with_reducible refine Grew.drew ?_) | (with_reducible refine Grew.drewN ?_ _) | (with_reducible refine Grew.setRow ?_ (by first | (simp; done) | (simp; omega) | omega) _) | (with_reducible refine Grew.setCell ?_ (by first | (simp; done) | (simp; omega) | omega) _) | ((with_reducible apply Grew.trans); rotate_left; (with_reducible assumption)) | ((with_reducible apply Grew.turn); rotate_left; (with_reducible assumption); (focus (intro i hi; first | omega | (simp at hi; omega)))) | fail)
  have hz2 : W.heap.size < w1.heap.size := ha2.lt
  clear g1 g1' hbx1 hx1 hm1 x0
  have y0 := hbx2.cell 0
  have y1 := hx2.cell 1
  have z0 := ha2.cell 0
  have z1 := ha2.cell 1
  cases r
  · go_wp2_with fail
    go_ret
    exact ⟨rfl, hm2, hg2.turned _⟩
  · go_wp2_with fail
    go_region_held3 (fun w' => w'.cell? ⟨bx, 0, none⟩ = some (.pointer (some ⟨x, 0, none⟩)) ∧ w'.cell? ⟨x, 1, none⟩ = some (.map (some m)) ∧ w'.cell? ⟨W.heap.size, 0, none⟩ = some (.int .i64 a) ∧ w'.cell? ⟨W.heap.size, 1, none⟩ = some (.int .i64 b)) (first | go_keep | (go_split_ands; exact ⟨(ht3.cellEq _ _ (by simp; omega) n1).trans y0, (ht3.cellEq _ _ (by simp; omega) n2).trans y1, (ht3.cellEq _ _ (by simp; omega) n3).trans z0, (ht3.cellEq _ _ (by simp; omega) n3).trans z1⟩))
      ((refine step_delete_is (by rfl) _ _ 59 (by rfl) 64 place_keyed place_inj Try.underlying59 (by rfl) (by first | exact hm2 | exact hm2.drew | exact hm2.drewN _) (a, b) HKEY.out (by rfl) ?_; intro w3 hm3 ht3))
    all_goals
      go_wp2_with fail
      go_ret
      exact ⟨rfl, hm3, (hg2.turned _).trans (by first | exact ht3 | exact (Turned.refl _ w1).drew.trans ht3 | exact ((Turned.refl _ w1).drewN _).trans ht3)⟩
end Go.Proofs.Ytfmhiocigoejjaa
