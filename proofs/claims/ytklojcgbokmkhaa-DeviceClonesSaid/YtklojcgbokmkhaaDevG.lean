/- Chapter 3: plain and admit. -/
import Derived.Test.YtklojcgbokmkhaaDevF
namespace Go.Proofs.Ytklojcgbokmkhaa
set_option linter.unusedVariables false
set_option linter.unusedSimpArgs false
set_option linter.unusedSectionVars false
open Go.RowKit
open Go.Maps (Keyed)
attribute [local go_sem ↓] Go.wp_at_zero Go.wp_at_succ
/-- A device's call: what it leaves. -/
def Did (w w' : World) (q : DevP) (D : Dev) : Prop := ∃ q', DevM w' q' D ∧ Foot' w q q' ∧ Turned q.feet w w'
theorem Did.same {w w' : World} {q : DevP} {D : Dev} (h : DevM w q D) (hg : Grew w w') : Did w w' q D := ⟨q, h.grew hg, Foot'.refl _ _, hg.turned _⟩
theorem Foot'.feetT {w w1 w2 : World} {q q1 : DevP} (f : Foot' w q q1) (ht : Turned q.feet w w1) (k : Turned q1.feet w1 w2) : Turned q.feet w w2 :=
  ht.next k (fun i hi h => (f.feet i h).elim id (fun h9 => absurd hi (by omega)))
theorem Did.trans {w w1 w2 : World} {q q1 : DevP} {D2 : Dev} (f : Foot' w q q1) (ht : Turned q.feet w w1) (k : Did w1 w2 q1 D2) : Did w w2 q D2 := by
  obtain ⟨q2, h2, f2, t2⟩ := k
  exact ⟨q2, h2, f.trans f2 ht.size, f.feetT ht t2⟩
/-- The device's own block anew. -/
theorem DevM.rex {w w' : World} {q : DevP} {D : Dev} (h : DevM w q D) (ht : Turned (fun k => k = q.x) w w') (se : Bool) (le : Int) (sl : List Int) (vsv : Value) (fa : Bool) (fu : Option (Nat × List Int))
    (hb : Blk w' q.x 69 #[q.vs, q.vo, q.vp, .map (some q.m), .bool se, .int .i64 le, vsv, .bool fa]) (hsv : OwnL w' 0 3 1 vsv (sl.map intC)) (hfu : fu = if se then some (le.toNat, sl) else none)
    (hle : 0 ≤ le ∧ le ≤ 9223372036854775807) (hsl : (∀ n ∈ sl, okI n) ∧ sl.length ≤ 1000000) : DevM w' { q with set := se, left := le, svl := sl, vsv := vsv } { D with failed := fa, fuse := fu } := by
  have hx := h.blk
  refine ⟨hb, h.st.kept ht (fun g hg e => h.st.ne_blk hx (by decide) (by rw [hg, e])), h.old.kept ht (fun g hg e => h.old.ne_blk hx (by decide) (by rw [hg, e])), h.olen, fun j v l hv hl => ?_, h.pend.kept ht (fun g hg e => h.pend.ne_blk hx (by decide) (by rw [hg, e])), hsv,
    h.map.turned ht (fun e => blk_map_ne hx h.map e.symm), h.fen, hfu, hle, hsl, ⟨h.ok.len, h.ok.pos, h.ok.lim, h.ok.st, h.ok.old, h.ok.pend, h.ok.fen⟩⟩
  obtain ⟨h5, h6⟩ := h.each j v l hv hl
  exact ⟨h5.kept ht (fun g hg e => h5.ne_blk hx (by decide) (by rw [hg, e])), h6⟩
theorem rex_foot (w : World) (q : DevP) (se : Bool) (le : Int) (sl : List Int) (vsv : Value) (hv : ∀ k, vsv.ownBlock = some k → q.vsv.ownBlock = some k ∨ w.heap.size ≤ k) : Foot' w q { q with set := se, left := le, svl := sl, vsv := vsv } := by
  refine ⟨rfl, rfl, fun k hk => ?_⟩
  rcases hk with hk | hk | hk | hk | hk | hk | hk
  · exact .inl (.inl hk)
  · exact .inl (.inr (.inl hk))
  · exact .inl (.inr (.inr (.inl hk)))
  · exact .inl (.inr (.inr (.inr (.inl hk))))
  · exact .inl (.inr (.inr (.inr (.inr (.inl hk)))))
  · exact (hv k hk).elim (fun h => .inl (.inr (.inr (.inr (.inr (.inr (.inl h))))))) .inr
  · exact .inl (.inr (.inr (.inr (.inr (.inr (.inr hk))))))
/-- The list of the fuse. -/
theorem DevM.sv_list {w : World} {q : DevP} {D : Dev} (h : DevM w q D) : ∃ A c, q.vsv = .slice A q.svl.length c ∧ q.svl.length ≤ 9223372036854775807 ∧ ListAt w w.heap.size 1 A (q.svl.map intC) ∧ ∀ b off, A = some ⟨b, off, none⟩ → ¬ q.turns b := by
  obtain ⟨A, c, hv, h1, h2, h3⟩ := h.sv.listAt
  rw [List.length_map] at hv h1
  refine ⟨A, c, hv, by omega, h3, fun b off e hb => ?_⟩
  have hvb : q.vsv.ownBlock = some b := by rw [hv, e]; rfl
  rcases hb with rfl | hb | hb | hb
  · exact h.sv.ne_blk h.blk (by decide) hvb
  · exact own_own_ne h.st h.sv (by decide) b hb hvb
  · exact own_own_ne h.old h.sv (by decide) b hb hvb
  · exact own_own_ne h.pend h.sv (by decide) b hb hvb
/-- Ends of writes do not look at the fuse. -/
theorem finishD_set (D : Dev) (p : Wr → Bool) (sv : Nat → Nat) (fa : Bool) (fu : Option (Nat × List Int)) : finishD { D with failed := fa, fuse := fu } p sv = { finishD D p sv with failed := fa, fuse := fu } := by
  have hc : ∀ (E : Dev) i s, changeD { E with failed := fa, fuse := fu } i s = { changeD E i s with failed := fa, fuse := fu } := by
    intro E i s
    by_cases hh : E.at i = s
    · have h1 : changeD { E with failed := fa, fuse := fu } i s = { E with failed := fa, fuse := fu } := by unfold changeD; exact if_pos hh
      have h2 : changeD E i s = E := by unfold changeD; exact if_pos hh
      rw [h1, h2]
    · have h1 : changeD { E with failed := fa, fuse := fu } i s = { E with failed := fa, fuse := fu, st := E.st.set i s, old := E.old.set i ((E.at i :: E.olds i).take 8) } := by unfold changeD; exact if_neg hh
      have h2 : changeD E i s = { E with st := E.st.set i s, old := E.old.set i ((E.at i :: E.olds i).take 8) } := by unfold changeD; exact if_neg hh
      rw [h1, h2]
  have key : ∀ (l : List Wr) (E : Dev) (k : Nat), l.foldl (endStep p sv) ({ E with failed := fa, fuse := fu }, k) = ({ (l.foldl (endStep p sv) (E, k)).1 with failed := fa, fuse := fu }, (l.foldl (endStep p sv) (E, k)).2) := by
    intro l
    induction l with
    | nil => intro E k; rfl
    | cons r l ih =>
      intro E k
      rw [List.foldl_cons, List.foldl_cons]
      have he : endStep p sv ({ E with failed := fa, fuse := fu }, k) r = ({ (endStep p sv (E, k) r).1 with failed := fa, fuse := fu }, (endStep p sv (E, k) r).2) := by
        unfold endStep
        cases p r with
        | true => simp only [if_true]; rw [hc]; rfl
        | false => rfl
      rw [he, ih]
  unfold finishD runEnd
  show ({ (D.pend.foldl (endStep p sv) ({ D with failed := fa, fuse := fu }, 0)).1 with pend := _ } : Dev) = _
  rw [key]
theorem zero_int (w : World) : (zeroValue 3).run Try.prog w = .ok (.int .i64 0) w := by kernel_rfl
/-- What the map of fences answers. -/
def FenA (v : Option Value) (f : Int) (b : Bool) : Prop := (b = false ∧ f = 0 ∧ v = none) ∨ (b = true ∧ okI f ∧ v = some (.int .i64 f))
theorem fen_look {w : World} {m : Nat} {F : Int → Option Value} (hm : MapI w m F) {s f : Int} {b : Bool} (hs : okI s) (h : FenA (F s) f b) : (Instr.lookup 64 (.map (some m)) (.int .i64 s) true).run Try.prog w = .ok (.tuple #[.int .i64 f, .bool b]) w := by
  obtain ⟨kl, hkey⟩ := int_key s hs
  have := hm.lookup_ok int_keyedI intV_inj Try.underlying64 (zero_int _) s hkey
  rcases h with ⟨rfl, rfl, hv⟩ | ⟨rfl, _, hv⟩
  · rw [hv] at this; exact this
  · rw [hv] at this; exact this
theorem DevM.fence {w : World} {q : DevP} {D : Dev} (h : DevM w q D) {s : Int} (h1 : 1 ≤ s) (h2 : s ≤ 4) : ∃ f b, okI f ∧ FenA (q.E s) f b ∧ (b = false → D.fen s = 0) ∧ (b = true → D.fen s = clipE f) := by
  rcases h.fen s h1 h2 with ⟨he, hf⟩ | ⟨e, ho, he, hf⟩
  · exact ⟨0, false, by unfold okI; omega, .inl ⟨rfl, rfl, he⟩, fun _ => hf, fun h => (by cases h)⟩
  · exact ⟨e, true, ho, .inr ⟨rfl, ho, he⟩, fun h => (by cases h), fun _ => hf⟩
theorem admitD_failed {D : Dev} {s e : Int} (h : D.failed = true) : admitD D s e = (D, 10) := by unfold admitD; rw [if_pos h]
theorem admitD_fenced {D : Dev} {s e : Int} (h : D.failed = false) (hf : e < D.fen s) : admitD D s e = (D, 13) := by unfold admitD; rw [if_neg (by rw [h]; decide), if_pos hf]
theorem admitD_none {D : Dev} {s e : Int} (h : D.failed = false) (hf : ¬ e < D.fen s) (hn : D.fuse = none) : admitD D s e = (D, 0) := by
  unfold admitD useD
  rw [if_neg (by rw [h]; decide), if_neg hf, hn]; rfl
theorem admitD_some {D : Dev} {s e : Int} {n : Nat} {l : List Int} (h : D.failed = false) (hf : ¬ e < D.fen s) (hn : D.fuse = some (n + 1, l)) : admitD D s e = ({ D with fuse := some (n, l) }, 0) := by
  unfold admitD useD
  rw [if_neg (by rw [h]; decide), if_neg hf, hn]; rfl
theorem admitD_zero {D : Dev} {s e : Int} {l : List Int} (h : D.failed = false) (hf : ¬ e < D.fen s) (hn : D.fuse = some (0, l)) : admitD D s e = ({ finishD D (fun _ => true) (svN l) with failed := true, fuse := none }, 10) := by
  unfold admitD useD
  rw [if_neg (by rw [h]; decide), if_neg hf, hn]; rfl
/-- What admit answers. -/
def AdmitR (w : World) (q : DevP) (D : Dev) (e f : Int) (b : Bool) (er : Ending) (w' : World) : Prop :=
  ((b = true ∧ e ≤ f) ∧ er = .returned (.int .i64 13) ∧ Grew w w') ∨
  (¬ (b = true ∧ e ≤ f) ∧ ((q.set = false ∧ er = .returned (.int .i64 0) ∧ Grew w w') ∨
    (q.set = true ∧ 0 < q.left ∧ er = .returned (.int .i64 0) ∧ Did w w' q { D with failed := false, fuse := some ((q.left - 1).toNat, q.svl) }) ∨
    (q.set = true ∧ q.left = 0 ∧ er = .returned (.int .i64 10) ∧ Did w w' q { finishD D (fun _ => true) (svN q.svl) with failed := true, fuse := none })))
section
variable {w : World} {q : DevP} {D : Dev} (h : DevM w q D) (s e : Int)
include h
set_option maxRecDepth 100000 in
set_option maxHeartbeats 4000000 in
omit h in
theorem plain_any (w : World) (s e : Int) : Calls Try.prog 34 #[.agg #[.int .i64 s, .int .i64 e]] w fun er w' => er = .returned (.bool (plainW s e)) ∧ Grew w w' := by
  have HB := Lib.hid (show plainW s e = decide (1 ≤ s ∧ s ≤ 4 ∧ 0 ≤ e ∧ e ≤ 1099511627776) from rfl)
  generalize plainW s e = b at *
  by_cases h1 : 1 ≤ s
  · by_cases h2 : s ≤ 4
    · by_cases h3 : 0 ≤ e
      · by_cases h4 : e ≤ 1099511627776
        · go_enter Try.func34, Try.ntmps34
          go_wp2_with fail
          go_ret
          exact ⟨ret_bool (by rw [HB.out, decide_eq_true (by omega)]), by (repeat' first | (with_reducible exact Grew.refl _) | (with_reducible assumption) | (with_reducible refine Grew.alloc ?_ _) | (with_reducible refine Grew.drew ?_) | (with_reducible refine Grew.drewN ?_ _) | (with_reducible refine Grew.setRow ?_ (by first | (simp; done) | (simp; omega) | omega) _) | (with_reducible refine Grew.setCell ?_ (by first | (simp; done) | (simp; omega) | omega) _) | ((with_reducible apply Grew.trans); rotate_left; (with_reducible assumption)) | ((with_reducible apply Grew.turn); rotate_left; (with_reducible assumption); (focus (intro i hi; first | omega | (simp at hi; omega)))) | fail)⟩
        · go_enter Try.func34, Try.ntmps34
          go_wp2_with fail
          go_ret
          exact ⟨ret_bool (by rw [HB.out, decide_eq_false (by omega)]), by (repeat' first | (with_reducible exact Grew.refl _) | (with_reducible assumption) | (with_reducible refine Grew.alloc ?_ _) | (with_reducible refine Grew.drew ?_) | (with_reducible refine Grew.drewN ?_ _) | (with_reducible refine Grew.setRow ?_ (by first | (simp; done) | (simp; omega) | omega) _) | (with_reducible refine Grew.setCell ?_ (by first | (simp; done) | (simp; omega) | omega) _) | ((with_reducible apply Grew.trans); rotate_left; (with_reducible assumption)) | ((with_reducible apply Grew.turn); rotate_left; (with_reducible assumption); (focus (intro i hi; first | omega | (simp at hi; omega)))) | fail)⟩
      · go_enter Try.func34, Try.ntmps34
        go_wp2_with fail
        go_ret
        exact ⟨ret_bool (by rw [HB.out, decide_eq_false (by omega)]), by (repeat' first | (with_reducible exact Grew.refl _) | (with_reducible assumption) | (with_reducible refine Grew.alloc ?_ _) | (with_reducible refine Grew.drew ?_) | (with_reducible refine Grew.drewN ?_ _) | (with_reducible refine Grew.setRow ?_ (by first | (simp; done) | (simp; omega) | omega) _) | (with_reducible refine Grew.setCell ?_ (by first | (simp; done) | (simp; omega) | omega) _) | ((with_reducible apply Grew.trans); rotate_left; (with_reducible assumption)) | ((with_reducible apply Grew.turn); rotate_left; (with_reducible assumption); (focus (intro i hi; first | omega | (simp at hi; omega)))) | fail)⟩
    · go_enter Try.func34, Try.ntmps34
      go_wp2_with fail
      go_ret
      exact ⟨ret_bool (by rw [HB.out, decide_eq_false (by omega)]), by (repeat' first | (with_reducible exact Grew.refl _) | (with_reducible assumption) | (with_reducible refine Grew.alloc ?_ _) | (with_reducible refine Grew.drew ?_) | (with_reducible refine Grew.drewN ?_ _) | (with_reducible refine Grew.setRow ?_ (by first | (simp; done) | (simp; omega) | omega) _) | (with_reducible refine Grew.setCell ?_ (by first | (simp; done) | (simp; omega) | omega) _) | ((with_reducible apply Grew.trans); rotate_left; (with_reducible assumption)) | ((with_reducible apply Grew.turn); rotate_left; (with_reducible assumption); (focus (intro i hi; first | omega | (simp at hi; omega)))) | fail)⟩
  · go_enter Try.func34, Try.ntmps34
    go_wp2_with fail
    go_ret
    exact ⟨ret_bool (by rw [HB.out, decide_eq_false (by omega)]), by (repeat' first | (with_reducible exact Grew.refl _) | (with_reducible assumption) | (with_reducible refine Grew.alloc ?_ _) | (with_reducible refine Grew.drew ?_) | (with_reducible refine Grew.drewN ?_ _) | (with_reducible refine Grew.setRow ?_ (by first | (simp; done) | (simp; omega) | omega) _) | (with_reducible refine Grew.setCell ?_ (by first | (simp; done) | (simp; omega) | omega) _) | ((with_reducible apply Grew.trans); rotate_left; (with_reducible assumption)) | ((with_reducible apply Grew.turn); rotate_left; (with_reducible assumption); (focus (intro i hi; first | omega | (simp at hi; omega)))) | fail)⟩
set_option maxRecDepth 100000 in
set_option maxHeartbeats 2000000 in
theorem admit_failed (hf : D.failed = true) : Calls Try.prog 36 #[.pointer (some ⟨q.x, 0, none⟩), .agg #[.int .i64 s, .int .i64 e]] w fun er w' => er = .returned (.int .i64 10) ∧ Grew w w' := by
  have hk := h.blk.alloc (.cells #[.int .i64 s, .int .i64 e] 40)
  rw [hf] at hk
  have hxl := h.blk.lt
  have x7 := hk.cell 7
  clear h hk
  go_enter Try.func36, Try.ntmps36
  go_wp2_with fail
  go_ret
  exact ⟨rfl, by (repeat' first | (with_reducible exact Grew.refl _) | (with_reducible assumption) | (with_reducible refine Grew.alloc ?_ _) | (with_reducible refine Grew.drew ?_) | (with_reducible refine Grew.drewN ?_ _) | (with_reducible refine Grew.setRow ?_ (by first | (simp; done) | (simp; omega) | omega) _) | (with_reducible refine Grew.setCell ?_ (by first | (simp; done) | (simp; omega) | omega) _) | ((with_reducible apply Grew.trans); rotate_left; (with_reducible assumption)) | ((with_reducible apply Grew.turn); rotate_left; (with_reducible assumption); (focus (intro i hi; first | omega | (simp at hi; omega)))) | fail)⟩
set_option maxRecDepth 100000 in
set_option maxHeartbeats 4000000 in
theorem admit_live (hf : D.failed = false) (hp : plainW s e = true) (hsmall : D.pend.length ≤ 1000000) (f : Int) (b : Bool) (hfo : okI f) (hfa : FenA (q.E s) f b) :
    Calls Try.prog 36 #[.pointer (some ⟨q.x, 0, none⟩), .agg #[.int .i64 s, .int .i64 e]] w (AdmitR w q D e f b) := by
  have hp1 := of_decide_eq_true hp
  have hk := h.blk.alloc (.cells #[.int .i64 s, .int .i64 e] 40)
  rw [hf] at hk
  obtain ⟨A2, c2, hsv, hs1, hsl, hst⟩ := h.sv_list
  rw [hsv] at hk
  have hxl := h.blk.lt
  have hle := h.left
  have hA1 := Blk.new w 40 #[.int .i64 s, .int .i64 e] rfl
  have hso : okI s := by unfold okI; omega
  have HLK := Lib.hid (show ∀ W, MapI W q.m q.E → (Instr.lookup 64 (.map (some q.m)) (.int .i64 s) true).run Try.prog W = .ok (.tuple #[.int .i64 f, .bool b]) W from fun W hm => fen_look hm hso hfa)
  have hm1 := h.map.alloc (.cells #[.int .i64 s, .int .i64 e] 40)
  have hG := (Grew.refl w).alloc (.cells #[.int .i64 s, .int .i64 e] 40)
  have HH := Lib.hid h
  have HSV := Lib.hid hsv
  have HSL := Lib.hid hsl
  have HSV9 := Lib.hid hs1
  have HST := Lib.hid hst
  have hbe : (((b = true ∧ e ≤ f)) ∨ (b = true ∧ f < e) ∨ b = false) := by cases b <;> simp <;> omega
  have hx3 := hk.cell 3
  have hx7 := hk.cell 7
  have ha0 := hA1.cell 0
  have ha1 := hA1.cell 1
  unfold okI at hfo
  have HF := Lib.hid hf
  clear h hsv hsl hst hp hfa hf
  rcases hbe with ⟨rfl, hef⟩ | hbe
  · have hS : (fun w' : World => w'.cell? ⟨w.heap.size, 0, none⟩ = some (.int .i64 s) ∧ w'.cell? ⟨q.x, 3, none⟩ = some (.map (some q.m)) ∧ (Instr.lookup 64 (.map (some q.m)) (.int .i64 s) true).run Try.prog w' = .ok (.tuple #[.int .i64 f, .bool true]) w') (w.alloc (.cells #[.int .i64 s, .int .i64 e] 40)).drew := ⟨ha0, hx3, HLK.out _ hm1.drew⟩
    go_enter Try.func36, Try.ntmps36
    go_wp2_with fail
    refine wp_region_R [] (fun w' : World => w'.cell? ⟨w.heap.size, 0, none⟩ = some (.int .i64 s) ∧ w'.cell? ⟨q.x, 3, none⟩ = some (.map (some q.m)) ∧ (Instr.lookup 64 (.map (some q.m)) (.int .i64 s) true).run Try.prog w' = .ok (.tuple #[.int .i64 f, .bool true]) w') (by kernel_rfl) ?_
    refine wpAnyR_takeQ (i := 0) (v := ?_) (some 13) rfl rfl (by kernel_rfl) (by kernel_rfl) (by kernel_rfl) (by kernel_rfl) (fun _ _ _ h => h) (Or.inl ⟨by rfl, ?_⟩) ?_
    rotate_left
    focus (intro wS hSw; (try dsimp only at hSw); go_simp; (try with_reducible rfl); (try (first | (rw [if_pos (by omega)]; (try go_simp); (try with_reducible rfl)) | (rw [if_neg (by omega)]; (try go_simp); (try with_reducible rfl)))))
    try simp only [Act.put, List.setIfInBounds_toArray, List.set_cons_zero, List.set_cons_succ]
    refine wpAnyR_take (i := 1) (v := ?_) [2, 3, 6, 7, 8, 9, 10, 11] (some 14) rfl rfl (by kernel_rfl) (by kernel_rfl) (by kernel_rfl) (by kernel_rfl) (by kernel_rfl) (by kernel_rfl) (by kernel_rfl) (fun _ _ _ h => h) (Or.inl ⟨by rfl, ?_⟩) hS ?_
    rotate_left
    focus (intro wS hSw; (try dsimp only at hSw); go_simp; (try with_reducible rfl); (try (first | (rw [if_pos (by omega)]; (try go_simp); (try with_reducible rfl)) | (rw [if_neg (by omega)]; (try go_simp); (try with_reducible rfl)))))
    try simp only [Act.put, List.setIfInBounds_toArray, List.set_cons_zero, List.set_cons_succ]
    refine wpAnyR_takeQ (i := 2) (v := ?_) (some 15) rfl rfl (by kernel_rfl) (by kernel_rfl) (by kernel_rfl) (by kernel_rfl) (fun _ _ _ h => h) (Or.inl ⟨by rfl, ?_⟩) ?_
    rotate_left
    focus (intro wS hSw; (try dsimp only at hSw); go_simp; (try with_reducible rfl); (try (first | (rw [if_pos (by omega)]; (try go_simp); (try with_reducible rfl)) | (rw [if_neg (by omega)]; (try go_simp); (try with_reducible rfl)))))
    try simp only [Act.put, List.setIfInBounds_toArray, List.set_cons_zero, List.set_cons_succ]
    refine wpAnyR_take (i := 3) (v := ?_) [6, 7, 8, 9, 10, 11] (some 16) rfl rfl (by kernel_rfl) (by kernel_rfl) (by kernel_rfl) (by kernel_rfl) (by kernel_rfl) (by kernel_rfl) (by kernel_rfl) (fun _ _ _ h => h) (Or.inl ⟨by rfl, ?_⟩) hS ?_
    rotate_left
    focus (intro wS hSw; (try dsimp only at hSw); go_simp; (try with_reducible rfl); (try (first | (rw [if_pos (by omega)]; (try go_simp); (try with_reducible rfl)) | (rw [if_neg (by omega)]; (try go_simp); (try with_reducible rfl)))))
    try simp only [Act.put, List.setIfInBounds_toArray, List.set_cons_zero, List.set_cons_succ]
    refine wpAnyR_takeQ (i := 4) (v := ?_) (some 17) rfl rfl (by kernel_rfl) (by kernel_rfl) (by kernel_rfl) (by kernel_rfl) (fun _ _ _ h => h) (Or.inl ⟨by rfl, ?_⟩) ?_
    rotate_left
    focus (intro wS hSw; (try dsimp only at hSw); go_simp; (try with_reducible rfl); (try (first | (rw [if_pos (by omega)]; (try go_simp); (try with_reducible rfl)) | (rw [if_neg (by omega)]; (try go_simp); (try with_reducible rfl)))))
    try simp only [Act.put, List.setIfInBounds_toArray, List.set_cons_zero, List.set_cons_succ]
    refine wpAnyR_take (i := 5) (v := ?_) [6, 7, 8, 9, 10, 11] (some 18) rfl rfl (by kernel_rfl) (by kernel_rfl) (by kernel_rfl) (by kernel_rfl) (by kernel_rfl) (by kernel_rfl) (by kernel_rfl) (fun _ _ _ h => h) (Or.inl ⟨by rfl, ?_⟩) hS ?_
    rotate_left
    focus (intro wS hSw; (try dsimp only at hSw); go_simp; (try with_reducible rfl); (try (first | (rw [if_pos (by omega)]; (try go_simp); (try with_reducible rfl)) | (rw [if_neg (by omega)]; (try go_simp); (try with_reducible rfl)))))
    try simp only [Act.put, List.setIfInBounds_toArray, List.set_cons_zero, List.set_cons_succ]
    refine wpAnyR_take (i := 6) (v := ?_) [7, 8, 9, 10, 11] (some 19) rfl rfl (by kernel_rfl) (by kernel_rfl) (by kernel_rfl) (by kernel_rfl) (by kernel_rfl) (by kernel_rfl) (by kernel_rfl) (fun _ _ _ h => h) (Or.inl ⟨by rfl, ?_⟩) hS ?_
    rotate_left
    focus (intro wS hSw; (try dsimp only at hSw); go_simp; (try with_reducible rfl); (try (first | (rw [if_pos (by omega)]; (try go_simp); (try with_reducible rfl)) | (rw [if_neg (by omega)]; (try go_simp); (try with_reducible rfl)))))
    try simp only [Act.put, List.setIfInBounds_toArray, List.set_cons_zero, List.set_cons_succ]
    refine wpAnyR_takeQ (i := 7) (v := ?_) (some 12) rfl rfl (by kernel_rfl) (by kernel_rfl) (by kernel_rfl) (by kernel_rfl) (fun _ _ _ h => h) (Or.inl ⟨by rfl, ?_⟩) ?_
    rotate_left
    focus (intro wS hSw; (try dsimp only at hSw); go_simp; (try with_reducible rfl); (try (first | (rw [if_pos (by omega)]; (try go_simp); (try with_reducible rfl)) | (rw [if_neg (by omega)]; (try go_simp); (try with_reducible rfl)))))
    try simp only [Act.put, List.setIfInBounds_toArray, List.set_cons_zero, List.set_cons_succ]
    refine wpAnyR_takeQ (i := 8) (v := ?_) (some 20) rfl rfl (by kernel_rfl) (by kernel_rfl) (by kernel_rfl) (by kernel_rfl) (fun _ _ _ h => h) (Or.inl ⟨by rfl, ?_⟩) ?_
    rotate_left
    focus (intro wS hSw; (try dsimp only at hSw); go_simp; (try with_reducible rfl); (try (first | (rw [if_pos (by omega)]; (try go_simp); (try with_reducible rfl)) | (rw [if_neg (by omega)]; (try go_simp); (try with_reducible rfl)))))
    try simp only [Act.put, List.setIfInBounds_toArray, List.set_cons_zero, List.set_cons_succ]
    refine wpAnyR_takeQ (i := 9) (v := ?_) (some 21) rfl rfl (by kernel_rfl) (by kernel_rfl) (by kernel_rfl) (by kernel_rfl) (fun _ _ _ h => h) (Or.inl ⟨by rfl, ?_⟩) ?_
    rotate_left
    focus (intro wS hSw; (try dsimp only at hSw); go_simp; (try with_reducible rfl); (try (first | (rw [if_pos (by omega)]; (try go_simp); (try with_reducible rfl)) | (rw [if_neg (by omega)]; (try go_simp); (try with_reducible rfl)))))
    try simp only [Act.put, List.setIfInBounds_toArray, List.set_cons_zero, List.set_cons_succ]
    refine wpAnyR_takeQ (i := 10) (v := ?_) (some 5) rfl rfl (by kernel_rfl) (by kernel_rfl) (by kernel_rfl) (by kernel_rfl) (fun _ _ _ h => h) (Or.inl ⟨by rfl, ?_⟩) ?_
    rotate_left
    focus (intro wS hSw; (try dsimp only at hSw); go_simp; (try with_reducible rfl); (try (first | (rw [if_pos (by omega)]; (try go_simp); (try with_reducible rfl)) | (rw [if_neg (by omega)]; (try go_simp); (try with_reducible rfl)))))
    try simp only [Act.put, List.setIfInBounds_toArray, List.set_cons_zero, List.set_cons_succ]
    refine wpAnyR_takeQ (i := 11) (v := ?_) (some 6) rfl rfl (by kernel_rfl) (by kernel_rfl) (by kernel_rfl) (by kernel_rfl) (fun _ _ _ h => h) (Or.inl ⟨by rfl, ?_⟩) ?_
    rotate_left
    focus (intro wS hSw; (try dsimp only at hSw); go_simp; (try with_reducible rfl); (try (first | (rw [if_pos (by omega)]; (try go_simp); (try with_reducible rfl)) | (rw [if_neg (by omega)]; (try go_simp); (try with_reducible rfl)))))
    try simp only [Act.put, List.setIfInBounds_toArray, List.set_cons_zero, List.set_cons_succ]
    refine wpAnyR_done (by kernel_rfl) ?_ _
    clear hS
    go_wp2_with fail
    go_ret
    exact .inl ⟨⟨by first | rfl | trivial, hef⟩, rfl, by (repeat' first | (with_reducible exact Grew.refl _) | (with_reducible assumption) | (with_reducible refine Grew.alloc ?_ _) | (with_reducible refine Grew.drew ?_) | (with_reducible refine Grew.drewN ?_ _) | (with_reducible refine Grew.setRow ?_ (by first | (simp; done) | (simp; omega) | omega) _) | (with_reducible refine Grew.setCell ?_ (by first | (simp; done) | (simp; omega) | omega) _) | ((with_reducible apply Grew.trans); rotate_left; (with_reducible assumption)) | ((with_reducible apply Grew.turn); rotate_left; (with_reducible assumption); (focus (intro i hi; first | omega | (simp at hi; omega)))) | fail)⟩
  · have HNB := Lib.hid (show ¬ (b = true ∧ e ≤ f) from by rcases hbe with ⟨rfl, h⟩ | rfl <;> simp <;> omega)
    have hS : (fun w' : World => w'.cell? ⟨w.heap.size, 0, none⟩ = some (.int .i64 s) ∧ w'.cell? ⟨q.x, 3, none⟩ = some (.map (some q.m)) ∧ (Instr.lookup 64 (.map (some q.m)) (.int .i64 s) true).run Try.prog w' = .ok (.tuple #[.int .i64 f, .bool b]) w') (w.alloc (.cells #[.int .i64 s, .int .i64 e] 40)).drew := ⟨ha0, hx3, HLK.out _ hm1.drew⟩
    go_enter Try.func36, Try.ntmps36
    go_wp2_with fail
    refine wp_region_R [] (fun w' : World => w'.cell? ⟨w.heap.size, 0, none⟩ = some (.int .i64 s) ∧ w'.cell? ⟨q.x, 3, none⟩ = some (.map (some q.m)) ∧ (Instr.lookup 64 (.map (some q.m)) (.int .i64 s) true).run Try.prog w' = .ok (.tuple #[.int .i64 f, .bool b]) w') (by kernel_rfl) ?_
    refine wpAnyR_takeQ (i := 0) (v := ?_) (some 13) rfl rfl (by kernel_rfl) (by kernel_rfl) (by kernel_rfl) (by kernel_rfl) (fun _ _ _ h => h) (Or.inl ⟨by rfl, ?_⟩) ?_
    rotate_left
    focus (intro wS hSw; (try dsimp only at hSw); go_simp; (try with_reducible rfl); (try (first | (rw [if_pos (by omega)]; (try go_simp); (try with_reducible rfl)) | (rw [if_neg (by omega)]; (try go_simp); (try with_reducible rfl)))))
    try simp only [Act.put, List.setIfInBounds_toArray, List.set_cons_zero, List.set_cons_succ]
    refine wpAnyR_take (i := 1) (v := ?_) [2, 3, 6, 7, 8, 9, 10, 11] (some 14) rfl rfl (by kernel_rfl) (by kernel_rfl) (by kernel_rfl) (by kernel_rfl) (by kernel_rfl) (by kernel_rfl) (by kernel_rfl) (fun _ _ _ h => h) (Or.inl ⟨by rfl, ?_⟩) hS ?_
    rotate_left
    focus (intro wS hSw; (try dsimp only at hSw); go_simp; (try with_reducible rfl); (try (first | (rw [if_pos (by omega)]; (try go_simp); (try with_reducible rfl)) | (rw [if_neg (by omega)]; (try go_simp); (try with_reducible rfl)))))
    try simp only [Act.put, List.setIfInBounds_toArray, List.set_cons_zero, List.set_cons_succ]
    refine wpAnyR_takeQ (i := 2) (v := ?_) (some 15) rfl rfl (by kernel_rfl) (by kernel_rfl) (by kernel_rfl) (by kernel_rfl) (fun _ _ _ h => h) (Or.inl ⟨by rfl, ?_⟩) ?_
    rotate_left
    focus (intro wS hSw; (try dsimp only at hSw); go_simp; (try with_reducible rfl); (try (first | (rw [if_pos (by omega)]; (try go_simp); (try with_reducible rfl)) | (rw [if_neg (by omega)]; (try go_simp); (try with_reducible rfl)))))
    try simp only [Act.put, List.setIfInBounds_toArray, List.set_cons_zero, List.set_cons_succ]
    refine wpAnyR_take (i := 3) (v := ?_) [6, 7, 8, 9, 10, 11] (some 16) rfl rfl (by kernel_rfl) (by kernel_rfl) (by kernel_rfl) (by kernel_rfl) (by kernel_rfl) (by kernel_rfl) (by kernel_rfl) (fun _ _ _ h => h) (Or.inl ⟨by rfl, ?_⟩) hS ?_
    rotate_left
    focus (intro wS hSw; (try dsimp only at hSw); go_simp; (try with_reducible rfl); (try (first | (rw [if_pos (by omega)]; (try go_simp); (try with_reducible rfl)) | (rw [if_neg (by omega)]; (try go_simp); (try with_reducible rfl)))))
    try simp only [Act.put, List.setIfInBounds_toArray, List.set_cons_zero, List.set_cons_succ]
    refine wpAnyR_takeQ (i := 4) (v := ?_) (some 17) rfl rfl (by kernel_rfl) (by kernel_rfl) (by kernel_rfl) (by kernel_rfl) (fun _ _ _ h => h) (Or.inl ⟨by rfl, ?_⟩) ?_
    rotate_left
    focus (intro wS hSw; (try dsimp only at hSw); go_simp; (try with_reducible rfl); (try (first | (rw [if_pos (by omega)]; (try go_simp); (try with_reducible rfl)) | (rw [if_neg (by omega)]; (try go_simp); (try with_reducible rfl)))))
    try simp only [Act.put, List.setIfInBounds_toArray, List.set_cons_zero, List.set_cons_succ]
    refine wpAnyR_take (i := 5) (v := ?_) [6, 7, 8, 9, 10, 11] (some 18) rfl rfl (by kernel_rfl) (by kernel_rfl) (by kernel_rfl) (by kernel_rfl) (by kernel_rfl) (by kernel_rfl) (by kernel_rfl) (fun _ _ _ h => h) (Or.inl ⟨by rfl, ?_⟩) hS ?_
    rotate_left
    focus (intro wS hSw; (try dsimp only at hSw); go_simp; (try with_reducible rfl); (try (first | (rw [if_pos (by omega)]; (try go_simp); (try with_reducible rfl)) | (rw [if_neg (by omega)]; (try go_simp); (try with_reducible rfl)))))
    try simp only [Act.put, List.setIfInBounds_toArray, List.set_cons_zero, List.set_cons_succ]
    refine wpAnyR_take (i := 6) (v := ?_) [7, 8, 9, 10, 11] (some 19) rfl rfl (by kernel_rfl) (by kernel_rfl) (by kernel_rfl) (by kernel_rfl) (by kernel_rfl) (by kernel_rfl) (by kernel_rfl) (fun _ _ _ h => h) (Or.inl ⟨by rfl, ?_⟩) hS ?_
    rotate_left
    focus (intro wS hSw; (try dsimp only at hSw); go_simp; (try with_reducible rfl); (try (first | (rw [if_pos (by omega)]; (try go_simp); (try with_reducible rfl)) | (rw [if_neg (by omega)]; (try go_simp); (try with_reducible rfl)))))
    try simp only [Act.put, List.setIfInBounds_toArray, List.set_cons_zero, List.set_cons_succ]
    refine wpAnyR_takeQ (i := 7) (v := ?_) (some 12) rfl rfl (by kernel_rfl) (by kernel_rfl) (by kernel_rfl) (by kernel_rfl) (fun _ _ _ h => h) (Or.inl ⟨by rfl, ?_⟩) ?_
    rotate_left
    focus (intro wS hSw; (try dsimp only at hSw); go_simp; (try with_reducible rfl); (try (first | (rw [if_pos (by omega)]; (try go_simp); (try with_reducible rfl)) | (rw [if_neg (by omega)]; (try go_simp); (try with_reducible rfl)))))
    try simp only [Act.put, List.setIfInBounds_toArray, List.set_cons_zero, List.set_cons_succ]
    refine wpAnyR_takeQ (i := 8) (v := ?_) (some 20) rfl rfl (by kernel_rfl) (by kernel_rfl) (by kernel_rfl) (by kernel_rfl) (fun _ _ _ h => h) (Or.inl ⟨by rfl, ?_⟩) ?_
    rotate_left
    focus (intro wS hSw; (try dsimp only at hSw); go_simp; (try with_reducible rfl); (try (first | (rw [if_pos (by omega)]; (try go_simp); (try with_reducible rfl)) | (rw [if_neg (by omega)]; (try go_simp); (try with_reducible rfl)))))
    try simp only [Act.put, List.setIfInBounds_toArray, List.set_cons_zero, List.set_cons_succ]
    refine wpAnyR_takeQ (i := 9) (v := ?_) (some 21) rfl rfl (by kernel_rfl) (by kernel_rfl) (by kernel_rfl) (by kernel_rfl) (fun _ _ _ h => h) (Or.inl ⟨by rfl, ?_⟩) ?_
    rotate_left
    focus (intro wS hSw; (try dsimp only at hSw); go_simp; (try with_reducible rfl); (try (first | (rw [if_pos (by omega)]; (try go_simp); (try with_reducible rfl)) | (rw [if_neg (by omega)]; (try go_simp); (try with_reducible rfl)))))
    try simp only [Act.put, List.setIfInBounds_toArray, List.set_cons_zero, List.set_cons_succ]
    refine wpAnyR_takeQ (i := 10) (v := ?_) (some 5) rfl rfl (by kernel_rfl) (by kernel_rfl) (by kernel_rfl) (by kernel_rfl) (fun _ _ _ h => h) (Or.inl ⟨by rfl, ?_⟩) ?_
    rotate_left
    focus (intro wS hSw; (try dsimp only at hSw); go_simp; (try with_reducible rfl); (try (first | (rw [if_pos (by omega)]; (try go_simp); (try with_reducible rfl)) | (rw [if_neg (by omega)]; (try go_simp); (try with_reducible rfl)))))
    try simp only [Act.put, List.setIfInBounds_toArray, List.set_cons_zero, List.set_cons_succ]
    refine wpAnyR_takeQ (i := 11) (v := ?_) (some 6) rfl rfl (by kernel_rfl) (by kernel_rfl) (by kernel_rfl) (by kernel_rfl) (fun _ _ _ h => h) (Or.inl ⟨by rfl, ?_⟩) ?_
    rotate_left
    focus (intro wS hSw; (try dsimp only at hSw); go_simp; (try with_reducible rfl); (try (first | (rw [if_pos (by omega)]; (try go_simp); (try with_reducible rfl)) | (rw [if_neg (by omega)]; (try go_simp); (try with_reducible rfl)))))
    try simp only [Act.put, List.setIfInBounds_toArray, List.set_cons_zero, List.set_cons_succ]
    refine wpAnyR_done (by kernel_rfl) ?_ _
    clear hS
    have hh := (HH.out.grew hG).grew (Grew.refl _).drew
    have hgw := hG.drew
    obtain ⟨w1, hw1⟩ : ∃ w1, w1 = (w.alloc (.cells #[.int .i64 s, .int .i64 e] 40)).drew := ⟨_, rfl⟩
    rw [← hw1] at hh hgw ⊢
    have hb1 := hh.blk
    rw [HF.out, HSV.out] at hb1
    have hx4 := hb1.cell 4
    have hx5 := hb1.cell 5
    have hx6 := hb1.cell 6
    have hx7 := hb1.cell 7
    have hf4 := hb1.frozen 4
    have hf5 := hb1.frozen 5
    have hf6 := hb1.frozen 6
    have hf7 := hb1.frozen 7
    replace ha0 := (show w1.cell? ⟨w.heap.size, 0, none⟩ = some (.int .i64 s) by rw [hw1]; exact ha0)
    replace ha1 := (show w1.cell? ⟨w.heap.size, 1, none⟩ = some (.int .i64 e) by rw [hw1]; exact ha1)
    have hxl1 := hb1.lt
    have HGW := Lib.hid hgw
    have HH1 := Lib.hid hh
    have hwl : w.heap.size < w1.heap.size := by rw [hw1]; show w.heap.size < (w.alloc _).heap.size; simp
    clear hw1 hb1 hx3 hm1 hG hA1 hk hxl hh hgw
    rcases hbe with ⟨rfl, hef⟩ | rfl
    · cases hse : q.set with
      | false =>
        rw [hse] at hx4
        go_wp2_with fail
        go_ret
        exact .inr ⟨(by first | (intro hh; exact absurd hh.1 (by decide)) | (intro hh; have := hh.2; omega)), .inl ⟨by first | rfl | trivial, rfl, HGW.out⟩⟩
      | true =>
        rw [hse] at hx4
        have HSE := Lib.hid hse
        clear hse
        by_cases hl0 : 0 < q.left
        · have hl1 : -9223372036854775808 ≤ q.left - 1 ∧ q.left - 1 ≤ 9223372036854775807 := by omega
          go_wp2_with fail
          go_ret
          have hh := HH1.out
          have hr := hh.rex (w' := w1.setCell ⟨q.x, 5, none⟩ (.int .i64 (q.left - 1))) ((Turned.refl (fun k => k = q.x) w1).setCell (p := ⟨q.x, 5, none⟩) (fun _ => rfl) _) true (q.left - 1) q.svl q.vsv false (some ((q.left - 1).toNat, q.svl))
            ((hh.blk.set_ 5 _).conv (by rw [HSE.out, HF.out]; rfl)) (hh.sv.far (p := ⟨q.x, 5, none⟩) (hh.sv.ne_blk hh.blk (by decide)) _) rfl (by omega) hh.svok
          exact .inr ⟨(by first | (intro hh; exact absurd hh.1 (by decide)) | (intro hh; have := hh.2; omega)), .inr (.inl ⟨HSE.out, hl0, rfl, { q with set := true, left := q.left - 1 }, hr, rex_foot _ _ _ _ _ _ (fun k hk => .inl hk), (HGW.out.turned _).setCell (p := ⟨q.x, 5, none⟩) (fun _ => .inl rfl) _⟩)⟩
        · have hl1 : q.left = 0 := by omega
          rw [hl1] at hx5
          have hh := HH1.out
          have ht4 := (((((Turned.refl (fun k => k = q.x) w1).setCell (p := ⟨q.x, 7, none⟩) (fun _ => rfl) (.bool true)).setCell (p := ⟨q.x, 4, none⟩) (fun _ => rfl) (.bool false)).setCell (p := ⟨q.x, 5, none⟩) (fun _ => rfl) (.int .i64 0)).setCell (p := ⟨q.x, 6, none⟩) (fun _ => rfl) (.slice none 0 0))
          have hr := hh.rex ht4 false 0 [] (.slice none 0 0) true none (((((hh.blk.set_ 7 _).set_ 4 _).set_ 5 _).set_ 6 _).conv rfl) (OwnL.nil _ _ _ _) rfl (by omega) ⟨(fun n hn => by cases hn), by decide⟩
          have hl2 := ((HSL.out.keep (Nat.le_refl _) HGW.out).keptT HGW.out.size ht4 (fun _ b off e hh => HST.out b off e (.inl hh))).mono (Nat.le_trans HGW.out.size ht4.size)
          have hfin := finish_all hr (fun _ => true) A2 c2 q.svl (fun _ => True) hl2 (fun _ => HST.out) HSV9.out HH.out.svok.1 hsmall (fun _ _ _ _ => trivial) (fun _ _ _ _ => trivial) trivial (fun W r _ => admit1_any r W)
          have HFIN := Lib.hid hfin
          have HT4 := Lib.hid ht4
          clear hh ht4 hr hl2 hfin
          go_wp2_with fail
          refine HFIN.out.mono ?_
          rintro er w3 ⟨rfl, q3, hd3, hf3, ht3⟩
          have HD3 := Lib.hid (show Did w w3 q { finishD D (fun _ => true) (svN q.svl) with failed := true, fuse := none } from by
            refine ⟨q3, by rw [← finishD_set]; exact hd3, ((rex_foot w q _ _ _ _ (fun k hk => by cases hk)).trans hf3 (Nat.le_trans HGW.out.size HT4.out.size)), ?_⟩
            exact ((HGW.out.turned q.feet).next HT4.out (fun i _ h => .inl h)).next ht3 (fun i _ h => DevP.turns_feet q i h))
          clear hd3 hf3 ht3
          go_wp2_with fail
          go_ret
          exact .inr ⟨(by first | (intro hh; exact absurd hh.1 (by decide)) | (intro hh; have := hh.2; omega)), .inr (.inr ⟨HSE.out, hl1, rfl, HD3.out⟩)⟩
    · cases hse : q.set with
      | false =>
        rw [hse] at hx4
        go_wp2_with fail
        go_ret
        exact .inr ⟨(by first | (intro hh; exact absurd hh.1 (by decide)) | (intro hh; have := hh.2; omega)), .inl ⟨by first | rfl | trivial, rfl, HGW.out⟩⟩
      | true =>
        rw [hse] at hx4
        have HSE := Lib.hid hse
        clear hse
        by_cases hl0 : 0 < q.left
        · have hl1 : -9223372036854775808 ≤ q.left - 1 ∧ q.left - 1 ≤ 9223372036854775807 := by omega
          go_wp2_with fail
          go_ret
          have hh := HH1.out
          have hr := hh.rex (w' := w1.setCell ⟨q.x, 5, none⟩ (.int .i64 (q.left - 1))) ((Turned.refl (fun k => k = q.x) w1).setCell (p := ⟨q.x, 5, none⟩) (fun _ => rfl) _) true (q.left - 1) q.svl q.vsv false (some ((q.left - 1).toNat, q.svl))
            ((hh.blk.set_ 5 _).conv (by rw [HSE.out, HF.out]; rfl)) (hh.sv.far (p := ⟨q.x, 5, none⟩) (hh.sv.ne_blk hh.blk (by decide)) _) rfl (by omega) hh.svok
          exact .inr ⟨(by first | (intro hh; exact absurd hh.1 (by decide)) | (intro hh; have := hh.2; omega)), .inr (.inl ⟨HSE.out, hl0, rfl, { q with set := true, left := q.left - 1 }, hr, rex_foot _ _ _ _ _ _ (fun k hk => .inl hk), (HGW.out.turned _).setCell (p := ⟨q.x, 5, none⟩) (fun _ => .inl rfl) _⟩)⟩
        · have hl1 : q.left = 0 := by omega
          rw [hl1] at hx5
          have hh := HH1.out
          have ht4 := (((((Turned.refl (fun k => k = q.x) w1).setCell (p := ⟨q.x, 7, none⟩) (fun _ => rfl) (.bool true)).setCell (p := ⟨q.x, 4, none⟩) (fun _ => rfl) (.bool false)).setCell (p := ⟨q.x, 5, none⟩) (fun _ => rfl) (.int .i64 0)).setCell (p := ⟨q.x, 6, none⟩) (fun _ => rfl) (.slice none 0 0))
          have hr := hh.rex ht4 false 0 [] (.slice none 0 0) true none (((((hh.blk.set_ 7 _).set_ 4 _).set_ 5 _).set_ 6 _).conv rfl) (OwnL.nil _ _ _ _) rfl (by omega) ⟨(fun n hn => by cases hn), by decide⟩
          have hl2 := ((HSL.out.keep (Nat.le_refl _) HGW.out).keptT HGW.out.size ht4 (fun _ b off e hh => HST.out b off e (.inl hh))).mono (Nat.le_trans HGW.out.size ht4.size)
          have hfin := finish_all hr (fun _ => true) A2 c2 q.svl (fun _ => True) hl2 (fun _ => HST.out) HSV9.out HH.out.svok.1 hsmall (fun _ _ _ _ => trivial) (fun _ _ _ _ => trivial) trivial (fun W r _ => admit1_any r W)
          have HFIN := Lib.hid hfin
          have HT4 := Lib.hid ht4
          clear hh ht4 hr hl2 hfin
          go_wp2_with fail
          refine HFIN.out.mono ?_
          rintro er w3 ⟨rfl, q3, hd3, hf3, ht3⟩
          have HD3 := Lib.hid (show Did w w3 q { finishD D (fun _ => true) (svN q.svl) with failed := true, fuse := none } from by
            refine ⟨q3, by rw [← finishD_set]; exact hd3, ((rex_foot w q _ _ _ _ (fun k hk => by cases hk)).trans hf3 (Nat.le_trans HGW.out.size HT4.out.size)), ?_⟩
            exact ((HGW.out.turned q.feet).next HT4.out (fun i _ h => .inl h)).next ht3 (fun i _ h => DevP.turns_feet q i h))
          clear hd3 hf3 ht3
          go_wp2_with fail
          go_ret
          exact .inr ⟨(by first | (intro hh; exact absurd hh.1 (by decide)) | (intro hh; have := hh.2; omega)), .inr (.inr ⟨HSE.out, hl1, rfl, HD3.out⟩)⟩
theorem admit_any (hp : plainW s e = true) (hsmall : D.pend.length ≤ 1000000) :
    Calls Try.prog 36 #[.pointer (some ⟨q.x, 0, none⟩), .agg #[.int .i64 s, .int .i64 e]] w fun er w' => er = .returned (.int .i64 (admitD D s e).2) ∧ Did w w' q (admitD D s e).1 := by
  have hp1 := of_decide_eq_true hp
  cases hf : D.failed with
  | true =>
    rw [admitD_failed hf]
    exact (admit_failed h s e hf).mono fun er w' ⟨h1, h2⟩ => ⟨h1, Did.same h h2⟩
  | false =>
    obtain ⟨f, b, ho, ha, hb0, hb1⟩ := h.fence hp1.1 hp1.2.1
    have hiff : e < D.fen s ↔ (b = true ∧ e ≤ f) := by
      cases b with
      | false => rw [hb0 rfl]; simp; omega
      | true => rw [hb1 rfl]; unfold clipE; split <;> simp <;> omega
    refine (admit_live h s e hf hp hsmall f b ho ha).mono ?_
    rintro er w' (⟨h1, rfl, h2⟩ | ⟨h1, ⟨hs, rfl, h2⟩ | ⟨hs, hl, rfl, h2⟩ | ⟨hs, hl, rfl, h2⟩⟩)
    · rw [admitD_fenced hf (hiff.2 h1)]
      exact ⟨rfl, Did.same h h2⟩
    · rw [admitD_none hf (fun hh => h1 (hiff.1 hh)) (by rw [h.fuse, hs]; rfl)]
      exact ⟨rfl, Did.same h h2⟩
    · have hn : D.fuse = some ((q.left - 1).toNat + 1, q.svl) := by rw [h.fuse, hs]; simp only [if_true]; congr 2; omega
      rw [admitD_some hf (fun hh => h1 (hiff.1 hh)) hn]
      refine ⟨rfl, ?_⟩
      rw [← hf] at h2
      exact h2
    · have hn : D.fuse = some (0, q.svl) := by rw [h.fuse, hs, hl]; rfl
      rw [admitD_zero hf (fun hh => h1 (hiff.1 hh)) hn]
      exact ⟨rfl, h2⟩
omit h in
/-- What an admitted call leaves: at most the fuse has turned. -/
theorem admitD_zero_kept {D : Dev} {s e : Int} (h : (admitD D s e).2 = 0) : ∃ fu, (admitD D s e).1 = { D with fuse := fu } := by
  unfold admitD at h ⊢
  split at h
  · cases h
  · split at h
    · cases h
    · split at h
      · cases h
      · rename_i h1 h2 h3
        rw [if_neg h1, if_neg h2, if_neg h3]
        unfold useD at h3 ⊢
        split at h3
        · exact ⟨D.fuse, rfl⟩
        · exact ⟨_, rfl⟩
        · exact absurd rfl h3
end
end Go.Proofs.Ytklojcgbokmkhaa
