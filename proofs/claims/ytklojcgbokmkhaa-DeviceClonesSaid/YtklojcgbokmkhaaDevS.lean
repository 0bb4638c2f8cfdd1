/- Chapter 3: the reference's change. -/
import Derived.Test.YtklojcgbokmkhaaDevR
namespace Go.Proofs.Ytklojcgbokmkhaa
set_option linter.unusedVariables false
set_option linter.unusedSimpArgs false
set_option linter.unusedSectionVars false
open Go.RowKit
open Go.Maps (Keyed)
attribute [local go_sem ↓] Go.wp_at_zero Go.wp_at_succ
theorem OwnL.formG {w : World} {base e sz g : Nat} {v : Value} {rows : List (List Value)} (h : OwnL w base e sz v rows) (hg : v.ownBlock = some g) :
    ∃ cap, v = .slice (some ⟨g, 0, none⟩) rows.length cap ∧ base ≤ g ∧ g < w.heap.size ∧ rows.length ≤ cap ∧ cap ≤ 9223372036854775807 := by
  rcases h.form with ⟨hv, _⟩ | ⟨g', cap, hv, h1, h2, h3, h4⟩
  · rw [hv] at hg; cases hg
  · rw [hv] at hg
    have : g' = g := by simpa [Value.ownBlock] using hg
    subst this
    exact ⟨cap, hv, h1, h2, h3, h4⟩
/-- 'append([]T{}, l...)': a copy of its own. -/
theorem wpList_dup {ops : Array Oper} {rest : List Oper} {o : Oper} {a : Act} {Q : Exit → Act → World → Prop} (W : World) (hwt : Region.wanted o (yielded ops a.tmps) = true) (s x : Operand) (t : TypeId)
    (ho : o.op = .call { callee := .builtin .append, args := #[s, x], argTypes := #[t, t] })
    (e size bytes : Nat) (z : Value) (ht : Try.prog.underlying t = some (.slice e)) (hi : (Try.prog.info? e).map (fun i => (i.zero, i.size, i.bytes)) = some (some z, size, bytes)) (hzs : z.cells.size = size) (hsz : 0 < size)
    (rows' : List (List Value)) (hs : a.eval s = .slice (some ⟨W.heap.size, 0, none⟩) 0 0) (A : Option Addr) (m c : Nat) (hx : a.eval x = .slice A m c) (hm : m = rows'.length) (hlen' : ∀ r ∈ rows', r.length = size) (hl : ListAt W W.heap.size size A rows') (h1 : ∀ r ∈ rows', r.all (·.oneCell') = true)
    (hlen : m * bytes ≤ 140737488355328) (h63 : m ≤ 9223372036854775807)
    (h : ∀ g c' w', OwnL w' W.heap.size e size (.slice (some ⟨g, 0, none⟩) m c') rows' → Grew W w' → g < w'.heap.size → W.heap.size ≤ g → m ≤ c' → c' ≤ 9223372036854775807 → wpList Try.prog ops Q rest (a.put o.dst (.slice (some ⟨g, 0, none⟩) m c')) w') :
    wpList Try.prog ops Q (o :: rest) a (W.alloc (.cells #[] e)) := by
  refine wpList_pushAll hwt s x t ho W.heap.size e size bytes z ht hi hzs hsz _ [] rows' hs (OwnL.empty W _ _ _ (Nat.le_refl _) rfl) A m c hx hm hlen' (hl.on ((Grew.refl W).alloc _)) h1 (by simpa using hlen) (by simpa using h63) (by simp) ?_
  intro v w' hown hgr hat
  have hg3 : Grew W w' := Grew.own ((Grew.refl W).alloc _) hgr (by simp [Value.ownBlock]) (Nat.le_refl _)
  obtain ⟨g, hvg⟩ : ∃ g, v.ownBlock = some g := by
    rcases hat with hat | hat
    · exact ⟨W.heap.size, by rw [hat]; rfl⟩
    · exact ⟨_, hat⟩
  rw [List.nil_append] at hown
  obtain ⟨c', rfl, h2, h3, h4, h5⟩ := hown.formG hvg
  rw [← hm] at hown h4 ⊢
  exact h g c' w' hown hg3 h3 h2 h4 h5
/-- A list that is not empty lies in this block. -/
def Lies (A : Option Addr) (n : Nat) (k : Nat) : Prop := 0 < n ∧ ∃ off, A = some ⟨k, off, none⟩
theorem Lies.lt {w : World} {sz : Nat} {A : Option Addr} {cells : List (List Value)} (h : ListAt w w.heap.size sz A cells) {n k : Nat} (hn : cells.length = n) (hk : Lies A n k) : k < w.heap.size := by
  obtain ⟨b, off, e, hb, _⟩ := h (by rw [hn]; exact hk.1)
  obtain ⟨_, off', e'⟩ := hk
  rw [e] at e'
  injection e' with e'
  injection e' with e' _ _
  omega
theorem ListAt.aside {w w' : World} {sz : Nat} {A : Option Addr} {cells : List (List Value)} (h : ListAt w w.heap.size sz A cells) {S : Nat → Prop} (ht : Turned S w w') {n : Nat} (hn : cells.length = n) (hS : ∀ k, Lies A n k → ¬ S k) : ListAt w' w'.heap.size sz A cells := fun hl => by
  obtain ⟨b, off, e, hb, hc⟩ := h hl
  exact ⟨b, off, e, Nat.lt_of_lt_of_le hb ht.size, fun j cs hj i v hi => (ht.cellEq _ _ hb (hS b ⟨by rw [← hn]; exact hl, off, e⟩)).trans (hc j cs hj i v hi)⟩
/-- The blocks of a reference's device. -/
def RefP.feet (p : RefP) (D : Dev) (k : Nat) : Prop :=
  Lies p.A0 D.st.length k ∨ Lies p.A1 D.st.length k ∨ Lies p.A2 D.pend.length k ∨ Lies p.A3 5 k ∨ Lies p.A6 p.svl.length k ∨ ∃ (i : Nat) (A : Option Addr) (n c : Nat), p.os[i]? = some (.slice A n c) ∧ Lies A n k
theorem RefM.os_at {w : World} {p : RefP} {D : Dev} (h : RefM w p D) {i n c : Nat} {A : Option Addr} (hi : p.os[i]? = some (.slice A n c)) : ∃ l, D.old[i]? = some l ∧ l.length = n ∧ ListAt w w.heap.size 1 A (l.map strC) := by
  have hlt : i < p.os.length := (List.getElem?_eq_some_iff.1 hi).1
  have h1 : i < D.old.length := by rw [h.ok.len, ← h.olen]; exact hlt
  obtain ⟨A', c', hv, _, hl⟩ := h.each i _ _ hi (List.getElem?_eq_getElem h1)
  injection hv with hA hn hc
  subst hA
  exact ⟨_, List.getElem?_eq_getElem h1, hn.symm, hl⟩
theorem RefM.lt {w : World} {p : RefP} {D : Dev} (h : RefM w p D) (k : Nat) (hk : p.feet D k) : k < w.heap.size := by
  rcases hk with hk | hk | hk | hk | hk | ⟨i, A, n, c, hi, hk⟩
  · exact Lies.lt h.st (strC_len _) hk
  · exact Lies.lt h.old (by rw [List.length_map]; exact h.olen) hk
  · exact Lies.lt h.pend (wrC_len _) hk
  · exact Lies.lt h.fen rfl hk
  · exact Lies.lt h.sv (List.length_map ..) hk
  · obtain ⟨l, _, hl, h9⟩ := h.os_at hi
    exact Lies.lt h9 (by rw [strC_len]; exact hl) hk
theorem RefM.turned {w w' : World} {p : RefP} {D : Dev} (h : RefM w p D) {S : Nat → Prop} (ht : Turned S w w') (hS : ∀ k, p.feet D k → ¬ S k) : RefM w' p D :=
  ⟨h.st.aside ht (strC_len _) (fun k hk => hS k (.inl hk)), h.old.aside ht (by rw [List.length_map]; exact h.olen) (fun k hk => hS k (.inr (.inl hk))), h.olen, fun i v l h1 h2 => by
    obtain ⟨A, c, h3, h4, h5⟩ := h.each i v l h1 h2
    exact ⟨A, c, h3, h4, h5.aside ht (strC_len _) (fun k hk => hS k (.inr (.inr (.inr (.inr (.inr ⟨i, A, _, c, by rw [h1, h3], hk⟩))))))⟩,
    h.pend.aside ht (wrC_len _) (fun k hk => hS k (.inr (.inr (.inl hk)))), h.fen.aside ht rfl (fun k hk => hS k (.inr (.inr (.inr (.inl hk))))), h.sv.aside ht (List.length_map ..) (fun k hk => hS k (.inr (.inr (.inr (.inr (.inl hk)))))),
    h.fuse, h.fub, h.svok, h.cap0, h.cap1, h.cap2, h.cap3, h.cap6, h.ok⟩
/-- What a call of the reference leaves. -/
structure RDid (w w' : World) (p : RefP) (D : Dev) (p' : RefP) (D' : Dev) : Prop where
  ref : RefM w' p' D'
  grew : Grew w w'
  feet : ∀ k, p'.feet D' k → p.feet D k ∨ w.heap.size ≤ k
theorem RDid.same {w w' : World} {p : RefP} {D : Dev} (h : RefM w p D) (hg : Grew w w') : RDid w w' p D p D := ⟨h.grew hg, hg, fun _ h => .inl h⟩
theorem RDid.trans {a b c : World} {p q r : RefP} {D E F : Dev} (h : RDid a b p D q E) (k : RDid b c q E r F) : RDid a c p D r F :=
  ⟨k.ref, h.grew.trans k.grew, fun i hi => (k.feet i hi).elim (h.feet i) (fun h9 => .inr (Nat.le_trans h.grew.size h9))⟩
theorem RDid.after {a b c : World} {p r : RefP} {D F : Dev} (hg : Grew a b) (k : RDid b c p D r F) : RDid a c p D r F :=
  ⟨k.ref, hg.trans k.grew, fun i hi => (k.feet i hi).imp id (fun h9 => Nat.le_trans hg.size h9)⟩
theorem lies_own {A : Option Addr} {n k g : Nat} (h : Lies A n k) (hA : A = some ⟨g, 0, none⟩) : k = g := by
  obtain ⟨_, off, e⟩ := h
  rw [hA] at e
  injection e with e
  injection e with e _ _
  exact e.symm
theorem RefM.os_one {w : World} {p : RefP} {D : Dev} (h : RefM w p D) : ∀ r ∈ p.os.map (fun v => [v]), r.all (·.oneCell') = true := by
  intro r hr
  obtain ⟨v, hv, rfl⟩ := List.mem_map.1 hr
  obtain ⟨i, hi, rfl⟩ := List.mem_iff_getElem.1 hv
  have h1 : i < D.old.length := by rw [h.ok.len, ← h.olen]; exact hi
  obtain ⟨A, c, hv, _⟩ := h.each i _ _ (List.getElem?_eq_getElem hi) (List.getElem?_eq_getElem h1)
  rw [hv]; rfl
theorem val_len (l : List Value) : (l.map fun v => [v]).length = l.length := List.length_map ..
theorem val_row (l : List Value) : ∀ r ∈ l.map (fun v => [v]), r.length = 1 := by intro r h; obtain ⟨x, _, rfl⟩ := List.mem_map.1 h; rfl
theorem form9 {w w' : World} {base e sz n m c : Nat} {v : Value} {r : List Value} {rows : List (List Value)} (h : OwnL w base e sz v ([r] ++ rows)) (_ : v.ownBlock = (Value.slice (some ⟨n, 0, none⟩) m c).ownBlock ∨ v.ownBlock = some w'.heap.size) :
    ∃ g cap, v = .slice (some ⟨g, 0, none⟩) (rows.length + 1) cap ∧ base ≤ g ∧ g < w.heap.size ∧ rows.length + 1 ≤ cap ∧ cap ≤ 9223372036854775807 := by
  rcases h.form with ⟨_, h0⟩ | ⟨g, cap, hv, h1, h2, h3, h4⟩
  · cases h0
  · have : ([r] ++ rows).length = rows.length + 1 := by simp
    rw [this] at hv h3
    exact ⟨g, cap, hv, h1, h2, h3, h4⟩
section
variable {w : World} {p : RefP} {D : Dev} (h : RefM w p D)
include h
set_option maxRecDepth 100000 in
set_option maxHeartbeats 8000000 in
theorem rchange_any (k : Nat) (hk : k < D.st.length) (s : ByteArray) (hs : s.size = 140) :
    Calls Try.prog 62 #[.agg (rv p D), .int .i64 (k : Int), .string s] w fun e w' => ∃ p', e = .returned (.agg (rv p' (changeD D k s))) ∧ RDid w w' p D p' (changeD D k s) := by
  have hb := (Blk.new w 32 (rv p D) rfl).alloc (.cells #[.slice none 0 0, .slice none 0 0, .slice none 0 0, .slice none 0 0, .bool false, .int .i64 0, .slice none 0 0] 32)
  have hr := Blk.new (w.alloc (.cells (rv p D) 32)) 32 #[.slice none 0 0, .slice none 0 0, .slice none 0 0, .slice none 0 0, .bool false, .int .i64 0, .slice none 0 0] (n := w.heap.size + 1) (by simp)
  have hG0 := ((Grew.refl w).alloc (.cells (rv p D) 32)).alloc (.cells #[.slice none 0 0, .slice none 0 0, .slice none 0 0, .slice none 0 0, .bool false, .int .i64 0, .slice none 0 0] 32)
  obtain ⟨b0, off0, hA0, hb0, y0⟩ := str_at h.st hk
  rw [← Dev.at_get hk] at y0
  obtain ⟨Ao, co, b1, off1, hos, hcap, hlo, hA1, hb1, y1⟩ := h.old_at hk
  have hc0 := h.cap0
  have hc1 := h.cap1
  have hlim := h.ok.lim
  have hol := olds_len h.ok k
  unfold capOk at hc0 hc1 hcap
  have HH := Lib.hid h
  have y0' := (hG0.cellEq _ _ hb0).trans y0
  obtain ⟨w1, hw1⟩ : ∃ w1, w1 = (w.alloc (.cells (rv p D) 32)).alloc (.cells #[.slice none 0 0, .slice none 0 0, .slice none 0 0, .slice none 0 0, .bool false, .int .i64 0, .slice none 0 0] 32) := ⟨_, rfl⟩
  rw [← hw1] at hb hr hG0 y0'
  have hw1' : (w.alloc (.cells #[.slice p.A0 D.st.length p.c0, .slice p.A1 D.st.length p.c1, .slice p.A2 D.pend.length p.c2, .slice p.A3 5 p.c3, .bool D.failed, .int .i64 p.fu, .slice p.A6 p.svl.length p.c6] 32)).alloc (.cells #[.slice none 0 0, .slice none 0 0, .slice none 0 0, .slice none 0 0, .bool false, .int .i64 0, .slice none 0 0] 32) = w1 := hw1.symm
  have hb01 : b0 < w1.heap.size := by have := hG0.size; omega
  have HZ1 := Lib.hid (show w1.heap.size = w.heap.size + 2 from by rw [hw1]; simp)
  have hlo' := hlo
  have hos' := hos
  clear hw1 hlo hos
  by_cases heq : D.at k = s
  · have HC := Lib.hid (show changeD D k s = D from by unfold changeD; rw [if_pos heq])
    have heb := str_eq heq
    generalize D.at k = a at *
    have HG0 := Lib.hid hG0
    unfold rv at hb ⊢
    rw [hA0, hA1] at hb hw1' ⊢
    clear h heq
    go_enter Try.func62, Try.ntmps62
    go_upto_region 1 with fail
    clear hw1'
    have x0 := hb.cell 0
    have y0 := hr.cell 0
    have f0 := hr.frozen 0
    have x1 := hb.cell 1
    have y1 := hr.cell 1
    have f1 := hr.frozen 1
    have x2 := hb.cell 2
    have y2 := hr.cell 2
    have f2 := hr.frozen 2
    have x3 := hb.cell 3
    have y3 := hr.cell 3
    have f3 := hr.frozen 3
    have x4 := hb.cell 4
    have y4 := hr.cell 4
    have f4 := hr.frozen 4
    have x5 := hb.cell 5
    have y5 := hr.cell 5
    have f5 := hr.frozen 5
    have x6 := hb.cell 6
    have y6 := hr.cell 6
    have f6 := hr.frozen 6
    have hxl := hb.lt
    have hyl := hr.lt
    clear hb hr
    go_wp2_with fail
    refine bodyPost_ret (by first | (simp [*, results, Try.results62, go_sem]; rfl) | simp [*, results, Try.results62, go_sem]) rfl ?_
    refine ⟨p, by rw [HC.out, hA0, hA1], ?_⟩
    rw [HC.out]
    have hgr : Grew w ((((((((w1.setCell ⟨w.heap.size + 1, 0, none⟩ (.slice (some ⟨b0, off0, none⟩) D.st.length p.c0)).setCell ⟨w.heap.size + 1, 1, none⟩ (.slice (some ⟨b1, off1, none⟩) D.st.length p.c1)).setCell ⟨w.heap.size + 1, 2, none⟩ (.slice p.A2 D.pend.length p.c2)).setCell ⟨w.heap.size + 1, 3, none⟩ (.slice p.A3 5 p.c3)).setCell ⟨w.heap.size + 1, 4, none⟩ (.bool D.failed)).setCell ⟨w.heap.size + 1, 5, none⟩ (.int .i64 p.fu)).setCell ⟨w.heap.size + 1, 6, none⟩ (.slice p.A6 p.svl.length p.c6))) := by
      have := HG0.out
      (repeat' first | (with_reducible exact Grew.refl _) | (with_reducible assumption) | (with_reducible refine Grew.alloc ?_ _) | (with_reducible refine Grew.drew ?_) | (with_reducible refine Grew.drewN ?_ _) | (with_reducible refine Grew.setRow ?_ (by first | (simp; done) | (simp; omega) | omega) _) | (with_reducible refine Grew.setCell ?_ (by first | (simp; done) | (simp; omega) | omega) _) | ((with_reducible apply Grew.trans); rotate_left; (with_reducible assumption)) | ((with_reducible apply Grew.turn); rotate_left; (with_reducible assumption); (focus (intro i hi; first | omega | (simp at hi; omega)))) | fail)
    exact RDid.same HH.out hgr
  · have HC := Lib.hid (show changeD D k s = { D with st := D.st.set k s, old := D.old.set k ((D.at k :: D.olds k).take 8) } from by unfold changeD; rw [if_neg heq])
    have heb := str_ne heq
    have HOL := Lib.hid (show ∀ t ∈ D.at k :: D.olds k, t.size = 140 from fun t ht => by
      rcases List.mem_cons.1 ht with rfl | ht
      · exact at_size h.ok hk
      · exact olds_size h.ok k t ht)
    have HST := Lib.hid h.st
    have HOS := Lib.hid h.old
    have HONE := Lib.hid h.os_one
    have HEA := Lib.hid h.each
    have HLO := Lib.hid hlo'
    have hosl := h.olen
    have HOS9 := Lib.hid hos'
    generalize D.at k = a at *
    generalize D.olds k = ol at *
    have HG0 := Lib.hid hG0
    unfold rv at hb ⊢
    rw [hA0, hA1] at hb hw1' ⊢
    rw [hA0] at HST
    rw [hA1] at HOS
    clear h heq
    go_enter Try.func62, Try.ntmps62
    go_upto_region 1 with fail
    clear hw1'
    have x0 := hb.cell 0
    have hxl := hb.lt
    go_upto_region 4 with fail
    have f0 := hb.frozen 0
    go_upto_region 5 with (at_builtin; refine wpList_dup w1 (by rfl) _ _ 27 rfl 9 1 16 _ Try.underlying27 info_str rfl (by decide) (D.st.map strC) (by rfl) _ D.st.length _ (by rfl) (strC_len _).symm (strC_row _) (HST.out.on HG0.out) (strC_one _) (by omega) (by omega) ?_; intro g3 c3 w3 hown1 hg3 hgl3 hgb3 hn3 hc3; have x0 := (hg3.cellEq _ _ hxl).trans x0; have f0 := (hg3.frozenEq _ _ hxl).trans f0; have hx3 : w.heap.size < w3.heap.size := Nat.lt_of_lt_of_le hxl hg3.size)
    have hgb' : w.heap.size + 2 ≤ g3 := by have := HZ1.out; omega
    have hG3 := HG0.out.trans hg3
    have hb4 := (hb.grew hg3).set_ 0 (.slice (some ⟨g3, 0, none⟩) D.st.length c3)
    have hr4 := (hr.grew hg3).far (p := ⟨w.heap.size, 0, none⟩) (by simp) (.slice (some ⟨g3, 0, none⟩) D.st.length c3)
    have hown4 := hown1.far (p := ⟨w.heap.size, 0, none⟩) (own_ne _ _ (by show g3 ≠ w.heap.size; omega)) (.slice (some ⟨g3, 0, none⟩) D.st.length c3)
    have hG4 := hG3.setCell (p := ⟨w.heap.size, 0, none⟩) (Nat.le_refl _) (.slice (some ⟨g3, 0, none⟩) D.st.length c3)
    obtain ⟨w4, hw4⟩ : ∃ w4, w4 = w3.setCell ⟨w.heap.size, 0, none⟩ (.slice (some ⟨g3, 0, none⟩) D.st.length c3) := ⟨_, rfl⟩
    rw [← hw4] at hb4 hr4 hown4 hG4 ⊢
    clear hw4 hown1 hg3 hG3 hb hr x0 f0 hxl hgl3 y0 y0' y1 hb01 hG0
    have hrow : (D.st.map strC)[k]? = some (strC D.st[k]) := by rw [List.getElem?_map, List.getElem?_eq_getElem hk]; rfl
    have c0 := hown4.cell (i := 0) hrow rfl
    rw [Nat.mul_one, Nat.add_zero] at c0
    have d0 := hown4.frozen k
    have hs4 := hown4.set_ (j := k) (i := 0) (o := k) hrow (by omega) (by omega) (.string s)
    have he4 : (D.st.map strC).set k ((strC D.st[k]).set 0 (.string s)) = (D.st.set k s).map strC := by rw [List.map_set]; rfl
    rw [he4] at hs4
    have x0 := hb4.cell 0
    have hxl := hb4.lt
    have hgl := (hown4.own_ge (g := g3) rfl).2
    go_upto_region 6 with fail
    have hb5 := hb4.far (p := ⟨g3, k, none⟩) (by simp; omega) (.string s)
    have hr5 := hr4.far (p := ⟨g3, k, none⟩) (by simp; omega) (.string s)
    have hG5 := hG4.setCell (p := ⟨g3, k, none⟩) (by simp; omega) (.string s)
    obtain ⟨w5, hw5⟩ : ∃ w5, w5 = w4.setCell ⟨g3, k, none⟩ (.string s) := ⟨_, rfl⟩
    rw [← hw5] at hs4 hb5 hr5 hG5 ⊢
    clear hw5 hown4 hb4 hr4 hG4 c0 d0 x0 hrow he4 hgl hxl
    have x1 := hb5.cell 1
    have f1 := hb5.frozen 1
    have hxl := hb5.lt
    go_upto_region 7 with (at_builtin; refine wpList_dup w5 (by rfl) _ _ 28 rfl 27 1 24 _ Try.underlying28 info_strs rfl (by decide) (p.os.map fun v => [v]) (by rfl) _ D.st.length _ (by rfl) (by rw [val_len]; exact hosl.symm) (val_row _) (HOS.out.on hG5) HONE.out (by omega) (by omega) ?_; intro g6 c6 w6 hown6 hg6 hgl6 hgb6 hn6 hc6; have x1 := (hg6.cellEq _ _ hxl).trans x1; have f1 := (hg6.frozenEq _ _ hxl).trans f1; have hx6 : w.heap.size < w6.heap.size := Nat.lt_of_lt_of_le hxl hg6.size)
    have hge5 : g3 < w5.heap.size := (hs4.own_ge (g := g3) rfl).2
    have hb7 := (hb5.grew hg6).set_ 1 (.slice (some ⟨g6, 0, none⟩) D.st.length c6)
    have hr7 := (hr5.grew hg6).far (p := ⟨w.heap.size, 1, none⟩) (by simp) (.slice (some ⟨g6, 0, none⟩) D.st.length c6)
    have hst7 := (hs4.grew hg6).far (p := ⟨w.heap.size, 1, none⟩) (own_ne _ _ (by show g3 ≠ w.heap.size; omega)) (.slice (some ⟨g6, 0, none⟩) D.st.length c6)
    have hos7 := hown6.far (p := ⟨w.heap.size, 1, none⟩) (own_ne _ _ (by show g6 ≠ w.heap.size; omega)) (.slice (some ⟨g6, 0, none⟩) D.st.length c6)
    have hG7 := (hG5.trans hg6).setCell (p := ⟨w.heap.size, 1, none⟩) (Nat.le_refl _) (.slice (some ⟨g6, 0, none⟩) D.st.length c6)
    obtain ⟨w7, hw7⟩ : ∃ w7, w7 = w6.setCell ⟨w.heap.size, 1, none⟩ (.slice (some ⟨g6, 0, none⟩) D.st.length c6) := ⟨_, rfl⟩
    rw [← hw7] at hb7 hr7 hst7 hos7 hG7 ⊢
    clear hw7 hown6 hg6 hgl6 hb5 hr5 hs4 hG5 x1 f1 hxl
    have hko : k < p.os.length := by omega
    have hrow6 : (p.os.map fun v => [v])[k]? = some [.slice Ao ol.length co] := by rw [List.getElem?_map, HOS9.out]; rfl
    have c6k := hos7.cell (i := 0) hrow6 rfl
    rw [Nat.mul_one, Nat.add_zero] at c6k
    have hgl6 := (hos7.own_ge (g := g6) rfl).2
    have hgl3 := (hst7.own_ge (g := g3) rfl).2
    have x1 := hb7.cell 1
    have hxl := hb7.lt
    have g8 := (Grew.refl w7).alloc (.cells #[.string a] 9)
    have hlit := OwnL.lit w7 w7.heap.size 9 1 (strC a) rfl (Nat.le_refl _) rfl
    have hlo8 := HLO.out.on (hG7.trans g8)
    have c6k' := (g8.cellEq _ _ hgl6).trans c6k
    have x1' := (g8.cellEq _ _ hxl).trans x1
    go_upto_region 8 with (at_builtin; refine wpList_pushAll (by rfl) _ _ 27 rfl w7.heap.size 9 1 16 _ Try.underlying27 info_str rfl (by decide) _ [strC a] (ol.map strC) (by rfl) hlit _ ol.length _ (by rfl) (strC_len _).symm (strC_row _) hlo8 (strC_one _) (by simp; omega) (by simp; omega) (by simp) ?_; intro v9 w9 hown9 hgr9 hat9; obtain ⟨g9, c9, rfl, hgb9, hgl9, hn9, hc9⟩ := form9 hown9 hat9)
    have hg9 : Grew w7 w9 := Grew.own g8 hgr9 hlit.row_ge (Nat.le_refl _)
    have hne96 : g9 ≠ g6 := by omega
    rw [strC_len] at hn9 hown9
    obtain ⟨M, hM⟩ : ∃ M, min 8 (ol.length + 1) = M := ⟨_, rfl⟩
    have hsh := hown9.shrink (i := M) (by omega)
    have htk : ([strC a] ++ ol.map strC).take M = ((a :: ol).take 8).map strC := by
      rw [show [strC a] ++ ol.map strC = (a :: ol).map strC from rfl, ← List.map_take]
      congr 1
      rw [← hM, Nat.min_def]
      split
      · rfl
      · rw [List.take_of_length_le (by simp), List.take_of_length_le (by simp; omega)]
    rw [htk] at hsh
    have hMl : ((a :: ol).take 8).length = M := by rw [List.length_take, List.length_cons]; exact hM
    have hMb : M ≤ 8 ∧ M ≤ ol.length + 1 ∧ 1 ≤ M := by omega
    have HSH := Lib.hid hsh
    have HML := Lib.hid hMl
    have hb9 := hb7.grew hg9
    have hr9 := hr7.grew hg9
    have hst9 := hst7.grew hg9
    have hos9 := hos7.grew hg9
    have hG9 := hG7.trans hg9
    have hg6w : w.heap.size + 2 ≤ g6 := by have := HZ1.out; omega
    have hg9w : w.heap.size + 2 ≤ g9 := by have := HZ1.out; omega
    clear hgr9 hat9 hown9 hsh htk hMl hlit hlo8 g8 c6k c6k' x1 x1' hxl hgl6 hgl3 hb7 hr7 hst7 hos7 hG7
    go_upto_if 43 with fail
    go_cut [8] (fun m wx => m = .slice (some ⟨g9, 0, none⟩) M c9 ∧ w9 = wx)
    case first =>
      by_cases h8 : ol.length = 8
      · obtain rfl : M = 8 := by omega
        clear hM
        go_wp2_with fail
        go_meet
        exact ⟨rfl, rfl⟩
      · obtain rfl : M = ol.length + 1 := by omega
        clear hM
        go_wp2_with fail
        go_meet
        exact ⟨rfl, rfl⟩
    case rest =>
      obtain ⟨rfl, rfl⟩ := hcut
      clear hM
      have c6k := hos9.cell (i := 0) hrow6 rfl
      rw [Nat.mul_one, Nat.add_zero] at c6k
      have d6 := hos9.frozen k
      have hgl6 := (hos9.own_ge (g := g6) rfl).2
      have x1 := hb9.cell 1
      have hxl := hb9.lt
      have hos10 := hos9.set_ (j := k) (i := 0) (o := k) hrow6 (by omega) (by omega) (.slice (some ⟨g9, 0, none⟩) M c9)
      have he10 : (p.os.map fun v => [v]).set k ([Value.slice Ao ol.length co].set 0 (.slice (some ⟨g9, 0, none⟩) M c9)) = (p.os.set k (.slice (some ⟨g9, 0, none⟩) M c9)).map fun v => [v] := by rw [List.map_set]; rfl
      rw [he10] at hos10
      go_upto_region 11 with fail
      have hb11 := hb9.far (p := ⟨g6, k, none⟩) (by simp; omega) (.slice (some ⟨g9, 0, none⟩) M c9)
      have hr11 := hr9.far (p := ⟨g6, k, none⟩) (by simp; omega) (.slice (some ⟨g9, 0, none⟩) M c9)
      have hst11 := hst9.far (p := ⟨g6, k, none⟩) (own_ne _ _ (by show g3 ≠ g6; omega)) (.slice (some ⟨g9, 0, none⟩) M c9)
      have hsh11 := HSH.out.far (p := ⟨g6, k, none⟩) (own_ne _ _ hne96) (.slice (some ⟨g9, 0, none⟩) M c9)
      have hG11 := hG9.setCell (p := ⟨g6, k, none⟩) (by simp; omega) (.slice (some ⟨g9, 0, none⟩) M c9)
      obtain ⟨wB, hwB⟩ : ∃ wB, wB = w9.setCell ⟨g6, k, none⟩ (.slice (some ⟨g9, 0, none⟩) M c9) := ⟨_, rfl⟩
      rw [← hwB] at hb11 hr11 hst11 hsh11 hos10 hG11 ⊢
      clear hwB hb9 hr9 hst9 hos9 hG9 c6k d6 x1 hxl hgl6 he10
      have x0 := hb11.cell 0
      have y0 := hr11.cell 0
      have f0 := hr11.frozen 0
      have x1 := hb11.cell 1
      have y1 := hr11.cell 1
      have f1 := hr11.frozen 1
      have x2 := hb11.cell 2
      have y2 := hr11.cell 2
      have f2 := hr11.frozen 2
      have x3 := hb11.cell 3
      have y3 := hr11.cell 3
      have f3 := hr11.frozen 3
      have x4 := hb11.cell 4
      have y4 := hr11.cell 4
      have f4 := hr11.frozen 4
      have x5 := hb11.cell 5
      have y5 := hr11.cell 5
      have f5 := hr11.frozen 5
      have x6 := hb11.cell 6
      have y6 := hr11.cell 6
      have f6 := hr11.frozen 6
      have hxl := hb11.lt
      have hyl := hr11.lt
      have HST := Lib.hid hst11
      have HSH := Lib.hid hsh11
      have HOS := Lib.hid hos10
      have HG := Lib.hid hG11
      clear hb11 hr11 hst11 hsh11 hos10 hG11
      go_wp2_with fail
      refine bodyPost_ret (by first | (simp [*, results, Try.results62, go_sem]; rfl) | simp [*, results, Try.results62, go_sem]) rfl ?_
      have key : ∀ W, Turned (fun i => i = w.heap.size + 1) wB W → RefM W { p with A0 := some ⟨g3, 0, none⟩, c0 := c3, A1 := some ⟨g6, 0, none⟩, c1 := c6, os := p.os.set k (.slice (some ⟨g9, 0, none⟩) M c9) } { D with st := D.st.set k s, old := D.old.set k ((a :: ol).take 8) } ∧ Grew w W ∧ True := by
        intro W hW
        have hgW := HG.out.turn hW (fun i hi => by omega)
        have n3 : ¬ g3 = w.heap.size + 1 := by omega
        have n6 : ¬ g6 = w.heap.size + 1 := by have := HZ1.out; omega
        have n9 : ¬ g9 = w.heap.size + 1 := by omega
        have kp : ∀ {g c m : Nat} {e sz base : Nat} {rows : List (List Value)}, OwnL wB base e sz (.slice (some ⟨g, 0, none⟩) m c) rows → ¬ g = w.heap.size + 1 → OwnL W base e sz (.slice (some ⟨g, 0, none⟩) m c) rows := fun h hn => h.kept hW (fun i hi e => hn (by injection hi with hi; exact hi.trans e))
        have hh := HH.out.grew hgW
        refine ⟨⟨(kp HST.out n3).listA, (kp HOS.out n6).listA, by simp only [List.length_set]; exact hosl, fun i v l hv hl => ?_, hh.pend, hh.fen, hh.sv, hh.fuse, hh.fub, hh.svok, by simp only [List.length_set]; exact ⟨hn3, hc3⟩, by simp only [List.length_set]; exact ⟨hn6, hc6⟩, hh.cap2, hh.cap3, hh.cap6, ?_⟩, hgW, trivial⟩
        · simp only at hv hl
          by_cases hik : k = i
          · subst hik
            rw [List.getElem?_set_self hko] at hv
            rw [List.getElem?_set_self (by rw [HH.out.ok.len]; exact hk)] at hl
            injection hv with hv; injection hl with hl
            subst hv; subst hl
            exact ⟨some ⟨g9, 0, none⟩, c9, by rw [HML.out], ⟨by rw [HML.out]; exact Nat.le_trans hMb.2.1 hn9, hc9⟩, (kp HSH.out n9).listA⟩
          · rw [List.getElem?_set_ne hik] at hv hl
            exact hh.each i v l hv hl
        · have hok := changeD_ok HH.out.ok hk hs
          rw [HC.out] at hok
          exact hok
      rw [HC.out]
      refine ⟨{ p with A0 := some ⟨g3, 0, none⟩, c0 := c3, A1 := some ⟨g6, 0, none⟩, c1 := c6, os := p.os.set k (.slice (some ⟨g9, 0, none⟩) M c9) }, by simp only [List.length_set], ?_⟩
      have hft : ∀ i, RefP.feet { p with A0 := some ⟨g3, 0, none⟩, c0 := c3, A1 := some ⟨g6, 0, none⟩, c1 := c6, os := p.os.set k (.slice (some ⟨g9, 0, none⟩) M c9) } { D with st := D.st.set k s, old := D.old.set k ((a :: ol).take 8) } i → p.feet D i ∨ w.heap.size ≤ i := by
        intro i hi
        have own : ∀ {g n : Nat}, w.heap.size + 2 ≤ g → Lies (some ⟨g, 0, none⟩) n i → w.heap.size ≤ i := fun hg hl => by
          obtain ⟨_, off, e⟩ := hl
          injection e with e
          injection e with e _ _
          omega
        rcases hi with hi | hi | hi | hi | hi | ⟨j, A, n, c, hj, hi⟩
        · exact .inr (own hgb' hi)
        · exact .inr (own hg6w hi)
        · exact .inl (.inr (.inr (.inl hi)))
        · exact .inl (.inr (.inr (.inr (.inl hi))))
        · exact .inl (.inr (.inr (.inr (.inr (.inl hi)))))
        · simp only at hj
          by_cases hik : k = j
          · subst hik
            rw [List.getElem?_set_self hko] at hj
            injection hj with hj
            injection hj with hA hn hc
            subst hA
            exact .inr (own hg9w hi)
          · rw [List.getElem?_set_ne hik] at hj
            exact .inl (.inr (.inr (.inr (.inr (.inr ⟨j, A, n, c, hj, hi⟩)))))
      have fin : ∀ W, Turned (fun i => i = w.heap.size + 1) wB W → RDid w W p D _ _ := fun W hW => ⟨(key W hW).1, (key W hW).2.1, hft⟩
      refine fin _ ?_
      (repeat' first | (with_reducible exact Turned.refl _ _) | (with_reducible assumption) | (with_reducible refine Turned.alloc ?_ _) | (with_reducible refine Turned.drew ?_) | (with_reducible refine Turned.drewN ?_ _) | (with_reducible refine Turned.setRow ?_ (by first | (simp; done) | (simp; omega) | omega) _) | (with_reducible refine Turned.setCell ?_ (by first | (simp; done) | (simp; omega) | omega) _) | ((with_reducible apply Turned.andGrew); rotate_left; (with_reducible assumption)) | ((with_reducible apply Turned.trans); rotate_left; (with_reducible assumption)) | fail)
end
end Go.Proofs.Ytklojcgbokmkhaa
