/- Chapter 3: New. -/
import Derived.Test.YtklojcgbokmkhaaDevK
import Derived.Test.YtklojcgbokmkhaaOrd4
import Derived.Carry
namespace Go.Proofs.Ytklojcgbokmkhaa
set_option linter.unusedVariables false
set_option linter.unusedSimpArgs false
set_option linter.unusedSectionVars false
open Go.RowKit
open Go.Maps (Keyed)
attribute [local go_sem ↓] Go.wp_at_zero Go.wp_at_succ
theorem wp_make {o : Oper} {a : Act} {w w' : World} {K : Act → World → Prop} {Q : Exit → Act → World → Prop} (t : TypeId) (x y : Operand) (hop : o.op = .makeSlice t x y) {vx vy v : Value} (hx : a.eval x = vx) (hy : a.eval y = vy) (hrun : (Instr.makeSlice t vx vy).run Try.prog w = .ok v w') (h : K (a.put o.dst v) w') : o.wp Try.prog a w K Q := by
  unfold Oper.wp
  simp [execOp, hop, hx, hy, hrun, Result.andThen]
  exact h
theorem wp_makeMap {o : Oper} {a : Act} {w : World} {K : Act → World → Prop} {Q : Exit → Act → World → Prop} (t : TypeId) (hop : o.op = .makeMap t none) (h : K (a.put o.dst (.map (some w.heap.size))) (w.alloc (.map #[] 0))) : o.wp Try.prog a w K Q := by
  have hr := run_makeMap (P := Try.prog) t w
  unfold Oper.wp
  simp [execOp, hop, hr, Result.andThen]
  exact h
theorem info_strs : (Try.prog.info? 27).map (fun i => (i.zero, i.size, i.bytes)) = some (some (.slice none 0 0), 1, 24) := by kernel_rfl
theorem info_u8 : (Try.prog.info? 5).map (fun i => (i.zero, i.size, i.bytes)) = some (some (.int .u8 0), 1, 1) := by kernel_rfl
def zeros (n : Nat) : ByteArray := ⟨(List.replicate n (0 : UInt8)).toArray⟩
def blank : ByteArray := zeros 140
theorem blank_size : blank.size = 140 := by simp [blank, zeros, ByteArray.size]
theorem zeros_at (n j : Nat) (hj : j < (zeros n).size) : (zeros n)[j] = 0 := by
  have h' : j < ((List.replicate n (0 : UInt8)).toArray).size := hj
  have : ((List.replicate n (0 : UInt8)).toArray)[j]'h' = 0 := by simp
  exact this
theorem blank_at (j : Nat) (hj : j < blank.size) : blank[j] = 0 := zeros_at 140 j hj
def newD (n : Nat) : Dev := ⟨List.replicate n blank, List.replicate n [], [], fun _ => 0, none, false⟩
theorem newD_ok (n : Nat) (h1 : 1 ≤ n) (h2 : n ≤ 1155) : (newD n).Ok := by
  refine ⟨by simp [newD], by simpa [newD] using h1, by simpa [newD] using h2, fun s hs => ?_, fun l hl => ?_, fun r hr => (by cases hr), fun s => (by show (0 : Int) ≤ 0 ∧ (0 : Int) ≤ _; omega)⟩
  · rw [(List.mem_replicate.1 hs).2]; exact blank_size
  · rw [(List.mem_replicate.1 hl).2]; simp
/-- What New's parts are. -/
def NewR (w : World) (n : Nat) (i : Nat) (v : Value) (w' : World) : Prop :=
  (i = 1 → OwnL w' w.heap.size 9 1 v (List.replicate n [.string ⟨#[]⟩])) ∧ (i = 3 → OwnL w' w.heap.size 27 1 v (List.replicate n [.slice none 0 0])) ∧ (i = 4 → ∃ m, v = .map (some m) ∧ w.heap.size ≤ m ∧ MapI w' m (fun _ => none))
theorem NewR.grew {w : World} {n i : Nat} {v : Value} {w1 w2 : World} (hg : Grew w1 w2) (h : NewR w n i v w1) : NewR w n i v w2 := by
  refine ⟨fun hi => (h.1 hi).grew hg, fun hi => (h.2.1 hi).grew hg, fun hi => ?_⟩
  obtain ⟨m, h1, h2, h3⟩ := h.2.2 hi
  exact ⟨m, h1, h2, h3.grew hg⟩
set_option maxRecDepth 100000 in
set_option maxHeartbeats 8000000 in
theorem new_any (n : Nat) (w : World) (h1 : 1 ≤ n) (h2 : n ≤ 1155) : Calls Try.prog 11 #[.int .i64 (n : Int)] w fun e w' => ∃ x q, e = .returned (.tuple #[.pointer (some ⟨x, 0, none⟩), .int .i64 0]) ∧ q.x = x ∧ DevM w' q (newD n) ∧ Grew w w' ∧ ∀ k, q.feet k → w.heap.size ≤ k := by
  have hS : (fun _ : World => True) w.drew := trivial
  go_enter Try.func11, Try.ntmps11
  go_wp2_with fail
  refine wp_region_R [] (fun _ : World => True) (by kernel_rfl) ?_
  refine wpAnyR_takeQ (i := 0) (v := ?_) (some 13) rfl rfl (by kernel_rfl) (by kernel_rfl) (by kernel_rfl) (by kernel_rfl) (fun _ _ _ h => h) (Or.inl ⟨by rfl, ?_⟩) ?_
  rotate_left
  focus (intro wS hSw; (try dsimp only at hSw); go_simp; (try with_reducible rfl); (try (first | (rw [if_pos (by omega)]; (try go_simp); (try with_reducible rfl)) | (rw [if_neg (by omega)]; (try go_simp); (try with_reducible rfl)))))
  try simp only [Act.put, List.setIfInBounds_toArray, List.set_cons_zero, List.set_cons_succ]
  refine wpAnyR_takeQ (i := 2) (v := ?_) (some 15) rfl rfl (by kernel_rfl) (by kernel_rfl) (by kernel_rfl) (by kernel_rfl) (fun _ _ _ h => h) (Or.inl ⟨by rfl, ?_⟩) ?_
  rotate_left
  focus (intro wS hSw; (try dsimp only at hSw); go_simp; (try with_reducible rfl); (try (first | (rw [if_pos (by omega)]; (try go_simp); (try with_reducible rfl)) | (rw [if_neg (by omega)]; (try go_simp); (try with_reducible rfl)))))
  try simp only [Act.put, List.setIfInBounds_toArray, List.set_cons_zero, List.set_cons_succ]
  refine wpAnyR_par [(1, 14), (3, 16), (4, 17)] (NewR w n) (fuel := 3) rfl (by kernel_rfl) (fun i v w1 w2 hg h => h.grew hg) (fun _ _ _ _ => trivial) ?_ ?_
  · intro p hp a' w' hg hev K' hK
    have e13 : a'.eval (.tmp 13) = .int .i64 (n : Int) := (hev 13 (by decide)).trans rfl
    have e15 : a'.eval (.tmp 15) = .int .i64 (n : Int) := (hev 15 (by decide)).trans rfl
    rcases List.mem_cons.1 hp with rfl | hp
    · refine ⟨_, rfl, ?_⟩
      rw [if_pos (by rfl)]
      refine wp_make 27 (.tmp 13) (.tmp 13) rfl e13 e13 (made_one w' n Try.underlying27 info_str rfl (by omega) (by omega)) ?_
      refine hK.out _ _ ((Grew.refl w').alloc _) ⟨fun _ => OwnL.made w' w.heap.size _ n _ hg.size (by omega) rfl, fun h => absurd h (by decide), fun h => absurd h (by decide)⟩
    · rcases List.mem_cons.1 hp with rfl | hp
      · refine ⟨_, rfl, ?_⟩
        rw [if_pos (by rfl)]
        refine wp_make 28 (.tmp 15) (.tmp 15) rfl e15 e15 (made_one w' n Try.underlying28 info_strs rfl (by omega) (by omega)) ?_
        refine hK.out _ _ ((Grew.refl w').alloc _) ⟨fun h => absurd h (by decide), fun _ => OwnL.made w' w.heap.size _ n _ hg.size (by omega) rfl, fun h => absurd h (by decide)⟩
      · obtain rfl := List.mem_singleton.1 hp
        refine ⟨_, rfl, ?_⟩
        rw [if_pos (by rfl)]
        refine wp_makeMap 64 rfl ?_
        exact hK.out _ _ ((Grew.refl w').alloc _) ⟨fun h => absurd h (by decide), fun h => absurd h (by decide), fun _ => ⟨w'.heap.size, rfl, hg.size, MapIs.made w' rfl⟩⟩
  · intro vals w1 hg1 hR
    have h3 := (hR (1, 14) (by decide)).1 rfl
    have h4 := (hR (3, 16) (by decide)).2.1 rfl
    obtain ⟨m, h5, h6, h7⟩ := (hR (4, 17) (by decide)).2.2 rfl
    clear hS
    have hS : (fun _ : World => True) w1 := trivial
    simp only [putL, setL, if_true, Act.put, List.setIfInBounds_toArray, List.set_cons_zero, List.set_cons_succ]
    generalize vals 1 = v1 at *
    generalize vals 3 = v3 at *
    rw [h5]
    clear h5 hR
    obtain ⟨g1, c1, rfl, hb1, hl1, hn1, hc1⟩ : ∃ g c, v1 = .slice (some ⟨g, 0, none⟩) n c ∧ w.heap.size ≤ g ∧ g < w1.heap.size ∧ n ≤ c ∧ c ≤ 9223372036854775807 := by
      rcases h3.form with ⟨_, h0⟩ | ⟨g, c, e1, e2, e3, e4, e5⟩
      · have := congrArg List.length h0; simp at this; omega
      · rw [List.length_replicate] at e1 e4; exact ⟨g, c, e1, e2, e3, e4, e5⟩
    obtain ⟨g3, c3, rfl, hb3, hl3, hn3, hc3⟩ : ∃ g c, v3 = .slice (some ⟨g, 0, none⟩) n c ∧ w.heap.size ≤ g ∧ g < w1.heap.size ∧ n ≤ c ∧ c ≤ 9223372036854775807 := by
      rcases h4.form with ⟨_, h0⟩ | ⟨g, c, e1, e2, e3, e4, e5⟩
      · have := congrArg List.length h0; simp at this; omega
      · rw [List.length_replicate] at e1 e4; exact ⟨g, c, e1, e2, e3, e4, e5⟩
    have H3 := Lib.hid h3
    have H4 := Lib.hid h4
    have H7 := Lib.hid h7
    have HG1 := Lib.hid hg1
    clear h3 h4 h7 hg1
    refine wpAnyR_takeQ (i := 5) (v := ?_) (some 18) rfl rfl (by kernel_rfl) (by kernel_rfl) (by kernel_rfl) (by kernel_rfl) (fun _ _ _ h => h) (Or.inl ⟨by rfl, ?_⟩) ?_
    rotate_left
    focus (intro wS hSw; (try dsimp only at hSw); go_simp; (try with_reducible rfl); (try (first | (rw [if_pos (by omega)]; (try go_simp); (try with_reducible rfl)) | (rw [if_neg (by omega)]; (try go_simp); (try with_reducible rfl)))))
    try simp only [Act.put, List.setIfInBounds_toArray, List.set_cons_zero, List.set_cons_succ]
    refine wpAnyR_n1 (i := 6) rfl (by kernel_rfl) ?_
    intro K' hK
    rw [if_pos (by rfl)]
    simp only [List.getElem_toArray, List.getElem_cons_succ, List.getElem_cons_zero]
    go_wp2_with fail
    refine hK.out _ _ (.inr (fun h => h)) ?_
    clear hK hS
    have hS : (fun _ : World => True) w1 := trivial
    refine wpAnyR_takeQ (i := 7) (v := ?_) (some 4) rfl rfl (by kernel_rfl) (by kernel_rfl) (by kernel_rfl) (by kernel_rfl) (fun _ _ _ h => h) (Or.inl ⟨by rfl, ?_⟩) ?_
    rotate_left
    focus (intro wS hSw; (try dsimp only at hSw); go_simp; (try with_reducible rfl); (try (first | (rw [if_pos (by omega)]; (try go_simp); (try with_reducible rfl)) | (rw [if_neg (by omega)]; (try go_simp); (try with_reducible rfl)))))
    try simp only [Act.put, List.setIfInBounds_toArray, List.set_cons_zero, List.set_cons_succ]
    refine wpAnyR_done (by kernel_rfl) ?_ _
    clear hS
    have hbx := Blk.new w1 69 #[.slice (some ⟨g1, 0, none⟩) n c1, .slice (some ⟨g3, 0, none⟩) n c3, .slice none 0 0, .map (some m), .bool false, .int .i64 0, .slice none 0 0, .bool false] rfl
    have hg2 := (Grew.refl w1).alloc (.cells #[.slice (some ⟨g1, 0, none⟩) n c1, .slice (some ⟨g3, 0, none⟩) n c3, .slice none 0 0, .map (some m), .bool false, .int .i64 0, .slice none 0 0, .bool false] 69)
    obtain ⟨w2, hw2⟩ : ∃ w2, w2 = w1.alloc (.cells #[.slice (some ⟨g1, 0, none⟩) n c1, .slice (some ⟨g3, 0, none⟩) n c3, .slice none 0 0, .map (some m), .bool false, .int .i64 0, .slice none 0 0, .bool false] 69) := ⟨_, rfl⟩
    rw [← hw2] at hbx hg2 ⊢
    clear hw2
    have hmk := made_one w2 140 Try.underlying70 info_u8 rfl (by omega) (by omega)
    have hcv := conv_back (w2.alloc (.cells (Array.replicate 140 (.int .u8 0)) 5)) w2.heap.size 140 blank blank_size (fun j hj => by
      rw [cell_of_row _ w2.heap.size j _ _ _ (heap_alloc_new w2 _), Array.getElem?_replicate, if_pos (by rw [blank_size] at hj; exact hj)]
      rw [blank_at j hj]; rfl)
    have hg3 := hg2.alloc (.cells (Array.replicate 140 (.int .u8 0)) 5)
    have hb3 := hbx.alloc (.cells (Array.replicate 140 (.int .u8 0)) 5)
    have hxl := hb3.lt
    have x0 := hb3.cell 0
    have H3' := Lib.hid (H3.out.grew hg3)
    have HB3 := Lib.hid hb3
    have HG3 := Lib.hid hg3
    have hx1 : w1.heap.size < w2.heap.size := hbx.lt
    clear hbx hg2 hb3 hg3
    have hmk' : (Instr.makeSlice 70 (.int .i64 140) (.int .i64 140)).run Try.prog w2 = .ok (.slice (some ⟨w2.heap.size, 0, none⟩) 140 140) (w2.alloc (.cells (Array.replicate 140 (.int .u8 0)) 5)) := hmk
    clear hmk
    generalize hwc : w2.alloc (.cells (Array.replicate 140 (.int .u8 0)) 5) = w3 at *
    have hz3 : w3.heap.size = w2.heap.size + 1 := by rw [← hwc]; simp
    clear hwc
    go_wp2_with fail
    go_loopg [27] n (fun gk iv wr => ∃ j : Nat, j ≤ n ∧ gk = n - j ∧ iv = .int .i64 (j : Int) ∧ OwnL wr w.heap.size 9 1 (.slice (some ⟨g1, 0, none⟩) n c1) ((List.replicate j blank ++ List.replicate (n - j) emp).map strC) ∧ Turned (fun k => k = g1) w3 wr)
    case atStart => exact ⟨0, by omega, rfl, rfl, by rw [List.replicate_zero, List.nil_append, List.map_replicate]; exact H3'.out, Turned.refl _ _⟩
    case round =>
      obtain ⟨j, hj, hgk, rfl, hor, htr⟩ := hrel
      have HGK := Lib.hid hgk
      have HTR := Lib.hid htr
      have HOR := Lib.hid hor
      have hzr := htr.size
      have hxg : ¬ w1.heap.size = g1 := by omega
      have hbr := HB3.out.turned htr hxg
      have xr0 := hbr.cell 0
      have hxr := hbr.lt
      clear hgk hbr x0
      by_cases hlt : j < n
      · have hrow : ((List.replicate j blank ++ List.replicate (n - j) emp).map strC)[j]? = some (strC emp) := by
          rw [List.getElem?_map, List.getElem?_append_right (by simp), List.length_replicate, Nat.sub_self, List.getElem?_replicate, if_pos (by omega)]; rfl
        have c0 := hor.cell (i := 0) hrow rfl
        rw [Nat.mul_one, Nat.add_zero] at c0
        have f0 := hor.frozen j
        have hs := hor.set_ (j := j) (i := 0) (o := j) hrow (by omega) (by omega) (.string blank)
        have he : ((List.replicate j blank ++ List.replicate (n - j) emp).map strC).set j ((strC emp).set 0 (.string blank)) = (List.replicate (j + 1) blank ++ List.replicate (n - (j + 1)) emp).map strC := by
          rw [show (strC emp).set 0 (.string blank) = strC blank from rfl, ← List.map_set]
          congr 1
          rw [List.set_append_right _ _ (by simp), List.length_replicate, Nat.sub_self, show n - j = (n - (j + 1)) + 1 by omega, List.replicate_succ, List.set_cons_zero, List.replicate_succ', List.append_assoc]
          rfl
        rw [he] at hs
        have HS := Lib.hid hs
        clear hs he hrow hor htr
        go_wp2_with fail
        go_roundg (n - (j + 1))
        case measure => rw [HGK.out]; omega
        case rel => exact ⟨j + 1, by omega, by omega, by go_num, HS.out, HTR.out.setCell (p := ⟨g1, j, none⟩) (fun _ => rfl) _⟩
      · obtain rfl : j = n := by omega
        have hor' := hor
        rw [Nat.sub_self, List.replicate_zero, List.append_nil] at hor'
        have HO' := Lib.hid hor'
        clear hor hor' htr
        go_wp2_with fail
        go_ret2
        have hgg : Grew w w1 := (Grew.refl w).drew.trans HG1.out
        have hgr3 : Grew w1 wr → True := fun _ => trivial
        have ht13 : Turned (fun k => k = g1) w1 wr := (HG3.out.turned _).trans HTR.out
        have hne13 : g3 ≠ g1 := by
          have h1 := H3.out
          have h2 := H4.out
          intro e
          exact own_own_ne h1 h2 (by decide) g1 rfl (by rw [e]; rfl)
        have hmne : m ≠ g1 := fun e => own_map_ne H3.out H7.out (by rw [e]; rfl)
        refine ⟨w1.heap.size, ⟨w1.heap.size, m, .slice (some ⟨g1, 0, none⟩) j c1, .slice (some ⟨g3, 0, none⟩) j c3, .slice none 0 0, .slice none 0 0, List.replicate j (.slice none 0 0), false, 0, [], fun _ => none⟩, rfl, rfl, ?_, ?_, ?_⟩
        · refine ⟨HB3.out.turned HTR.out hxg, HO'.out.base0, ?_, by simp [newD], fun i v l hv hl => ?_, OwnL.nil _ _ _ _, OwnL.nil _ _ _ _, H7.out.turned ht13 hmne, fun s _ _ => .inl ⟨rfl, rfl⟩, rfl, (by show (0 : Int) ≤ 0 ∧ (0 : Int) ≤ _; omega), ⟨fun n hn => (by cases hn), Nat.zero_le _⟩, newD_ok j h1 h2⟩
          · rw [List.map_replicate]
            exact H4.out.base0.kept ht13 (fun g hg e => hne13 (by injection hg with hg; exact hg.trans e))
          · have hv' := (List.mem_replicate.1 (List.mem_of_getElem? hv)).2
            have hl' := (List.mem_replicate.1 (List.mem_of_getElem? hl)).2
            subst hv'; subst hl'
            exact ⟨OwnL.nil _ _ _ _, fun g hg => (by cases hg)⟩
        · exact hgg.turn ht13 (fun k hk => by omega)
        · intro k hk
          rcases hk with hk | hk | hk | hk | hk | hk | ⟨v, hv, hk⟩
          · rw [hk]; exact hgg.size
          · rw [hk]; exact h6
          · injection hk with hk; subst hk; exact hb1
          · injection hk with hk; subst hk; exact hb3
          · cases hk
          · cases hk
          · rw [(List.mem_replicate.1 hv).2] at hk; cases hk
end Go.Proofs.Ytklojcgbokmkhaa
