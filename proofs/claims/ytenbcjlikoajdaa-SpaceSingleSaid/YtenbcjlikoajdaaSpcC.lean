/- Chapter 6: the comparison of two runs, and the sort by it. -/
import Derived.Test.YtenbcjlikoajdaaSpcB
import Derived.Test.YtenbcjlikoajdaaSpcL
import Derived.Shelf.SlSortCmp.NoneTotal
namespace Go.Proofs.Ytenbcjlikoajdaa
set_option linter.unusedVariables false
set_option linter.unusedSimpArgs false
set_option linter.unusedSectionVars false
open Go.RowKit Go.Shelf Go.Lib
attribute [local go_sem ↓] Go.wp_at_zero Go.wp_at_succ
def FR : Type := Fin 256 × Fin 256
instance : Inhabited FR := ⟨(⟨0, by decide⟩, ⟨0, by decide⟩)⟩
def toF (r : Nat × Nat) : FR := (⟨r.1 % 256, Nat.mod_lt _ (by decide)⟩, ⟨r.2 % 256, Nat.mod_lt _ (by decide)⟩)
def ofF (x : FR) : Nat × Nat := (x.1.val, x.2.val)
theorem ofF_toF (r : Nat × Nat) (h : r.1 + r.2 ≤ 128) : ofF (toF r) = r := by
  obtain ⟨a, b⟩ := r
  simp only at h
  show (a % 256, b % 256) = (a, b)
  rw [Nat.mod_eq_of_lt (by omega), Nat.mod_eq_of_lt (by omega)]
theorem ofF_inj {x y : FR} (h : ofF x = ofF y) : x = y := by
  obtain ⟨⟨a, ha⟩, ⟨b, hb⟩⟩ := x
  obtain ⟨⟨c, hc⟩, ⟨d, hd⟩⟩ := y
  have h1 : a = c := congrArg Prod.fst h
  have h2 : b = d := congrArg Prod.snd h
  subst h1; subst h2; rfl
def encF (x : FR) : List Value := rowN (ofF x)
def cmpF (x y : FR) : Int := if (ofF x).2 = (ofF y).2 then ((ofF x).1 : Int) - ((ofF y).1 : Int) else ((ofF y).2 : Int) - ((ofF x).2 : Int)
theorem ltF (x y : FR) : Go.Proofs.ltOf cmpF x y = true ↔ ltR (ofF x) (ofF y) := by
  unfold Go.Proofs.ltOf cmpF ltR
  rw [decide_eq_true_eq]
  split <;> omega
theorem sworder : Go.Sort.SWO (Go.Proofs.ltOf cmpF) where
  irrefl x := by
    cases h : Go.Proofs.ltOf cmpF x x with
    | false => rfl
    | true => exact (ltR_asymm ((ltF x x).1 h) ((ltF x x).1 h)).elim
  trans x y z h1 h2 := by
    rw [ltF] at h1 h2 ⊢
    unfold ltR at *
    omega
  ntrans x y z h1 h2 := by
    rw [← Bool.not_eq_true] at h1 h2 ⊢
    rw [ltF] at h1 h2 ⊢
    unfold ltR at *
    omega
set_option maxRecDepth 100000 in
set_option maxHeartbeats 1000000 in
theorem bigger_any (x y : FR) (W : World) : Calls Try.prog 42 #[.agg (encF x).toArray, .agg (encF y).toArray] W fun e w' => e = .returned (.int .i64 (cmpF x y)) ∧ ∃ q os', w' = Go.Sort.grow (W.drewN q) os' := by
  have hx1 := x.1.isLt
  have hx2 := x.2.isLt
  have hy1 := y.1.isLt
  have hy2 := y.2.isLt
  show Calls Try.prog 42 #[.agg #[.int .i64 (x.1.val : Int), .int .i64 (x.2.val : Int)], .agg #[.int .i64 (y.1.val : Int), .int .i64 (y.2.val : Int)]] W _
  have HC := Lib.hid (show cmpF x y = if x.2.val = y.2.val then ((x.1.val : Int)) - (y.1.val : Int) else (y.2.val : Int) - (x.2.val : Int) from rfl)
  generalize x.1.val = a at *
  generalize x.2.val = b at *
  generalize y.1.val = c at *
  generalize y.2.val = d at *
  by_cases h : b = d
  · have hb : ((b : Int) != (d : Int)) = false := by rw [bne_eq_false_iff_eq]; omega
    have HE := Lib.hid (show cmpF x y = (a : Int) - (c : Int) from by rw [HC.out, if_pos h])
    clear h
    go_enter Try.func42, Try.ntmps42
    go_wp2_with fail
    go_ret
    exact ⟨ret_int (by rw [HE.out]), 0, _, by rw [Go.Sort.alloc_eq_grow, Go.Sort.alloc_eq_grow, Go.Sort.grow_grow]; rfl⟩
  · have hb : ((b : Int) != (d : Int)) = true := by rw [bne_iff_ne]; omega
    have HE := Lib.hid (show cmpF x y = (d : Int) - (b : Int) from by rw [HC.out, if_neg h])
    clear h
    go_enter Try.func42, Try.ntmps42
    go_wp2_with fail
    go_ret
    exact ⟨ret_int (by rw [HE.out]), 0, _, by rw [Go.Sort.alloc_eq_grow, Go.Sort.alloc_eq_grow, Go.Sort.grow_grow]; rfl⟩
theorem sorted_turned (w : World) (g m : Nat) (d : Array FR) (os : Array Obj) : Turned (fun i => i = g) w (Go.Proofs.sortWorldK encF 2 w g 0 m d os) := by
  refine ⟨rfl, rfl, rfl, ?_, fun k hk hs => ?_⟩
  · exact Go.Proofs.size_sortWorldK_c encF 2 w g 0 m d os
  · unfold Go.Proofs.sortWorldK Go.Sort.grow Go.Sort.putRowK Go.Sort.putRow Go.Sort.mapBlock Go.Sort.ahead
    show (w.heap.modify g _ ++ os)[k]? = w.heap[k]?
    rw [Array.getElem?_append_left (by rw [Array.size_modify]; exact hk), Array.getElem?_modify, if_neg (fun e => hs e.symm)]
theorem whole_extract (d : Array FR) : (d.extract 0 d.size).toList = d.toList := by rw [Array.extract_size]
theorem at_idx (d : Array FR) (i : Nat) (h : i < d.size) : d[i]! = d.toList[i]'(by rw [Array.length_toList]; exact h) := by
  rw [getElem!_pos d i h, Array.getElem_toList]
theorem holds_own {w : World} {base g cap : Nat} {N : List (Nat × Nat)} (h : OwnL w base 25 2 (.slice (some ⟨g, 0, none⟩) N.length cap) (N.map rowN)) (hb : ∀ r ∈ N, r.1 + r.2 ≤ 128) : Go.Sort.HoldsK encF 2 w g 0 (N.map toF).toArray := by
  intro t ht
  have ht' : t < N.length * 2 := by simpa using ht
  have hj : t / 2 < N.length := by omega
  rw [Go.Sort.get_flatK _ _ _ _ (by simpa using ht'), Nat.zero_add]
  have hel : ((N.map toF).toArray)[t / 2]! = toF N[t / 2] := by
    rw [getElem!_pos _ _ (by simpa using hj)]
    simp
  have hrow : (N.map rowN)[t / 2]? = some (rowN N[t / 2]) := by rw [List.getElem?_map, List.getElem?_eq_getElem hj]; rfl
  have he : encF (toF N[t / 2]) = rowN N[t / 2] := by unfold encF; rw [ofF_toF _ (hb _ (List.getElem_mem hj))]
  rw [hel, he]
  refine ⟨?_, h.frozen t⟩
  have hm : t = t / 2 * 2 + t % 2 := by omega
  have hlt : t % 2 < 2 := Nat.mod_lt _ (by decide)
  have hu : (rowN N[t / 2])[t % 2]? = some ((rowN N[t / 2])[t % 2]!) := by
    have hlen : (rowN N[t / 2]).length = 2 := rfl
    rw [List.getElem?_eq_getElem (by omega), getElem!_pos _ _ (by omega)]
  have := h.cell (j := t / 2) (i := t % 2) hrow hu
  rwa [← hm] at this
theorem runs_held {w : World} {g : Nat} {d : Array FR} {M : List (Nat × Nat)} (h : Go.Sort.HoldsK encF 2 w g 0 d) (hd : d.toList.map ofF = M) (hg : g < w.heap.size) : RunsAt w w.heap.size (some ⟨g, 0, none⟩) (ints M) := by
  subst hd
  refine ⟨?_, fun _ => ⟨g, 0, rfl, hg, fun j cs hj i v hi => ?_⟩⟩
  · intro r hr
    obtain ⟨x, hx, rfl⟩ := List.mem_map.1 hr
    obtain ⟨y, hy, rfl⟩ := List.mem_map.1 hx
    have h1 := y.1.isLt
    have h2 := y.2.isLt
    show okRun ((y.1.val : Int), (y.2.val : Int))
    unfold okRun
    simp only
    omega
  · rw [ints_rows, List.map_map] at hj
    rw [List.getElem?_map] at hj
    cases hx : d.toList[j]? with
    | none => rw [hx] at hj; cases hj
    | some x =>
      rw [hx] at hj
      have hjl : j < d.toList.length := (List.getElem?_eq_some_iff.1 hx).1
      have hjs : j < d.size := by rw [← Array.length_toList]; exact hjl
      injection hj with hj
      have hcs : cs = encF x := hj.symm
      have hil : i < cs.length := (List.getElem?_eq_some_iff.1 hi).1
      have hi2 : i < 2 := by rw [hcs] at hil; exact hil
      have hc := (h.cell (i := j) (c := i) hjs hi2).1
      have hxe : d[j]! = x := by
        rw [at_idx d j hjs]
        exact (List.getElem?_eq_some_iff.1 hx).2
      rw [hxe, ← hcs, getElem!_pos cs i hil] at hc
      rw [hc, (List.getElem?_eq_some_iff.1 hi).2]
set_option maxRecDepth 100000 in
set_option maxHeartbeats 1000000 in
theorem sort_any (g cap : Nat) (S : Nat → Bool) (w : World) (base : Nat) (hown : OwnL w base 25 2 (.slice (some ⟨g, 0, none⟩) (normS S).length cap) ((normS S).map rowN)) :
    Calls Try.prog 43 #[.slice (some ⟨g, 0, none⟩) (normS S).length cap, .func (.func 42) #[] #[]] w fun e w' => e = .returned (.tuple #[]) ∧ Turned (fun i => i = g) w w' ∧ RunsAt w' w'.heap.size (some ⟨g, 0, none⟩) (ints (sortS (normS S))) := by
  have hg : g < w.heap.size := by
    rcases hown.form with ⟨h, _⟩ | ⟨g', _, h, _, h2, _⟩
    · cases h
    · injection h with h
      injection h with h
      injection h with h
      omega
  have hbd := normS_bd S
  have hlen := normS_len S
  have hH := holds_own hown hbd
  have hds : ((normS S).map toF).toArray.size = (normS S).length := by simp
  have hdl : (((normS S).map toF).toArray.toList).map ofF = normS S := by
    show ((normS S).map toF).map ofF = normS S
    rw [List.map_map]
    conv => rhs; rw [← List.map_id (normS S)]
    exact List.map_congr_left (fun r hr => ofF_toF r (hbd r hr))
  obtain ⟨d, hd⟩ : ∃ d, ((normS S).map toF).toArray = d := ⟨_, rfl⟩
  rw [hd] at hH hds hdl
  have eg : ∀ args w, (callFunc 42 args).run Try.prog w = .ok (.enter 42 args) w := enters_of Try.func42 (by kernel_rfl) rfl
  have hcon := Go.Proofs.AnyQ.slices_SortFunc sortIv 2 Try.isAgg25 Try.sizeOf25 encF (fun _ => rfl) (fun x v hv => by simp [encF, rowN] at hv; rcases hv with rfl | rfl <;> rfl) cmpF sworder 42 #[] g 0 cap d w eg (fun m os dk hs x y => bigger_any x y _) hH hg (by rw [hds]; omega)
  change Calls Try.prog 43 _ _ _ at hcon
  rw [hds] at hcon
  refine hcon.mono ?_
  rintro e w' ⟨rfl, d', n, os, hp, hs, rfl⟩
  refine ⟨rfl, sorted_turned w g n d' os, ?_⟩
  have hsz : d'.size = d.size := hp.1
  refine runs_held (d := d') (Go.Proofs.holdsK_sortWorldK_c encF 2 w g 0 d d' n os hH hg hsz) ?_ (Nat.lt_of_lt_of_le hg (Go.Proofs.size_sortWorldK_c encF 2 w g 0 n d' os))
  refine sort_is S _ ?_ ?_
  · have h3 := hp.2.2
    rw [← hds, whole_extract d, ← hsz, whole_extract d'] at h3
    rw [← hdl]
    exact h3.map _
  · intro i j hi hj hij hlt
    rw [List.length_map, Array.length_toList] at hi hj
    have h4 := hs i j (Nat.zero_le _) hij (by omega)
    rw [at_idx d' j hj, at_idx d' i hi] at h4
    rw [List.getElem_map, List.getElem_map] at hlt
    rw [(ltF _ _).2 hlt] at h4
    cases h4
theorem sort_own (S : Nat → Bool) (w : World) (base : Nat) (v : Value) (hown : OwnL w base 25 2 v ((normS S).map rowN)) :
    ∃ A c, v = .slice A (sortS (normS S)).length c ∧ Calls Try.prog 43 #[.slice A (sortS (normS S)).length c, .func (.func 42) #[] #[]] w fun e w' => e = .returned (.tuple #[]) ∧ Turned (fun i => base ≤ i) w w' ∧ RunsAt w' w'.heap.size A (ints (sortS (normS S))) := by
  have hlen : (sortS (normS S)).length = (normS S).length := (sortS_perm _ (normS_cnt S) (normS_asc S)).length_eq.symm
  rcases hown.form with ⟨rfl, h0⟩ | ⟨g, cap, rfl, hg, hg2, _⟩
  · have hn0 : (normS S).length = 0 := by have := congrArg List.length h0; simpa using this
    have hm0 : (sortS (normS S)).length = 0 := by omega
    refine ⟨none, 0, by rw [hm0], ?_⟩
    rw [hm0]
    have hcon := Go.Proofs.AnyF.slices_SortFunc_none sortIv none 0 (.func (.func 42) #[] #[]) w
    change Calls Try.prog 43 _ _ _ at hcon
    refine hcon.mono ?_
    rintro e w' ⟨rfl, rfl⟩
    refine ⟨rfl, Turned.refl _ _, ?_⟩
    rw [List.eq_nil_of_length_eq_zero hm0]
    exact ⟨fun r hr => (List.not_mem_nil hr).elim, fun h => absurd h (by decide)⟩
  · rw [List.length_map] at hown ⊢
    refine ⟨some ⟨g, 0, none⟩, cap, by rw [hlen], ?_⟩
    rw [hlen]
    refine (sort_any g cap S w base hown).mono ?_
    rintro e w' ⟨rfl, ht, hr⟩
    exact ⟨rfl, ht.mono (fun k _ hk => by subst hk; exact hg), hr⟩
end Go.Proofs.Ytenbcjlikoajdaa
