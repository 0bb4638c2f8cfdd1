/- Chapter 4: Mend, on a store whose map and top were damaged. -/
import Derived.Test.YtbddelefglhaaaaCpA
import Derived.Test.YtbddelefglhaaaaCpB
import Derived.Test.YtbddelefglhaaaaCpC
import Derived.Test.YtbddelefglhaaaaCpD
import Derived.Test.YtbddelefglhaaaaCpE
import Derived.Test.YtbddelefglhaaaaCpF
import Derived.Test.YtbddelefglhaaaaCpG
import Derived.Test.YtbddelefglhaaaaCpH
import Derived.Test.YtbddelefglhaaaaCpI
import Derived.Test.YtbddelefglhaaaaCpJ
import Derived.Test.YtbddelefglhaaaaCpK
import Derived.Test.YtbddelefglhaaaaCmA
namespace Go.Proofs.Ytbddelefglhaaaa
set_option linter.unusedVariables false
set_option linter.unusedSimpArgs false
set_option linter.unusedSectionVars false
open Go.RowKit
attribute [local go_sem ↓] Go.wp_at_zero Go.wp_at_succ
theorem readR_top {D : Dev} {I : Img} {H : List Nat} (h : Hurt D I H) : readR D 0 = (topI D, 0) := readR_ok h.live 0 (by rw [h.len]; omega)
theorem readR_map {D : Dev} {I : Img} {H : List Nat} (h : Hurt D I H) (k : Nat) (hk : k < 32) : readR D (1 + (k : Int)) = (mapI D k, 0) := by
  have := readR_ok h.live (1 + k) (by rw [h.len]; omega)
  rw [show ((1 + k : Nat) : Int) = 1 + (k : Int) from by omega] at this
  unfold mapI
  rw [show ((1 + k : Nat) : Int) = 1 + (k : Int) from by omega]
  exact this
theorem readR_dat {D : Dev} {I : Img} {H : List Nat} (h : Hurt D I H) (i : Nat) (hi : i < I.n) : readR D (131 + (i : Int)) = (datI D i, 0) := by
  have := readR_ok h.live (131 + i) (by rw [h.len]; omega)
  rw [show ((131 + i : Nat) : Int) = 131 + (i : Int) from by omega] at this
  unfold datI
  rw [show ((131 + i : Nat) : Int) = 131 + (i : Int) from by omega]
  exact this
/-- The answer of Mend. -/
def MendR (w0 : World) (x : Nat) (D : Dev) (I : Img) (H : List Nat) (out : Nat → Prop) (W : World) (e : Ending) (w' : World) : Prop :=
  ∃ (k : Nat) (D' : Dev), e = .returned (.tuple #[.int .i64 (k : Int), .int .i64 0]) ∧ Live w0 x D' out w' ∧ Beside w0 out W w' ∧
    ((k = 0 ∧ badL H 32 = [] ∧ 0 ∉ H ∧ D' = D) ∨ (k = (badL H 32).length + 1 ∧ ¬ (badL H 32 = [] ∧ 0 ∉ H) ∧ ∃ v, Clean D' (I.mend H v) ∧ D'.fen = D.fen ∧ D'.fuse = none))
theorem Blk.seen2 {w0 W w' : World} {x s m : Nat} {sy ep : Int} {D : Dev} {out : Nat → Prop} {g : Nat} {t : TypeId} {cs : Array Value} (h : Blk W g t cs) (hh : Held w0 x s m sy ep D out W) (hl : Looked w0 x s m sy ep D out W w') : Blk w' g t cs := by
  obtain ⟨F, hF, _⟩ := hh.store.seen
  exact h.turned hl.turned (fun e => blk_map_ne h hF e)
theorem OwnL.seen2 {w0 W w' : World} {x s m : Nat} {sy ep : Int} {D : Dev} {out : Nat → Prop} {base e sz : Nat} {v : Value} {rows : List (List Value)} (h : OwnL W base e sz v rows) (hh : Held w0 x s m sy ep D out W) (hl : Looked w0 x s m sy ep D out W w') : OwnL w' base e sz v rows := by
  obtain ⟨F, hF, _⟩ := hh.store.seen
  exact h.kept hl.turned (fun g hg e9 => h.ne_map hF (by rw [hg, e9]))
theorem OwnL.notblk {W W' : World} {base e sz g : Nat} {t : TypeId} {cs : Array Value} {v : Value} {rows : List (List Value)} (h : OwnL W base e sz v rows) (hb : Blk W g t cs) (hne : e ≠ t) (ht : Turned (fun q => q = g) W W') : OwnL W' base e sz v rows := h.kept ht (fun q hq e9 => h.ne_blk hb hne (by rw [hq, e9]))
theorem own_push2 {S : Nat → Prop} {lo : Nat} {W w1 w2 : World} {row : Option Nat} (h : Turned (fun p => S p ∨ lo ≤ p) W w1) (hr : ∀ k, row = some k → lo ≤ k) (hg : w1.grownBy w2 row) : Turned (fun p => S p ∨ lo ≤ p) W w2 :=
  h.next (T := fun k => row = some k) ⟨hg.os, hg.tape, hg.output, hg.size, fun k hk hn => hg.block k hk (fun e9 => hn e9.symm)⟩ (fun i _ h9 => .inr (hr i h9))
theorem intN_at {w : World} {B : Nat} {A : Option Addr} {ks : List Nat} (h : ListAt w B 1 A (ks.map fun k : Nat => [.int .i64 (k : Int)])) {j : Nat} (hj : j < ks.length) :
    ∃ b off, A = some ⟨b, off, none⟩ ∧ b < B ∧ w.cell? ⟨b, off + j, none⟩ = some (.int .i64 ((ks[j] : Nat) : Int)) := by
  obtain ⟨b, off, e, hb, hc⟩ := h (by rw [List.length_map]; omega)
  have hj2 : (ks.map fun k : Nat => [Value.int .i64 (k : Int)])[j]? = some [.int .i64 ((ks[j] : Nat) : Int)] := by rw [List.getElem?_map, List.getElem?_eq_getElem hj]; rfl
  exact ⟨b, off, e, hb, by have := hc j _ hj2 0 _ rfl; simpa using this⟩
/-- The versions in the top behind some map sectors. -/
def mt (I : Img) (H : List Nat) (tk : Bool) (q p : Nat) : U32 := if tk then nv (I.ms p) else if p < q ∧ 1 + p ∉ H then nv (I.ms p) else 0#32
theorem mt_bad {I : Img} {H : List Nat} {T : Bool} {q : Nat} (hq : 1 + q ∈ H) (p : Nat) : mt I H T q p = mt I H T (q + 1) p := by
  unfold mt
  by_cases hpq : p = q
  · subst hpq; simp [hq]
  · have : (p < q + 1) ↔ (p < q) := by omega
    simp [this]
theorem mt_good {I : Img} {H : List Nat} {T : Bool} {q : Nat} (hq : 1 + q ∉ H) (p : Nat) : (if p = q then nv (I.ms q) else mt I H T q p) = mt I H T (q + 1) p := by
  unfold mt
  by_cases hpq : p = q
  · subst hpq; simp [hq]
  · have : (p < q + 1) ↔ (p < q) := by omega
    rw [if_neg hpq]
    simp [this]
theorem ms_bad {I : Img} {H : List Nat} {q hv : Nat} (h : ∀ p, p < q → 1 + p ∉ H → I.ms p ≤ hv) (hq : 1 + q ∈ H) : ∀ p, p < q + 1 → 1 + p ∉ H → I.ms p ≤ hv := fun p hp hpH => by
  have : p ≠ q := fun e => hpH (by rw [e]; exact hq)
  exact h p (by omega) hpH
/-- The cells of 1024 versions. -/
def ownArr (S : Nat → U32) : Array Value := ((List.range 1024).map fun i => Value.int .u32 (u32 (S i))).toArray
theorem ownArr_size (S : Nat → U32) : (ownArr S).size = 1024 := by simp [ownArr]
theorem ownArr_get (S : Nat → U32) (k : Nat) (h : k < 1024) : (ownArr S)[k]? = some (.int .u32 (u32 (S k))) := by
  unfold ownArr
  rw [List.getElem?_toArray, List.getElem?_map, List.getElem?_range h]
  rfl
theorem ownArr_set (S T : Nat → U32) (k : Nat) (b : U32) (hb : T k = b) (hT : ∀ i, i < 1024 → i ≠ k → T i = S i) : (ownArr S).setIfInBounds k (.int .u32 (u32 b)) = ownArr T := by
  apply Array.ext_getElem?
  intro j
  rw [Array.getElem?_setIfInBounds]
  rcases Nat.lt_or_ge j 1024 with hj | hj
  · rw [ownArr_get T j hj]
    by_cases hjk : k = j
    · subst hjk
      rw [if_pos rfl, ownArr_size, if_pos hj, hb]
    · rw [if_neg hjk, ownArr_get S j hj, hT j hj (fun e => hjk e.symm)]
  · have hT0 : (ownArr T)[j]? = none := Array.getElem?_eq_none (by rw [ownArr_size]; exact hj)
    have hS0 : (ownArr S)[j]? = none := Array.getElem?_eq_none (by rw [ownArr_size]; exact hj)
    rw [hT0]
    by_cases hjk : k = j
    · subst hjk
      rw [if_pos rfl, ownArr_size, if_neg (by omega)]
    · rw [if_neg hjk, hS0]
/-- The entries of the map that Mend writes. -/
def mL (I : Img) (H : List Nat) (v j : Nat) : List (Int × ByteArray) := ((badL H 32).take j).map fun k : Nat => (1 + (k : Int), packS (vbytes ((List.range 32).map fun p => nv (I.ownV (32 * k + p)))) (nv v) (1 + (k : Int)))
theorem mL_succ (I : Img) (H : List Nat) (v j : Nat) (hj : j < (badL H 32).length) : mL I H v (j + 1) = mL I H v j ++ [(1 + (((badL H 32)[j] : Nat) : Int), packS (vbytes ((List.range 32).map fun p => nv (I.ownV (32 * (badL H 32)[j] + p)))) (nv v) (1 + (((badL H 32)[j] : Nat) : Int)))] := by
  unfold mL
  rw [List.take_succ_eq_append_getElem hj, List.map_append]
  rfl
def mS (I : Img) (H : List Nat) (T : Bool) (v j p : Nat) : U32 := if p ∈ (badL H 32).take j then nv v else mt I H T 32 p
theorem mS_succ (I : Img) (H : List Nat) (T : Bool) (v j : Nat) (hj : j < (badL H 32).length) (p : Nat) : (if p = (badL H 32)[j] then nv v else mS I H T v j p) = mS I H T v (j + 1) p := by
  unfold mS
  rw [List.take_succ_eq_append_getElem hj]
  by_cases h : p = (badL H 32)[j]
  · rw [if_pos h, if_pos (List.mem_append_right _ (by rw [h]; exact List.mem_singleton.2 rfl))]
  · rw [if_neg h]
    by_cases h2 : p ∈ (badL H 32).take j
    · rw [if_pos h2, if_pos (List.mem_append_left _ h2)]
    · rw [if_neg h2, if_neg (fun h9 => (List.mem_append.1 h9).elim h2 (fun h8 => h (List.mem_singleton.1 h8)))]
theorem mS_end (I : Img) (H : List Nat) (T : Bool) (v p : Nat) (hp : p < 32) : mS I H T v (badL H 32).length p = nv ((I.mend H v).ms p) := by
  unfold mS
  rw [List.take_of_length_le (Nat.le_refl _)]
  show _ = nv (if p < 32 then (if 1 + p ∈ H then v else I.ms p) else 0)
  rw [if_pos hp]
  by_cases h : 1 + p ∈ H
  · rw [if_pos h, if_pos ((badL_mem H 32 p).2 ⟨hp, h⟩)]
  · rw [if_neg h, if_neg (fun h9 => h ((badL_mem H 32 p).1 h9).2)]
    unfold mt
    cases T
    · simp [hp, h]
    · rfl
theorem mend_entry (I : Img) (H : List Nat) (v k : Nat) (hk : k ∈ badL H 32) : (I.mend H v).mapR k = packS (vbytes ((List.range 32).map fun p => nv (I.ownV (32 * k + p)))) (nv v) (1 + (k : Int)) := by
  obtain ⟨hk32, hkH⟩ := (badL_mem H 32 k).1 hk
  have e1 : (I.mend H v).mapL k = (List.range 32).map fun p => nv (I.ownV (32 * k + p)) := by
    unfold Img.mapL
    apply List.map_congr_left
    intro p _
    unfold Img.mv
    show nv (if 32 * k + p < I.n then I.ownV (32 * k + p) else 0) = _
    split
    · rfl
    · rename_i hc
      unfold Img.ownV
      rw [if_neg hc]
  have e2 : (I.mend H v).ms k = v := by
    show (if k < 32 then (if 1 + k ∈ H then v else I.ms k) else 0) = v
    rw [if_pos hk32, if_pos hkH]
  unfold Img.mapR
  rw [e1, e2, show ((1 + k : Nat) : Int) = 1 + (k : Int) from by omega]
/-- The last call of Mend, as writes. -/
theorem mend_run (I : Img) (H : List Nat) (v : Nat) (sy : Int) (D : Dev) : runF ((mL I H v (badL H 32).length ++ [(0, (I.mend H v).topR)]).map (fun (e : Int × ByteArray) (D : Dev) => writeD D sy 0 e.1 e.2) ++ [fun D => syncD D sy 0]) D = runS sy 0 (puts (mendW I H v) ++ [.sync]) D := by
  rw [← runF_S]
  have hl : (mL I H v (badL H 32).length ++ [((0 : Int), (I.mend H v).topR)]).map (fun (e : Int × ByteArray) (D : Dev) => writeD D sy 0 e.1 e.2) = (puts (mendW I H v)).map (fun t D => stD D sy 0 t) := by
    unfold mL mendW puts
    rw [List.take_of_length_le (Nat.le_refl _), List.map_append, List.map_append, List.map_append, List.map_map, List.map_map, List.map_map]
    refine congr (congrArg HAppend.hAppend (List.map_congr_left (fun k hk => ?_))) rfl
    show (fun D => writeD D sy 0 (1 + (k : Int)) _) = fun D => writeD D sy 0 ((1 + k : Nat) : Int) ((I.mend H v).mapR k)
    rw [mend_entry I H v k hk, show ((1 + k : Nat) : Int) = 1 + (k : Int) from by omega]
  rw [hl, List.map_append]
  rfl
/-- The last call of Mend. -/
theorem mend_do {w0 : World} {x s m lo : Nat} {sy : Int} {D : Dev} {I : Img} {H : List Nat} {v : Nat} {OS : Nat → Prop} {w9 : World} {vs : List Value} {F v2 : Value} (hH : Held w0 x s m sy 0 D (up OS lo w9) w9) (hp : D.pend.length ≤ 900000)
    (hpa : PutsAt w9 lo s (mL I H v (badL H 32).length ++ [(0, (I.mend H v).topR)]) (vs ++ [F])) (hown : OwnL w9 lo 104 1 v2 ((vs ++ [F, .func (.func 61) #[ptrV s] #[]]).map fun v => [v])) :
    ∃ A2 n2 c2, v2 = .slice A2 n2 c2 ∧ Calls Try.prog 64 #[.slice A2 n2 c2] w9 fun e w' => e = .returned (.int .i64 (runS sy 0 (puts (mendW I H v) ++ [.sync]) D).2) ∧ Live w0 x (runS sy 0 (puts (mendW I H v) ++ [.sync]) D).1 (up OS lo w9) w' ∧ Beside w0 (up OS lo w9) w9 w' := by
  obtain ⟨A2, c2, hv2, _, _, hla⟩ := hown.listAt
  rw [List.length_map] at hv2
  have hvl := hpa.1
  have hbl := badL_len H 32
  have hfl : (mL I H v (badL H 32).length ++ [((0 : Int), (I.mend H v).topR)]).length ≤ 33 := by
    unfold mL
    rw [List.length_append, List.length_map, List.length_take, List.length_singleton]
    omega
  have hlen : (vs ++ [F, Value.func (.func 61) #[ptrV s] #[]]).length ≤ 40 ∧ 0 < (vs ++ [F, Value.func (.func 61) #[ptrV s] #[]]).length := by
    rw [List.length_append] at hvl ⊢
    simp at hvl ⊢
    have : (mL I H v (badL H 32).length ++ [((0 : Int), (I.mend H v).topR)]).length = (mL I H v (badL H 32).length).length + 1 := by rw [List.length_append]; rfl
    omega
  refine ⟨A2, _, c2, hv2, ?_⟩
  have hlo : ∀ k, lo ≤ k → k < w9.heap.size → up OS lo w9 k := fun k h1 h2 => .inr ⟨h1, h2⟩
  have hsz : ∀ e ∈ mL I H v (badL H 32).length ++ [((0 : Int), (I.mend H v).topR)], e.2.size ≤ 9223372036854775807 := by
    intro e he
    have : e.2.size = 140 := by
      rcases List.mem_append.1 he with he | he
      · obtain ⟨i, _, rfl⟩ := List.mem_map.1 he; exact packS_size ..
      · rw [List.mem_singleton.1 he]; exact packS_size ..
    omega
  have hw : WorksL w0 x (up OS lo w9) w9 1 ((mL I H v (badL H 32).length ++ [((0 : Int), (I.mend H v).topR)]).map (fun (e : Int × ByteArray) (D : Dev) => writeD D sy 0 e.1 e.2) ++ [fun D => syncD D sy 0]) (vs ++ [F, .func (.func 61) #[ptrV s] #[]]) := by
    have := (WorksL.puts (w0 := w0) (x := x) hH.store.blk hH.os hlo hsz hpa).app (WorksL.cons ((works_sync hH.store.blk hH.os).more (by omega)) (WorksL.nil ..))
    rw [List.append_assoc vs] at this
    exact this
  refine (do_works hH.live 1 _ _ hw (by omega) (by omega) A2 c2 hla (fun b off e => ?_)).mono ?_
  · rcases hown.form with ⟨_, h0⟩ | ⟨g, cap, e1, h1, h2, _⟩
    · have := congrArg List.length h0; rw [List.length_map, List.length_nil] at this; omega
    · rw [e1] at hv2
      injection hv2 with hv2 _ _
      rw [e] at hv2
      injection hv2 with hv2
      injection hv2 with hv2 _ _
      subst hv2
      exact .inr (.inr ⟨h1, h2⟩)
  · rintro e w' ⟨he, h1, h2, _⟩
    rw [mend_run] at he h1
    exact ⟨he, h1, h2⟩
theorem info_u32c : (Try.prog.info? 22).map (fun i => (i.zero, i.size, i.bytes)) = some (some (.int .u32 0), 1, 4) := by kernel_rfl
theorem info_u32z : (Try.prog.info? 22).map (·.size) = some 1 := by kernel_rfl
/-- copy of a part of the call's own versions. -/
theorem copy_own {w : World} {g gm k : Nat} {S : Nat → U32} {T0 : Nat → U32} (hb : Blk w g 22 (ownArr S)) (hm : Blk w gm 94 (verArr T0)) (hk : k < 32) (ty : TypeId) :
    (Builtin.copy_ #[131, 131] ty #[.slice (some ⟨gm, 0, none⟩) 32 32, .slice (some ⟨g, 32 * k, none⟩) (1024 - 32 * k) (1024 - 32 * k)]).run Try.prog w = .ok (goInt 32) (w.setRow gm (verArr fun p => S (32 * k + p))) := by
  have h := run_copy_row (P := Try.prog) w 131 131 ty 22 gm 0 32 32 ⟨g, 32 * k, none⟩ (1024 - 32 * k) (1024 - 32 * k) (verArr T0) 94 (verArr fun p => S (32 * k + p)).toList Try.underlying131 info_u32z hm (by
      rw [Array.length_toList, verArr_size]
      exact (Nat.min_eq_right (by omega)).symm) (fun j v hj => by
      have hj32 : j < 32 := by
        have := (List.getElem?_eq_some_iff.1 hj).1
        rwa [Array.length_toList, verArr_size] at this
      rw [Array.getElem?_toList, verArr_get _ _ hj32] at hj
      injection hj with hj
      rw [add_plain, ← hj]
      have := hb.cell (32 * k + j)
      rwa [ownArr_get _ _ (by omega)] at this) (by rw [Array.length_toList, verArr_size, verArr_size]; omega) (fun v hv => by
      have := verArr_one (fun p => S (32 * k + p))
      rw [Array.all_eq_true'] at this
      exact this v (by simpa using hv))
  rw [h]
  have e1 : (verArr fun p => S (32 * k + p)).toList.length = 32 := by rw [Array.length_toList, verArr_size]
  rw [e1]
  have e2 : ((verArr T0).toList.take 0 ++ (verArr fun p => S (32 * k + p)).toList ++ (verArr T0).toList.drop (0 + 32)).toArray = verArr fun p => S (32 * k + p) := by
    rw [List.take_zero, List.nil_append, List.drop_of_length_le (by rw [Array.length_toList, verArr_size]; omega), List.append_nil]
  rw [e2]
  rfl
set_option maxRecDepth 100000 in
theorem made_own (w : World) : (Instr.makeSlice 131 (.int .i64 1024) (.int .i64 1024)).run Try.prog w = .ok (.slice (some ⟨w.heap.size, 0, none⟩) 1024 1024) (w.alloc (.cells (ownArr fun _ => 0#32) 22)) := by
  obtain ⟨i, hi, hz0, hz1, hz2⟩ := info_parts info_u32c
  have h := run_make (P := Try.prog) w 131 22 i _ Try.underlying131 hi hz0 .i64 .i64 1024 1024 (by omega) (by omega) (by rw [hz2]; decide) (by omega)
  have e : madeCells (Value.int .u32 0).cells (Int.toNat 1024 * 1) = ownArr fun _ => 0#32 := by
    unfold madeCells
    apply Array.ext
    · rw [ownArr_size]; simp [Value.cells]
    · intro j h1 h2
      rw [ownArr_size] at h2
      have h3 := ownArr_get (fun _ => 0#32) j h2
      rw [Array.getElem?_eq_getElem (by rw [ownArr_size]; exact h2)] at h3
      injection h3 with h3
      rw [h3]
      simp [Value.cells, Nat.mod_one, u32]
  rw [h, hz1, e]
  rfl
set_option maxRecDepth 100000 in
set_option maxHeartbeats 8000000 in
theorem mend_any {w0 : World} {x : Nat} {D : Dev} {out : Nat → Prop} {W : World} {I : Img} {H : List Nat} {sy : Int} (h : Live w0 x D out W) (hh : Hurt D I H) (hN : I.N < 1000) (hs : 1 ≤ sy ∧ sy ≤ 4) :
    Calls Try.prog 35 #[ptrV x, .agg #[.int .i64 sy, .int .i64 0]] W (MendR w0 x D I H out W) := by
  have hlen : 132 ≤ D.st.length ∧ D.st.length ≤ 1155 := by have := hh.len; have := hh.img.n0; have := hh.img.n1; omega
  have HFT := Lib.hid (fun (w1 : World) (hg : Grew W w1) => fits_any (h.grew hg) sy 0 hlen hs (by omega : (0 : Int) ≤ 0 ∧ (0 : Int) ≤ 1099511627776))
  have HNS := Lib.hid (fun (w1 : World) (hg : Grew W w1) => newStore_any (h.grew hg) sy 0)
  have HFI := Lib.hid (fun (s m : Nat) (out2 : Nat → Prop) (w1 : World) (h2 : Held w0 x s m sy 0 D out2 w1) => finish_any h2 hlen.1 (by rw [hh.pend]; simp) D false 0 (hh.finD sy 0))
  have HL := Lib.hid h
  have HU := Lib.hid hh
  have hbase := h.base.size
  have hg0 : Grew W (W.alloc (.cells #[.int .i64 sy, .int .i64 0] 50)) := (Grew.refl W).alloc _
  obtain ⟨n, hn⟩ : ∃ n, I.n = n := ⟨_, rfl⟩
  have hnb : 1 ≤ n ∧ n ≤ 1024 := by have := hh.img.n0; have := hh.img.n1; omega
  have HNN := Lib.hid hn
  clear h hh hlen hn
  go_enter Try.func35, Try.ntmps35
  go_wp2_with fail
  refine (HFT.out _ hg0).mono ?_
  rintro e w1 ⟨rfl, g1⟩
  have hg1 : Grew W w1 := hg0.trans g1
  have hb1 := (Blk.new W 50 #[.int .i64 sy, .int .i64 0] rfl).grew g1
  have c0 := hb1.cell 0
  have c1 := hb1.cell 1
  have cl := hb1.lt
  have HG1 := Lib.hid hg1
  clear hg1 hb1 g1 hg0
  go_wp2_with fail
  refine (HNS.out _ HG1.out).mono ?_
  rintro e w2 ⟨s, m, rfl, hst, g2, hs2, hm2⟩
  have hg2 : Grew W w2 := HG1.out.trans g2
  have hs3 : W.heap.size ≤ s := Nat.le_trans HG1.out.size hs2
  have hm3 : W.heap.size ≤ m := Nat.le_trans HG1.out.size hm2
  have hlt := hst.lt
  have hl2 : Live w0 x D (fun k => out k ∨ k = s ∨ k = m) w2 := (HL.out.more hg2).few (fun k hk => by
    rcases hk with hk | hk | hk
    · exact .inl hk
    · exact .inr ⟨by omega, by omega⟩
    · exact .inr ⟨by omega, by omega⟩)
  have hh2 : Held w0 x s m sy 0 D (fun k => out k ∨ k = s ∨ k = m) w2 := ⟨hl2, hst, .inr (.inl rfl), .inr (.inr rfl), by omega⟩
  have HH2 := Lib.hid hh2
  have HG2 := Lib.hid hg2
  have HSM := Lib.hid (And.intro hs3 hm3)
  clear hst g2 hs2 hm2 hs3 hm3 hl2 hh2 hg2 c0 c1 cl hlt
  go_wp2_with fail
  refine (HFI.out s m _ w2 HH2.out).mono ?_
  rintro e w3 ⟨rfl, hd⟩
  have HH3 := Lib.hid (HH2.out.done hd)
  have HB3 : Hid (Beside w0 out W w3) := Lib.hid ((HG2.out.turned _).next hd.turned (fun k hk hS => by
    rcases hS with hS | hS
    · exact ⟨hS.1, fun h9 => hS.2 (.inl h9)⟩
    · exact absurd hk (by have := HSM.out.2; omega)))
  have hrd := read_any' HH3.out 0 (by unfold okI; omega)
  rw [readR_top HU.out] at hrd
  have HR0 := Lib.hid hrd
  clear hd hrd
  go_wp2_with fail
  refine HR0.out.mono ?_
  rintro e w4 ⟨rfl, hlk⟩
  have HH4 := Lib.hid (HH3.out.after hlk)
  have HB4 : Hid (Beside w0 out W w4) := Lib.hid (HB3.out.next hlk.turned (fun k hk hS => absurd hk (by have := HSM.out.2; omega)))
  clear hlk
  unfold rawV
  obtain ⟨tk, htk⟩ : ∃ tk : Bool, tk = !decide (0 ∈ H) := ⟨_, rfl⟩
  obtain ⟨⟨td, tv, tk'⟩, htop⟩ : ∃ r, topI D = r := ⟨_, rfl⟩
  rw [htop]
  have htkk : tk' = tk ∧ (tk = true → td = vbytes I.tops ∧ tv = nv I.N) ∧ (tk = false → tv = 0#32) := by
    by_cases h0 : 0 ∈ H
    · have := HU.out.topN h0
      rw [htop] at this
      injection this with h1 h2 h3
      rw [htk, decide_eq_true h0]
      exact ⟨h3, (fun h9 => absurd h9 (by decide)), fun _ => h2⟩
    · have := HU.out.topY h0
      rw [htop] at this
      injection this with h1 h2 h3
      rw [htk, decide_eq_false h0]
      exact ⟨h3, (fun _ => ⟨h1, h2⟩), fun h9 => absurd h9 (by decide)⟩
  obtain ⟨htk2, htd, htn⟩ := htkk
  subst htk2
  have HTD := Lib.hid htd
  have HTN := Lib.hid htn
  have HTK := Lib.hid htk
  have hzz := zero_ver
  have htvb := u32_bd tv
  clear htop htd htn htk
  have HGA : Hid (Grew w4 ((w4.alloc (.cells #[.string td, .int .u32 (u32 tv), .bool tk'] 87)).alloc (.cells (verArr fun _ => 0#32) 94))) := Lib.hid (((Grew.refl w4).alloc _).alloc _)
  have HBTp : Hid (Blk ((w4.alloc (.cells #[.string td, .int .u32 (u32 tv), .bool tk'] 87)).alloc (.cells (verArr fun _ => 0#32) 94)) w4.heap.size 87 #[.string td, .int .u32 (u32 tv), .bool tk']) := Lib.hid ((Blk.new w4 _ _ rfl).alloc _)
  have HBVp : Hid (Blk ((w4.alloc (.cells #[.string td, .int .u32 (u32 tv), .bool tk'] 87)).alloc (.cells (verArr fun _ => 0#32) 94)) (w4.heap.size + 1) 94 (verArr fun _ => 0#32)) := Lib.hid (Blk.new _ _ _ (by simp))
  obtain ⟨h0, hu0, hN0, hNt⟩ : ∃ h0 : Nat, u32 tv = (h0 : Int) ∧ h0 ≤ I.N ∧ (tk' = true → h0 = I.N) := by
    cases tk' with
    | true => exact ⟨I.N, by rw [(HTD.out rfl).2]; unfold u32; rw [nv_toNat _ (by omega)], Nat.le_refl _, fun _ => rfl⟩
    | false => exact ⟨0, by rw [HTN.out rfl]; rfl, Nat.zero_le _, fun h9 => absurd h9 (by decide)⟩
  have HU0 := Lib.hid hu0
  have HNT := Lib.hid hNt
  clear hu0 hNt
  rcases Bool.eq_false_or_eq_true tk' with htk1 | htk1
  case' inl =>
    subst htk1
    obtain ⟨htd, htv⟩ := HTD.out rfl
    have hts : td.size = 128 := by rw [htd, vbytes_size]; unfold Img.tops; simp
    have HLD := Lib.hid (load_any td hts)
    have HTV := Lib.hid htv
    have HFD : Hid (∀ p, p < 32 → fld td p = nv (I.ms p)) := Lib.hid (fun p hp => by rw [htd]; unfold Img.tops; exact fld32 _ _ hp)
    clear htd htv hts
    go_wp2_with fail
    refine (HLD.out _).mono ?_
    rintro e w5 ⟨rfl, g5⟩
    have HB5 := Lib.hid (HBVp.out.grew g5)
    have HT5 := Lib.hid (HBTp.out.grew g5)
    have HG5 := Lib.hid (HGA.out.trans g5)
    clear g5
    have hba : Blk (w5.setRow (w4.heap.size + 1) (verArr (fld td))) (w4.heap.size + 1) 94 (verArr (mt I H true 0)) := (HB5.out.setRow _).conv (verArr_congr fun p hp => by rw [HFD.out p hp]; rfl)
    have hta : Blk (w5.setRow (w4.heap.size + 1) (verArr (fld td))) w4.heap.size 87 #[.string td, .int .u32 (u32 tv), .bool true] := HT5.out.farRow (by omega) _
    have hga : Grew w4 (w5.setRow (w4.heap.size + 1) (verArr (fld td))) := HG5.out.setRow (by omega) _
    have HBA := Lib.hid hba
    have HTA := Lib.hid hta
    have HGAA := Lib.hid hga
    have t0 := hta.cell 0
    have t1 := hta.cell 1
    have t2 := hta.cell 2
    have tl := hta.lt
    clear hba hta hga
    go_wp2_with (refine wpList_store_blk rfl 94 _ _ rfl (w4.heap.size + 1) (verArr (fld td)) rfl rfl 94 (verArr fun _ => 0#32) HB5.out (by rw [verArr_size, verArr_size]) (by rw [verArr_size]; exact info_ver) (verArr_one _) ?_)
    obtain ⟨wa, hwa⟩ : ∃ wa, wa = w5.setRow (w4.heap.size + 1) (verArr (fld td)) := ⟨_, rfl⟩
    rw [← hwa] at HBA HTA HGAA ⊢
    clear t0 t1 t2 tl hwa
    obtain ⟨T, hT⟩ : ∃ b : Bool, b = true := ⟨_, rfl⟩
    obtain ⟨cT, hcT⟩ : ∃ cs : Array Value, cs = #[.string td, .int .u32 (u32 tv), .bool true] := ⟨_, rfl⟩
    have HB0 : Hid (Blk wa (w4.heap.size + 1) 94 (verArr (mt I H T 0))) := Lib.hid (by rw [hT]; exact HBA.out)
    have HT0 : Hid (Blk wa w4.heap.size 87 cT) := Lib.hid (by rw [hcT]; exact HTA.out)
    have HNT0 : Hid (T = true → h0 = I.N) := Lib.hid (fun _ => HNT.out (by simp))
    have HTE : Hid (T = !decide (0 ∈ H)) := Lib.hid (hT.trans HTK.out)
    have HTT := Lib.hid hT
    have HCT := Lib.hid hcT
    clear HTK HTD HTN HGA HBTp HBVp HBA HTA HNT hT hcT
  case' inr =>
    subst htk1
    have HBA : Hid (Blk ((w4.alloc (.cells #[.string td, .int .u32 (u32 tv), .bool false] 87)).alloc (.cells (verArr fun _ => 0#32) 94)) (w4.heap.size + 1) 94 (verArr (mt I H false 0))) := Lib.hid (HBVp.out.conv (verArr_congr fun p hp => by simp [mt]))
    have HTA := HBTp
    have HGAA := HGA
    go_wp2_with fail
    obtain ⟨wa, hwa⟩ : ∃ wa, wa = (w4.alloc (.cells #[.string td, .int .u32 (u32 tv), .bool false] 87)).alloc (.cells (verArr fun _ => 0#32) 94) := ⟨_, rfl⟩
    rw [← hwa] at HBA HTA HGAA ⊢
    clear hwa
    obtain ⟨T, hT⟩ : ∃ b : Bool, b = false := ⟨_, rfl⟩
    obtain ⟨cT, hcT⟩ : ∃ cs : Array Value, cs = #[.string td, .int .u32 (u32 tv), .bool false] := ⟨_, rfl⟩
    have HB0 : Hid (Blk wa (w4.heap.size + 1) 94 (verArr (mt I H T 0))) := Lib.hid (by rw [hT]; exact HBA.out)
    have HT0 : Hid (Blk wa w4.heap.size 87 cT) := Lib.hid (by rw [hcT]; exact HTA.out)
    have HNT0 : Hid (T = true → h0 = I.N) := Lib.hid (fun h9 => by rw [hT] at h9; cases h9)
    have HTE : Hid (T = !decide (0 ∈ H)) := Lib.hid (hT.trans HTK.out)
    have HTT := Lib.hid hT
    have HCT := Lib.hid hcT
    clear HTK HTD HTN HGA HBTp HBVp HBA HTA HNT hT hcT
  all_goals
    rw [HU0.out]
    have HGAT : Hid (Turned (fun p => p = m ∨ w4.heap.size ≤ p) w4 wa) := Lib.hid (HGAA.out.turned _)
    have HH4U := Lib.hid (held_up0 HH4.out)
    have HSA := Lib.hid (HH4.out.store.grew HGAA.out)
    have HLW := Lib.hid (show (w0.heap.size ≤ w4.heap.size ∧ s < w4.heap.size) ∧ m < w4.heap.size from ⟨⟨HH4.out.live.base.size, HH4.out.store.lt.1⟩, HH4.out.store.lt.2⟩)
    have h4a : w4.heap.size + 1 < wa.heap.size := HB0.out.lt
    have hm4 : m < w4.heap.size := HH4.out.store.lt.2
    clear HGAA
    go_loopg [12, 13, 57] 32 (fun gk hv' u i' wr => ∃ (q hv : Nat), q ≤ 32 ∧ gk = 32 - q ∧ i' = .int .i64 q ∧ hv' = .int .u32 (hv : Int) ∧ h0 ≤ hv ∧ hv ≤ I.N ∧ (∀ p, p < q → 1 + p ∉ H → I.ms p ≤ hv) ∧ OwnL wr w4.heap.size 3 1 u ((badL H q).map fun k : Nat => [.int .i64 (k : Int)]) ∧ Blk wr (w4.heap.size + 1) 94 (verArr (mt I H T q)) ∧ Blk wr w4.heap.size 87 cT ∧ StoreM wr s m x sy 0 ∧ Turned (fun p => p = m ∨ w4.heap.size ≤ p) w4 wr)
    case atStart => exact ⟨0, h0, by omega, by omega, rfl, rfl, Nat.le_refl _, hN0, (fun p hp => absurd hp (by omega)), OwnL.nil .., HB0.out, HT0.out, HSA.out, HGAT.out⟩
    case round =>
      obtain ⟨q, hv, hq, hgq, rfl, rfl, hv1, hv2, hms, hown, hbv, hbt, hsq, htq⟩ := hrel
      have hhq := HH4U.out.up HLW.out.1 HLW.out.2 htq hsq
      have HGQ := Lib.hid hgq
      have HMS := Lib.hid hms
      have HOW := Lib.hid hown
      have HBV := Lib.hid hbv
      have HBT := Lib.hid hbt
      have HHQ := Lib.hid hhq
      have HTQ := Lib.hid htq
      clear hgq hms hown hbv hbt hhq htq hsq
      by_cases hqt : q < 32
      · have hqi : (q : Int) < 32 := by omega
        have hrq := read_any' HHQ.out (1 + (q : Int)) (by unfold okI; omega)
        rw [readR_map HU.out q hqt] at hrq
        by_cases hqH : 1 + q ∈ H
        · rw [HU.out.mapN q hqt hqH] at hrq
          have HRQ := Lib.hid hrq
          have HQH := Lib.hid hqH
          clear hrq hqH
          go_wp2_with fail
          refine HRQ.out.mono ?_
          rintro e w6 ⟨rfl, hlk⟩
          unfold rawV rawZ
          rw [show u32 0#32 = 0 from rfl]
          have hg6 : Grew w6 (w6.alloc (.cells #[.string ⟨#[]⟩, .int .u32 0, .bool false] 87)).drew := ((Grew.refl w6).alloc _).drew
          have HS6 := Lib.hid (hlk.store.grew hg6)
          have HO6 := Lib.hid ((HOW.out.seen2 HHQ.out hlk).grew hg6)
          have HV6 := Lib.hid ((HBV.out.seen2 HHQ.out hlk).grew hg6)
          have HT6 := Lib.hid ((HBT.out.seen2 HHQ.out hlk).grew hg6)
          have HTQ6 := Lib.hid ((HTQ.out.trans (hlk.turned.mono fun p _ hp => .inl hp)).andGrew hg6)
          have hnb : Blk (w6.alloc (.cells #[.string ⟨#[]⟩, .int .u32 0, .bool false] 87)).drew w6.heap.size 87 #[.string ⟨#[]⟩, .int .u32 0, .bool false] := (Blk.new w6 _ _ rfl).drew
          clear hlk hg6
          go_wp2_with fail
          refine wp_region_R [] (fun w' : World => w'.cell? ⟨w6.heap.size, 2, none⟩ = some (.bool false) ∧ w6.heap.size < w'.heap.size) (by kernel_rfl) ?_
          have hS : (fun w' : World => w'.cell? ⟨w6.heap.size, 2, none⟩ = some (.bool false) ∧ w6.heap.size < w'.heap.size) (w6.alloc (.cells #[.string ⟨#[]⟩, .int .u32 0, .bool false] 87)).drew := ⟨hnb.cell 2, hnb.lt⟩
          refine wpAnyR_takeQ (i := 0) (v := ?_) (some 74) rfl rfl (by kernel_rfl) (by kernel_rfl) (by kernel_rfl) (by kernel_rfl) (fun _ _ _ h => h) (Or.inl ⟨by rfl, ?_⟩) ?_
          rotate_left
          focus (intro wS hSw; (try dsimp only at hSw); go_simp; (try with_reducible rfl); (try (first | (rw [if_pos (by omega)]; (try go_simp); (try with_reducible rfl)) | (rw [if_neg (by omega)]; (try go_simp); (try with_reducible rfl)))))
          try simp only [Act.put, List.setIfInBounds_toArray, List.set_cons_zero, List.set_cons_succ]
          refine wpAnyR_take (i := 1) (v := ?_) [2, 3, 4, 5, 6, 7, 8, 9, 10, 11, 12, 13, 14] (some 75) rfl rfl (by kernel_rfl) (by kernel_rfl) (by kernel_rfl) (by kernel_rfl) (by kernel_rfl) (by kernel_rfl) (by kernel_rfl) (fun _ _ _ h => h) (Or.inl ⟨by rfl, ?_⟩) hS ?_
          rotate_left
          focus (intro wS hSw; (try dsimp only at hSw); go_simp; (try with_reducible rfl); (try (first | (rw [if_pos (by omega)]; (try go_simp); (try with_reducible rfl)) | (rw [if_neg (by omega)]; (try go_simp); (try with_reducible rfl)))))
          try simp only [Act.put, List.setIfInBounds_toArray, List.set_cons_zero, List.set_cons_succ]
          refine wpAnyR_takeQ (i := 2) (v := ?_) (some 76) rfl rfl (by kernel_rfl) (by kernel_rfl) (by kernel_rfl) (by kernel_rfl) (fun _ _ _ h => h) (Or.inl ⟨by rfl, ?_⟩) ?_
          rotate_left
          focus (intro wS hSw; (try dsimp only at hSw); go_simp; (try with_reducible rfl); (try (first | (rw [if_pos (by omega)]; (try go_simp); (try with_reducible rfl)) | (rw [if_neg (by omega)]; (try go_simp); (try with_reducible rfl)))))
          try simp only [Act.put, List.setIfInBounds_toArray, List.set_cons_zero, List.set_cons_succ]
          refine wpAnyR_takeQ (i := 3) (v := ?_) (some 77) rfl rfl (by kernel_rfl) (by kernel_rfl) (by kernel_rfl) (by kernel_rfl) (fun _ _ _ h => h) (Or.inl ⟨by rfl, ?_⟩) ?_
          rotate_left
          focus (intro wS hSw; (try dsimp only at hSw); go_simp; (try with_reducible rfl); (try (first | (rw [if_pos (by omega)]; (try go_simp); (try with_reducible rfl)) | (rw [if_neg (by omega)]; (try go_simp); (try with_reducible rfl)))))
          try simp only [Act.put, List.setIfInBounds_toArray, List.set_cons_zero, List.set_cons_succ]
          refine wpAnyR_takeQ (i := 4) (v := undef) (some 78) rfl rfl (by kernel_rfl) (by kernel_rfl) (by kernel_rfl) (by kernel_rfl) (fun _ _ _ h => h) (Or.inr ⟨by rfl, rfl⟩) ?_
          try simp only [Act.put, List.setIfInBounds_toArray, List.set_cons_zero, List.set_cons_succ]
          refine wpAnyR_takeQ (i := 5) (v := undef) (some 79) rfl rfl (by kernel_rfl) (by kernel_rfl) (by kernel_rfl) (by kernel_rfl) (fun _ _ _ h => h) (Or.inr ⟨by rfl, rfl⟩) ?_
          try simp only [Act.put, List.setIfInBounds_toArray, List.set_cons_zero, List.set_cons_succ]
          refine wpAnyR_takeQ (i := 6) (v := undef) (some 80) rfl rfl (by kernel_rfl) (by kernel_rfl) (by kernel_rfl) (by kernel_rfl) (fun _ _ _ h => h) (Or.inr ⟨by rfl, rfl⟩) ?_
          try simp only [Act.put, List.setIfInBounds_toArray, List.set_cons_zero, List.set_cons_succ]
          refine wpAnyR_takeQ (i := 7) (v := undef) (some 81) rfl rfl (by kernel_rfl) (by kernel_rfl) (by kernel_rfl) (by kernel_rfl) (fun _ _ _ h => h) (Or.inr ⟨by rfl, rfl⟩) ?_
          try simp only [Act.put, List.setIfInBounds_toArray, List.set_cons_zero, List.set_cons_succ]
          refine wpAnyR_takeQ (i := 8) (v := undef) (some 82) rfl rfl (by kernel_rfl) (by kernel_rfl) (by kernel_rfl) (by kernel_rfl) (fun _ _ _ h => h) (Or.inr ⟨by rfl, rfl⟩) ?_
          try simp only [Act.put, List.setIfInBounds_toArray, List.set_cons_zero, List.set_cons_succ]
          refine wpAnyR_takeQ (i := 9) (v := undef) (some 83) rfl rfl (by kernel_rfl) (by kernel_rfl) (by kernel_rfl) (by kernel_rfl) (fun _ _ _ h => h) (Or.inr ⟨by rfl, rfl⟩) ?_
          try simp only [Act.put, List.setIfInBounds_toArray, List.set_cons_zero, List.set_cons_succ]
          refine wpAnyR_takeQ (i := 10) (v := undef) (some 84) rfl rfl (by kernel_rfl) (by kernel_rfl) (by kernel_rfl) (by kernel_rfl) (fun _ _ _ h => h) (Or.inr ⟨by rfl, rfl⟩) ?_
          try simp only [Act.put, List.setIfInBounds_toArray, List.set_cons_zero, List.set_cons_succ]
          refine wpAnyR_takeQ (i := 11) (v := undef) (some 85) rfl rfl (by kernel_rfl) (by kernel_rfl) (by kernel_rfl) (by kernel_rfl) (fun _ _ _ h => h) (Or.inr ⟨by rfl, rfl⟩) ?_
          try simp only [Act.put, List.setIfInBounds_toArray, List.set_cons_zero, List.set_cons_succ]
          refine wpAnyR_takeQ (i := 12) (v := undef) (some 86) rfl rfl (by kernel_rfl) (by kernel_rfl) (by kernel_rfl) (by kernel_rfl) (fun _ _ _ h => h) (Or.inr ⟨by rfl, rfl⟩) ?_
          try simp only [Act.put, List.setIfInBounds_toArray, List.set_cons_zero, List.set_cons_succ]
          refine wpAnyR_takeQ (i := 13) (v := undef) (some 87) rfl rfl (by kernel_rfl) (by kernel_rfl) (by kernel_rfl) (by kernel_rfl) (fun _ _ _ h => h) (Or.inr ⟨by rfl, rfl⟩) ?_
          try simp only [Act.put, List.setIfInBounds_toArray, List.set_cons_zero, List.set_cons_succ]
          refine wpAnyR_takeQ (i := 14) (v := ?_) (some 88) rfl rfl (by kernel_rfl) (by kernel_rfl) (by kernel_rfl) (by kernel_rfl) (fun _ _ _ h => h) (Or.inl ⟨by rfl, ?_⟩) ?_
          rotate_left
          focus (intro wS hSw; (try dsimp only at hSw); go_simp; (try with_reducible rfl); (try (first | (rw [if_pos (by omega)]; (try go_simp); (try with_reducible rfl)) | (rw [if_neg (by omega)]; (try go_simp); (try with_reducible rfl)))))
          try simp only [Act.put, List.setIfInBounds_toArray, List.set_cons_zero, List.set_cons_succ]
          refine wpAnyR_done (by kernel_rfl) ?_ _
          obtain ⟨wb, hwb⟩ : ∃ wb, wb = (w6.alloc (.cells #[.string ⟨#[]⟩, .int .u32 0, .bool false] 87)).drew := ⟨_, rfl⟩
          rw [← hwb] at HS6 HO6 HV6 HT6 HTQ6 ⊢
          clear hS hnb hwb
          have hbl := badL_len H q
          have HML : Hid (((badL H q).map fun k : Nat => [Value.int .i64 (k : Int)]).length = (badL H q).length) := Lib.hid (List.length_map ..)
          have hwab : w4.heap.size ≤ wb.heap.size := HTQ6.out.size
          go_wp2_with (at_builtin; refine wpList_push2 rfl _ _ 54 rfl w4.heap.size 3 1 8 (.int .i64 0) Try.underlying54 info_int rfl (by decide) (wb.alloc (.cells #[.int .i64 (q : Int)] 3)) _ ((badL H q).map fun k : Nat => [.int .i64 (k : Int)]) [.int .i64 (q : Int)] rfl rfl (HO6.out.alloc _) wb.heap.size (by rfl) (Blk.new _ _ _ rfl) rfl (by rw [HML.out]; omega) (by rw [HML.out]; omega) (by simp; omega) (badL H q).length HML.out ?_)
          intro g9 cap9 w9 hown9 hgb9 hn9 hl9
          have HO9 : Hid (OwnL w9 w4.heap.size 3 1 (.slice (some ⟨g9, 0, none⟩) ((badL H q).length + 1) cap9) ((badL H (q + 1)).map fun k : Nat => [.int .i64 (k : Int)])) := Lib.hid (by rw [badL_succ, if_pos HQH.out, List.map_append]; exact hown9)
          have HV9 := Lib.hid (((HV6.out.alloc (.cells #[.int .i64 (q : Int)] 3)).own hgb9 (fun e => (HO6.out.ne_blk HV6.out (by decide)) e)).conv (verArr_congr (T := mt I H T (q + 1)) fun p _ => mt_bad HQH.out p))
          have HT9 := Lib.hid ((HT6.out.alloc (.cells #[.int .i64 (q : Int)] 3)).own hgb9 (fun e => (HO6.out.ne_blk HT6.out (by decide)) e))
          have hs9 : StoreM w9 s m x sy 0 := (HS6.out.grew ((Grew.refl wb).alloc (.cells #[.int .i64 (q : Int)] 3))).beside (HO6.out.alloc _) (by decide) hgb9
          have ht9 : Turned (fun p => p = m ∨ w4.heap.size ≤ p) w4 w9 := own_push2 (HTQ6.out.alloc _) HO6.out.row_ge hgb9
          have HS9 := Lib.hid hs9
          have HTQ9 := Lib.hid ht9
          clear hown9 hgb9 hn9 hl9 hs9 ht9
          go_wp2_with fail
          go_roundg (32 - (q + 1))
          case measure => rw [HGQ.out]; omega
          case rel => exact ⟨q + 1, hv, by omega, by omega, by go_num, rfl, hv1, hv2, ms_bad HMS.out HQH.out, HO9.out, HV9.out, HT9.out, HS9.out, HTQ9.out⟩
        · rw [HU.out.mapY q hqt hqH] at hrq
          have HRQ := Lib.hid hrq
          have HQH := Lib.hid hqH
          obtain ⟨mq, hmq⟩ : ∃ mq, I.ms q = mq := ⟨_, rfl⟩
          rw [hmq] at HRQ
          have hmN : mq ≤ I.N := by rw [← hmq]; exact HU.out.img.ms q
          have hmu : u32 (nv mq) = (mq : Int) := by unfold u32; rw [nv_toNat _ (by omega)]
          obtain ⟨mx, hmx⟩ : ∃ mx : Nat, max hv mq = mx := ⟨_, rfl⟩
          have hmxi : max (hv : Int) (mq : Int) = (mx : Int) := by omega
          clear hrq hqH
          go_wp2_with fail
          refine HRQ.out.mono ?_
          rintro e w6 ⟨rfl, hlk⟩
          unfold rawV
          simp only [hmu]
          have hg6 : Grew w6 (w6.alloc (.cells #[.string (vbytes (I.mapL q)), .int .u32 (mq : Int), .bool true] 87)).drew := ((Grew.refl w6).alloc _).drew
          have HS6 := Lib.hid (hlk.store.grew hg6)
          have HO6 := Lib.hid ((HOW.out.seen2 HHQ.out hlk).grew hg6)
          have HV6 := Lib.hid ((HBV.out.seen2 HHQ.out hlk).grew hg6)
          have HT6 := Lib.hid ((HBT.out.seen2 HHQ.out hlk).grew hg6)
          have HTQ6 := Lib.hid ((HTQ.out.trans (hlk.turned.mono fun p _ hp => .inl hp)).andGrew hg6)
          have hnb : Blk (w6.alloc (.cells #[.string (vbytes (I.mapL q)), .int .u32 (mq : Int), .bool true] 87)).drew w6.heap.size 87 #[.string (vbytes (I.mapL q)), .int .u32 (mq : Int), .bool true] := (Blk.new w6 _ _ rfl).drew
          clear hlk hg6
          go_wp2_with fail
          rcases Bool.eq_false_or_eq_true T with hTT | hTT
          · have hTq := HTT.out.symm.trans hTT
            try (exact absurd hTq (by decide))
            all_goals
              clear hTq
              subst hTT
              have hmtq : u32 (mt I H true q q) = (mq : Int) := by rw [← hmu, ← hmq]; rfl
              refine wp_region_R [] (fun w' : World => w'.cell? ⟨w6.heap.size, 1, none⟩ = some (.int .u32 (mq : Int)) ∧ w'.cell? ⟨w6.heap.size, 2, none⟩ = some (.bool true) ∧ w6.heap.size < w'.heap.size ∧ w'.cell? ⟨w4.heap.size, 2, none⟩ = some (.bool true) ∧ w4.heap.size < w'.heap.size ∧ w'.cell? ⟨w4.heap.size + 1, q, none⟩ = some (.int .u32 (mq : Int)) ∧ w4.heap.size + 1 < w'.heap.size) (by kernel_rfl) ?_
              have hS : (fun w' : World => w'.cell? ⟨w6.heap.size, 1, none⟩ = some (.int .u32 (mq : Int)) ∧ w'.cell? ⟨w6.heap.size, 2, none⟩ = some (.bool true) ∧ w6.heap.size < w'.heap.size ∧ w'.cell? ⟨w4.heap.size, 2, none⟩ = some (.bool true) ∧ w4.heap.size < w'.heap.size ∧ w'.cell? ⟨w4.heap.size + 1, q, none⟩ = some (.int .u32 (mq : Int)) ∧ w4.heap.size + 1 < w'.heap.size) (w6.alloc (.cells #[.string (vbytes (I.mapL q)), .int .u32 (mq : Int), .bool true] 87)).drew := ⟨hnb.cell 1, hnb.cell 2, hnb.lt, (by have := HT6.out.cell 2; rw [HCT.out] at this; exact this), HT6.out.lt, (by have := HV6.out.cell q; rw [verArr_get _ _ hqt, hmtq] at this; exact this), HV6.out.lt⟩
              refine wpAnyR_takeQ (i := 0) (v := ?_) (some 74) rfl rfl (by kernel_rfl) (by kernel_rfl) (by kernel_rfl) (by kernel_rfl) (fun _ _ _ h => h) (Or.inl ⟨by rfl, ?_⟩) ?_
              rotate_left
              focus (intro wS hSw; (try dsimp only at hSw); go_simp; (try with_reducible rfl); (try (first | (rw [if_pos (by omega)]; (try go_simp); (try with_reducible rfl)) | (rw [if_neg (by omega)]; (try go_simp); (try with_reducible rfl)))))
              try simp only [Act.put, List.setIfInBounds_toArray, List.set_cons_zero, List.set_cons_succ]
              refine wpAnyR_take (i := 1) (v := ?_) [2, 3, 4, 5, 6, 7, 8, 9, 10, 11, 12, 13, 14] (some 75) rfl rfl (by kernel_rfl) (by kernel_rfl) (by kernel_rfl) (by kernel_rfl) (by kernel_rfl) (by kernel_rfl) (by kernel_rfl) (fun _ _ _ h => h) (Or.inl ⟨by rfl, ?_⟩) hS ?_
              rotate_left
              focus (intro wS hSw; (try dsimp only at hSw); go_simp; (try with_reducible rfl); (try (first | (rw [if_pos (by omega)]; (try go_simp); (try with_reducible rfl)) | (rw [if_neg (by omega)]; (try go_simp); (try with_reducible rfl)))))
              try simp only [Act.put, List.setIfInBounds_toArray, List.set_cons_zero, List.set_cons_succ]
              refine wpAnyR_takeQ (i := 2) (v := ?_) (some 76) rfl rfl (by kernel_rfl) (by kernel_rfl) (by kernel_rfl) (by kernel_rfl) (fun _ _ _ h => h) (Or.inl ⟨by rfl, ?_⟩) ?_
              rotate_left
              focus (intro wS hSw; (try dsimp only at hSw); go_simp; (try with_reducible rfl); (try (first | (rw [if_pos (by omega)]; (try go_simp); (try with_reducible rfl)) | (rw [if_neg (by omega)]; (try go_simp); (try with_reducible rfl)))))
              try simp only [Act.put, List.setIfInBounds_toArray, List.set_cons_zero, List.set_cons_succ]
              refine wpAnyR_takeQ (i := 3) (v := ?_) (some 77) rfl rfl (by kernel_rfl) (by kernel_rfl) (by kernel_rfl) (by kernel_rfl) (fun _ _ _ h => h) (Or.inl ⟨by rfl, ?_⟩) ?_
              rotate_left
              focus (intro wS hSw; (try dsimp only at hSw); go_simp; (try with_reducible rfl); (try (first | (rw [if_pos (by omega)]; (try go_simp); (try with_reducible rfl)) | (rw [if_neg (by omega)]; (try go_simp); (try with_reducible rfl)))))
              try simp only [Act.put, List.setIfInBounds_toArray, List.set_cons_zero, List.set_cons_succ]
              refine wpAnyR_takeQ (i := 4) (v := ?_) (some 78) rfl rfl (by kernel_rfl) (by kernel_rfl) (by kernel_rfl) (by kernel_rfl) (fun _ _ _ h => h) (Or.inl ⟨by rfl, ?_⟩) ?_
              rotate_left
              focus (intro wS hSw; (try dsimp only at hSw); go_simp; (try with_reducible rfl); (try (first | (rw [if_pos (by omega)]; (try go_simp); (try with_reducible rfl)) | (rw [if_neg (by omega)]; (try go_simp); (try with_reducible rfl)))))
              try simp only [Act.put, List.setIfInBounds_toArray, List.set_cons_zero, List.set_cons_succ]
              refine wpAnyR_take (i := 5) (v := ?_) [6, 7, 8, 9, 10, 11, 12, 13, 14] (some 79) rfl rfl (by kernel_rfl) (by kernel_rfl) (by kernel_rfl) (by kernel_rfl) (by kernel_rfl) (by kernel_rfl) (by kernel_rfl) (fun _ _ _ h => h) (Or.inl ⟨by rfl, ?_⟩) hS ?_
              rotate_left
              focus (intro wS hSw; (try dsimp only at hSw); go_simp; (try with_reducible rfl); (try (first | (rw [if_pos (by omega)]; (try go_simp); (try with_reducible rfl)) | (rw [if_neg (by omega)]; (try go_simp); (try with_reducible rfl)))))
              try simp only [Act.put, List.setIfInBounds_toArray, List.set_cons_zero, List.set_cons_succ]
              refine wpAnyR_takeQ (i := 6) (v := ?_) (some 80) rfl rfl (by kernel_rfl) (by kernel_rfl) (by kernel_rfl) (by kernel_rfl) (fun _ _ _ h => h) (Or.inl ⟨by rfl, ?_⟩) ?_
              rotate_left
              focus (intro wS hSw; (try dsimp only at hSw); go_simp; (try with_reducible rfl); (try (first | (rw [if_pos (by omega)]; (try go_simp); (try with_reducible rfl)) | (rw [if_neg (by omega)]; (try go_simp); (try with_reducible rfl)))))
              try simp only [Act.put, List.setIfInBounds_toArray, List.set_cons_zero, List.set_cons_succ]
              refine wpAnyR_takeQ (i := 7) (v := ?_) (some 81) rfl rfl (by kernel_rfl) (by kernel_rfl) (by kernel_rfl) (by kernel_rfl) (fun _ _ _ h => h) (Or.inl ⟨by rfl, ?_⟩) ?_
              rotate_left
              focus (intro wS hSw; (try dsimp only at hSw); go_simp; (try with_reducible rfl); (try (first | (rw [if_pos (by omega)]; (try go_simp); (try with_reducible rfl)) | (rw [if_neg (by omega)]; (try go_simp); (try with_reducible rfl)))))
              try simp only [Act.put, List.setIfInBounds_toArray, List.set_cons_zero, List.set_cons_succ]
              refine wpAnyR_take (i := 8) (v := ?_) [12, 13, 14] (some 82) rfl rfl (by kernel_rfl) (by kernel_rfl) (by kernel_rfl) (by kernel_rfl) (by kernel_rfl) (by kernel_rfl) (by kernel_rfl) (fun _ _ _ h => h) (Or.inl ⟨by rfl, ?_⟩) hS ?_
              rotate_left
              focus (intro wS hSw; (try dsimp only at hSw); go_simp; (try with_reducible rfl); (try (first | (rw [if_pos (by omega)]; (try go_simp); (try with_reducible rfl)) | (rw [if_neg (by omega)]; (try go_simp); (try with_reducible rfl)))))
              try simp only [Act.put, List.setIfInBounds_toArray, List.set_cons_zero, List.set_cons_succ]
              refine wpAnyR_takeQ (i := 9) (v := ?_) (some 83) rfl rfl (by kernel_rfl) (by kernel_rfl) (by kernel_rfl) (by kernel_rfl) (fun _ _ _ h => h) (Or.inl ⟨by rfl, ?_⟩) ?_
              rotate_left
              focus (intro wS hSw; (try dsimp only at hSw); go_simp; (try with_reducible rfl); (try (first | (rw [if_pos (by omega)]; (try go_simp); (try with_reducible rfl)) | (rw [if_neg (by omega)]; (try go_simp); (try with_reducible rfl)))))
              try simp only [Act.put, List.setIfInBounds_toArray, List.set_cons_zero, List.set_cons_succ]
              refine wpAnyR_takeQ (i := 10) (v := ?_) (some 84) rfl rfl (by kernel_rfl) (by kernel_rfl) (by kernel_rfl) (by kernel_rfl) (fun _ _ _ h => h) (Or.inl ⟨by rfl, ?_⟩) ?_
              rotate_left
              focus (intro wS hSw; (try dsimp only at hSw); go_simp; (try with_reducible rfl); (try (first | (rw [if_pos (by omega)]; (try go_simp); (try with_reducible rfl)) | (rw [if_neg (by omega)]; (try go_simp); (try with_reducible rfl)))))
              try simp only [Act.put, List.setIfInBounds_toArray, List.set_cons_zero, List.set_cons_succ]
              refine wpAnyR_take (i := 11) (v := ?_) [12, 13, 14] (some 85) rfl rfl (by kernel_rfl) (by kernel_rfl) (by kernel_rfl) (by kernel_rfl) (by kernel_rfl) (by kernel_rfl) (by kernel_rfl) (fun _ _ _ h => h) (Or.inl ⟨by rfl, ?_⟩) hS ?_
              rotate_left
              focus (intro wS hSw; (try dsimp only at hSw); go_simp; (try with_reducible rfl); (try (first | (rw [if_pos (by omega)]; (try go_simp); (try with_reducible rfl)) | (rw [if_neg (by omega)]; (try go_simp); (try with_reducible rfl)))))
              try simp only [Act.put, List.setIfInBounds_toArray, List.set_cons_zero, List.set_cons_succ]
              refine wpAnyR_takeQ (i := 12) (v := ?_) (some 86) rfl rfl (by kernel_rfl) (by kernel_rfl) (by kernel_rfl) (by kernel_rfl) (fun _ _ _ h => h) (Or.inl ⟨by rfl, ?_⟩) ?_
              rotate_left
              focus (intro wS hSw; (try dsimp only at hSw); go_simp; (try with_reducible rfl); (try (first | (rw [if_pos (by omega)]; (try go_simp); (try with_reducible rfl)) | (rw [if_neg (by omega)]; (try go_simp); (try with_reducible rfl)))))
              try simp only [Act.put, List.setIfInBounds_toArray, List.set_cons_zero, List.set_cons_succ]
              refine wpAnyR_takeQ (i := 13) (v := ?_) (some 87) rfl rfl (by kernel_rfl) (by kernel_rfl) (by kernel_rfl) (by kernel_rfl) (fun _ _ _ h => h) (Or.inl ⟨by rfl, ?_⟩) ?_
              rotate_left
              focus (intro wS hSw; (try dsimp only at hSw); go_simp; (try with_reducible rfl); (try (first | (rw [if_pos (by omega)]; (try go_simp); (try with_reducible rfl)) | (rw [if_neg (by omega)]; (try go_simp); (try with_reducible rfl)))))
              try simp only [Act.put, List.setIfInBounds_toArray, List.set_cons_zero, List.set_cons_succ]
              refine wpAnyR_takeQ (i := 14) (v := ?_) (some 88) rfl rfl (by kernel_rfl) (by kernel_rfl) (by kernel_rfl) (by kernel_rfl) (fun _ _ _ h => h) (Or.inl ⟨by rfl, ?_⟩) ?_
              rotate_left
              focus (intro wS hSw; (try dsimp only at hSw); go_simp; (try with_reducible rfl); (try (first | (rw [if_pos (by omega)]; (try go_simp); (try with_reducible rfl)) | (rw [if_neg (by omega)]; (try go_simp); (try with_reducible rfl)))))
              try simp only [Act.put, List.setIfInBounds_toArray, List.set_cons_zero, List.set_cons_succ]
              refine wpAnyR_done (by kernel_rfl) ?_ _
              obtain ⟨wb, hwb⟩ : ∃ wb, wb = (w6.alloc (.cells #[.string (vbytes (I.mapL q)), .int .u32 (mq : Int), .bool true] 87)).drew := ⟨_, rfl⟩
              rw [← hwb] at HS6 HO6 HV6 HT6 HTQ6 hnb ⊢
              have ha := HV6.out.cell q
              rw [verArr_get _ _ hqt] at ha
              have hf := HV6.out.frozen q
              have hvl := HV6.out.lt
              have hn1 := hnb.cell 1
              have hnl := hnb.lt
              have hts : Turned (fun p => p = w4.heap.size + 1) wb (wb.setCell ⟨w4.heap.size + 1, q, none⟩ (.int .u32 (mq : Int))) := (Turned.refl (fun p => p = w4.heap.size + 1) wb).setCell (p := ⟨w4.heap.size + 1, q, none⟩) (fun _ => rfl) _
              have HVN : Hid (Blk (wb.setCell ⟨w4.heap.size + 1, q, none⟩ (.int .u32 (mq : Int))) (w4.heap.size + 1) 94 (verArr (mt I H true (q + 1)))) := Lib.hid ((HV6.out.set_ q (.int .u32 (mq : Int))).conv (by rw [← hmu, verArr_set]; exact verArr_congr fun p _ => (by rw [← hmq]; exact mt_good HQH.out p)))
              have HON := Lib.hid (show OwnL (wb.setCell ⟨w4.heap.size + 1, q, none⟩ (.int .u32 (mq : Int))) w4.heap.size 3 1 u13 ((badL H (q + 1)).map fun k : Nat => [.int .i64 (k : Int)]) from by rw [badL_succ, if_neg HQH.out]; exact HO6.out.notblk HV6.out (by decide) hts)
              have HTN2 := Lib.hid (HT6.out.turned hts (by omega))
              have HSN := Lib.hid (HS6.out.kept hts (by have := HLW.out; omega) (by have := HLW.out; omega))
              have HTQN := Lib.hid (HTQ6.out.trans (hts.mono fun p _ hp => .inr (by omega)))
              clear hS hwb hts hnb
              go_wp2_with fail
              go_roundg (32 - (q + 1))
              case measure => rw [HGQ.out]; omega
              case rel => exact ⟨q + 1, mx, by omega, by omega, by go_num, rfl, by omega, by omega, (fun p hp hpH => by
                by_cases hpq : p = q
                · rw [hpq, hmq]; omega
                · have := HMS.out p (by omega) hpH; omega), HON.out, HVN.out, HTN2.out, HSN.out, HTQN.out⟩
          · have hTq := HTT.out.symm.trans hTT
            try (exact absurd hTq (by decide))
            all_goals
              clear hTq
              subst hTT
              refine wp_region_R [] (fun w' : World => w'.cell? ⟨w6.heap.size, 1, none⟩ = some (.int .u32 (mq : Int)) ∧ w'.cell? ⟨w6.heap.size, 2, none⟩ = some (.bool true) ∧ w6.heap.size < w'.heap.size ∧ w'.cell? ⟨w4.heap.size, 2, none⟩ = some (.bool false) ∧ w4.heap.size < w'.heap.size ∧ w'.cell? ⟨w4.heap.size + 1, q, none⟩ = some (.int .u32 (u32 (mt I H false q q))) ∧ w4.heap.size + 1 < w'.heap.size) (by kernel_rfl) ?_
              have hS : (fun w' : World => w'.cell? ⟨w6.heap.size, 1, none⟩ = some (.int .u32 (mq : Int)) ∧ w'.cell? ⟨w6.heap.size, 2, none⟩ = some (.bool true) ∧ w6.heap.size < w'.heap.size ∧ w'.cell? ⟨w4.heap.size, 2, none⟩ = some (.bool false) ∧ w4.heap.size < w'.heap.size ∧ w'.cell? ⟨w4.heap.size + 1, q, none⟩ = some (.int .u32 (u32 (mt I H false q q))) ∧ w4.heap.size + 1 < w'.heap.size) (w6.alloc (.cells #[.string (vbytes (I.mapL q)), .int .u32 (mq : Int), .bool true] 87)).drew := ⟨hnb.cell 1, hnb.cell 2, hnb.lt, (by have := HT6.out.cell 2; rw [HCT.out] at this; exact this), HT6.out.lt, (by have := HV6.out.cell q; rw [verArr_get _ _ hqt] at this; exact this), HV6.out.lt⟩
              refine wpAnyR_takeQ (i := 0) (v := ?_) (some 74) rfl rfl (by kernel_rfl) (by kernel_rfl) (by kernel_rfl) (by kernel_rfl) (fun _ _ _ h => h) (Or.inl ⟨by rfl, ?_⟩) ?_
              rotate_left
              focus (intro wS hSw; (try dsimp only at hSw); go_simp; (try with_reducible rfl); (try (first | (rw [if_pos (by omega)]; (try go_simp); (try with_reducible rfl)) | (rw [if_neg (by omega)]; (try go_simp); (try with_reducible rfl)))))
              try simp only [Act.put, List.setIfInBounds_toArray, List.set_cons_zero, List.set_cons_succ]
              refine wpAnyR_take (i := 1) (v := ?_) [2, 3, 4, 5, 6, 7, 8, 9, 10, 11, 12, 13, 14] (some 75) rfl rfl (by kernel_rfl) (by kernel_rfl) (by kernel_rfl) (by kernel_rfl) (by kernel_rfl) (by kernel_rfl) (by kernel_rfl) (fun _ _ _ h => h) (Or.inl ⟨by rfl, ?_⟩) hS ?_
              rotate_left
              focus (intro wS hSw; (try dsimp only at hSw); go_simp; (try with_reducible rfl); (try (first | (rw [if_pos (by omega)]; (try go_simp); (try with_reducible rfl)) | (rw [if_neg (by omega)]; (try go_simp); (try with_reducible rfl)))))
              try simp only [Act.put, List.setIfInBounds_toArray, List.set_cons_zero, List.set_cons_succ]
              refine wpAnyR_takeQ (i := 2) (v := ?_) (some 76) rfl rfl (by kernel_rfl) (by kernel_rfl) (by kernel_rfl) (by kernel_rfl) (fun _ _ _ h => h) (Or.inl ⟨by rfl, ?_⟩) ?_
              rotate_left
              focus (intro wS hSw; (try dsimp only at hSw); go_simp; (try with_reducible rfl); (try (first | (rw [if_pos (by omega)]; (try go_simp); (try with_reducible rfl)) | (rw [if_neg (by omega)]; (try go_simp); (try with_reducible rfl)))))
              try simp only [Act.put, List.setIfInBounds_toArray, List.set_cons_zero, List.set_cons_succ]
              refine wpAnyR_takeQ (i := 3) (v := ?_) (some 77) rfl rfl (by kernel_rfl) (by kernel_rfl) (by kernel_rfl) (by kernel_rfl) (fun _ _ _ h => h) (Or.inl ⟨by rfl, ?_⟩) ?_
              rotate_left
              focus (intro wS hSw; (try dsimp only at hSw); go_simp; (try with_reducible rfl); (try (first | (rw [if_pos (by omega)]; (try go_simp); (try with_reducible rfl)) | (rw [if_neg (by omega)]; (try go_simp); (try with_reducible rfl)))))
              try simp only [Act.put, List.setIfInBounds_toArray, List.set_cons_zero, List.set_cons_succ]
              refine wpAnyR_takeQ (i := 4) (v := ?_) (some 78) rfl rfl (by kernel_rfl) (by kernel_rfl) (by kernel_rfl) (by kernel_rfl) (fun _ _ _ h => h) (Or.inl ⟨by rfl, ?_⟩) ?_
              rotate_left
              focus (intro wS hSw; (try dsimp only at hSw); go_simp; (try with_reducible rfl); (try (first | (rw [if_pos (by omega)]; (try go_simp); (try with_reducible rfl)) | (rw [if_neg (by omega)]; (try go_simp); (try with_reducible rfl)))))
              try simp only [Act.put, List.setIfInBounds_toArray, List.set_cons_zero, List.set_cons_succ]
              refine wpAnyR_take (i := 5) (v := ?_) [6, 7, 8, 9, 10, 11, 12, 13, 14] (some 79) rfl rfl (by kernel_rfl) (by kernel_rfl) (by kernel_rfl) (by kernel_rfl) (by kernel_rfl) (by kernel_rfl) (by kernel_rfl) (fun _ _ _ h => h) (Or.inl ⟨by rfl, ?_⟩) hS ?_
              rotate_left
              focus (intro wS hSw; (try dsimp only at hSw); go_simp; (try with_reducible rfl); (try (first | (rw [if_pos (by omega)]; (try go_simp); (try with_reducible rfl)) | (rw [if_neg (by omega)]; (try go_simp); (try with_reducible rfl)))))
              try simp only [Act.put, List.setIfInBounds_toArray, List.set_cons_zero, List.set_cons_succ]
              refine wpAnyR_takeQ (i := 6) (v := ?_) (some 80) rfl rfl (by kernel_rfl) (by kernel_rfl) (by kernel_rfl) (by kernel_rfl) (fun _ _ _ h => h) (Or.inl ⟨by rfl, ?_⟩) ?_
              rotate_left
              focus (intro wS hSw; (try dsimp only at hSw); go_simp; (try with_reducible rfl); (try (first | (rw [if_pos (by omega)]; (try go_simp); (try with_reducible rfl)) | (rw [if_neg (by omega)]; (try go_simp); (try with_reducible rfl)))))
              try simp only [Act.put, List.setIfInBounds_toArray, List.set_cons_zero, List.set_cons_succ]
              refine wpAnyR_takeQ (i := 7) (v := undef) (some 81) rfl rfl (by kernel_rfl) (by kernel_rfl) (by kernel_rfl) (by kernel_rfl) (fun _ _ _ h => h) (Or.inr ⟨by rfl, rfl⟩) ?_
              try simp only [Act.put, List.setIfInBounds_toArray, List.set_cons_zero, List.set_cons_succ]
              refine wpAnyR_takeQ (i := 8) (v := undef) (some 82) rfl rfl (by kernel_rfl) (by kernel_rfl) (by kernel_rfl) (by kernel_rfl) (fun _ _ _ h => h) (Or.inr ⟨by rfl, rfl⟩) ?_
              try simp only [Act.put, List.setIfInBounds_toArray, List.set_cons_zero, List.set_cons_succ]
              refine wpAnyR_takeQ (i := 9) (v := undef) (some 83) rfl rfl (by kernel_rfl) (by kernel_rfl) (by kernel_rfl) (by kernel_rfl) (fun _ _ _ h => h) (Or.inr ⟨by rfl, rfl⟩) ?_
              try simp only [Act.put, List.setIfInBounds_toArray, List.set_cons_zero, List.set_cons_succ]
              refine wpAnyR_takeQ (i := 10) (v := undef) (some 84) rfl rfl (by kernel_rfl) (by kernel_rfl) (by kernel_rfl) (by kernel_rfl) (fun _ _ _ h => h) (Or.inr ⟨by rfl, rfl⟩) ?_
              try simp only [Act.put, List.setIfInBounds_toArray, List.set_cons_zero, List.set_cons_succ]
              refine wpAnyR_takeQ (i := 11) (v := undef) (some 85) rfl rfl (by kernel_rfl) (by kernel_rfl) (by kernel_rfl) (by kernel_rfl) (fun _ _ _ h => h) (Or.inr ⟨by rfl, rfl⟩) ?_
              try simp only [Act.put, List.setIfInBounds_toArray, List.set_cons_zero, List.set_cons_succ]
              refine wpAnyR_takeQ (i := 12) (v := undef) (some 86) rfl rfl (by kernel_rfl) (by kernel_rfl) (by kernel_rfl) (by kernel_rfl) (fun _ _ _ h => h) (Or.inr ⟨by rfl, rfl⟩) ?_
              try simp only [Act.put, List.setIfInBounds_toArray, List.set_cons_zero, List.set_cons_succ]
              refine wpAnyR_takeQ (i := 13) (v := ?_) (some 87) rfl rfl (by kernel_rfl) (by kernel_rfl) (by kernel_rfl) (by kernel_rfl) (fun _ _ _ h => h) (Or.inl ⟨by rfl, ?_⟩) ?_
              rotate_left
              focus (intro wS hSw; (try dsimp only at hSw); go_simp; (try with_reducible rfl); (try (first | (rw [if_pos (by omega)]; (try go_simp); (try with_reducible rfl)) | (rw [if_neg (by omega)]; (try go_simp); (try with_reducible rfl)))))
              try simp only [Act.put, List.setIfInBounds_toArray, List.set_cons_zero, List.set_cons_succ]
              refine wpAnyR_takeQ (i := 14) (v := ?_) (some 88) rfl rfl (by kernel_rfl) (by kernel_rfl) (by kernel_rfl) (by kernel_rfl) (fun _ _ _ h => h) (Or.inl ⟨by rfl, ?_⟩) ?_
              rotate_left
              focus (intro wS hSw; (try dsimp only at hSw); go_simp; (try with_reducible rfl); (try (first | (rw [if_pos (by omega)]; (try go_simp); (try with_reducible rfl)) | (rw [if_neg (by omega)]; (try go_simp); (try with_reducible rfl)))))
              try simp only [Act.put, List.setIfInBounds_toArray, List.set_cons_zero, List.set_cons_succ]
              refine wpAnyR_done (by kernel_rfl) ?_ _
              obtain ⟨wb, hwb⟩ : ∃ wb, wb = (w6.alloc (.cells #[.string (vbytes (I.mapL q)), .int .u32 (mq : Int), .bool true] 87)).drew := ⟨_, rfl⟩
              rw [← hwb] at HS6 HO6 HV6 HT6 HTQ6 hnb ⊢
              have ha := HV6.out.cell q
              rw [verArr_get _ _ hqt] at ha
              have hf := HV6.out.frozen q
              have hvl := HV6.out.lt
              have hn1 := hnb.cell 1
              have hnl := hnb.lt
              have hts : Turned (fun p => p = w4.heap.size + 1) wb (wb.setCell ⟨w4.heap.size + 1, q, none⟩ (.int .u32 (mq : Int))) := (Turned.refl (fun p => p = w4.heap.size + 1) wb).setCell (p := ⟨w4.heap.size + 1, q, none⟩) (fun _ => rfl) _
              have HVN : Hid (Blk (wb.setCell ⟨w4.heap.size + 1, q, none⟩ (.int .u32 (mq : Int))) (w4.heap.size + 1) 94 (verArr (mt I H false (q + 1)))) := Lib.hid ((HV6.out.set_ q (.int .u32 (mq : Int))).conv (by rw [← hmu, verArr_set]; exact verArr_congr fun p _ => (by rw [← hmq]; exact mt_good HQH.out p)))
              have HON := Lib.hid (show OwnL (wb.setCell ⟨w4.heap.size + 1, q, none⟩ (.int .u32 (mq : Int))) w4.heap.size 3 1 u13 ((badL H (q + 1)).map fun k : Nat => [.int .i64 (k : Int)]) from by rw [badL_succ, if_neg HQH.out]; exact HO6.out.notblk HV6.out (by decide) hts)
              have HTN2 := Lib.hid (HT6.out.turned hts (by omega))
              have HSN := Lib.hid (HS6.out.kept hts (by have := HLW.out; omega) (by have := HLW.out; omega))
              have HTQN := Lib.hid (HTQ6.out.trans (hts.mono fun p _ hp => .inr (by omega)))
              clear hS hwb hts hnb
              go_wp2_with fail
              go_roundg (32 - (q + 1))
              case measure => rw [HGQ.out]; omega
              case rel => exact ⟨q + 1, mx, by omega, by omega, by go_num, rfl, by omega, by omega, (fun p hp hpH => by
                by_cases hpq : p = q
                · rw [hpq, hmq]; omega
                · have := HMS.out p (by omega) hpH; omega), HON.out, HVN.out, HTN2.out, HSN.out, HTQN.out⟩
      · obtain rfl : q = 32 := by omega
        have hbl := badL_len H 32
        obtain ⟨Bb, cb, rfl, _, _, _⟩ := HOW.out.listAt
        have hml : ((badL H 32).map fun k : Nat => [Value.int .i64 (k : Int)]).length = (badL H 32).length := List.length_map ..
        rw [hml] at HOW ⊢
        have t2 := HBT.out.cell 2
        rw [HCT.out] at t2
        have tl := HBT.out.lt
        have HB9 : Hid (Beside w0 out W wr) := Lib.hid (HB4.out.next HTQ.out (fun p hp h9 => by
          rcases h9 with h9 | h9
          · exact absurd hp (by have := HSM.out.2; omega)
          · exact absurd hp (by have := HB4.out.size; omega)))
        by_cases hdone : T = true ∧ badL H 32 = []
        · obtain ⟨hd1, hd2⟩ := hdone
          have hTq := HTT.out.symm.trans hd1
          try (exact absurd hTq (by decide))
          all_goals
            have hb0 : ((badL H 32).length : Int) = 0 := by rw [hd2]; rfl
            have HX : Hid (badL H 32 = [] ∧ 0 ∉ H) := Lib.hid ⟨hd2, fun h9 => by have := HTE.out; rw [decide_eq_true h9, hd1] at this; cases this⟩
            have hb1 : (((badL H 32).length : Int) == 0) = true := by rw [hb0]; rfl
            clear hTq hd1 hd2 hb0
            go_wp2_with fail
            go_ret2
            exact ⟨0, D, rfl, HHQ.out.live.few (fun p hp => .inl (.inl hp)), HB9.out, .inl ⟨rfl, HX.out.1, HX.out.2, rfl⟩⟩
        · have hb1 : T = true → (((badL H 32).length : Int) == 0) = false := fun hT => by
            rw [beq_eq_false_iff_ne]
            intro h9
            exact hdone ⟨hT, List.length_eq_zero_iff.1 (by omega)⟩
          have HX : Hid (¬ (badL H 32 = [] ∧ 0 ∉ H)) := Lib.hid (fun h9 => hdone ⟨by rw [HTE.out, decide_eq_false h9.2]; rfl, h9.1⟩)
          rw [HTT.out] at hb1
          try (have hb2 := hb1 rfl)
          clear hb1
          clear hdone
          have hmk := made_own wr
          have hga : Grew wr (wr.alloc (.cells (ownArr fun _ => 0#32) 22)) := (Grew.refl wr).alloc _
          have HHM := Lib.hid (HHQ.out.grew hga)
          have HSE := Lib.hid (sectors_any' HHM.out)
          rw [show (D.st.length : Int) - 131 = (n : Int) from by have := HU.out.len; have := HNN.out; omega] at HSE
          have hgO : wr.heap.size < (wr.alloc (.cells (ownArr fun _ => 0#32) 22)).heap.size := by simp
          obtain ⟨gO, hgO2⟩ : ∃ g, g = wr.heap.size := ⟨_, rfl⟩
          have HBO : Hid (Blk (wr.alloc (.cells (ownArr fun _ => 0#32) 22)) gO 22 (ownArr fun p => nv (if p < 0 then I.ownV p else 0))) := Lib.hid (by rw [hgO2]; exact Blk.new wr _ _ rfl)
          have HVa := Lib.hid (HBV.out.grew hga)
          have HOa := Lib.hid (HOW.out.grew hga)
          have HSa := Lib.hid (HHQ.out.store.grew hga)
          have HTa := Lib.hid (HTQ.out.andGrew hga)
          have h4O : w4.heap.size + 1 < gO := by rw [hgO2]; exact HBV.out.lt
          clear hga hgO
          go_wp2_with fail
          refine HSE.out.mono ?_
          rintro e wc ⟨rfl, gc⟩
          have HBc := Lib.hid (HBO.out.grew gc)
          have HVc := Lib.hid (HVa.out.grew gc)
          have HOc := Lib.hid (HOa.out.grew gc)
          have HSc := Lib.hid (HSa.out.grew gc)
          have HTc := Lib.hid (HTa.out.andGrew gc)
          rw [← hgO2]
          clear gc hmk hgO2
          obtain ⟨wo, hwo⟩ : ∃ wo : World, wo = wr := ⟨_, rfl⟩
          subst hwo
          go_wp2_with fail
          go_loopg [12, 108] n (fun g2 hv' i' wr => ∃ (i h2 : Nat), i ≤ n ∧ g2 = n - i ∧ i' = .int .i64 i ∧ hv' = .int .u32 (h2 : Int) ∧ hv ≤ h2 ∧ h2 ≤ I.N ∧ (∀ p, p < i → I.vs p ≤ h2) ∧ Blk wr gO 22 (ownArr fun p => nv (if p < i then I.ownV p else 0)) ∧ Blk wr (w4.heap.size + 1) 94 (verArr (mt I H T 32)) ∧ OwnL wr w4.heap.size 3 1 (.slice Bb (badL H 32).length cb) ((badL H 32).map fun k : Nat => [.int .i64 (k : Int)]) ∧ StoreM wr s m x sy 0 ∧ Turned (fun p => p = m ∨ w4.heap.size ≤ p) w4 wr)
          case atStart => exact ⟨0, hv, by omega, by omega, rfl, rfl, Nat.le_refl _, hv2, (fun p hp => absurd hp (by omega)), HBc.out, HVc.out, HOc.out, HSc.out, HTc.out⟩
          case round =>
            obtain ⟨i, h2, hi, hg2, rfl, rfl, hh1, hh2, hvs, hbo, hbv, hown, hst, htt⟩ := hrel
            have hhi := HH4U.out.up HLW.out.1 HLW.out.2 htt hst
            have HG2 := Lib.hid hg2
            have HVS := Lib.hid hvs
            have HBO2 := Lib.hid hbo
            have HBV2 := Lib.hid hbv
            have HOW2 := Lib.hid hown
            have HHI := Lib.hid hhi
            have HTT2 := Lib.hid htt
            clear hg2 hvs hbo hbv hown hst htt hhi
            by_cases hit : i < n
            · have hii : (i : Int) < (n : Int) := by omega
              have hrq := read_any' HHI.out (131 + (i : Int)) (by unfold okI; omega)
              rw [readR_dat HU.out i (by rw [HNN.out]; exact hit), HU.out.datY i (by rw [HNN.out]; exact hit)] at hrq
              have HRQ := Lib.hid hrq
              obtain ⟨vq, hvq⟩ : ∃ vq, I.vs i = vq := ⟨_, rfl⟩
              obtain ⟨cq, hcq⟩ : ∃ cq, I.cs i = cq := ⟨_, rfl⟩
              rw [hvq, hcq] at HRQ
              have hmN : vq ≤ I.N := by rw [← hvq]; exact HU.out.img.vs i
              have hmu : u32 (nv vq) = (vq : Int) := by unfold u32; rw [nv_toNat _ (by omega)]
              obtain ⟨mx, hmx⟩ : ∃ mx : Nat, max h2 vq = mx := ⟨_, rfl⟩
              have hmxi : max (h2 : Int) (vq : Int) = (mx : Int) := by omega
              clear hrq hcq
              go_wp2_with fail
              refine HRQ.out.mono ?_
              rintro e w6 ⟨rfl, hlk⟩
              unfold rawV
              simp only [hmu]
              have hg6 : Grew w6 (w6.alloc (.cells #[.string cq, .int .u32 (vq : Int), .bool true] 87)).drew := ((Grew.refl w6).alloc _).drew
              have HS6 := Lib.hid (hlk.store.grew hg6)
              have HO6 := Lib.hid ((HOW2.out.seen2 HHI.out hlk).grew hg6)
              have HV6 := Lib.hid ((HBV2.out.seen2 HHI.out hlk).grew hg6)
              have hb6 := (HBO2.out.seen2 HHI.out hlk).grew hg6
              have HTQ6 := Lib.hid ((HTT2.out.trans (hlk.turned.mono fun p _ hp => .inl hp)).andGrew hg6)
              have hnb : Blk (w6.alloc (.cells #[.string cq, .int .u32 (vq : Int), .bool true] 87)).drew w6.heap.size 87 #[.string cq, .int .u32 (vq : Int), .bool true] := (Blk.new w6 _ _ rfl).drew
              have hO6 : gO < w6.heap.size := Nat.lt_of_lt_of_le HBO2.out.lt hlk.turned.size
              clear hlk hg6
              go_wp2_with fail
              refine wp_region_R [] (fun w' : World => w'.cell? ⟨w6.heap.size, 1, none⟩ = some (.int .u32 (vq : Int)) ∧ w6.heap.size < w'.heap.size) (by kernel_rfl) ?_
              have hS : (fun w' : World => w'.cell? ⟨w6.heap.size, 1, none⟩ = some (.int .u32 (vq : Int)) ∧ w6.heap.size < w'.heap.size) (w6.alloc (.cells #[.string cq, .int .u32 (vq : Int), .bool true] 87)).drew := ⟨hnb.cell 1, hnb.lt⟩
              refine wpAnyR_takeQ (i := 0) (v := ?_) (some 121) rfl rfl (by kernel_rfl) (by kernel_rfl) (by kernel_rfl) (by kernel_rfl) (fun _ _ _ h => h) (Or.inl ⟨by rfl, ?_⟩) ?_
              rotate_left
              focus (intro wS hSw; (try dsimp only at hSw); go_simp; (try with_reducible rfl); (try (first | (rw [if_pos (by omega)]; (try go_simp); (try with_reducible rfl)) | (rw [if_neg (by omega)]; (try go_simp); (try with_reducible rfl)))))
              try simp only [Act.put, List.setIfInBounds_toArray, List.set_cons_zero, List.set_cons_succ]
              refine wpAnyR_takeQ (i := 1) (v := ?_) (some 122) rfl rfl (by kernel_rfl) (by kernel_rfl) (by kernel_rfl) (by kernel_rfl) (fun _ _ _ h => h) (Or.inl ⟨by rfl, ?_⟩) ?_
              rotate_left
              focus (intro wS hSw; (try dsimp only at hSw); go_simp; (try with_reducible rfl); (try (first | (rw [if_pos (by omega)]; (try go_simp); (try with_reducible rfl)) | (rw [if_neg (by omega)]; (try go_simp); (try with_reducible rfl)))))
              try simp only [Act.put, List.setIfInBounds_toArray, List.set_cons_zero, List.set_cons_succ]
              refine wpAnyR_takeQ (i := 2) (v := ?_) (some 123) rfl rfl (by kernel_rfl) (by kernel_rfl) (by kernel_rfl) (by kernel_rfl) (fun _ _ _ h => h) (Or.inl ⟨by rfl, ?_⟩) ?_
              rotate_left
              focus (intro wS hSw; (try dsimp only at hSw); go_simp; (try with_reducible rfl); (try (first | (rw [if_pos (by omega)]; (try go_simp); (try with_reducible rfl)) | (rw [if_neg (by omega)]; (try go_simp); (try with_reducible rfl)))))
              try simp only [Act.put, List.setIfInBounds_toArray, List.set_cons_zero, List.set_cons_succ]
              refine wpAnyR_take (i := 3) (v := ?_) [8, 9, 10] (some 124) rfl rfl (by kernel_rfl) (by kernel_rfl) (by kernel_rfl) (by kernel_rfl) (by kernel_rfl) (by kernel_rfl) (by kernel_rfl) (fun _ _ _ h => h) (Or.inl ⟨by rfl, ?_⟩) hS ?_
              rotate_left
              focus (intro wS hSw; (try dsimp only at hSw); go_simp; (try with_reducible rfl); (try (first | (rw [if_pos (by omega)]; (try go_simp); (try with_reducible rfl)) | (rw [if_neg (by omega)]; (try go_simp); (try with_reducible rfl)))))
              try simp only [Act.put, List.setIfInBounds_toArray, List.set_cons_zero, List.set_cons_succ]
              refine wpAnyR_takeQ (i := 4) (v := ?_) (some 125) rfl rfl (by kernel_rfl) (by kernel_rfl) (by kernel_rfl) (by kernel_rfl) (fun _ _ _ h => h) (Or.inl ⟨by rfl, ?_⟩) ?_
              rotate_left
              focus (intro wS hSw; (try dsimp only at hSw); go_simp; (try with_reducible rfl); (try (first | (rw [if_pos (by omega)]; (try go_simp); (try with_reducible rfl)) | (rw [if_neg (by omega)]; (try go_simp); (try with_reducible rfl)))))
              try simp only [Act.put, List.setIfInBounds_toArray, List.set_cons_zero, List.set_cons_succ]
              refine wpAnyR_takeQ (i := 5) (v := ?_) (some 126) rfl rfl (by kernel_rfl) (by kernel_rfl) (by kernel_rfl) (by kernel_rfl) (fun _ _ _ h => h) (Or.inl ⟨by rfl, ?_⟩) ?_
              rotate_left
              focus (intro wS hSw; (try dsimp only at hSw); go_simp; (try with_reducible rfl); (try (first | (rw [if_pos (by omega)]; (try go_simp); (try with_reducible rfl)) | (rw [if_neg (by omega)]; (try go_simp); (try with_reducible rfl)))))
              try simp only [Act.put, List.setIfInBounds_toArray, List.set_cons_zero, List.set_cons_succ]
              refine wpAnyR_take (i := 6) (v := ?_) [7, 10] (some 127) rfl rfl (by kernel_rfl) (by kernel_rfl) (by kernel_rfl) (by kernel_rfl) (by kernel_rfl) (by kernel_rfl) (by kernel_rfl) (fun _ _ _ h => h) (Or.inl ⟨by rfl, ?_⟩) hS ?_
              rotate_left
              focus (intro wS hSw; (try dsimp only at hSw); go_simp; (try with_reducible rfl); (try (first | (rw [if_pos (by omega)]; (try go_simp); (try with_reducible rfl)) | (rw [if_neg (by omega)]; (try go_simp); (try with_reducible rfl)))))
              try simp only [Act.put, List.setIfInBounds_toArray, List.set_cons_zero, List.set_cons_succ]
              refine wpAnyR_takeQ (i := 7) (v := ?_) (some 128) rfl rfl (by kernel_rfl) (by kernel_rfl) (by kernel_rfl) (by kernel_rfl) (fun _ _ _ h => h) (Or.inl ⟨by rfl, ?_⟩) ?_
              rotate_left
              focus (intro wS hSw; (try dsimp only at hSw); go_simp; (try with_reducible rfl); (try (first | (rw [if_pos (by omega)]; (try go_simp); (try with_reducible rfl)) | (rw [if_neg (by omega)]; (try go_simp); (try with_reducible rfl)))))
              try simp only [Act.put, List.setIfInBounds_toArray, List.set_cons_zero, List.set_cons_succ]
              refine wpAnyR_takeQ (i := 8) (v := ?_) (some 129) rfl rfl (by kernel_rfl) (by kernel_rfl) (by kernel_rfl) (by kernel_rfl) (fun _ _ _ h => h) (Or.inl ⟨by rfl, ?_⟩) ?_
              rotate_left
              focus (intro wS hSw; (try dsimp only at hSw); go_simp; (try with_reducible rfl); (try (first | (rw [if_pos (by omega)]; (try go_simp); (try with_reducible rfl)) | (rw [if_neg (by omega)]; (try go_simp); (try with_reducible rfl)))))
              try simp only [Act.put, List.setIfInBounds_toArray, List.set_cons_zero, List.set_cons_succ]
              obtain ⟨wb, hwb⟩ : ∃ wb, wb = (w6.alloc (.cells #[.string cq, .int .u32 (vq : Int), .bool true] 87)).drew := ⟨_, rfl⟩
              rw [← hwb] at HS6 HO6 HV6 HTQ6 hb6 hnb hS ⊢
              have ha := hb6.cell i
              rw [ownArr_get _ _ (by omega)] at ha
              have hf := hb6.frozen i
              have hvl := hb6.lt
              have hts : Turned (fun p => p = gO) wb (wb.setCell ⟨gO, i, none⟩ (.int .u32 (vq : Int))) := (Turned.refl (fun p => p = gO) wb).setCell (p := ⟨gO, i, none⟩) (fun _ => rfl) _
              have HBN : Hid (Blk (wb.setCell ⟨gO, i, none⟩ (.int .u32 (vq : Int))) gO 22 (ownArr fun p => nv (if p < i + 1 then I.ownV p else 0))) := Lib.hid ((hb6.set_ i (.int .u32 (vq : Int))).conv (by
                rw [← hmu]
                refine ownArr_set _ _ _ _ ?_ (fun p _ hp => ?_)
                · rw [if_pos (by omega)]
                  unfold Img.ownV
                  rw [if_pos (by rw [HNN.out]; exact hit), hvq]
                · have : (p < i + 1) ↔ (p < i) := by omega
                  simp [this]))
              have HON := Lib.hid (HO6.out.notblk hb6 (by decide) hts)
              have HVN := Lib.hid (HV6.out.turned hts (by omega))
              have HSN := Lib.hid (HS6.out.kept hts (by have := HLW.out; omega) (by have := HLW.out; omega))
              have HTQN := Lib.hid (HTQ6.out.trans (hts.mono fun p _ hp => .inr (by omega)))
              have hSn : (fun w' : World => w'.cell? ⟨w6.heap.size, 1, none⟩ = some (.int .u32 (vq : Int)) ∧ w6.heap.size < w'.heap.size) (wb.setCell ⟨gO, i, none⟩ (.int .u32 (vq : Int))) := ⟨(hnb.turned hts (by omega)).cell 1, (hnb.turned hts (by omega)).lt⟩
              clear hwb hts hnb
              refine wpAnyR_n1 (i := 9) rfl (by kernel_rfl) ?_
              intro K' hK
              rw [if_pos (by rfl)]
              simp only [List.getElem_toArray, List.getElem_cons_succ, List.getElem_cons_zero]
              go_wp2_with fail
              refine hK.out _ _ (.inr (fun _ => hSn)) ?_
              clear hK hS
              have hS := hSn
              refine wpAnyR_takeQ (i := 10) (v := ?_) (some 12) rfl rfl (by kernel_rfl) (by kernel_rfl) (by kernel_rfl) (by kernel_rfl) (fun _ _ _ h => h) (Or.inl ⟨by rfl, ?_⟩) ?_
              rotate_left
              focus (intro wS hSw; (try dsimp only at hSw); go_simp; (try with_reducible rfl); (try (first | (rw [if_pos (by omega)]; (try go_simp); (try with_reducible rfl)) | (rw [if_neg (by omega)]; (try go_simp); (try with_reducible rfl)))))
              try simp only [Act.put, List.setIfInBounds_toArray, List.set_cons_zero, List.set_cons_succ]
              refine wpAnyR_done (by kernel_rfl) ?_ _
              clear hS hSn
              go_wp2_with fail
              go_roundg (n - (i + 1))
              case measure => rw [HG2.out]; omega
              case rel => exact ⟨i + 1, mx, by omega, by omega, by go_num, rfl, by omega, by omega, (fun p hp => by
                by_cases hpq : p = i
                · rw [hpq, hvq]; omega
                · have := HVS.out p (by omega); omega), HBN.out, HVN.out, HON.out, HSN.out, HTQN.out⟩
            · obtain rfl : i = n := by omega
              obtain ⟨v, hv9⟩ : ∃ v, h2 + 1 = v := ⟨_, rfl⟩
              have hvi : (h2 : Int) + 1 = (v : Int) := by omega
              have hv32 : v < 4294967296 := by omega
              have hvu : u32 (nv v) = (v : Int) := by unfold u32; rw [nv_toNat _ hv32]
              have hgr1 : ((h2 : Int) == 4294967295) = false := by rw [beq_eq_false_iff_ne]; omega
              have hwv : IntKind.u32.wrap ((h2 : Int) + 1) = (v : Int) := by rw [hvi]; exact IntWalk.u32_in _ (by omega)
              have hms : ∀ k, k < 32 → 1 + k ∉ H → I.ms k ≤ v := fun k hk hkH => by have := HMS.out k hk hkH; omega
              have hvs : ∀ p, p < I.n → I.vs p ≤ v := fun p hp => by rw [HNN.out] at hp; have := HVS.out p hp; omega
              obtain ⟨E, hrun, hcl, hfe, hfu⟩ := mend_clean HU.out hs v hv32 hms hvs
              have HME := Lib.hid hrun
              have HMC := Lib.hid (And.intro hcl (And.intro hfe hfu))
              have hbo := HBO2.out.conv (ds := ownArr fun p => nv (I.ownV p)) (by
                unfold ownArr
                congr 1
                apply List.map_congr_left
                intro p _
                show Value.int .u32 (u32 (nv (if p < i then I.ownV p else 0))) = Value.int .u32 (u32 (nv (I.ownV p)))
                unfold Img.ownV
                by_cases hp : p < i
                · rw [if_pos hp]
                · rw [if_neg hp, if_neg (by rw [HNN.out]; exact hp)])
              have HBO3 := Lib.hid hbo
              have HS3 := Lib.hid HHI.out.store
              have HB3v : Hid (Blk wr (w4.heap.size + 1) 94 (verArr (mS I H T v 0))) := Lib.hid (HBV2.out.conv (verArr_congr fun p _ => by unfold mS; rw [List.take_zero, if_neg List.not_mem_nil]))
              clear hrun hcl hfe hfu hbo hms hvs
              obtain ⟨wp, hwp⟩ : ∃ wp : World, wp = wr := ⟨_, rfl⟩
              subst hwp
              go_wp2_with fail
              go_loopg [22, 137] (badL H 32).length (fun g3 u i' wr => ∃ (j : Nat) (vs : List Value), j ≤ (badL H 32).length ∧ g3 = (badL H 32).length - j ∧ i' = .int .i64 j ∧ OwnL wr w4.heap.size 104 1 u (vs.map fun v => [v]) ∧ PutsAt wr w4.heap.size s (mL I H v j) vs ∧ Blk wr (w4.heap.size + 1) 94 (verArr (mS I H T v j)) ∧ Blk wr gO 22 (ownArr fun p => nv (I.ownV p)) ∧ OwnL wr w4.heap.size 3 1 (.slice Bb (badL H 32).length cb) ((badL H 32).map fun k : Nat => [.int .i64 (k : Int)]) ∧ StoreM wr s m x sy 0 ∧ Turned (fun p => p = m ∨ w4.heap.size ≤ p) w4 wr)
              case atStart => exact ⟨0, [], by omega, by omega, rfl, OwnL.nil .., PutsAt.nil .., HB3v.out, HBO3.out, HOW2.out, HS3.out, HTT2.out⟩
              case round =>
                obtain ⟨j, vs, hj, hgj, rfl, hown, hpa, hbv, hbo, hoi, hst, htt⟩ := hrel
                have HGJ := Lib.hid hgj
                have HOW4 := Lib.hid hown
                have HPA4 := Lib.hid hpa
                have HBV4 := Lib.hid hbv
                have HBO4 := Lib.hid hbo
                have HOI4 := Lib.hid hoi
                have HST4 := Lib.hid hst
                have HTT4 := Lib.hid htt
                clear hgj hown hpa hbv hbo hoi hst htt
                by_cases hjt : j < (badL H 32).length
                · have hji : (j : Int) < ((badL H 32).length : Int) := by omega
                  obtain ⟨bb, off, rfl, bl, ck⟩ := intN_at (own_at HOI4.out) hjt
                  have hmem := (badL_mem H 32 _).1 (List.getElem_mem hjt)
                  have hmls := mL_succ I H v j hjt
                  have hmss := mS_succ I H T v j hjt
                  obtain ⟨kk, hkk⟩ : ∃ kk, (badL H 32)[j] = kk := ⟨_, rfl⟩
                  rw [hkk] at ck hmem hmls hmss
                  have hk32 : kk < 32 := hmem.1
                  have hki : (kk : Int) < 32 := by omega
                  obtain ⟨z, hz⟩ : ∃ z, 32 * kk = z := ⟨_, rfl⟩
                  have hkm : (kk : Int) * 32 = (z : Int) := by omega
                  have hz1 : (z : Int) ≤ 1024 := by omega
                  have hz2 : ¬ (1024 = z) := by omega
                  have hwz : IntKind.i64.wrap (z : Int) = (z : Int) := IntWalk.i64_in _ (by omega)
                  have HCO := Lib.hid (fun (w : World) (hb : Blk w gO 22 (ownArr fun p => nv (I.ownV p))) (hm : Blk w wr.heap.size 94 (verArr fun _ => 0#32)) (ty : TypeId) => copy_own hb hm hk32 ty)
                  rw [hz] at HCO
                  have HZ := Lib.hid hz
                  clear hz
                  have HLS := Lib.hid hmls
                  have HSS := Lib.hid hmss
                  have hzz2 := zero_ver
                  clear hmls hmss hmem hkk
                  obtain ⟨wq, hwq⟩ : ∃ wq : World, wq = wr := ⟨_, rfl⟩
                  subst hwq
                  have hgm : Grew wq (wq.alloc (.cells (verArr fun _ => 0#32) 94)).drew := ((Grew.refl wq).alloc _).drew
                  have hbm : Blk (wq.alloc (.cells (verArr fun _ => 0#32) 94)).drew wq.heap.size 94 (verArr fun _ => 0#32) := (Blk.new wq _ _ rfl).drew
                  have hbo5 := HBO4.out.grew hgm
                  go_wp2_with fail
                  refine wp_region_R [] (fun w' : World => True) (by kernel_rfl) ?_
                  have hS := trivial
                  refine wpAnyR_takeQ (i := 0) (v := ?_) (some 141) rfl rfl (by kernel_rfl) (by kernel_rfl) (by kernel_rfl) (by kernel_rfl) (fun _ _ _ h => h) (Or.inl ⟨by rfl, ?_⟩) ?_
                  rotate_left
                  focus (intro wS hSw; (try dsimp only at hSw); go_simp; (try with_reducible rfl); (try (first | (rw [if_pos (by omega)]; (try go_simp); (try with_reducible rfl)) | (rw [if_neg (by omega)]; (try go_simp); (try with_reducible rfl)))))
                  try simp only [Act.put, List.setIfInBounds_toArray, List.set_cons_zero, List.set_cons_succ]
                  refine wpAnyR_takeQ (i := 1) (v := ?_) (some 142) rfl rfl (by kernel_rfl) (by kernel_rfl) (by kernel_rfl) (by kernel_rfl) (fun _ _ _ h => h) (Or.inl ⟨by rfl, ?_⟩) ?_
                  rotate_left
                  focus (intro wS hSw; (try dsimp only at hSw); go_simp; (try with_reducible rfl); (try (first | (rw [if_pos (by omega)]; (try go_simp); (try with_reducible rfl)) | (rw [if_neg (by omega)]; (try go_simp); (try with_reducible rfl)))))
                  try simp only [Act.put, List.setIfInBounds_toArray, List.set_cons_zero, List.set_cons_succ]
                  refine wpAnyR_takeQ (i := 2) (v := ?_) (some 143) rfl rfl (by kernel_rfl) (by kernel_rfl) (by kernel_rfl) (by kernel_rfl) (fun _ _ _ h => h) (Or.inl ⟨by rfl, ?_⟩) ?_
                  rotate_left
                  focus (intro wS hSw; (try dsimp only at hSw); go_simp; (try with_reducible rfl); (try (first | (rw [if_pos (by omega)]; (try go_simp); (try with_reducible rfl)) | (rw [if_neg (by omega)]; (try go_simp); (try with_reducible rfl)))))
                  try simp only [Act.put, List.setIfInBounds_toArray, List.set_cons_zero, List.set_cons_succ]
                  refine wpAnyR_takeQ (i := 3) (v := ?_) (some 144) rfl rfl (by kernel_rfl) (by kernel_rfl) (by kernel_rfl) (by kernel_rfl) (fun _ _ _ h => h) (Or.inl ⟨by rfl, ?_⟩) ?_
                  rotate_left
                  focus (intro wS hSw; (try dsimp only at hSw); go_simp; (try with_reducible rfl); (try (first | (rw [if_pos (by omega)]; (try go_simp); (try with_reducible rfl)) | (rw [if_neg (by omega)]; (try go_simp); (try with_reducible rfl)))))
                  try simp only [Act.put, List.setIfInBounds_toArray, List.set_cons_zero, List.set_cons_succ]
                  refine wpAnyR_takeQ (i := 4) (v := ?_) (some 145) rfl rfl (by kernel_rfl) (by kernel_rfl) (by kernel_rfl) (by kernel_rfl) (fun _ _ _ h => h) (Or.inl ⟨by rfl, ?_⟩) ?_
                  rotate_left
                  focus (intro wS hSw; (try dsimp only at hSw); go_simp; (try with_reducible rfl); (try (first | (rw [if_pos (by omega)]; (try go_simp); (try with_reducible rfl)) | (rw [if_neg (by omega)]; (try go_simp); (try with_reducible rfl)))))
                  try simp only [Act.put, List.setIfInBounds_toArray, List.set_cons_zero, List.set_cons_succ]
                  have hcr := fun (ty : TypeId) => HCO.out _ hbo5 hbm ty
                  refine wpAnyR_n1 (i := 5) rfl (by kernel_rfl) ?_
                  intro K' hK
                  rw [if_pos (by rfl)]
                  simp only [List.getElem_toArray, List.getElem_cons_succ, List.getElem_cons_zero]
                  go_wp2_with fail
                  refine hK.out _ _ (.inr id) ?_
                  clear hK hcr hS
                  refine wpAnyR_done (by kernel_rfl) ?_ _
                  have hq4 : w4.heap.size + 1 < wq.heap.size := HBV4.out.lt
                  have hgb : Grew wq ((wq.alloc (.cells (verArr fun _ => 0#32) 94)).drew.setRow wq.heap.size (verArr fun p => nv (I.ownV (z + p)))) := hgm.setRow (Nat.le_refl _) _
                  have hbm2 : Blk ((wq.alloc (.cells (verArr fun _ => 0#32) 94)).drew.setRow wq.heap.size (verArr fun p => nv (I.ownV (z + p)))) wq.heap.size 94 (verArr fun p => nv (I.ownV (z + p))) := hbm.setRow _
                  obtain ⟨gm, hgm9⟩ : ∃ gm, gm = wq.heap.size := ⟨_, rfl⟩
                  obtain ⟨wb, hwb⟩ : ∃ wb, wb = (wq.alloc (.cells (verArr fun _ => 0#32) 94)).drew.setRow wq.heap.size (verArr fun p => nv (I.ownV (z + p))) := ⟨_, rfl⟩
                  rw [← hwb] at hgb hbm2 ⊢
                  rw [← hgm9] at hbm2 hq4 ⊢
                  have hbv5 := HBV4.out.grew hgb
                  have ha := hbv5.cell kk
                  rw [verArr_get _ _ hk32] at ha
                  have hf := hbv5.frozen kk
                  have hvl := hbv5.lt
                  have hts : Turned (fun p => p = w4.heap.size + 1) wb (wb.setCell ⟨w4.heap.size + 1, kk, none⟩ (.int .u32 (v : Int))) := (Turned.refl (fun p => p = w4.heap.size + 1) wb).setCell (p := ⟨w4.heap.size + 1, kk, none⟩) (fun _ => rfl) _
                  have HVN : Hid (Blk (wb.setCell ⟨w4.heap.size + 1, kk, none⟩ (.int .u32 (v : Int))) (w4.heap.size + 1) 94 (verArr (mS I H T v (j + 1)))) := Lib.hid ((hbv5.set_ kk (.int .u32 (v : Int))).conv (by rw [← hvu, verArr_set]; exact verArr_congr fun p _ => HSS.out p))
                  have HMN := Lib.hid (hbm2.turned hts (by omega))
                  have hgO4 : ¬ gO = w4.heap.size + 1 := by omega
                  have HBON := Lib.hid ((HBO4.out.grew hgb).turned hts hgO4)
                  have HOIN := Lib.hid ((HOI4.out.grew hgb).notblk hbv5 (by decide) hts)
                  have HOWN := Lib.hid ((HOW4.out.grew hgb).notblk hbv5 (by decide) hts)
                  have HPAN := Lib.hid ((HPA4.out.grew hgb).ver hbv5 hts)
                  have HSN := Lib.hid ((HST4.out.grew hgb).kept hts (by have := HLW.out; omega) (by have := HLW.out; omega))
                  have HTN4 := Lib.hid ((HTT4.out.andGrew hgb).trans (hts.mono fun p _ hp => .inr (by omega)))
                  clear hts hbv5 hbm2 hgb hwb hgm9 hbm hbo5 hgm
                  go_wp2_with fail
                  obtain ⟨wd, hwd⟩ : ∃ wd, wd = wb.setCell ⟨w4.heap.size + 1, kk, none⟩ (.int .u32 (v : Int)) := ⟨_, rfl⟩
                  rw [← hwd] at HVN HMN HBON HOIN HOWN HPAN HSN HTN4 ⊢
                  clear hwd ha hf hvl
                  refine (vdata_any _ _ _ HMN.out).mono ?_
                  rintro e we ⟨rfl, ge⟩
                  have HPQ := Lib.hid (fun (W : World) => pack_any (vbytes ((List.range 32).map fun p => nv (I.ownV (z + p)))) (nv v) (1 + (kk : Int)) W (by rw [vbytes_size, List.length_map, List.length_range]; omega) (by unfold okI; omega))
                  rw [hvu] at HPQ
                  have HGE := Lib.hid ge
                  clear ge
                  go_wp2_with fail
                  refine (HPQ.out we).mono ?_
                  rintro e wA ⟨rfl, gA⟩
                  go_wp2_with fail
                  refine (put_any _ _ _ _).mono ?_
                  rintro e wB ⟨vp, rfl, hput, gB⟩
                  obtain ⟨caps, rfl⟩ := hput.form
                  have hgB : Grew wd wB := HGE.out.trans (gA.trans gB)
                  have hput1 : PutAt wB w4.heap.size s (1 + (kk : Int)) (packS (vbytes ((List.range 32).map fun p => nv (I.ownV (z + p)))) (nv v) (1 + (kk : Int))) (.func (.func 81) #[] caps) := hput.low (by have := HTN4.out.size; have := HGE.out.size; have := gA.size; omega)
                  have HOWN1 := Lib.hid (HOWN.out.grew hgB)
                  have HPA1 := Lib.hid ((HPAN.out.grew hgB).snoc (e := (1 + (kk : Int), packS (vbytes ((List.range 32).map fun p => nv (I.ownV (z + p)))) (nv v) (1 + (kk : Int)))) hput1)
                  have HGB := Lib.hid hgB
                  have hwB4 : w4.heap.size ≤ wB.heap.size := by have := HTN4.out.size; have := hgB.size; omega
                  have hvlen : vs.length ≤ 1100 := by rw [HPAN.out.1]; unfold mL; rw [List.length_map, List.length_take]; have := badL_len H 32; omega
                  clear hput gA gB hgB hput1
                  go_wp2_with (at_builtin; refine wpList_push2 rfl _ _ 103 rfl w4.heap.size 104 1 8 .nilFunc Try.underlying103 info_fun rfl (by decide) (wB.alloc (.cells #[.func (.func 81) #[] caps] 104)) u22 (vs.map fun v => [v]) [.func (.func 81) #[] caps] rfl rfl (HOWN1.out.alloc _) wB.heap.size (by rfl) (Blk.new _ _ _ rfl) rfl (by rw [List.length_map]; omega) (by rw [List.length_map]; omega) (by simp; omega) vs.length (by rw [List.length_map]) ?_)
                  intro g9 cap9 wC hownC hgbC _ _
                  have hgwc := (HGB.out.alloc (.cells #[.func (.func 81) #[] caps] 104))
                  have hpaC := (HPA1.out.grew ((Grew.refl wB).alloc (.cells #[.func (.func 81) #[] caps] 104))).own (HOWN1.out.alloc (.cells #[.func (.func 81) #[] caps] 104)) hgbC
                  have HOWNC := Lib.hid hownC
                  have HPAC := Lib.hid hpaC
                  have HVC := Lib.hid ((HVN.out.grew hgwc).own hgbC (fun e => (HOWN1.out.alloc (.cells #[.func (.func 81) #[] caps] 104)).ne_blk (HVN.out.grew hgwc) (by decide) e))
                  have HBOC := Lib.hid ((HBON.out.grew hgwc).own hgbC (fun e => (HOWN1.out.alloc (.cells #[.func (.func 81) #[] caps] 104)).ne_blk (HBON.out.grew hgwc) (by decide) e))
                  have HOIC := Lib.hid ((HOIN.out.grew hgwc).own hgbC (fun g hg e => own_own_ne (HOIN.out.grew hgwc) (HOWN1.out.alloc (.cells #[.func (.func 81) #[] caps] 104)) (by decide) g hg e))
                  have HSC := Lib.hid ((HSN.out.grew hgwc).beside (HOWN1.out.alloc (.cells #[.func (.func 81) #[] caps] 104)) (by decide) hgbC)
                  have HTC := Lib.hid (own_push2 (HTN4.out.andGrew hgwc) HOWN1.out.row_ge hgbC)
                  clear hownC hgbC hgwc hpaC hwB4 hvlen
                  go_wp2_with fail
                  go_roundg ((badL H 32).length - (j + 1))
                  case measure => rw [HGJ.out]; omega
                  case rel => exact ⟨j + 1, vs ++ [.func (.func 81) #[] caps], by omega, by omega, by go_num, by rw [List.map_append]; exact HOWNC.out, by rw [HLS.out, HZ.out]; exact HPAC.out, HVC.out, HBOC.out, HOIC.out, HSC.out, HTC.out⟩
                · obtain rfl : j = (badL H 32).length := by omega
                  have HVE : Hid (Blk wr (w4.heap.size + 1) 94 (verArr fun p => nv ((I.mend H v).ms p))) := Lib.hid (HBV4.out.conv (verArr_congr fun p hp => mS_end I H T v p hp))
                  obtain ⟨wq, hwq⟩ : ∃ wq : World, wq = wr := ⟨_, rfl⟩
                  subst hwq
                  go_wp2_with fail
                  refine (vdata_any _ _ _ HVE.out).mono ?_
                  rintro e we ⟨rfl, ge⟩
                  have HPQ := Lib.hid (fun (W : World) => pack_any (vbytes (I.mend H v).tops) (nv v) 0 W (by rw [vbytes_size]; unfold Img.tops; rw [List.length_map, List.length_range]; omega) (by unfold okI; omega))
                  rw [hvu, show packS (vbytes (I.mend H v).tops) (nv v) 0 = (I.mend H v).topR from rfl] at HPQ
                  rw [show ((List.range 32).map fun p => nv ((I.mend H v).ms p)) = (I.mend H v).tops from rfl]
                  have HGE := Lib.hid ge
                  clear ge
                  go_wp2_with fail
                  refine (HPQ.out we).mono ?_
                  rintro e wA ⟨rfl, gA⟩
                  go_wp2_with fail
                  refine (put_any _ _ _ _).mono ?_
                  rintro e wB ⟨vp, rfl, hput, gB⟩
                  obtain ⟨caps, rfl⟩ := hput.form
                  have hgB : Grew wq wB := HGE.out.trans (gA.trans gB)
                  have hput1 : PutAt wB w4.heap.size s 0 (I.mend H v).topR (.func (.func 81) #[] caps) := hput.low (by have := HTT4.out.size; have := HGE.out.size; have := gA.size; omega)
                  have HOWN1 := Lib.hid (HOW4.out.grew hgB)
                  have HPA1 := Lib.hid ((HPA4.out.grew hgB).snoc (e := (0, (I.mend H v).topR)) hput1)
                  have HGB := Lib.hid hgB
                  have hwB4 : w4.heap.size ≤ wB.heap.size := by have := HTT4.out.size; have := hgB.size; omega
                  have hvlen : vs.length ≤ 1100 := by rw [HPA4.out.1]; unfold mL; rw [List.length_map, List.length_take]; have := badL_len H 32; omega
                  clear hput gA gB hgB hput1
                  go_wp2_with (at_builtin; refine wpList_pushAll (by rfl) _ _ 103 rfl w4.heap.size 104 1 8 .nilFunc Try.underlying103 info_fun rfl (by decide) u22 (vs.map fun v => [v]) (([.func (.func 81) #[] caps, .func (.func 61) #[ptrV s] #[]] : List Value).map fun v => [v]) rfl (HOWN1.out.alloc _) (some ⟨wB.heap.size, 0, none⟩) 2 2 (by rfl) rfl (ones_len _) (ones_blk (Blk.new _ _ _ rfl) (by simp)) (ones_one (by rfl)) (by rw [List.length_map]; omega) (by rw [List.length_map]; omega) (by simp; omega) ?_)
                  intro v9 w9 hown9 hgb9 _
                  have hgw9 := HGB.out.alloc (.cells #[.func (.func 81) #[] caps, .func (.func 61) #[ptrV s] #[]] 104)
                  have hpa9 := (HPA1.out.grew ((Grew.refl wB).alloc (.cells #[.func (.func 81) #[] caps, .func (.func 61) #[ptrV s] #[]] 104))).own (HOWN1.out.alloc (.cells #[.func (.func 81) #[] caps, .func (.func 61) #[ptrV s] #[]] 104)) hgb9
                  have hs9 := (HST4.out.grew hgw9).beside (HOWN1.out.alloc (.cells #[.func (.func 81) #[] caps, .func (.func 61) #[ptrV s] #[]] 104)) (by decide) hgb9
                  have ht9 := own_push2 (HTT4.out.andGrew hgw9) HOWN1.out.row_ge hgb9
                  have hb9 : Beside w0 out W w9 := HB4.out.next ht9 (fun p hp h9 => by
                    rcases h9 with h9 | h9
                    · exact absurd hp (by have := HSM.out.2; omega)
                    · exact absurd hp (by have := HB4.out.size; omega))
                  have HD := Lib.hid (mend_do (I := I) (H := H) (v := v) (HH4U.out.up HLW.out.1 HLW.out.2 ht9 hs9) (by rw [HU.out.pend]; simp) hpa9 (by rw [List.map_append]; exact hown9))
                  rw [HME.out] at HD
                  have HB99 := Lib.hid hb9
                  clear hown9 hgb9 hpa9 hgw9 hs9 ht9 hb9
                  obtain ⟨A2, n2, c2, rfl, hd⟩ := HD.out
                  have HDD := Lib.hid hd
                  have hbl9 := badL_len H 32
                  clear hd
                  go_wp2_with fail
                  refine HDD.out.mono ?_
                  rintro e w10 ⟨rfl, hL10, hB10⟩
                  have HL10 := Lib.hid hL10
                  have HB10 := Lib.hid hB10
                  clear hL10 hB10
                  go_wp2_with fail
                  go_ret2
                  exact ⟨(badL H 32).length + 1, E, rfl, HL10.out.few (fun p hp => .inl (.inl hp)), HB99.out.trans (HB10.out.mono fun p _ hp => ⟨hp.1, fun h9 => hp.2 (.inl (.inl h9))⟩), .inr ⟨rfl, HX.out, v, HMC.out.1, HMC.out.2.1, HMC.out.2.2⟩⟩
end Go.Proofs.Ytbddelefglhaaaa
