/- Chapter 4: the top and a map sector are looked up (pages.view.load). Chapter 4: a data sector is looked up (pages.view.get). Chapter 4: a data sector is read (ReadAll of one, Read). Chapter 4, plain: Commit at a store. -/
import Derived.Deep.LoopGhost
import Derived.Test.YtbddelefglhaaaaCpE
import Derived.Test.YtbddelefglhaaaaCpG
namespace Go.Proofs.Ytbddelefglhaaaa
set_option linter.unusedVariables false
set_option linter.unusedSimpArgs false
set_option linter.unusedSectionVars false
open Go.RowKit
attribute [local go_sem ↓] Go.wp_at_zero Go.wp_at_succ
theorem zero_ptr (w : World) : (zeroValue 97).run Try.prog w = .ok (.pointer none) w := by kernel_rfl
theorem cell_grew {w1 w2 : World} (hg : Grew w1 w2) {b o : Nat} {v : Value} (h : w1.cell? ⟨b, o, none⟩ = some v) : w2.cell? ⟨b, o, none⟩ = some v := (hg.cellEq b o (cell_lt h).1).trans h
theorem view_S {w1 w2 : World} {g t' k s : Nat} {ver : BitVec 32} (hg : Grew w1 w2) (h : (fun w' : World => w'.cell? ⟨g, 0, none⟩ = some (ptrV s) ∧ w'.cell? ⟨g, 1, none⟩ = some (ptrV t') ∧ g < w'.heap.size ∧ w'.cell? ⟨t', k, none⟩ = some (.int .u32 (u32 ver)) ∧ t' < w'.heap.size) w1) : (fun w' : World => w'.cell? ⟨g, 0, none⟩ = some (ptrV s) ∧ w'.cell? ⟨g, 1, none⟩ = some (ptrV t') ∧ g < w'.heap.size ∧ w'.cell? ⟨t', k, none⟩ = some (.int .u32 (u32 ver)) ∧ t' < w'.heap.size) w2 := ⟨cell_grew hg h.1, cell_grew hg h.2.1, Nat.lt_of_lt_of_le h.2.2.1 hg.size, cell_grew hg h.2.2.2.1, Nat.lt_of_lt_of_le h.2.2.2.2 hg.size⟩
/-- Outside: what was, and what is new behind lo. -/
def up (out : Nat → Prop) (lo : Nat) (w : World) (k : Nat) : Prop := out k ∨ (lo ≤ k ∧ k < w.heap.size)
theorem Held.up {w0 : World} {x s m lo : Nat} {sy ep : Int} {D : Dev} {out : Nat → Prop} {W w' : World} (h : Held w0 x s m sy ep D (up out lo W) W) (hl : w0.heap.size ≤ lo ∧ s < lo) (hm : m < lo) (ht : Turned (fun q => q = m ∨ lo ≤ q) W w') (hst : StoreM w' s m x sy ep) : Held w0 x s m sy ep D (up out lo w') w' := by
  have hos := h.os
  have hom := h.om
  obtain ⟨q, hx, hd, hg0, hf, hn⟩ := h.live
  have hlt : ∀ k, q.feet k → k < lo := fun k hk => by
    rcases Nat.lt_or_ge k lo with h9 | h9
    · exact h9
    · exact absurd hk (hn k (.inr ⟨h9, hd.feet_lt k hk⟩)).2
  refine ⟨⟨q, hx, hd.kept ht (fun k hk h9 => ?_), hg0.turn ht (fun k hk => ?_), hf, fun k hk => ?_⟩, hst, ?_, ?_, h.m0⟩
  · rcases h9 with h9 | h9
    · rw [h9] at hk; exact (hn m hom).2 hk
    · exact absurd (hlt k hk) (by omega)
  · rcases hk with hk | hk
    · rw [hk]; exact h.m0
    · omega
  · rcases hk with hk | hk
    · exact ⟨Nat.lt_of_lt_of_le (hn k (.inl hk)).1 ht.size, (hn k (.inl hk)).2⟩
    · exact ⟨hk.2, fun h9 => absurd (hlt k h9) (by omega)⟩
  · rcases hos with h9 | h9
    · exact .inl h9
    · exact absurd h9.1 (by omega)
  · rcases hom with h9 | h9
    · exact .inl h9
    · exact absurd h9.1 (by omega)
/-- What stays behind 'load', and its answer. -/
def LoadR (w0 : World) (x s m : Nat) (sy ep : Int) (D : Dev) (out : Nat → Prop) (W : World) (lo g mm k : Nat) (e : Ending) (w' : World) : Prop :=
  ((okMap D k → ∃ b, e = .returned (.tuple #[ptrV b, .int .i64 0]) ∧ Blk w' b 94 (verArr (fld (mapI D k).data)) ∧ lo ≤ b) ∧ (¬ okMap D k → e = .returned (.tuple #[.pointer none, .int .i64 (mapErr D k)]))) ∧
  Held w0 x s m sy ep D (up out lo w') w' ∧ ViewM w' lo g s mm D ∧ Turned (fun q => q = m ∨ q = g ∨ q = mm) W w'
section
variable {w0 : World} {x s m : Nat} {sy ep : Int} {D : Dev} {out : Nat → Prop} {W : World} {lo g mm : Nat} (h : Held w0 x s m sy ep D (up out lo W) W) (hlow : w0.heap.size ≤ lo ∧ s < lo) (hlen : 132 ≤ D.st.length) (hf : D.failed = false) {F : Int → Option Value} (hm : m < lo) (k : Nat) (hk : k < 32)
include h hlow hlen hf hm hk
set_option maxRecDepth 100000 in
set_option maxHeartbeats 2000000 in
theorem load_top (t : Nat) (hv : ViewAt W lo g s mm (ptrV t) F D) : Calls Try.prog 85 #[ptrV g, .int .i64 (k : Int)] W (LoadR w0 x s m sy ep D out W lo g mm k) := by
  have HUP := Lib.hid (fun (w' : World) (ht : Turned (fun q => q = m ∨ lo ≤ q) W w') (hst : StoreM w' s m x sy ep) => h.up hlow hm ht hst)
  have hself : Held w0 x s m sy ep D (up out lo W) W := h
  obtain ⟨out', hout'⟩ : ∃ o, o = up out lo W := ⟨_, rfl⟩
  rw [← hout'] at h
  have HTW : Hid (Turned (fun q => q = m ∨ q = g ∨ q = mm) W W) := Lib.hid (Turned.refl _ _)
  clear hself hout'
  have hgb := hv.blk
  have g0 := hgb.cell 0
  have g1 := hgb.cell 1
  have g2 := hgb.cell 2
  have gl := hgb.lt
  obtain ⟨kl, hkl⟩ := int_key (k : Int) (okI_small _ (by omega))
  have hki : (0 : Int) ≤ (k : Int) ∧ (k : Int) < 32 := by omega
  have hlk := hv.map.lookup_val int_keyedI intV_inj Try.underlying96 (zero_ptr _) (k : Int) hkl
  have HV := Lib.hid hv
  have HH := Lib.hid h
  cases hF : F (k : Int) with
  | some v =>
    obtain ⟨b, j, hj, rfl, hb0, hbb, hok⟩ := hv.maps _ _ hF
    obtain rfl : k = j := by omega
    rw [hF, Option.getD_some] at hlk
    have HP := Lib.hid (show okMap D k ∧ Blk W b 94 (verArr (fld (mapI D k).data)) ∧ lo ≤ b from ⟨hok, hbb, hb0⟩)
    clear h hv hkl hF hbb hok hgb hf hlen
    go_enter Try.func85, Try.ntmps85
    go_wp2_with fail
    go_ret2
    exact ⟨⟨fun _ => ⟨b, rfl, HP.out.2.1, HP.out.2.2⟩, fun hn => absurd HP.out.1 hn⟩, HUP.out _ (Turned.refl _ _) HH.out.store, ⟨_, _, HV.out⟩, HTW.out⟩
  | none =>
    rw [hF, Option.getD_none] at hlk
    obtain ⟨t', ht', htt, htb, htok⟩ : ∃ t', lo ≤ t' ∧ t' = t ∧ Blk W t' 94 (verArr (fld (topI D).data)) ∧ (topI D).ok = true := by
      rcases hv.top with h1 | ⟨t', h1, h2, h3, h4⟩
      · cases h1
      · refine ⟨t', h1, ?_, h3, h4⟩
        injection h2 with h2
        injection h2 with h2
        injection h2 with h2 _ _
        exact h2.symm
    subst htt
    obtain ⟨ver, hver⟩ : ∃ ver, fld (topI D).data k = ver := ⟨_, rfl⟩
    have tc := htb.cell k
    rw [verArr_get _ _ hk, hver] at tc
    have tl := htb.lt
    have HBE := Lib.hid (fun (w1 : World) (hh : Held w0 x s m sy ep D out' w1) => below_any hh (1 + (k : Int)) (okI_small _ (by omega)) ver)
    have HMI := Lib.hid (map_is hf k hk hlen ver)
    have hwk : IntKind.i64.wrap (1 + (k : Int)) = 1 + (k : Int) := IntWalk.i64_in _ (by omega)
    have hkk : (0 : Int) ≤ 1 + (k : Int) := by omega
    have HFN := Lib.hid hF
    have HTOK := Lib.hid htok
    have HTB := Lib.hid htb
    have HKL := Lib.hid hkl
    have HVER := Lib.hid hver
    obtain ⟨⟨⟨bd, bv, bb⟩, er⟩, hbel⟩ : ∃ r, belowD D (1 + (k : Int)) ver = r := ⟨_, rfl⟩
    rw [hbel] at HBE HMI
    clear h hv hkl hF hgb hf hlen htb htok hver hbel
    go_enter Try.func85, Try.ntmps85
    go_wp2_with fail
    refine wp_region_R [14, 19] (fun w' : World => w'.cell? ⟨g, 0, none⟩ = some (ptrV s) ∧ w'.cell? ⟨g, 1, none⟩ = some (ptrV t') ∧ g < w'.heap.size ∧ w'.cell? ⟨t', k, none⟩ = some (.int .u32 (u32 ver)) ∧ t' < w'.heap.size) (by kernel_rfl) ?_
    have hS := (show (fun w' : World => w'.cell? ⟨g, 0, none⟩ = some (ptrV s) ∧ w'.cell? ⟨g, 1, none⟩ = some (ptrV t') ∧ g < w'.heap.size ∧ w'.cell? ⟨t', k, none⟩ = some (.int .u32 (u32 ver)) ∧ t' < w'.heap.size) W.drew from ⟨g0, g1, gl, tc, tl⟩)
    refine wpAnyR_takeQ (i := 0) (v := ?_) (some 42) rfl rfl (by kernel_rfl) (by kernel_rfl) (by kernel_rfl) (by kernel_rfl) (fun _ _ _ h => h) (Or.inl ⟨by rfl, ?_⟩) ?_
    rotate_left
    focus (intro wS hSw; (try dsimp only at hSw); go_simp; (try with_reducible rfl); (try (first | (rw [if_pos (by omega)]; (try go_simp); (try with_reducible rfl)) | (rw [if_neg (by omega)]; (try go_simp); (try with_reducible rfl)))))
    try simp only [Act.put, List.setIfInBounds_toArray, List.set_cons_zero, List.set_cons_succ]
    refine wpAnyR_take (i := 1) (v := ?_) [2, 3, 14, 15, 16, 17, 19, 20] (some 43) rfl rfl (by kernel_rfl) (by kernel_rfl) (by kernel_rfl) (by kernel_rfl) (by kernel_rfl) (by kernel_rfl) (by kernel_rfl) (fun _ _ _ h => h) (Or.inl ⟨by rfl, ?_⟩) hS ?_
    rotate_left
    focus (intro wS hSw; (try dsimp only at hSw); go_simp; (try with_reducible rfl); (try (first | (rw [if_pos (by omega)]; (try go_simp); (try with_reducible rfl)) | (rw [if_neg (by omega)]; (try go_simp); (try with_reducible rfl)))))
    try simp only [Act.put, List.setIfInBounds_toArray, List.set_cons_zero, List.set_cons_succ]
    refine wpAnyR_takeQ (i := 2) (v := ?_) (some 44) rfl rfl (by kernel_rfl) (by kernel_rfl) (by kernel_rfl) (by kernel_rfl) (fun _ _ _ h => h) (Or.inl ⟨by rfl, ?_⟩) ?_
    rotate_left
    focus (intro wS hSw; (try dsimp only at hSw); go_simp; (try with_reducible rfl); (try (first | (rw [if_pos (by omega)]; (try go_simp); (try with_reducible rfl)) | (rw [if_neg (by omega)]; (try go_simp); (try with_reducible rfl)))))
    try simp only [Act.put, List.setIfInBounds_toArray, List.set_cons_zero, List.set_cons_succ]
    refine wpAnyR_take (i := 3) (v := ?_) [14, 15, 16, 17, 19, 20] (some 45) rfl rfl (by kernel_rfl) (by kernel_rfl) (by kernel_rfl) (by kernel_rfl) (by kernel_rfl) (by kernel_rfl) (by kernel_rfl) (fun _ _ _ h => h) (Or.inl ⟨by rfl, ?_⟩) hS ?_
    rotate_left
    focus (intro wS hSw; (try dsimp only at hSw); go_simp; (try with_reducible rfl); (try (first | (rw [if_pos (by omega)]; (try go_simp); (try with_reducible rfl)) | (rw [if_neg (by omega)]; (try go_simp); (try with_reducible rfl)))))
    try simp only [Act.put, List.setIfInBounds_toArray, List.set_cons_zero, List.set_cons_succ]
    refine wpAnyR_takeQ (i := 4) (v := ?_) (some 46) rfl rfl (by kernel_rfl) (by kernel_rfl) (by kernel_rfl) (by kernel_rfl) (fun _ _ _ h => h) (Or.inl ⟨by rfl, ?_⟩) ?_
    rotate_left
    focus (intro wS hSw; (try dsimp only at hSw); go_simp; (try with_reducible rfl); (try (first | (rw [if_pos (by omega)]; (try go_simp); (try with_reducible rfl)) | (rw [if_neg (by omega)]; (try go_simp); (try with_reducible rfl)))))
    try simp only [Act.put, List.setIfInBounds_toArray, List.set_cons_zero, List.set_cons_succ]
    refine wpAnyR_takeQ (i := 5) (v := ?_) (some 47) rfl rfl (by kernel_rfl) (by kernel_rfl) (by kernel_rfl) (by kernel_rfl) (fun _ _ _ h => h) (Or.inl ⟨by rfl, ?_⟩) ?_
    rotate_left
    focus (intro wS hSw; (try dsimp only at hSw); go_simp; (try with_reducible rfl); (try (first | (rw [if_pos (by omega)]; (try go_simp); (try with_reducible rfl)) | (rw [if_neg (by omega)]; (try go_simp); (try with_reducible rfl)))))
    try simp only [Act.put, List.setIfInBounds_toArray, List.set_cons_zero, List.set_cons_succ]
    refine wpAnyR_takeQ (i := 6) (v := ?_) (some 48) rfl rfl (by kernel_rfl) (by kernel_rfl) (by kernel_rfl) (by kernel_rfl) (fun _ _ _ h => h) (Or.inl ⟨by rfl, ?_⟩) ?_
    rotate_left
    focus (intro wS hSw; (try dsimp only at hSw); go_simp; (try with_reducible rfl); (try (first | (rw [if_pos (by omega)]; (try go_simp); (try with_reducible rfl)) | (rw [if_neg (by omega)]; (try go_simp); (try with_reducible rfl)))))
    try simp only [Act.put, List.setIfInBounds_toArray, List.set_cons_zero, List.set_cons_succ]
    refine wpAnyR_take (i := 7) (v := ?_) [8, 9, 11, 12, 13, 14, 15, 16, 17, 19, 20] (some 49) rfl rfl (by kernel_rfl) (by kernel_rfl) (by kernel_rfl) (by kernel_rfl) (by kernel_rfl) (by kernel_rfl) (by kernel_rfl) (fun _ _ _ h => h) (Or.inl ⟨by rfl, ?_⟩) hS ?_
    rotate_left
    focus (intro wS hSw; (try dsimp only at hSw); go_simp; (try with_reducible rfl); (try (first | (rw [if_pos (by omega)]; (try go_simp); (try with_reducible rfl)) | (rw [if_neg (by omega)]; (try go_simp); (try with_reducible rfl)))))
    try simp only [Act.put, List.setIfInBounds_toArray, List.set_cons_zero, List.set_cons_succ]
    refine wpAnyR_takeQ (i := 8) (v := ?_) (some 50) rfl rfl (by kernel_rfl) (by kernel_rfl) (by kernel_rfl) (by kernel_rfl) (fun _ _ _ h => h) (Or.inl ⟨by rfl, ?_⟩) ?_
    rotate_left
    focus (intro wS hSw; (try dsimp only at hSw); go_simp; (try with_reducible rfl); (try (first | (rw [if_pos (by omega)]; (try go_simp); (try with_reducible rfl)) | (rw [if_neg (by omega)]; (try go_simp); (try with_reducible rfl)))))
    try simp only [Act.put, List.setIfInBounds_toArray, List.set_cons_zero, List.set_cons_succ]
    refine wpAnyR_take (i := 9) (v := ?_) [11, 12, 13, 14, 15, 16, 17, 19, 20] (some 51) rfl rfl (by kernel_rfl) (by kernel_rfl) (by kernel_rfl) (by kernel_rfl) (by kernel_rfl) (by kernel_rfl) (by kernel_rfl) (fun _ _ _ h => h) (Or.inl ⟨by rfl, ?_⟩) hS ?_
    rotate_left
    focus (intro wS hSw; (try dsimp only at hSw); go_simp; (try with_reducible rfl); (try (first | (rw [if_pos (by omega)]; (try go_simp); (try with_reducible rfl)) | (rw [if_neg (by omega)]; (try go_simp); (try with_reducible rfl)))))
    try simp only [Act.put, List.setIfInBounds_toArray, List.set_cons_zero, List.set_cons_succ]
    refine wpAnyR_takeQ (i := 10) (v := ?_) (some 52) rfl rfl (by kernel_rfl) (by kernel_rfl) (by kernel_rfl) (by kernel_rfl) (fun _ _ _ h => h) (Or.inl ⟨by rfl, ?_⟩) ?_
    rotate_left
    focus (intro wS hSw; (try dsimp only at hSw); go_simp; (try with_reducible rfl); (try (first | (rw [if_pos (by omega)]; (try go_simp); (try with_reducible rfl)) | (rw [if_neg (by omega)]; (try go_simp); (try with_reducible rfl)))))
    try simp only [Act.put, List.setIfInBounds_toArray, List.set_cons_zero, List.set_cons_succ]
    refine wpAnyR_take (i := 11) (v := ?_) [12, 13, 14, 15, 16, 17, 19, 20] (some 53) rfl rfl (by kernel_rfl) (by kernel_rfl) (by kernel_rfl) (by kernel_rfl) (by kernel_rfl) (by kernel_rfl) (by kernel_rfl) (fun _ _ _ h => h) (Or.inl ⟨by rfl, ?_⟩) hS ?_
    rotate_left
    focus (intro wS hSw; (try dsimp only at hSw); go_simp; (try with_reducible rfl); (try (first | (rw [if_pos (by omega)]; (try go_simp); (try with_reducible rfl)) | (rw [if_neg (by omega)]; (try go_simp); (try with_reducible rfl)))))
    try simp only [Act.put, List.setIfInBounds_toArray, List.set_cons_zero, List.set_cons_succ]
    refine wpAnyR_takeQ (i := 12) (v := ?_) (some 54) rfl rfl (by kernel_rfl) (by kernel_rfl) (by kernel_rfl) (by kernel_rfl) (fun _ _ _ h => h) (Or.inl ⟨by rfl, ?_⟩) ?_
    rotate_left
    focus (intro wS hSw; (try dsimp only at hSw); go_simp; (try with_reducible rfl); (try (first | (rw [if_pos (by omega)]; (try go_simp); (try with_reducible rfl)) | (rw [if_neg (by omega)]; (try go_simp); (try with_reducible rfl)))))
    try simp only [Act.put, List.setIfInBounds_toArray, List.set_cons_zero, List.set_cons_succ]
    refine wpAnyR_take (i := 13) (v := ?_) [14, 15, 16, 17, 19, 20] (some 55) rfl rfl (by kernel_rfl) (by kernel_rfl) (by kernel_rfl) (by kernel_rfl) (by kernel_rfl) (by kernel_rfl) (by kernel_rfl) (fun _ _ _ h => h) (Or.inl ⟨by rfl, ?_⟩) hS ?_
    rotate_left
    focus (intro wS hSw; (try dsimp only at hSw); go_simp; (try with_reducible rfl); (try (first | (rw [if_pos (by omega)]; (try go_simp); (try with_reducible rfl)) | (rw [if_neg (by omega)]; (try go_simp); (try with_reducible rfl)))))
    try simp only [Act.put, List.setIfInBounds_toArray, List.set_cons_zero, List.set_cons_succ]
    refine wpAnyR_n2 (i := 14) (j := 18) rfl rfl (by kernel_rfl) ?faa ?fab
    case' faa =>
      intro K' hK
      rw [if_pos (by rfl)]
      simp only [List.getElem_toArray, List.getElem_cons_succ, List.getElem_cons_zero]
      go_wp2_with fail
      refine (HBE.out _ (HH.out.grew (Grew.refl W).drew)).mono ?_
      rintro e w1 ⟨rfl, hl1⟩
      unfold rawV
      have hlz : Looked w0 x s m sy ep D out' W (w1.alloc (.cells #[.string bd, .int .u32 (u32 bv), .bool bb] 87)) := ((HH.out.same (Grew.refl W).drew).trans hl1).grew ((Grew.refl w1).alloc _)
      have hxz : Blk (w1.alloc (.cells #[.string bd, .int .u32 (u32 bv), .bool bb] 87)) w1.heap.size 87 #[.string bd, .int .u32 (u32 bv), .bool bb] := Blk.new w1 _ _ rfl
      have hgx : W.heap.size ≤ w1.heap.size := hl1.turned.size
      have hz0 : Blk (w1.alloc (.cells #[.string ⟨#[]⟩, .int .u32 0, .bool false] 87)) w1.heap.size 87 #[.string ⟨#[]⟩, .int .u32 0, .bool false] := Blk.new w1 _ _ rfl
      clear hl1
      go_wp2_with fail
      refine hK.out _ _ (.inl (by rfl)) ?_
      clear hK
      refine wpAnyR_takeQ (i := 15) (v := ?_) (some 41) rfl rfl (by kernel_rfl) (by kernel_rfl) (by kernel_rfl) (by kernel_rfl) (fun _ _ _ h => h) (Or.inl ⟨by rfl, ?_⟩) ?_
      rotate_left
      focus (intro wS hSw; (try dsimp only at hSw); go_simp; (try with_reducible rfl); (try (first | (rw [if_pos (by omega)]; (try go_simp); (try with_reducible rfl)) | (rw [if_neg (by omega)]; (try go_simp); (try with_reducible rfl)))))
      try simp only [Act.put, List.setIfInBounds_toArray, List.set_cons_zero, List.set_cons_succ]
      refine wpAnyR_takeQ (i := 16) (v := ?_) (some 57) rfl rfl (by kernel_rfl) (by kernel_rfl) (by kernel_rfl) (by kernel_rfl) (fun _ _ _ h => h) (Or.inl ⟨by rfl, ?_⟩) ?_
      rotate_left
      focus (intro wS hSw; (try dsimp only at hSw); go_simp; (try with_reducible rfl); (try (first | (rw [if_pos (by omega)]; (try go_simp); (try with_reducible rfl)) | (rw [if_neg (by omega)]; (try go_simp); (try with_reducible rfl)))))
      try simp only [Act.put, List.setIfInBounds_toArray, List.set_cons_zero, List.set_cons_succ]
      refine wpAnyR_takeQ (i := 17) (v := ?_) (some 58) rfl rfl (by kernel_rfl) (by kernel_rfl) (by kernel_rfl) (by kernel_rfl) (fun _ _ _ h => h) (Or.inl ⟨by rfl, ?_⟩) ?_
      rotate_left
      focus (intro wS hSw; (try dsimp only at hSw); go_simp; (try with_reducible rfl); (try (first | (rw [if_pos (by omega)]; (try go_simp); (try with_reducible rfl)) | (rw [if_neg (by omega)]; (try go_simp); (try with_reducible rfl)))))
      try simp only [Act.put, List.setIfInBounds_toArray, List.set_cons_zero, List.set_cons_succ]
      refine wpAnyR_n1 (i := 18) rfl (by kernel_rfl) ?_
      intro K' hK
      rw [if_pos (by rfl)]
      simp only [List.getElem_toArray, List.getElem_cons_succ, List.getElem_cons_zero]
      go_wp2_with fail
      refine hK.out _ _ (.inr (fun hS => view_S ((Grew.refl w1).alloc _) hS)) ?_
      clear hK
      refine wpAnyR_n1 (i := 19) rfl (by kernel_rfl) ?_
      intro K' hK
      rw [if_pos (by rfl)]
      simp only [List.getElem_toArray, List.getElem_cons_succ, List.getElem_cons_zero]
      go_wp2_with fail
      refine hK.out _ _ (.inl (by rfl)) ?_
      clear hK hz0
      refine wpAnyR_takeQ (i := 20) (v := ?_) (some 10) rfl rfl (by kernel_rfl) (by kernel_rfl) (by kernel_rfl) (by kernel_rfl) (fun _ _ _ h => h) (Or.inl ⟨by rfl, ?_⟩) ?_
      rotate_left
      focus (intro wS hSw; (try dsimp only at hSw); go_simp; (try with_reducible rfl); (try (first | (rw [if_pos (by omega)]; (try go_simp); (try with_reducible rfl)) | (rw [if_neg (by omega)]; (try go_simp); (try with_reducible rfl)))))
      try simp only [Act.put, List.setIfInBounds_toArray, List.set_cons_zero, List.set_cons_succ]
      refine wpAnyR_done (by kernel_rfl) ?_ _
      generalize hwz : w1.alloc (.cells #[.string bd, .int .u32 (u32 bv), .bool bb] 87) = wz at *
      generalize hgz : w1.heap.size = gx at *
      clear hwz hgz
    case' fab =>
      intro K' hK
      rw [if_pos (by rfl)]
      simp only [List.getElem_toArray, List.getElem_cons_succ, List.getElem_cons_zero]
      go_wp2_with fail
      have hgb : Grew W (W.alloc (.cells #[.string ⟨#[]⟩, .int .u32 0, .bool false] 87)).drew := ((Grew.refl W).alloc _).drew
      have hzb : Blk (W.alloc (.cells #[.string ⟨#[]⟩, .int .u32 0, .bool false] 87)).drew W.heap.size 87 #[.string ⟨#[]⟩, .int .u32 0, .bool false] := (Blk.new W _ _ rfl).drew
      refine hK.out _ _ (.inr (fun hS => view_S ((Grew.refl W.drew).alloc _) hS)) ?_
      clear hK
      refine wpAnyR_n1 (i := 14) rfl (by kernel_rfl) ?_
      intro K' hK
      rw [if_pos (by rfl)]
      simp only [List.getElem_toArray, List.getElem_cons_succ, List.getElem_cons_zero]
      go_wp2_with fail
      refine (HBE.out _ (HH.out.grew hgb)).mono ?_
      rintro e w1 ⟨rfl, hl1⟩
      unfold rawV
      have hml := HH.out.store.lt.2
      have hz1 := hzb.looked hl1 (by omega)
      have z0 := hz1.cell 0
      have z1 := hz1.cell 1
      have z2 := hz1.cell 2
      have f0 := hz1.frozen 0
      have f1 := hz1.frozen 1
      have f2 := hz1.frozen 2
      have zl := hz1.lt
      have hgx : W.heap.size ≤ W.heap.size := Nat.le_refl _
      have hlz : Looked w0 x s m sy ep D out' W (((w1.setCell ⟨W.heap.size, 0, none⟩ (.string bd)).setCell ⟨W.heap.size, 1, none⟩ (.int .u32 (u32 bv))).setCell ⟨W.heap.size, 2, none⟩ (.bool bb)) := looked_loc HH.out ((HH.out.same hgb).trans hl1) (by (repeat' first | (with_reducible exact Turned.refl _ _) | (with_reducible assumption) | (with_reducible refine Turned.alloc ?_ _) | (with_reducible refine Turned.drew ?_) | (with_reducible refine Turned.drewN ?_ _) | (with_reducible refine Turned.setRow ?_ (by first | (simp; done) | (simp; omega) | omega) _) | (with_reducible refine Turned.setCell ?_ (by first | (simp; done) | (simp; omega) | omega) _) | ((with_reducible apply Turned.andGrew); rotate_left; (with_reducible assumption)) | ((with_reducible apply Turned.trans); rotate_left; (with_reducible assumption)) | fail))
      have hxz : Blk (((w1.setCell ⟨W.heap.size, 0, none⟩ (.string bd)).setCell ⟨W.heap.size, 1, none⟩ (.int .u32 (u32 bv))).setCell ⟨W.heap.size, 2, none⟩ (.bool bb)) W.heap.size 87 #[.string bd, .int .u32 (u32 bv), .bool bb] := by (apply Blk.conv; (· (repeat' first | (with_reducible assumption) | (with_reducible apply Blk.setRow) | ((with_reducible apply Blk.farRow); rotate_left; (focus (first | (simp; done) | (simp; omega) | omega))) | (with_reducible apply Blk.drew) | (with_reducible apply Blk.drewN) | (with_reducible apply Blk.set_) | (with_reducible exact Blk.new _ _ _ (by first | rfl | (simp; done) | (simp; omega))) | (with_reducible apply Blk.alloc) | ((with_reducible apply Blk.far); rotate_left; (focus (first | (simp; done) | (simp; omega) | omega))) | ((with_reducible apply Blk.grew); rotate_left; (with_reducible assumption)) | ((with_reducible apply Blk.turned); rotate_left; (with_reducible assumption); (focus (first | (simp; done) | (simp; omega) | omega))) | fail)); (· rfl))
      clear hl1 hz1 hml hgb hzb
      go_wp2_with fail
      refine hK.out _ _ (.inl (by rfl)) ?_
      clear hK
      refine wpAnyR_takeQ (i := 15) (v := ?_) (some 41) rfl rfl (by kernel_rfl) (by kernel_rfl) (by kernel_rfl) (by kernel_rfl) (fun _ _ _ h => h) (Or.inl ⟨by rfl, ?_⟩) ?_
      rotate_left
      focus (intro wS hSw; (try dsimp only at hSw); go_simp; (try with_reducible rfl); (try (first | (rw [if_pos (by omega)]; (try go_simp); (try with_reducible rfl)) | (rw [if_neg (by omega)]; (try go_simp); (try with_reducible rfl)))))
      try simp only [Act.put, List.setIfInBounds_toArray, List.set_cons_zero, List.set_cons_succ]
      refine wpAnyR_takeQ (i := 16) (v := ?_) (some 57) rfl rfl (by kernel_rfl) (by kernel_rfl) (by kernel_rfl) (by kernel_rfl) (fun _ _ _ h => h) (Or.inl ⟨by rfl, ?_⟩) ?_
      rotate_left
      focus (intro wS hSw; (try dsimp only at hSw); go_simp; (try with_reducible rfl); (try (first | (rw [if_pos (by omega)]; (try go_simp); (try with_reducible rfl)) | (rw [if_neg (by omega)]; (try go_simp); (try with_reducible rfl)))))
      try simp only [Act.put, List.setIfInBounds_toArray, List.set_cons_zero, List.set_cons_succ]
      refine wpAnyR_takeQ (i := 17) (v := ?_) (some 58) rfl rfl (by kernel_rfl) (by kernel_rfl) (by kernel_rfl) (by kernel_rfl) (fun _ _ _ h => h) (Or.inl ⟨by rfl, ?_⟩) ?_
      rotate_left
      focus (intro wS hSw; (try dsimp only at hSw); go_simp; (try with_reducible rfl); (try (first | (rw [if_pos (by omega)]; (try go_simp); (try with_reducible rfl)) | (rw [if_neg (by omega)]; (try go_simp); (try with_reducible rfl)))))
      try simp only [Act.put, List.setIfInBounds_toArray, List.set_cons_zero, List.set_cons_succ]
      refine wpAnyR_n1 (i := 19) rfl (by kernel_rfl) ?_
      intro K' hK
      rw [if_pos (by rfl)]
      simp only [List.getElem_toArray, List.getElem_cons_succ, List.getElem_cons_zero]
      go_wp2_with fail
      refine hK.out _ _ (.inl (by rfl)) ?_
      clear hK z0 z1 z2 f0 f1 f2 zl
      refine wpAnyR_takeQ (i := 20) (v := ?_) (some 10) rfl rfl (by kernel_rfl) (by kernel_rfl) (by kernel_rfl) (by kernel_rfl) (fun _ _ _ h => h) (Or.inl ⟨by rfl, ?_⟩) ?_
      rotate_left
      focus (intro wS hSw; (try dsimp only at hSw); go_simp; (try with_reducible rfl); (try (first | (rw [if_pos (by omega)]; (try go_simp); (try with_reducible rfl)) | (rw [if_neg (by omega)]; (try go_simp); (try with_reducible rfl)))))
      try simp only [Act.put, List.setIfInBounds_toArray, List.set_cons_zero, List.set_cons_succ]
      refine wpAnyR_done (by kernel_rfl) ?_ _
      generalize hwz : ((w1.setCell ⟨W.heap.size, 0, none⟩ (.string bd)).setCell ⟨W.heap.size, 1, none⟩ (.int .u32 (u32 bv))).setCell ⟨W.heap.size, 2, none⟩ (.bool bb) = wz at hlz hxz ⊢
      obtain ⟨gx, hgz⟩ : ∃ gx, gx = W.heap.size := ⟨_, rfl⟩
      rw [← hgz] at hxz hgx ⊢
      clear hwz hgz
    all_goals
      have hvz := HV.out.looked hlz hm
      have HLZ := Lib.hid hlz
      have HXZ := Lib.hid hxz
      have hmi := HMI.out
      clear hlz hxz g0 g1 g2 gl tc tl hlk
      by_cases hmo : (mapI D k).ok = false
      · rw [if_pos hmo] at hmi
        injection hmi with h1 h2
        subst h2
        have HNO : Hid (¬ okMap D k) := Lib.hid (fun hn => by rw [hn.2.1] at hmo; cases hmo)
        have HME : Hid (mapErr D k = 11) := Lib.hid (by unfold mapErr; rw [if_neg (by rw [HTOK.out]; simp), if_pos hmo])
        clear hmo h1 hvz
        go_wp2_with fail
        go_ret2
        exact ⟨⟨fun hn => absurd hn HNO.out, fun _ => by rw [HME.out]; rfl⟩, HUP.out _ (HLZ.out.turned.mono fun _ _ hq => .inl hq) HLZ.out.store, ⟨_, _, HV.out.looked HLZ.out hm⟩, HTW.out.trans (HLZ.out.turned.mono fun _ _ hq => .inl hq)⟩
      by_cases hmv : (mapI D k).ver ≠ ver
      · rw [if_neg hmo, if_pos hmv] at hmi
        injection hmi with h1 h2
        subst h2
        have HNO : Hid (¬ okMap D k) := Lib.hid (fun hn => hmv (by rw [← HVER.out]; exact hn.2.2))
        have HME : Hid (mapErr D k = 12) := Lib.hid (by unfold mapErr; rw [if_neg (by rw [HTOK.out]; simp), if_neg hmo])
        clear hmo hmv h1 hvz
        go_wp2_with fail
        go_ret2
        exact ⟨⟨fun hn => absurd hn HNO.out, fun _ => by rw [HME.out]; rfl⟩, HUP.out _ (HLZ.out.turned.mono fun _ _ hq => .inl hq) HLZ.out.store, ⟨_, _, HV.out.looked HLZ.out hm⟩, HTW.out.trans (HLZ.out.turned.mono fun _ _ hq => .inl hq)⟩
      rw [if_neg hmo, if_neg hmv] at hmi
      injection hmi with h1 h2
      subst h2
      have hmok : (mapI D k).ok = true := by simpa using hmo
      have HBD : Hid ((mapI D k).data = bd) := Lib.hid (by rw [← h1])
      have hsz : bd.size = 128 := by rw [← HBD.out]; exact rawOf_full hmok
      have HOK : Hid (okMap D k) := Lib.hid ⟨HTOK.out, hmok, by rw [HVER.out]; simpa using hmv⟩
      have HLD := Lib.hid (load_any bd hsz)
      have HVZ := Lib.hid hvz
      have x0 := HXZ.out.cell 0
      have xl := HXZ.out.lt
      have hzz := zero_ver
      have hlog : lo ≤ g := hvz.lg
      have HLO := Lib.hid (show lo ≤ W.heap.size from Nat.le_trans HV.out.lg (Nat.le_of_lt HV.out.blk.lt))
      clear hmo hmv h1 hvz hsz hmok hlog
      go_wp2_with fail
      refine (HLD.out _).mono ?_
      rintro e w4 ⟨rfl, g4⟩
      have hb5 : Blk ((w4.alloc (.cells (verArr fun _ => 0#32) 94)).setRow w4.heap.size (verArr (fld bd))) w4.heap.size 94 (verArr (fld bd)) := (Blk.new w4 _ _ rfl).setRow _
      have hg5 : Grew wz ((w4.alloc (.cells (verArr fun _ => 0#32) 94)).setRow w4.heap.size (verArr (fld bd))) := (g4.alloc _).setRow g4.size _
      have hv5 := HVZ.out.grew hg5
      have y2 := hv5.blk.cell 2
      have yl := hv5.blk.lt
      have HV5 := Lib.hid hv5
      have HB5 := Lib.hid hb5
      have HL5 := Lib.hid (HLZ.out.grew hg5)
      have hw4 : lo ≤ w4.heap.size := by have := HLO.out; have := HLZ.out.turned.size; have := g4.size; omega
      clear hb5 hg5 hv5 g4 x0 xl
      go_wp2_with (first | (refine wpList_store_blk rfl 94 _ _ rfl w4.heap.size (verArr (fld bd)) rfl rfl 94 (verArr fun _ => 0#32) (Blk.new w4 _ _ rfl) (by rw [verArr_size, verArr_size]) (by rw [verArr_size]; exact info_ver) (verArr_one _) ?_) | (refine wpList_mapUpdate_is rfl _ _ _ 96 rfl 97 int_keyedI intV_inj Try.underlying96 rfl HV5.out.map (k : Int) HKL.out (ptrV w4.heap.size) rfl rfl ?_; intro w6 hm6 ht6; have hv6 := HV5.out.setMap hw4 (by rw [HBD.out]; exact HB5.out) HOK.out hm6 ht6; have q2 := hv6.blk.cell 2; have ql := hv6.blk.lt; have hlk6 := hv6.map.lookup_val int_keyedI intV_inj Try.underlying96 (zero_ptr _) (k : Int) HKL.out; rw [upd_same, Option.getD_some] at hlk6; have HV6 := Lib.hid hv6; have HT6 := Lib.hid ht6; clear hv6 ht6 hm6))
      go_ret2
      have hT6 : Turned (fun q => q = m ∨ lo ≤ q) W w6 := (HL5.out.turned.mono fun _ _ hq => .inl hq).trans (HT6.out.mono fun q _ hq => .inr (by rw [hq]; exact HV.out.lm))
      have hT7 : Turned (fun q => q = m ∨ q = g ∨ q = mm) W w6 := (HL5.out.turned.mono fun _ _ hq => .inl hq).trans (HT6.out.mono fun q _ hq => .inr (.inr hq))
      have hlm := HV.out.lm
      have hls := hlow.2
      exact ⟨⟨fun _ => ⟨w4.heap.size, rfl, by rw [HBD.out]; exact HB5.out.turned HT6.out (HV5.out.ver_ne HB5.out).2, hw4⟩, fun hn => absurd HOK.out hn⟩, HUP.out _ hT6 (HL5.out.store.kept HT6.out (by omega) (by omega)), ⟨_, _, HV6.out⟩, HTW.out.trans hT7⟩
set_option maxRecDepth 100000 in
set_option maxHeartbeats 2000000 in
theorem load_nil (hv : ViewAt W lo g s mm (.pointer none) F D) : Calls Try.prog 85 #[ptrV g, .int .i64 (k : Int)] W (LoadR w0 x s m sy ep D out W lo g mm k) := by
  have HUP0 := Lib.hid (fun (w' : World) (ht : Turned (fun q => q = m ∨ lo ≤ q) W w') (hst : StoreM w' s m x sy ep) => h.up hlow hm ht hst)
  have hgb := hv.blk
  have g0 := hgb.cell 0
  have g1 := hgb.cell 1
  have g2 := hgb.cell 2
  have gl := hgb.lt
  obtain ⟨kl, hkl⟩ := int_key (k : Int) (okI_small _ (by omega))
  have hki : (0 : Int) ≤ (k : Int) ∧ (k : Int) < 32 := by omega
  have HV0 := Lib.hid hv
  have HTOP := Lib.hid (top_any h)
  have htd := topD_is hf (by omega)
  obtain ⟨⟨td, tv, tk⟩, ht⟩ : ∃ r, topI D = r := ⟨_, rfl⟩
  have hlm : lo ≤ W.heap.size := Nat.le_trans hv.lg (Nat.le_of_lt hv.blk.lt)
  rw [htd, ht] at HTOP
  cases tk with
  | false =>
    have HNO : Hid (¬ okMap D k) := Lib.hid (fun hn => by have := hn.1; rw [ht] at this; cases this)
    have HME : Hid (mapErr D k = 11) := Lib.hid (by unfold mapErr; rw [ht]; rfl)
    clear h hv hkl hgb hf hlen htd ht
    go_enter Try.func85, Try.ntmps85
    go_wp2_with fail
    refine HTOP.out.mono ?_
    rintro e w1 ⟨rfl, hl1⟩
    unfold rawV
    have HLZ := Lib.hid (hl1.grew ((Grew.refl w1).alloc (.cells #[.string td, .int .u32 (u32 tv), .bool false] 87)))
    clear hl1
    go_wp2_with fail
    go_ret2
    exact ⟨⟨fun hn => absurd hn HNO.out, fun _ => by rw [HME.out]; rfl⟩, HUP0.out _ (HLZ.out.turned.mono fun _ _ hq => .inl hq) HLZ.out.store, ⟨_, _, HV0.out.looked HLZ.out hm⟩, HLZ.out.turned.mono fun _ _ hq => .inl hq⟩
  | true =>
    have hsz : td.size = 128 := by
      have e9 : rawOf (D.content 0) 0 = topI D := rfl
      have := rawOf_full (t := D.content 0) (i := 0) (by rw [e9, ht])
      rw [e9, ht] at this
      exact this
    have htok0 : (topI D).ok = true := by rw [ht]
    have htdat : (topI D).data = td := by rw [ht]
    have HLD := Lib.hid (load_any td hsz)
    have HMI0 := Lib.hid (fun v => map_is hf k hk hlen v)
    have hzz := zero_ver
    clear hsz htd ht
    go_enter Try.func85, Try.ntmps85
    go_wp2_with fail
    refine HTOP.out.mono ?_
    rintro e w1 ⟨rfl, hl1⟩
    unfold rawV
    have hlz := hl1.grew ((Grew.refl w1).alloc (.cells #[.string td, .int .u32 (u32 tv), .bool true] 87))
    clear hl1
    go_wp2_with fail
    refine (HLD.out _).mono ?_
    rintro e w3 ⟨rfl, g3⟩
    have hl3 := hlz.grew g3
    have hw3 : lo ≤ w3.heap.size := Nat.le_trans hlm (hl3.turned.size)
    have hg4 : Grew w3 ((w3.alloc (.cells (verArr fun _ => 0#32) 94)).setRow w3.heap.size (verArr (fld td))) := ((Grew.refl w3).alloc _).setRow (Nat.le_refl _) _
    have hb4 : Blk ((w3.alloc (.cells (verArr fun _ => 0#32) 94)).setRow w3.heap.size (verArr (fld td))) w3.heap.size 94 (verArr (fld td)) := (Blk.new w3 _ _ rfl).setRow _
    have hv4 := (HV0.out.looked hl3 hm).grew hg4
    have k1 := hv4.blk.cell 1
    have kf := hv4.blk.frozen 1
    have kll := hv4.blk.lt
    have hv5 := hv4.setTop hw3 (by rw [htdat]; exact hb4) htok0
    have hT5 : Turned (fun q => q = m ∨ lo ≤ q) W (((w3.alloc (.cells (verArr fun _ => 0#32) 94)).setRow w3.heap.size (verArr (fld td))).setCell ⟨g, 1, none⟩ (ptrV w3.heap.size)) := (((hl3.turned.mono fun _ _ hq => .inl hq).trans (hg4.turned _))).setCell (p := ⟨g, 1, none⟩) (fun _ => .inr hv.lg) _
    have hst5 : StoreM (((w3.alloc (.cells (verArr fun _ => 0#32) 94)).setRow w3.heap.size (verArr (fld td))).setCell ⟨g, 1, none⟩ (ptrV w3.heap.size)) s m x sy ep := (hl3.store.grew hg4).kept (S := fun q => q = g) ((Turned.refl (fun q => q = g) _).setCell (p := ⟨g, 1, none⟩) (fun _ => rfl) _) (by have := hv.lg; have := hlow.2; omega) (by have := hv.lg; omega)
    have hh5 := HUP0.out _ hT5 hst5
    have hgb := hv5.blk
    have g0 := hgb.cell 0
    have g1 := hgb.cell 1
    have g2 := hgb.cell 2
    have gl := hgb.lt
    have hlk := hv5.map.lookup_val int_keyedI intV_inj Try.underlying96 (zero_ptr _) (k : Int) hkl
    have HUP := Lib.hid (fun (w' : World) (ht : Turned (fun q => q = m ∨ lo ≤ q) (((w3.alloc (.cells (verArr fun _ => 0#32) 94)).setRow w3.heap.size (verArr (fld td))).setCell ⟨g, 1, none⟩ (ptrV w3.heap.size)) w') (hst : StoreM w' s m x sy ep) => HUP0.out w' (hT5.trans ht) hst)
    have HTW : Hid (Turned (fun q => q = m ∨ q = g ∨ q = mm) W (((w3.alloc (.cells (verArr fun _ => 0#32) 94)).setRow w3.heap.size (verArr (fld td))).setCell ⟨g, 1, none⟩ (ptrV w3.heap.size))) := Lib.hid ((((hl3.turned.mono fun _ _ hq => .inl hq).trans (hg4.turned _))).setCell (p := ⟨g, 1, none⟩) (fun _ => .inr (.inl rfl)) _)
    have h' := hh5
    obtain ⟨out', hout'⟩ : ∃ o, o = up out lo (((w3.alloc (.cells (verArr fun _ => 0#32) 94)).setRow w3.heap.size (verArr (fld td))).setCell ⟨g, 1, none⟩ (ptrV w3.heap.size)) := ⟨_, rfl⟩
    rw [← hout'] at h'
    have HH := Lib.hid h'
    have HV := Lib.hid hv5
    have HT3 := Lib.hid (show lo ≤ w3.heap.size ∧ Blk (((w3.alloc (.cells (verArr fun _ => 0#32) 94)).setRow w3.heap.size (verArr (fld td))).setCell ⟨g, 1, none⟩ (ptrV w3.heap.size)) w3.heap.size 94 (verArr (fld (topI D).data)) from ⟨hw3, by rw [htdat]; exact hb4.turned (S := fun q => q = g) ((Turned.refl (fun q => q = g) _).setCell (p := ⟨g, 1, none⟩) (fun _ => rfl) _) (hv4.ver_ne hb4).1⟩)
    clear hout' hT5 hst5 hh5 h' hl3 hlz hg4 hb4 hv4
    cases hF : F (k : Int) with
    | some v =>
      obtain ⟨b, j, hj, rfl, hb0, hbb, hok⟩ := hv5.maps _ _ hF
      obtain rfl : k = j := by omega
      rw [hF, Option.getD_some] at hlk
      have HP := Lib.hid (show okMap D k ∧ Blk (((w3.alloc (.cells (verArr fun _ => 0#32) 94)).setRow w3.heap.size (verArr (fld td))).setCell ⟨g, 1, none⟩ (ptrV w3.heap.size)) b 94 (verArr (fld (mapI D k).data)) ∧ lo ≤ b from ⟨hok, hbb, hb0⟩)
      clear h hv hkl hF hbb hok hgb hf hlen hv5 htok0 htdat
      go_wp2_with (first | (refine wpList_store_blk rfl 94 _ _ rfl w3.heap.size (verArr (fld td)) rfl rfl 94 (verArr fun _ => 0#32) (Blk.new w3 _ _ rfl) (by rw [verArr_size, verArr_size]) (by rw [verArr_size]; exact info_ver) (verArr_one _) ?_))
      go_ret2
      exact ⟨⟨fun _ => ⟨b, rfl, HP.out.2.1, HP.out.2.2⟩, fun hn => absurd HP.out.1 hn⟩, HUP.out _ (Turned.refl _ _) HH.out.store, ⟨_, _, HV.out⟩, HTW.out⟩
    | none =>
      rw [hF, Option.getD_none] at hlk
      obtain ⟨ver, hver⟩ : ∃ ver, fld (topI D).data k = ver := ⟨_, rfl⟩
      have tc := HT3.out.2.cell k
      rw [verArr_get _ _ hk, hver] at tc
      have tl := HT3.out.2.lt
      have HBE := Lib.hid (fun (w1 : World) (hh : Held w0 x s m sy ep D out' w1) => below_any hh (1 + (k : Int)) (okI_small _ (by omega)) ver)
      have HMI := Lib.hid (HMI0.out ver)
      have hwk : IntKind.i64.wrap (1 + (k : Int)) = 1 + (k : Int) := IntWalk.i64_in _ (by omega)
      have hkk : (0 : Int) ≤ 1 + (k : Int) := by omega
      have HFN := Lib.hid hF
      have HTOK := Lib.hid htok0
      have HKL := Lib.hid hkl
      have HVER := Lib.hid hver
      obtain ⟨⟨⟨bd, bv, bb⟩, er⟩, hbel⟩ : ∃ r, belowD D (1 + (k : Int)) ver = r := ⟨_, rfl⟩
      rw [hbel] at HBE HMI
      clear h hv hkl hF hgb hf hlen htok0 hver hbel hv5 htdat
      go_wp2_with (first | (refine wpList_store_blk rfl 94 _ _ rfl w3.heap.size (verArr (fld td)) rfl rfl 94 (verArr fun _ => 0#32) (Blk.new w3 _ _ rfl) (by rw [verArr_size, verArr_size]) (by rw [verArr_size]; exact info_ver) (verArr_one _) ?_))
      clear k1 kf kll HV0 HT3
      generalize hW5 : (((w3.alloc (.cells (verArr fun _ => 0#32) 94)).setRow w3.heap.size (verArr (fld td))).setCell ⟨g, 1, none⟩ (ptrV w3.heap.size)) = w5 at *
      clear hW5
      generalize hgt : w3.heap.size = t' at *
      clear hgt
      refine wp_region_R [14, 19] (fun w' : World => w'.cell? ⟨g, 0, none⟩ = some (ptrV s) ∧ w'.cell? ⟨g, 1, none⟩ = some (ptrV t') ∧ g < w'.heap.size ∧ w'.cell? ⟨t', k, none⟩ = some (.int .u32 (u32 ver)) ∧ t' < w'.heap.size) (by kernel_rfl) ?_
      have hS := (show (fun w' : World => w'.cell? ⟨g, 0, none⟩ = some (ptrV s) ∧ w'.cell? ⟨g, 1, none⟩ = some (ptrV t') ∧ g < w'.heap.size ∧ w'.cell? ⟨t', k, none⟩ = some (.int .u32 (u32 ver)) ∧ t' < w'.heap.size) w5.drew from ⟨g0, g1, gl, tc, tl⟩)
      refine wpAnyR_takeQ (i := 0) (v := ?_) (some 42) rfl rfl (by kernel_rfl) (by kernel_rfl) (by kernel_rfl) (by kernel_rfl) (fun _ _ _ h => h) (Or.inl ⟨by rfl, ?_⟩) ?_
      rotate_left
      focus (intro wS hSw; (try dsimp only at hSw); go_simp; (try with_reducible rfl); (try (first | (rw [if_pos (by omega)]; (try go_simp); (try with_reducible rfl)) | (rw [if_neg (by omega)]; (try go_simp); (try with_reducible rfl)))))
      try simp only [Act.put, List.setIfInBounds_toArray, List.set_cons_zero, List.set_cons_succ]
      refine wpAnyR_take (i := 1) (v := ?_) [2, 3, 14, 15, 16, 17, 19, 20] (some 43) rfl rfl (by kernel_rfl) (by kernel_rfl) (by kernel_rfl) (by kernel_rfl) (by kernel_rfl) (by kernel_rfl) (by kernel_rfl) (fun _ _ _ h => h) (Or.inl ⟨by rfl, ?_⟩) hS ?_
      rotate_left
      focus (intro wS hSw; (try dsimp only at hSw); go_simp; (try with_reducible rfl); (try (first | (rw [if_pos (by omega)]; (try go_simp); (try with_reducible rfl)) | (rw [if_neg (by omega)]; (try go_simp); (try with_reducible rfl)))))
      try simp only [Act.put, List.setIfInBounds_toArray, List.set_cons_zero, List.set_cons_succ]
      refine wpAnyR_takeQ (i := 2) (v := ?_) (some 44) rfl rfl (by kernel_rfl) (by kernel_rfl) (by kernel_rfl) (by kernel_rfl) (fun _ _ _ h => h) (Or.inl ⟨by rfl, ?_⟩) ?_
      rotate_left
      focus (intro wS hSw; (try dsimp only at hSw); go_simp; (try with_reducible rfl); (try (first | (rw [if_pos (by omega)]; (try go_simp); (try with_reducible rfl)) | (rw [if_neg (by omega)]; (try go_simp); (try with_reducible rfl)))))
      try simp only [Act.put, List.setIfInBounds_toArray, List.set_cons_zero, List.set_cons_succ]
      refine wpAnyR_take (i := 3) (v := ?_) [14, 15, 16, 17, 19, 20] (some 45) rfl rfl (by kernel_rfl) (by kernel_rfl) (by kernel_rfl) (by kernel_rfl) (by kernel_rfl) (by kernel_rfl) (by kernel_rfl) (fun _ _ _ h => h) (Or.inl ⟨by rfl, ?_⟩) hS ?_
      rotate_left
      focus (intro wS hSw; (try dsimp only at hSw); go_simp; (try with_reducible rfl); (try (first | (rw [if_pos (by omega)]; (try go_simp); (try with_reducible rfl)) | (rw [if_neg (by omega)]; (try go_simp); (try with_reducible rfl)))))
      try simp only [Act.put, List.setIfInBounds_toArray, List.set_cons_zero, List.set_cons_succ]
      refine wpAnyR_takeQ (i := 4) (v := ?_) (some 46) rfl rfl (by kernel_rfl) (by kernel_rfl) (by kernel_rfl) (by kernel_rfl) (fun _ _ _ h => h) (Or.inl ⟨by rfl, ?_⟩) ?_
      rotate_left
      focus (intro wS hSw; (try dsimp only at hSw); go_simp; (try with_reducible rfl); (try (first | (rw [if_pos (by omega)]; (try go_simp); (try with_reducible rfl)) | (rw [if_neg (by omega)]; (try go_simp); (try with_reducible rfl)))))
      try simp only [Act.put, List.setIfInBounds_toArray, List.set_cons_zero, List.set_cons_succ]
      refine wpAnyR_takeQ (i := 5) (v := ?_) (some 47) rfl rfl (by kernel_rfl) (by kernel_rfl) (by kernel_rfl) (by kernel_rfl) (fun _ _ _ h => h) (Or.inl ⟨by rfl, ?_⟩) ?_
      rotate_left
      focus (intro wS hSw; (try dsimp only at hSw); go_simp; (try with_reducible rfl); (try (first | (rw [if_pos (by omega)]; (try go_simp); (try with_reducible rfl)) | (rw [if_neg (by omega)]; (try go_simp); (try with_reducible rfl)))))
      try simp only [Act.put, List.setIfInBounds_toArray, List.set_cons_zero, List.set_cons_succ]
      refine wpAnyR_takeQ (i := 6) (v := ?_) (some 48) rfl rfl (by kernel_rfl) (by kernel_rfl) (by kernel_rfl) (by kernel_rfl) (fun _ _ _ h => h) (Or.inl ⟨by rfl, ?_⟩) ?_
      rotate_left
      focus (intro wS hSw; (try dsimp only at hSw); go_simp; (try with_reducible rfl); (try (first | (rw [if_pos (by omega)]; (try go_simp); (try with_reducible rfl)) | (rw [if_neg (by omega)]; (try go_simp); (try with_reducible rfl)))))
      try simp only [Act.put, List.setIfInBounds_toArray, List.set_cons_zero, List.set_cons_succ]
      refine wpAnyR_take (i := 7) (v := ?_) [8, 9, 11, 12, 13, 14, 15, 16, 17, 19, 20] (some 49) rfl rfl (by kernel_rfl) (by kernel_rfl) (by kernel_rfl) (by kernel_rfl) (by kernel_rfl) (by kernel_rfl) (by kernel_rfl) (fun _ _ _ h => h) (Or.inl ⟨by rfl, ?_⟩) hS ?_
      rotate_left
      focus (intro wS hSw; (try dsimp only at hSw); go_simp; (try with_reducible rfl); (try (first | (rw [if_pos (by omega)]; (try go_simp); (try with_reducible rfl)) | (rw [if_neg (by omega)]; (try go_simp); (try with_reducible rfl)))))
      try simp only [Act.put, List.setIfInBounds_toArray, List.set_cons_zero, List.set_cons_succ]
      refine wpAnyR_takeQ (i := 8) (v := ?_) (some 50) rfl rfl (by kernel_rfl) (by kernel_rfl) (by kernel_rfl) (by kernel_rfl) (fun _ _ _ h => h) (Or.inl ⟨by rfl, ?_⟩) ?_
      rotate_left
      focus (intro wS hSw; (try dsimp only at hSw); go_simp; (try with_reducible rfl); (try (first | (rw [if_pos (by omega)]; (try go_simp); (try with_reducible rfl)) | (rw [if_neg (by omega)]; (try go_simp); (try with_reducible rfl)))))
      try simp only [Act.put, List.setIfInBounds_toArray, List.set_cons_zero, List.set_cons_succ]
      refine wpAnyR_take (i := 9) (v := ?_) [11, 12, 13, 14, 15, 16, 17, 19, 20] (some 51) rfl rfl (by kernel_rfl) (by kernel_rfl) (by kernel_rfl) (by kernel_rfl) (by kernel_rfl) (by kernel_rfl) (by kernel_rfl) (fun _ _ _ h => h) (Or.inl ⟨by rfl, ?_⟩) hS ?_
      rotate_left
      focus (intro wS hSw; (try dsimp only at hSw); go_simp; (try with_reducible rfl); (try (first | (rw [if_pos (by omega)]; (try go_simp); (try with_reducible rfl)) | (rw [if_neg (by omega)]; (try go_simp); (try with_reducible rfl)))))
      try simp only [Act.put, List.setIfInBounds_toArray, List.set_cons_zero, List.set_cons_succ]
      refine wpAnyR_takeQ (i := 10) (v := ?_) (some 52) rfl rfl (by kernel_rfl) (by kernel_rfl) (by kernel_rfl) (by kernel_rfl) (fun _ _ _ h => h) (Or.inl ⟨by rfl, ?_⟩) ?_
      rotate_left
      focus (intro wS hSw; (try dsimp only at hSw); go_simp; (try with_reducible rfl); (try (first | (rw [if_pos (by omega)]; (try go_simp); (try with_reducible rfl)) | (rw [if_neg (by omega)]; (try go_simp); (try with_reducible rfl)))))
      try simp only [Act.put, List.setIfInBounds_toArray, List.set_cons_zero, List.set_cons_succ]
      refine wpAnyR_take (i := 11) (v := ?_) [12, 13, 14, 15, 16, 17, 19, 20] (some 53) rfl rfl (by kernel_rfl) (by kernel_rfl) (by kernel_rfl) (by kernel_rfl) (by kernel_rfl) (by kernel_rfl) (by kernel_rfl) (fun _ _ _ h => h) (Or.inl ⟨by rfl, ?_⟩) hS ?_
      rotate_left
      focus (intro wS hSw; (try dsimp only at hSw); go_simp; (try with_reducible rfl); (try (first | (rw [if_pos (by omega)]; (try go_simp); (try with_reducible rfl)) | (rw [if_neg (by omega)]; (try go_simp); (try with_reducible rfl)))))
      try simp only [Act.put, List.setIfInBounds_toArray, List.set_cons_zero, List.set_cons_succ]
      refine wpAnyR_takeQ (i := 12) (v := ?_) (some 54) rfl rfl (by kernel_rfl) (by kernel_rfl) (by kernel_rfl) (by kernel_rfl) (fun _ _ _ h => h) (Or.inl ⟨by rfl, ?_⟩) ?_
      rotate_left
      focus (intro wS hSw; (try dsimp only at hSw); go_simp; (try with_reducible rfl); (try (first | (rw [if_pos (by omega)]; (try go_simp); (try with_reducible rfl)) | (rw [if_neg (by omega)]; (try go_simp); (try with_reducible rfl)))))
      try simp only [Act.put, List.setIfInBounds_toArray, List.set_cons_zero, List.set_cons_succ]
      refine wpAnyR_take (i := 13) (v := ?_) [14, 15, 16, 17, 19, 20] (some 55) rfl rfl (by kernel_rfl) (by kernel_rfl) (by kernel_rfl) (by kernel_rfl) (by kernel_rfl) (by kernel_rfl) (by kernel_rfl) (fun _ _ _ h => h) (Or.inl ⟨by rfl, ?_⟩) hS ?_
      rotate_left
      focus (intro wS hSw; (try dsimp only at hSw); go_simp; (try with_reducible rfl); (try (first | (rw [if_pos (by omega)]; (try go_simp); (try with_reducible rfl)) | (rw [if_neg (by omega)]; (try go_simp); (try with_reducible rfl)))))
      try simp only [Act.put, List.setIfInBounds_toArray, List.set_cons_zero, List.set_cons_succ]
      refine wpAnyR_n2 (i := 14) (j := 18) rfl rfl (by kernel_rfl) ?faa ?fab
      case' faa =>
        intro K' hK
        rw [if_pos (by rfl)]
        simp only [List.getElem_toArray, List.getElem_cons_succ, List.getElem_cons_zero]
        go_wp2_with fail
        refine (HBE.out _ (HH.out.grew (Grew.refl w5).drew)).mono ?_
        rintro e w1 ⟨rfl, hl1⟩
        unfold rawV
        have hlz : Looked w0 x s m sy ep D out' w5 (w1.alloc (.cells #[.string bd, .int .u32 (u32 bv), .bool bb] 87)) := ((HH.out.same (Grew.refl w5).drew).trans hl1).grew ((Grew.refl w1).alloc _)
        have hxz : Blk (w1.alloc (.cells #[.string bd, .int .u32 (u32 bv), .bool bb] 87)) w1.heap.size 87 #[.string bd, .int .u32 (u32 bv), .bool bb] := Blk.new w1 _ _ rfl
        have hgx : w5.heap.size ≤ w1.heap.size := hl1.turned.size
        have hz0 : Blk (w1.alloc (.cells #[.string ⟨#[]⟩, .int .u32 0, .bool false] 87)) w1.heap.size 87 #[.string ⟨#[]⟩, .int .u32 0, .bool false] := Blk.new w1 _ _ rfl
        clear hl1
        go_wp2_with fail
        refine hK.out _ _ (.inl (by rfl)) ?_
        clear hK
        refine wpAnyR_takeQ (i := 15) (v := ?_) (some 41) rfl rfl (by kernel_rfl) (by kernel_rfl) (by kernel_rfl) (by kernel_rfl) (fun _ _ _ h => h) (Or.inl ⟨by rfl, ?_⟩) ?_
        rotate_left
        focus (intro wS hSw; (try dsimp only at hSw); go_simp; (try with_reducible rfl); (try (first | (rw [if_pos (by omega)]; (try go_simp); (try with_reducible rfl)) | (rw [if_neg (by omega)]; (try go_simp); (try with_reducible rfl)))))
        try simp only [Act.put, List.setIfInBounds_toArray, List.set_cons_zero, List.set_cons_succ]
        refine wpAnyR_takeQ (i := 16) (v := ?_) (some 57) rfl rfl (by kernel_rfl) (by kernel_rfl) (by kernel_rfl) (by kernel_rfl) (fun _ _ _ h => h) (Or.inl ⟨by rfl, ?_⟩) ?_
        rotate_left
        focus (intro wS hSw; (try dsimp only at hSw); go_simp; (try with_reducible rfl); (try (first | (rw [if_pos (by omega)]; (try go_simp); (try with_reducible rfl)) | (rw [if_neg (by omega)]; (try go_simp); (try with_reducible rfl)))))
        try simp only [Act.put, List.setIfInBounds_toArray, List.set_cons_zero, List.set_cons_succ]
        refine wpAnyR_takeQ (i := 17) (v := ?_) (some 58) rfl rfl (by kernel_rfl) (by kernel_rfl) (by kernel_rfl) (by kernel_rfl) (fun _ _ _ h => h) (Or.inl ⟨by rfl, ?_⟩) ?_
        rotate_left
        focus (intro wS hSw; (try dsimp only at hSw); go_simp; (try with_reducible rfl); (try (first | (rw [if_pos (by omega)]; (try go_simp); (try with_reducible rfl)) | (rw [if_neg (by omega)]; (try go_simp); (try with_reducible rfl)))))
        try simp only [Act.put, List.setIfInBounds_toArray, List.set_cons_zero, List.set_cons_succ]
        refine wpAnyR_n1 (i := 18) rfl (by kernel_rfl) ?_
        intro K' hK
        rw [if_pos (by rfl)]
        simp only [List.getElem_toArray, List.getElem_cons_succ, List.getElem_cons_zero]
        go_wp2_with fail
        refine hK.out _ _ (.inr (fun hS => view_S ((Grew.refl w1).alloc _) hS)) ?_
        clear hK
        refine wpAnyR_n1 (i := 19) rfl (by kernel_rfl) ?_
        intro K' hK
        rw [if_pos (by rfl)]
        simp only [List.getElem_toArray, List.getElem_cons_succ, List.getElem_cons_zero]
        go_wp2_with fail
        refine hK.out _ _ (.inl (by rfl)) ?_
        clear hK hz0
        refine wpAnyR_takeQ (i := 20) (v := ?_) (some 10) rfl rfl (by kernel_rfl) (by kernel_rfl) (by kernel_rfl) (by kernel_rfl) (fun _ _ _ h => h) (Or.inl ⟨by rfl, ?_⟩) ?_
        rotate_left
        focus (intro wS hSw; (try dsimp only at hSw); go_simp; (try with_reducible rfl); (try (first | (rw [if_pos (by omega)]; (try go_simp); (try with_reducible rfl)) | (rw [if_neg (by omega)]; (try go_simp); (try with_reducible rfl)))))
        try simp only [Act.put, List.setIfInBounds_toArray, List.set_cons_zero, List.set_cons_succ]
        refine wpAnyR_done (by kernel_rfl) ?_ _
        generalize hwz : w1.alloc (.cells #[.string bd, .int .u32 (u32 bv), .bool bb] 87) = wz at *
        generalize hgz : w1.heap.size = gx at *
        clear hwz hgz
      case' fab =>
        intro K' hK
        rw [if_pos (by rfl)]
        simp only [List.getElem_toArray, List.getElem_cons_succ, List.getElem_cons_zero]
        go_wp2_with fail
        have hgb : Grew w5 (w5.alloc (.cells #[.string ⟨#[]⟩, .int .u32 0, .bool false] 87)).drew := ((Grew.refl w5).alloc _).drew
        have hzb : Blk (w5.alloc (.cells #[.string ⟨#[]⟩, .int .u32 0, .bool false] 87)).drew w5.heap.size 87 #[.string ⟨#[]⟩, .int .u32 0, .bool false] := (Blk.new w5 _ _ rfl).drew
        refine hK.out _ _ (.inr (fun hS => view_S ((Grew.refl w5.drew).alloc _) hS)) ?_
        clear hK
        refine wpAnyR_n1 (i := 14) rfl (by kernel_rfl) ?_
        intro K' hK
        rw [if_pos (by rfl)]
        simp only [List.getElem_toArray, List.getElem_cons_succ, List.getElem_cons_zero]
        go_wp2_with fail
        refine (HBE.out _ (HH.out.grew hgb)).mono ?_
        rintro e w1 ⟨rfl, hl1⟩
        unfold rawV
        have hml := HH.out.store.lt.2
        have hz1 := hzb.looked hl1 (by omega)
        have z0 := hz1.cell 0
        have z1 := hz1.cell 1
        have z2 := hz1.cell 2
        have f0 := hz1.frozen 0
        have f1 := hz1.frozen 1
        have f2 := hz1.frozen 2
        have zl := hz1.lt
        have hgx : w5.heap.size ≤ w5.heap.size := Nat.le_refl _
        have hlz : Looked w0 x s m sy ep D out' w5 (((w1.setCell ⟨w5.heap.size, 0, none⟩ (.string bd)).setCell ⟨w5.heap.size, 1, none⟩ (.int .u32 (u32 bv))).setCell ⟨w5.heap.size, 2, none⟩ (.bool bb)) := looked_loc HH.out ((HH.out.same hgb).trans hl1) (by (repeat' first | (with_reducible exact Turned.refl _ _) | (with_reducible assumption) | (with_reducible refine Turned.alloc ?_ _) | (with_reducible refine Turned.drew ?_) | (with_reducible refine Turned.drewN ?_ _) | (with_reducible refine Turned.setRow ?_ (by first | (simp; done) | (simp; omega) | omega) _) | (with_reducible refine Turned.setCell ?_ (by first | (simp; done) | (simp; omega) | omega) _) | ((with_reducible apply Turned.andGrew); rotate_left; (with_reducible assumption)) | ((with_reducible apply Turned.trans); rotate_left; (with_reducible assumption)) | fail))
        have hxz : Blk (((w1.setCell ⟨w5.heap.size, 0, none⟩ (.string bd)).setCell ⟨w5.heap.size, 1, none⟩ (.int .u32 (u32 bv))).setCell ⟨w5.heap.size, 2, none⟩ (.bool bb)) w5.heap.size 87 #[.string bd, .int .u32 (u32 bv), .bool bb] := by (apply Blk.conv; (· (repeat' first | (with_reducible assumption) | (with_reducible apply Blk.setRow) | ((with_reducible apply Blk.farRow); rotate_left; (focus (first | (simp; done) | (simp; omega) | omega))) | (with_reducible apply Blk.drew) | (with_reducible apply Blk.drewN) | (with_reducible apply Blk.set_) | (with_reducible exact Blk.new _ _ _ (by first | rfl | (simp; done) | (simp; omega))) | (with_reducible apply Blk.alloc) | ((with_reducible apply Blk.far); rotate_left; (focus (first | (simp; done) | (simp; omega) | omega))) | ((with_reducible apply Blk.grew); rotate_left; (with_reducible assumption)) | ((with_reducible apply Blk.turned); rotate_left; (with_reducible assumption); (focus (first | (simp; done) | (simp; omega) | omega))) | fail)); (· rfl))
        clear hl1 hz1 hml hgb hzb
        go_wp2_with fail
        refine hK.out _ _ (.inl (by rfl)) ?_
        clear hK
        refine wpAnyR_takeQ (i := 15) (v := ?_) (some 41) rfl rfl (by kernel_rfl) (by kernel_rfl) (by kernel_rfl) (by kernel_rfl) (fun _ _ _ h => h) (Or.inl ⟨by rfl, ?_⟩) ?_
        rotate_left
        focus (intro wS hSw; (try dsimp only at hSw); go_simp; (try with_reducible rfl); (try (first | (rw [if_pos (by omega)]; (try go_simp); (try with_reducible rfl)) | (rw [if_neg (by omega)]; (try go_simp); (try with_reducible rfl)))))
        try simp only [Act.put, List.setIfInBounds_toArray, List.set_cons_zero, List.set_cons_succ]
        refine wpAnyR_takeQ (i := 16) (v := ?_) (some 57) rfl rfl (by kernel_rfl) (by kernel_rfl) (by kernel_rfl) (by kernel_rfl) (fun _ _ _ h => h) (Or.inl ⟨by rfl, ?_⟩) ?_
        rotate_left
        focus (intro wS hSw; (try dsimp only at hSw); go_simp; (try with_reducible rfl); (try (first | (rw [if_pos (by omega)]; (try go_simp); (try with_reducible rfl)) | (rw [if_neg (by omega)]; (try go_simp); (try with_reducible rfl)))))
        try simp only [Act.put, List.setIfInBounds_toArray, List.set_cons_zero, List.set_cons_succ]
        refine wpAnyR_takeQ (i := 17) (v := ?_) (some 58) rfl rfl (by kernel_rfl) (by kernel_rfl) (by kernel_rfl) (by kernel_rfl) (fun _ _ _ h => h) (Or.inl ⟨by rfl, ?_⟩) ?_
        rotate_left
        focus (intro wS hSw; (try dsimp only at hSw); go_simp; (try with_reducible rfl); (try (first | (rw [if_pos (by omega)]; (try go_simp); (try with_reducible rfl)) | (rw [if_neg (by omega)]; (try go_simp); (try with_reducible rfl)))))
        try simp only [Act.put, List.setIfInBounds_toArray, List.set_cons_zero, List.set_cons_succ]
        refine wpAnyR_n1 (i := 19) rfl (by kernel_rfl) ?_
        intro K' hK
        rw [if_pos (by rfl)]
        simp only [List.getElem_toArray, List.getElem_cons_succ, List.getElem_cons_zero]
        go_wp2_with fail
        refine hK.out _ _ (.inl (by rfl)) ?_
        clear hK z0 z1 z2 f0 f1 f2 zl
        refine wpAnyR_takeQ (i := 20) (v := ?_) (some 10) rfl rfl (by kernel_rfl) (by kernel_rfl) (by kernel_rfl) (by kernel_rfl) (fun _ _ _ h => h) (Or.inl ⟨by rfl, ?_⟩) ?_
        rotate_left
        focus (intro wS hSw; (try dsimp only at hSw); go_simp; (try with_reducible rfl); (try (first | (rw [if_pos (by omega)]; (try go_simp); (try with_reducible rfl)) | (rw [if_neg (by omega)]; (try go_simp); (try with_reducible rfl)))))
        try simp only [Act.put, List.setIfInBounds_toArray, List.set_cons_zero, List.set_cons_succ]
        refine wpAnyR_done (by kernel_rfl) ?_ _
        generalize hwz : ((w1.setCell ⟨w5.heap.size, 0, none⟩ (.string bd)).setCell ⟨w5.heap.size, 1, none⟩ (.int .u32 (u32 bv))).setCell ⟨w5.heap.size, 2, none⟩ (.bool bb) = wz at hlz hxz ⊢
        obtain ⟨gx, hgz⟩ : ∃ gx, gx = w5.heap.size := ⟨_, rfl⟩
        rw [← hgz] at hxz hgx ⊢
        clear hwz hgz
      all_goals
        have hvz := HV.out.looked hlz hm
        have HLZ := Lib.hid hlz
        have HXZ := Lib.hid hxz
        have hmi := HMI.out
        clear hlz hxz g0 g1 g2 gl tc tl hlk
        by_cases hmo : (mapI D k).ok = false
        · rw [if_pos hmo] at hmi
          injection hmi with h1 h2
          subst h2
          have HNO : Hid (¬ okMap D k) := Lib.hid (fun hn => by rw [hn.2.1] at hmo; cases hmo)
          have HME : Hid (mapErr D k = 11) := Lib.hid (by unfold mapErr; rw [if_neg (by rw [HTOK.out]; simp), if_pos hmo])
          clear hmo h1 hvz
          go_wp2_with fail
          go_ret2
          exact ⟨⟨fun hn => absurd hn HNO.out, fun _ => by rw [HME.out]; rfl⟩, HUP.out _ (HLZ.out.turned.mono fun _ _ hq => .inl hq) HLZ.out.store, ⟨_, _, HV.out.looked HLZ.out hm⟩, HTW.out.trans (HLZ.out.turned.mono fun _ _ hq => .inl hq)⟩
        by_cases hmv : (mapI D k).ver ≠ ver
        · rw [if_neg hmo, if_pos hmv] at hmi
          injection hmi with h1 h2
          subst h2
          have HNO : Hid (¬ okMap D k) := Lib.hid (fun hn => hmv (by rw [← HVER.out]; exact hn.2.2))
          have HME : Hid (mapErr D k = 12) := Lib.hid (by unfold mapErr; rw [if_neg (by rw [HTOK.out]; simp), if_neg hmo])
          clear hmo hmv h1 hvz
          go_wp2_with fail
          go_ret2
          exact ⟨⟨fun hn => absurd hn HNO.out, fun _ => by rw [HME.out]; rfl⟩, HUP.out _ (HLZ.out.turned.mono fun _ _ hq => .inl hq) HLZ.out.store, ⟨_, _, HV.out.looked HLZ.out hm⟩, HTW.out.trans (HLZ.out.turned.mono fun _ _ hq => .inl hq)⟩
        rw [if_neg hmo, if_neg hmv] at hmi
        injection hmi with h1 h2
        subst h2
        have hmok : (mapI D k).ok = true := by simpa using hmo
        have HBD : Hid ((mapI D k).data = bd) := Lib.hid (by rw [← h1])
        have hsz : bd.size = 128 := by rw [← HBD.out]; exact rawOf_full hmok
        have HOK : Hid (okMap D k) := Lib.hid ⟨HTOK.out, hmok, by rw [HVER.out]; simpa using hmv⟩
        have HLD := Lib.hid (load_any bd hsz)
        have HVZ := Lib.hid hvz
        have x0 := HXZ.out.cell 0
        have xl := HXZ.out.lt
        have hzz := zero_ver
        have hlog : lo ≤ g := hvz.lg
        have HLO := Lib.hid (show lo ≤ w5.heap.size from Nat.le_trans HV.out.lg (Nat.le_of_lt HV.out.blk.lt))
        clear hmo hmv h1 hvz hsz hmok hlog
        go_wp2_with fail
        refine (HLD.out _).mono ?_
        rintro e w4 ⟨rfl, g4⟩
        have hb5 : Blk ((w4.alloc (.cells (verArr fun _ => 0#32) 94)).setRow w4.heap.size (verArr (fld bd))) w4.heap.size 94 (verArr (fld bd)) := (Blk.new w4 _ _ rfl).setRow _
        have hg5 : Grew wz ((w4.alloc (.cells (verArr fun _ => 0#32) 94)).setRow w4.heap.size (verArr (fld bd))) := (g4.alloc _).setRow g4.size _
        have hv5 := HVZ.out.grew hg5
        have y2 := hv5.blk.cell 2
        have yl := hv5.blk.lt
        have HV5 := Lib.hid hv5
        have HB5 := Lib.hid hb5
        have HL5 := Lib.hid (HLZ.out.grew hg5)
        have hw4 : lo ≤ w4.heap.size := by have := HLO.out; have := HLZ.out.turned.size; have := g4.size; omega
        clear hb5 hg5 hv5 g4 x0 xl
        go_wp2_with (first | (refine wpList_store_blk rfl 94 _ _ rfl w4.heap.size (verArr (fld bd)) rfl rfl 94 (verArr fun _ => 0#32) (Blk.new w4 _ _ rfl) (by rw [verArr_size, verArr_size]) (by rw [verArr_size]; exact info_ver) (verArr_one _) ?_) | (refine wpList_mapUpdate_is rfl _ _ _ 96 rfl 97 int_keyedI intV_inj Try.underlying96 rfl HV5.out.map (k : Int) HKL.out (ptrV w4.heap.size) rfl rfl ?_; intro w6 hm6 ht6; have hv6 := HV5.out.setMap hw4 (by rw [HBD.out]; exact HB5.out) HOK.out hm6 ht6; have q2 := hv6.blk.cell 2; have ql := hv6.blk.lt; have hlk6 := hv6.map.lookup_val int_keyedI intV_inj Try.underlying96 (zero_ptr _) (k : Int) HKL.out; rw [upd_same, Option.getD_some] at hlk6; have HV6 := Lib.hid hv6; have HT6 := Lib.hid ht6; clear hv6 ht6 hm6))
        go_ret2
        have hT6 : Turned (fun q => q = m ∨ lo ≤ q) w5 w6 := (HL5.out.turned.mono fun _ _ hq => .inl hq).trans (HT6.out.mono fun q _ hq => .inr (by rw [hq]; exact HV.out.lm))
        have hT7 : Turned (fun q => q = m ∨ q = g ∨ q = mm) w5 w6 := (HL5.out.turned.mono fun _ _ hq => .inl hq).trans (HT6.out.mono fun q _ hq => .inr (.inr hq))
        have hlm := HV.out.lm
        have hls := hlow.2
        exact ⟨⟨fun _ => ⟨w4.heap.size, rfl, by rw [HBD.out]; exact HB5.out.turned HT6.out (HV5.out.ver_ne HB5.out).2, hw4⟩, fun hn => absurd HOK.out hn⟩, HUP.out _ hT6 (HL5.out.store.kept HT6.out (by omega) (by omega)), ⟨_, _, HV6.out⟩, HTW.out.trans hT7⟩
end
end Go.Proofs.Ytbddelefglhaaaa
namespace Go.Proofs.Ytbddelefglhaaaa
set_option linter.unusedVariables false
set_option linter.unusedSimpArgs false
set_option linter.unusedSectionVars false
open Go.RowKit
attribute [local go_sem ↓] Go.wp_at_zero Go.wp_at_succ
section
variable {w0 : World} {x s m : Nat} {sy ep : Int} {D : Dev} {out : Nat → Prop} {W : World} {lo g mm : Nat} (h : Held w0 x s m sy ep D (up out lo W) W) (hlow : w0.heap.size ≤ lo ∧ s < lo) (hlen : 132 ≤ D.st.length) (hf : D.failed = false) (hm : m < lo)
include h hlow hlen hf hm
theorem load_view (hv : ViewM W lo g s mm D) (k : Nat) (hk : k < 32) : Calls Try.prog 85 #[ptrV g, .int .i64 (k : Int)] W (LoadR w0 x s m sy ep D out W lo g mm k) := by
  obtain ⟨topv, F, hv⟩ := hv
  rcases hv.top with h1 | ⟨t, _, h2, _, _⟩
  · subst h1; exact load_nil h hlow hlen hf hm k hk hv
  · subst h2; exact load_top h hlow hlen hf hm k hk t hv
end
theorem look_no {D : Dev} {i : Nat} (h : ¬ okMap D (i / 32)) : lookI D i = (⟨#[]⟩, mapErr D (i / 32)) := by
  unfold lookI mapErr
  by_cases h1 : (topI D).ok = false
  · rw [if_pos h1, if_pos h1]
  · rw [if_neg h1, if_neg h1]
    by_cases h2 : (mapI D (i / 32)).ok = false
    · rw [if_pos h2, if_pos h2]
    · rw [if_neg h2, if_neg h2, if_pos]
      intro h3
      exact h ⟨by simpa using h1, by simpa using h2, h3⟩
theorem mapErr_ne (D : Dev) (k : Nat) : mapErr D k ≠ 0 := by
  unfold mapErr
  split
  · decide
  split
  · decide
  · decide
theorem dat_is {D : Dev} (hf : D.failed = false) (i : Nat) (hi : 131 + i < D.st.length) (v : BitVec 32) : belowD D (131 + (i : Int)) v = (if (datI D i).ok = false then (rawZ, 11) else if (datI D i).ver ≠ v then (rawZ, 12) else (datI D i, 0)) := by
  unfold belowD
  rw [show (131 + (i : Int)) = ((131 + i : Nat) : Int) from by omega, readR_ok hf (131 + i) hi, if_neg (by simp)]
  rfl
theorem look_yes {D : Dev} {i : Nat} (h : okMap D (i / 32)) (hf : D.failed = false) (hi : 131 + i < D.st.length) : lookI D i = ((belowD D (131 + (i : Int)) (fld (mapI D (i / 32)).data (i % 32))).1.data, (belowD D (131 + (i : Int)) (fld (mapI D (i / 32)).data (i % 32))).2) := by
  obtain ⟨h1, h2, h3⟩ := h
  rw [dat_is hf i hi]
  unfold lookI
  rw [if_neg (by rw [h1]; simp), if_neg (by rw [h2]; simp), if_neg (by simpa using h3)]
  by_cases h4 : (datI D i).ok = false
  · rw [if_pos h4, if_pos h4]; rfl
  · rw [if_neg h4, if_neg h4]
    by_cases h5 : (datI D i).ver ≠ fld (mapI D (i / 32)).data (i % 32)
    · rw [if_pos h5, if_pos h5]; rfl
    · rw [if_neg h5, if_neg h5]
theorem get_S {w1 w2 : World} {g b J s : Nat} {ver : BitVec 32} (hg : Grew w1 w2) (h : (fun w' : World => w'.cell? ⟨g, 0, none⟩ = some (ptrV s) ∧ g < w'.heap.size ∧ w'.cell? ⟨b, J, none⟩ = some (.int .u32 (u32 ver)) ∧ b < w'.heap.size) w1) : (fun w' : World => w'.cell? ⟨g, 0, none⟩ = some (ptrV s) ∧ g < w'.heap.size ∧ w'.cell? ⟨b, J, none⟩ = some (.int .u32 (u32 ver)) ∧ b < w'.heap.size) w2 := ⟨cell_grew hg h.1, Nat.lt_of_lt_of_le h.2.1 hg.size, cell_grew hg h.2.2.1, Nat.lt_of_lt_of_le h.2.2.2 hg.size⟩
theorem view_looked {w0 : World} {x s' m : Nat} {sy ep : Int} {E : Dev} {out : Nat → Prop} {w w' : World} {lo g s mm : Nat} {D : Dev} (h : ViewM w lo g s mm D) (hl : Looked w0 x s' m sy ep E out w w') (hm : m < lo) : ViewM w' lo g s mm D := by
  obtain ⟨topv, F, hv⟩ := h
  exact ⟨topv, F, hv.looked hl hm⟩
theorem ViewM.grew {w w' : World} {lo g s mm : Nat} {D : Dev} (h : ViewM w lo g s mm D) (hg : Grew w w') : ViewM w' lo g s mm D := by
  obtain ⟨topv, F, hv⟩ := h
  exact ⟨topv, F, hv.grew hg⟩
/-- What stays behind 'get', and its answer. -/
def GetR (w0 : World) (x s m : Nat) (sy ep : Int) (D : Dev) (out : Nat → Prop) (W : World) (lo g mm : Nat) (r : ByteArray × Int) (e : Ending) (w' : World) : Prop :=
  e = .returned (.tuple #[.string r.1, .int .i64 r.2]) ∧ Held w0 x s m sy ep D (up out lo w') w' ∧ ViewM w' lo g s mm D ∧ Turned (fun q => q = m ∨ q = g ∨ q = mm) W w'
section
variable {w0 : World} {x s m : Nat} {sy ep : Int} {D : Dev} {out : Nat → Prop} {W : World} {lo g mm : Nat} (h : Held w0 x s m sy ep D (up out lo W) W) (hlow : w0.heap.size ≤ lo ∧ s < lo) (hlen : 132 ≤ D.st.length) (hf : D.failed = false) (hm : m < lo)
include h hlow hlen hf hm
set_option maxRecDepth 100000 in
set_option maxHeartbeats 2000000 in
theorem get_any (hv : ViewM W lo g s mm D) (i : Nat) (hi : 131 + i < D.st.length) (hi2 : i < 1024) : Calls Try.prog 74 #[ptrV g, .int .i64 (i : Int)] W (GetR w0 x s m sy ep D out W lo g mm (lookI D i)) := by
  have HL := Lib.hid (load_view h hlow hlen hf hm hv (i / 32) (by omega))
  obtain ⟨K, hK⟩ : ∃ K, i / 32 = K := ⟨_, rfl⟩
  obtain ⟨J, hJ⟩ : ∃ J, i % 32 = J := ⟨_, rfl⟩
  have hq : (i : Int) / 32 = (K : Int) := by omega
  have hr : (i : Int).tmod 32 = (J : Int) := by rw [Int.tmod_eq_emod_of_nonneg (by omega)]; omega
  have hJ32 : J < 32 := by omega
  rw [hK] at HL
  have HNO := Lib.hid (fun (hn : ¬ okMap D K) => look_no (D := D) (i := i) (by rw [hK]; exact hn))
  have HYES := Lib.hid (fun (hn : okMap D K) => look_yes (D := D) (i := i) (by rw [hK]; exact hn) hf hi)
  rw [hK, hJ] at HYES
  rw [hK] at HNO
  have hib : (0 : Int) ≤ (i : Int) ∧ (i : Int) ≤ 1024 := by omega
  clear hK hJ h hv hi hlen hf hi2
  by_cases hok : okMap D K
  · have HE := Lib.hid (HYES.out hok)
    have HOK := Lib.hid hok
    clear hok
    go_enter Try.func74, Try.ntmps74
    go_wp2_with fail
    refine HL.out.mono ?_
    rintro e w1 ⟨⟨hy, _⟩, hh1, hv1, ht1⟩
    obtain ⟨b, rfl, hb, hlb⟩ := hy HOK.out
    have HR := Lib.hid (show Held w0 x s m sy ep D (up out lo w1) w1 ∧ ViewM w1 lo g s mm D ∧ Turned (fun q => q = m ∨ q = g ∨ q = mm) W w1 from ⟨hh1, hv1, ht1⟩)
    have HUP := Lib.hid (fun (w' : World) (ht : Turned (fun q => q = m ∨ lo ≤ q) w1 w') (hst : StoreM w' s m x sy ep) => hh1.up hlow hm ht hst)
    obtain ⟨out', hout'⟩ : ∃ o, o = up out lo w1 := ⟨_, rfl⟩
    rw [← hout'] at hh1
    have HH := Lib.hid hh1
    obtain ⟨ver, hver⟩ : ∃ ver, fld (mapI D K).data J = ver := ⟨_, rfl⟩
    have hbc := hb.cell J
    rw [verArr_get _ _ hJ32, hver] at hbc
    have hbl := hb.lt
    have hgb : ∃ topv, Blk w1 g 153 #[ptrV s, topv, .map (some mm)] := by obtain ⟨topv, F, hv⟩ := hv1; exact ⟨topv, hv.blk⟩
    obtain ⟨topv, hgb⟩ := hgb
    have g0 := hgb.cell 0
    have gl := hgb.lt
    rw [hver] at HE
    have HBE := Lib.hid (fun (w2 : World) (hh : Held w0 x s m sy ep D out' w2) => below_any hh (131 + (i : Int)) (okI_small _ (by omega)) ver)
    obtain ⟨⟨⟨bd, bv, bb⟩, er⟩, hbel⟩ : ∃ r, belowD D (131 + (i : Int)) ver = r := ⟨_, rfl⟩
    rw [hbel] at HBE HE
    have hwk : IntKind.i64.wrap (131 + (i : Int)) = 131 + (i : Int) := IntWalk.i64_in _ (by omega)
    have hJi : (0 : Int) ≤ (J : Int) ∧ (J : Int) < 32 := by omega
    clear hy hh1 hv1 ht1 hb hgb hver hbel hout'
    go_wp2_with fail
    refine wp_region_R [12, 17] (fun w' : World => w'.cell? ⟨g, 0, none⟩ = some (ptrV s) ∧ g < w'.heap.size ∧ w'.cell? ⟨b, J, none⟩ = some (.int .u32 (u32 ver)) ∧ b < w'.heap.size) (by kernel_rfl) ?_
    have hS := (show (fun w' : World => w'.cell? ⟨g, 0, none⟩ = some (ptrV s) ∧ g < w'.heap.size ∧ w'.cell? ⟨b, J, none⟩ = some (.int .u32 (u32 ver)) ∧ b < w'.heap.size) w1.drew from ⟨g0, gl, hbc, hbl⟩)
    refine wpAnyR_takeQ (i := 0) (v := ?_) (some 20) rfl rfl (by kernel_rfl) (by kernel_rfl) (by kernel_rfl) (by kernel_rfl) (fun _ _ _ h => h) (Or.inl ⟨by rfl, ?_⟩) ?_
    rotate_left
    focus (intro wS hSw; (try dsimp only at hSw); go_simp; (try with_reducible rfl); (try (first | (rw [if_pos (by omega)]; (try go_simp); (try with_reducible rfl)) | (rw [if_neg (by omega)]; (try go_simp); (try with_reducible rfl)))))
    try simp only [Act.put, List.setIfInBounds_toArray, List.set_cons_zero, List.set_cons_succ]
    refine wpAnyR_take (i := 1) (v := ?_) [2, 3, 12, 13, 14, 15, 17, 18] (some 21) rfl rfl (by kernel_rfl) (by kernel_rfl) (by kernel_rfl) (by kernel_rfl) (by kernel_rfl) (by kernel_rfl) (by kernel_rfl) (fun _ _ _ h => h) (Or.inl ⟨by rfl, ?_⟩) hS ?_
    rotate_left
    focus (intro wS hSw; (try dsimp only at hSw); go_simp; (try with_reducible rfl); (try (first | (rw [if_pos (by omega)]; (try go_simp); (try with_reducible rfl)) | (rw [if_neg (by omega)]; (try go_simp); (try with_reducible rfl)))))
    try simp only [Act.put, List.setIfInBounds_toArray, List.set_cons_zero, List.set_cons_succ]
    refine wpAnyR_takeQ (i := 2) (v := ?_) (some 22) rfl rfl (by kernel_rfl) (by kernel_rfl) (by kernel_rfl) (by kernel_rfl) (fun _ _ _ h => h) (Or.inl ⟨by rfl, ?_⟩) ?_
    rotate_left
    focus (intro wS hSw; (try dsimp only at hSw); go_simp; (try with_reducible rfl); (try (first | (rw [if_pos (by omega)]; (try go_simp); (try with_reducible rfl)) | (rw [if_neg (by omega)]; (try go_simp); (try with_reducible rfl)))))
    try simp only [Act.put, List.setIfInBounds_toArray, List.set_cons_zero, List.set_cons_succ]
    refine wpAnyR_take (i := 3) (v := ?_) [12, 13, 14, 15, 17, 18] (some 23) rfl rfl (by kernel_rfl) (by kernel_rfl) (by kernel_rfl) (by kernel_rfl) (by kernel_rfl) (by kernel_rfl) (by kernel_rfl) (fun _ _ _ h => h) (Or.inl ⟨by rfl, ?_⟩) hS ?_
    rotate_left
    focus (intro wS hSw; (try dsimp only at hSw); go_simp; (try with_reducible rfl); (try (first | (rw [if_pos (by omega)]; (try go_simp); (try with_reducible rfl)) | (rw [if_neg (by omega)]; (try go_simp); (try with_reducible rfl)))))
    try simp only [Act.put, List.setIfInBounds_toArray, List.set_cons_zero, List.set_cons_succ]
    refine wpAnyR_takeQ (i := 4) (v := ?_) (some 24) rfl rfl (by kernel_rfl) (by kernel_rfl) (by kernel_rfl) (by kernel_rfl) (fun _ _ _ h => h) (Or.inl ⟨by rfl, ?_⟩) ?_
    rotate_left
    focus (intro wS hSw; (try dsimp only at hSw); go_simp; (try with_reducible rfl); (try (first | (rw [if_pos (by omega)]; (try go_simp); (try with_reducible rfl)) | (rw [if_neg (by omega)]; (try go_simp); (try with_reducible rfl)))))
    try simp only [Act.put, List.setIfInBounds_toArray, List.set_cons_zero, List.set_cons_succ]
    refine wpAnyR_takeQ (i := 5) (v := ?_) (some 25) rfl rfl (by kernel_rfl) (by kernel_rfl) (by kernel_rfl) (by kernel_rfl) (fun _ _ _ h => h) (Or.inl ⟨by rfl, ?_⟩) ?_
    rotate_left
    focus (intro wS hSw; (try dsimp only at hSw); go_simp; (try with_reducible rfl); (try (first | (rw [if_pos (by omega)]; (try go_simp); (try with_reducible rfl)) | (rw [if_neg (by omega)]; (try go_simp); (try with_reducible rfl)))))
    try simp only [Act.put, List.setIfInBounds_toArray, List.set_cons_zero, List.set_cons_succ]
    refine wpAnyR_takeQ (i := 6) (v := ?_) (some 26) rfl rfl (by kernel_rfl) (by kernel_rfl) (by kernel_rfl) (by kernel_rfl) (fun _ _ _ h => h) (Or.inl ⟨by rfl, ?_⟩) ?_
    rotate_left
    focus (intro wS hSw; (try dsimp only at hSw); go_simp; (try with_reducible rfl); (try (first | (rw [if_pos (by omega)]; (try go_simp); (try with_reducible rfl)) | (rw [if_neg (by omega)]; (try go_simp); (try with_reducible rfl)))))
    try simp only [Act.put, List.setIfInBounds_toArray, List.set_cons_zero, List.set_cons_succ]
    refine wpAnyR_takeQ (i := 7) (v := ?_) (some 27) rfl rfl (by kernel_rfl) (by kernel_rfl) (by kernel_rfl) (by kernel_rfl) (fun _ _ _ h => h) (Or.inl ⟨by rfl, ?_⟩) ?_
    rotate_left
    focus (intro wS hSw; (try dsimp only at hSw); go_simp; (try with_reducible rfl); (try (first | (rw [if_pos (by omega)]; (try go_simp); (try with_reducible rfl)) | (rw [if_neg (by omega)]; (try go_simp); (try with_reducible rfl)))))
    try simp only [Act.put, List.setIfInBounds_toArray, List.set_cons_zero, List.set_cons_succ]
    refine wpAnyR_takeQ (i := 8) (v := ?_) (some 28) rfl rfl (by kernel_rfl) (by kernel_rfl) (by kernel_rfl) (by kernel_rfl) (fun _ _ _ h => h) (Or.inl ⟨by rfl, ?_⟩) ?_
    rotate_left
    focus (intro wS hSw; (try dsimp only at hSw); go_simp; (try with_reducible rfl); (try (first | (rw [if_pos (by omega)]; (try go_simp); (try with_reducible rfl)) | (rw [if_neg (by omega)]; (try go_simp); (try with_reducible rfl)))))
    try simp only [Act.put, List.setIfInBounds_toArray, List.set_cons_zero, List.set_cons_succ]
    refine wpAnyR_take (i := 9) (v := ?_) [10, 11, 12, 13, 14, 15, 17, 18] (some 29) rfl rfl (by kernel_rfl) (by kernel_rfl) (by kernel_rfl) (by kernel_rfl) (by kernel_rfl) (by kernel_rfl) (by kernel_rfl) (fun _ _ _ h => h) (Or.inl ⟨by rfl, ?_⟩) hS ?_
    rotate_left
    focus (intro wS hSw; (try dsimp only at hSw); go_simp; (try with_reducible rfl); (try (first | (rw [if_pos (by omega)]; (try go_simp); (try with_reducible rfl)) | (rw [if_neg (by omega)]; (try go_simp); (try with_reducible rfl)))))
    try simp only [Act.put, List.setIfInBounds_toArray, List.set_cons_zero, List.set_cons_succ]
    refine wpAnyR_takeQ (i := 10) (v := ?_) (some 30) rfl rfl (by kernel_rfl) (by kernel_rfl) (by kernel_rfl) (by kernel_rfl) (fun _ _ _ h => h) (Or.inl ⟨by rfl, ?_⟩) ?_
    rotate_left
    focus (intro wS hSw; (try dsimp only at hSw); go_simp; (try with_reducible rfl); (try (first | (rw [if_pos (by omega)]; (try go_simp); (try with_reducible rfl)) | (rw [if_neg (by omega)]; (try go_simp); (try with_reducible rfl)))))
    try simp only [Act.put, List.setIfInBounds_toArray, List.set_cons_zero, List.set_cons_succ]
    refine wpAnyR_take (i := 11) (v := ?_) [12, 13, 14, 15, 17, 18] (some 31) rfl rfl (by kernel_rfl) (by kernel_rfl) (by kernel_rfl) (by kernel_rfl) (by kernel_rfl) (by kernel_rfl) (by kernel_rfl) (fun _ _ _ h => h) (Or.inl ⟨by rfl, ?_⟩) hS ?_
    rotate_left
    focus (intro wS hSw; (try dsimp only at hSw); go_simp; (try with_reducible rfl); (try (first | (rw [if_pos (by omega)]; (try go_simp); (try with_reducible rfl)) | (rw [if_neg (by omega)]; (try go_simp); (try with_reducible rfl)))))
    try simp only [Act.put, List.setIfInBounds_toArray, List.set_cons_zero, List.set_cons_succ]
    clear hS
    refine wpAnyR_n2 (i := 12) (j := 16) rfl rfl (by kernel_rfl) ?faa ?fab
    case' faa =>
      intro K' hK
      rw [if_pos (by rfl)]
      simp only [List.getElem_toArray, List.getElem_cons_succ, List.getElem_cons_zero]
      go_wp2_with fail
      refine (HBE.out _ (HH.out.grew (Grew.refl w1).drew)).mono ?_
      rintro e w2 ⟨rfl, hl2⟩
      unfold rawV
      have hlz : Looked w0 x s m sy ep D out' w1 (w2.alloc (.cells #[.string bd, .int .u32 (u32 bv), .bool bb] 87)) := ((HH.out.same (Grew.refl w1).drew).trans hl2).grew ((Grew.refl w2).alloc _)
      have hxz : Blk (w2.alloc (.cells #[.string bd, .int .u32 (u32 bv), .bool bb] 87)) w2.heap.size 87 #[.string bd, .int .u32 (u32 bv), .bool bb] := Blk.new w2 _ _ rfl
      have hgx : w1.heap.size ≤ w2.heap.size := hl2.turned.size
      clear hl2
      go_wp2_with fail
      refine hK.out _ _ (.inl (by rfl)) ?_
      clear hK
      refine wpAnyR_takeQ (i := 13) (v := ?_) (some 19) rfl rfl (by kernel_rfl) (by kernel_rfl) (by kernel_rfl) (by kernel_rfl) (fun _ _ _ h => h) (Or.inl ⟨by rfl, ?_⟩) ?_
      rotate_left
      focus (intro wS hSw; (try dsimp only at hSw); go_simp; (try with_reducible rfl); (try (first | (rw [if_pos (by omega)]; (try go_simp); (try with_reducible rfl)) | (rw [if_neg (by omega)]; (try go_simp); (try with_reducible rfl)))))
      try simp only [Act.put, List.setIfInBounds_toArray, List.set_cons_zero, List.set_cons_succ]
      refine wpAnyR_takeQ (i := 14) (v := ?_) (some 33) rfl rfl (by kernel_rfl) (by kernel_rfl) (by kernel_rfl) (by kernel_rfl) (fun _ _ _ h => h) (Or.inl ⟨by rfl, ?_⟩) ?_
      rotate_left
      focus (intro wS hSw; (try dsimp only at hSw); go_simp; (try with_reducible rfl); (try (first | (rw [if_pos (by omega)]; (try go_simp); (try with_reducible rfl)) | (rw [if_neg (by omega)]; (try go_simp); (try with_reducible rfl)))))
      try simp only [Act.put, List.setIfInBounds_toArray, List.set_cons_zero, List.set_cons_succ]
      refine wpAnyR_takeQ (i := 15) (v := ?_) (some 34) rfl rfl (by kernel_rfl) (by kernel_rfl) (by kernel_rfl) (by kernel_rfl) (fun _ _ _ h => h) (Or.inl ⟨by rfl, ?_⟩) ?_
      rotate_left
      focus (intro wS hSw; (try dsimp only at hSw); go_simp; (try with_reducible rfl); (try (first | (rw [if_pos (by omega)]; (try go_simp); (try with_reducible rfl)) | (rw [if_neg (by omega)]; (try go_simp); (try with_reducible rfl)))))
      try simp only [Act.put, List.setIfInBounds_toArray, List.set_cons_zero, List.set_cons_succ]
      refine wpAnyR_n1 (i := 16) rfl (by kernel_rfl) ?_
      intro K' hK
      rw [if_pos (by rfl)]
      simp only [List.getElem_toArray, List.getElem_cons_succ, List.getElem_cons_zero]
      go_wp2_with fail
      refine hK.out _ _ (.inr (fun hS => get_S ((Grew.refl w2).alloc _) hS)) ?_
      clear hK
      refine wpAnyR_n1 (i := 17) rfl (by kernel_rfl) ?_
      intro K' hK
      rw [if_pos (by rfl)]
      simp only [List.getElem_toArray, List.getElem_cons_succ, List.getElem_cons_zero]
      go_wp2_with fail
      refine hK.out _ _ (.inl (by rfl)) ?_
      clear hK
      refine wpAnyR_takeQ (i := 18) (v := ?_) (some 7) rfl rfl (by kernel_rfl) (by kernel_rfl) (by kernel_rfl) (by kernel_rfl) (fun _ _ _ h => h) (Or.inl ⟨by rfl, ?_⟩) ?_
      rotate_left
      focus (intro wS hSw; (try dsimp only at hSw); go_simp; (try with_reducible rfl); (try (first | (rw [if_pos (by omega)]; (try go_simp); (try with_reducible rfl)) | (rw [if_neg (by omega)]; (try go_simp); (try with_reducible rfl)))))
      try simp only [Act.put, List.setIfInBounds_toArray, List.set_cons_zero, List.set_cons_succ]
      refine wpAnyR_done (by kernel_rfl) ?_ _
      generalize hwz : w2.alloc (.cells #[.string bd, .int .u32 (u32 bv), .bool bb] 87) = wz at *
      generalize hgz : w2.heap.size = gx at *
      clear hwz hgz
    case' fab =>
      intro K' hK
      rw [if_pos (by rfl)]
      simp only [List.getElem_toArray, List.getElem_cons_succ, List.getElem_cons_zero]
      go_wp2_with fail
      have hgb : Grew w1 (w1.alloc (.cells #[.string ⟨#[]⟩, .int .u32 0, .bool false] 87)).drew := ((Grew.refl w1).alloc _).drew
      have hzb : Blk (w1.alloc (.cells #[.string ⟨#[]⟩, .int .u32 0, .bool false] 87)).drew w1.heap.size 87 #[.string ⟨#[]⟩, .int .u32 0, .bool false] := (Blk.new w1 _ _ rfl).drew
      refine hK.out _ _ (.inr (fun hS => get_S ((Grew.refl w1.drew).alloc _) hS)) ?_
      clear hK
      refine wpAnyR_n1 (i := 12) rfl (by kernel_rfl) ?_
      intro K' hK
      rw [if_pos (by rfl)]
      simp only [List.getElem_toArray, List.getElem_cons_succ, List.getElem_cons_zero]
      go_wp2_with fail
      refine (HBE.out _ (HH.out.grew hgb)).mono ?_
      rintro e w2 ⟨rfl, hl2⟩
      unfold rawV
      have hml := HH.out.store.lt.2
      have hz1 := hzb.looked hl2 (by omega)
      have z0 := hz1.cell 0
      have z1 := hz1.cell 1
      have z2 := hz1.cell 2
      have f0 := hz1.frozen 0
      have f1 := hz1.frozen 1
      have f2 := hz1.frozen 2
      have zl := hz1.lt
      have hgx : w1.heap.size ≤ w1.heap.size := Nat.le_refl _
      have hlz : Looked w0 x s m sy ep D out' w1 (((w2.setCell ⟨w1.heap.size, 0, none⟩ (.string bd)).setCell ⟨w1.heap.size, 1, none⟩ (.int .u32 (u32 bv))).setCell ⟨w1.heap.size, 2, none⟩ (.bool bb)) := looked_loc HH.out ((HH.out.same hgb).trans hl2) (by (repeat' first | (with_reducible exact Turned.refl _ _) | (with_reducible assumption) | (with_reducible refine Turned.alloc ?_ _) | (with_reducible refine Turned.drew ?_) | (with_reducible refine Turned.drewN ?_ _) | (with_reducible refine Turned.setRow ?_ (by first | (simp; done) | (simp; omega) | omega) _) | (with_reducible refine Turned.setCell ?_ (by first | (simp; done) | (simp; omega) | omega) _) | ((with_reducible apply Turned.andGrew); rotate_left; (with_reducible assumption)) | ((with_reducible apply Turned.trans); rotate_left; (with_reducible assumption)) | fail))
      have hxz : Blk (((w2.setCell ⟨w1.heap.size, 0, none⟩ (.string bd)).setCell ⟨w1.heap.size, 1, none⟩ (.int .u32 (u32 bv))).setCell ⟨w1.heap.size, 2, none⟩ (.bool bb)) w1.heap.size 87 #[.string bd, .int .u32 (u32 bv), .bool bb] := by (apply Blk.conv; (· (repeat' first | (with_reducible assumption) | (with_reducible apply Blk.setRow) | ((with_reducible apply Blk.farRow); rotate_left; (focus (first | (simp; done) | (simp; omega) | omega))) | (with_reducible apply Blk.drew) | (with_reducible apply Blk.drewN) | (with_reducible apply Blk.set_) | (with_reducible exact Blk.new _ _ _ (by first | rfl | (simp; done) | (simp; omega))) | (with_reducible apply Blk.alloc) | ((with_reducible apply Blk.far); rotate_left; (focus (first | (simp; done) | (simp; omega) | omega))) | ((with_reducible apply Blk.grew); rotate_left; (with_reducible assumption)) | ((with_reducible apply Blk.turned); rotate_left; (with_reducible assumption); (focus (first | (simp; done) | (simp; omega) | omega))) | fail)); (· rfl))
      clear hl2 hz1 hml hgb hzb
      go_wp2_with fail
      refine hK.out _ _ (.inl (by rfl)) ?_
      clear hK
      refine wpAnyR_takeQ (i := 13) (v := ?_) (some 19) rfl rfl (by kernel_rfl) (by kernel_rfl) (by kernel_rfl) (by kernel_rfl) (fun _ _ _ h => h) (Or.inl ⟨by rfl, ?_⟩) ?_
      rotate_left
      focus (intro wS hSw; (try dsimp only at hSw); go_simp; (try with_reducible rfl); (try (first | (rw [if_pos (by omega)]; (try go_simp); (try with_reducible rfl)) | (rw [if_neg (by omega)]; (try go_simp); (try with_reducible rfl)))))
      try simp only [Act.put, List.setIfInBounds_toArray, List.set_cons_zero, List.set_cons_succ]
      refine wpAnyR_takeQ (i := 14) (v := ?_) (some 33) rfl rfl (by kernel_rfl) (by kernel_rfl) (by kernel_rfl) (by kernel_rfl) (fun _ _ _ h => h) (Or.inl ⟨by rfl, ?_⟩) ?_
      rotate_left
      focus (intro wS hSw; (try dsimp only at hSw); go_simp; (try with_reducible rfl); (try (first | (rw [if_pos (by omega)]; (try go_simp); (try with_reducible rfl)) | (rw [if_neg (by omega)]; (try go_simp); (try with_reducible rfl)))))
      try simp only [Act.put, List.setIfInBounds_toArray, List.set_cons_zero, List.set_cons_succ]
      refine wpAnyR_takeQ (i := 15) (v := ?_) (some 34) rfl rfl (by kernel_rfl) (by kernel_rfl) (by kernel_rfl) (by kernel_rfl) (fun _ _ _ h => h) (Or.inl ⟨by rfl, ?_⟩) ?_
      rotate_left
      focus (intro wS hSw; (try dsimp only at hSw); go_simp; (try with_reducible rfl); (try (first | (rw [if_pos (by omega)]; (try go_simp); (try with_reducible rfl)) | (rw [if_neg (by omega)]; (try go_simp); (try with_reducible rfl)))))
      try simp only [Act.put, List.setIfInBounds_toArray, List.set_cons_zero, List.set_cons_succ]
      refine wpAnyR_n1 (i := 17) rfl (by kernel_rfl) ?_
      intro K' hK
      rw [if_pos (by rfl)]
      simp only [List.getElem_toArray, List.getElem_cons_succ, List.getElem_cons_zero]
      go_wp2_with fail
      refine hK.out _ _ (.inl (by rfl)) ?_
      clear hK z0 z1 z2 f0 f1 f2 zl
      refine wpAnyR_takeQ (i := 18) (v := ?_) (some 7) rfl rfl (by kernel_rfl) (by kernel_rfl) (by kernel_rfl) (by kernel_rfl) (fun _ _ _ h => h) (Or.inl ⟨by rfl, ?_⟩) ?_
      rotate_left
      focus (intro wS hSw; (try dsimp only at hSw); go_simp; (try with_reducible rfl); (try (first | (rw [if_pos (by omega)]; (try go_simp); (try with_reducible rfl)) | (rw [if_neg (by omega)]; (try go_simp); (try with_reducible rfl)))))
      try simp only [Act.put, List.setIfInBounds_toArray, List.set_cons_zero, List.set_cons_succ]
      refine wpAnyR_done (by kernel_rfl) ?_ _
      generalize hwz : ((w2.setCell ⟨w1.heap.size, 0, none⟩ (.string bd)).setCell ⟨w1.heap.size, 1, none⟩ (.int .u32 (u32 bv))).setCell ⟨w1.heap.size, 2, none⟩ (.bool bb) = wz at hlz hxz ⊢
      obtain ⟨gx, hgz⟩ : ∃ gx, gx = w1.heap.size := ⟨_, rfl⟩
      rw [← hgz] at hxz hgx ⊢
      clear hwz hgz
    all_goals
      have HLZ := Lib.hid hlz
      have x0 := hxz.cell 0
      have xl := hxz.lt
      clear hlz hxz g0 gl hbc hbl
      go_wp2_with fail
      go_ret2
      exact ⟨by rw [HE.out]; rfl, HUP.out _ (HLZ.out.turned.mono fun _ _ hq => .inl hq) HLZ.out.store, view_looked HR.out.2.1 HLZ.out hm, HR.out.2.2.trans (HLZ.out.turned.mono fun _ _ hq => .inl hq)⟩
  · have HE := Lib.hid (HNO.out hok)
    have HOK := Lib.hid hok
    have hme := mapErr_ne D K
    obtain ⟨er, her⟩ : ∃ er, mapErr D K = er := ⟨_, rfl⟩
    rw [her] at HE hme
    have hne : (er != 0) = true := by rw [bne_iff_ne]; exact hme
    have HER := Lib.hid her
    clear hok hme her
    go_enter Try.func74, Try.ntmps74
    go_wp2_with fail
    refine HL.out.mono ?_
    rintro e w1 ⟨⟨_, hn⟩, hh1, hv1, ht1⟩
    obtain rfl := hn HOK.out
    rw [HER.out]
    have HR := Lib.hid (show Held w0 x s m sy ep D (up out lo w1) w1 ∧ ViewM w1 lo g s mm D ∧ Turned (fun q => q = m ∨ q = g ∨ q = mm) W w1 from ⟨hh1, hv1, ht1⟩)
    clear hn hh1 hv1 ht1
    go_wp2_with fail
    go_ret2
    exact ⟨by rw [HE.out]; rfl, HR.out⟩
end
end Go.Proofs.Ytbddelefglhaaaa
namespace Go.Proofs.Ytbddelefglhaaaa
set_option linter.unusedVariables false
set_option linter.unusedSimpArgs false
set_option linter.unusedSectionVars false
open Go.RowKit
attribute [local go_sem ↓] Go.wp_at_zero Go.wp_at_succ
theorem held_up0 {w0 : World} {x s m : Nat} {sy ep : Int} {D : Dev} {out : Nat → Prop} {W : World} (h : Held w0 x s m sy ep D out W) : Held w0 x s m sy ep D (up out W.heap.size W) W :=
  ⟨h.live.few (fun k hk => hk.elim id (fun h9 => absurd h9.1 (by omega))), h.store, .inl h.os, .inl h.om, h.m0⟩
theorem done_up {w0 : World} {x s m : Nat} {sy ep : Int} {E : Dev} {out : Nat → Prop} {W w1 w' : World} (hd : Done w0 x s m sy ep E out W w1) (hh : Held w0 x s m sy ep E (up out w1.heap.size w') w') (ht : Turned (fun q => q = m ∨ w1.heap.size ≤ q) w1 w') : Done w0 x s m sy ep E out W w' :=
  ⟨hh.live.few (fun k hk => .inl hk), hh.store, hd.turned.next ht (fun k hk hq => by
    rcases hq with hq | hq
    · exact .inr hq
    · exact absurd hk (by have := hd.turned.size; omega))⟩
theorem info_strz : (Try.prog.info? 9).map (fun i => (i.zero, i.size, i.bytes)) = some (some (.string ⟨#[]⟩), 1, 16) := by kernel_rfl
set_option maxRecDepth 100000 in
theorem made_str (w : World) : (Instr.makeSlice 37 (.int .i64 0) (.int .i64 1)).run Try.prog w = .ok (.slice (some ⟨w.heap.size, 0, none⟩) 0 1) (w.alloc (.cells #[.string ⟨#[]⟩] 9)) := by
  obtain ⟨i, hi, hz0, hz1, hz2⟩ := info_parts info_strz
  have h := run_make (P := Try.prog) w 37 9 i _ Try.underlying37 hi hz0 .i64 .i64 0 1 (by omega) (by omega) (by rw [hz2]; decide) (by omega)
  have e : madeCells (Value.string ⟨#[]⟩).cells (Int.toNat 1 * 1) = #[.string ⟨#[]⟩] := by
    unfold madeCells
    apply Array.ext
    · simp
    · intro j h1 h2
      simp at h2
      subst h2
      simp [Value.cells]
  rw [h, hz1, e]
  rfl
theorem own_cap {w : World} {base g : Nat} (hb : Blk w g 9 #[.string ⟨#[]⟩]) (h : base ≤ g) : OwnL w base 9 1 (.slice (some ⟨g, 0, none⟩) 0 1) [] :=
  ⟨by simp, by simp, .inr ⟨g, 1, _, rfl, h, hb, by simp, by unfold maxLen; omega, by simp, by simp⟩⟩
theorem cell_not_map {w : World} {m b o : Nat} {F : Int → Option Value} {v : Value} (hm : MapI w m F) (h : w.cell? ⟨b, o, none⟩ = some v) : b ≠ m := by
  rintro rfl
  obtain ⟨es, clock, l, hb, _⟩ := hm
  unfold World.cell? at h
  simp [hb] at h
/-- What stays behind 'ReadAll' of one sector, and its answer. -/
def ReadAllR (w0 : World) (x s m : Nat) (sy ep : Int) (D' : Dev) (out : Nat → Prop) (W : World) (d : ByteArray) (er : Int) (e : Ending) (w' : World) : Prop :=
  ∃ v, e = .returned (.tuple #[v, .int .i64 er]) ∧ Done w0 x s m sy ep D' out W w' ∧ (er = 0 → ∃ g cap, v = .slice (some ⟨g, 0, none⟩) 1 cap ∧ w'.cell? ⟨g, 0, none⟩ = some (.string d))
section
variable {w0 : World} {x s m : Nat} {sy ep : Int} {D : Dev} {out : Nat → Prop} {W : World} (h : Held w0 x s m sy ep D out W) (hlen : 132 ≤ D.st.length ∧ D.st.length ≤ 1155) (hp : D.pend.length ≤ 980000)
include h hlen hp
set_option maxRecDepth 100000 in
set_option maxHeartbeats 4000000 in
theorem readAll_one (i : Int) (hi : okI i) (A : Option Addr) (c : Nat) (hl : ListAt W W.heap.size 1 A [[.int .i64 i]]) (hA : AsideL w0 out A) (D' : Dev) (d : ByteArray) (er : Int) (hr : readP D sy ep i = (D', d, er)) :
    Calls Try.prog 69 #[ptrV s, .slice A 1 c] W (ReadAllR w0 x s m sy ep D' out W d er) := by
  obtain ⟨⟨E, b, f⟩, hE⟩ : ∃ r, finD D sy ep = r := ⟨_, rfl⟩
  have HF := Lib.hid (finish_any h hlen.1 hp E b f hE)
  have hfl := finD_len D sy ep
  unfold readP at hr
  rw [hE] at hr hfl
  have HH := Lib.hid h
  unfold okI at hi
  by_cases h0 : f = 0
  · subst h0
    rw [if_neg (by simp)] at hr
    have hEf := hfl.2 rfl
    have hEl : E.st.length = D.st.length := hfl.1
    obtain ⟨bl, off, rfl, hbl, hcell⟩ := hl (by simp)
    have hc0 := hcell 0 _ rfl 0 _ rfl
    simp only [Nat.zero_mul, Nat.add_zero] at hc0
    obtain ⟨n, hn⟩ : ∃ n : Nat, D.st.length - 131 = n := ⟨_, rfl⟩
    have hni : (E.st.length : Int) - 131 = (n : Int) := by omega
    have hnb : 1 ≤ n ∧ n ≤ 1024 := by omega
    have HA := Lib.hid (hA bl off rfl)
    have hls := h.store.lt
    have hw0 := h.live.base.size
    have HEF := Lib.hid hEf
    have HEL := Lib.hid hEl
    have HLN := Lib.hid hlen
    have HHN := Lib.hid hn
    rw [show (D.st.length : Int) - 131 = (n : Int) from by omega] at hr
    have HRR := Lib.hid hr
    have HSF := Lib.hid hls
    have HC0 := Lib.hid hc0
    have HBL := Lib.hid hbl
    clear h hlen hp hE hfl hEf hEl hl hcell hA hr hls hn hc0 hbl
    go_enter Try.func69, Try.ntmps69
    go_wp2_with fail
    refine HF.out.mono ?_
    rintro e w1 ⟨rfl, hd⟩
    have HD := Lib.hid hd
    have hh1 := held_up0 (HH.out.done hd)
    have hws : W.heap.size ≤ w1.heap.size := hd.turned.size
    have HLW := Lib.hid (show (w0.heap.size ≤ w1.heap.size ∧ s < w1.heap.size) ∧ m < w1.heap.size from ⟨⟨by omega, by have := HSF.out.1; omega⟩, by have := HSF.out.2; omega⟩)
    have hl1 : w1.cell? ⟨bl, off, none⟩ = some (.int .i64 i) := by
      rw [hd.turned.cellEq bl _ HBL.out (fun hq => ?_)]
      · exact HC0.out
      · rcases hq with hq | hq
        · rcases HA.out with h9 | h9
          · exact absurd hq.1 (by omega)
          · exact hq.2 h9
        · obtain ⟨F, hFm, _⟩ := HH.out.store.seen
          exact cell_not_map hFm HC0.out hq
    have HH1 := Lib.hid hh1
    have HL1 := Lib.hid hl1
    clear hd hh1 hl1 HF
    go_wp2_with fail
    refine wp_region_R [] (fun w' : World => True) (by kernel_rfl) ?_
    have hS := trivial
    refine wpAnyR_takeQ (i := 0) (v := ?_) (some 22) rfl rfl (by kernel_rfl) (by kernel_rfl) (by kernel_rfl) (by kernel_rfl) (fun _ _ _ h => h) (Or.inl ⟨by rfl, ?_⟩) ?_
    rotate_left
    focus (intro wS hSw; (try dsimp only at hSw); go_simp; (try with_reducible rfl); (try (first | (rw [if_pos (by omega)]; (try go_simp); (try with_reducible rfl)) | (rw [if_neg (by omega)]; (try go_simp); (try with_reducible rfl)))))
    try simp only [Act.put, List.setIfInBounds_toArray, List.set_cons_zero, List.set_cons_succ]
    refine wpAnyR_take (i := 1) (v := ?_) [2, 5, 6] (some 23) rfl rfl (by kernel_rfl) (by kernel_rfl) (by kernel_rfl) (by kernel_rfl) (by kernel_rfl) (by kernel_rfl) (by kernel_rfl) (fun _ _ _ h => h) (Or.inl ⟨by rfl, ?_⟩) hS ?_
    rotate_left
    focus (intro wS hSw; (try dsimp only at hSw); go_simp; (try with_reducible rfl); (try (first | (rw [if_pos (by omega)]; (try go_simp); (try with_reducible rfl)) | (rw [if_neg (by omega)]; (try go_simp); (try with_reducible rfl)))))
    try simp only [Act.put, List.setIfInBounds_toArray, List.set_cons_zero, List.set_cons_succ]
    refine wpAnyR_takeQ (i := 3) (v := ?_) (some 25) rfl rfl (by kernel_rfl) (by kernel_rfl) (by kernel_rfl) (by kernel_rfl) (fun _ _ _ h => h) (Or.inl ⟨by rfl, ?_⟩) ?_
    rotate_left
    focus (intro wS hSw; (try dsimp only at hSw); go_simp; (try with_reducible rfl); (try (first | (rw [if_pos (by omega)]; (try go_simp); (try with_reducible rfl)) | (rw [if_neg (by omega)]; (try go_simp); (try with_reducible rfl)))))
    try simp only [Act.put, List.setIfInBounds_toArray, List.set_cons_zero, List.set_cons_succ]
    refine wpAnyR_n2 (i := 2) (j := 4) rfl rfl (by kernel_rfl) ?faa ?fab
    case' faa =>
      intro K' hK
      rw [if_pos (by rfl)]
      simp only [List.getElem_toArray, List.getElem_cons_succ, List.getElem_cons_zero]
      have hmk := made_str w1.drew
      have hbs : Blk (w1.alloc (.cells #[.string ⟨#[]⟩] 9)).drew w1.heap.size 9 #[.string ⟨#[]⟩] := (Blk.new w1 _ _ rfl).drew
      have hgs : Grew w1 (w1.alloc (.cells #[.string ⟨#[]⟩] 9)).drew := ((Grew.refl w1).alloc _).drew
      go_wp2_with fail
      refine hK.out _ _ (.inr id) ?_
      clear hK hmk
      refine wpAnyR_n1 (i := 4) rfl (by kernel_rfl) ?_
      intro K' hK
      rw [if_pos (by rfl)]
      simp only [List.getElem_toArray, List.getElem_cons_succ, List.getElem_cons_zero]
      go_wp2_with fail
      refine (view_any s E w1.heap.size _ hgs.size).mono ?_
      rintro e wz ⟨gv, mm, rfl, hview, gz⟩
      have hown : OwnL wz w1.heap.size 9 1 (.slice (some ⟨w1.heap.size, 0, none⟩) 0 1) [] := own_cap (hbs.grew gz) (Nat.le_refl _)
      have hgz : Grew w1 wz := hgs.trans gz
      have hne : ¬ w1.heap.size = gv ∧ ¬ w1.heap.size = mm := by
        obtain ⟨topv, F, hv⟩ := hview
        exact ⟨Blk.ne_ (hbs.grew gz) hv.blk (by decide), blk_map_ne (hbs.grew gz) hv.map⟩
      clear hbs hgs gz
      go_wp2_with fail
      refine hK.out _ _ (.inr id) ?_
      clear hK
      refine wpAnyR_takeQ (i := 5) (v := ?_) (some 8) rfl rfl (by kernel_rfl) (by kernel_rfl) (by kernel_rfl) (by kernel_rfl) (fun _ _ _ h => h) (Or.inl ⟨by rfl, ?_⟩) ?_
      rotate_left
      focus (intro wS hSw; (try dsimp only at hSw); go_simp; (try with_reducible rfl); (try (first | (rw [if_pos (by omega)]; (try go_simp); (try with_reducible rfl)) | (rw [if_neg (by omega)]; (try go_simp); (try with_reducible rfl)))))
      try simp only [Act.put, List.setIfInBounds_toArray, List.set_cons_zero, List.set_cons_succ]
      refine wpAnyR_takeQ (i := 6) (v := ?_) (some 9) rfl rfl (by kernel_rfl) (by kernel_rfl) (by kernel_rfl) (by kernel_rfl) (fun _ _ _ h => h) (Or.inl ⟨by rfl, ?_⟩) ?_
      rotate_left
      focus (intro wS hSw; (try dsimp only at hSw); go_simp; (try with_reducible rfl); (try (first | (rw [if_pos (by omega)]; (try go_simp); (try with_reducible rfl)) | (rw [if_neg (by omega)]; (try go_simp); (try with_reducible rfl)))))
      try simp only [Act.put, List.setIfInBounds_toArray, List.set_cons_zero, List.set_cons_succ]
      refine wpAnyR_done (by kernel_rfl) ?_ _
      obtain ⟨gs, hgs⟩ : ∃ gs, gs = w1.heap.size := ⟨_, rfl⟩
      rw [← hgs] at hne ⊢
      rw [← hgs] at hown
      rw [hgs] at hown
      have hown2 : OwnL wz w1.heap.size 9 1 (.slice (some ⟨gs, 0, none⟩) 0 1) [] := by rw [hgs]; exact hown
      clear hown hgs
    case' fab =>
      intro K' hK
      rw [if_pos (by rfl)]
      simp only [List.getElem_toArray, List.getElem_cons_succ, List.getElem_cons_zero]
      go_wp2_with fail
      refine (view_any s E w1.heap.size w1.drew (Nat.le_refl _)).mono ?_
      rintro e w2 ⟨gv, mm, rfl, hview0, gz⟩
      have hmk := made_str w2
      have hbs : Blk (w2.alloc (.cells #[.string ⟨#[]⟩] 9)) w2.heap.size 9 #[.string ⟨#[]⟩] := Blk.new w2 _ _ rfl
      have hgz : Grew w1 (w2.alloc (.cells #[.string ⟨#[]⟩] 9)) := (((Grew.refl w1).drew.trans gz)).alloc _
      have hview := hview0.grew ((Grew.refl w2).alloc (.cells #[.string ⟨#[]⟩] 9))
      have hown2 : OwnL (w2.alloc (.cells #[.string ⟨#[]⟩] 9)) w1.heap.size 9 1 (.slice (some ⟨w2.heap.size, 0, none⟩) 0 1) [] := own_cap hbs gz.size
      have hne : ¬ w2.heap.size = gv ∧ ¬ w2.heap.size = mm := by
        obtain ⟨topv, F, hv⟩ := hview
        exact ⟨Blk.ne_ hbs hv.blk (by decide), blk_map_ne hbs hv.map⟩
      clear hview0 gz hbs
      go_wp2_with fail
      refine hK.out _ _ (.inr id) ?_
      clear hK
      refine wpAnyR_n1 (i := 2) rfl (by kernel_rfl) ?_
      intro K' hK
      rw [if_pos (by rfl)]
      simp only [List.getElem_toArray, List.getElem_cons_succ, List.getElem_cons_zero]
      go_wp2_with fail
      refine hK.out _ _ (.inr id) ?_
      clear hK hmk
      refine wpAnyR_takeQ (i := 5) (v := ?_) (some 8) rfl rfl (by kernel_rfl) (by kernel_rfl) (by kernel_rfl) (by kernel_rfl) (fun _ _ _ h => h) (Or.inl ⟨by rfl, ?_⟩) ?_
      rotate_left
      focus (intro wS hSw; (try dsimp only at hSw); go_simp; (try with_reducible rfl); (try (first | (rw [if_pos (by omega)]; (try go_simp); (try with_reducible rfl)) | (rw [if_neg (by omega)]; (try go_simp); (try with_reducible rfl)))))
      try simp only [Act.put, List.setIfInBounds_toArray, List.set_cons_zero, List.set_cons_succ]
      refine wpAnyR_takeQ (i := 6) (v := ?_) (some 9) rfl rfl (by kernel_rfl) (by kernel_rfl) (by kernel_rfl) (by kernel_rfl) (fun _ _ _ h => h) (Or.inl ⟨by rfl, ?_⟩) ?_
      rotate_left
      focus (intro wS hSw; (try dsimp only at hSw); go_simp; (try with_reducible rfl); (try (first | (rw [if_pos (by omega)]; (try go_simp); (try with_reducible rfl)) | (rw [if_neg (by omega)]; (try go_simp); (try with_reducible rfl)))))
      try simp only [Act.put, List.setIfInBounds_toArray, List.set_cons_zero, List.set_cons_succ]
      refine wpAnyR_done (by kernel_rfl) ?_ _
      generalize hwz : w2.alloc (.cells #[.string ⟨#[]⟩] 9) = wz at *
      generalize hgs : w2.heap.size = gs at *
      clear hwz hgs
    all_goals
      have HOWN := Lib.hid hown2
      have HVW := Lib.hid hview
      have HGZ := Lib.hid hgz
      have HNE := Lib.hid hne
      have HHZ := Lib.hid (HH1.out.up HLW.out.1 HLW.out.2 (hgz.turned _) (HH1.out.store.grew hgz))
      clear hown2 hview hgz hne
      go_wp2_with fail
      go_loopg [8, 29] 1 (fun gk u i' wr => (gk = 1 ∧ i' = .int .i64 0 ∧ u = .slice (some ⟨gs, 0, none⟩) 0 1 ∧ wr = wz) ∨ (gk = 0 ∧ i' = .int .i64 1 ∧ D' = E ∧ er = 0 ∧ (∃ g9 c9, u = .slice (some ⟨g9, 0, none⟩) 1 c9 ∧ wr.cell? ⟨g9, 0, none⟩ = some (.string d)) ∧ Held w0 x s m sy ep E (up out w1.heap.size wr) wr ∧ Turned (fun q => q = m ∨ w1.heap.size ≤ q) w1 wr))
      case atStart => exact .inl ⟨rfl, rfl, rfl, rfl⟩
      case round =>
        rcases hrel with ⟨hgk, rfl, rfl, hwr⟩ | ⟨hgk, rfl, hDE, her, ⟨g9, c9, rfl, hc9⟩, hh9, ht9⟩
        · have hwr' := hwr.symm
          subst hwr'
          have HGK := Lib.hid hgk
          clear hgk
          have hlz := cell_grew HGZ.out HL1.out
          have hbz : bl < wz.heap.size := (cell_lt hlz).1
          have HSE := Lib.hid (sectors_any' HHZ.out)
          rw [hni] at HSE
          by_cases hneg : i < 0
          · have hin : decide (i < 0) = true := decide_eq_true hneg
            have hr := HRR.out
            rw [if_pos (.inl hneg)] at hr
            injection hr with h1 h2
            injection h2 with h2 h3
            subst h1; subst h2; subst h3
            go_wp2_with fail
            go_ret2
            exact ⟨_, rfl, done_up HD.out HHZ.out (HGZ.out.turned _), fun h9 => absurd h9 (by decide)⟩
          · have hin : decide (i < 0) = false := decide_eq_false hneg
            obtain ⟨q, rfl⟩ : ∃ q : Nat, i = (q : Int) := ⟨i.toNat, by omega⟩
            by_cases hbig : n ≤ q
            · have hib : decide ((n : Int) ≤ (q : Int)) = true := decide_eq_true (by omega)
              have hib2 : (q : Int) ≥ (n : Int) := by omega
              have hr := HRR.out
              rw [if_pos (.inr (by omega))] at hr
              injection hr with h1 h2
              injection h2 with h2 h3
              subst h1; subst h2; subst h3
              go_wp2_with fail
              refine HSE.out.mono ?_
              rintro e w5 ⟨rfl, g5⟩
              have HG5 := Lib.hid (HGZ.out.trans g5)
              clear g5
              go_wp2_with fail
              go_ret2
              exact ⟨_, rfl, done_up HD.out (HH1.out.up HLW.out.1 HLW.out.2 (HG5.out.turned _) (HH1.out.store.grew HG5.out)) (HG5.out.turned _), fun h9 => absurd h9 (by decide)⟩
            · have hib : decide ((n : Int) ≤ (q : Int)) = false := decide_eq_false (by omega)
              have hib2 : ¬ (q : Int) ≥ (n : Int) := by omega
              have hr := HRR.out
              rw [if_neg (by omega), Int.toNat_natCast] at hr
              have HG0 := Lib.hid (fun (w5 : World) (hg : Grew wz w5) => get_any (HH1.out.up HLW.out.1 HLW.out.2 ((HGZ.out.trans hg).turned _) (HH1.out.store.grew (HGZ.out.trans hg))) HLW.out.1 (by rw [HEL.out]; exact HLN.out.1) HEF.out HLW.out.2 (HVW.out.grew hg) q (by have := HHN.out; have := HEL.out; omega) (by omega))
              obtain ⟨⟨dd, ee⟩, hlook⟩ : ∃ r, lookI E q = r := ⟨_, rfl⟩
              rw [hlook] at HG0 hr
              have HRQ := Lib.hid hr
              clear hr hlook HRR
              go_wp2_with fail
              refine HSE.out.mono ?_
              rintro e w5 ⟨rfl, g5⟩
              have HG5 := Lib.hid g5
              clear g5
              go_wp2_with fail
              refine (HG0.out w5 HG5.out).mono ?_
              rintro e w6 ⟨rfl, hh6, hv6, ht6⟩
              have hvl : w1.heap.size ≤ gv ∧ w1.heap.size ≤ mm := by obtain ⟨topv, F, hv⟩ := hv6; exact ⟨hv.lg, hv.lm⟩
              have HT6 : Hid (Turned (fun q => q = m ∨ w1.heap.size ≤ q) w1 w6) := Lib.hid (((HGZ.out.trans HG5.out).turned _).trans (ht6.mono fun k _ hk => by rcases hk with hk | hk | hk; exact .inl hk; exact .inr (by omega); exact .inr (by omega)))
              have HH6 := Lib.hid hh6
              have hml := HLW.out.2
              have hownl : w1.heap.size ≤ gs := (HOWN.out.own_ge rfl).1
              have HOW6 := Lib.hid ((HOWN.out.grew HG5.out).kept ht6 (fun g hg e => by
                have e1 : gs = g := by simpa [Value.ownBlock] using hg
                subst e1
                rcases e with e | e | e
                · omega
                · exact HNE.out.1 e
                · exact HNE.out.2 e))
              clear hh6 hv6 ht6 hvl
              by_cases he0 : ee = 0
              · subst he0
                have hr := HRQ.out
                rw [if_pos rfl] at hr
                injection hr with h1 h2
                injection h2 with h2 h3
                have HE8 := Lib.hid (show E = D' ∧ dd = d ∧ 0 = er from ⟨h1, h2, h3⟩)
                clear h1 h2 h3
                have HW6 : Hid (w1.heap.size ≤ w6.heap.size) := Lib.hid HT6.out.size
                have hw6 := HW6.out
                go_wp2_with (at_builtin; refine wpList_push2 rfl _ _ 37 rfl w1.heap.size 9 1 16 (.string ⟨#[]⟩) Try.underlying37 info_strz rfl (by decide) (w6.alloc (.cells #[.string dd] 9)) (.slice (some ⟨gs, 0, none⟩) 0 1) [] [.string dd] rfl rfl (HOW6.out.alloc _) w6.heap.size (by rfl) (Blk.new _ _ _ rfl) rfl (by simp) (by simp) (by simp; omega) 0 rfl ?_)
                intro g9 cap9 w9 hown9 hgb9 _ _
                have ht9 : Turned (fun q => q = m ∨ w1.heap.size ≤ q) w1 w9 := HT6.out.trans (((Turned.refl _ w6).alloc _).trans ⟨hgb9.os, hgb9.tape, hgb9.output, hgb9.size, fun k hk hn => hgb9.block k hk (fun e9 => hn (.inr (HOWN.out.row_ge k e9.symm)))⟩)
                have hst9 : StoreM w9 s m x sy ep := (HH6.out.store.grew ((Grew.refl w6).alloc (.cells #[.string dd] 9))).kept (S := fun q => w1.heap.size ≤ q) ⟨hgb9.os, hgb9.tape, hgb9.output, hgb9.size, fun k hk hn => hgb9.block k hk (fun e9 => hn (HOWN.out.row_ge k e9.symm))⟩ (by have := HLW.out.1.2; omega) (by omega)
                have hc9 : w9.cell? ⟨g9, 0, none⟩ = some (.string dd) := by have := hown9.cell (j := 0) (i := 0) rfl rfl; simpa using this
                have HE9 := Lib.hid (show D' = E ∧ er = 0 ∧ w9.cell? ⟨g9, 0, none⟩ = some (.string d) from ⟨HE8.out.1.symm, HE8.out.2.2.symm, by rw [← HE8.out.2.1]; exact hc9⟩)
                have HT9 := Lib.hid ht9
                have HST9 := Lib.hid hst9
                clear hown9 hgb9 ht9 hst9 hc9 hw6
                go_wp2_with fail
                go_roundg 0
                case measure => rw [HGK.out]; omega
                case rel => exact .inr ⟨rfl, rfl, HE9.out.1, HE9.out.2.1, ⟨g9, cap9, rfl, HE9.out.2.2⟩, HH1.out.up HLW.out.1 HLW.out.2 HT9.out HST9.out, HT9.out⟩
              · have hne2 : (ee != 0) = true := by rw [bne_iff_ne]; exact he0
                have hr := HRQ.out
                injection hr with h1 h2
                injection h2 with h2 h3
                subst h1; subst h3
                have H0 := Lib.hid he0
                clear h2 he0
                go_wp2_with fail
                go_ret2
                exact ⟨_, rfl, done_up HD.out HH6.out HT6.out, fun h9 => absurd h9 H0.out⟩
        · have HX := Lib.hid (show D' = E ∧ er = 0 from ⟨hDE, her⟩)
          have HC9 := Lib.hid hc9
          have HH9 := Lib.hid hh9
          have HT9 := Lib.hid ht9
          clear hDE her hc9 hh9 ht9 hgk
          go_wp2_with fail
          go_ret2
          exact ⟨_, by rw [HX.out.2]; rfl, by rw [HX.out.1]; exact done_up HD.out HH9.out HT9.out, fun _ => ⟨g9, c9, rfl, HC9.out⟩⟩
  · rw [if_pos (by simpa using h0)] at hr
    injection hr with h1 h2
    injection h2 with h2 h3
    subst h1; subst h2; subst h3
    have hne : (f != 0) = true := by rw [bne_iff_ne]; exact h0
    have H0 := Lib.hid h0
    clear h hlen hp hE hfl h0
    go_enter Try.func69, Try.ntmps69
    go_wp2_with fail
    refine HF.out.mono ?_
    rintro e w1 ⟨rfl, hd⟩
    have HD := Lib.hid hd
    clear hd
    go_wp2_with fail
    go_ret2
    exact ⟨_, rfl, HD.out, fun h9 => absurd h9 H0.out⟩
end
theorem done_narrow {w0 : World} {x s m : Nat} {sy ep : Int} {E : Dev} {out out' : Nat → Prop} {W w1 w' : World} (hd : Done w0 x s m sy ep E out' w1 w') (hg : Grew W w1) (ho : ∀ k, out k → out' k) : Done w0 x s m sy ep E out W w' :=
  ⟨hd.live.few ho, hd.store, (hg.turned _).trans (hd.turned.mono fun k _ hk => hk.elim (fun h9 => .inl ⟨h9.1, fun h8 => h9.2 (ho k h8)⟩) .inr)⟩
theorem readP_err {D : Dev} {sy ep i : Int} {D' : Dev} {d : ByteArray} {er : Int} (hr : readP D sy ep i = (D', d, er)) (h : er ≠ 0) : d = ⟨#[]⟩ := by
  unfold readP at hr
  split at hr
  · injection hr with _ h2; injection h2 with h2 _; exact h2.symm
  split at hr
  · injection hr with _ h2; injection h2 with h2 _; exact h2.symm
  · injection hr with _ h2
    injection h2 with h2 h3
    rw [h3, if_neg h] at h2
    exact h2.symm
section
variable {w0 : World} {x s m : Nat} {sy ep : Int} {D : Dev} {out : Nat → Prop} {W : World} (h : Held w0 x s m sy ep D out W) (hlen : 132 ≤ D.st.length ∧ D.st.length ≤ 1155) (hp : D.pend.length ≤ 980000)
include h hlen hp
set_option maxRecDepth 100000 in
set_option maxHeartbeats 1000000 in
theorem readS_any (i : Int) (hi : okI i) (D' : Dev) (d : ByteArray) (er : Int) (hr : readP D sy ep i = (D', d, er)) :
    Calls Try.prog 34 #[ptrV s, .int .i64 i] W fun e w' => e = .returned (.tuple #[.string d, .int .i64 er]) ∧ Done w0 x s m sy ep D' out W w' := by
  have hg : Grew W (W.alloc (.cells #[.int .i64 i] 3)) := (Grew.refl W).alloc _
  have hb : Blk (W.alloc (.cells #[.int .i64 i] 3)) W.heap.size 3 #[.int .i64 i] := Blk.new W _ _ rfl
  have hh : Held w0 x s m sy ep D (fun k => out k ∨ (W.heap.size ≤ k ∧ k < (W.alloc (.cells #[.int .i64 i] 3)).heap.size)) (W.alloc (.cells #[.int .i64 i] 3)) := ⟨h.live.more hg, h.store.grew hg, .inl h.os, .inl h.om, h.m0⟩
  have hl1 : ListAt (W.alloc (.cells #[.int .i64 i] 3)) (W.alloc (.cells #[.int .i64 i] 3)).heap.size 1 (some ⟨W.heap.size, 0, none⟩) [[.int .i64 i]] := ones_blk (l := [.int .i64 i]) hb (by simp)
  have HR := Lib.hid (readAll_one hh hlen hp i hi _ 1 hl1 (fun b off e => by injection e with e; injection e with e _ _; subst e; exact .inr (.inr ⟨Nat.le_refl _, by simp⟩)) D' d er hr)
  have HE := Lib.hid (fun h9 => readP_err hr h9)
  have HG := Lib.hid hg
  clear h hlen hp hr hg hb hh hl1
  by_cases h0 : er = 0
  · subst h0
    go_enter Try.func34, Try.ntmps34
    go_wp2_with fail
    refine HR.out.mono ?_
    rintro e w1 ⟨v, rfl, hd, hv⟩
    obtain ⟨g, cap, rfl, hc⟩ := hv rfl
    have hgl := (cell_lt hc).1
    have HD := Lib.hid hd
    clear hd hv
    go_wp2_with fail
    go_ret2
    exact ⟨rfl, done_narrow HD.out HG.out (fun k hk => .inl hk)⟩
  · have hne : (er != 0) = true := by rw [bne_iff_ne]; exact h0
    have hd0 := HE.out h0
    subst hd0
    clear h0
    go_enter Try.func34, Try.ntmps34
    go_wp2_with fail
    refine HR.out.mono ?_
    rintro e w1 ⟨v, rfl, hd, _⟩
    have HD := Lib.hid hd
    clear hd
    go_wp2_with fail
    go_ret2
    exact ⟨rfl, done_narrow HD.out HG.out (fun k hk => .inl hk)⟩
end
end Go.Proofs.Ytbddelefglhaaaa
namespace Go.Proofs.Ytbddelefglhaaaa
set_option linter.unusedVariables false
set_option linter.unusedSimpArgs false
set_option linter.unusedSectionVars false
open Go.RowKit
theorem sortW_mem (n : Nat) (ws : List (Int × ByteArray)) (e : Nat × ByteArray) : e ∈ sortW n ws ↔ e.1 < n ∧ (ws.find? fun x => x.1 == (e.1 : Int)).map (·.2) = some e.2 := by
  unfold sortW
  rw [List.mem_filterMap]
  constructor
  · rintro ⟨i, hi, h⟩
    obtain ⟨x, hx, rfl⟩ := Option.map_eq_some_iff.1 h
    exact ⟨List.mem_range.1 hi, by show (ws.find? fun x => x.1 == (i : Int)).map (·.2) = _; rw [hx]; rfl⟩
  · rintro ⟨h1, h2⟩
    obtain ⟨x, hx, hxe⟩ := Option.map_eq_some_iff.1 h2
    exact ⟨e.1, List.mem_range.2 h1, by rw [hx]; show some (e.1, x.2) = some e; rw [hxe]⟩
theorem sortW_asc (n : Nat) (ws : List (Int × ByteArray)) : (sortW n ws).Pairwise fun a b => a.1 < b.1 := by
  unfold sortW
  rw [List.pairwise_filterMap]
  refine List.pairwise_lt_range.imp ?_
  intro a b hab x hx y hy
  obtain ⟨u, _, rfl⟩ := Option.map_eq_some_iff.1 hx
  obtain ⟨v, _, rfl⟩ := Option.map_eq_some_iff.1 hy
  exact hab
theorem find_of_mem {ws : List (Int × ByteArray)} (hn : (ws.map (·.1)).Nodup) (x : Int × ByteArray) (hx : x ∈ ws) : (ws.find? fun y => y.1 == x.1) = some x := by
  induction ws with
  | nil => cases hx
  | cons y ws ih =>
    rw [List.map_cons, List.nodup_cons] at hn
    rw [List.find?_cons]
    rcases List.mem_cons.1 hx with rfl | hx
    · rw [beq_self_eq_true]
    · have : (y.1 == x.1) = false := beq_eq_false_iff_ne.2 (fun e => hn.1 (by rw [e]; exact List.mem_map_of_mem hx))
      rw [this]
      exact ih hn.2 hx
/-- What is written to a sector. -/
def valW (ws : List (Int × ByteArray)) (i : Nat) : Option ByteArray := (ws.find? fun x => x.1 == (i : Int)).map (·.2)
theorem lastE_sort (n : Nat) (ws : List (Int × ByteArray)) (i : Nat) (hi : i < n) : lastE (sortW n ws) i = valW ws i := by
  have hnd : ((sortW n ws).map (·.1)).Nodup := by
    rw [List.Nodup, List.pairwise_map]
    exact (sortW_asc n ws).imp (fun {a b} hab => by omega)
  cases hv : valW ws i with
  | some s => exact lastE_one _ hnd (i, s) ((sortW_mem n ws (i, s)).2 ⟨hi, hv⟩)
  | none =>
    refine lastE_none _ _ (fun e he hq => ?_)
    obtain ⟨_, h2⟩ := (sortW_mem n ws e).1 he
    rw [hq] at h2
    unfold valW at hv
    rw [hv] at h2
    cases h2
/-- What is known of writes that a store takes. -/
theorem check_facts (n : Nat) (ws : List (Int × ByteArray)) (h : checkP n ws = 0) : (∀ e ∈ ws, e.2.size = 128 ∧ 0 ≤ e.1 ∧ e.1 < (n : Int)) ∧ (ws.map (·.1)).Nodup ∧ ws.length ≤ 64 := by
  unfold checkP at h
  split at h
  · cases h
  rename_i h1
  split at h
  · cases h
  rename_i h2
  split at h
  · cases h
  rename_i h3
  simp only [not_or, Decidable.not_not, Bool.not_eq_true, List.any_eq_false, decide_eq_true_eq] at h1 h2
  refine ⟨fun e he => ⟨?_, ?_⟩, h1.2, by omega⟩
  · have := h1.1 e he
    exact this
  · have := h2 e he
    omega
theorem sortW_len (n : Nat) (ws : List (Int × ByteArray)) (h : ∀ e ∈ ws, 0 ≤ e.1 ∧ e.1 < (n : Int)) (hn : (ws.map (·.1)).Nodup) : (sortW n ws).length = ws.length := by
  have hp : ((sortW n ws).map (fun e => (e.1 : Int))).Perm (ws.map (·.1)) := by
    refine (List.perm_ext_iff_of_nodup ?_ hn).2 (fun i => ?_)
    · rw [List.Nodup, List.pairwise_map]
      exact (sortW_asc n ws).imp (fun {a b} hab => by omega)
    · constructor
      · intro hi
        obtain ⟨e, he, rfl⟩ := List.mem_map.1 hi
        obtain ⟨_, h2⟩ := (sortW_mem n ws e).1 he
        obtain ⟨x, hx, _⟩ := Option.map_eq_some_iff.1 h2
        have h3 := List.find?_some hx
        exact List.mem_map.2 ⟨x, List.mem_of_find?_eq_some hx, by simpa using h3⟩
      · intro hi
        obtain ⟨x, hx, rfl⟩ := List.mem_map.1 hi
        have hb := h x hx
        refine List.mem_map.2 ⟨(x.1.toNat, x.2), (sortW_mem n ws _).2 ⟨by show x.1.toNat < n; omega, ?_⟩, by show ((x.1.toNat : Nat) : Int) = x.1; omega⟩
        show (ws.find? fun y => y.1 == ((x.1.toNat : Nat) : Int)).map (·.2) = some x.2
        rw [show ((x.1.toNat : Nat) : Int) = x.1 from by omega, find_of_mem hn x hx]
        rfl
  have := hp.length_eq
  simpa using this
theorem takes_of (I : Img) (ws : List (Int × ByteArray)) (h : checkP I.n ws = 0) (h0 : ws ≠ []) (hr : I.N + 1 < 4294967296) : Takes I (sortW I.n ws) := by
  obtain ⟨h1, h2, h3⟩ := check_facts I.n ws h
  have hl := sortW_len I.n ws (fun e he => (h1 e he).2) h2
  refine ⟨fun e he => ?_, sortW_asc _ _, ?_, by omega, hr⟩
  · obtain ⟨g1, g2⟩ := (sortW_mem I.n ws e).1 he
    obtain ⟨x, hx, hxe⟩ := Option.map_eq_some_iff.1 g2
    exact ⟨g1, by rw [← hxe]; exact (h1 x (List.mem_of_find?_eq_some hx)).1⟩
  · rw [hl]
    cases ws with
    | nil => exact absurd rfl h0
    | cons x l => simp
/-- A commit at a store. -/
theorem commitP_clean {D : Dev} {I : Img} {sy ep : Int} (h : Clean D I) (hc : Calm D sy ep) (hf : D.fuse = none) (ws : List (Int × ByteArray)) (hr : I.N + 1 < 4294967295) :
    (checkP I.n ws ≠ 0 ∨ ws = [] → commitP D sy ep ws = (D, checkP I.n ws)) ∧
    (checkP I.n ws = 0 → ws ≠ [] → ∃ E, commitP D sy ep ws = (E, 0) ∧ Clean E (I.upd (sortW I.n ws)) ∧ E.fen = D.fen ∧ E.fuse = none) := by
  have hn : D.st.length - 131 = I.n := by rw [h.len]; omega
  have hfin := finD_clean h sy ep
  constructor
  · intro hno
    unfold commitP
    rw [hfin, hn, if_neg (by simp), if_pos hno]
  · intro h0 hne
    have ht := takes_of I ws h0 hne (by omega)
    obtain ⟨r1, r2, r3, r4⟩ := commit_clean h ht hc hf
    refine ⟨_, ?_, r2, r3, r4⟩
    unfold commitP
    rw [hfin, hn, if_neg (by simp), if_neg (by simp [h0, hne])]
    show (if (topI D).ok = false then (D, 11) else if mapsE D (ksW (sortW I.n ws)) ≠ 0 then (D, mapsE D (ksW (sortW I.n ws))) else if (topI D).ver = 4294967295#32 then (D, 8) else runS sy ep (commitS (entG D (sortW I.n ws) ((topI D).ver + 1#32)) ((topI D).ver + 1#32)) D) = _
    rw [mapsE_ok h.toHolds _ (fun k hk => ((ksW_mem _ k).1 hk).1), h.topI, if_neg (by simp), if_neg (by simp), if_neg]
    · show runS sy ep (commitS (entG D (sortW I.n ws) (nv I.N + 1#32)) (nv I.N + 1#32)) D = _
      rw [nv_succ, entG_is h.toHolds ht]
      exact r1
    · intro hq
      have := congrArg BitVec.toNat hq
      rw [show (Raw.mk (vbytes I.tops) (nv I.N) true).ver = nv I.N from rfl, nv_toNat _ (by omega)] at this
      simp at this
      omega
end Go.Proofs.Ytbddelefglhaaaa
