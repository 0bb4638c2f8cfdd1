/- Chapter 3: begin. -/
import Derived.Test.YtklojcgbokmkhaaDevAD
namespace Go.Proofs.Ytklojcgbokmkhaa
set_option linter.unusedVariables false
set_option linter.unusedSimpArgs false
set_option linter.unusedSectionVars false
open Go.RowKit
open Go.Maps (Keyed)
attribute [local go_sem ↓] Go.wp_at_zero Go.wp_at_succ
theorem results_tmp_row_tmp {P : Program} {fn : Func} {s p u : Tmp} {ty : TypeId} (h : fn.results = #[.tmp s, .cell p ty, .tmp u]) (tmps : Array Value) (w : World) (g : Nat) (t : TypeId) (cs : Array Value) (d : TypeDesc) (v0 v : Value)
    (h0 : tmps.getD s undef = v0) (hp : tmps.getD p undef = .pointer (some ⟨g, 0, none⟩)) (hv : tmps.getD u undef = v) (hg : Blk w g t cs)
    (hu : P.underlying ty = some d) (hd : (match d with | .struct _ | .array _ _ => true | _ => false) = true) (hi : (P.info? ty).map (·.size) = some cs.size) :
    (results fn tmps).run P w = .ok (.tuple #[v0, .agg cs, v]) w := by
  have h0' : tmps[s]?.getD undef = v0 := by simpa using h0
  have hp' : tmps[p]?.getD undef = .pointer (some ⟨g, 0, none⟩) := by simpa using hp
  have hv' : tmps[u]?.getD undef = v := by simpa using hv
  simp [results, h, h0', hp', hv', asAddr, run_loadVar_row w g t ty cs (0, 0) d hg hu hd hi]
theorem Live.lower {w w0 ws : World} {x : Nat} {D : Dev} {out : Nat → Prop} (h : Live w0 x D out ws) (hg : Grew w w0) : Live w x D out ws := by
  obtain ⟨q, hx, hd, hg0, hf, hn⟩ := h
  exact ⟨q, hx, hd, hg.trans hg0, fun k hk => Nat.le_trans hg.size (hf k hk), hn⟩
theorem newD_pend (n : Nat) : (newD n).pend = [] := rfl
set_option maxRecDepth 100000 in
set_option maxHeartbeats 4000000 in
theorem begin_any (c : Nat) (hc : c < 256) (w : World) : Calls Try.prog 14 #[.int .u8 (c : Int)] w fun e w' => ∃ x p, e = .returned (.tuple #[.pointer (some ⟨x, 0, none⟩), .agg (rv p (newD (1 + c % 6))), .bool true]) ∧
    Live w x (newD (1 + c % 6)) (fun k => p.feet (newD (1 + c % 6)) k) w' ∧ RefM w' p (newD (1 + c % 6)) ∧ ∀ k, p.feet (newD (1 + c % 6)) k → w.heap.size ≤ k := by
  obtain ⟨n, hn⟩ : ∃ n, 1 + c % 6 = n := ⟨_, rfl⟩
  rw [hn]
  have hn1 : 1 ≤ n := by omega
  have hn6 : n ≤ 6 := by omega
  obtain ⟨r, hr⟩ : ∃ r : Int, (c : Int) % 6 = r := ⟨_, rfl⟩
  have hr0 : 0 ≤ r := by omega
  have hr5 : r ≤ 5 := by omega
  have HRN := Lib.hid (show 1 + r = (n : Int) by omega)
  have hrb : 0 ≤ 1 + r ∧ 1 + r ≤ 1000000 := by omega
  have hz := Blk.new w 32 #[.slice none 0 0, .slice none 0 0, .slice none 0 0, .slice none 0 0, .bool false, .int .i64 0, .slice none 0 0] rfl
  have hG0 := (Grew.refl w).alloc (.cells #[.slice none 0 0, .slice none 0 0, .slice none 0 0, .slice none 0 0, .bool false, .int .i64 0, .slice none 0 0] 32)
  have HNW := Lib.hid (new_live n (w.alloc (.cells #[.slice none 0 0, .slice none 0 0, .slice none 0 0, .slice none 0 0, .bool false, .int .i64 0, .slice none 0 0] 32)) hn1 (by omega))
  clear hn
  go_enter Try.func14, Try.ntmps14
  go_upto_region 2 with fail
  rw [HRN.out]
  obtain ⟨w1, hw1⟩ : ∃ w1, w1 = w.alloc (.cells #[.slice none 0 0, .slice none 0 0, .slice none 0 0, .slice none 0 0, .bool false, .int .i64 0, .slice none 0 0] 32) := ⟨_, rfl⟩
  rw [← hw1] at hz hG0 HNW ⊢
  have HZ11 := Lib.hid (show w1.heap.size = w.heap.size + 1 from by rw [hw1]; simp)
  clear hw1
  go_wp2_with fail
  refine HNW.out.mono ?_
  rintro e w2 ⟨x, rfl, hl⟩
  have HL := Lib.hid hl
  have hz2 := hz.grew hl.base
  clear hl hz
  go_wp2_with fail
  refine (rnew_any n w2 hn1 (by omega)).mono ?_
  rintro e w3 ⟨p, rfl, hR, hg3, hf3⟩
  have HL3 := Lib.hid ((HL.out.more hg3).few (out' := fun k => p.feet (newD n) k) (fun k hk => .inr ⟨hf3 k hk, hR.lt k hk⟩))
  have HR := Lib.hid hR
  have hz3 := hz2.grew hg3
  have hb4 := Blk.new w3 32 #[.slice none 0 0, .slice none 0 0, .slice none 0 0, .slice none 0 0, .bool false, .int .i64 0, .slice none 0 0] rfl
  have hge := HL.out.base.size
  have hlow := fun k (hk : p.feet (newD n) k) => Nat.le_trans hge (hf3 k hk)
  have HFT := Lib.hid (show ∀ k, p.feet (newD n) k → w.heap.size ≤ k from fun k hk => by have := hf3 k hk; have := hG0.size; omega)
  clear hR hg3 hf3 hz2
  go_upto_region 4 with (refine wpList_store_blk rfl 32 _ _ rfl w3.heap.size (rv p (newD n)) rfl rfl 32 _ hb4 rfl info_rdev (rv_one _ _) ?_)
  have hb5 := hb4.setRow (rv p (newD n))
  have hg5 : Grew w3 ((w3.alloc (.cells #[.slice none 0 0, .slice none 0 0, .slice none 0 0, .slice none 0 0, .bool false, .int .i64 0, .slice none 0 0] 32)).setRow w3.heap.size (rv p (newD n))) := ((Grew.refl w3).alloc (.cells #[.slice none 0 0, .slice none 0 0, .slice none 0 0, .slice none 0 0, .bool false, .int .i64 0, .slice none 0 0] 32)).setRow (Nat.le_refl _) _
  obtain ⟨w5, hw5⟩ : ∃ w5, w5 = (w3.alloc (.cells #[.slice none 0 0, .slice none 0 0, .slice none 0 0, .slice none 0 0, .bool false, .int .i64 0, .slice none 0 0] 32)).setRow w3.heap.size (rv p (newD n)) := ⟨_, rfl⟩
  rw [← hw5] at hb5 hg5 ⊢
  clear hw5 hb4
  have HL5 := Lib.hid (HL3.out.grew hg5)
  have HR5 := Lib.hid (HR.out.grew hg5)
  have hz5 := hz3.grew hg5
  obtain ⟨E, hE⟩ : ∃ E, newD n = E := ⟨_, rfl⟩
  have HE := Lib.hid hE
  rw [hE] at hb5 HL5 HR5 hlow HFT ⊢
  clear hE HL3 HR hg5
  have hb5' := hb5
  unfold rv at hb5'
  have hS := (show (fun w' : World => w'.cell? ⟨w3.heap.size, 0, none⟩ = some (.slice p.A0 E.st.length p.c0) ∧ w'.cell? ⟨w3.heap.size, 1, none⟩ = some (.slice p.A1 E.st.length p.c1) ∧ w'.cell? ⟨w3.heap.size, 2, none⟩ = some (.slice p.A2 E.pend.length p.c2) ∧ w'.cell? ⟨w3.heap.size, 3, none⟩ = some (.slice p.A3 5 p.c3) ∧ w'.cell? ⟨w3.heap.size, 4, none⟩ = some (.bool E.failed) ∧ w'.cell? ⟨w3.heap.size, 5, none⟩ = some (.int .i64 p.fu) ∧ w'.cell? ⟨w3.heap.size, 6, none⟩ = some (.slice p.A6 p.svl.length p.c6)) w5.drew from ⟨hb5'.cell 0, hb5'.cell 1, hb5'.cell 2, hb5'.cell 3, hb5'.cell 4, hb5'.cell 5, hb5'.cell 6⟩)
  clear hb5' hz3
  refine wp_region_R [9] (fun w' : World => w'.cell? ⟨w3.heap.size, 0, none⟩ = some (.slice p.A0 E.st.length p.c0) ∧ w'.cell? ⟨w3.heap.size, 1, none⟩ = some (.slice p.A1 E.st.length p.c1) ∧ w'.cell? ⟨w3.heap.size, 2, none⟩ = some (.slice p.A2 E.pend.length p.c2) ∧ w'.cell? ⟨w3.heap.size, 3, none⟩ = some (.slice p.A3 5 p.c3) ∧ w'.cell? ⟨w3.heap.size, 4, none⟩ = some (.bool E.failed) ∧ w'.cell? ⟨w3.heap.size, 5, none⟩ = some (.int .i64 p.fu) ∧ w'.cell? ⟨w3.heap.size, 6, none⟩ = some (.slice p.A6 p.svl.length p.c6)) (by kernel_rfl) ?_
  refine wpAnyR_takeQ (i := 0) (v := ?_) (some 24) rfl rfl (by kernel_rfl) (by kernel_rfl) (by kernel_rfl) (by kernel_rfl) (fun _ _ _ h => h) (Or.inl ⟨by rfl, ?_⟩) ?_
  rotate_left
  focus (intro wS hSw; (try dsimp only at hSw); go_simp; (try with_reducible rfl); (try (first | (rw [if_pos (by omega)]; (try go_simp); (try with_reducible rfl)) | (rw [if_neg (by omega)]; (try go_simp); (try with_reducible rfl)))))
  try simp only [Act.put, List.setIfInBounds_toArray, List.set_cons_zero, List.set_cons_succ]
  refine wpAnyR_take (i := 1) (v := ?_) [9, 10] (some 25) rfl rfl (by kernel_rfl) (by kernel_rfl) (by kernel_rfl) (by kernel_rfl) (by kernel_rfl) (by kernel_rfl) (by kernel_rfl) (fun _ _ _ h => h) (Or.inl ⟨by rfl, ?_⟩) hS ?_
  rotate_left
  focus (intro wS hSw; (try dsimp only at hSw); go_simp; (try with_reducible rfl); (try (first | (rw [if_pos (by omega)]; (try go_simp); (try with_reducible rfl)) | (rw [if_neg (by omega)]; (try go_simp); (try with_reducible rfl)))))
  try simp only [Act.put, List.setIfInBounds_toArray, List.set_cons_zero, List.set_cons_succ]
  refine wpAnyR_takeQ (i := 2) (v := ?_) (some 26) rfl rfl (by kernel_rfl) (by kernel_rfl) (by kernel_rfl) (by kernel_rfl) (fun _ _ _ h => h) (Or.inl ⟨by rfl, ?_⟩) ?_
  rotate_left
  focus (intro wS hSw; (try dsimp only at hSw); go_simp; (try with_reducible rfl); (try (first | (rw [if_pos (by omega)]; (try go_simp); (try with_reducible rfl)) | (rw [if_neg (by omega)]; (try go_simp); (try with_reducible rfl)))))
  try simp only [Act.put, List.setIfInBounds_toArray, List.set_cons_zero, List.set_cons_succ]
  refine wpAnyR_takeQ (i := 3) (v := ?_) (some 27) rfl rfl (by kernel_rfl) (by kernel_rfl) (by kernel_rfl) (by kernel_rfl) (fun _ _ _ h => h) (Or.inl ⟨by rfl, ?_⟩) ?_
  rotate_left
  focus (intro wS hSw; (try dsimp only at hSw); go_simp; (try with_reducible rfl); (try (first | (rw [if_pos (by omega)]; (try go_simp); (try with_reducible rfl)) | (rw [if_neg (by omega)]; (try go_simp); (try with_reducible rfl)))))
  try simp only [Act.put, List.setIfInBounds_toArray, List.set_cons_zero, List.set_cons_succ]
  refine wpAnyR_takeQ (i := 4) (v := ?_) (some 28) rfl rfl (by kernel_rfl) (by kernel_rfl) (by kernel_rfl) (by kernel_rfl) (fun _ _ _ h => h) (Or.inl ⟨by rfl, ?_⟩) ?_
  rotate_left
  focus (intro wS hSw; (try dsimp only at hSw); go_simp; (try with_reducible rfl); (try (first | (rw [if_pos (by omega)]; (try go_simp); (try with_reducible rfl)) | (rw [if_neg (by omega)]; (try go_simp); (try with_reducible rfl)))))
  try simp only [Act.put, List.setIfInBounds_toArray, List.set_cons_zero, List.set_cons_succ]
  refine wpAnyR_takeQ (i := 5) (v := ?_) (some 29) rfl rfl (by kernel_rfl) (by kernel_rfl) (by kernel_rfl) (by kernel_rfl) (fun _ _ _ h => h) (Or.inl ⟨by rfl, ?_⟩) ?_
  rotate_left
  focus (intro wS hSw; (try dsimp only at hSw); go_simp; (try with_reducible rfl); (try (first | (rw [if_pos (by omega)]; (try go_simp); (try with_reducible rfl)) | (rw [if_neg (by omega)]; (try go_simp); (try with_reducible rfl)))))
  try simp only [Act.put, List.setIfInBounds_toArray, List.set_cons_zero, List.set_cons_succ]
  refine wpAnyR_takeQ (i := 6) (v := ?_) (some 30) rfl rfl (by kernel_rfl) (by kernel_rfl) (by kernel_rfl) (by kernel_rfl) (fun _ _ _ h => h) (Or.inl ⟨by rfl, ?_⟩) ?_
  rotate_left
  focus (intro wS hSw; (try dsimp only at hSw); go_simp; (try with_reducible rfl); (try (first | (rw [if_pos (by omega)]; (try go_simp); (try with_reducible rfl)) | (rw [if_neg (by omega)]; (try go_simp); (try with_reducible rfl)))))
  try simp only [Act.put, List.setIfInBounds_toArray, List.set_cons_zero, List.set_cons_succ]
  refine wpAnyR_takeQ (i := 7) (v := ?_) (some 31) rfl rfl (by kernel_rfl) (by kernel_rfl) (by kernel_rfl) (by kernel_rfl) (fun _ _ _ h => h) (Or.inl ⟨by rfl, ?_⟩) ?_
  rotate_left
  focus (intro wS hSw; (try dsimp only at hSw); go_simp; (try with_reducible rfl); (try (first | (rw [if_pos (by omega)]; (try go_simp); (try with_reducible rfl)) | (rw [if_neg (by omega)]; (try go_simp); (try with_reducible rfl)))))
  try simp only [Act.put, List.setIfInBounds_toArray, List.set_cons_zero, List.set_cons_succ]
  refine wpAnyR_takeQ (i := 8) (v := ?_) (some 2) rfl rfl (by kernel_rfl) (by kernel_rfl) (by kernel_rfl) (by kernel_rfl) (fun _ _ _ h => h) (Or.inl ⟨by rfl, ?_⟩) ?_
  rotate_left
  focus (intro wS hSw; (try dsimp only at hSw); go_simp; (try with_reducible rfl); (try (first | (rw [if_pos (by omega)]; (try go_simp); (try with_reducible rfl)) | (rw [if_neg (by omega)]; (try go_simp); (try with_reducible rfl)))))
  try simp only [Act.put, List.setIfInBounds_toArray, List.set_cons_zero, List.set_cons_succ]
  refine wpAnyR_n1 (i := 9) rfl (by kernel_rfl) ?_
  intro K' hK
  rw [if_pos (by rfl)]
  simp only [List.getElem_toArray, List.getElem_cons_succ, List.getElem_cons_zero]
  refine wp_store_blk 32 _ _ rfl w.heap.size (rv p E) rfl rfl 32 _ hz5.drew rfl info_rdev (rv_one _ _) ?_
  simp only [Act.put]
  refine hK.out _ _ (.inl rfl) ?_
  clear hK hS
  refine wpAnyR_takeQ (i := 10) (v := ?_) (some 4) rfl rfl (by kernel_rfl) (by kernel_rfl) (by kernel_rfl) (by kernel_rfl) (fun _ _ _ h => h) (Or.inl ⟨by rfl, ?_⟩) ?_
  rotate_left
  focus (intro wS hSw; (try dsimp only at hSw); go_simp; (try with_reducible rfl); (try (first | (rw [if_pos (by omega)]; (try go_simp); (try with_reducible rfl)) | (rw [if_neg (by omega)]; (try go_simp); (try with_reducible rfl)))))
  try simp only [Act.put, List.setIfInBounds_toArray, List.set_cons_zero, List.set_cons_succ]
  refine wpAnyR_done (by kernel_rfl) ?_ _
  go_wp2_with fail
  refine bodyPost_ret (results_tmp_row_tmp rfl _ _ w.heap.size 32 (rv p E) _ _ _ rfl rfl rfl (hz5.drew.setRow _) Try.underlying32 rfl info_rdev) rfl ?_
  have ht9 : Turned (fun k => k = w.heap.size) w5 (w5.drew.setRow w.heap.size (rv p E)) := (Turned.refl (fun k => k = w.heap.size) w5).drew.setRow (fun _ => rfl) _
  rw [HE.out]
  obtain ⟨q, hx, hd, hg9, hf9, hn9⟩ := HL5.out
  have hz11 : w1.heap.size = w.heap.size + 1 := HZ11.out
  have hz19 := hG0.size
  refine ⟨x, p, rfl, ⟨q, hx, hd.kept ht9 (fun k hk h => by have := hf9 k hk; have := hz5.lt; omega), ?_, fun k hk => by have := hf9 k hk; omega, fun k hk => ⟨Nat.lt_of_lt_of_le (hn9 k hk).1 ht9.size, (hn9 k hk).2⟩⟩, HR5.out.turned ht9 (fun k hk h => by have := HFT.out k hk; have := hlow k hk; omega), HFT.out⟩
  exact (hG0.trans hg9).turn ht9 (fun k hk => by omega)
end Go.Proofs.Ytklojcgbokmkhaa
