/- Chapter 3: an operation, on a device of a law and on the reference's. -/
import Derived.Test.YtklojcgbokmkhaaDevZ
import Derived.Test.YtklojcgbokmkhaaDevY
namespace Go.Proofs.Ytklojcgbokmkhaa
set_option linter.unusedVariables false
set_option linter.unusedSimpArgs false
set_option linter.unusedSectionVars false
open Go.RowKit
open Go.Maps (Keyed)
attribute [local go_sem ↓] Go.wp_at_zero Go.wp_at_succ
def doD (D : Dev) (o : OpD) : Dev × Int :=
  match o.kind % 8 with
  | 0 => writeD D o.sys o.ep o.sec o.data
  | 1 => syncD D o.sys o.ep
  | 2 => (crashD D o.sys o.sv, 0)
  | 3 => (fenceD D o.sys o.ep, 0)
  | 4 => (failD D o.n o.sv, 0)
  | 5 => (repairD D, 0)
  | 6 => damageD D o.sec o.n o.mask
  | _ => returnD D o.sec o.n
theorem run_none (p : Wr → Bool) (sv : Nat → Nat) : ∀ (l : List Wr) (s : Dev × Nat), (∀ r ∈ l, p r = false) → l.foldl (endStep p sv) s = s
  | [], _, _ => rfl
  | r :: l, s, h => by
    rw [List.foldl_cons, show endStep p sv s r = s from by unfold endStep; rw [h r (List.mem_cons_self ..)]; rfl]
    exact run_none p sv l s (fun x hx => h x (List.mem_cons_of_mem _ hx))
theorem crashD_low {D : Dev} (h : D.Ok) {s : Int} (hs : s < 1) (l : List Int) : crashD D s l = D := by
  have hp : ∀ r ∈ D.pend, ofSys s r = false := fun r hr => decide_eq_false (by have := (h.pend r hr).2.2; omega)
  unfold crashD finishD runEnd
  rw [run_none _ _ _ _ hp, List.filter_eq_self.2 (fun r hr => by rw [hp r hr]; rfl)]
theorem rrepair_did {w : World} {p : RefP} {D : Dev} (h : RefM w p D) : Calls Try.prog 50 #[.agg (rv p D)] w fun er w' => ∃ p', er = .returned (.agg (rv p' (repairD D))) ∧ RDid w w' p D p' (repairD D) := by
  refine (rrepair_any h).mono ?_
  rintro e w' ⟨rfl, hg⟩
  exact ⟨_, rfl, (h.grew hg).set_fuse none false (-1) (.inl ⟨rfl, rfl⟩) (by omega), hg, fun k hk => .inl hk⟩
theorem mod8 (k : Nat) : k % 8 = 0 ∨ k % 8 = 1 ∨ k % 8 = 2 ∨ k % 8 = 3 ∨ k % 8 = 4 ∨ k % 8 = 5 ∨ k % 8 = 6 ∨ k % 8 = 7 := by omega
section
variable {w0 ws : World} {x : Nat} {D : Dev} {out : Nat → Prop} (h : Live w0 x D out ws) (o : OpD) (hok : okOp ws o) (hA : Aside w0 out o.A o.sv.length) (hsmall : D.pend.length ≤ 999999) (hsv : o.sv.length ≤ 1000000)
include h hok hA hsmall hsv
set_option maxRecDepth 100000 in
set_option maxHeartbeats 8000000 in
theorem do_live : Calls Try.prog 26 #[.pointer (some ⟨x, 0, none⟩), .agg (opV o)] ws fun e w' => e = .returned (.int .i64 (doD D o).2) ∧ Live w0 x (doD D o).1 out w' ∧ Beside w0 out ws w' := by
  have hal := (Grew.refl ws).alloc (.cells (opV o) 57)
  have hb := Blk.new ws 57 (opV o) rfl
  have HL := Lib.hid (h.grew hal)
  have HOK := Lib.hid (hok.keep hal)
  have HA := Lib.hid hA
  unfold opV at hal hb HL HOK ⊢
  have HAL := Lib.hid hal
  have v0 := hb.cell 0
  have v1 := hb.cell 1
  have v2 := hb.cell 2
  have v3 := hb.cell 3
  have v4 := hb.cell 4
  have v5 := hb.cell 5
  have v6 := hb.cell 6
  have v7 := hb.cell 7
  have hvl := hb.lt
  have hk256 := hok.kind
  clear h hok hA hal hb
  have hm := mod8 o.kind
  have HD := Lib.hid (show doD D o = match o.kind % 8 with
    | 0 => writeD D o.sys o.ep o.sec o.data
    | 1 => syncD D o.sys o.ep
    | 2 => (crashD D o.sys o.sv, 0)
    | 3 => (fenceD D o.sys o.ep, 0)
    | 4 => (failD D o.n o.sv, 0)
    | 5 => (repairD D, 0)
    | 6 => damageD D o.sec o.n o.mask
    | _ => returnD D o.sec o.n from rfl)
  generalize doD D o = R at *
  rcases hm with hm | hm | hm | hm | hm | hm | hm | hm
  · have hr : (o.kind : Int) % 8 = 0 := by omega
    rw [hm] at HD
    have HC := Lib.hid (write_live HL.out o.sys o.ep o.sec o.data hsmall HOK.out.data)
    clear hm
    go_enter Try.func26, Try.ntmps26
    go_wp2_with fail
    refine HC.out.mono ?_
    rintro e w2 ⟨rfl, hl2, ht2⟩
    have HL2 := Lib.hid hl2
    have HT2 := Lib.hid ht2
    clear hl2 ht2 v0 v1 v2 v3 v4 v5 v6 v7
    go_wp2_with fail
    go_ret
    rw [HD.out]
    exact ⟨rfl, HL2.out, (HAL.out.turned _).trans HT2.out⟩
  · have hr : (o.kind : Int) % 8 = 1 := by omega
    rw [hm] at HD
    have HC := Lib.hid (sync_live HL.out o.sys o.ep (by omega))
    clear hm
    go_enter Try.func26, Try.ntmps26
    go_wp2_with fail
    refine HC.out.mono ?_
    rintro e w2 ⟨rfl, hl2, ht2⟩
    have HL2 := Lib.hid hl2
    have HT2 := Lib.hid ht2
    clear hl2 ht2 v0 v1 v2 v3 v4 v5 v6 v7
    go_wp2_with fail
    go_ret
    rw [HD.out]
    exact ⟨rfl, HL2.out, (HAL.out.turned _).trans HT2.out⟩
  · have hr : (o.kind : Int) % 8 = 2 := by omega
    rw [hm] at HD
    have HC := Lib.hid (crash_live HL.out o.sys o.A o.c o.sv HOK.out.list HA.out (by omega) HOK.out.sv (by omega))
    clear hm
    go_enter Try.func26, Try.ntmps26
    go_wp2_with fail
    refine HC.out.mono ?_
    rintro e w2 ⟨rfl, hl2, ht2⟩
    have HL2 := Lib.hid hl2
    have HT2 := Lib.hid ht2
    clear hl2 ht2 v0 v1 v2 v3 v4 v5 v6 v7
    go_wp2_with fail
    go_ret
    rw [HD.out]
    exact ⟨rfl, HL2.out, (HAL.out.turned _).trans HT2.out⟩
  · have hr : (o.kind : Int) % 8 = 3 := by omega
    rw [hm] at HD
    have HC := Lib.hid (fence_live HL.out o.sys o.ep HOK.out.sys HOK.out.ep)
    clear hm
    go_enter Try.func26, Try.ntmps26
    go_wp2_with fail
    refine HC.out.mono ?_
    rintro e w2 ⟨rfl, hl2, ht2⟩
    have HL2 := Lib.hid hl2
    have HT2 := Lib.hid ht2
    clear hl2 ht2 v0 v1 v2 v3 v4 v5 v6 v7
    go_wp2_with fail
    go_ret
    rw [HD.out]
    exact ⟨rfl, HL2.out, (HAL.out.turned _).trans HT2.out⟩
  · have hr : (o.kind : Int) % 8 = 4 := by omega
    rw [hm] at HD
    have HC := Lib.hid (fail_live HL.out o.n HOK.out.n o.A o.c o.sv HOK.out.list hsv HOK.out.sv)
    clear hm
    go_enter Try.func26, Try.ntmps26
    go_wp2_with fail
    refine HC.out.mono ?_
    rintro e w2 ⟨rfl, hl2, ht2⟩
    have HL2 := Lib.hid hl2
    have HT2 := Lib.hid ht2
    clear hl2 ht2 v0 v1 v2 v3 v4 v5 v6 v7
    go_wp2_with fail
    go_ret
    rw [HD.out]
    exact ⟨rfl, HL2.out, (HAL.out.turned _).trans HT2.out⟩
  · have hr : (o.kind : Int) % 8 = 5 := by omega
    rw [hm] at HD
    have HC := Lib.hid (repair_live HL.out)
    clear hm
    go_enter Try.func26, Try.ntmps26
    go_wp2_with fail
    refine HC.out.mono ?_
    rintro e w2 ⟨rfl, hl2, ht2⟩
    have HL2 := Lib.hid hl2
    have HT2 := Lib.hid ht2
    clear hl2 ht2 v0 v1 v2 v3 v4 v5 v6 v7
    go_wp2_with fail
    go_ret
    rw [HD.out]
    exact ⟨rfl, HL2.out, (HAL.out.turned _).trans HT2.out⟩
  · have hr : (o.kind : Int) % 8 = 6 := by omega
    rw [hm] at HD
    have HC := Lib.hid (damage_live HL.out o.sec o.n o.mask HOK.out.sec HOK.out.n)
    clear hm
    go_enter Try.func26, Try.ntmps26
    go_wp2_with fail
    refine HC.out.mono ?_
    rintro e w2 ⟨rfl, hl2, ht2⟩
    have HL2 := Lib.hid hl2
    have HT2 := Lib.hid ht2
    clear hl2 ht2 v0 v1 v2 v3 v4 v5 v6 v7
    go_wp2_with fail
    go_ret
    rw [HD.out]
    exact ⟨rfl, HL2.out, (HAL.out.turned _).trans HT2.out⟩
  · have hr : (o.kind : Int) % 8 = 7 := by omega
    rw [hm] at HD
    have HC := Lib.hid (return_live HL.out o.sec o.n HOK.out.sec HOK.out.n)
    clear hm
    go_enter Try.func26, Try.ntmps26
    go_wp2_with fail
    refine HC.out.mono ?_
    rintro e w2 ⟨rfl, hl2, ht2⟩
    have HL2 := Lib.hid hl2
    have HT2 := Lib.hid ht2
    clear hl2 ht2 v0 v1 v2 v3 v4 v5 v6 v7
    go_wp2_with fail
    go_ret
    rw [HD.out]
    exact ⟨rfl, HL2.out, (HAL.out.turned _).trans HT2.out⟩
end
section
variable {w : World} {p : RefP} {D : Dev} (h : RefM w p D) (o : OpD) (hok : okOp w o) (hsmall : D.pend.length ≤ 999999) (hsv : o.sv.length ≤ 1000000) (hds : o.data.size ≤ 1000000)
include h hok hsmall hsv hds
set_option maxRecDepth 100000 in
set_option maxHeartbeats 16000000 in
theorem rdo_any : Calls Try.prog 27 #[.agg (rv p D), .agg (opV o)] w fun er w' => ∃ p', er = .returned (.tuple #[.agg (rv p' (doD D o).1), .int .i64 (doD D o).2]) ∧ RDid w w' p D p' (doD D o).1 := by
  have hb := ((Blk.new w 32 (rv p D) rfl).alloc (.cells (opV o) 57)).alloc (.cells #[.slice none 0 0, .slice none 0 0, .slice none 0 0, .slice none 0 0, .bool false, .int .i64 0, .slice none 0 0] 32)
  have hr := Blk.new ((w.alloc (.cells (rv p D) 32)).alloc (.cells (opV o) 57)) 32 #[.slice none 0 0, .slice none 0 0, .slice none 0 0, .slice none 0 0, .bool false, .int .i64 0, .slice none 0 0] (n := w.heap.size + 2) (by simp)
  have hG0 := (((Grew.refl w).alloc (.cells (rv p D) 32)).alloc (.cells (opV o) 57)).alloc (.cells #[.slice none 0 0, .slice none 0 0, .slice none 0 0, .slice none 0 0, .bool false, .int .i64 0, .slice none 0 0] 32)
  have hm1 := (Blk.new (w.alloc (.cells (rv p D) 32)) 57 (opV o) (n := w.heap.size + 1) (by simp)).alloc (.cells #[.slice none 0 0, .slice none 0 0, .slice none 0 0, .slice none 0 0, .bool false, .int .i64 0, .slice none 0 0] 32)
  obtain ⟨w1, hw1⟩ : ∃ w1, w1 = ((w.alloc (.cells (rv p D) 32)).alloc (.cells (opV o) 57)).alloc (.cells #[.slice none 0 0, .slice none 0 0, .slice none 0 0, .slice none 0 0, .bool false, .int .i64 0, .slice none 0 0] 32) := ⟨_, rfl⟩
  rw [← hw1] at hb hr hG0 hm1
  have hz1 : w1.heap.size = w.heap.size + 3 := by rw [hw1]; simp
  rw [show rv p D = #[.slice p.A0 D.st.length p.c0, .slice p.A1 D.st.length p.c1, .slice p.A2 D.pend.length p.c2, .slice p.A3 5 p.c3, .bool D.failed, .int .i64 p.fu, .slice p.A6 p.svl.length p.c6] from rfl] at hw1 ⊢
  have HH := Lib.hid h
  have HG0 := Lib.hid hG0
  have HH1 := Lib.hid (h.grew hG0)
  have HOK := Lib.hid (hok.keep hG0)
  have HZ1 := Lib.hid hz1
  unfold opV at hm1 hw1 ⊢
  have v0 := hm1.cell 0
  have v1 := hm1.cell 1
  have v2 := hm1.cell 2
  have v3 := hm1.cell 3
  have v4 := hm1.cell 4
  have v5 := hm1.cell 5
  have v6 := hm1.cell 6
  have v7 := hm1.cell 7
  have hvl := hm1.lt
  have hxl := hb.lt
  have hk256 := hok.kind
  have hok1 := h.ok
  clear hok hm1 hz1
  have hm := mod8 o.kind
  have HD := Lib.hid (show doD D o = match o.kind % 8 with
    | 0 => writeD D o.sys o.ep o.sec o.data
    | 1 => syncD D o.sys o.ep
    | 2 => (crashD D o.sys o.sv, 0)
    | 3 => (fenceD D o.sys o.ep, 0)
    | 4 => (failD D o.n o.sv, 0)
    | 5 => (repairD D, 0)
    | 6 => damageD D o.sec o.n o.mask
    | _ => returnD D o.sec o.n from rfl)
  generalize doD D o = R at *
  rcases hm with hm | hm | hm | hm | hm | hm | hm | hm
  · have hrm : (o.kind : Int) % 8 = 0 := by omega
    rw [hm] at HD
    have HC := Lib.hid (rdowrite_any HH1.out o.sys o.ep o.sec o.data HOK.out.ep HOK.out.sec hds hsmall)
    generalize writeD D o.sys o.ep o.sec o.data = V at *
    obtain ⟨E, er⟩ := V
    simp only at HC HD
    clear hm hok1 h
    go_enter Try.func27, Try.ntmps27
    go_upto_region 1 with fail
    rw [← hw1]
    clear hw1
    go_wp2_with (first | (refine wpList_load_blk rfl 32 _ rfl (w.heap.size) rfl 32 (rv (p) (D)) _ (hb) Try.underlying32 rfl info_rdev ?_) | (refine wpList_store_blk rfl 32 _ _ rfl (w.heap.size + 2) (rv (p) (D)) rfl rfl 32 _ (hr) rfl info_rdev (rv_one _ _) ?_))
    refine HC.out.mono ?_
    rintro e w2 ⟨p2, rfl, hd2⟩
    have hr2 := hr.grew hd2.grew
    have HI2 := Lib.hid ((RDin.start w1.heap.size HH.out HG0.out).step hd2 (Nat.le_refl _))
    clear hb hr hG0 hd2 v0 v1 v2 v3 v4 v5 v6 v7
    go_wp2_with (first | (refine wpList_load_blk rfl 32 _ rfl (w.heap.size) rfl 32 (rv (p2) (E)) _ (hr2) Try.underlying32 rfl info_rdev ?_) | (refine wpList_store_blk rfl 32 _ _ rfl (w.heap.size + 2) (rv (p2) (E)) rfl rfl 32 _ (hr2) rfl info_rdev (rv_one _ _) ?_))
    refine bodyPost_ret (results_cell_tmp_row rfl _ _ (w.heap.size + 2) 32 (rv (p2) (E)) _ _ rfl rfl ((hr2).setRow _) Try.underlying32 rfl info_rdev) rfl ?_
    rw [HD.out]
    refine ⟨p2, rfl, ?_⟩
    have hz1 := HZ1.out
    exact (RDin.turn HH.out HI2.out ((Turned.refl (fun k => k = w.heap.size + 2) w2).setRow (g := w.heap.size + 2) (fun _ => rfl) (rv p2 E)) (fun k hk => by omega)).out (by omega)
  · have hrm : (o.kind : Int) % 8 = 1 := by omega
    rw [hm] at HD
    have HC := Lib.hid (rdosync_any HH1.out o.sys o.ep HOK.out.ep (by omega))
    generalize syncD D o.sys o.ep = V at *
    obtain ⟨E, er⟩ := V
    simp only at HC HD
    clear hm hok1 h
    go_enter Try.func27, Try.ntmps27
    go_upto_region 1 with fail
    rw [← hw1]
    clear hw1
    go_wp2_with (first | (refine wpList_load_blk rfl 32 _ rfl (w.heap.size) rfl 32 (rv (p) (D)) _ (hb) Try.underlying32 rfl info_rdev ?_) | (refine wpList_store_blk rfl 32 _ _ rfl (w.heap.size + 2) (rv (p) (D)) rfl rfl 32 _ (hr) rfl info_rdev (rv_one _ _) ?_))
    refine HC.out.mono ?_
    rintro e w2 ⟨p2, rfl, hd2⟩
    have hr2 := hr.grew hd2.grew
    have HI2 := Lib.hid ((RDin.start w1.heap.size HH.out HG0.out).step hd2 (Nat.le_refl _))
    clear hb hr hG0 hd2 v0 v1 v2 v3 v4 v5 v6 v7
    go_wp2_with (first | (refine wpList_load_blk rfl 32 _ rfl (w.heap.size) rfl 32 (rv (p2) (E)) _ (hr2) Try.underlying32 rfl info_rdev ?_) | (refine wpList_store_blk rfl 32 _ _ rfl (w.heap.size + 2) (rv (p2) (E)) rfl rfl 32 _ (hr2) rfl info_rdev (rv_one _ _) ?_))
    refine bodyPost_ret (results_cell_tmp_row rfl _ _ (w.heap.size + 2) 32 (rv (p2) (E)) _ _ rfl rfl ((hr2).setRow _) Try.underlying32 rfl info_rdev) rfl ?_
    rw [HD.out]
    refine ⟨p2, rfl, ?_⟩
    have hz1 := HZ1.out
    exact (RDin.turn HH.out HI2.out ((Turned.refl (fun k => k = w.heap.size + 2) w2).setRow (g := w.heap.size + 2) (fun _ => rfl) (rv p2 E)) (fun k hk => by omega)).out (by omega)
  · have hrm : (o.kind : Int) % 8 = 2 := by omega
    rw [hm] at HD
    by_cases hlow : o.sys < 1
    · have HV := Lib.hid (crashD_low hok1 hlow o.sv)
      clear hm hok1 h
      go_enter Try.func27, Try.ntmps27
      go_upto_region 1 with fail
      rw [← hw1]
      clear hw1
      go_wp2_with (first | (refine wpList_load_blk rfl 32 _ rfl (w.heap.size) rfl 32 (rv (p) (D)) _ (hb) Try.underlying32 rfl info_rdev ?_) | (refine wpList_store_blk rfl 32 _ _ rfl (w.heap.size + 2) (rv (p) (D)) rfl rfl 32 _ (hr) rfl info_rdev (rv_one _ _) ?_))
      refine bodyPost_ret (results_cell_tmp_row rfl _ _ (w.heap.size + 2) 32 (rv (p) (D)) _ _ rfl rfl ((hr).setRow _) Try.underlying32 rfl info_rdev) rfl ?_
      rw [HD.out, HV.out]
      exact ⟨p, rfl, RDid.same HH.out (HG0.out.setRow (by omega) _)⟩
    · skip
      have HC := Lib.hid (rend_any HH1.out o.sys o.A o.c o.sv false HOK.out.list HOK.out.sv ⟨HOK.out.len, HOK.out.cap⟩ (by omega))
      rw [prR_of (show (1 : Int) ≤ o.sys by omega), svR_false] at HC
      rw [show finishD D (ofSys o.sys) (svN o.sv) = crashD D o.sys o.sv from rfl] at HC
      generalize crashD D o.sys o.sv = V at *
      clear hm hok1 h
      go_enter Try.func27, Try.ntmps27
      go_upto_region 1 with fail
      rw [← hw1]
      clear hw1
      go_wp2_with (first | (refine wpList_load_blk rfl 32 _ rfl (w.heap.size) rfl 32 (rv (p) (D)) _ (hb) Try.underlying32 rfl info_rdev ?_) | (refine wpList_store_blk rfl 32 _ _ rfl (w.heap.size + 2) (rv (p) (D)) rfl rfl 32 _ (hr) rfl info_rdev (rv_one _ _) ?_))
      refine HC.out.mono ?_
      rintro e w2 ⟨p2, rfl, hd2⟩
      have hr2 := hr.grew hd2.grew
      have HI2 := Lib.hid ((RDin.start w1.heap.size HH.out HG0.out).step hd2 (Nat.le_refl _))
      clear hb hr hG0 hd2 v0 v1 v2 v3 v4 v5 v6 v7
      go_wp2_with (first | (refine wpList_load_blk rfl 32 _ rfl (w.heap.size) rfl 32 (rv (p2) (V)) _ (hr2) Try.underlying32 rfl info_rdev ?_) | (refine wpList_store_blk rfl 32 _ _ rfl (w.heap.size + 2) (rv (p2) (V)) rfl rfl 32 _ (hr2) rfl info_rdev (rv_one _ _) ?_))
      refine bodyPost_ret (results_cell_tmp_row rfl _ _ (w.heap.size + 2) 32 (rv (p2) (V)) _ _ rfl rfl ((hr2).setRow _) Try.underlying32 rfl info_rdev) rfl ?_
      rw [HD.out]
      refine ⟨p2, rfl, ?_⟩
      have hz1 := HZ1.out
      exact (RDin.turn HH.out HI2.out ((Turned.refl (fun k => k = w.heap.size + 2) w2).setRow (g := w.heap.size + 2) (fun _ => rfl) (rv p2 V)) (fun k hk => by omega)).out (by omega)
  · have hrm : (o.kind : Int) % 8 = 3 := by omega
    rw [hm] at HD
    have HC := Lib.hid (rfence_any HH1.out o.sys o.ep HOK.out.sys HOK.out.ep)
    generalize fenceD D o.sys o.ep = V at *
    clear hm hok1 h
    go_enter Try.func27, Try.ntmps27
    go_upto_region 1 with fail
    rw [← hw1]
    clear hw1
    go_wp2_with (first | (refine wpList_load_blk rfl 32 _ rfl (w.heap.size) rfl 32 (rv (p) (D)) _ (hb) Try.underlying32 rfl info_rdev ?_) | (refine wpList_store_blk rfl 32 _ _ rfl (w.heap.size + 2) (rv (p) (D)) rfl rfl 32 _ (hr) rfl info_rdev (rv_one _ _) ?_))
    refine HC.out.mono ?_
    rintro e w2 ⟨p2, rfl, hd2⟩
    have hr2 := hr.grew hd2.grew
    have HI2 := Lib.hid ((RDin.start w1.heap.size HH.out HG0.out).step hd2 (Nat.le_refl _))
    clear hb hr hG0 hd2 v0 v1 v2 v3 v4 v5 v6 v7
    go_wp2_with (first | (refine wpList_load_blk rfl 32 _ rfl (w.heap.size) rfl 32 (rv (p2) (V)) _ (hr2) Try.underlying32 rfl info_rdev ?_) | (refine wpList_store_blk rfl 32 _ _ rfl (w.heap.size + 2) (rv (p2) (V)) rfl rfl 32 _ (hr2) rfl info_rdev (rv_one _ _) ?_))
    refine bodyPost_ret (results_cell_tmp_row rfl _ _ (w.heap.size + 2) 32 (rv (p2) (V)) _ _ rfl rfl ((hr2).setRow _) Try.underlying32 rfl info_rdev) rfl ?_
    rw [HD.out]
    refine ⟨p2, rfl, ?_⟩
    have hz1 := HZ1.out
    exact (RDin.turn HH.out HI2.out ((Turned.refl (fun k => k = w.heap.size + 2) w2).setRow (g := w.heap.size + 2) (fun _ => rfl) (rv p2 V)) (fun k hk => by omega)).out (by omega)
  · have hrm : (o.kind : Int) % 8 = 4 := by omega
    rw [hm] at HD
    have HC := Lib.hid (rfail_any HH1.out o.n HOK.out.n o.A o.c o.sv HOK.out.list hsv HOK.out.sv)
    generalize failD D o.n o.sv = V at *
    clear hm hok1 h
    go_enter Try.func27, Try.ntmps27
    go_upto_region 1 with fail
    rw [← hw1]
    clear hw1
    go_wp2_with (first | (refine wpList_load_blk rfl 32 _ rfl (w.heap.size) rfl 32 (rv (p) (D)) _ (hb) Try.underlying32 rfl info_rdev ?_) | (refine wpList_store_blk rfl 32 _ _ rfl (w.heap.size + 2) (rv (p) (D)) rfl rfl 32 _ (hr) rfl info_rdev (rv_one _ _) ?_))
    refine HC.out.mono ?_
    rintro e w2 ⟨p2, rfl, hd2⟩
    have hr2 := hr.grew hd2.grew
    have HI2 := Lib.hid ((RDin.start w1.heap.size HH.out HG0.out).step hd2 (Nat.le_refl _))
    clear hb hr hG0 hd2 v0 v1 v2 v3 v4 v5 v6 v7
    go_wp2_with (first | (refine wpList_load_blk rfl 32 _ rfl (w.heap.size) rfl 32 (rv (p2) (V)) _ (hr2) Try.underlying32 rfl info_rdev ?_) | (refine wpList_store_blk rfl 32 _ _ rfl (w.heap.size + 2) (rv (p2) (V)) rfl rfl 32 _ (hr2) rfl info_rdev (rv_one _ _) ?_))
    refine bodyPost_ret (results_cell_tmp_row rfl _ _ (w.heap.size + 2) 32 (rv (p2) (V)) _ _ rfl rfl ((hr2).setRow _) Try.underlying32 rfl info_rdev) rfl ?_
    rw [HD.out]
    refine ⟨p2, rfl, ?_⟩
    have hz1 := HZ1.out
    exact (RDin.turn HH.out HI2.out ((Turned.refl (fun k => k = w.heap.size + 2) w2).setRow (g := w.heap.size + 2) (fun _ => rfl) (rv p2 V)) (fun k hk => by omega)).out (by omega)
  · have hrm : (o.kind : Int) % 8 = 5 := by omega
    rw [hm] at HD
    have HC := Lib.hid (rrepair_did HH1.out)
    generalize repairD D = V at *
    clear hm hok1 h
    go_enter Try.func27, Try.ntmps27
    go_upto_region 1 with fail
    rw [← hw1]
    clear hw1
    go_wp2_with (first | (refine wpList_load_blk rfl 32 _ rfl (w.heap.size) rfl 32 (rv (p) (D)) _ (hb) Try.underlying32 rfl info_rdev ?_) | (refine wpList_store_blk rfl 32 _ _ rfl (w.heap.size + 2) (rv (p) (D)) rfl rfl 32 _ (hr) rfl info_rdev (rv_one _ _) ?_))
    refine HC.out.mono ?_
    rintro e w2 ⟨p2, rfl, hd2⟩
    have hr2 := hr.grew hd2.grew
    have HI2 := Lib.hid ((RDin.start w1.heap.size HH.out HG0.out).step hd2 (Nat.le_refl _))
    clear hb hr hG0 hd2 v0 v1 v2 v3 v4 v5 v6 v7
    go_wp2_with (first | (refine wpList_load_blk rfl 32 _ rfl (w.heap.size) rfl 32 (rv (p2) (V)) _ (hr2) Try.underlying32 rfl info_rdev ?_) | (refine wpList_store_blk rfl 32 _ _ rfl (w.heap.size + 2) (rv (p2) (V)) rfl rfl 32 _ (hr2) rfl info_rdev (rv_one _ _) ?_))
    refine bodyPost_ret (results_cell_tmp_row rfl _ _ (w.heap.size + 2) 32 (rv (p2) (V)) _ _ rfl rfl ((hr2).setRow _) Try.underlying32 rfl info_rdev) rfl ?_
    rw [HD.out]
    refine ⟨p2, rfl, ?_⟩
    have hz1 := HZ1.out
    exact (RDin.turn HH.out HI2.out ((Turned.refl (fun k => k = w.heap.size + 2) w2).setRow (g := w.heap.size + 2) (fun _ => rfl) (rv p2 V)) (fun k hk => by omega)).out (by omega)
  · have hrm : (o.kind : Int) % 8 = 6 := by omega
    rw [hm] at HD
    have HC := Lib.hid (rdamage_any HH1.out o.sec o.n o.mask HOK.out.sec HOK.out.n)
    generalize damageD D o.sec o.n o.mask = V at *
    obtain ⟨E, er⟩ := V
    simp only at HC HD
    clear hm hok1 h
    go_enter Try.func27, Try.ntmps27
    go_upto_region 1 with fail
    rw [← hw1]
    clear hw1
    go_wp2_with (first | (refine wpList_load_blk rfl 32 _ rfl (w.heap.size) rfl 32 (rv (p) (D)) _ (hb) Try.underlying32 rfl info_rdev ?_) | (refine wpList_store_blk rfl 32 _ _ rfl (w.heap.size + 2) (rv (p) (D)) rfl rfl 32 _ (hr) rfl info_rdev (rv_one _ _) ?_))
    refine HC.out.mono ?_
    rintro e w2 ⟨p2, rfl, hd2⟩
    have hr2 := hr.grew hd2.grew
    have HI2 := Lib.hid ((RDin.start w1.heap.size HH.out HG0.out).step hd2 (Nat.le_refl _))
    clear hb hr hG0 hd2 v0 v1 v2 v3 v4 v5 v6 v7
    go_wp2_with (first | (refine wpList_load_blk rfl 32 _ rfl (w.heap.size) rfl 32 (rv (p2) (E)) _ (hr2) Try.underlying32 rfl info_rdev ?_) | (refine wpList_store_blk rfl 32 _ _ rfl (w.heap.size + 2) (rv (p2) (E)) rfl rfl 32 _ (hr2) rfl info_rdev (rv_one _ _) ?_))
    refine bodyPost_ret (results_cell_tmp_row rfl _ _ (w.heap.size + 2) 32 (rv (p2) (E)) _ _ rfl rfl ((hr2).setRow _) Try.underlying32 rfl info_rdev) rfl ?_
    rw [HD.out]
    refine ⟨p2, rfl, ?_⟩
    have hz1 := HZ1.out
    exact (RDin.turn HH.out HI2.out ((Turned.refl (fun k => k = w.heap.size + 2) w2).setRow (g := w.heap.size + 2) (fun _ => rfl) (rv p2 E)) (fun k hk => by omega)).out (by omega)
  · have hrm : (o.kind : Int) % 8 = 7 := by omega
    rw [hm] at HD
    have HC := Lib.hid (rreturn_any HH1.out o.sec o.n HOK.out.sec HOK.out.n)
    generalize returnD D o.sec o.n = V at *
    obtain ⟨E, er⟩ := V
    simp only at HC HD
    clear hm hok1 h
    go_enter Try.func27, Try.ntmps27
    go_upto_region 1 with fail
    rw [← hw1]
    clear hw1
    go_wp2_with (first | (refine wpList_load_blk rfl 32 _ rfl (w.heap.size) rfl 32 (rv (p) (D)) _ (hb) Try.underlying32 rfl info_rdev ?_) | (refine wpList_store_blk rfl 32 _ _ rfl (w.heap.size + 2) (rv (p) (D)) rfl rfl 32 _ (hr) rfl info_rdev (rv_one _ _) ?_))
    refine HC.out.mono ?_
    rintro e w2 ⟨p2, rfl, hd2⟩
    have hr2 := hr.grew hd2.grew
    have HI2 := Lib.hid ((RDin.start w1.heap.size HH.out HG0.out).step hd2 (Nat.le_refl _))
    clear hb hr hG0 hd2 v0 v1 v2 v3 v4 v5 v6 v7
    go_wp2_with (first | (refine wpList_load_blk rfl 32 _ rfl (w.heap.size) rfl 32 (rv (p2) (E)) _ (hr2) Try.underlying32 rfl info_rdev ?_) | (refine wpList_store_blk rfl 32 _ _ rfl (w.heap.size + 2) (rv (p2) (E)) rfl rfl 32 _ (hr2) rfl info_rdev (rv_one _ _) ?_))
    refine bodyPost_ret (results_cell_tmp_row rfl _ _ (w.heap.size + 2) 32 (rv (p2) (E)) _ _ rfl rfl ((hr2).setRow _) Try.underlying32 rfl info_rdev) rfl ?_
    rw [HD.out]
    refine ⟨p2, rfl, ?_⟩
    have hz1 := HZ1.out
    exact (RDin.turn HH.out HI2.out ((Turned.refl (fun k => k = w.heap.size + 2) w2).setRow (g := w.heap.size + 2) (fun _ => rfl) (rv p2 E)) (fun k hk => by omega)).out (by omega)
end
end Go.Proofs.Ytklojcgbokmkhaa
