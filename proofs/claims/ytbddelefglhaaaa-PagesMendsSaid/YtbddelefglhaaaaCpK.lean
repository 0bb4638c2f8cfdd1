/- Chapter 4's laws: a writer, a new device. Chapter 4's laws: two lists of contents are compared. Chapter 4's laws: contents with writes. Chapter 4's laws: what a clean device answers. Chapter 4's laws, plain: contents as lists; the writes of a list that are right. Chapter 4's laws: lists of a law's own beside a device; the contents of all sectors. Chapter 4: the reference's sums, numbers and raw sectors. Chapter 4's laws: lists of writes are short; the writes of a list that are right. Chapter 4's laws: calls on a clean device. Chapter 4's laws: the example. -/
import Derived.Test.YtbddelefglhaaaaCpD
import Derived.Test.YtbddelefglhaaaaCpE
import Derived.Test.YtbddelefglhaaaaCpJ
namespace Go.Proofs.Ytbddelefglhaaaa
set_option linter.unusedVariables false
set_option linter.unusedSimpArgs false
set_option linter.unusedSectionVars false
open Go.RowKit
attribute [local go_sem ↓] Go.wp_at_zero Go.wp_at_succ
def sysL (k : Nat) : Int := 1 + ((k % 3 : Nat) : Int)
theorem sysL_bd (k : Nat) : 1 ≤ sysL k ∧ sysL k ≤ 4 := by unfold sysL; omega
set_option maxRecDepth 100000 in
theorem writerL_any (k : Nat) (hk : k < 256) (w : World) : Calls Try.prog 26 #[.int .u8 (k : Int)] w fun e w' => e = .returned (.agg #[.int .i64 (sysL k), .int .i64 0]) ∧ Grew w w' := by
  obtain ⟨r, hr⟩ : ∃ r : Nat, k % 3 = r := ⟨_, rfl⟩
  have hr3 : r < 3 := by omega
  have hr1 : (k : Int) % 3 = (r : Int) := by omega
  have hr2 : Int.tmod (k : Int) 3 = (r : Int) := by rw [Int.tmod_eq_emod_of_nonneg (by omega)]; exact hr1
  have hs : sysL k = 1 + (r : Int) := by unfold sysL; rw [hr]
  have hw1 : IntKind.u8.wrap (r : Int) = (r : Int) := IntWalk.u8_in _ (by omega)
  have hw2 : IntKind.i64.wrap (r : Int) = (r : Int) := IntWalk.i64_in _ (by omega)
  have hw3 : IntKind.i64.wrap (1 + (r : Int)) = 1 + (r : Int) := IntWalk.i64_in _ (by omega)
  rw [hs]
  clear hr hs
  go_enter Try.func26, Try.ntmps26
  go_wp2_with fail
  refine bodyPost_ret (by first | (simp [*, results, Try.results26, go_sem]; rfl) | simp [*, results, Try.results26, go_sem]) rfl ?_
  exact ⟨rfl, by (repeat' first | (with_reducible exact Grew.refl _) | (with_reducible assumption) | (with_reducible refine Grew.alloc ?_ _) | (with_reducible refine Grew.drew ?_) | (with_reducible refine Grew.drewN ?_ _) | (with_reducible refine Grew.setRow ?_ (by first | (simp; done) | (simp; omega) | omega) _) | (with_reducible refine Grew.setCell ?_ (by first | (simp; done) | (simp; omega) | omega) _) | ((with_reducible apply Grew.trans); rotate_left; (with_reducible assumption)) | ((with_reducible apply Grew.turn); rotate_left; (with_reducible assumption); (focus (intro i hi; first | omega | (simp at hi; omega)))) | fail)⟩
/-- A device that was formatted for a law. -/
structure BegunR (w : World) (x n : Nat) (E : Dev) (w' : World) : Prop where
  live : Live w x E (fun _ => False) w'
  clean : Clean E (img0 n)
  fen : E.fen = fun _ => 0
  fuse : E.fuse = none
set_option maxRecDepth 100000 in
set_option maxHeartbeats 1000000 in
theorem beginL_any (k : Nat) (hk : k < 256) (w : World) : Calls Try.prog 16 #[.int .u8 (k : Int)] w fun e w' => ∃ x E, e = .returned (.tuple #[ptrV x, .bool true]) ∧ BegunR w x (1 + k % 40) E w' := by
  obtain ⟨r, hr⟩ : ∃ r : Nat, k % 40 = r := ⟨_, rfl⟩
  rw [hr]
  have hr40 : r < 40 := by omega
  have hr1 : (k : Int) % 40 = (r : Int) := by omega
  have hr2 : Int.tmod (k : Int) 40 = (r : Int) := by rw [Int.tmod_eq_emod_of_nonneg (by omega)]; exact hr1
  have hw1 : IntKind.u8.wrap (r : Int) = (r : Int) := IntWalk.u8_in _ (by omega)
  have hw2 : IntKind.i64.wrap (r : Int) = (r : Int) := IntWalk.i64_in _ (by omega)
  have hw3 : IntKind.i64.wrap (132 + (r : Int)) = 132 + (r : Int) := IntWalk.i64_in _ (by omega)
  have HN := Lib.hid (new_any (132 + r) w (by omega) (by omega))
  rw [show ((132 + r : Nat) : Int) = 132 + (r : Int) from by omega] at HN
  have hst : (newD (132 + r)).st.length = 131 + (1 + r) := by unfold newD; simp; omega
  have hcalm : Calm (newD (132 + r)) 1 0 := ⟨newD_ok _ (by omega) (by omega), rfl, by unfold plainW; decide, by show ¬ (0 : Int) < 0; omega⟩
  obtain ⟨E, hE, hcl, hfen, hfuse⟩ := format_clean (n := 1 + r) hcalm rfl rfl hst (by omega) (by omega)
  have HFM := Lib.hid (fun (x : Nat) (W : World) (h : Live w x (newD (132 + r)) (fun _ => False) W) => format_any h (by rw [hst]; omega) (sy := 1) (ep := 0) (by omega) (by omega) (by show 0 ≤ 900000; omega))
  rw [hE] at HFM
  have HCL := Lib.hid hcl
  have HFN := Lib.hid (show E.fen = fun _ => 0 from by rw [hfen]; rfl)
  have HFU := Lib.hid hfuse
  clear hr hst hcalm hE hcl hfen hfuse
  go_enter Try.func16, Try.ntmps16
  go_wp2_with fail
  refine HN.out.mono ?_
  rintro e w1 ⟨x, q, rfl, hq, hd, g1, hft⟩
  have HL := Lib.hid (show Live w x (newD (132 + r)) (fun _ => False) w1 from ⟨q, hq, hd, g1, hft, fun k h => h.elim⟩)
  clear hq hd g1 hft
  go_wp2_with fail
  refine (writerL_any 0 (by omega) _).mono ?_
  rintro e w2 ⟨rfl, g2⟩
  have HL2 := Lib.hid (HL.out.grew g2)
  clear g2
  rw [show sysL 0 = 1 from rfl]
  go_wp2_with fail
  refine (HFM.out x _ HL2.out).mono ?_
  rintro e w3 ⟨rfl, hl3, _⟩
  go_wp2_with fail
  go_ret2
  exact ⟨x, E, rfl, hl3, HCL.out, HFN.out, HFU.out⟩
set_option maxRecDepth 100000 in
set_option maxHeartbeats 1000000 in
theorem openL_any {w0 : World} {x : Nat} {D : Dev} {out : Nat → Prop} {W : World} (h : Live w0 x D out W) (hlen : 132 ≤ D.st.length ∧ D.st.length ≤ 1155) (hp : D.pend.length ≤ 980000) (k : Nat) (hk : k < 256) (D' : Dev) (hr : openP D (sysL k) 0 = (D', 0)) :
    Calls Try.prog 17 #[ptrV x, .int .u8 (k : Int)] W fun e w' => ∃ s m, e = .returned (.tuple #[ptrV s, .bool true]) ∧ Live w0 x D' (fun q => out q ∨ q = s ∨ q = m) w' ∧ StoreM w' s m x (sysL k) 0 ∧ (W.heap.size ≤ s ∧ W.heap.size ≤ m) ∧ Beside w0 out W w' := by
  have hs := sysL_bd k
  have HO := Lib.hid (fun (w1 : World) (hg : Grew W w1) => open_any' (h.grew hg) hlen hs (by omega : (0 : Int) ≤ 0 ∧ (0 : Int) ≤ 1099511627776) hp D' hr)
  clear h hlen hp hr hs
  go_enter Try.func17, Try.ntmps17
  go_wp2_with fail
  refine (writerL_any k hk _).mono ?_
  rintro e w1 ⟨rfl, g1⟩
  have HG := Lib.hid g1
  clear g1
  go_wp2_with fail
  refine (HO.out _ HG.out).mono ?_
  rintro e w2 ⟨s, m, rfl, hl2, hst, hsz, hb⟩
  have HR := Lib.hid (show Live w0 x D' (fun q => out q ∨ q = s ∨ q = m) w2 ∧ StoreM w2 s m x (sysL k) 0 ∧ (W.heap.size ≤ s ∧ W.heap.size ≤ m) ∧ Beside w0 out W w2 from ⟨hl2, hst, ⟨Nat.le_trans HG.out.size hsz.1, Nat.le_trans HG.out.size hsz.2⟩, Beside.wide HG.out hb (fun _ h => h)⟩)
  clear hl2 hst hsz hb
  go_wp2_with fail
  go_ret2
  exact ⟨s, m, rfl, HR.out⟩
end Go.Proofs.Ytbddelefglhaaaa
namespace Go.Proofs.Ytbddelefglhaaaa
set_option linter.unusedVariables false
set_option linter.unusedSimpArgs false
set_option linter.unusedSectionVars false
open Go.RowKit
attribute [local go_sem ↓] Go.wp_at_zero Go.wp_at_succ
theorem str_at {w : World} {B : Nat} {A : Option Addr} {l : List ByteArray} (h : ListAt w B 1 A (l.map fun s => [.string s])) {k : Nat} (hk : k < l.length) :
    ∃ b off, A = some ⟨b, off, none⟩ ∧ b < B ∧ w.cell? ⟨b, off + k, none⟩ = some (.string l[k]) := by
  obtain ⟨b, off, e, hb, hc⟩ := h (by rw [List.length_map]; omega)
  have hj : (l.map fun s => [Value.string s])[k]? = some [.string l[k]] := by rw [List.getElem?_map, List.getElem?_eq_getElem hk]; rfl
  exact ⟨b, off, e, hb, by have := hc k _ hj 0 _ rfl; simpa using this⟩
set_option maxRecDepth 100000 in
set_option maxHeartbeats 1000000 in
theorem equalL_any (la lb : List ByteArray) (A B : Option Addr) (ca cb : Nat) (w : World) (hA : ListAt w w.heap.size 1 A (la.map fun s => [.string s])) (hB : ListAt w w.heap.size 1 B (lb.map fun s => [.string s])) (hl : la.length ≤ 1000000) (hl2 : lb.length ≤ 1000000) :
    Calls Try.prog 21 #[.slice A la.length ca, .slice B lb.length cb] w fun e w' => e = .returned (.bool (decide (la = lb))) ∧ Grew w w' := by
  have HA := Lib.hid hA
  have HB := Lib.hid hB
  clear hA hB
  by_cases hn : la.length = lb.length
  · have hnb : ((la.length : Int) != (lb.length : Int)) = false := by rw [hn]; simp
    have HN := Lib.hid hn
    clear hn
    go_enter Try.func21, Try.ntmps21
    go_wp2_with fail
    go_loopg [13] la.length (fun gk i' wr => ∃ i : Nat, i ≤ la.length ∧ gk = la.length - i ∧ i' = .int .i64 i ∧ Grew w wr ∧ la.take i = lb.take i)
    case atStart => exact ⟨0, by omega, by omega, rfl, Grew.refl _, by rw [List.take_zero, List.take_zero]⟩
    case round =>
      obtain ⟨i, hi, hgi, rfl, hg, ht⟩ := hrel
      have HGI := Lib.hid hgi
      have HG := Lib.hid hg
      have HT := Lib.hid ht
      clear hgi hg ht
      by_cases hlt : i < la.length
      · have hlt2 : i < lb.length := by rw [← HN.out]; exact hlt
        have hii : (i : Int) < (la.length : Int) := by omega
        have hib : (i : Int) < (lb.length : Int) := by omega
        obtain ⟨b1, o1, rfl, hb1, c1⟩ := str_at (listAt_on HA.out HG.out) hlt
        obtain ⟨b2, o2, rfl, hb2, c2⟩ := str_at (listAt_on HB.out HG.out) hlt2
        obtain ⟨x, hx⟩ : ∃ x, la[i] = x := ⟨_, rfl⟩
        obtain ⟨y, hy⟩ : ∃ y, lb[i] = y := ⟨_, rfl⟩
        rw [hx] at c1
        rw [hy] at c2
        have HX := Lib.hid hx
        have HY := Lib.hid hy
        clear hx hy
        by_cases he : x = y
        · subst he
          go_wp2_with fail
          refine wp_region_R [] (fun w' : World => w'.cell? ⟨b1, o1 + i, none⟩ = some (.string x) ∧ b1 < w'.heap.size ∧ w'.cell? ⟨b2, o2 + i, none⟩ = some (.string x) ∧ b2 < w'.heap.size) (by kernel_rfl) ?_
          have hS := (show (fun w' : World => w'.cell? ⟨b1, o1 + i, none⟩ = some (.string x) ∧ b1 < w'.heap.size ∧ w'.cell? ⟨b2, o2 + i, none⟩ = some (.string x) ∧ b2 < w'.heap.size) wr.drew from ⟨c1, hb1, c2, hb2⟩)
          refine wpAnyR_takeQ (i := 0) (v := ?_) (some 16) rfl rfl (by kernel_rfl) (by kernel_rfl) (by kernel_rfl) (by kernel_rfl) (fun _ _ _ h => h) (Or.inl ⟨by rfl, ?_⟩) ?_
          rotate_left
          focus (intro wS hSw; (try dsimp only at hSw); go_simp; (try with_reducible rfl); (try (first | (rw [if_pos (by omega)]; (try go_simp); (try with_reducible rfl)) | (rw [if_neg (by omega)]; (try go_simp); (try with_reducible rfl)))))
          try simp only [Act.put, List.setIfInBounds_toArray, List.set_cons_zero, List.set_cons_succ]
          refine wpAnyR_takeQ (i := 1) (v := ?_) (some 17) rfl rfl (by kernel_rfl) (by kernel_rfl) (by kernel_rfl) (by kernel_rfl) (fun _ _ _ h => h) (Or.inl ⟨by rfl, ?_⟩) ?_
          rotate_left
          focus (intro wS hSw; (try dsimp only at hSw); go_simp; (try with_reducible rfl); (try (first | (rw [if_pos (by omega)]; (try go_simp); (try with_reducible rfl)) | (rw [if_neg (by omega)]; (try go_simp); (try with_reducible rfl)))))
          try simp only [Act.put, List.setIfInBounds_toArray, List.set_cons_zero, List.set_cons_succ]
          refine wpAnyR_takeQ (i := 2) (v := ?_) (some 18) rfl rfl (by kernel_rfl) (by kernel_rfl) (by kernel_rfl) (by kernel_rfl) (fun _ _ _ h => h) (Or.inl ⟨by rfl, ?_⟩) ?_
          rotate_left
          focus (intro wS hSw; (try dsimp only at hSw); go_simp; (try with_reducible rfl); (try (first | (rw [if_pos (by omega)]; (try go_simp); (try with_reducible rfl)) | (rw [if_neg (by omega)]; (try go_simp); (try with_reducible rfl)))))
          try simp only [Act.put, List.setIfInBounds_toArray, List.set_cons_zero, List.set_cons_succ]
          refine wpAnyR_take (i := 3) (v := ?_) [8] (some 19) rfl rfl (by kernel_rfl) (by kernel_rfl) (by kernel_rfl) (by kernel_rfl) (by kernel_rfl) (by kernel_rfl) (by kernel_rfl) (fun _ _ _ h => h) (Or.inl ⟨by rfl, ?_⟩) hS ?_
          rotate_left
          focus (intro wS hSw; (try dsimp only at hSw); go_simp; (try with_reducible rfl); (try (first | (rw [if_pos (by omega)]; (try go_simp); (try with_reducible rfl)) | (rw [if_neg (by omega)]; (try go_simp); (try with_reducible rfl)))))
          try simp only [Act.put, List.setIfInBounds_toArray, List.set_cons_zero, List.set_cons_succ]
          refine wpAnyR_takeQ (i := 4) (v := ?_) (some 20) rfl rfl (by kernel_rfl) (by kernel_rfl) (by kernel_rfl) (by kernel_rfl) (fun _ _ _ h => h) (Or.inl ⟨by rfl, ?_⟩) ?_
          rotate_left
          focus (intro wS hSw; (try dsimp only at hSw); go_simp; (try with_reducible rfl); (try (first | (rw [if_pos (by omega)]; (try go_simp); (try with_reducible rfl)) | (rw [if_neg (by omega)]; (try go_simp); (try with_reducible rfl)))))
          try simp only [Act.put, List.setIfInBounds_toArray, List.set_cons_zero, List.set_cons_succ]
          refine wpAnyR_takeQ (i := 5) (v := ?_) (some 21) rfl rfl (by kernel_rfl) (by kernel_rfl) (by kernel_rfl) (by kernel_rfl) (fun _ _ _ h => h) (Or.inl ⟨by rfl, ?_⟩) ?_
          rotate_left
          focus (intro wS hSw; (try dsimp only at hSw); go_simp; (try with_reducible rfl); (try (first | (rw [if_pos (by omega)]; (try go_simp); (try with_reducible rfl)) | (rw [if_neg (by omega)]; (try go_simp); (try with_reducible rfl)))))
          try simp only [Act.put, List.setIfInBounds_toArray, List.set_cons_zero, List.set_cons_succ]
          refine wpAnyR_takeQ (i := 6) (v := ?_) (some 22) rfl rfl (by kernel_rfl) (by kernel_rfl) (by kernel_rfl) (by kernel_rfl) (fun _ _ _ h => h) (Or.inl ⟨by rfl, ?_⟩) ?_
          rotate_left
          focus (intro wS hSw; (try dsimp only at hSw); go_simp; (try with_reducible rfl); (try (first | (rw [if_pos (by omega)]; (try go_simp); (try with_reducible rfl)) | (rw [if_neg (by omega)]; (try go_simp); (try with_reducible rfl)))))
          try simp only [Act.put, List.setIfInBounds_toArray, List.set_cons_zero, List.set_cons_succ]
          refine wpAnyR_take (i := 7) (v := ?_) [8] (some 23) rfl rfl (by kernel_rfl) (by kernel_rfl) (by kernel_rfl) (by kernel_rfl) (by kernel_rfl) (by kernel_rfl) (by kernel_rfl) (fun _ _ _ h => h) (Or.inl ⟨by rfl, ?_⟩) hS ?_
          rotate_left
          focus (intro wS hSw; (try dsimp only at hSw); go_simp; (try with_reducible rfl); (try (first | (rw [if_pos (by omega)]; (try go_simp); (try with_reducible rfl)) | (rw [if_neg (by omega)]; (try go_simp); (try with_reducible rfl)))))
          try simp only [Act.put, List.setIfInBounds_toArray, List.set_cons_zero, List.set_cons_succ]
          refine wpAnyR_takeQ (i := 8) (v := ?_) (some 24) rfl rfl (by kernel_rfl) (by kernel_rfl) (by kernel_rfl) (by kernel_rfl) (fun _ _ _ h => h) (Or.inl ⟨by rfl, ?_⟩) ?_
          rotate_left
          focus (intro wS hSw; (try dsimp only at hSw); go_simp; (try with_reducible rfl); (try (first | (rw [if_pos (by omega)]; (try go_simp); (try with_reducible rfl)) | (rw [if_neg (by omega)]; (try go_simp); (try with_reducible rfl)))))
          try simp only [Act.put, List.setIfInBounds_toArray, List.set_cons_zero, List.set_cons_succ]
          refine wpAnyR_done (by kernel_rfl) ?_ _
          go_wp2_with fail
          go_roundg (la.length - (i + 1))
          case measure => rw [HGI.out]; omega
          case rel => exact ⟨i + 1, by omega, by omega, by go_num, HG.out.drew, by rw [List.take_succ_eq_append_getElem hlt, List.take_succ_eq_append_getElem hlt2, HT.out, HX.out, HY.out]⟩
        · have hxy : (x.toList == y.toList) = false := by rw [beq_eq_false_iff_ne]; exact fun h9 => he (toL_inj h9)
          have HE := Lib.hid (show la ≠ lb from fun h9 => he (by rw [← HX.out, ← HY.out]; simp only [h9]))
          go_wp2_with fail
          refine wp_region_R [] (fun w' : World => w'.cell? ⟨b1, o1 + i, none⟩ = some (.string x) ∧ b1 < w'.heap.size ∧ w'.cell? ⟨b2, o2 + i, none⟩ = some (.string y) ∧ b2 < w'.heap.size) (by kernel_rfl) ?_
          have hS := (show (fun w' : World => w'.cell? ⟨b1, o1 + i, none⟩ = some (.string x) ∧ b1 < w'.heap.size ∧ w'.cell? ⟨b2, o2 + i, none⟩ = some (.string y) ∧ b2 < w'.heap.size) wr.drew from ⟨c1, hb1, c2, hb2⟩)
          refine wpAnyR_takeQ (i := 0) (v := ?_) (some 16) rfl rfl (by kernel_rfl) (by kernel_rfl) (by kernel_rfl) (by kernel_rfl) (fun _ _ _ h => h) (Or.inl ⟨by rfl, ?_⟩) ?_
          rotate_left
          focus (intro wS hSw; (try dsimp only at hSw); go_simp; (try with_reducible rfl); (try (first | (rw [if_pos (by omega)]; (try go_simp); (try with_reducible rfl)) | (rw [if_neg (by omega)]; (try go_simp); (try with_reducible rfl)))))
          try simp only [Act.put, List.setIfInBounds_toArray, List.set_cons_zero, List.set_cons_succ]
          refine wpAnyR_takeQ (i := 1) (v := ?_) (some 17) rfl rfl (by kernel_rfl) (by kernel_rfl) (by kernel_rfl) (by kernel_rfl) (fun _ _ _ h => h) (Or.inl ⟨by rfl, ?_⟩) ?_
          rotate_left
          focus (intro wS hSw; (try dsimp only at hSw); go_simp; (try with_reducible rfl); (try (first | (rw [if_pos (by omega)]; (try go_simp); (try with_reducible rfl)) | (rw [if_neg (by omega)]; (try go_simp); (try with_reducible rfl)))))
          try simp only [Act.put, List.setIfInBounds_toArray, List.set_cons_zero, List.set_cons_succ]
          refine wpAnyR_takeQ (i := 2) (v := ?_) (some 18) rfl rfl (by kernel_rfl) (by kernel_rfl) (by kernel_rfl) (by kernel_rfl) (fun _ _ _ h => h) (Or.inl ⟨by rfl, ?_⟩) ?_
          rotate_left
          focus (intro wS hSw; (try dsimp only at hSw); go_simp; (try with_reducible rfl); (try (first | (rw [if_pos (by omega)]; (try go_simp); (try with_reducible rfl)) | (rw [if_neg (by omega)]; (try go_simp); (try with_reducible rfl)))))
          try simp only [Act.put, List.setIfInBounds_toArray, List.set_cons_zero, List.set_cons_succ]
          refine wpAnyR_take (i := 3) (v := ?_) [8] (some 19) rfl rfl (by kernel_rfl) (by kernel_rfl) (by kernel_rfl) (by kernel_rfl) (by kernel_rfl) (by kernel_rfl) (by kernel_rfl) (fun _ _ _ h => h) (Or.inl ⟨by rfl, ?_⟩) hS ?_
          rotate_left
          focus (intro wS hSw; (try dsimp only at hSw); go_simp; (try with_reducible rfl); (try (first | (rw [if_pos (by omega)]; (try go_simp); (try with_reducible rfl)) | (rw [if_neg (by omega)]; (try go_simp); (try with_reducible rfl)))))
          try simp only [Act.put, List.setIfInBounds_toArray, List.set_cons_zero, List.set_cons_succ]
          refine wpAnyR_takeQ (i := 4) (v := ?_) (some 20) rfl rfl (by kernel_rfl) (by kernel_rfl) (by kernel_rfl) (by kernel_rfl) (fun _ _ _ h => h) (Or.inl ⟨by rfl, ?_⟩) ?_
          rotate_left
          focus (intro wS hSw; (try dsimp only at hSw); go_simp; (try with_reducible rfl); (try (first | (rw [if_pos (by omega)]; (try go_simp); (try with_reducible rfl)) | (rw [if_neg (by omega)]; (try go_simp); (try with_reducible rfl)))))
          try simp only [Act.put, List.setIfInBounds_toArray, List.set_cons_zero, List.set_cons_succ]
          refine wpAnyR_takeQ (i := 5) (v := ?_) (some 21) rfl rfl (by kernel_rfl) (by kernel_rfl) (by kernel_rfl) (by kernel_rfl) (fun _ _ _ h => h) (Or.inl ⟨by rfl, ?_⟩) ?_
          rotate_left
          focus (intro wS hSw; (try dsimp only at hSw); go_simp; (try with_reducible rfl); (try (first | (rw [if_pos (by omega)]; (try go_simp); (try with_reducible rfl)) | (rw [if_neg (by omega)]; (try go_simp); (try with_reducible rfl)))))
          try simp only [Act.put, List.setIfInBounds_toArray, List.set_cons_zero, List.set_cons_succ]
          refine wpAnyR_takeQ (i := 6) (v := ?_) (some 22) rfl rfl (by kernel_rfl) (by kernel_rfl) (by kernel_rfl) (by kernel_rfl) (fun _ _ _ h => h) (Or.inl ⟨by rfl, ?_⟩) ?_
          rotate_left
          focus (intro wS hSw; (try dsimp only at hSw); go_simp; (try with_reducible rfl); (try (first | (rw [if_pos (by omega)]; (try go_simp); (try with_reducible rfl)) | (rw [if_neg (by omega)]; (try go_simp); (try with_reducible rfl)))))
          try simp only [Act.put, List.setIfInBounds_toArray, List.set_cons_zero, List.set_cons_succ]
          refine wpAnyR_take (i := 7) (v := ?_) [8] (some 23) rfl rfl (by kernel_rfl) (by kernel_rfl) (by kernel_rfl) (by kernel_rfl) (by kernel_rfl) (by kernel_rfl) (by kernel_rfl) (fun _ _ _ h => h) (Or.inl ⟨by rfl, ?_⟩) hS ?_
          rotate_left
          focus (intro wS hSw; (try dsimp only at hSw); go_simp; (try with_reducible rfl); (try (first | (rw [if_pos (by omega)]; (try go_simp); (try with_reducible rfl)) | (rw [if_neg (by omega)]; (try go_simp); (try with_reducible rfl)))))
          try simp only [Act.put, List.setIfInBounds_toArray, List.set_cons_zero, List.set_cons_succ]
          refine wpAnyR_takeQ (i := 8) (v := ?_) (some 24) rfl rfl (by kernel_rfl) (by kernel_rfl) (by kernel_rfl) (by kernel_rfl) (fun _ _ _ h => h) (Or.inl ⟨by rfl, ?_⟩) ?_
          rotate_left
          focus (intro wS hSw; (try dsimp only at hSw); go_simp; (try with_reducible rfl); (try (first | (rw [if_pos (by omega)]; (try go_simp); (try with_reducible rfl)) | (rw [if_neg (by omega)]; (try go_simp); (try with_reducible rfl)))))
          try simp only [Act.put, List.setIfInBounds_toArray, List.set_cons_zero, List.set_cons_succ]
          refine wpAnyR_done (by kernel_rfl) ?_ _
          go_wp2_with fail
          go_ret
          exact ⟨by rw [decide_eq_false HE.out]; rfl, HG.out.drew⟩
      · obtain rfl : i = la.length := by omega
        have HE : Hid (la = lb) := Lib.hid (by
          have := HT.out
          rw [List.take_of_length_le (Nat.le_refl _), List.take_of_length_le (by rw [HN.out]; exact Nat.le_refl _)] at this
          exact this)
        go_wp2_with fail
        go_ret
        exact ⟨by rw [decide_eq_true HE.out]; rfl, HG.out⟩
  · have hnb : ((la.length : Int) != (lb.length : Int)) = true := by rw [bne_iff_ne]; omega
    have HE := Lib.hid (show la ≠ lb from fun h9 => hn (by rw [h9]))
    clear hn
    go_enter Try.func21, Try.ntmps21
    go_wp2_with fail
    go_ret
    exact ⟨by rw [decide_eq_false HE.out]; rfl, by (repeat' first | (with_reducible exact Grew.refl _) | (with_reducible assumption) | (with_reducible refine Grew.alloc ?_ _) | (with_reducible refine Grew.drew ?_) | (with_reducible refine Grew.drewN ?_ _) | (with_reducible refine Grew.setRow ?_ (by first | (simp; done) | (simp; omega) | omega) _) | (with_reducible refine Grew.setCell ?_ (by first | (simp; done) | (simp; omega) | omega) _) | ((with_reducible apply Grew.trans); rotate_left; (with_reducible assumption)) | ((with_reducible apply Grew.turn); rotate_left; (with_reducible assumption); (focus (intro i hi; first | omega | (simp at hi; omega)))) | fail)⟩
end Go.Proofs.Ytbddelefglhaaaa
namespace Go.Proofs.Ytbddelefglhaaaa
set_option linter.unusedVariables false
set_option linter.unusedSimpArgs false
set_option linter.unusedSectionVars false
open Go.RowKit
attribute [local go_sem ↓] Go.wp_at_zero Go.wp_at_succ
def with1 (o : List ByteArray) (e : Int × ByteArray) : List ByteArray := if 0 ≤ e.1 ∧ e.1 < (o.length : Int) then o.set e.1.toNat e.2 else o
def withP (l : List ByteArray) (ws : List (Int × ByteArray)) : List ByteArray := ws.foldl with1 l
theorem with1_len (o : List ByteArray) (e : Int × ByteArray) : (with1 o e).length = o.length := by unfold with1; split <;> simp
theorem withP_len (ws : List (Int × ByteArray)) : ∀ l, (withP l ws).length = l.length := by
  induction ws with
  | nil => intro l; rfl
  | cons e ws ih => intro l; show (withP (with1 l e) ws).length = _; rw [ih, with1_len]
theorem withP_step (l : List ByteArray) (ws : List (Int × ByteArray)) (k : Nat) (hk : k < ws.length) : withP l (ws.take (k + 1)) = with1 (withP l (ws.take k)) ws[k] := by
  unfold withP
  rw [List.take_succ_eq_append_getElem hk, List.foldl_append]
  rfl
theorem strR_row (l : List ByteArray) : ∀ r ∈ l.map (fun s => [Value.string s]), r.length = 1 := by intro r h; obtain ⟨x, _, rfl⟩ := List.mem_map.1 h; rfl
theorem strR_one (l : List ByteArray) : ∀ r ∈ l.map (fun s => [Value.string s]), r.all (·.oneCell') = true := by intro r h; obtain ⟨x, _, rfl⟩ := List.mem_map.1 h; rfl
set_option maxRecDepth 100000 in
set_option maxHeartbeats 2000000 in
theorem withL_any (la : List ByteArray) (ws : List (Int × ByteArray)) (A B : Option Addr) (ca cb : Nat) (w : World) (hA : ListAt w w.heap.size 1 A (la.map fun s => [.string s])) (hB : ListAt w w.heap.size 2 B (ws.map entC)) (h0 : 0 < la.length) (hl : la.length ≤ 1000000) (hw : ws.length ≤ 1000000) :
    Calls Try.prog 22 #[.slice A la.length ca, .slice B ws.length cb] w fun e w' => ∃ v, e = .returned v ∧ OwnL w' w.heap.size 9 1 v ((withP la ws).map fun s => [.string s]) ∧ Grew w w' := by
  have HB := Lib.hid hB
  have hra := ListAt.mono (B' := w.heap.size + 1) (hA.keep (Nat.le_refl _) ((Grew.refl w).alloc (.cells #[] 9))) (by omega)
  clear hA hB
  go_enter Try.func22, Try.ntmps22
  go_wp2_with (at_builtin; refine wpList_pushAll (by rfl) _ _ 37 rfl w.heap.size 9 1 16 _ Try.underlying37 info_strz rfl (by decide) _ [] (la.map fun s => [.string s]) (by rfl) (OwnL.empty w _ _ _ (Nat.le_refl _) rfl) _ la.length _ (by rfl) (by simp) (strR_row _) (by simpa using hra) (strR_one _) (by simp; omega) (by simp; omega) (by simp) ?_)
  intro v1 w3 hown1 hgr1 hat1
  have hg3 : Grew w w3 := Grew.own ((Grew.refl w).alloc _) hgr1 (by simp [Value.ownBlock]) (Nat.le_refl _)
  obtain ⟨g, cap, rfl, hg1, hg2⟩ := hown1.some_ (fun e => by have := congrArg List.length e; rw [List.length_map, List.length_nil] at this; omega)
  rw [List.length_map] at hown1 ⊢
  have HO := Lib.hid hown1
  have HG := Lib.hid hg3
  clear hown1 hgr1 hat1 hg3 hra
  go_wp2_with fail
  go_loopg [13] ws.length (fun gk i' wr => ∃ i : Nat, i ≤ ws.length ∧ gk = ws.length - i ∧ i' = .int .i64 i ∧ OwnL wr w.heap.size 9 1 (.slice (some ⟨g, 0, none⟩) la.length cap) ((withP la (ws.take i)).map fun s => [.string s]) ∧ Grew w wr)
  case atStart => exact ⟨0, by omega, by omega, rfl, HO.out, HG.out⟩
  case round =>
    obtain ⟨i, hi, hgi, rfl, how, hgr⟩ := hrel
    have HGI := Lib.hid hgi
    have HOW := Lib.hid how
    have HGR := Lib.hid hgr
    clear hgi how hgr
    by_cases hlt : i < ws.length
    · have hii : (i : Int) < (ws.length : Int) := by omega
      obtain ⟨b, off, rfl, hbb, c0, c1⟩ := ent_at (HB.out.keep (Nat.le_refl _) HGR.out) hlt
      have hst := withP_step la ws i hlt
      have hrl : (withP la (ws.take i)).length = la.length := withP_len _ _
      obtain ⟨⟨a, d⟩, he⟩ : ∃ e, ws[i] = e := ⟨_, rfl⟩
      rw [he] at c0 c1 hst
      simp only at c0 c1
      unfold with1 at hst
      rw [hrl] at hst
      simp only at hst
      have hgw : w.heap.size ≤ wr.heap.size := HGR.out.size
      clear he
      by_cases hneg : a < 0
      · have hin1 : decide (0 ≤ a) = false := decide_eq_false (by omega)
        have hin2 : ¬ a ≥ 0 := by omega
        rw [if_neg (by omega)] at hst
        have HW1 := Lib.hid hst
        clear hst
        go_wp2_with fail
        go_roundg (ws.length - (i + 1))
        case measure => rw [HGI.out]; omega
        case rel => exact ⟨i + 1, by omega, by omega, by go_num, by rw [HW1.out]; exact HOW.out.alloc _, HGR.out.alloc _⟩
      by_cases hbig : a < (la.length : Int)
      · have hin1 : decide (0 ≤ a) = true := decide_eq_true (by omega)
        have hin2 : a ≥ 0 := by omega
        obtain ⟨q, rfl⟩ : ∃ q : Nat, a = (q : Int) := ⟨a.toNat, by omega⟩
        rw [if_pos ⟨by omega, hbig⟩, Int.toNat_natCast] at hst
        have HW1 := Lib.hid hst
        have hql : q < (withP la (ws.take i)).length := by omega
        have hrow : ((withP la (ws.take i)).map fun s => [Value.string s])[q]? = some [.string (withP la (ws.take i))[q]] := by rw [List.getElem?_map, List.getElem?_eq_getElem hql]; rfl
        have ho1 := HOW.out.alloc (.cells #[.int .i64 (q : Int), .string d] 72)
        have k0 := ho1.cell (j := q) (i := 0) hrow rfl
        simp only [Nat.mul_one, Nat.add_zero] at k0
        have kf := ho1.frozen q
        have kl := (ho1.own_ge rfl).2
        have HO1 := Lib.hid (ho1.set_ (o := q) hrow (by omega : 0 < 1) (by omega) (.string d))
        have HG1 := Lib.hid ((HGR.out.alloc (.cells #[.int .i64 (q : Int), .string d] 72)).setCell (p := ⟨g, q, none⟩) (by show w.heap.size ≤ g; omega) (.string d))
        clear ho1 hst hrow
        go_wp2_with fail
        go_roundg (ws.length - (i + 1))
        case measure => rw [HGI.out]; omega
        case rel => exact ⟨i + 1, by omega, by omega, by go_num, by rw [HW1.out, List.map_set]; exact HO1.out, HG1.out⟩
      · have hin1 : decide (0 ≤ a) = true := decide_eq_true (by omega)
        have hin2 : a ≥ 0 := by omega
        have hib : decide (a < (la.length : Int)) = false := decide_eq_false hbig
        rw [if_neg (by omega)] at hst
        have HW1 := Lib.hid hst
        clear hst
        go_wp2_with fail
        go_roundg (ws.length - (i + 1))
        case measure => rw [HGI.out]; omega
        case rel => exact ⟨i + 1, by omega, by omega, by go_num, by rw [HW1.out]; exact HOW.out.alloc _, HGR.out.alloc _⟩
    · obtain rfl : i = ws.length := by omega
      have HE := HOW
      rw [List.take_of_length_le (Nat.le_refl _)] at HE
      go_wp2_with fail
      go_ret
      exact ⟨_, rfl, HE.out, HGR.out⟩
end Go.Proofs.Ytbddelefglhaaaa
namespace Go.Proofs.Ytbddelefglhaaaa
set_option linter.unusedVariables false
set_option linter.unusedSimpArgs false
set_option linter.unusedSectionVars false
open Go.RowKit
theorem readP_clean {D : Dev} {I : Img} (h : Clean D I) (sy ep : Int) (hl : D.st.length = 131 + I.n) (i : Nat) (hi : i < I.n) : readP D sy ep (i : Int) = (D, I.cs i, 0) := by
  unfold readP
  rw [finD_clean h, if_neg (by simp), if_neg (by omega), Int.toNat_natCast, h.toHolds.look i hi]
  rfl
theorem openP_clean {D : Dev} {I : Img} (h : Clean D I) (sy ep : Int) (hf : fitsP D sy ep = true) : openP D sy ep = (D, 0) := by
  unfold openP
  rw [finD_clean h, if_neg (by rw [hf]; simp), if_neg (by simp), if_neg (by rw [h.toHolds.topI]; simp)]
theorem numberP_clean {D : Dev} {I : Img} (h : Clean D I) (sy ep : Int) : numberP D sy ep = (D, u32 (nv I.N), 0) := by
  unfold numberP
  rw [finD_clean h, if_neg (by simp), if_neg (by rw [h.toHolds.topI]; simp), h.toHolds.topI]
end Go.Proofs.Ytbddelefglhaaaa
namespace Go.Proofs.Ytbddelefglhaaaa
set_option linter.unusedVariables false
set_option linter.unusedSimpArgs false
set_option linter.unusedSectionVars false
open Go.RowKit
def csL (I : Img) : List ByteArray := (List.range I.n).map I.cs
theorem csL_len (I : Img) : (csL I).length = I.n := by unfold csL; simp
theorem csL_at (I : Img) (i : Nat) (h : i < I.n) : (csL I)[i]'(by rw [csL_len]; exact h) = I.cs i := by unfold csL; simp
theorem valW_cons (e : Int × ByteArray) (ws : List (Int × ByteArray)) (i : Nat) : valW (e :: ws) i = if e.1 = (i : Int) then some e.2 else valW ws i := by
  unfold valW
  rw [List.find?_cons]
  by_cases h : e.1 = (i : Int)
  · rw [if_pos h, h, beq_self_eq_true]; rfl
  · rw [if_neg h, beq_eq_false_iff_ne.2 h]
theorem valW_none {ws : List (Int × ByteArray)} {i : Nat} (h : (i : Int) ∉ ws.map (·.1)) : valW ws i = none := by
  unfold valW
  rw [List.find?_eq_none.2 (fun x hx hb => h (by have : x.1 = (i : Int) := by simpa using hb
                                                 rw [← this]; exact List.mem_map_of_mem hx))]
  rfl
theorem withP_at : ∀ (ws : List (Int × ByteArray)) (l : List ByteArray), (ws.map (·.1)).Nodup → ∀ i (h : i < l.length), (withP l ws)[i]? = some ((valW ws i).getD l[i]) := by
  intro ws
  induction ws with
  | nil => intro l _ i h; exact List.getElem?_eq_getElem h
  | cons e ws ih =>
    intro l hn i h
    rw [List.map_cons, List.nodup_cons] at hn
    have hl : (with1 l e).length = l.length := with1_len l e
    have := ih (with1 l e) hn.2 i (by omega)
    show (withP (with1 l e) ws)[i]? = _
    rw [this, valW_cons]
    by_cases he : e.1 = (i : Int)
    · rw [if_pos he, valW_none (by rw [← he]; exact hn.1)]
      show some ((with1 l e)[i]) = some e.2
      have h2 : with1 l e = l.set i e.2 := by unfold with1; rw [if_pos ⟨by omega, by omega⟩, he, Int.toNat_natCast]
      simp only [h2, List.getElem_set_self]
    · rw [if_neg he]
      have h2 : (with1 l e)[i] = l[i] := by
        have h3 : (with1 l e)[i]? = l[i]? := by
          unfold with1
          split
          · rename_i hc
            exact List.getElem?_set_ne (by omega)
          · rfl
        rw [List.getElem?_eq_getElem h, List.getElem?_eq_getElem (by omega)] at h3
        injection h3
      rw [h2]
theorem with_cs {I : Img} {ws : List (Int × ByteArray)} (h : checkP I.n ws = 0) : withP (csL I) ws = csL (I.upd (sortW I.n ws)) := by
  obtain ⟨h1, h2, h3⟩ := check_facts I.n ws h
  apply List.ext_getElem?
  intro i
  rcases Nat.lt_or_ge i I.n with hi | hi
  · rw [withP_at ws _ h2 i (by rw [csL_len]; exact hi), csL_at I i hi]
    rw [List.getElem?_eq_getElem (by rw [csL_len]; exact hi), csL_at (I.upd (sortW I.n ws)) i hi]
    show _ = some ((lastE (sortW I.n ws) i).getD (I.cs i))
    rw [lastE_sort I.n ws i hi]
  · rw [List.getElem?_eq_none (by rw [withP_len, csL_len]; exact hi), List.getElem?_eq_none (by rw [csL_len]; exact hi)]
/-- The place of a write among n sectors. -/
def modI (a : Int) (n : Nat) : Int := a % (n : Int)
def fair1 (n most : Nat) (out : List (Int × ByteArray)) (e : Int × ByteArray) : List (Int × ByteArray) :=
  if out.length < most ∧ (out.any fun x => x.1 == modI e.1 n) = false then out ++ [(modI e.1 n, dataS e.2)] else out
def fairP (n most : Nat) (ws : List (Int × ByteArray)) : List (Int × ByteArray) := ws.foldl (fair1 n most) []
theorem fairP_step (n most : Nat) (ws : List (Int × ByteArray)) (k : Nat) (hk : k < ws.length) : fairP n most (ws.take (k + 1)) = fair1 n most (fairP n most (ws.take k)) ws[k] := by
  unfold fairP
  rw [List.take_succ_eq_append_getElem hk, List.foldl_append]
  rfl
structure FairOK (n most : Nat) (l : List (Int × ByteArray)) : Prop where
  len : l.length ≤ most
  nodup : (l.map (·.1)).Nodup
  all : ∀ e ∈ l, e.2.size = 128 ∧ 0 ≤ e.1 ∧ e.1 < (n : Int)
theorem fair1_ok {n most : Nat} (hn : 0 < n) {l : List (Int × ByteArray)} (h : FairOK n most l) (e : Int × ByteArray) : FairOK n most (fair1 n most l e) := by
  unfold fair1
  split
  · rename_i hc
    refine ⟨by rw [List.length_append, List.length_singleton]; omega, ?_, fun x hx => ?_⟩
    · rw [List.map_append, List.nodup_append]
      refine ⟨h.nodup, by simp, ?_⟩
      intro a ha b hb hab
      obtain ⟨x, hx, rfl⟩ := List.mem_map.1 ha
      have h2 := hc.2
      rw [List.any_eq_false] at h2
      have h3 := h2 x hx
      simp only [List.map_cons, List.map_nil, List.mem_singleton] at hb
      rw [hb] at hab
      exact h3 (by rw [beq_iff_eq]; exact hab)
    · rcases List.mem_append.1 hx with hx | hx
      · exact h.all x hx
      · rw [List.mem_singleton.1 hx]
        refine ⟨dataS_size _, ?_, ?_⟩
        · exact Int.emod_nonneg _ (by omega)
        · exact Int.emod_lt_of_pos _ (by omega)
  · exact h
theorem fair_ok {n most : Nat} (hn : 0 < n) (ws : List (Int × ByteArray)) : FairOK n most (fairP n most ws) := by
  unfold fairP
  have key : ∀ (ws l : List (Int × ByteArray)), FairOK n most l → FairOK n most (ws.foldl (fair1 n most) l) := by
    intro ws
    induction ws with
    | nil => intro l h; exact h
    | cons e ws ih => intro l h; exact ih _ (fair1_ok hn h e)
  exact key ws [] ⟨Nat.zero_le _, by simp, by simp⟩
theorem fair_full {n most : Nat} {l : List (Int × ByteArray)} (h : most ≤ l.length) : ∀ (ws : List (Int × ByteArray)), ws.foldl (fair1 n most) l = l := by
  intro ws
  induction ws with
  | nil => rfl
  | cons e ws ih =>
    rw [List.foldl_cons]
    have : fair1 n most l e = l := by unfold fair1; rw [if_neg (by omega)]
    rw [this, ih]
theorem fair_done {n most : Nat} (ws : List (Int × ByteArray)) (k : Nat) (h : most ≤ (fairP n most (ws.take k)).length) : fairP n most ws = fairP n most (ws.take k) := by
  conv => lhs; rw [← List.take_append_drop k ws]
  unfold fairP at h ⊢
  rw [List.foldl_append]
  exact fair_full h _
theorem FairOK.check {n most : Nat} {l : List (Int × ByteArray)} (h : FairOK n most l) (hm : most ≤ 64) : checkP n l = 0 := by
  unfold checkP
  rw [if_neg, if_neg, if_neg]
  · have := h.len; omega
  · rw [List.any_eq_true]
    rintro ⟨e, he, h9⟩
    have := h.all e he
    simp only [decide_eq_true_eq] at h9
    omega
  · rintro (h9 | h9)
    · rw [List.any_eq_true] at h9
      obtain ⟨e, he, h9⟩ := h9
      have := (h.all e he).1
      simp only [decide_eq_true_eq, ne_eq] at h9
      exact h9 this
    · exact h9 h.nodup
/-- A commit of right writes at a clean device: whether there are any. -/
def Img.next (I : Img) (l : List (Int × ByteArray)) : Img := if l = [] then I else I.upd (sortW I.n l)
theorem next_n (I : Img) (l : List (Int × ByteArray)) : (I.next l).n = I.n := by unfold Img.next; split <;> rfl
theorem next_cs {I : Img} {l : List (Int × ByteArray)} (h : checkP I.n l = 0) : csL (I.next l) = withP (csL I) l := by
  unfold Img.next
  split
  · rename_i h0; subst h0; rfl
  · exact (with_cs h).symm
theorem next_N (I : Img) (l : List (Int × ByteArray)) : (I.next l).N = if l = [] then I.N else I.N + 1 := by
  unfold Img.next
  split <;> rfl
end Go.Proofs.Ytbddelefglhaaaa
namespace Go.Proofs.Ytbddelefglhaaaa
set_option linter.unusedVariables false
set_option linter.unusedSimpArgs false
set_option linter.unusedSectionVars false
open Go.RowKit
attribute [local go_sem ↓] Go.wp_at_zero Go.wp_at_succ
/-- What is outside, and a list's block. -/
def also (out : Nat → Prop) (v : Value) (k : Nat) : Prop := out k ∨ v.ownBlock = some k
theorem OwnL.ne_map {w : World} {base e sz m : Nat} {v : Value} {rows : List (List Value)} {F : Int → Option Value} (h : OwnL w base e sz v rows) (hm : MapI w m F) : v.ownBlock ≠ some m := by
  rcases h.2.2 with ⟨rfl, _⟩ | ⟨g', cap, cur, rfl, _, hh, _⟩
  · simp [Value.ownBlock]
  · intro he
    have : g' = m := by simpa [Value.ownBlock] using he
    exact blk_map_ne (t := e) (cs := cur) hh hm this
theorem StoreM.beside {W W' : World} {s m x : Nat} {sy ep : Int} {base e sz : Nat} {v : Value} {rows : List (List Value)} (h : StoreM W s m x sy ep) (ho : OwnL W base e sz v rows) (hne : e ≠ 110) (hg : W.grownBy W' v.ownBlock) : StoreM W' s m x sy ep := by
  obtain ⟨F, hF, _⟩ := h.seen
  refine h.kept (S := fun k => v.ownBlock = some k) ⟨hg.os, hg.tape, hg.output, hg.size, fun k hk hn => hg.block k hk (fun e9 => hn e9.symm)⟩ (fun h9 => ?_) (fun h9 => ?_)
  · exact ho.ne_blk h.blk hne h9
  · exact ho.ne_map hF h9
theorem Live.own {w0 W W' : World} {x : Nat} {D : Dev} {out : Nat → Prop} {v v' : Value} {g : Nat} (h : Live w0 x D (also out v) W) (hg : W.grownBy W' v.ownBlock) (h0 : ∀ k, v.ownBlock = some k → w0.heap.size ≤ k) (hv : v'.ownBlock = some g) (hn : v.ownBlock = some g ∨ g = W.heap.size) (hl : g < W'.heap.size) : Live w0 x D (also out v') W' := by
  obtain ⟨q, hx, hd, hg0, hf, ho⟩ := h
  have ht : Turned (fun k => v.ownBlock = some k) W W' := ⟨hg.os, hg.tape, hg.output, hg.size, fun k hk hn => hg.block k hk (fun e9 => hn e9.symm)⟩
  refine ⟨q, hx, hd.kept ht (fun k hk h9 => (ho k (.inr h9)).2 hk), hg0.turn ht h0, hf, fun k hk => ?_⟩
  rcases hk with hk | hk
  · exact ⟨Nat.lt_of_lt_of_le (ho k (.inl hk)).1 hg.size, (ho k (.inl hk)).2⟩
  · rw [hv] at hk
    injection hk with hk
    subst hk
    refine ⟨hl, ?_⟩
    rcases hn with h9 | h9
    · exact (ho _ (.inr h9)).2
    · exact fun h8 => absurd (hd.feet_lt _ h8) (by omega)
theorem Held.own {w0 W W' : World} {x s m : Nat} {sy ep : Int} {D : Dev} {out : Nat → Prop} {base e sz : Nat} {v v' : Value} {rows : List (List Value)} {g : Nat} (h : Held w0 x s m sy ep D (also out v) W) (hos : out s ∧ out m) (hown : OwnL W base e sz v rows) (hb : w0.heap.size ≤ base) (hne : e ≠ 110) (hg : W.grownBy W' v.ownBlock) (hv : v'.ownBlock = some g) (hn : v.ownBlock = some g ∨ g = W.heap.size) (hl : g < W'.heap.size) : Held w0 x s m sy ep D (also out v') W' :=
  ⟨h.live.own hg (fun k hk => Nat.le_trans hb (hown.own_ge hk).1) hv hn hl, h.store.beside hown hne hg, .inl hos.1, .inl hos.2, h.m0⟩
/-- A new list stands outside. -/
theorem Held.also_new {w0 W W' : World} {x s m : Nat} {sy ep : Int} {D : Dev} {out : Nat → Prop} {v : Value} (h : Held w0 x s m sy ep D out W) (hg : Grew W W') (hv : ∀ k, v.ownBlock = some k → W.heap.size ≤ k ∧ k < W'.heap.size) : Held w0 x s m sy ep D (also out v) W' :=
  ⟨(h.live.more hg).few (fun k hk => hk.elim .inl (fun h9 => .inr (hv k h9))), h.store.grew hg, .inl h.os, .inl h.om, h.m0⟩
/-- A store beside one that has done something. -/
theorem Held.other {w0 W W' : World} {x s m s2 m2 : Nat} {sy ep sy2 ep2 : Int} {D D' : Dev} {out : Nat → Prop} (h : Held w0 x s2 m2 sy2 ep2 D out W) (hd : Done w0 x s m sy ep D' out W W') (hne : ¬ s2 = m ∧ ¬ m2 = m) : Held w0 x s2 m2 sy2 ep2 D' out W' :=
  ⟨hd.live, h.store.kept hd.turned (fun h9 => h9.elim (fun h8 => h8.2 h.os) hne.1) (fun h9 => h9.elim (fun h8 => h8.2 h.om) hne.2), h.os, h.om, h.m0⟩
/-- A list outside stays. -/
theorem OwnL.stays {w0 W W' : World} {x s m : Nat} {sy ep : Int} {out : Nat → Prop} {base e sz : Nat} {v : Value} {rows : List (List Value)} (h : OwnL W base e sz v rows) (hst : StoreM W s m x sy ep) (hT : Turned (fun k => (w0.heap.size ≤ k ∧ ¬ out k) ∨ k = m) W W') (ho : ∀ k, v.ownBlock = some k → out k) : OwnL W' base e sz v rows := by
  obtain ⟨F, hF, _⟩ := hst.seen
  refine h.kept hT (fun g hg h9 => ?_)
  rcases h9 with h9 | h9
  · exact h9.2 (ho g hg)
  · rw [h9] at hg; exact h.ne_map hF hg
theorem OwnL.done {w0 W W' : World} {x s m : Nat} {sy ep : Int} {D' : Dev} {out : Nat → Prop} {base e sz : Nat} {v : Value} {rows : List (List Value)} (h : OwnL W base e sz v rows) (hst : StoreM W s m x sy ep) (hd : Done w0 x s m sy ep D' out W W') (ho : ∀ k, v.ownBlock = some k → out k) : OwnL W' base e sz v rows := h.stays hst hd.turned ho
theorem OwnL.beside {w0 W W' : World} {out : Nat → Prop} {base e sz : Nat} {v : Value} {rows : List (List Value)} (h : OwnL W base e sz v rows) (hB : Beside w0 out W W') (ho : ∀ k, v.ownBlock = some k → out k) : OwnL W' base e sz v rows :=
  h.kept hB (fun g hg h9 => h9.2 (ho g hg))
theorem own_lit {W : World} {o : Obj} {n c : Nat} : ∀ k, (Value.slice (some ⟨W.heap.size, 0, none⟩) n c).ownBlock = some k → W.heap.size ≤ k ∧ k < (W.alloc o).heap.size := fun k hk => by
  have e1 : W.heap.size = k := by simpa [Value.ownBlock] using hk
  subst e1
  exact ⟨Nat.le_refl _, by simp⟩
theorem own_push {S : Nat → Prop} {W w1 w2 : World} {row : Option Nat} (h : Turned S W w1) (hr : ∀ k, row = some k → W.heap.size ≤ k) (hg : w1.grownBy w2 row) : Turned S W w2 :=
  h.next (T := fun k => row = some k) ⟨hg.os, hg.tape, hg.output, hg.size, fun k hk hn => hg.block k hk (fun e9 => hn e9.symm)⟩ (fun i hi h9 => absurd (hr i h9) (by omega))
theorem str_step (l : List ByteArray) (i : Nat) (h : i < l.length) : (l.take (i + 1)).map (fun s => [Value.string s]) = (l.take i).map (fun s => [Value.string s]) ++ [[Value.string l[i]]] := by
  rw [List.take_succ_eq_append_getElem h, List.map_append]
  rfl
theorem also_done {w0 W W1 W2 : World} {x s m : Nat} {sy ep : Int} {D' : Dev} {out : Nat → Prop} {v : Value} (ht : Turned (fun k => (w0.heap.size ≤ k ∧ ¬ out k) ∨ k = m) W W1) (hd : Done w0 x s m sy ep D' (also out v) W1 W2) : Turned (fun k => (w0.heap.size ≤ k ∧ ¬ out k) ∨ k = m) W W2 :=
  ht.trans (hd.turned.mono fun k _ hk => hk.elim (fun h9 => .inl ⟨h9.1, fun h8 => h9.2 (.inl h8)⟩) .inr)
theorem readP_idle {D : Dev} {I : Img} (h : Idle D I) (sy ep : Int) (hl : D.st.length = 131 + I.n) (i : Nat) (hi : i < I.n) : readP D sy ep (i : Int) = (D, I.cs i, 0) := by
  have hf : finD D sy ep = (D, false, 0) := by
    unfold finD
    rw [if_neg (by rw [h.live]; simp), if_pos h.noint]
  unfold readP
  rw [hf, if_neg (by simp), if_neg (by omega), Int.toNat_natCast, h.toHolds.look i hi]
  rfl
set_option maxRecDepth 100000 in
set_option maxHeartbeats 2000000 in
theorem contents_any {w0 : World} {x s m : Nat} {sy ep : Int} {D : Dev} {out : Nat → Prop} {W : World} {I : Img} (h : Held w0 x s m sy ep D out W) (hc : Idle D I) : Calls Try.prog 18 #[ptrV s] W fun e w' => ∃ v, e = .returned (.tuple #[v, .bool true]) ∧
    OwnL w' W.heap.size 9 1 v ((csL I).map fun s => [.string s]) ∧ Held w0 x s m sy ep D (also out v) w' ∧ Turned (fun k => (w0.heap.size ≤ k ∧ ¬ out k) ∨ k = m) W w' := by
  have hn1 := hc.img.n1
  have hn0 := hc.img.n0
  have hlen : D.st.length = 131 + I.n := hc.len
  have hcl := csL_len I
  obtain ⟨n, hn⟩ : ∃ n, I.n = n := ⟨_, rfl⟩
  obtain ⟨l, hl⟩ : ∃ l, csL I = l := ⟨_, rfl⟩
  have hll : l.length ≤ 1024 := by rw [← hl, csL_len]; exact hn1
  have HRD := Lib.hid (fun (i : Nat) (hi : i < l.length) (out' : Nat → Prop) (W' : World) (hh : Held w0 x s m sy ep D out' W') => readS_any hh (by omega) (by rw [hc.pend]; simp) (i : Int) (by unfold okI; omega) D l[i] 0 (by rw [readP_idle hc sy ep hlen i (by rw [← hl, csL_len] at hi; exact hi)]; simp only [← hl]; rw [csL_at]; rw [← hl, csL_len] at hi; exact hi))
  have HSE := Lib.hid (fun (out' : Nat → Prop) (W' : World) (hh : Held w0 x s m sy ep D out' W') => sectors_any' hh)
  rw [hl] at hcl ⊢
  rw [show (D.st.length : Int) - 131 = (l.length : Int) from by omega] at HSE
  have hle : l.length ≤ 1024 := by omega
  have hw0 := h.live.base.size
  have HOS := Lib.hid (show out s ∧ out m from ⟨h.os, h.om⟩)
  have hh0 : Held w0 x s m sy ep D (also out (.slice (some ⟨W.heap.size, 0, none⟩) 0 0)) (W.alloc (.cells #[] 9)) := h.also_new ((Grew.refl W).alloc _) own_lit
  have HH0 := Lib.hid hh0
  have HO0 := Lib.hid (OwnL.empty W W.heap.size 9 1 (Nat.le_refl _) rfl)
  clear h hc hn1 hn0 hlen hcl hn hl hh0
  go_enter Try.func18, Try.ntmps18
  go_wp2_with fail
  refine (HSE.out _ _ HH0.out).mono ?_
  rintro e w1 ⟨rfl, g1⟩
  have HH1 := Lib.hid (HH0.out.grew g1)
  have HO1 := Lib.hid (HO0.out.grew g1)
  have HT1 := Lib.hid ((((Grew.refl W).alloc (.cells #[] 9)).trans g1).turned (fun k => (w0.heap.size ≤ k ∧ ¬ out k) ∨ k = m))
  clear g1
  go_wp2_with fail
  go_loopg [4, 11] l.length (fun gk u i' wr => ∃ i : Nat, i ≤ l.length ∧ gk = l.length - i ∧ i' = .int .i64 i ∧ OwnL wr W.heap.size 9 1 u ((l.take i).map fun s => [.string s]) ∧ Held w0 x s m sy ep D (also out u) wr ∧ Turned (fun k => (w0.heap.size ≤ k ∧ ¬ out k) ∨ k = m) W wr)
  case atStart => exact ⟨0, by omega, by omega, rfl, by rw [List.take_zero]; exact HO1.out, HH1.out, HT1.out⟩
  case round =>
    obtain ⟨i, hi, hgi, rfl, hown, hh, ht⟩ := hrel
    have HGI := Lib.hid hgi
    have HOW := Lib.hid hown
    have HH := Lib.hid hh
    have HT := Lib.hid ht
    clear hgi hown hh ht
    by_cases hlt : i < l.length
    · have hii : (i : Int) < (l.length : Int) := by omega
      obtain ⟨d, hd⟩ : ∃ d, l[i] = d := ⟨_, rfl⟩
      have HR1 := Lib.hid (HRD.out i hlt _ _ HH.out)
      rw [hd] at HR1
      have HLD := Lib.hid hd
      clear hd
      go_wp2_with fail
      refine HR1.out.mono ?_
      rintro e w2 ⟨rfl, hdn⟩
      have hh2 := HH.out.done hdn
      have ho2 := HOW.out.done HH.out.store hdn (fun k hk => .inr hk)
      have ht2 := also_done HT.out hdn
      have HW2 := Lib.hid ht2.size
      have HB0 := Lib.hid hw0
      have hr0 := Lib.hid ho2.row_ge
      have HH2 := Lib.hid hh2
      have HO2 := Lib.hid ho2
      have HT2 := Lib.hid ht2
      have hz2 := ht2.size
      clear hdn hh2 ho2 ht2
      have htl : (((l.take i).map fun s => [Value.string s])).length = i := by rw [List.length_map, List.length_take]; omega
      have HTL := Lib.hid htl
      clear htl
      go_wp2_with (at_builtin; refine wpList_push2 rfl _ _ 37 rfl W.heap.size 9 1 16 (.string ⟨#[]⟩) Try.underlying37 info_strz rfl (by decide) (w2.alloc (.cells #[.string d] 9)) _ ((l.take i).map fun s => [.string s]) [.string d] rfl rfl (HO2.out.alloc _) w2.heap.size (by rfl) (Blk.new _ _ _ rfl) rfl (by rw [HTL.out]; omega) (by rw [HTL.out]; omega) (by simp; omega) i HTL.out ?_)
      intro g9 cap9 w9 hown9 hgb9 hn9 hl9
      have hh9 : Held w0 x s m sy ep D (also out (.slice (some ⟨g9, 0, none⟩) (i + 1) cap9)) w9 := Held.own (HH2.out.grew ((Grew.refl w2).alloc (.cells #[.string d] 9))) HOS.out (HO2.out.alloc _) HB0.out (by decide) hgb9 rfl (by simpa using hn9) hl9
      have ht9 : Turned (fun k => (w0.heap.size ≤ k ∧ ¬ out k) ∨ k = m) W w9 := own_push (HT2.out.alloc _) HO2.out.row_ge hgb9
      have HO9 : Hid (OwnL w9 W.heap.size 9 1 (.slice (some ⟨g9, 0, none⟩) (i + 1) cap9) ((l.take (i + 1)).map fun s => [.string s])) := Lib.hid (by rw [str_step l i hlt, HLD.out]; simpa using hown9)
      have HH9 := Lib.hid hh9
      have HT9 := Lib.hid ht9
      clear hown9 hgb9 hn9 hl9 hh9 ht9 hz2
      go_wp2_with fail
      go_roundg (l.length - (i + 1))
      case measure => rw [HGI.out]; omega
      case rel => exact ⟨i + 1, by omega, by omega, by go_num, HO9.out, HH9.out, HT9.out⟩
    · obtain rfl : i = l.length := by omega
      have HE := HOW
      rw [List.take_of_length_le (Nat.le_refl _)] at HE
      go_wp2_with fail
      go_ret2
      exact ⟨_, rfl, HE.out, HH.out, HT.out⟩
end Go.Proofs.Ytbddelefglhaaaa
namespace Go.Proofs.Ytbddelefglhaaaa
set_option linter.unusedVariables false
set_option linter.unusedSimpArgs false
set_option linter.unusedSectionVars false
open Go.RowKit
attribute [local go_sem ↓] Go.wp_at_zero Go.wp_at_succ
theorem xor_byte (x : BitVec 32) (c : UInt8) : bits .xor .u32 (u32 x) (c.toNat : Int) = u32 (x ^^^ byteV c) := by
  rw [← xor_u32]
  congr 1
  unfold u32 byteV
  rw [BitVec.toNat_ofNat, Nat.mod_eq_of_lt (by have := c.toNat_lt; omega)]
set_option maxRecDepth 100000 in
set_option maxHeartbeats 1000000 in
theorem rupdate_any (x : BitVec 32) (s : ByteArray) (hs : s.size ≤ 9223372036854775807) (w : World) :
    Calls Try.prog 76 #[.int .u32 (u32 x), .string s] w fun e w' => e = .returned (.int .u32 (u32 (~~~(crcU s.data.toList (~~~x))))) ∧ Grew w w' := by
  have hnot : bits .xor .u32 IntKind.u32.max (u32 x) = u32 (~~~x) := not_u32 x
  have b0 := u32_bd x
  have b1 := u32_bd (~~~x)
  have HNM := Lib.hid not_max
  go_enter Try.func76, Try.ntmps76
  go_wp2_with fail
  go_loopg [5, 6] s.size (fun gk c i wr => ∃ k : Nat, k ≤ s.size ∧ gk = s.size - k ∧ i = .int .i64 k ∧ c = .int .u32 (u32 (crcU (s.data.toList.take k) (~~~x))) ∧ Grew w wr)
  case atStart => exact ⟨0, by omega, by omega, rfl, rfl, by (repeat' first | (with_reducible exact Grew.refl _) | (with_reducible assumption) | (with_reducible refine Grew.alloc ?_ _) | (with_reducible refine Grew.drew ?_) | (with_reducible refine Grew.drewN ?_ _) | (with_reducible refine Grew.setRow ?_ (by first | (simp; done) | (simp; omega) | omega) _) | (with_reducible refine Grew.setCell ?_ (by first | (simp; done) | (simp; omega) | omega) _) | ((with_reducible apply Grew.trans); rotate_left; (with_reducible assumption)) | ((with_reducible apply Grew.turn); rotate_left; (with_reducible assumption); (focus (intro i hi; first | omega | (simp at hi; omega)))) | fail)⟩
  case round =>
    obtain ⟨k, hk, hgk, rfl, rfl, hg⟩ := hrel
    have HGK := Lib.hid hgk
    clear hgk hnot b0 b1
    by_cases hlt : k < s.size
    · have hsn := crcU_snoc s k hlt (~~~x)
      obtain ⟨y, hy⟩ : ∃ y, crcU (s.data.toList.take k) (~~~x) = y := ⟨_, rfl⟩
      rw [hy] at hsn ⊢
      have HSN := Lib.hid hsn
      have hxb := xor_byte y s[k]
      obtain ⟨z, hz⟩ : ∃ z, y ^^^ byteV s[k] = z := ⟨_, rfl⟩
      rw [hz] at hxb
      have HZ := Lib.hid hz
      have hu := s[k].toNat_lt
      have v1 := u32_bd y
      have v2 := u32_bd z
      have HG := Lib.hid hg
      clear hsn hy hz hg
      obtain ⟨wo, hwo⟩ : ∃ wo : World, wo = wr := ⟨_, rfl⟩
      subst hwo
      go_wp2_with fail
      go_loopg [5, 7] 8 (fun hk c i wr => ∃ j : Nat, j ≤ 8 ∧ hk = 8 - j ∧ i = .int .i64 j ∧ c = .int .u32 (u32 (shN j z)) ∧ Grew w wr)
      case atStart => exact ⟨0, by omega, by omega, rfl, rfl, HG.out⟩
      case round =>
        obtain ⟨j, hj, hhk, rfl, rfl, hg⟩ := hrel
        have HHK := Lib.hid hhk
        clear hhk hxb
        have v3 := u32_bd (shN j z)
        by_cases hjt : j < 8
        · have HR := Lib.hid (rshift_any (shN j z))
          rw [← shN_end] at HR
          go_wp2_with fail
          refine (HR.out _).mono ?_
          rintro e w2 ⟨rfl, g2⟩
          go_wp2_with fail
          go_roundg (8 - (j + 1))
          case measure => rw [HHK.out]; omega
          case rel => exact ⟨j + 1, by omega, by omega, by go_num, rfl, hg.trans g2⟩
        · obtain rfl : j = 8 := by omega
          go_wp2_with fail
          go_roundg (s.size - (k + 1))
          case measure => rw [HGK.out]; omega
          case rel => exact ⟨k + 1, by omega, by omega, by go_num, by rw [HSN.out]; unfold stepB; rw [HZ.out], hg⟩
    · obtain rfl : k = s.size := by omega
      have e0 : s.data.toList.take s.size = s.data.toList := by rw [List.take_of_length_le (by simp)]
      rw [e0]
      have hnot2 := HNM.out (crcU s.data.toList (~~~x))
      have v1 := u32_bd (crcU s.data.toList (~~~x))
      have v2 := u32_bd (~~~(crcU s.data.toList (~~~x)))
      clear e0
      go_wp2_with fail
      go_ret
      exact ⟨rfl, hg⟩
set_option maxRecDepth 100000 in
theorem rsum_any (s : ByteArray) (hs : s.size ≤ 9223372036854775807) (w : World) : Calls Try.prog 42 #[.string s] w fun e w' => e = .returned (.int .u32 (u32 (sumS s))) ∧ Grew w w' := by
  have HU := Lib.hid (rupdate_any 0#32 s hs w)
  go_enter Try.func42, Try.ntmps42
  go_wp2_with fail
  refine HU.out.mono ?_
  rintro e w1 ⟨rfl, g1⟩
  go_wp2_with fail
  go_ret
  exact ⟨rfl, g1⟩
set_option maxRecDepth 100000 in
theorem rbytes_any (x : BitVec 32) (w : World) : Calls Try.prog 46 #[.int .u32 (u32 x)] w fun e w' => e = .returned (.string (bytesS x)) ∧ Grew w w' := by
  have hb := u32_bd x
  have hcv := conv_bytes w x
  go_enter Try.func46, Try.ntmps46
  go_wp2_with fail
  go_ret
  exact ⟨rfl, by (repeat' first | (with_reducible exact Grew.refl _) | (with_reducible assumption) | (with_reducible refine Grew.alloc ?_ _) | (with_reducible refine Grew.drew ?_) | (with_reducible refine Grew.drewN ?_ _) | (with_reducible refine Grew.setRow ?_ (by first | (simp; done) | (simp; omega) | omega) _) | (with_reducible refine Grew.setCell ?_ (by first | (simp; done) | (simp; omega) | omega) _) | ((with_reducible apply Grew.trans); rotate_left; (with_reducible assumption)) | ((with_reducible apply Grew.turn); rotate_left; (with_reducible assumption); (focus (intro i hi; first | omega | (simp at hi; omega)))) | fail)⟩
theorem num_val (s : ByteArray) (h : s.size = 4) : u32 (numS s) = ((s[0]'(by omega)).toNat : Int) + 256 * ((s[1]'(by omega)).toNat : Int) + 65536 * ((s[2]'(by omega)).toNat : Int) + 16777216 * ((s[3]'(by omega)).toNat : Int) ∧ (s[0]'(by omega)).toNat < 256 ∧ (s[1]'(by omega)).toNat < 256 ∧ (s[2]'(by omega)).toNat < 256 ∧ (s[3]'(by omega)).toNat < 256 := by
  have e0 : (s[0]'(by omega)).toNat = at8 s 0 := by unfold at8; rw [Array.getD_eq_getD_getElem?, Array.getElem?_eq_getElem (show 0 < s.data.size from by show 0 < s.size; omega)]; rfl
  have e1 : (s[1]'(by omega)).toNat = at8 s 1 := by unfold at8; rw [Array.getD_eq_getD_getElem?, Array.getElem?_eq_getElem (show 1 < s.data.size from by show 1 < s.size; omega)]; rfl
  have e2 : (s[2]'(by omega)).toNat = at8 s 2 := by unfold at8; rw [Array.getD_eq_getD_getElem?, Array.getElem?_eq_getElem (show 2 < s.data.size from by show 2 < s.size; omega)]; rfl
  have e3 : (s[3]'(by omega)).toNat = at8 s 3 := by unfold at8; rw [Array.getD_eq_getD_getElem?, Array.getElem?_eq_getElem (show 3 < s.data.size from by show 3 < s.size; omega)]; rfl
  rw [e0, e1, e2, e3]
  have h0 := at8_lt s 0
  have h1 := at8_lt s 1
  have h2 := at8_lt s 2
  have h3 := at8_lt s 3
  refine ⟨?_, h0, h1, h2, h3⟩
  unfold u32
  rw [numS_toNat]
  unfold numN
  rw [if_pos h]
  omega
set_option maxRecDepth 100000 in
theorem rnumber_any (s : ByteArray) (hs : s.size ≤ 9223372036854775807) (w : World) : Calls Try.prog 41 #[.string s] w fun e w' => e = .returned (.int .u32 (u32 (numS s))) ∧ Grew w w' := by
  by_cases h4 : s.size = 4
  · have hne : ((s.size : Int) != 4) = false := by rw [h4]; rfl
    obtain ⟨hnv, n0, n1, n2, n3⟩ := num_val s h4
    have HNV := Lib.hid hnv
    clear hnv
    go_enter Try.func41, Try.ntmps41
    go_wp2_with fail
    go_quiet (fail)
    go_wp2_with fail
    go_ret
    exact ⟨ret_int (by rw [HNV.out]; omega), by (repeat' first | (with_reducible exact Grew.refl _) | (with_reducible assumption) | (with_reducible refine Grew.alloc ?_ _) | (with_reducible refine Grew.drew ?_) | (with_reducible refine Grew.drewN ?_ _) | (with_reducible refine Grew.setRow ?_ (by first | (simp; done) | (simp; omega) | omega) _) | (with_reducible refine Grew.setCell ?_ (by first | (simp; done) | (simp; omega) | omega) _) | ((with_reducible apply Grew.trans); rotate_left; (with_reducible assumption)) | ((with_reducible apply Grew.turn); rotate_left; (with_reducible assumption); (focus (intro i hi; first | omega | (simp at hi; omega)))) | fail)⟩
  · have hne : ((s.size : Int) != 4) = true := by simp; omega
    have HN := Lib.hid (num_other s h4)
    go_enter Try.func41, Try.ntmps41
    go_wp2_with fail
    go_ret
    exact ⟨by rw [HN.out]; rfl, by (repeat' first | (with_reducible exact Grew.refl _) | (with_reducible assumption) | (with_reducible refine Grew.alloc ?_ _) | (with_reducible refine Grew.drew ?_) | (with_reducible refine Grew.drewN ?_ _) | (with_reducible refine Grew.setRow ?_ (by first | (simp; done) | (simp; omega) | omega) _) | (with_reducible refine Grew.setCell ?_ (by first | (simp; done) | (simp; omega) | omega) _) | ((with_reducible apply Grew.trans); rotate_left; (with_reducible assumption)) | ((with_reducible apply Grew.turn); rotate_left; (with_reducible assumption); (focus (intro i hi; first | omega | (simp at hi; omega)))) | fail)⟩
theorem pad_is (s : ByteArray) : padS 128 (if 128 < s.size then s.extract 0 128 else s) = dataS s := by
  unfold padS dataS
  split
  · rw [ByteArray.size_extract, show 128 - (min 128 s.size - 0) = 0 from by omega, show 128 - s.size = 0 from by omega]
    rfl
  · rw [show s.extract 0 128 = s from by apply ByteArray.ext; rw [ByteArray.data_extract]; exact Array.extract_eq_self_of_le (by show s.size ≤ 128; omega)]
    rfl
set_option maxRecDepth 100000 in
theorem data_any (s : ByteArray) (w : World) (hs : s.size ≤ 1000000) : Calls Try.prog 37 #[.string s] w fun e w' => e = .returned (.string (dataS s)) ∧ w = w' := by
  have hp := pad_is s
  by_cases h : 128 < s.size
  · rw [if_pos h] at hp
    have HP := Lib.hid (padded_any (s.extract 0 128) 128 w (by omega) (by rw [ByteArray.size_extract]; omega))
    rw [hp] at HP
    have hi : (s.size : Int) > 128 := by omega
    clear hp
    go_enter Try.func37, Try.ntmps37
    go_wp2_with fail
    refine HP.out.mono ?_
    rintro e w1 ⟨rfl, rfl⟩
    go_wp2_with fail
    go_ret
    exact ⟨rfl, rfl⟩
  · rw [if_neg h] at hp
    have HP := Lib.hid (padded_any s 128 w (by omega) hs)
    rw [hp] at HP
    have hi : ¬ (s.size : Int) > 128 := by omega
    clear hp
    go_enter Try.func37, Try.ntmps37
    go_wp2_with fail
    refine HP.out.mono ?_
    rintro e w1 ⟨rfl, rfl⟩
    go_wp2_with fail
    go_ret
    exact ⟨rfl, rfl⟩
set_option maxRecDepth 100000 in
set_option maxHeartbeats 1000000 in
theorem rpack_any (d : ByteArray) (v : BitVec 32) (i : Int) (w : World) (hd : d.size ≤ 1000000) (hi : okI i) :
    Calls Try.prog 14 #[.string d, .int .u32 (u32 v), .int .i64 i] w fun e w' => e = .returned (.string (packS d v i)) ∧ Grew w w' := by
  have hp : padS 128 (if 128 < d.size then d.extract 0 128 else d) = dataS d := pad_is d
  have hbd := wrap_idx i
  have hbd2 : i % 4294967296 = u32 (idx32 i) := (u32_idx i).symm
  have hz1 := dataS_size d
  have hz2 := bytesS_size v
  have hz3 := bytesS_size (idx32 i)
  have hz4 : (bodyR d v i).size = 136 := bodyR_size d v i
  have hz5 := bytesS_size (sumS (bodyR d v i))
  have HS := Lib.hid (rsum_any (bodyR d v i) (by rw [bodyR_size]; omega))
  have HB1 := Lib.hid (rbytes_any v)
  have HB2 := Lib.hid (rbytes_any (idx32 i))
  have HB3 := Lib.hid (rbytes_any (sumS (bodyR d v i)))
  have HBD := Lib.hid (show dataS d ++ bytesS v ++ bytesS (idx32 i) = bodyR d v i from rfl)
  unfold okI at hi
  by_cases h : 128 < d.size
  · rw [if_pos h] at hp
    have HP := Lib.hid (padded_any (d.extract 0 128) 128 w (by omega) (by rw [ByteArray.size_extract]; omega))
    rw [hp] at HP
    have hi2 : (d.size : Int) > 128 := by omega
    clear hp
    go_enter Try.func14, Try.ntmps14
    go_wp2_with fail
    refine HP.out.mono ?_
    rintro e w1 ⟨rfl, rfl⟩
    go_wp2_with fail
    refine (HB1.out _).mono ?_
    rintro e w2 ⟨rfl, g2⟩
    go_wp2_with fail
    refine (HB2.out _).mono ?_
    rintro e w3 ⟨rfl, g3⟩
    go_wp2_with fail
    rw [HBD.out]
    refine (HS.out _).mono ?_
    rintro e w4 ⟨rfl, g4⟩
    go_wp2_with fail
    refine (HB3.out _).mono ?_
    rintro e w5 ⟨rfl, g5⟩
    go_wp2_with fail
    go_ret
    exact ⟨rfl, ((g2.trans g3).trans g4).trans g5⟩
  · rw [if_neg h] at hp
    have HP := Lib.hid (padded_any d 128 w (by omega) hd)
    rw [hp] at HP
    have hi2 : ¬ (d.size : Int) > 128 := by omega
    clear hp
    go_enter Try.func14, Try.ntmps14
    go_wp2_with fail
    refine HP.out.mono ?_
    rintro e w1 ⟨rfl, rfl⟩
    go_wp2_with fail
    refine (HB1.out _).mono ?_
    rintro e w2 ⟨rfl, g2⟩
    go_wp2_with fail
    refine (HB2.out _).mono ?_
    rintro e w3 ⟨rfl, g3⟩
    go_wp2_with fail
    rw [HBD.out]
    refine (HS.out _).mono ?_
    rintro e w4 ⟨rfl, g4⟩
    go_wp2_with fail
    refine (HB3.out _).mono ?_
    rintro e w5 ⟨rfl, g5⟩
    go_wp2_with fail
    go_ret
    exact ⟨rfl, ((g2.trans g3).trans g4).trans g5⟩
end Go.Proofs.Ytbddelefglhaaaa
namespace Go.Proofs.Ytbddelefglhaaaa
set_option linter.unusedVariables false
set_option linter.unusedSimpArgs false
set_option linter.unusedSectionVars false
open Go.RowKit
attribute [local go_sem ↓] Go.wp_at_zero Go.wp_at_succ
def shortP (ws : List (Int × ByteArray)) (most : Nat) : Bool := ws.all (fun e => decide (e.2.size ≤ 200)) && decide (ws.length ≤ most)
set_option maxRecDepth 100000 in
set_option maxHeartbeats 1000000 in
theorem short_any (ws : List (Int × ByteArray)) (A : Option Addr) (c most : Nat) (hm : most ≤ 1000) (w : World) (hat : ListAt w w.heap.size 2 A (ws.map entC)) (hl : ws.length ≤ 9223372036854775807) :
    Calls Try.prog 15 #[.slice A ws.length c, .int .i64 (most : Int)] w fun e w' => e = .returned (.bool (shortP ws most)) ∧ Grew w w' := by
  have HAT := Lib.hid hat
  clear hat
  go_enter Try.func15, Try.ntmps15
  go_wp2_with fail
  go_loopg [5] ws.length (fun gk i' wr => ∃ i : Nat, i ≤ ws.length ∧ gk = ws.length - i ∧ i' = .int .i64 i ∧ Grew w wr ∧ (ws.take i).all (fun e => decide (e.2.size ≤ 200)) = true)
  case atStart => exact ⟨0, by omega, by omega, rfl, Grew.refl _, rfl⟩
  case round =>
    obtain ⟨i, hi, hgi, rfl, hg, ht⟩ := hrel
    have HGI := Lib.hid hgi
    have HG := Lib.hid hg
    have HT := Lib.hid ht
    clear hgi hg ht
    by_cases hlt : i < ws.length
    · have hii : (i : Int) < (ws.length : Int) := by omega
      obtain ⟨b, off, rfl, hbb, c0, c1⟩ := ent_at (HAT.out.keep (Nat.le_refl _) HG.out) hlt
      have hgw : w.heap.size ≤ wr.heap.size := HG.out.size
      obtain ⟨⟨a, d⟩, he⟩ : ∃ e, ws[i] = e := ⟨_, rfl⟩
      rw [he] at c0 c1
      simp only at c0 c1
      have HE := Lib.hid he
      clear he
      by_cases hbig : 200 < d.size
      · have hb2 : (d.size : Int) > 200 := by omega
        have HF : Hid (shortP ws most = false) := Lib.hid (by
          unfold shortP
          rw [Bool.and_eq_false_iff]
          left
          rw [List.all_eq_false]
          exact ⟨ws[i], List.getElem_mem hlt, by rw [HE.out]; simp; exact hbig⟩)
        clear hbig
        go_wp2_with fail
        go_ret
        exact ⟨by rw [HF.out]; rfl, HG.out⟩
      · have hb2 : ¬ (d.size : Int) > 200 := by omega
        have hns : d.size ≤ 200 := by omega
        have HNS := Lib.hid hns
        clear hbig hns
        go_wp2_with fail
        go_roundg (ws.length - (i + 1))
        case measure => rw [HGI.out]; omega
        case rel => exact ⟨i + 1, by omega, by omega, by go_num, HG.out, by rw [List.take_succ_eq_append_getElem hlt, List.all_append, HT.out, HE.out]; simp [HNS.out]⟩
    · obtain rfl : i = ws.length := by omega
      have HE : Hid (shortP ws most = decide (ws.length ≤ most)) := Lib.hid (by
        have := HT.out
        rw [List.take_of_length_le (Nat.le_refl _)] at this
        unfold shortP
        rw [this, Bool.true_and])
      go_wp2_with fail
      go_ret
      exact ⟨by rw [HE.out]; rfl, HG.out⟩
theorem tmod_cases (a : Int) (n : Nat) (hn : 0 < n) : (Int.tmod a n < 0 ∧ Int.tmod a n + (n : Int) = modI a n) ∨ (0 ≤ Int.tmod a n ∧ Int.tmod a n = modI a n) := by
  have h1 : 0 ≤ a % (n : Int) := Int.emod_nonneg _ (by omega)
  have h2 : a % (n : Int) < (n : Int) := Int.emod_lt_of_pos _ (by omega)
  have h3 := Int.tmod_eq_emod (a := a) (b := (n : Int))
  unfold modI
  by_cases hc : 0 ≤ a ∨ (n : Int) ∣ a
  · rw [if_pos hc] at h3
    right
    omega
  · rw [if_neg hc] at h3
    left
    simp only [Int.natAbs_natCast] at h3
    omega
theorem ent_step (l : List (Int × ByteArray)) (e : Int × ByteArray) : (l ++ [e]).map entC = l.map entC ++ [[.int .i64 e.1, .string e.2]] := by
  rw [List.map_append]
  rfl
set_option maxRecDepth 100000 in
set_option maxHeartbeats 4000000 in
theorem fair_any (ws : List (Int × ByteArray)) (A : Option Addr) (c n most : Nat) (hn : 0 < n ∧ n ≤ 1024) (hm : most ≤ 64) (w : World) (hat : ListAt w w.heap.size 2 A (ws.map entC)) (hl : ws.length ≤ 1000000) (hok : ∀ e ∈ ws, okI e.1) (hsz : ∀ e ∈ ws, e.2.size ≤ 1000000) :
    Calls Try.prog 24 #[.slice A ws.length c, .int .i64 (n : Int), .int .i64 (most : Int)] w fun e w' => ∃ v, e = .returned v ∧ OwnL w' w.heap.size 72 2 v ((fairP n most ws).map entC) ∧ Grew w w' := by
  have HAT := Lib.hid hat
  have HOK := Lib.hid hok
  have HSZ := Lib.hid hsz
  have hn0 : (n : Int) ≠ 0 := by omega
  have hnp : ((n : Int) > 0) = True := by simp; omega
  have HFO := Lib.hid (fun (k : Nat) => fair_ok (most := most) hn.1 (ws.take k))
  clear hat hok hsz
  go_enter Try.func24, Try.ntmps24
  go_wp2_with fail
  have ho0 := OwnL.empty w w.heap.size 72 2 (Nat.le_refl _) rfl
  go_loopg [7, 8] ws.length (fun gk u i' wr => ∃ i : Nat, i ≤ ws.length ∧ gk = ws.length - i ∧ i' = .int .i64 i ∧ OwnL wr w.heap.size 72 2 u ((fairP n most (ws.take i)).map entC) ∧ Grew w wr)
  case atStart => exact ⟨0, by omega, by omega, rfl, ho0, (Grew.refl w).alloc _⟩
  case round =>
    obtain ⟨i, hi, hgi, rfl, hown, hg⟩ := hrel
    have HGI := Lib.hid hgi
    have HOW := Lib.hid hown
    have HG := Lib.hid hg
    obtain ⟨o, ho⟩ : ∃ o, fairP n most (ws.take i) = o := ⟨_, rfl⟩
    have hfo := HFO.out i
    rw [ho] at hown hfo
    obtain ⟨B, cb, rfl, hcb1, hcb2, hbl⟩ := hown.listAt
    rw [List.length_map] at hcb1 hown ⊢
    have HOU := Lib.hid hown
    have HB := Lib.hid hbl
    have HO := Lib.hid ho
    have hol := hfo.len
    have HF := Lib.hid hfo
    clear hgi hown hg ho hbl hfo HOW
    by_cases hlt : i < ws.length
    · have hii : (i : Int) < (ws.length : Int) := by omega
      by_cases hfull : o.length < most
      · have hff : (o.length : Int) < (most : Int) := by omega
        obtain ⟨b, off, rfl, hbb, c0, c1⟩ := ent_at (HAT.out.keep (Nat.le_refl _) HG.out) hlt
        have hgw : w.heap.size ≤ wr.heap.size := HG.out.size
        have hoka := HOK.out _ (List.getElem_mem hlt)
        have hszd := HSZ.out _ (List.getElem_mem hlt)
        have hst := fairP_step n most ws i hlt
        rw [HO.out] at hst
        obtain ⟨⟨a, d⟩, he⟩ : ∃ e, ws[i] = e := ⟨_, rfl⟩
        rw [he] at c0 c1 hoka hszd hst
        simp only at c0 c1 hoka hszd
        unfold fair1 at hst
        simp only at hst
        have HE := Lib.hid he
        clear he
        obtain ⟨r, hr⟩ : ∃ r, Int.tmod a (n : Int) = r := ⟨_, rfl⟩
        obtain ⟨q, hq⟩ : ∃ q, modI a n = q := ⟨_, rfl⟩
        have hcs := tmod_cases a n hn.1
        rw [hr, hq] at hcs
        rw [hq] at hst
        have hqb : 0 ≤ q ∧ q < (n : Int) := by rw [← hq]; unfold modI; exact ⟨Int.emod_nonneg _ (by omega), Int.emod_lt_of_pos _ (by omega)⟩
        have hqi : IntKind.i64.wrap q = q := IntWalk.i64_in _ (by omega)
        have hd1 : decide ((0 : Int) < (n : Int)) = true := decide_eq_true (by omega)
        have hd2 : (n : Int) > 0 := by omega
        have hd3 : decide ((o.length : Int) < (most : Int)) = true := decide_eq_true hff
        have hd4 : decide ((i : Int) < (ws.length : Int)) = true := decide_eq_true hii
        have HST := Lib.hid hst
        have HHQ := Lib.hid hqb
        have HSD := Lib.hid hszd
        have hri : IntKind.i64.wrap r = r := IntWalk.i64_in _ (by omega)
        clear hst hq hszd
        obtain ⟨wo, hwo⟩ : ∃ wo : World, wo = wr := ⟨_, rfl⟩
        subst hwo
        rcases hcs with ⟨hneg, hsum⟩ | ⟨hneg, hsum⟩
        case' inl =>
          have hrn : decide (r < 0) = true := decide_eq_true hneg
          have hwq : IntKind.i64.wrap (r + (n : Int)) = q := by rw [hsum]; exact hqi
          clear hsum hqi
          go_wp2_with fail
        case' inr =>
          have hsum2 := hsum.symm
          subst hsum2
          have hrn : decide (q < 0) = false := decide_eq_false (by omega)
          have hrn2 : ¬ q < 0 := by omega
          go_wp2_with fail
        all_goals
          go_loopg [10, 11] o.length (fun g2 u2 j' wr => wo = wr ∧ ∃ j : Nat, j ≤ o.length ∧ g2 = o.length - j ∧ j' = .int .i64 j ∧ u2 = .bool ((o.take j).any fun x => x.1 == q))
          case atStart => exact ⟨rfl, 0, by omega, by omega, rfl, rfl⟩
          case round =>
            obtain ⟨hwo, j, hj, hgj, rfl, rfl⟩ := hrel
            subst hwo
            have HGJ := Lib.hid hgj
            clear hgj
            by_cases hjl : j < o.length
            · have hjj : (j : Int) < (o.length : Int) := by omega
              obtain ⟨b2, off2, rfl, hb2, d0, d1⟩ := ent_at HB.out hjl
              obtain ⟨⟨a2, e2⟩, hee⟩ : ∃ e, o[j] = e := ⟨_, rfl⟩
              rw [hee] at d0 d1
              simp only at d0 d1
              have HEE := Lib.hid hee
              clear hee
              cases hany : (o.take j).any fun x => x.1 == q with
              | true =>
                have HAN := Lib.hid hany
                clear hany
                go_wp2_with fail
                go_roundg (o.length - (j + 1))
                case measure => rw [HGJ.out]; omega
                case rel => exact ⟨rfl, j + 1, by omega, by omega, by go_num, by rw [List.take_succ_eq_append_getElem hjl, List.any_append, HAN.out, Bool.true_or]⟩
              | false =>
                have HAN := Lib.hid hany
                clear hany
                by_cases heq : a2 = q
                · have he1 : (a2 == q) = true := by rw [beq_iff_eq]; exact heq
                  have HQ := Lib.hid heq
                  clear heq
                  go_wp2_with fail
                  go_roundg (o.length - (j + 1))
                  case measure => rw [HGJ.out]; omega
                  case rel => exact ⟨rfl, j + 1, by omega, by omega, by go_num, by rw [List.take_succ_eq_append_getElem hjl, List.any_append, HAN.out, HEE.out]; simp [HQ.out]⟩
                · have he1 : (a2 == q) = false := by rw [beq_eq_false_iff_ne]; exact heq
                  have HQ := Lib.hid heq
                  clear heq
                  go_wp2_with fail
                  go_roundg (o.length - (j + 1))
                  case measure => rw [HGJ.out]; omega
                  case rel => exact ⟨rfl, j + 1, by omega, by omega, by go_num, by rw [List.take_succ_eq_append_getElem hjl, List.any_append, HAN.out, HEE.out]; simp [HQ.out]⟩
            · obtain rfl : j = o.length := by omega
              rw [List.take_of_length_le (Nat.le_refl _)]
              cases hany : o.any fun x => x.1 == q with
              | true =>
                have HS2 : Hid (fairP n most (ws.take (i + 1)) = o) := Lib.hid (by rw [HST.out, if_neg (by rw [hany]; simp)])
                clear hany
                go_wp2_with fail
                go_roundg (ws.length - (i + 1))
                case measure => rw [HGI.out]; omega
                case rel => exact ⟨i + 1, by omega, by omega, by go_num, by rw [HS2.out]; exact HOU.out, HG.out⟩
              | false =>
                have HS2 : Hid (fairP n most (ws.take (i + 1)) = o ++ [(q, dataS d)]) := Lib.hid (by rw [HST.out, if_pos ⟨hfull, hany⟩])
                have HDA := Lib.hid (data_any d wo HSD.out)
                clear hany
                go_wp2_with fail
                refine HDA.out.mono ?_
                rintro e w2 ⟨rfl, rfl⟩
                have hml : (o.map entC).length = o.length := List.length_map ..
                have HML := Lib.hid hml
                clear hml
                go_wp2_with (at_builtin; refine wpList_push2 rfl _ _ 29 rfl w.heap.size 72 2 24 (.agg #[.int .i64 0, .string ⟨#[]⟩]) Try.underlying29 info_sw rfl (by decide) (wo.alloc (.cells #[.int .i64 q, .string (dataS d)] 72)) _ (o.map entC) [.int .i64 q, .string (dataS d)] rfl rfl (HOU.out.alloc _) wo.heap.size (by rfl) (Blk.new _ _ _ rfl) rfl (by rw [HML.out]; omega) (by rw [HML.out]; omega) (by simp; omega) o.length HML.out ?_)
                intro g9 cap9 w9 hown9 hgb9 hn9 hl9
                have hg9 : Grew w w9 := Grew.own (HG.out.alloc _) hgb9 (fun k hk => HOU.out.row_ge k hk) (Nat.le_refl _)
                have HO9 := Lib.hid hown9
                have HG9 := Lib.hid hg9
                clear hown9 hgb9 hn9 hl9 hg9
                go_wp2_with fail
                go_roundg (ws.length - (i + 1))
                case measure => rw [HGI.out]; omega
                case rel => exact ⟨i + 1, by omega, by omega, by go_num, by rw [HS2.out, ent_step]; exact HO9.out, HG9.out⟩
      · have hff : decide ((o.length : Int) < (most : Int)) = false := decide_eq_false (by omega)
        have hff2 : ¬ (o.length : Int) < (most : Int) := by omega
        have HE : Hid (fairP n most ws = o) := Lib.hid (by rw [fair_done ws i (by rw [HO.out]; omega), HO.out])
        have hd4 : decide ((i : Int) < (ws.length : Int)) = true := decide_eq_true hii
        have hd1 : decide ((0 : Int) < (n : Int)) = true := decide_eq_true (by omega)
        have hd2 : (n : Int) > 0 := by omega
        go_wp2_with fail
        go_ret
        exact ⟨_, rfl, by rw [HE.out]; exact HOU.out, HG.out⟩
    · obtain rfl : i = ws.length := by omega
      have HE := HO
      rw [List.take_of_length_le (Nat.le_refl _)] at HE
      go_wp2_with fail
      go_ret
      exact ⟨_, rfl, by rw [HE.out]; exact HOU.out, HG.out⟩
end Go.Proofs.Ytbddelefglhaaaa
namespace Go.Proofs.Ytbddelefglhaaaa
set_option linter.unusedVariables false
set_option linter.unusedSimpArgs false
set_option linter.unusedSectionVars false
open Go.RowKit
attribute [local go_sem ↓] Go.wp_at_zero Go.wp_at_succ
/-- A clean device without fences and without a fuse. -/
structure Neat (D : Dev) (I : Img) : Prop where
  clean : Clean D I
  fen : D.fen = fun _ => 0
  fuse : D.fuse = none
theorem Neat.calm {D : Dev} {I : Img} (h : Neat D I) {sy : Int} (hs : 1 ≤ sy ∧ sy ≤ 4) : Calm D sy 0 := ⟨h.clean.ok, h.clean.live, by unfold plainW; exact decide_eq_true ⟨hs.1, hs.2, by omega, by omega⟩, by rw [h.fen]; show ¬ (0 : Int) < 0; omega⟩
theorem Neat.len {D : Dev} {I : Img} (h : Neat D I) : 132 ≤ D.st.length ∧ D.st.length ≤ 1155 := by
  have := h.clean.len
  have := h.clean.img.n0
  have := h.clean.img.n1
  omega
theorem BegunR.neat {w w' : World} {x n : Nat} {E : Dev} (h : BegunR w x n E w') : Neat E (img0 n) := ⟨h.clean, h.fen, h.fuse⟩
/-- The store behind a commit, refused or not. -/
def nextC (I : Img) (ws : List (Int × ByteArray)) : Img := if checkP I.n ws = 0 then I.next ws else I
theorem nextC_n (I : Img) (ws : List (Int × ByteArray)) : (nextC I ws).n = I.n := by unfold nextC; split; exact next_n I ws; rfl
theorem commitP_is {D : Dev} {I : Img} {sy ep : Int} (h : Clean D I) (ws : List (Int × ByteArray)) (hr : I.N + 1 < 4294967295) (h0 : checkP I.n ws = 0) (hne : ws ≠ []) :
    commitP D sy ep ws = runS sy ep (commitS (entG D (sortW I.n ws) (nv (I.N + 1))) (nv (I.N + 1))) D ∧ (topI D).ok = true ∧ (∀ k ∈ ksW (sortW I.n ws), okMap D k) ∧ (topI D).ver + 1#32 = nv (I.N + 1) ∧ (topI D).ver ≠ 4294967295#32 := by
  have hn : D.st.length - 131 = I.n := by rw [h.len]; omega
  have hfin := finD_clean h sy ep
  have hv : (topI D).ver ≠ 4294967295#32 := by
    rw [h.topI]
    intro hq
    have := congrArg BitVec.toNat hq
    rw [show (Raw.mk (vbytes I.tops) (nv I.N) true).ver = nv I.N from rfl, nv_toNat _ (by omega)] at this
    simp at this
    omega
  have hv1 : (topI D).ver + 1#32 = nv (I.N + 1) := by rw [h.topI]; exact nv_succ I.N
  have hm : ∀ k ∈ ksW (sortW I.n ws), okMap D k := fun k hk => by
    have hk32 := ((ksW_mem _ k).1 hk).1
    unfold okMap
    rw [h.topI, h.mapI k hk32]
    refine ⟨rfl, rfl, ?_⟩
    show nv (I.ms k) = fld (vbytes I.tops) k
    unfold Img.tops
    rw [fld32 _ _ hk32]
  refine ⟨?_, by rw [h.topI], hm, hv1, hv⟩
  unfold commitP
  rw [hfin, hn, if_neg (by simp), if_neg (by simp [h0, hne]), hv1, if_neg (by rw [h.topI]; simp), if_neg (by rw [mapsE_ok h.toHolds _ (fun k hk => ((ksW_mem _ k).1 hk).1)]; simp), if_neg hv]
section
variable {w0 : World} {x s m : Nat} {sy : Int} {D : Dev} {I : Img} {out : Nat → Prop} {W : World}
theorem commitG_any {ep : Int} (h : Held w0 x s m sy ep D out W) (hcl : Clean D I) (hcm : Calm D sy ep) (hfu : D.fuse = none) (hN : I.N < 1000) (ws : List (Int × ByteArray)) (hl : ws.length ≤ 1000000) (hok : ∀ e ∈ ws, okI e.1) (A : Option Addr) (c : Nat) (hat : ListAt W W.heap.size 2 A (ws.map entC)) (hA : ws ≠ [] → AsideL w0 out A) :
    Calls Try.prog 19 #[ptrV s, .slice A ws.length c] W fun e w' => e = .returned (.int .i64 (checkP I.n ws)) ∧ ∃ D', Done w0 x s m sy ep D' out W w' ∧ Clean D' (nextC I ws) ∧ D'.fen = D.fen ∧ D'.fuse = none ∧ D' = (commitP D sy ep ws).1 := by
  have hlen : 132 ≤ D.st.length ∧ D.st.length ≤ 1155 := by have := hcl.len; have := hcl.img.n0; have := hcl.img.n1; omega
  have hnn : D.st.length - 131 = I.n := by rw [hcl.len]; omega
  have hp : D.pend.length ≤ 800000 := by rw [hcl.pend]; simp
  have hfin := finD_clean hcl sy ep
  by_cases hno : checkP I.n ws ≠ 0 ∨ ws = []
  · refine (commit_none h hlen hp D false hfin ws hl hok A c hat hA (by rw [hnn]; exact hno)).mono ?_
    rintro e w' ⟨rfl, hd⟩
    rw [hnn]
    refine ⟨rfl, D, hd, ?_, rfl, hfu, ?_⟩
    · have : nextC I ws = I := by
        unfold nextC
        split
        · rename_i h0
          unfold Img.next
          rw [if_pos (hno.elim (fun h9 => absurd h0 h9) id)]
        · rfl
      rw [this]
      exact hcl
    · rw [(commitP_clean hcl hcm hfu ws (by omega)).1 hno]
  · have h0 : checkP I.n ws = 0 := Decidable.not_not.1 (fun h9 => hno (.inl h9))
    have hne : ws ≠ [] := fun h9 => hno (.inr h9)
    obtain ⟨q1, q2, q3, q4, q5⟩ := commitP_is (sy := sy) (ep := ep) hcl ws (by omega) h0 hne
    obtain ⟨E, r1, r2, r3, r4⟩ := (commitP_clean hcl hcm hfu ws (by omega)).2 h0 hne
    refine (commit_any h hlen hp D false hfin I.n hnn ws hok A c hat (hA hne) h0 hne q2 _ rfl q3 _ q4 q5).mono ?_
    rintro e w' ⟨rfl, hd⟩
    rw [← q1, r1] at hd ⊢
    refine ⟨by rw [h0], E, hd, ?_, r3, r4, rfl⟩
    have : nextC I ws = I.upd (sortW I.n ws) := by
      unfold nextC Img.next
      rw [if_pos h0, if_neg hne]
    rw [this]
    exact r2
theorem commitC_any (h : Held w0 x s m sy 0 D out W) (hs : 1 ≤ sy ∧ sy ≤ 4) (hn : Neat D I) (hN : I.N < 1000) (ws : List (Int × ByteArray)) (hl : ws.length ≤ 1000000) (hok : ∀ e ∈ ws, okI e.1) (A : Option Addr) (c : Nat) (hat : ListAt W W.heap.size 2 A (ws.map entC)) (hA : ws ≠ [] → AsideL w0 out A) :
    Calls Try.prog 19 #[ptrV s, .slice A ws.length c] W fun e w' => e = .returned (.int .i64 (checkP I.n ws)) ∧ ∃ D', Done w0 x s m sy 0 D' out W w' ∧ Neat D' (nextC I ws) ∧ D' = (commitP D sy 0 ws).1 := by
  refine (commitG_any h hn.clean (hn.calm hs) hn.fuse hN ws hl hok A c hat hA).mono ?_
  rintro e w' ⟨he, D', h1, h2, h3, h4, h5⟩
  exact ⟨he, D', h1, ⟨h2, h3.trans hn.fen, h4⟩, h5⟩
theorem numberC_any (h : Held w0 x s m sy 0 D out W) (hn : Neat D I) (hN : I.N < 1000) : Calls Try.prog 20 #[ptrV s] W fun e w' => e = .returned (.tuple #[.int .i64 (I.N : Int), .int .i64 0]) ∧ Done w0 x s m sy 0 D out W w' := by
  have := number_any' h hn.len.1 (by rw [hn.clean.pend]; simp) D (I.N : Int) 0 (by rw [numberP_clean hn.clean]; unfold u32; rw [nv_toNat _ (by omega)])
  exact this
theorem readC_any (h : Held w0 x s m sy 0 D out W) (hn : Neat D I) (i : Nat) (hi : i < I.n) : Calls Try.prog 34 #[ptrV s, .int .i64 (i : Int)] W fun e w' => e = .returned (.tuple #[.string (I.cs i), .int .i64 0]) ∧ Done w0 x s m sy 0 D out W w' := by
  have hl := hn.clean.img.n1
  exact readS_any h hn.len (by rw [hn.clean.pend]; simp) (i : Int) (by unfold okI; omega) D (I.cs i) 0 (readP_clean hn.clean sy 0 hn.clean.len i hi)
end
section
variable {w0 : World} {x : Nat} {D : Dev} {I : Img} {out : Nat → Prop} {W : World}
theorem openC_any (h : Live w0 x D out W) (hn : Neat D I) (k : Nat) (hk : k < 256) :
    Calls Try.prog 17 #[ptrV x, .int .u8 (k : Int)] W fun e w' => ∃ s m, e = .returned (.tuple #[ptrV s, .bool true]) ∧ Held w0 x s m (sysL k) 0 D (fun q => out q ∨ q = s ∨ q = m) w' ∧ (W.heap.size ≤ s ∧ W.heap.size ≤ m) ∧ Beside w0 out W w' := by
  have hs := sysL_bd k
  have hf : fitsP D (sysL k) 0 = true := by
    have := hn.len
    unfold fitsP plainW
    rw [decide_eq_true this, decide_eq_true ⟨hs.1, hs.2, by omega, by omega⟩]
    rfl
  have h0 := h.base.size
  refine (openL_any h hn.len (by rw [hn.clean.pend]; simp) k hk D (openP_clean hn.clean _ _ hf)).mono ?_
  rintro e w' ⟨s, m, rfl, hl, hst, hsz, hb⟩
  exact ⟨s, m, rfl, ⟨hl, hst, .inr (.inl rfl), .inr (.inr rfl), by omega⟩, hsz, hb⟩
end
end Go.Proofs.Ytbddelefglhaaaa
namespace Go.Proofs.Ytbddelefglhaaaa
set_option linter.unusedVariables false
set_option linter.unusedSimpArgs false
set_option linter.unusedSectionVars false
open Go.RowKit
attribute [local go_sem ↓] Go.wp_at_zero Go.wp_at_succ
def twoT : ByteArray := ⟨#[116, 119, 111]⟩
def fiveT : ByteArray := ⟨#[102, 105, 118, 101]⟩
def awWs : List (Int × ByteArray) := [(2, dataS twoT), (5, dataS fiveT)]
theorem dataS_data (d : ByteArray) : dataS (dataS d) = dataS d := dataS_full _ (dataS_size d)
theorem aw_check : checkP 8 awWs = 0 := by
  unfold checkP awWs
  rw [if_neg, if_neg, if_neg]
  · simp
  · simp
  · simp [dataS_size]
theorem aw_sort : sortW 8 awWs = [(2, dataS twoT), (5, dataS fiveT)] := by rfl
/-- What the example's commit leaves. -/
theorem aw_facts {D : Dev} (h : Neat D (img0 8)) : readD (commitP D 1 0 awWs).1 136 = (packS fiveT (nv 2) 136, 0) ∧ readD (commitP D 1 0 awWs).1 37 = (packS fiveT (nv 2) 136, 0) ∧ (nextC (img0 8) awWs).N = 2 ∧ (nextC (img0 8) awWs).n = 8 ∧ (nextC (img0 8) awWs).cs 5 = dataS fiveT := by
  have hck : checkP (img0 8).n awWs = 0 := aw_check
  have hnx : nextC (img0 8) awWs = (img0 8).upd [(2, dataS twoT), (5, dataS fiveT)] := by
    unfold nextC Img.next
    rw [if_pos hck, if_neg (by simp [awWs])]
    show (img0 8).upd (sortW 8 awWs) = _
    rw [aw_sort]
  have ht : Takes (img0 8) [(2, dataS twoT), (5, dataS fiveT)] := by
    have := takes_of (img0 8) awWs hck (by simp [awWs]) (by show 1 + 1 < _; omega)
    rwa [show sortW (img0 8).n awWs = [(2, dataS twoT), (5, dataS fiveT)] from aw_sort] at this
  obtain ⟨q1, _⟩ := commitP_is (sy := 1) (ep := 0) h.clean awWs (by show 1 + 1 < _; omega) hck (by simp [awWs])
  rw [show sortW (img0 8).n awWs = [(2, dataS twoT), (5, dataS fiveT)] from aw_sort, entG_is h.clean.toHolds ht] at q1
  obtain ⟨r1, r2, _⟩ := commit_clean h.clean ht (h.calm (sy := 1) (by omega)) h.fuse
  rw [q1]
  have he := entL_ok h.clean.img ht
  rw [← h.clean.len] at he
  have h37 := ph4_at (v := nv ((img0 8).N + 1)) h.clean.ok he 37
  rw [if_neg (by omega), ph3_at h.clean.ok he, ph2_at h.clean.ok he, if_neg (by omega), ph1_at he] at h37
  rw [lastE_none _ 37 (fun e he9 hq => by rcases he.place e he9 with h9 | h9 <;> omega)] at h37
  rw [r1]
  obtain ⟨F, hF⟩ : ∃ F, ph4 D (entL ((img0 8).upd [(2, dataS twoT), (5, dataS fiveT)]) [(2, dataS twoT), (5, dataS fiveT)]) (nv ((img0 8).N + 1)) = F := ⟨_, rfl⟩
  rw [hF] at r2 h37 ⊢
  have hlen : F.st.length = 139 := r2.len
  have hrd : ∀ i : Nat, i < 139 → readD F (i : Int) = (F.at i, 0) := fun i hi => by
    unfold readD
    rw [if_neg (by unfold thereD; simp; omega), if_neg (by rw [r2.live]; simp), Int.toNat_natCast, r2.content]
  have hd5 : ((img0 8).upd [(2, dataS twoT), (5, dataS fiveT)]).datR 5 = packS fiveT (nv 2) 136 := by
    unfold Img.datR
    exact pack_data (dataS_data fiveT) _ _
  have h136 := r2.dat 5 (by show 5 < 8; omega)
  rw [hd5] at h136
  refine ⟨(hrd 136 (by omega)).trans (by rw [h136]), (hrd 37 (by omega)).trans ?_, by rw [hnx]; rfl, by rw [hnx]; rfl, by rw [hnx]; rfl⟩
  rw [h37, ← hd5]
  rfl
theorem list_blk {w : World} {g t sz : Nat} {rows : List (List Value)} {cs : Array Value} (h : Blk w g t cs) (hc : cs = rows.flatten.toArray) (hr : ∀ r ∈ rows, r.length = sz) : ListAt w w.heap.size sz (some ⟨g, 0, none⟩) rows := fun _ => ⟨g, 0, rfl, h.lt, fun j cs' hj i u hi => by
  subst hc
  rw [h.cell, Nat.zero_add, List.getElem?_toArray]
  exact flatten_at hr j i cs' u hj hi⟩
set_option maxRecDepth 100000 in
set_option maxHeartbeats 8000000 in
theorem awake4_any (w : World) : Calls Try.prog 10 #[] w fun e w' => e = .returned (.bool true) ∧ Grew w w' := by
  have HRP := Lib.hid (fun (W : World) => rpack_any fiveT (nv 2) 136 W (by decide) (by unfold okI; omega))
  rw [show u32 (nv 2) = 2 from by decide] at HRP
  have hself : ((dataS fiveT).toList == (dataS fiveT).toList) = true := beq_self_eq_true _
  have hself2 : ((packS fiveT (nv 2) 136).toList == (packS fiveT (nv 2) 136).toList) = true := beq_self_eq_true _
  go_enter Try.func10, Try.ntmps10
  go_wp2_with fail
  refine (beginL_any 7 (by omega) w).mono ?_
  rintro e w1 ⟨x, E, rfl, hbg⟩
  have HN := Lib.hid hbg.neat
  have HL := Lib.hid hbg.live
  clear hbg
  go_wp2_with fail
  refine (openC_any HL.out HN.out 0 (by omega)).mono ?_
  rintro e w2 ⟨s, m, rfl, hh, hsz, hb⟩
  rw [show sysL 0 = 1 from rfl] at hh
  have HH := Lib.hid hh
  have HSE := Lib.hid (sectors_any' hh)
  rw [show (E.st.length : Int) - 131 = 8 from by have := HN.out.clean.len; show _ = _; rw [this]; rfl] at HSE
  clear hh hsz hb
  go_wp2_with fail
  refine HSE.out.mono ?_
  rintro e w3 ⟨rfl, g3⟩
  have HH3 := Lib.hid (HH.out.grew g3)
  have HNU := Lib.hid (numberC_any HH3.out HN.out (by show 1 < 1000; omega))
  rw [show (((img0 (1 + 7 % 40)).N : Nat) : Int) = 1 from rfl] at HNU
  clear g3
  go_wp2_with fail
  refine HNU.out.mono ?_
  rintro e w4 ⟨rfl, hd4⟩
  have HH4 := Lib.hid (HH3.out.done hd4)
  clear hd4
  go_wp2_with fail
  refine (data_any twoT w4 (by decide)).mono ?_
  rintro e w5 ⟨rfl, rfl⟩
  go_wp2_with fail
  refine (data_any fiveT w4 (by decide)).mono ?_
  rintro e w5 ⟨rfl, rfl⟩
  go_wp2_with fail
  have hg5 : Grew w4 (w4.alloc (.cells #[.int .i64 2, .string (dataS twoT), .int .i64 5, .string (dataS fiveT)] 72)) := (Grew.refl w4).alloc _
  have hb5 : Blk (w4.alloc (.cells #[.int .i64 2, .string (dataS twoT), .int .i64 5, .string (dataS fiveT)] 72)) w4.heap.size 72 #[.int .i64 2, .string (dataS twoT), .int .i64 5, .string (dataS fiveT)] := Blk.new w4 _ _ rfl
  have hh5 := HH4.out.also_new (v := .slice (some ⟨w4.heap.size, 0, none⟩) 2 2) hg5 own_lit
  have hl5 := list_blk (sz := 2) (rows := awWs.map entC) hb5 rfl (by simp [awWs, entC])
  have HCM := Lib.hid (commitC_any hh5 (by omega) HN.out (by show 1 < 1000; omega) awWs (by simp [awWs]) (by unfold okI; simp [awWs]) (some ⟨w4.heap.size, 0, none⟩) 2 hl5 (fun _ b off e => .inr (.inr (by injection e with e; injection e with e _ _; subst e; rfl))))
  rw [show checkP (img0 (1 + 7 % 40)).n awWs = 0 from aw_check] at HCM
  have HH5 := Lib.hid hh5
  clear hg5 hb5 hh5 hl5
  refine HCM.out.mono ?_
  rintro e w6 ⟨rfl, D', hd6, hn6, hD6⟩
  obtain ⟨f1, f2, f3, f4, f5⟩ := aw_facts HN.out
  rw [← hD6] at f1 f2
  have HH6 := Lib.hid (HH5.out.done hd6)
  have HN6 := Lib.hid hn6
  have HNU2 := Lib.hid (numberC_any HH6.out hn6 (by show (nextC (img0 8) awWs).N < 1000; rw [f3]; omega))
  rw [show (((nextC (img0 (1 + 7 % 40)) awWs).N : Nat) : Int) = 2 from by show (((nextC (img0 8) awWs).N : Nat) : Int) = 2; rw [f3]; rfl] at HNU2
  have HF := Lib.hid (And.intro f1 f2)
  have HF5 := Lib.hid (And.intro f4 f5)
  clear hd6 hn6 hD6 f1 f2 f3 f4 f5
  go_wp2_with fail
  refine HNU2.out.mono ?_
  rintro e w7 ⟨rfl, hd7⟩
  have HH7 := Lib.hid (HH6.out.done hd7)
  have HRD := Lib.hid (readC_any HH7.out HN6.out 5 (by show 5 < (nextC (img0 8) awWs).n; rw [HF5.out.1]; omega))
  rw [show (nextC (img0 (1 + 7 % 40)) awWs).cs 5 = dataS fiveT from HF5.out.2, show ((5 : Nat) : Int) = 5 from rfl] at HRD
  clear hd7
  go_wp2_with fail
  refine HRD.out.mono ?_
  rintro e w8 ⟨rfl, hd8⟩
  have HH8 := Lib.hid (HH7.out.done hd8)
  clear hd8
  go_wp2_with fail
  refine (read_live HH8.out.live 136 _ _ HF.out.1).mono ?_
  rintro e w9 ⟨rfl, rfl⟩
  go_wp2_with fail
  refine (read_live HH8.out.live 37 _ _ HF.out.2).mono ?_
  rintro e w9 ⟨rfl, rfl⟩
  have HG8 := Lib.hid HH8.out.live.base
  go_wp2_with fail
  refine (data_any fiveT w8 (by decide)).mono ?_
  rintro e w9 ⟨rfl, rfl⟩
  go_wp2_with fail
  refine (HRP.out w8).mono ?_
  rintro e w9 ⟨rfl, g9⟩
  have HG9 := Lib.hid (HG8.out.trans g9)
  clear g9
  go_wp2_with fail
  go_ret
  exact ⟨rfl, HG9.out⟩
end Go.Proofs.Ytbddelefglhaaaa
