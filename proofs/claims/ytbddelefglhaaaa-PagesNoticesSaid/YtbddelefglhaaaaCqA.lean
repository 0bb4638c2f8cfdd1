/- Chapter 3, plain: a device. Chapter 3: a device in memory. Chapter 3: Damage, Return. Chapters 2 and 4, plain: a changed byte is noticed. Chapter 4, plain: what the raw sectors of a store say. Chapter 3: a device in a law. Chapter 4's laws: lists of lists of writes; a device is filled. -/
import Derived.Lib.Hide
import Derived.Test.YtbddelefglhaaaaRows
import Derived.WalkKit
import Derived.Laws.Tables
import Derived.Deep.QuietTactic
import Derived.WalkSpells
import Derived.WalkLawsBesides
import Derived.Handy
import Derived.Deep.LoopGhost
import Derived.BigQuiet
import Derived.Deep.DeepCutAuto
import Derived.Laws.EntriesVeiled
import Derived.Maps.Own
import Derived.Maps.OwnSet
import Derived.Maps.RangeWalk
import Derived.Laws.CopyRow
import Derived.Laws.AppendOwn
import Derived.Laws.OwnMore
import Derived.ProofKit
import Derived.OpenShut
import Derived.Deep.Slices
import Derived.Deep.Fields
import Derived.ChangeSame
import Derived.Deep.AppendLies
import Derived.Deep.RegionHeld3
import Derived.Maps.AppendAt
import Derived.OwnWalk
import Derived.OrdersHeld
import Derived.Deep.DrawnRows
import Derived.Laws.Rows
import Derived.Deep.MidRow
import Derived.Laws.IdiomStrings
import Derived.Carry
import Derived.StillTailTactics
import Derived.Shelf.SlSortCmp.NoneTotal
import Derived.Shelf.SlSortCmp.WholeK
import Derived.Test.YtbddelefglhaaaaCpA
import Derived.Test.YtbddelefglhaaaaCpB
import Derived.Test.YtbddelefglhaaaaCpC
import Derived.Test.YtbddelefglhaaaaCpD
import Derived.Test.YtbddelefglhaaaaCpE
import Derived.Test.YtbddelefglhaaaaCpF
import Derived.Test.YtbddelefglhaaaaCpG
import Derived.Test.YtbddelefglhaaaaCpH
import Derived.Test.YtbddelefglhaaaaCpI
import Derived.Test.YtbddelefglhaaaaCpJ
import Derived.Test.YtbddelefglhaaaaCpK
import Derived.Test.YtbddelefglhaaaaCpL
namespace Go.Proofs.Ytbddelefglhaaaa
set_option linter.unusedVariables false
set_option linter.unusedSimpArgs false
set_option linter.unusedSectionVars false
open Go.RowKit
def xorB (s : ByteArray) (i : Nat) (m : UInt8) : ByteArray := ⟨s.data.modify i (fun b => b ^^^ m)⟩
def damageD (D : Dev) (sec i : Int) (m : UInt8) : Dev × Int :=
  if thereD D sec = false ∨ i < 0 ∨ 140 ≤ i then (D, 2) else if m = 0 then (D, 1) else ({ D with st := D.st.set sec.toNat (xorB (D.at sec.toNat) i.toNat m) }, 0)
def earlierD (D : Dev) (i : Int) : Nat := if thereD D i then (D.olds i.toNat).length else 0
def returnD (D : Dev) (sec back : Int) : Dev × Int :=
  if thereD D sec = false ∨ back < 1 ∨ (D.olds sec.toNat).length < back then (D, 2) else ({ D with st := D.st.set sec.toNat ((D.olds sec.toNat).getD (back.toNat - 1) emp) }, 0)
end Go.Proofs.Ytbddelefglhaaaa
namespace Go.Proofs.Ytbddelefglhaaaa
set_option linter.unusedVariables false
set_option linter.unusedSimpArgs false
set_option linter.unusedSectionVars false
open Go.RowKit
open Go.Maps (Keyed)
section
variable {w w' : World} {q : DevP} {D : Dev}
end
section
variable {w : World} {q : DevP} {D : Dev} (h : DevM w q D)
include h
set_option maxRecDepth 100000 in
set_option maxHeartbeats 1000000 in
theorem old_any (i : Int) : Calls Try.prog 66 #[.pointer (some ⟨q.x, 0, none⟩), .int .i64 i] w fun e w' => e = .returned (.int .i64 (earlierD D i : Int)) ∧ w = w' := by
  have HT := Lib.hid (fun b hb => there_any h i b hb)
  cases hb : thereD D i with
  | false =>
    have HE := Lib.hid (show earlierD D i = 0 from by unfold earlierD; rw [hb]; rfl)
    have HB := Lib.hid hb
    clear hb h
    go_enter Try.func66, Try.ntmps66
    go_wp2_with fail
    refine (HT.out false HB.out).mono ?_
    rintro e w1 ⟨rfl, rfl⟩
    go_wp2_with fail
    go_ret
    exact ⟨ret_int (by rw [HE.out]; rfl), rfl⟩
  | true =>
    have HB := Lib.hid hb
    have h0 := of_decide_eq_true hb
    obtain ⟨k, rfl⟩ : ∃ k : Nat, i = (k : Int) := ⟨i.toNat, by omega⟩
    have HE := Lib.hid (show earlierD D (k : Int) = (D.olds k).length from by unfold earlierD; rw [hb]; rfl)
    obtain ⟨g, cap, hv, hg, h1, h2, h3⟩ := h.old_form
    have hkl : k < D.st.length := by omega
    obtain ⟨v, hv1, hown, _⟩ := h.old_at hkl
    have y0 := h.old_cell hv hv1
    have hk := h.blk
    rw [hv] at hk
    have hxl := hk.lt
    have x0 := hk.cell 1
    have hol := olds_len h.ok k
    clear hb h hv hv1
    rcases hown.form with ⟨rfl, he⟩ | ⟨g2, cap2, rfl, _, hlt2, h12, h22⟩
    · have HZ := Lib.hid (show (D.olds k).length = 0 from by have := congrArg List.length he; simpa using this)
      clear he hown
      go_enter Try.func66, Try.ntmps66
      go_wp2_with fail
      refine (HT.out true HB.out).mono ?_
      rintro e w1 ⟨rfl, rfl⟩
      go_wp2_with fail
      go_ret
      exact ⟨ret_int (by rw [HE.out, HZ.out]; rfl), rfl⟩
    · rw [List.length_map] at y0 h12
      clear hown
      go_enter Try.func66, Try.ntmps66
      go_wp2_with fail
      refine (HT.out true HB.out).mono ?_
      rintro e w1 ⟨rfl, rfl⟩
      go_wp2_with fail
      go_ret
      exact ⟨ret_int (by rw [HE.out]), rfl⟩
end
end Go.Proofs.Ytbddelefglhaaaa
namespace Go.Proofs.Ytbddelefglhaaaa
set_option linter.unusedVariables false
set_option linter.unusedSimpArgs false
set_option linter.unusedSectionVars false
open Go.RowKit
open Go.Maps (Keyed)
attribute [local go_sem ↓] Go.wp_at_zero Go.wp_at_succ
theorem xor8 (a m : UInt8) : bits BinOp.xor IntKind.u8 (a.toNat : Int) (m.toNat : Int) = ((a.toNat ^^^ m.toNat : Nat) : Int) := by
  have e : ∀ x : UInt8, BitVec.ofInt 8 (x.toNat : Int) = x.toBitVec := fun x => BitVec.eq_of_toNat_eq (by
    rw [BitVec.ofInt_natCast, BitVec.toNat_ofNat]
    exact Nat.mod_eq_of_lt x.toNat_lt)
  rw [← UInt8.toNat_xor]
  show IntKind.u8.wrap (((BitVec.ofInt 8 (a.toNat : Int)) ^^^ (BitVec.ofInt 8 (m.toNat : Int))).toNat : Int) = _
  rw [e, e]
  show IntKind.u8.wrap ((a ^^^ m).toNat : Int) = _
  have := (a ^^^ m).toNat_lt
  generalize (a ^^^ m).toNat = n at *
  simp only [IntKind.wrap, IntKind.signed, IntKind.bits]
  simp
  omega
theorem xorB_size (s : ByteArray) (i : Nat) (m : UInt8) : (xorB s i m).size = s.size := by
  unfold xorB
  exact Array.size_modify ..
/-- The bytes of a string, in memory. -/
theorem bytes_open (w : World) (s : ByteArray) : ∃ wb cap, (convert 9 75 (.string s)).run Try.prog w = .ok (.slice (some ⟨w.heap.size, 0, none⟩) s.size cap) wb ∧ Grew w wb ∧ wb.heap.size = w.heap.size + 1 ∧
    (∀ j (hj : j < s.size), wb.cell? ⟨w.heap.size, j, none⟩ = some (.int .u8 (s[j].toNat : Int))) ∧ (∀ j, j < s.size → wb.frozen? ⟨w.heap.size, j, none⟩ = false) := by
  refine ⟨_, _, run_bytes_of_string (P := Try.prog) w 9 75 5 s Try.underlying9 Try.underlying75 Try.underlying5, ((Grew.refl w).drew.alloc _), by simp, fun j hj => ?_, fun j hj => ?_⟩
  · show (w.drew.alloc _).cell? ⟨w.drew.heap.size, j, none⟩ = _
    rw [cell_of_row _ w.drew.heap.size j _ _ _ (heap_alloc_new w.drew _), bytesRow_at s _ j hj]
    rfl
  · show (w.drew.alloc _).frozen? ⟨w.drew.heap.size, j, none⟩ = _
    rw [World.frozen?_alloc_mark]
    have : (bytesRow s (grownCap w s.size 0 5)).size ≥ s.size := by
      unfold bytesRow
      rw [Array.size_append, Array.size_map]
      show s.data.size + _ ≥ s.data.size
      omega
    rw [decide_eq_false (by omega)]; rfl
section
variable {w : World} {q : DevP} {D : Dev} (h : DevM w q D)
include h
set_option maxRecDepth 100000 in
set_option maxHeartbeats 4000000 in
theorem return_any (sec back : Int) (hs : okI sec) (hb : okI back) : Calls Try.prog 67 #[.pointer (some ⟨q.x, 0, none⟩), .int .i64 sec, .int .i64 back] w fun er w' => er = .returned (.int .i64 (returnD D sec back).2) ∧ Did w w' q (returnD D sec back).1 := by
  have HH := Lib.hid h
  unfold okI at hs hb
  cases ht : thereD D sec with
  | false =>
    have HV := Lib.hid (show returnD D sec back = (D, 2) from by unfold returnD; rw [if_pos (.inl ht)])
    have HT := Lib.hid (there_any h sec false ht)
    clear h ht
    go_enter Try.func67, Try.ntmps67
    go_wp2_with fail
    refine HT.out.mono ?_
    rintro er w1 ⟨rfl, rfl⟩
    go_wp2_with fail
    go_ret
    rw [HV.out]
    exact ⟨rfl, Did.same HH.out (Grew.refl _)⟩
  | true =>
    have h0 := of_decide_eq_true ht
    obtain ⟨k, rfl⟩ : ∃ k : Nat, sec = (k : Int) := ⟨sec.toNat, by omega⟩
    have HT := Lib.hid (there_any h k true ht)
    have hkl : k < D.st.length := by omega
    by_cases hb1 : back < 1
    · have HV := Lib.hid (show returnD D k back = (D, 2) from by unfold returnD; rw [if_pos (.inr (.inl hb1))])
      clear h ht
      go_enter Try.func67, Try.ntmps67
      go_wp2_with fail
      refine HT.out.mono ?_
      rintro er w1 ⟨rfl, rfl⟩
      go_wp2_with fail
      go_ret
      rw [HV.out]
      exact ⟨rfl, Did.same HH.out (Grew.refl _)⟩
    · obtain ⟨g, cap, hv, hg, h1, h2, h3⟩ := h.old_form
      obtain ⟨gs, cs, hvs, hgs, hs1, hs2, hs3⟩ := h.st_form
      obtain ⟨v, hv1, hown, _⟩ := h.old_at hkl
      have y0 := h.old_cell hv hv1
      have hk := h.blk
      rw [hv, hvs] at hk
      have hxl := hk.lt
      have x1 := hk.cell 1
      have x0 := hk.cell 0
      have hol := olds_len h.ok k
      obtain ⟨A, c, rfl, hc1, hc2, hl⟩ := hown.listAt
      rw [strC_len] at y0 hc1
      have HL := Lib.hid hl
      by_cases hb2 : ((D.olds k).length : Int) < back
      · have HV := Lib.hid (show returnD D k back = (D, 2) from by unfold returnD; rw [if_pos (.inr (.inr (by rw [Int.toNat_natCast]; exact hb2)))])
        clear h ht hv hvs hv1 hk hl hown
        go_enter Try.func67, Try.ntmps67
        go_wp2_with fail
        refine HT.out.mono ?_
        rintro er w1 ⟨rfl, rfl⟩
        go_wp2_with fail
        go_ret
        rw [HV.out]
        exact ⟨rfl, Did.same HH.out (Grew.refl _)⟩
      · obtain ⟨j, rfl⟩ : ∃ j : Nat, back = (j : Int) + 1 := ⟨back.toNat - 1, by omega⟩
        have hjl : j < (D.olds k).length := by omega
        have HV := Lib.hid (show returnD D k ((j : Int) + 1) = ({ D with st := D.st.set k (D.olds k)[j] }, 0) from by
          unfold returnD
          rw [if_neg (by rw [ht, Int.toNat_natCast]; simp; omega), Int.toNat_natCast, show ((j : Int) + 1).toNat - 1 = j by omega, List.getD_eq_getElem?_getD, List.getElem?_eq_getElem hjl]; rfl)
        obtain ⟨bo, off, rfl, hbo, hcc⟩ := hl (by rw [strC_len]; omega)
        have z0 : w.cell? ⟨bo, off + j, none⟩ = some (.string (D.olds k)[j]) := by
          have := hcc j (strC (D.olds k)[j]) (by rw [List.getElem?_map, List.getElem?_eq_getElem hjl]; rfl) 0 _ rfl
          rwa [Nat.mul_one, Nat.add_zero] at this
        have HSZ := Lib.hid (olds_size h.ok k _ (List.getElem_mem hjl))
        have HVS := Lib.hid hvs
        have y1 := h.st_cell hvs hkl
        have hst := h.st
        rw [hvs] at hst
        have f1 := hst.frozen k
        generalize (D.olds k)[j] = u at *
        generalize (D.olds k).length = ln at *
        generalize D.at k = atk at *
        have hw1 : (j : Int) + 1 - 1 = (j : Int) := by omega
        have hwr : IntKind.i64.wrap (j : Int) = (j : Int) := by rw [IntKind.wrap_i64]; omega
        have hS := (show (fun w' : World => w'.cell? ⟨q.x, 0, none⟩ = some (.slice (some ⟨gs, 0, none⟩) D.st.length cs) ∧ w'.cell? ⟨q.x, 1, none⟩ = some (.slice (some ⟨g, 0, none⟩) D.st.length cap) ∧ w'.cell? ⟨g, k, none⟩ = some (.slice (some ⟨bo, off, none⟩) ln c) ∧ w'.cell? ⟨bo, off + j, none⟩ = some (.string u)) w.drew from ⟨x0, x1, y0, z0⟩)
        clear h ht hv hvs hv1 hk hl hown hcc hst HL
        go_enter Try.func67, Try.ntmps67
        go_wp2_with fail
        refine HT.out.mono ?_
        rintro er w1 ⟨rfl, rfl⟩
        go_wp2_with fail
        refine wp_region_R [17] (fun w' : World => w'.cell? ⟨q.x, 0, none⟩ = some (.slice (some ⟨gs, 0, none⟩) D.st.length cs) ∧ w'.cell? ⟨q.x, 1, none⟩ = some (.slice (some ⟨g, 0, none⟩) D.st.length cap) ∧ w'.cell? ⟨g, k, none⟩ = some (.slice (some ⟨bo, off, none⟩) ln c) ∧ w'.cell? ⟨bo, off + j, none⟩ = some (.string u)) (by kernel_rfl) ?_
        refine wpAnyR_takeQ (i := 0) (v := ?_) (some 27) rfl rfl (by kernel_rfl) (by kernel_rfl) (by kernel_rfl) (by kernel_rfl) (fun _ _ _ h => h) (Or.inl ⟨by rfl, ?_⟩) ?_
        rotate_left
        focus (intro wS hSw; (try dsimp only at hSw); go_simp; (try with_reducible rfl); (try (first | (rw [if_pos (by omega)]; (try go_simp); (try with_reducible rfl)) | (rw [if_neg (by omega)]; (try go_simp); (try with_reducible rfl)))))
        try simp only [Act.put, List.setIfInBounds_toArray, List.set_cons_zero, List.set_cons_succ]
        refine wpAnyR_take (i := 1) (v := ?_) [2, 3, 16, 17] (some 28) rfl rfl (by kernel_rfl) (by kernel_rfl) (by kernel_rfl) (by kernel_rfl) (by kernel_rfl) (by kernel_rfl) (by kernel_rfl) (fun _ _ _ h => h) (Or.inl ⟨by rfl, ?_⟩) hS ?_
        rotate_left
        focus (intro wS hSw; (try dsimp only at hSw); go_simp; (try with_reducible rfl); (try (first | (rw [if_pos (by omega)]; (try go_simp); (try with_reducible rfl)) | (rw [if_neg (by omega)]; (try go_simp); (try with_reducible rfl)))))
        try simp only [Act.put, List.setIfInBounds_toArray, List.set_cons_zero, List.set_cons_succ]
        refine wpAnyR_takeQ (i := 2) (v := ?_) (some 29) rfl rfl (by kernel_rfl) (by kernel_rfl) (by kernel_rfl) (by kernel_rfl) (fun _ _ _ h => h) (Or.inl ⟨by rfl, ?_⟩) ?_
        rotate_left
        focus (intro wS hSw; (try dsimp only at hSw); go_simp; (try with_reducible rfl); (try (first | (rw [if_pos (by omega)]; (try go_simp); (try with_reducible rfl)) | (rw [if_neg (by omega)]; (try go_simp); (try with_reducible rfl)))))
        try simp only [Act.put, List.setIfInBounds_toArray, List.set_cons_zero, List.set_cons_succ]
        refine wpAnyR_take (i := 3) (v := ?_) [16, 17] (some 30) rfl rfl (by kernel_rfl) (by kernel_rfl) (by kernel_rfl) (by kernel_rfl) (by kernel_rfl) (by kernel_rfl) (by kernel_rfl) (fun _ _ _ h => h) (Or.inl ⟨by rfl, ?_⟩) hS ?_
        rotate_left
        focus (intro wS hSw; (try dsimp only at hSw); go_simp; (try with_reducible rfl); (try (first | (rw [if_pos (by omega)]; (try go_simp); (try with_reducible rfl)) | (rw [if_neg (by omega)]; (try go_simp); (try with_reducible rfl)))))
        try simp only [Act.put, List.setIfInBounds_toArray, List.set_cons_zero, List.set_cons_succ]
        refine wpAnyR_takeQ (i := 4) (v := ?_) (some 31) rfl rfl (by kernel_rfl) (by kernel_rfl) (by kernel_rfl) (by kernel_rfl) (fun _ _ _ h => h) (Or.inl ⟨by rfl, ?_⟩) ?_
        rotate_left
        focus (intro wS hSw; (try dsimp only at hSw); go_simp; (try with_reducible rfl); (try (first | (rw [if_pos (by omega)]; (try go_simp); (try with_reducible rfl)) | (rw [if_neg (by omega)]; (try go_simp); (try with_reducible rfl)))))
        try simp only [Act.put, List.setIfInBounds_toArray, List.set_cons_zero, List.set_cons_succ]
        refine wpAnyR_takeQ (i := 5) (v := ?_) (some 32) rfl rfl (by kernel_rfl) (by kernel_rfl) (by kernel_rfl) (by kernel_rfl) (fun _ _ _ h => h) (Or.inl ⟨by rfl, ?_⟩) ?_
        rotate_left
        focus (intro wS hSw; (try dsimp only at hSw); go_simp; (try with_reducible rfl); (try (first | (rw [if_pos (by omega)]; (try go_simp); (try with_reducible rfl)) | (rw [if_neg (by omega)]; (try go_simp); (try with_reducible rfl)))))
        try simp only [Act.put, List.setIfInBounds_toArray, List.set_cons_zero, List.set_cons_succ]
        refine wpAnyR_take (i := 6) (v := ?_) [7, 8, 10, 11, 14, 15, 16, 17] (some 33) rfl rfl (by kernel_rfl) (by kernel_rfl) (by kernel_rfl) (by kernel_rfl) (by kernel_rfl) (by kernel_rfl) (by kernel_rfl) (fun _ _ _ h => h) (Or.inl ⟨by rfl, ?_⟩) hS ?_
        rotate_left
        focus (intro wS hSw; (try dsimp only at hSw); go_simp; (try with_reducible rfl); (try (first | (rw [if_pos (by omega)]; (try go_simp); (try with_reducible rfl)) | (rw [if_neg (by omega)]; (try go_simp); (try with_reducible rfl)))))
        try simp only [Act.put, List.setIfInBounds_toArray, List.set_cons_zero, List.set_cons_succ]
        refine wpAnyR_takeQ (i := 7) (v := ?_) (some 34) rfl rfl (by kernel_rfl) (by kernel_rfl) (by kernel_rfl) (by kernel_rfl) (fun _ _ _ h => h) (Or.inl ⟨by rfl, ?_⟩) ?_
        rotate_left
        focus (intro wS hSw; (try dsimp only at hSw); go_simp; (try with_reducible rfl); (try (first | (rw [if_pos (by omega)]; (try go_simp); (try with_reducible rfl)) | (rw [if_neg (by omega)]; (try go_simp); (try with_reducible rfl)))))
        try simp only [Act.put, List.setIfInBounds_toArray, List.set_cons_zero, List.set_cons_succ]
        refine wpAnyR_take (i := 8) (v := ?_) [10, 11, 14, 15, 16, 17] (some 35) rfl rfl (by kernel_rfl) (by kernel_rfl) (by kernel_rfl) (by kernel_rfl) (by kernel_rfl) (by kernel_rfl) (by kernel_rfl) (fun _ _ _ h => h) (Or.inl ⟨by rfl, ?_⟩) hS ?_
        rotate_left
        focus (intro wS hSw; (try dsimp only at hSw); go_simp; (try with_reducible rfl); (try (first | (rw [if_pos (by omega)]; (try go_simp); (try with_reducible rfl)) | (rw [if_neg (by omega)]; (try go_simp); (try with_reducible rfl)))))
        try simp only [Act.put, List.setIfInBounds_toArray, List.set_cons_zero, List.set_cons_succ]
        refine wpAnyR_takeQ (i := 9) (v := ?_) (some 36) rfl rfl (by kernel_rfl) (by kernel_rfl) (by kernel_rfl) (by kernel_rfl) (fun _ _ _ h => h) (Or.inl ⟨by rfl, ?_⟩) ?_
        rotate_left
        focus (intro wS hSw; (try dsimp only at hSw); go_simp; (try with_reducible rfl); (try (first | (rw [if_pos (by omega)]; (try go_simp); (try with_reducible rfl)) | (rw [if_neg (by omega)]; (try go_simp); (try with_reducible rfl)))))
        try simp only [Act.put, List.setIfInBounds_toArray, List.set_cons_zero, List.set_cons_succ]
        refine wpAnyR_takeQ (i := 10) (v := ?_) (some 37) rfl rfl (by kernel_rfl) (by kernel_rfl) (by kernel_rfl) (by kernel_rfl) (fun _ _ _ h => h) (Or.inl ⟨by rfl, ?_⟩) ?_
        rotate_left
        focus (intro wS hSw; (try dsimp only at hSw); go_simp; (try with_reducible rfl); (try (first | (rw [if_pos (by omega)]; (try go_simp); (try with_reducible rfl)) | (rw [if_neg (by omega)]; (try go_simp); (try with_reducible rfl)))))
        try simp only [Act.put, List.setIfInBounds_toArray, List.set_cons_zero, List.set_cons_succ]
        refine wpAnyR_take (i := 11) (v := ?_) [14, 15, 16, 17] (some 38) rfl rfl (by kernel_rfl) (by kernel_rfl) (by kernel_rfl) (by kernel_rfl) (by kernel_rfl) (by kernel_rfl) (by kernel_rfl) (fun _ _ _ h => h) (Or.inl ⟨by rfl, ?_⟩) hS ?_
        rotate_left
        focus (intro wS hSw; (try dsimp only at hSw); go_simp; (try with_reducible rfl); (try (first | (rw [if_pos (by omega)]; (try go_simp); (try with_reducible rfl)) | (rw [if_neg (by omega)]; (try go_simp); (try with_reducible rfl)))))
        try simp only [Act.put, List.setIfInBounds_toArray, List.set_cons_zero, List.set_cons_succ]
        refine wpAnyR_takeQ (i := 12) (v := ?_) (some 39) rfl rfl (by kernel_rfl) (by kernel_rfl) (by kernel_rfl) (by kernel_rfl) (fun _ _ _ h => h) (Or.inl ⟨by rfl, ?_⟩) ?_
        rotate_left
        focus (intro wS hSw; (try dsimp only at hSw); go_simp; (try with_reducible rfl); (try (first | (rw [if_pos (by omega)]; (try go_simp); (try with_reducible rfl)) | (rw [if_neg (by omega)]; (try go_simp); (try with_reducible rfl)))))
        try simp only [Act.put, List.setIfInBounds_toArray, List.set_cons_zero, List.set_cons_succ]
        refine wpAnyR_takeQ (i := 13) (v := ?_) (some 40) rfl rfl (by kernel_rfl) (by kernel_rfl) (by kernel_rfl) (by kernel_rfl) (fun _ _ _ h => h) (Or.inl ⟨by rfl, ?_⟩) ?_
        rotate_left
        focus (intro wS hSw; (try dsimp only at hSw); go_simp; (try with_reducible rfl); (try (first | (rw [if_pos (by omega)]; (try go_simp); (try with_reducible rfl)) | (rw [if_neg (by omega)]; (try go_simp); (try with_reducible rfl)))))
        try simp only [Act.put, List.setIfInBounds_toArray, List.set_cons_zero, List.set_cons_succ]
        refine wpAnyR_takeQ (i := 14) (v := ?_) (some 41) rfl rfl (by kernel_rfl) (by kernel_rfl) (by kernel_rfl) (by kernel_rfl) (fun _ _ _ h => h) (Or.inl ⟨by rfl, ?_⟩) ?_
        rotate_left
        focus (intro wS hSw; (try dsimp only at hSw); go_simp; (try with_reducible rfl); (try (first | (rw [if_pos (by omega)]; (try go_simp); (try with_reducible rfl)) | (rw [if_neg (by omega)]; (try go_simp); (try with_reducible rfl)))))
        try simp only [Act.put, List.setIfInBounds_toArray, List.set_cons_zero, List.set_cons_succ]
        refine wpAnyR_take (i := 15) (v := ?_) [16, 17] (some 42) rfl rfl (by kernel_rfl) (by kernel_rfl) (by kernel_rfl) (by kernel_rfl) (by kernel_rfl) (by kernel_rfl) (by kernel_rfl) (fun _ _ _ h => h) (Or.inl ⟨by rfl, ?_⟩) hS ?_
        rotate_left
        focus (intro wS hSw; (try dsimp only at hSw); go_simp; (try with_reducible rfl); (try (first | (rw [if_pos (by omega)]; (try go_simp); (try with_reducible rfl)) | (rw [if_neg (by omega)]; (try go_simp); (try with_reducible rfl)))))
        try simp only [Act.put, List.setIfInBounds_toArray, List.set_cons_zero, List.set_cons_succ]
        refine wpAnyR_takeQ (i := 16) (v := ?_) (some 43) rfl rfl (by kernel_rfl) (by kernel_rfl) (by kernel_rfl) (by kernel_rfl) (fun _ _ _ h => h) (Or.inl ⟨by rfl, ?_⟩) ?_
        rotate_left
        focus (intro wS hSw; (try dsimp only at hSw); go_simp; (try with_reducible rfl); (try (first | (rw [if_pos (by omega)]; (try go_simp); (try with_reducible rfl)) | (rw [if_neg (by omega)]; (try go_simp); (try with_reducible rfl)))))
        try simp only [Act.put, List.setIfInBounds_toArray, List.set_cons_zero, List.set_cons_succ]
        refine wpAnyR_n1 (i := 17) rfl (by kernel_rfl) ?_
        intro K' hK
        rw [if_pos (by rfl)]
        simp only [List.getElem_toArray, List.getElem_cons_succ, List.getElem_cons_zero]
        go_wp2_with fail
        refine hK.out _ _ (.inl rfl) ?_
        clear hK hS
        refine wpAnyR_done (by kernel_rfl) ?_ _
        go_wp2_with fail
        go_ret
        rw [HV.out]
        have hd1 := HH.out.grew (Grew.refl w).drew
        exact ⟨rfl, q, hd1.store_st HVS.out hkl HSZ.out, Foot'.refl _ _, ((Turned.refl q.feet w).drew.setCell (p := ⟨gs, k, none⟩) (fun _ => .inr (.inr (.inl (by rw [HVS.out]; rfl)))) _)⟩
set_option maxRecDepth 100000 in
set_option maxHeartbeats 4000000 in
theorem damage_any (sec i : Int) (m : UInt8) (hs : okI sec) (hi : okI i) : Calls Try.prog 68 #[.pointer (some ⟨q.x, 0, none⟩), .int .i64 sec, .int .i64 i, .int .u8 (m.toNat : Int)] w fun er w' => er = .returned (.int .i64 (damageD D sec i m).2) ∧ Did w w' q (damageD D sec i m).1 := by
  have HH := Lib.hid h
  unfold okI at hs hi
  cases ht : thereD D sec with
  | false =>
    have HV := Lib.hid (show damageD D sec i m = (D, 2) from by unfold damageD; rw [if_pos (.inl ht)])
    have HT := Lib.hid (there_any h sec false ht)
    clear h ht
    go_enter Try.func68, Try.ntmps68
    go_wp2_with fail
    refine HT.out.mono ?_
    rintro er w1 ⟨rfl, rfl⟩
    go_wp2_with fail
    go_ret
    rw [HV.out]
    exact ⟨rfl, Did.same HH.out (Grew.refl _)⟩
  | true =>
    have h0 := of_decide_eq_true ht
    obtain ⟨k, rfl⟩ : ∃ k : Nat, sec = (k : Int) := ⟨sec.toNat, by omega⟩
    have HT := Lib.hid (there_any h k true ht)
    have hkl : k < D.st.length := by omega
    by_cases h1 : i < 0
    · have HV := Lib.hid (show damageD D k i m = (D, 2) from by unfold damageD; rw [if_pos (.inr (.inl h1))])
      clear h ht
      go_enter Try.func68, Try.ntmps68
      go_wp2_with fail
      refine HT.out.mono ?_
      rintro er w1 ⟨rfl, rfl⟩
      go_wp2_with fail
      go_ret
      rw [HV.out]
      exact ⟨rfl, Did.same HH.out (Grew.refl _)⟩
    · by_cases h2 : 140 ≤ i
      · have HV := Lib.hid (show damageD D k i m = (D, 2) from by unfold damageD; rw [if_pos (.inr (.inr h2))])
        clear h ht
        go_enter Try.func68, Try.ntmps68
        go_wp2_with fail
        refine HT.out.mono ?_
        rintro er w1 ⟨rfl, rfl⟩
        go_wp2_with fail
        go_ret
        rw [HV.out]
        exact ⟨rfl, Did.same HH.out (Grew.refl _)⟩
      · by_cases hm : m = 0
        · have HV := Lib.hid (show damageD D k i m = (D, 1) from by unfold damageD; rw [if_neg (by rw [ht]; simp; omega), if_pos hm])
          have hmi : (m.toNat : Int) = 0 := by rw [hm]; rfl
          clear h ht hm
          go_enter Try.func68, Try.ntmps68
          go_wp2_with fail
          refine HT.out.mono ?_
          rintro er w1 ⟨rfl, rfl⟩
          go_wp2_with fail
          go_ret
          rw [HV.out]
          exact ⟨rfl, Did.same HH.out (Grew.refl _)⟩
        · have HV := Lib.hid (show damageD D k i m = ({ D with st := D.st.set k (xorB (D.at k) i.toNat m) }, 0) from by unfold damageD; rw [if_neg (by rw [ht]; simp; omega), if_neg hm, Int.toNat_natCast])
          have hmi : ((m.toNat : Int) == 0) = false := beq_eq_false_iff_ne.2 (fun e => hm (UInt8.toNat_inj.1 (by show m.toNat = 0; omega)))
          obtain ⟨j, rfl⟩ : ∃ j : Nat, i = (j : Int) := ⟨i.toNat, by omega⟩
          rw [Int.toNat_natCast] at HV
          obtain ⟨gs, cs, hvs, hgs, hs1, hs2, hs3⟩ := h.st_form
          have hk := h.blk
          rw [hvs] at hk
          have hxl := hk.lt
          have x0 := hk.cell 0
          have y0 := h.st_cell hvs hkl
          have hsz := at_size h.ok hkl
          have HVS := Lib.hid hvs
          obtain ⟨wb, cap, hcv, hgb, hzb, hcb, hfb⟩ := bytes_open w (D.at k)
          rw [hsz] at hcv
          generalize D.at k = a at *
          have hja : j < a.size := by omega
          have cj := hcb j hja
          have hxj := xor8 a[j] m
          have fj := hfb j hja
          have x0b := (hgb.cellEq _ _ hxl).trans x0
          have HGB := Lib.hid hgb
          have hst := (h.grew hgb).st
          rw [hvs] at hst
          have y0b := (hgb.cellEq _ _ hgs).trans y0
          have f0b := hst.frozen k
          have hxs := xorB_size a j m
          have hcv2 := conv_back (wb.setCell ⟨w.heap.size, j, none⟩ (.int .u8 ((a[j].toNat ^^^ m.toNat : Nat) : Int))).drew w.heap.size cap (xorB a j m) (by rw [hxs, hsz]) (fun i hi => by
            have hia : i < a.size := by rw [← hxs]; exact hi
            show (wb.setCell ⟨w.heap.size, j, none⟩ _).cell? _ = _
            by_cases hij : i = j
            · subst hij
              rw [World.cell?_setCell_same' _ _ _ (by rw [cj]; rfl)]
              congr 3
              rw [← UInt8.toNat_xor]
              show (a[i] ^^^ m).toNat = ((xorB a i m).data[i]).toNat
              congr 1
              exact (Array.getElem_modify_self (fun b => b ^^^ m) ..).symm
            · have hne : (wb.setCell ⟨w.heap.size, j, none⟩ (.int .u8 ((a[j].toNat ^^^ m.toNat : Nat) : Int))).cell? ⟨w.heap.size, i, none⟩ = wb.cell? ⟨w.heap.size, i, none⟩ := by
                refine World.cell?_setCell_other _ _ _ _ ?_
                intro e
                injection e with _ e _
                exact hij e.symm
              rw [hne, hcb i hia]
              congr 3
              show (a.data[i]).toNat = ((xorB a j m).data[i]).toNat
              congr 1
              exact (Array.getElem_modify_of_ne (Ne.symm hij) ..).symm)
          have hz3 : wb.heap.size = w.heap.size + 1 := hzb
          have hgsb : gs < wb.heap.size := by omega
          have hgw : ¬ gs = w.heap.size := by omega
          have hxw : ¬ q.x = w.heap.size := by omega
          have hxlb : q.x < wb.heap.size := by omega
          have hja' : (j : Int) < 140 := by omega
          have hj0 : (0 : Int) ≤ (j : Int) := by omega
          have HXS := Lib.hid hxs
          clear h ht hvs hk hgb hcb hfb hst hzb hxs
          generalize a[j] = aj at *
          go_enter Try.func68, Try.ntmps68
          go_wp2_with fail
          refine HT.out.mono ?_
          rintro er w1 ⟨rfl, rfl⟩
          go_wp2_with fail
          obtain ⟨wc, hwc⟩ : ∃ wc, wc = wb.setCell ⟨w.heap.size, j, none⟩ (.int .u8 ((aj.toNat ^^^ m.toNat : Nat) : Int)) := ⟨_, rfl⟩
          rw [← hwc] at hcv2 ⊢
          have hx0c : wc.cell? ⟨q.x, 0, none⟩ = some (.slice (some ⟨gs, 0, none⟩) D.st.length cs) := by rw [hwc]; exact (World.cell?_setCell_far _ _ _ _ (fun e => hxw e.symm)).trans x0b
          have hgc : Grew w wc := by rw [hwc]; exact HGB.out.setCell (Nat.le_refl _) _
          have hdc := HH.out.grew hgc
          have hstc := hdc.st
          rw [HVS.out] at hstc
          have f0c := hstc.frozen k
          have y0c := (hgc.cellEq _ _ hgs).trans y0
          have hgsc : gs < wc.heap.size := by have := hgc.size; omega
          have hxlc : q.x < wc.heap.size := by have := hgc.size; omega
          have HDC := Lib.hid hdc
          have HGC := Lib.hid hgc
          clear hwc hdc hgc hstc x0b y0b f0b cj fj x0 y0 hcv
          refine wp_region_R [8] (fun w' : World => w'.cell? ⟨q.x, 0, none⟩ = some (.slice (some ⟨gs, 0, none⟩) D.st.length cs) ∧ (convert 75 9 (.slice (some ⟨w.heap.size, 0, none⟩) 140 cap)).run Try.prog w' = .ok (.string (xorB a j m)) w') (by kernel_rfl) ?_
          have hS := (show (fun w' : World => w'.cell? ⟨q.x, 0, none⟩ = some (.slice (some ⟨gs, 0, none⟩) D.st.length cs) ∧ (convert 75 9 (.slice (some ⟨w.heap.size, 0, none⟩) 140 cap)).run Try.prog w' = .ok (.string (xorB a j m)) w') wc.drew from ⟨hx0c, hcv2⟩)
          refine wpAnyR_takeQ (i := 0) (v := ?_) (some 39) rfl rfl (by kernel_rfl) (by kernel_rfl) (by kernel_rfl) (by kernel_rfl) (fun _ _ _ h => h) (Or.inl ⟨by rfl, ?_⟩) ?_
          rotate_left
          focus (intro wS hSw; (try dsimp only at hSw); go_simp; (try with_reducible rfl); (try (first | (rw [if_pos (by omega)]; (try go_simp); (try with_reducible rfl)) | (rw [if_neg (by omega)]; (try go_simp); (try with_reducible rfl)))))
          try simp only [Act.put, List.setIfInBounds_toArray, List.set_cons_zero, List.set_cons_succ]
          refine wpAnyR_take (i := 1) (v := ?_) [2, 3, 7, 8] (some 40) rfl rfl (by kernel_rfl) (by kernel_rfl) (by kernel_rfl) (by kernel_rfl) (by kernel_rfl) (by kernel_rfl) (by kernel_rfl) (fun _ _ _ h => h) (Or.inl ⟨by rfl, ?_⟩) hS ?_
          rotate_left
          focus (intro wS hSw; (try dsimp only at hSw); go_simp; (try with_reducible rfl); (try (first | (rw [if_pos (by omega)]; (try go_simp); (try with_reducible rfl)) | (rw [if_neg (by omega)]; (try go_simp); (try with_reducible rfl)))))
          try simp only [Act.put, List.setIfInBounds_toArray, List.set_cons_zero, List.set_cons_succ]
          refine wpAnyR_takeQ (i := 2) (v := ?_) (some 41) rfl rfl (by kernel_rfl) (by kernel_rfl) (by kernel_rfl) (by kernel_rfl) (fun _ _ _ h => h) (Or.inl ⟨by rfl, ?_⟩) ?_
          rotate_left
          focus (intro wS hSw; (try dsimp only at hSw); go_simp; (try with_reducible rfl); (try (first | (rw [if_pos (by omega)]; (try go_simp); (try with_reducible rfl)) | (rw [if_neg (by omega)]; (try go_simp); (try with_reducible rfl)))))
          try simp only [Act.put, List.setIfInBounds_toArray, List.set_cons_zero, List.set_cons_succ]
          refine wpAnyR_take (i := 3) (v := ?_) [7, 8] (some 42) rfl rfl (by kernel_rfl) (by kernel_rfl) (by kernel_rfl) (by kernel_rfl) (by kernel_rfl) (by kernel_rfl) (by kernel_rfl) (fun _ _ _ h => h) (Or.inl ⟨by rfl, ?_⟩) hS ?_
          rotate_left
          focus (intro wS hSw; (try dsimp only at hSw); go_simp; (try with_reducible rfl); (try (first | (rw [if_pos (by omega)]; (try go_simp); (try with_reducible rfl)) | (rw [if_neg (by omega)]; (try go_simp); (try with_reducible rfl)))))
          try simp only [Act.put, List.setIfInBounds_toArray, List.set_cons_zero, List.set_cons_succ]
          refine wpAnyR_takeQ (i := 4) (v := ?_) (some 43) rfl rfl (by kernel_rfl) (by kernel_rfl) (by kernel_rfl) (by kernel_rfl) (fun _ _ _ h => h) (Or.inl ⟨by rfl, ?_⟩) ?_
          rotate_left
          focus (intro wS hSw; (try dsimp only at hSw); go_simp; (try with_reducible rfl); (try (first | (rw [if_pos (by omega)]; (try go_simp); (try with_reducible rfl)) | (rw [if_neg (by omega)]; (try go_simp); (try with_reducible rfl)))))
          try simp only [Act.put, List.setIfInBounds_toArray, List.set_cons_zero, List.set_cons_succ]
          refine wpAnyR_takeQ (i := 5) (v := ?_) (some 44) rfl rfl (by kernel_rfl) (by kernel_rfl) (by kernel_rfl) (by kernel_rfl) (fun _ _ _ h => h) (Or.inl ⟨by rfl, ?_⟩) ?_
          rotate_left
          focus (intro wS hSw; (try dsimp only at hSw); go_simp; (try with_reducible rfl); (try (first | (rw [if_pos (by omega)]; (try go_simp); (try with_reducible rfl)) | (rw [if_neg (by omega)]; (try go_simp); (try with_reducible rfl)))))
          try simp only [Act.put, List.setIfInBounds_toArray, List.set_cons_zero, List.set_cons_succ]
          refine wpAnyR_take (i := 6) (v := ?_) [7, 8] (some 45) rfl rfl (by kernel_rfl) (by kernel_rfl) (by kernel_rfl) (by kernel_rfl) (by kernel_rfl) (by kernel_rfl) (by kernel_rfl) (fun _ _ _ h => h) (Or.inl ⟨by rfl, ?_⟩) hS ?_
          rotate_left
          focus (intro wS hSw; (try dsimp only at hSw); go_simp; (try with_reducible rfl); (try (first | (rw [if_pos (by omega)]; (try go_simp); (try with_reducible rfl)) | (rw [if_neg (by omega)]; (try go_simp); (try with_reducible rfl)))))
          try simp only [Act.put, List.setIfInBounds_toArray, List.set_cons_zero, List.set_cons_succ]
          refine wpAnyR_takeQ (i := 7) (v := ?_) (some 46) rfl rfl (by kernel_rfl) (by kernel_rfl) (by kernel_rfl) (by kernel_rfl) (fun _ _ _ h => h) (Or.inl ⟨by rfl, ?_⟩) ?_
          rotate_left
          focus (intro wS hSw; (try dsimp only at hSw); go_simp; (try with_reducible rfl); (try (first | (rw [if_pos (by omega)]; (try go_simp); (try with_reducible rfl)) | (rw [if_neg (by omega)]; (try go_simp); (try with_reducible rfl)))))
          try simp only [Act.put, List.setIfInBounds_toArray, List.set_cons_zero, List.set_cons_succ]
          refine wpAnyR_n1 (i := 8) rfl (by kernel_rfl) ?_
          intro K' hK
          rw [if_pos (by rfl)]
          simp only [List.getElem_toArray, List.getElem_cons_succ, List.getElem_cons_zero]
          go_wp2_with fail
          refine hK.out _ _ (.inl rfl) ?_
          clear hK hS
          refine wpAnyR_done (by kernel_rfl) ?_ _
          go_wp2_with fail
          go_ret
          rw [HV.out]
          have hd1 := HDC.out.grew (Grew.refl wc).drew
          exact ⟨rfl, q, hd1.store_st HVS.out hkl (by rw [HXS.out, hsz]), Foot'.refl _ _, (((HGC.out.turned q.feet).drew).setCell (p := ⟨gs, k, none⟩) (fun _ => .inr (.inr (.inl (by rw [HVS.out]; rfl)))) _)⟩
end
end Go.Proofs.Ytbddelefglhaaaa
namespace Go.Proofs.Ytbddelefglhaaaa
set_option linter.unusedVariables false
set_option linter.unusedSimpArgs false
set_option linter.unusedSectionVars false
open Go.RowKit
theorem sh1_zero (z : BitVec 32) (h : sh1 z = 0#32) : z = 0#32 := by
  unfold sh1 at h
  cases h0 : z.getLsbD 0 with
  | true =>
    rw [if_pos h0] at h
    have := congrArg (fun v => BitVec.getLsbD v 31) h
    simp only [BitVec.getLsbD_xor, BitVec.getLsbD_ushiftRight] at this
    rw [BitVec.getLsbD_of_ge z (1 + 31) (by omega)] at this
    exact absurd this (by decide)
  | false =>
    rw [if_neg (by rw [h0]; simp)] at h
    apply BitVec.eq_of_getLsbD_eq
    intro i hi
    cases i with
    | zero => rw [h0]; simp
    | succ i =>
      have := congrArg (fun v => BitVec.getLsbD v i) h
      simp only [BitVec.getLsbD_ushiftRight] at this
      rw [show i + 1 = 1 + i from by omega, this]
      simp
theorem xor_zero_eq {a b : BitVec 32} (h : a ^^^ b = 0#32) : a = b := by
  have := congrArg (· ^^^ b) h
  simpa [BitVec.xor_assoc] using this
theorem sh1_inj {a b : BitVec 32} (h : sh1 a = sh1 b) : a = b := xor_zero_eq (sh1_zero _ (by rw [sh1_xor, h, BitVec.xor_self]))
theorem shN_inj (n : Nat) : ∀ {a b : BitVec 32}, shN n a = shN n b → a = b := by
  induction n with
  | zero => intro a b h; exact h
  | succ n ih => intro a b h; exact sh1_inj (ih h)
theorem xor_left_inj {a b x : BitVec 32} (h : a ^^^ x = b ^^^ x) : a = b := by
  have := congrArg (· ^^^ x) h
  simpa [BitVec.xor_assoc] using this
theorem xor_right_inj {a b x : BitVec 32} (h : x ^^^ a = x ^^^ b) : a = b := by
  rw [BitVec.xor_comm x a, BitVec.xor_comm x b] at h
  exact xor_left_inj h
theorem byteV_inj {c d : UInt8} (h : byteV c = byteV d) : c = d := by
  have := congrArg BitVec.toNat h
  unfold byteV at this
  rw [BitVec.toNat_ofNat, BitVec.toNat_ofNat] at this
  have := c.toNat_lt
  have := d.toNat_lt
  exact UInt8.toNat_inj.1 (by omega)
theorem crcU_inj : ∀ (l : List UInt8) {x y : BitVec 32}, crcU l x = crcU l y → x = y
  | [], _, _, h => h
  | c :: l, x, y, h => xor_left_inj (shN_inj 8 (crcU_inj l (x := stepB x c) (y := stepB y c) h))
theorem crc_one (a b : List UInt8) (c d : UInt8) (x : BitVec 32) (h : crcU (a ++ c :: b) x = crcU (a ++ d :: b) x) : c = d := by
  unfold crcU at h
  rw [List.foldl_append, List.foldl_append, List.foldl_cons, List.foldl_cons] at h
  exact byteV_inj (xor_right_inj (shN_inj 8 (crcU_inj b h)))
theorem xor8_ne (b m : UInt8) (hm : m ≠ 0) : b ^^^ m ≠ b := by
  intro h
  apply hm
  have : (b ^^^ m) ^^^ b = b ^^^ b := by rw [h]
  rw [UInt8.xor_comm b m, UInt8.xor_assoc, UInt8.xor_self] at this
  simpa using this
theorem xorB_size' (s : ByteArray) (i : Nat) (m : UInt8) : (xorB s i m).size = s.size := by
  show (s.data.modify i (fun b => b ^^^ m)).size = s.data.size
  exact Array.size_modify ..
theorem xorB_list (s : ByteArray) (i : Nat) (m : UInt8) : (xorB s i m).data.toList = s.data.toList.modify i (fun b => b ^^^ m) := by
  unfold xorB
  exact Array.toList_modify ..
/-- A part that does not hold the byte stays. -/
theorem xorB_out (s : ByteArray) (k : Nat) (m : UInt8) (i j : Nat) (h : k < i ∨ j ≤ k) : (xorB s k m).extract i j = s.extract i j := by
  apply bytes_ext
  rw [ext_list, ext_list, xorB_list]
  apply List.ext_getElem?
  intro n
  rw [List.getElem?_take, List.getElem?_take, List.getElem?_drop, List.getElem?_drop, List.getElem?_modify]
  split
  · have hk : ¬ k = i + n := by omega
    simp only [if_neg hk]
    cases s.data.toList[i + n]? <;> rfl
  · rfl
theorem xorB_in (s : ByteArray) (k : Nat) (m : UInt8) (i j : Nat) (h1 : i ≤ k) (h2 : k < j) : (xorB s k m).extract i j = xorB (s.extract i j) (k - i) m := by
  apply bytes_ext
  rw [ext_list, xorB_list, xorB_list, ext_list]
  apply List.ext_getElem?
  intro n
  rw [List.getElem?_take, List.getElem?_drop, List.getElem?_modify, List.getElem?_modify, List.getElem?_take, List.getElem?_drop]
  by_cases hn : n < j - i
  · rw [if_pos hn, if_pos hn]
    by_cases hk : k = i + n
    · simp only [if_pos hk, if_pos (show k - i = n from by omega)]
    · simp only [if_neg hk, if_neg (show ¬ k - i = n from by omega)]
  · rw [if_neg hn, if_neg hn]
    split <;> rfl
theorem xorB_ne (s : ByteArray) (k : Nat) (m : UInt8) (hk : k < s.size) (hm : m ≠ 0) : xorB s k m ≠ s := by
  intro h
  have h2 : (xorB s k m).data.toList[k]? = s.data.toList[k]? := by rw [h]
  rw [xorB_list, List.getElem?_modify, List.getElem?_eq_getElem (by simpa using hk)] at h2
  simp only [Option.map_eq_map, Option.map_some, Option.some.injEq, if_true] at h2
  exact xor8_ne _ m hm h2
theorem sum_one (s : ByteArray) (k : Nat) (m : UInt8) (hk : k < s.size) (hm : m ≠ 0) : sumS (xorB s k m) ≠ sumS s := by
  intro h
  unfold sumS at h
  have h1 := congrArg (~~~ ·) h
  simp only [BitVec.not_not] at h1
  have hl : k < s.data.toList.length := by simpa using hk
  have e1 : s.data.toList = s.data.toList.take k ++ s.data.toList[k] :: s.data.toList.drop (k + 1) := by rw [← List.drop_eq_getElem_cons hl, List.take_append_drop]
  have e2 : (xorB s k m).data.toList = s.data.toList.take k ++ (s.data.toList[k] ^^^ m) :: s.data.toList.drop (k + 1) := by
    rw [xorB_list, List.modify_eq_take_cons_drop hl]
  rw [e2] at h1
  conv at h1 => rhs; rw [e1]
  exact xor8_ne _ m hm (crc_one _ _ _ _ _ h1)
end Go.Proofs.Ytbddelefglhaaaa
namespace Go.Proofs.Ytbddelefglhaaaa
set_option linter.unusedVariables false
set_option linter.unusedSimpArgs false
set_option linter.unusedSectionVars false
open Go.RowKit
theorem nv_inj {a b : Nat} (ha : a < 4294967296) (hb : b < 4294967296) (h : nv a = nv b) : a = b := by rw [← nv_toNat a ha, h, nv_toNat b hb]
end Go.Proofs.Ytbddelefglhaaaa
namespace Go.Proofs.Ytbddelefglhaaaa
set_option linter.unusedVariables false
set_option linter.unusedSimpArgs false
set_option linter.unusedSectionVars false
open Go.RowKit
open Go.Maps (Keyed)
attribute [local go_sem ↓] Go.wp_at_zero Go.wp_at_succ
section
variable {w0 ws : World} {x : Nat} {D : Dev} {out : Nat → Prop} (h : Live w0 x D out ws)
include h
theorem return_live (sec back : Int) (hs : okI sec) (hb : okI back) :
    Calls Try.prog 67 #[.pointer (some ⟨x, 0, none⟩), .int .i64 sec, .int .i64 back] ws fun er w' => er = .returned (.int .i64 (returnD D sec back).2) ∧ Live w0 x (returnD D sec back).1 out w' ∧ Beside w0 out ws w' :=
  h.did (fun q hx hd => by rw [← hx]; exact return_any hd sec back hs hb)
theorem damage_live (sec i : Int) (m : UInt8) (hs : okI sec) (hi : okI i) :
    Calls Try.prog 68 #[.pointer (some ⟨x, 0, none⟩), .int .i64 sec, .int .i64 i, .int .u8 (m.toNat : Int)] ws fun er w' => er = .returned (.int .i64 (damageD D sec i m).2) ∧ Live w0 x (damageD D sec i m).1 out w' ∧ Beside w0 out ws w' :=
  h.did (fun q hx hd => by rw [← hx]; exact damage_any hd sec i m hs hi)
theorem old_live (i : Int) : Calls Try.prog 66 #[.pointer (some ⟨x, 0, none⟩), .int .i64 i] ws fun e w' => e = .returned (.int .i64 (earlierD D i : Int)) ∧ ws = w' :=
  h.look (fun q hx hd => by rw [← hx]; exact old_any hd i)
end
end Go.Proofs.Ytbddelefglhaaaa
namespace Go.Proofs.Ytbddelefglhaaaa
set_option linter.unusedVariables false
set_option linter.unusedSimpArgs false
set_option linter.unusedSectionVars false
open Go.RowKit
attribute [local go_sem ↓] Go.wp_at_zero Go.wp_at_succ
/-- A device and its store behind the first lists, by several systems in turn. -/
def fillK (L : List WsE) (p : Dev × Img) : Nat → Dev × Img
  | 0 => p
  | i + 1 => ((commitP (fillK L p i).1 (sysL (i % 3)) 0 (fairP (fillK L p i).2.n 12 (L.getD i default).l)).1, (fillK L p i).2.next (fairP (fillK L p i).2.n 12 (L.getD i default).l))
theorem zero_cs (n : Nat) : csL (img0 n) = List.replicate n (zeroS 128) := by
  unfold csL
  apply List.ext_getElem?
  intro i
  rw [List.getElem?_map, List.getElem?_replicate]
  rcases Nat.lt_or_ge i n with h | h
  · rw [if_pos h, List.getElem?_range (show i < (img0 n).n from h)]; rfl
  · rw [if_neg (by omega), List.getElem?_eq_none (by rw [List.length_range]; exact h)]; rfl
theorem rep_step (i : Nat) (z : ByteArray) : (List.replicate (i + 1) z).map (fun s => [Value.string s]) = (List.replicate i z).map (fun s => [Value.string s]) ++ [[Value.string z]] := by
  rw [List.replicate_succ', List.map_append]
  rfl
def outS (out : Nat → Prop) (s m : Nat) (k : Nat) : Prop := out k ∨ k = s ∨ k = m
set_option maxRecDepth 100000 in
set_option maxHeartbeats 4000000 in
theorem fill_any {w0 : World} {x : Nat} {D : Dev} {out : Nat → Prop} {W : World} {n : Nat} (h : Live w0 x D out W) (hn : Neat D (img0 n)) (xs : List WsE) (A : Option Addr) (c : Nat) (hat : LstsAt w0 w0.heap.size A xs) (hf : fewLs xs = true) :
    Calls Try.prog 31 #[ptrV x, .slice A xs.length c] W fun e w' => ∃ v D' I', e = .returned (.tuple #[v, .bool true]) ∧ OwnL w' W.heap.size 9 1 v ((csL I').map fun s => [.string s]) ∧ Live w0 x D' (also out v) w' ∧ Beside w0 out W w' ∧ Neat D' I' ∧ I'.n = n ∧ I'.N ≤ 1 + xs.length ∧ fillK xs (D, img0 n) xs.length = (D', I') := by
  obtain ⟨hfs, hxl⟩ := fewLs_facts hf
  have hn1 : n ≤ 1024 := hn.clean.img.n1
  have hn0 : 1 ≤ n := hn.clean.img.n0
  have hDl : D.st.length = 131 + n := hn.clean.len
  have hw0 := h.base.size
  have hB0 : Beside w0 out W W := Turned.refl _ _
  have hl0 : Live w0 x D (also out (.slice (some ⟨W.heap.size, 0, none⟩) 0 0)) (W.alloc (.cells #[] 9)) := (h.more ((Grew.refl W).alloc _)).few (fun k hk => hk.elim .inl (fun h9 => .inr (own_lit k h9)))
  have HOP := Lib.hid (openC_any hl0 hn 0 (by omega))
  have HO0 := Lib.hid (OwnL.empty W W.heap.size 9 1 (Nat.le_refl _) rfl)
  have HB0 := Lib.hid hB0
  have HAT := Lib.hid hat
  have HFS := Lib.hid hfs
  have HN := Lib.hid hn
  have HW0 := Lib.hid hw0
  have HZ : Hid (dataS ⟨#[]⟩ = zeroS 128) := Lib.hid dataS_empty
  clear h hn hat hf hfs hB0 hl0
  go_enter Try.func31, Try.ntmps31
  go_wp2_with fail
  refine HOP.out.mono ?_
  rintro e w2 ⟨s, m, rfl, hh, hsz, hb⟩
  rw [show sysL 0 = 1 from rfl] at hh
  have hb2 : Beside w0 out W w2 := Beside.andThen (HB0.out.alloc _) hb (fun k hk => .inl hk)
  have ho2 := HO0.out.beside hb (fun k hk => .inr hk)
  have hh2 : Held w0 x s m 1 0 D (also (outS out s m) (.slice (some ⟨W.heap.size, 0, none⟩) 0 0)) w2 := hh.re (fun k hk => hk.elim (fun h9 => h9.elim (fun h8 => .inl (.inl h8)) .inr) (fun h9 => .inl (.inr h9))) (.inl (.inr (.inl rfl))) (.inl (.inr (.inr rfl)))
  have HSE := Lib.hid (sectors_any' hh2)
  rw [show (D.st.length : Int) - 131 = (n : Int) from by omega] at HSE
  have HH2 := Lib.hid hh2
  have HO2 := Lib.hid ho2
  have HB2 := Lib.hid hb2
  clear hh hsz hb hb2 ho2 hh2
  go_wp2_with fail
  refine HSE.out.mono ?_
  rintro e w3 ⟨rfl, g3⟩
  have HH3 := Lib.hid (HH2.out.grew g3)
  have HO3 := Lib.hid (HO2.out.grew g3)
  have HB3 := Lib.hid (HB2.out.andGrew g3)
  clear g3
  go_wp2_with fail
  go_loopg [6, 23] n (fun gk u i' wr => ∃ i : Nat, i ≤ n ∧ gk = n - i ∧ i' = .int .i64 i ∧ OwnL wr W.heap.size 9 1 u ((List.replicate i (zeroS 128)).map fun s => [.string s]) ∧ Held w0 x s m 1 0 D (also (outS out s m) u) wr ∧ Beside w0 out W wr)
  case atStart => exact ⟨0, by omega, by omega, rfl, HO3.out, HH3.out, HB3.out⟩
  case round =>
    obtain ⟨i, hi, hgi, rfl, hown, hh, ht⟩ := hrel
    have HGI := Lib.hid hgi
    have HOW := Lib.hid hown
    have HH := Lib.hid hh
    have HT := Lib.hid ht
    clear hgi hown hh ht
    by_cases hlt : i < n
    · have hii : (i : Int) < (n : Int) := by omega
      have hrow := Lib.hid HOW.out.row_ge
      have HW2 := Lib.hid HT.out.size
      have HTL := Lib.hid (show ((List.replicate i (zeroS 128)).map fun s => [Value.string s]).length = i by simp)
      go_wp2_with fail
      refine (data_any ⟨#[]⟩ wr (by decide)).mono ?_
      rintro e w4 ⟨rfl, rfl⟩
      rw [HZ.out]
      have hz2 := HW2.out
      go_wp2_with (at_builtin; refine wpList_push2 rfl _ _ 37 rfl W.heap.size 9 1 16 (.string ⟨#[]⟩) Try.underlying37 info_strz rfl (by decide) (wr.alloc (.cells #[.string (zeroS 128)] 9)) _ ((List.replicate i (zeroS 128)).map fun s => [.string s]) [.string (zeroS 128)] rfl rfl (HOW.out.alloc _) wr.heap.size (by rfl) (Blk.new _ _ _ rfl) rfl (by rw [HTL.out]; omega) (by rw [HTL.out]; omega) (by simp; omega) i HTL.out ?_)
      intro g9 cap9 w9 hown9 hgb9 hn9 hl9
      have hh9 : Held w0 x s m 1 0 D (also (outS out s m) (.slice (some ⟨g9, 0, none⟩) (i + 1) cap9)) w9 := Held.own (HH.out.grew ((Grew.refl wr).alloc (.cells #[.string (zeroS 128)] 9))) ⟨.inr (.inl rfl), .inr (.inr rfl)⟩ (HOW.out.alloc _) HW0.out (by decide) hgb9 rfl (by simpa using hn9) hl9
      have ht9 : Beside w0 out W w9 := own_push (HT.out.alloc _) HOW.out.row_ge hgb9
      have HO9 : Hid (OwnL w9 W.heap.size 9 1 (.slice (some ⟨g9, 0, none⟩) (i + 1) cap9) ((List.replicate (i + 1) (zeroS 128)).map fun s => [.string s])) := Lib.hid (by rw [rep_step i (zeroS 128)]; simpa using hown9)
      have HH9 := Lib.hid hh9
      have HT9 := Lib.hid ht9
      clear hown9 hgb9 hn9 hl9 hh9 ht9 hz2
      go_wp2_with fail
      go_roundg (n - (i + 1))
      case measure => rw [HGI.out]; omega
      case rel => exact ⟨i + 1, by omega, by omega, by go_num, HO9.out, HH9.out, HT9.out⟩
    · obtain rfl : i = n := by omega
      have HL5 := Lib.hid (HH.out.live.few (out' := also out u6) (fun k hk => hk.elim (fun h9 => .inl (.inl h9)) .inr))
      rw [← zero_cs i] at HOW
      clear HH
      obtain ⟨wo, hwo⟩ : ∃ wo : World, wo = wr := ⟨_, rfl⟩
      subst hwo
      go_wp2_with fail
      go_loopg [6, 32] xs.length (fun g2 u i' wr => ∃ (j : Nat) (D1 : Dev) (I1 : Img), j ≤ xs.length ∧ g2 = xs.length - j ∧ i' = .int .i64 j ∧ fillK xs (D, img0 i) j = (D1, I1) ∧ Neat D1 I1 ∧ I1.n = i ∧ I1.N ≤ 1 + j ∧ OwnL wr W.heap.size 9 1 u ((csL I1).map fun s => [.string s]) ∧ Live w0 x D1 (also out u) wr ∧ Beside w0 out W wr)
      case atStart => exact ⟨0, D, img0 i, by omega, by omega, rfl, rfl, HN.out, rfl, Nat.le_refl _, HOW.out, HL5.out, HT.out⟩
      case round =>
        obtain ⟨j, D1, I1, hj, hgj, rfl, hk1, hne, hin, hNb, hown, hlv, hbs⟩ := hrel
        have HGJ := Lib.hid hgj
        have HK1 := Lib.hid hk1
        have HNE := Lib.hid hne
        have HIN := Lib.hid hin
        have HNB := Lib.hid hNb
        have HLV := Lib.hid hlv
        have HBS := Lib.hid hbs
        have hcl : ((csL I1).map fun s => [Value.string s]).length = i := by rw [List.length_map, csL_len, hin]
        obtain ⟨B, cb, rfl, hcb1, hcb2, hbl⟩ := hown.listAt
        rw [hcl] at hcb1 hown HLV ⊢
        have HOU := Lib.hid hown
        clear hgj hk1 hne hin hNb hown hlv hbs hbl hcl
        by_cases hlt : j < xs.length
        · have hjj : (j : Int) < (xs.length : Int) := by omega
          have hka := HAT.out.keep (Nat.le_refl _) HLV.out.base
          obtain ⟨b, off, rfl, hbb, c0⟩ := ws_at hka hlt
          have hgw : w0.heap.size ≤ wr.heap.size := HLV.out.base.size
          have hfx := HFS.out _ (List.getElem_mem hlt)
          have hwo := HAT.out.1 _ (List.getElem_mem hlt)
          obtain ⟨⟨A1, c1, l1⟩, he⟩ : ∃ e, xs[j] = e := ⟨_, rfl⟩
          rw [he] at c0 hfx hwo
          simp only at c0 hfx hwo
          have hgd : xs.getD j default = ⟨A1, c1, l1⟩ := by rw [List.getD_eq_getElem?_getD, List.getElem?_eq_getElem hlt, he]; rfl
          obtain ⟨r, hr⟩ : ∃ r : Nat, j % 3 = r := ⟨_, rfl⟩
          have hr3 : r < 3 := by omega
          have hr1 : (j : Int) % 3 = (r : Int) := by omega
          have hr2 : Int.tmod (j : Int) 3 = (r : Int) := by rw [Int.tmod_eq_emod_of_nonneg (by omega)]; exact hr1
          have hw1 : IntKind.u8.wrap (r : Int) = (r : Int) := IntWalk.u8_in _ (by omega)
          have hw2 : IntKind.i64.wrap (r : Int) = (r : Int) := IntWalk.i64_in _ (by omega)
          obtain ⟨q1, q2, q3, q4, q5, q6, q7⟩ := fair_next (I := I1) (by rw [HIN.out]; omega) l1
          rw [HIN.out] at q1 q2 q3 q4 q5 q6 q7
          obtain ⟨fl, hfl⟩ : ∃ fl, fairP i 12 l1 = fl := ⟨_, rfl⟩
          rw [hfl] at q1 q2 q3 q4 q5 q6 q7
          have hstep : fillK xs (D, img0 i) (j + 1) = ((commitP D1 (sysL r) 0 fl).1, I1.next fl) := by
            show ((commitP (fillK xs (D, img0 i) j).1 (sysL (j % 3)) 0 (fairP (fillK xs (D, img0 i) j).2.n 12 (xs.getD j default).l)).1, (fillK xs (D, img0 i) j).2.next (fairP (fillK xs (D, img0 i) j).2.n 12 (xs.getD j default).l)) = _
            rw [HK1.out, hgd, hr]
            show ((commitP D1 (sysL r) 0 (fairP I1.n 12 l1)).1, I1.next (fairP I1.n 12 l1)) = _
            rw [HIN.out, hfl]
          have HOP := Lib.hid (openC_any HLV.out HNE.out r (by omega))
          have HWO := Lib.hid hwo
          have HFX := Lib.hid hfx
          have HFL := Lib.hid hfl
          have HQ := Lib.hid (And.intro q1 (And.intro q2 (And.intro q3 (And.intro q4 (And.intro q5 (And.intro q6 q7))))))
          have HST := Lib.hid hstep
          have HTM := Lib.hid hr2
          have hi0 : 0 < i ∧ i ≤ 1024 := by omega
          have hj6 : j ≤ 6 := by omega
          have hsy := sysL_bd r
          have HHS := Lib.hid hsy
          clear hka hfx hwo he hgd q1 q2 q3 q4 q5 q6 q7 hfl hstep hsy hr
          go_wp2_with fail
          refine HOP.out.mono ?_
          rintro e wa ⟨s1, m1, rfl, hh, hsz, hb⟩
          have hba := HBS.out.andThen hb (fun k hk => .inl hk)
          have hoa := HOU.out.beside hb (fun k hk => .inr hk)
          have hga := HWO.out.keep (Nat.le_refl _) hh.live.base
          have HFA := Lib.hid (fair_any l1 A1 c1 i 12 hi0 (by omega) wa (hga.at_.mono hh.live.base.size) (by have := HFX.out.2; omega) hga.ok (fun e he => by have := HFX.out.1 e he; omega))
          rw [HFL.out] at HFA
          have hszW := HBS.out.size
          have HSZ := Lib.hid (show W.heap.size ≤ m1 from Nat.le_trans hszW hsz.2)
          have HHa := Lib.hid hh
          have HBa := Lib.hid hba
          have HOa := Lib.hid hoa
          clear hh hsz hb hba hoa hga hszW
          go_wp2_with fail
          refine HFA.out.mono ?_
          rintro e wb ⟨vf, rfl, hof, gf⟩
          have hhb := HHa.out.also_new (v := vf) gf (fun k hk => hof.own_ge hk)
          have hob := HOa.out.grew gf
          have hbb2 := HBa.out.andGrew gf
          obtain ⟨Bv, cv, rfl, hcv1, hcv2, hatv⟩ := hof.listAt
          rw [List.length_map] at hcv1 hof hhb ⊢
          have HCM := Lib.hid (commitC_any hhb HHS.out HNE.out (by have := HNB.out; omega) fl (by have := HQ.out.2.2.2.2.2.1; omega) (fun e he => by have := HQ.out.2.2.2.2.2.2 e he; unfold okI; omega) Bv cv hatv (fun _ b off e => .inr (.inr (by rw [e]; rfl))))
          rw [show checkP I1.n fl = 0 from by rw [HIN.out]; exact HQ.out.2.1, HQ.out.1] at HCM
          have HHb := Lib.hid hhb
          have HOb := Lib.hid hob
          have HBb := Lib.hid hbb2
          have HOF := Lib.hid hof
          clear gf hhb hob hbb2 hcv1 hcv2 hof
          go_wp2_with fail
          refine HCM.out.mono ?_
          rintro e wc ⟨rfl, D2, hd, hn2, hD2⟩
          have hoc := HOb.out.done HHb.out.store hd (fun k hk => .inl (.inl (.inr hk)))
          have hofc := HOF.out.done HHb.out.store hd (fun k hk => .inr hk)
          have hbc := Beside.done HBb.out hd (fun k hk => .inl (.inl (.inl hk))) HSZ.out
          obtain ⟨_, _, eB, _, _, hatB⟩ := hoc.listAt
          obtain ⟨_, _, eV, _, _, hatV⟩ := hofc.listAt
          injection eB with eB1 eB2 eB3
          injection eV with eV1 eV2 eV3
          subst eB1; subst eV1
          have HWI := Lib.hid (withL_any (csL I1) fl B Bv cb cv wc hatB hatV (by rw [csL_len, HIN.out]; omega) (by rw [csL_len, HIN.out]; omega) (by have := HQ.out.2.2.2.2.2.1; omega))
          rw [csL_len, HIN.out] at HWI
          have HLc := Lib.hid hd.live
          have HBc := Lib.hid hbc
          have HN2 := Lib.hid hn2
          have HD2 := Lib.hid hD2
          clear hd hoc hofc hbc eB2 eB3 eV2 eV3 hatB hatV hn2 hD2
          go_wp2_with fail
          refine HWI.out.mono ?_
          rintro e wd ⟨v2, rfl, ho2, g2⟩
          have hl2 := (HLc.out.more g2).few (out' := also out v2) (fun k hk => hk.elim (fun h9 => .inl (.inl (.inl (.inl h9)))) (fun h9 => .inr (ho2.own_ge h9)))
          have ho3 := ho2.low HBc.out.size
          rw [← HQ.out.2.2.1] at ho3
          have hb2 := HBc.out.andGrew g2
          have HL2 := Lib.hid hl2
          have HO3 := Lib.hid ho3
          have HB2 := Lib.hid hb2
          clear ho2 g2 hl2 ho3 hb2
          go_wp2_with fail
          go_roundg (xs.length - (j + 1))
          case measure => rw [HGJ.out]; omega
          case rel => exact ⟨j + 1, D2, I1.next fl, by omega, by omega, by go_num, by rw [HST.out, HD2.out], HN2.out, by rw [HQ.out.2.2.2.1], by have := HQ.out.2.2.2.2.1; have := HNB.out; omega, HO3.out, HL2.out, HB2.out⟩
        · obtain rfl : j = xs.length := by omega
          go_wp2_with fail
          go_ret2
          exact ⟨_, D1, I1, rfl, HOU.out, HLV.out, HBS.out, HNE.out, HIN.out, HNB.out, HK1.out⟩
end Go.Proofs.Ytbddelefglhaaaa
