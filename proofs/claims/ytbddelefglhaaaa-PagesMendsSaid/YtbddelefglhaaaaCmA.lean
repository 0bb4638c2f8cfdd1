/- Chapter 3, plain: a device. Chapter 3: a device in memory. Chapter 3: Damage, Return. Chapters 2 and 4, plain: a changed byte is noticed. Chapter 3: a device in a law. Chapter 4's laws: lists of lists of writes; a device is filled. Chapter 4, plain: the earlier contents of the sectors of a store. Chapter 4, plain: the earlier contents behind Format and lists; harms. Chapter 4, plain: what is read of a store with harmed sectors. Chapter 4, plain: a harmed store is opened. Chapter 4, plain: a store whose map and top were damaged, and what Mend makes of it. Chapter 4: Bad, on a device all of whose sectors can be read; the number of entries of a map. Chapter 4: PagesRefuses. -/
import Derived.Lib.Hide
import Derived.Test.YtbddelefglhaaaaRows
import Derived.WalkKit
import Derived.Laws.Tables
import Derived.Deep.QuietTactic
import Derived.WalkSpells
import Derived.WalkLawsBesides
import Derived.Handy
import Derived.Deep.LoopGhost
import Derived.BigQuiet
import Derived.Deep.DeepCutAuto
import Derived.Laws.EntriesVeiled
import Derived.Maps.Own
import Derived.Maps.OwnSet
import Derived.Maps.RangeWalk
import Derived.Laws.CopyRow
import Derived.Laws.AppendOwn
import Derived.Laws.OwnMore
import Derived.ProofKit
import Derived.OpenShut
import Derived.Deep.Slices
import Derived.Deep.Fields
import Derived.ChangeSame
import Derived.Deep.AppendLies
import Derived.Deep.RegionHeld3
import Derived.Maps.AppendAt
import Derived.OwnWalk
import Derived.OrdersHeld
import Derived.Deep.DrawnRows
import Derived.Laws.Rows
import Derived.Deep.MidRow
import Derived.Laws.IdiomStrings
import Derived.Carry
import Derived.StillTailTactics
import Derived.Shelf.SlSortCmp.NoneTotal
import Derived.Shelf.SlSortCmp.WholeK
import Derived.Test.YtbddelefglhaaaaCpA
import Derived.Test.YtbddelefglhaaaaCpB
import Derived.Test.YtbddelefglhaaaaCpC
import Derived.Test.YtbddelefglhaaaaCpD
import Derived.Test.YtbddelefglhaaaaCpE
import Derived.Test.YtbddelefglhaaaaCpF
import Derived.Test.YtbddelefglhaaaaCpG
import Derived.Test.YtbddelefglhaaaaCpH
import Derived.Test.YtbddelefglhaaaaCpI
import Derived.Test.YtbddelefglhaaaaCpJ
import Derived.Test.YtbddelefglhaaaaCpK
namespace Go.Proofs.Ytbddelefglhaaaa
set_option linter.unusedVariables false
set_option linter.unusedSimpArgs false
set_option linter.unusedSectionVars false
open Go.RowKit
def xorB (s : ByteArray) (i : Nat) (m : UInt8) : ByteArray := ⟨s.data.modify i (fun b => b ^^^ m)⟩
def damageD (D : Dev) (sec i : Int) (m : UInt8) : Dev × Int :=
  if thereD D sec = false ∨ i < 0 ∨ 140 ≤ i then (D, 2) else if m = 0 then (D, 1) else ({ D with st := D.st.set sec.toNat (xorB (D.at sec.toNat) i.toNat m) }, 0)
def earlierD (D : Dev) (i : Int) : Nat := if thereD D i then (D.olds i.toNat).length else 0
def returnD (D : Dev) (sec back : Int) : Dev × Int :=
  if thereD D sec = false ∨ back < 1 ∨ (D.olds sec.toNat).length < back then (D, 2) else ({ D with st := D.st.set sec.toNat ((D.olds sec.toNat).getD (back.toNat - 1) emp) }, 0)
end Go.Proofs.Ytbddelefglhaaaa
namespace Go.Proofs.Ytbddelefglhaaaa
set_option linter.unusedVariables false
set_option linter.unusedSimpArgs false
set_option linter.unusedSectionVars false
open Go.RowKit
open Go.Maps (Keyed)
section
variable {w w' : World} {q : DevP} {D : Dev}
end
section
variable {w : World} {q : DevP} {D : Dev} (h : DevM w q D)
include h
set_option maxRecDepth 100000 in
set_option maxHeartbeats 1000000 in
theorem old_any (i : Int) : Calls Try.prog 66 #[.pointer (some ⟨q.x, 0, none⟩), .int .i64 i] w fun e w' => e = .returned (.int .i64 (earlierD D i : Int)) ∧ w = w' := by
  have HT := Lib.hid (fun b hb => there_any h i b hb)
  cases hb : thereD D i with
  | false =>
    have HE := Lib.hid (show earlierD D i = 0 from by unfold earlierD; rw [hb]; rfl)
    have HB := Lib.hid hb
    clear hb h
    go_enter Try.func66, Try.ntmps66
    go_wp2_with fail
    refine (HT.out false HB.out).mono ?_
    rintro e w1 ⟨rfl, rfl⟩
    go_wp2_with fail
    go_ret
    exact ⟨ret_int (by rw [HE.out]; rfl), rfl⟩
  | true =>
    have HB := Lib.hid hb
    have h0 := of_decide_eq_true hb
    obtain ⟨k, rfl⟩ : ∃ k : Nat, i = (k : Int) := ⟨i.toNat, by omega⟩
    have HE := Lib.hid (show earlierD D (k : Int) = (D.olds k).length from by unfold earlierD; rw [hb]; rfl)
    obtain ⟨g, cap, hv, hg, h1, h2, h3⟩ := h.old_form
    have hkl : k < D.st.length := by omega
    obtain ⟨v, hv1, hown, _⟩ := h.old_at hkl
    have y0 := h.old_cell hv hv1
    have hk := h.blk
    rw [hv] at hk
    have hxl := hk.lt
    have x0 := hk.cell 1
    have hol := olds_len h.ok k
    clear hb h hv hv1
    rcases hown.form with ⟨rfl, he⟩ | ⟨g2, cap2, rfl, _, hlt2, h12, h22⟩
    · have HZ := Lib.hid (show (D.olds k).length = 0 from by have := congrArg List.length he; simpa using this)
      clear he hown
      go_enter Try.func66, Try.ntmps66
      go_wp2_with fail
      refine (HT.out true HB.out).mono ?_
      rintro e w1 ⟨rfl, rfl⟩
      go_wp2_with fail
      go_ret
      exact ⟨ret_int (by rw [HE.out, HZ.out]; rfl), rfl⟩
    · rw [List.length_map] at y0 h12
      clear hown
      go_enter Try.func66, Try.ntmps66
      go_wp2_with fail
      refine (HT.out true HB.out).mono ?_
      rintro e w1 ⟨rfl, rfl⟩
      go_wp2_with fail
      go_ret
      exact ⟨ret_int (by rw [HE.out]), rfl⟩
end
end Go.Proofs.Ytbddelefglhaaaa
namespace Go.Proofs.Ytbddelefglhaaaa
set_option linter.unusedVariables false
set_option linter.unusedSimpArgs false
set_option linter.unusedSectionVars false
open Go.RowKit
open Go.Maps (Keyed)
attribute [local go_sem ↓] Go.wp_at_zero Go.wp_at_succ
theorem xor8 (a m : UInt8) : bits BinOp.xor IntKind.u8 (a.toNat : Int) (m.toNat : Int) = ((a.toNat ^^^ m.toNat : Nat) : Int) := by
  have e : ∀ x : UInt8, BitVec.ofInt 8 (x.toNat : Int) = x.toBitVec := fun x => BitVec.eq_of_toNat_eq (by
    rw [BitVec.ofInt_natCast, BitVec.toNat_ofNat]
    exact Nat.mod_eq_of_lt x.toNat_lt)
  rw [← UInt8.toNat_xor]
  show IntKind.u8.wrap (((BitVec.ofInt 8 (a.toNat : Int)) ^^^ (BitVec.ofInt 8 (m.toNat : Int))).toNat : Int) = _
  rw [e, e]
  show IntKind.u8.wrap ((a ^^^ m).toNat : Int) = _
  have := (a ^^^ m).toNat_lt
  generalize (a ^^^ m).toNat = n at *
  simp only [IntKind.wrap, IntKind.signed, IntKind.bits]
  simp
  omega
theorem xorB_size (s : ByteArray) (i : Nat) (m : UInt8) : (xorB s i m).size = s.size := by
  unfold xorB
  exact Array.size_modify ..
/-- The bytes of a string, in memory. -/
theorem bytes_open (w : World) (s : ByteArray) : ∃ wb cap, (convert 9 75 (.string s)).run Try.prog w = .ok (.slice (some ⟨w.heap.size, 0, none⟩) s.size cap) wb ∧ Grew w wb ∧ wb.heap.size = w.heap.size + 1 ∧
    (∀ j (hj : j < s.size), wb.cell? ⟨w.heap.size, j, none⟩ = some (.int .u8 (s[j].toNat : Int))) ∧ (∀ j, j < s.size → wb.frozen? ⟨w.heap.size, j, none⟩ = false) := by
  refine ⟨_, _, run_bytes_of_string (P := Try.prog) w 9 75 5 s Try.underlying9 Try.underlying75 Try.underlying5, ((Grew.refl w).drew.alloc _), by simp, fun j hj => ?_, fun j hj => ?_⟩
  · show (w.drew.alloc _).cell? ⟨w.drew.heap.size, j, none⟩ = _
    rw [cell_of_row _ w.drew.heap.size j _ _ _ (heap_alloc_new w.drew _), bytesRow_at s _ j hj]
    rfl
  · show (w.drew.alloc _).frozen? ⟨w.drew.heap.size, j, none⟩ = _
    rw [World.frozen?_alloc_mark]
    have : (bytesRow s (grownCap w s.size 0 5)).size ≥ s.size := by
      unfold bytesRow
      rw [Array.size_append, Array.size_map]
      show s.data.size + _ ≥ s.data.size
      omega
    rw [decide_eq_false (by omega)]; rfl
section
variable {w : World} {q : DevP} {D : Dev} (h : DevM w q D)
include h
set_option maxRecDepth 100000 in
set_option maxHeartbeats 4000000 in
theorem return_any (sec back : Int) (hs : okI sec) (hb : okI back) : Calls Try.prog 67 #[.pointer (some ⟨q.x, 0, none⟩), .int .i64 sec, .int .i64 back] w fun er w' => er = .returned (.int .i64 (returnD D sec back).2) ∧ Did w w' q (returnD D sec back).1 := by
  have HH := Lib.hid h
  unfold okI at hs hb
  cases ht : thereD D sec with
  | false =>
    have HV := Lib.hid (show returnD D sec back = (D, 2) from by unfold returnD; rw [if_pos (.inl ht)])
    have HT := Lib.hid (there_any h sec false ht)
    clear h ht
    go_enter Try.func67, Try.ntmps67
    go_wp2_with fail
    refine HT.out.mono ?_
    rintro er w1 ⟨rfl, rfl⟩
    go_wp2_with fail
    go_ret
    rw [HV.out]
    exact ⟨rfl, Did.same HH.out (Grew.refl _)⟩
  | true =>
    have h0 := of_decide_eq_true ht
    obtain ⟨k, rfl⟩ : ∃ k : Nat, sec = (k : Int) := ⟨sec.toNat, by omega⟩
    have HT := Lib.hid (there_any h k true ht)
    have hkl : k < D.st.length := by omega
    by_cases hb1 : back < 1
    · have HV := Lib.hid (show returnD D k back = (D, 2) from by unfold returnD; rw [if_pos (.inr (.inl hb1))])
      clear h ht
      go_enter Try.func67, Try.ntmps67
      go_wp2_with fail
      refine HT.out.mono ?_
      rintro er w1 ⟨rfl, rfl⟩
      go_wp2_with fail
      go_ret
      rw [HV.out]
      exact ⟨rfl, Did.same HH.out (Grew.refl _)⟩
    · obtain ⟨g, cap, hv, hg, h1, h2, h3⟩ := h.old_form
      obtain ⟨gs, cs, hvs, hgs, hs1, hs2, hs3⟩ := h.st_form
      obtain ⟨v, hv1, hown, _⟩ := h.old_at hkl
      have y0 := h.old_cell hv hv1
      have hk := h.blk
      rw [hv, hvs] at hk
      have hxl := hk.lt
      have x1 := hk.cell 1
      have x0 := hk.cell 0
      have hol := olds_len h.ok k
      obtain ⟨A, c, rfl, hc1, hc2, hl⟩ := hown.listAt
      rw [strC_len] at y0 hc1
      have HL := Lib.hid hl
      by_cases hb2 : ((D.olds k).length : Int) < back
      · have HV := Lib.hid (show returnD D k back = (D, 2) from by unfold returnD; rw [if_pos (.inr (.inr (by rw [Int.toNat_natCast]; exact hb2)))])
        clear h ht hv hvs hv1 hk hl hown
        go_enter Try.func67, Try.ntmps67
        go_wp2_with fail
        refine HT.out.mono ?_
        rintro er w1 ⟨rfl, rfl⟩
        go_wp2_with fail
        go_ret
        rw [HV.out]
        exact ⟨rfl, Did.same HH.out (Grew.refl _)⟩
      · obtain ⟨j, rfl⟩ : ∃ j : Nat, back = (j : Int) + 1 := ⟨back.toNat - 1, by omega⟩
        have hjl : j < (D.olds k).length := by omega
        have HV := Lib.hid (show returnD D k ((j : Int) + 1) = ({ D with st := D.st.set k (D.olds k)[j] }, 0) from by
          unfold returnD
          rw [if_neg (by rw [ht, Int.toNat_natCast]; simp; omega), Int.toNat_natCast, show ((j : Int) + 1).toNat - 1 = j by omega, List.getD_eq_getElem?_getD, List.getElem?_eq_getElem hjl]; rfl)
        obtain ⟨bo, off, rfl, hbo, hcc⟩ := hl (by rw [strC_len]; omega)
        have z0 : w.cell? ⟨bo, off + j, none⟩ = some (.string (D.olds k)[j]) := by
          have := hcc j (strC (D.olds k)[j]) (by rw [List.getElem?_map, List.getElem?_eq_getElem hjl]; rfl) 0 _ rfl
          rwa [Nat.mul_one, Nat.add_zero] at this
        have HSZ := Lib.hid (olds_size h.ok k _ (List.getElem_mem hjl))
        have HVS := Lib.hid hvs
        have y1 := h.st_cell hvs hkl
        have hst := h.st
        rw [hvs] at hst
        have f1 := hst.frozen k
        generalize (D.olds k)[j] = u at *
        generalize (D.olds k).length = ln at *
        generalize D.at k = atk at *
        have hw1 : (j : Int) + 1 - 1 = (j : Int) := by omega
        have hwr : IntKind.i64.wrap (j : Int) = (j : Int) := by rw [IntKind.wrap_i64]; omega
        have hS := (show (fun w' : World => w'.cell? ⟨q.x, 0, none⟩ = some (.slice (some ⟨gs, 0, none⟩) D.st.length cs) ∧ w'.cell? ⟨q.x, 1, none⟩ = some (.slice (some ⟨g, 0, none⟩) D.st.length cap) ∧ w'.cell? ⟨g, k, none⟩ = some (.slice (some ⟨bo, off, none⟩) ln c) ∧ w'.cell? ⟨bo, off + j, none⟩ = some (.string u)) w.drew from ⟨x0, x1, y0, z0⟩)
        clear h ht hv hvs hv1 hk hl hown hcc hst HL
        go_enter Try.func67, Try.ntmps67
        go_wp2_with fail
        refine HT.out.mono ?_
        rintro er w1 ⟨rfl, rfl⟩
        go_wp2_with fail
        refine wp_region_R [17] (fun w' : World => w'.cell? ⟨q.x, 0, none⟩ = some (.slice (some ⟨gs, 0, none⟩) D.st.length cs) ∧ w'.cell? ⟨q.x, 1, none⟩ = some (.slice (some ⟨g, 0, none⟩) D.st.length cap) ∧ w'.cell? ⟨g, k, none⟩ = some (.slice (some ⟨bo, off, none⟩) ln c) ∧ w'.cell? ⟨bo, off + j, none⟩ = some (.string u)) (by kernel_rfl) ?_
        refine wpAnyR_takeQ (i := 0) (v := ?_) (some 27) rfl rfl (by kernel_rfl) (by kernel_rfl) (by kernel_rfl) (by kernel_rfl) (fun _ _ _ h => h) (Or.inl ⟨by rfl, ?_⟩) ?_
        rotate_left
        focus (intro wS hSw; (try dsimp only at hSw); go_simp; (try with_reducible rfl); (try (first | (rw [if_pos (by omega)]; (try go_simp); (try with_reducible rfl)) | (rw [if_neg (by omega)]; (try go_simp); (try with_reducible rfl)))))
        try simp only [Act.put, List.setIfInBounds_toArray, List.set_cons_zero, List.set_cons_succ]
        refine wpAnyR_take (i := 1) (v := ?_) [2, 3, 16, 17] (some 28) rfl rfl (by kernel_rfl) (by kernel_rfl) (by kernel_rfl) (by kernel_rfl) (by kernel_rfl) (by kernel_rfl) (by kernel_rfl) (fun _ _ _ h => h) (Or.inl ⟨by rfl, ?_⟩) hS ?_
        rotate_left
        focus (intro wS hSw; (try dsimp only at hSw); go_simp; (try with_reducible rfl); (try (first | (rw [if_pos (by omega)]; (try go_simp); (try with_reducible rfl)) | (rw [if_neg (by omega)]; (try go_simp); (try with_reducible rfl)))))
        try simp only [Act.put, List.setIfInBounds_toArray, List.set_cons_zero, List.set_cons_succ]
        refine wpAnyR_takeQ (i := 2) (v := ?_) (some 29) rfl rfl (by kernel_rfl) (by kernel_rfl) (by kernel_rfl) (by kernel_rfl) (fun _ _ _ h => h) (Or.inl ⟨by rfl, ?_⟩) ?_
        rotate_left
        focus (intro wS hSw; (try dsimp only at hSw); go_simp; (try with_reducible rfl); (try (first | (rw [if_pos (by omega)]; (try go_simp); (try with_reducible rfl)) | (rw [if_neg (by omega)]; (try go_simp); (try with_reducible rfl)))))
        try simp only [Act.put, List.setIfInBounds_toArray, List.set_cons_zero, List.set_cons_succ]
        refine wpAnyR_take (i := 3) (v := ?_) [16, 17] (some 30) rfl rfl (by kernel_rfl) (by kernel_rfl) (by kernel_rfl) (by kernel_rfl) (by kernel_rfl) (by kernel_rfl) (by kernel_rfl) (fun _ _ _ h => h) (Or.inl ⟨by rfl, ?_⟩) hS ?_
        rotate_left
        focus (intro wS hSw; (try dsimp only at hSw); go_simp; (try with_reducible rfl); (try (first | (rw [if_pos (by omega)]; (try go_simp); (try with_reducible rfl)) | (rw [if_neg (by omega)]; (try go_simp); (try with_reducible rfl)))))
        try simp only [Act.put, List.setIfInBounds_toArray, List.set_cons_zero, List.set_cons_succ]
        refine wpAnyR_takeQ (i := 4) (v := ?_) (some 31) rfl rfl (by kernel_rfl) (by kernel_rfl) (by kernel_rfl) (by kernel_rfl) (fun _ _ _ h => h) (Or.inl ⟨by rfl, ?_⟩) ?_
        rotate_left
        focus (intro wS hSw; (try dsimp only at hSw); go_simp; (try with_reducible rfl); (try (first | (rw [if_pos (by omega)]; (try go_simp); (try with_reducible rfl)) | (rw [if_neg (by omega)]; (try go_simp); (try with_reducible rfl)))))
        try simp only [Act.put, List.setIfInBounds_toArray, List.set_cons_zero, List.set_cons_succ]
        refine wpAnyR_takeQ (i := 5) (v := ?_) (some 32) rfl rfl (by kernel_rfl) (by kernel_rfl) (by kernel_rfl) (by kernel_rfl) (fun _ _ _ h => h) (Or.inl ⟨by rfl, ?_⟩) ?_
        rotate_left
        focus (intro wS hSw; (try dsimp only at hSw); go_simp; (try with_reducible rfl); (try (first | (rw [if_pos (by omega)]; (try go_simp); (try with_reducible rfl)) | (rw [if_neg (by omega)]; (try go_simp); (try with_reducible rfl)))))
        try simp only [Act.put, List.setIfInBounds_toArray, List.set_cons_zero, List.set_cons_succ]
        refine wpAnyR_take (i := 6) (v := ?_) [7, 8, 10, 11, 14, 15, 16, 17] (some 33) rfl rfl (by kernel_rfl) (by kernel_rfl) (by kernel_rfl) (by kernel_rfl) (by kernel_rfl) (by kernel_rfl) (by kernel_rfl) (fun _ _ _ h => h) (Or.inl ⟨by rfl, ?_⟩) hS ?_
        rotate_left
        focus (intro wS hSw; (try dsimp only at hSw); go_simp; (try with_reducible rfl); (try (first | (rw [if_pos (by omega)]; (try go_simp); (try with_reducible rfl)) | (rw [if_neg (by omega)]; (try go_simp); (try with_reducible rfl)))))
        try simp only [Act.put, List.setIfInBounds_toArray, List.set_cons_zero, List.set_cons_succ]
        refine wpAnyR_takeQ (i := 7) (v := ?_) (some 34) rfl rfl (by kernel_rfl) (by kernel_rfl) (by kernel_rfl) (by kernel_rfl) (fun _ _ _ h => h) (Or.inl ⟨by rfl, ?_⟩) ?_
        rotate_left
        focus (intro wS hSw; (try dsimp only at hSw); go_simp; (try with_reducible rfl); (try (first | (rw [if_pos (by omega)]; (try go_simp); (try with_reducible rfl)) | (rw [if_neg (by omega)]; (try go_simp); (try with_reducible rfl)))))
        try simp only [Act.put, List.setIfInBounds_toArray, List.set_cons_zero, List.set_cons_succ]
        refine wpAnyR_take (i := 8) (v := ?_) [10, 11, 14, 15, 16, 17] (some 35) rfl rfl (by kernel_rfl) (by kernel_rfl) (by kernel_rfl) (by kernel_rfl) (by kernel_rfl) (by kernel_rfl) (by kernel_rfl) (fun _ _ _ h => h) (Or.inl ⟨by rfl, ?_⟩) hS ?_
        rotate_left
        focus (intro wS hSw; (try dsimp only at hSw); go_simp; (try with_reducible rfl); (try (first | (rw [if_pos (by omega)]; (try go_simp); (try with_reducible rfl)) | (rw [if_neg (by omega)]; (try go_simp); (try with_reducible rfl)))))
        try simp only [Act.put, List.setIfInBounds_toArray, List.set_cons_zero, List.set_cons_succ]
        refine wpAnyR_takeQ (i := 9) (v := ?_) (some 36) rfl rfl (by kernel_rfl) (by kernel_rfl) (by kernel_rfl) (by kernel_rfl) (fun _ _ _ h => h) (Or.inl ⟨by rfl, ?_⟩) ?_
        rotate_left
        focus (intro wS hSw; (try dsimp only at hSw); go_simp; (try with_reducible rfl); (try (first | (rw [if_pos (by omega)]; (try go_simp); (try with_reducible rfl)) | (rw [if_neg (by omega)]; (try go_simp); (try with_reducible rfl)))))
        try simp only [Act.put, List.setIfInBounds_toArray, List.set_cons_zero, List.set_cons_succ]
        refine wpAnyR_takeQ (i := 10) (v := ?_) (some 37) rfl rfl (by kernel_rfl) (by kernel_rfl) (by kernel_rfl) (by kernel_rfl) (fun _ _ _ h => h) (Or.inl ⟨by rfl, ?_⟩) ?_
        rotate_left
        focus (intro wS hSw; (try dsimp only at hSw); go_simp; (try with_reducible rfl); (try (first | (rw [if_pos (by omega)]; (try go_simp); (try with_reducible rfl)) | (rw [if_neg (by omega)]; (try go_simp); (try with_reducible rfl)))))
        try simp only [Act.put, List.setIfInBounds_toArray, List.set_cons_zero, List.set_cons_succ]
        refine wpAnyR_take (i := 11) (v := ?_) [14, 15, 16, 17] (some 38) rfl rfl (by kernel_rfl) (by kernel_rfl) (by kernel_rfl) (by kernel_rfl) (by kernel_rfl) (by kernel_rfl) (by kernel_rfl) (fun _ _ _ h => h) (Or.inl ⟨by rfl, ?_⟩) hS ?_
        rotate_left
        focus (intro wS hSw; (try dsimp only at hSw); go_simp; (try with_reducible rfl); (try (first | (rw [if_pos (by omega)]; (try go_simp); (try with_reducible rfl)) | (rw [if_neg (by omega)]; (try go_simp); (try with_reducible rfl)))))
        try simp only [Act.put, List.setIfInBounds_toArray, List.set_cons_zero, List.set_cons_succ]
        refine wpAnyR_takeQ (i := 12) (v := ?_) (some 39) rfl rfl (by kernel_rfl) (by kernel_rfl) (by kernel_rfl) (by kernel_rfl) (fun _ _ _ h => h) (Or.inl ⟨by rfl, ?_⟩) ?_
        rotate_left
        focus (intro wS hSw; (try dsimp only at hSw); go_simp; (try with_reducible rfl); (try (first | (rw [if_pos (by omega)]; (try go_simp); (try with_reducible rfl)) | (rw [if_neg (by omega)]; (try go_simp); (try with_reducible rfl)))))
        try simp only [Act.put, List.setIfInBounds_toArray, List.set_cons_zero, List.set_cons_succ]
        refine wpAnyR_takeQ (i := 13) (v := ?_) (some 40) rfl rfl (by kernel_rfl) (by kernel_rfl) (by kernel_rfl) (by kernel_rfl) (fun _ _ _ h => h) (Or.inl ⟨by rfl, ?_⟩) ?_
        rotate_left
        focus (intro wS hSw; (try dsimp only at hSw); go_simp; (try with_reducible rfl); (try (first | (rw [if_pos (by omega)]; (try go_simp); (try with_reducible rfl)) | (rw [if_neg (by omega)]; (try go_simp); (try with_reducible rfl)))))
        try simp only [Act.put, List.setIfInBounds_toArray, List.set_cons_zero, List.set_cons_succ]
        refine wpAnyR_takeQ (i := 14) (v := ?_) (some 41) rfl rfl (by kernel_rfl) (by kernel_rfl) (by kernel_rfl) (by kernel_rfl) (fun _ _ _ h => h) (Or.inl ⟨by rfl, ?_⟩) ?_
        rotate_left
        focus (intro wS hSw; (try dsimp only at hSw); go_simp; (try with_reducible rfl); (try (first | (rw [if_pos (by omega)]; (try go_simp); (try with_reducible rfl)) | (rw [if_neg (by omega)]; (try go_simp); (try with_reducible rfl)))))
        try simp only [Act.put, List.setIfInBounds_toArray, List.set_cons_zero, List.set_cons_succ]
        refine wpAnyR_take (i := 15) (v := ?_) [16, 17] (some 42) rfl rfl (by kernel_rfl) (by kernel_rfl) (by kernel_rfl) (by kernel_rfl) (by kernel_rfl) (by kernel_rfl) (by kernel_rfl) (fun _ _ _ h => h) (Or.inl ⟨by rfl, ?_⟩) hS ?_
        rotate_left
        focus (intro wS hSw; (try dsimp only at hSw); go_simp; (try with_reducible rfl); (try (first | (rw [if_pos (by omega)]; (try go_simp); (try with_reducible rfl)) | (rw [if_neg (by omega)]; (try go_simp); (try with_reducible rfl)))))
        try simp only [Act.put, List.setIfInBounds_toArray, List.set_cons_zero, List.set_cons_succ]
        refine wpAnyR_takeQ (i := 16) (v := ?_) (some 43) rfl rfl (by kernel_rfl) (by kernel_rfl) (by kernel_rfl) (by kernel_rfl) (fun _ _ _ h => h) (Or.inl ⟨by rfl, ?_⟩) ?_
        rotate_left
        focus (intro wS hSw; (try dsimp only at hSw); go_simp; (try with_reducible rfl); (try (first | (rw [if_pos (by omega)]; (try go_simp); (try with_reducible rfl)) | (rw [if_neg (by omega)]; (try go_simp); (try with_reducible rfl)))))
        try simp only [Act.put, List.setIfInBounds_toArray, List.set_cons_zero, List.set_cons_succ]
        refine wpAnyR_n1 (i := 17) rfl (by kernel_rfl) ?_
        intro K' hK
        rw [if_pos (by rfl)]
        simp only [List.getElem_toArray, List.getElem_cons_succ, List.getElem_cons_zero]
        go_wp2_with fail
        refine hK.out _ _ (.inl rfl) ?_
        clear hK hS
        refine wpAnyR_done (by kernel_rfl) ?_ _
        go_wp2_with fail
        go_ret
        rw [HV.out]
        have hd1 := HH.out.grew (Grew.refl w).drew
        exact ⟨rfl, q, hd1.store_st HVS.out hkl HSZ.out, Foot'.refl _ _, ((Turned.refl q.feet w).drew.setCell (p := ⟨gs, k, none⟩) (fun _ => .inr (.inr (.inl (by rw [HVS.out]; rfl)))) _)⟩
set_option maxRecDepth 100000 in
set_option maxHeartbeats 4000000 in
theorem damage_any (sec i : Int) (m : UInt8) (hs : okI sec) (hi : okI i) : Calls Try.prog 68 #[.pointer (some ⟨q.x, 0, none⟩), .int .i64 sec, .int .i64 i, .int .u8 (m.toNat : Int)] w fun er w' => er = .returned (.int .i64 (damageD D sec i m).2) ∧ Did w w' q (damageD D sec i m).1 := by
  have HH := Lib.hid h
  unfold okI at hs hi
  cases ht : thereD D sec with
  | false =>
    have HV := Lib.hid (show damageD D sec i m = (D, 2) from by unfold damageD; rw [if_pos (.inl ht)])
    have HT := Lib.hid (there_any h sec false ht)
    clear h ht
    go_enter Try.func68, Try.ntmps68
    go_wp2_with fail
    refine HT.out.mono ?_
    rintro er w1 ⟨rfl, rfl⟩
    go_wp2_with fail
    go_ret
    rw [HV.out]
    exact ⟨rfl, Did.same HH.out (Grew.refl _)⟩
  | true =>
    have h0 := of_decide_eq_true ht
    obtain ⟨k, rfl⟩ : ∃ k : Nat, sec = (k : Int) := ⟨sec.toNat, by omega⟩
    have HT := Lib.hid (there_any h k true ht)
    have hkl : k < D.st.length := by omega
    by_cases h1 : i < 0
    · have HV := Lib.hid (show damageD D k i m = (D, 2) from by unfold damageD; rw [if_pos (.inr (.inl h1))])
      clear h ht
      go_enter Try.func68, Try.ntmps68
      go_wp2_with fail
      refine HT.out.mono ?_
      rintro er w1 ⟨rfl, rfl⟩
      go_wp2_with fail
      go_ret
      rw [HV.out]
      exact ⟨rfl, Did.same HH.out (Grew.refl _)⟩
    · by_cases h2 : 140 ≤ i
      · have HV := Lib.hid (show damageD D k i m = (D, 2) from by unfold damageD; rw [if_pos (.inr (.inr h2))])
        clear h ht
        go_enter Try.func68, Try.ntmps68
        go_wp2_with fail
        refine HT.out.mono ?_
        rintro er w1 ⟨rfl, rfl⟩
        go_wp2_with fail
        go_ret
        rw [HV.out]
        exact ⟨rfl, Did.same HH.out (Grew.refl _)⟩
      · by_cases hm : m = 0
        · have HV := Lib.hid (show damageD D k i m = (D, 1) from by unfold damageD; rw [if_neg (by rw [ht]; simp; omega), if_pos hm])
          have hmi : (m.toNat : Int) = 0 := by rw [hm]; rfl
          clear h ht hm
          go_enter Try.func68, Try.ntmps68
          go_wp2_with fail
          refine HT.out.mono ?_
          rintro er w1 ⟨rfl, rfl⟩
          go_wp2_with fail
          go_ret
          rw [HV.out]
          exact ⟨rfl, Did.same HH.out (Grew.refl _)⟩
        · have HV := Lib.hid (show damageD D k i m = ({ D with st := D.st.set k (xorB (D.at k) i.toNat m) }, 0) from by unfold damageD; rw [if_neg (by rw [ht]; simp; omega), if_neg hm, Int.toNat_natCast])
          have hmi : ((m.toNat : Int) == 0) = false := beq_eq_false_iff_ne.2 (fun e => hm (UInt8.toNat_inj.1 (by show m.toNat = 0; omega)))
          obtain ⟨j, rfl⟩ : ∃ j : Nat, i = (j : Int) := ⟨i.toNat, by omega⟩
          rw [Int.toNat_natCast] at HV
          obtain ⟨gs, cs, hvs, hgs, hs1, hs2, hs3⟩ := h.st_form
          have hk := h.blk
          rw [hvs] at hk
          have hxl := hk.lt
          have x0 := hk.cell 0
          have y0 := h.st_cell hvs hkl
          have hsz := at_size h.ok hkl
          have HVS := Lib.hid hvs
          obtain ⟨wb, cap, hcv, hgb, hzb, hcb, hfb⟩ := bytes_open w (D.at k)
          rw [hsz] at hcv
          generalize D.at k = a at *
          have hja : j < a.size := by omega
          have cj := hcb j hja
          have hxj := xor8 a[j] m
          have fj := hfb j hja
          have x0b := (hgb.cellEq _ _ hxl).trans x0
          have HGB := Lib.hid hgb
          have hst := (h.grew hgb).st
          rw [hvs] at hst
          have y0b := (hgb.cellEq _ _ hgs).trans y0
          have f0b := hst.frozen k
          have hxs := xorB_size a j m
          have hcv2 := conv_back (wb.setCell ⟨w.heap.size, j, none⟩ (.int .u8 ((a[j].toNat ^^^ m.toNat : Nat) : Int))).drew w.heap.size cap (xorB a j m) (by rw [hxs, hsz]) (fun i hi => by
            have hia : i < a.size := by rw [← hxs]; exact hi
            show (wb.setCell ⟨w.heap.size, j, none⟩ _).cell? _ = _
            by_cases hij : i = j
            · subst hij
              rw [World.cell?_setCell_same' _ _ _ (by rw [cj]; rfl)]
              congr 3
              rw [← UInt8.toNat_xor]
              show (a[i] ^^^ m).toNat = ((xorB a i m).data[i]).toNat
              congr 1
              exact (Array.getElem_modify_self (fun b => b ^^^ m) ..).symm
            · have hne : (wb.setCell ⟨w.heap.size, j, none⟩ (.int .u8 ((a[j].toNat ^^^ m.toNat : Nat) : Int))).cell? ⟨w.heap.size, i, none⟩ = wb.cell? ⟨w.heap.size, i, none⟩ := by
                refine World.cell?_setCell_other _ _ _ _ ?_
                intro e
                injection e with _ e _
                exact hij e.symm
              rw [hne, hcb i hia]
              congr 3
              show (a.data[i]).toNat = ((xorB a j m).data[i]).toNat
              congr 1
              exact (Array.getElem_modify_of_ne (Ne.symm hij) ..).symm)
          have hz3 : wb.heap.size = w.heap.size + 1 := hzb
          have hgsb : gs < wb.heap.size := by omega
          have hgw : ¬ gs = w.heap.size := by omega
          have hxw : ¬ q.x = w.heap.size := by omega
          have hxlb : q.x < wb.heap.size := by omega
          have hja' : (j : Int) < 140 := by omega
          have hj0 : (0 : Int) ≤ (j : Int) := by omega
          have HXS := Lib.hid hxs
          clear h ht hvs hk hgb hcb hfb hst hzb hxs
          generalize a[j] = aj at *
          go_enter Try.func68, Try.ntmps68
          go_wp2_with fail
          refine HT.out.mono ?_
          rintro er w1 ⟨rfl, rfl⟩
          go_wp2_with fail
          obtain ⟨wc, hwc⟩ : ∃ wc, wc = wb.setCell ⟨w.heap.size, j, none⟩ (.int .u8 ((aj.toNat ^^^ m.toNat : Nat) : Int)) := ⟨_, rfl⟩
          rw [← hwc] at hcv2 ⊢
          have hx0c : wc.cell? ⟨q.x, 0, none⟩ = some (.slice (some ⟨gs, 0, none⟩) D.st.length cs) := by rw [hwc]; exact (World.cell?_setCell_far _ _ _ _ (fun e => hxw e.symm)).trans x0b
          have hgc : Grew w wc := by rw [hwc]; exact HGB.out.setCell (Nat.le_refl _) _
          have hdc := HH.out.grew hgc
          have hstc := hdc.st
          rw [HVS.out] at hstc
          have f0c := hstc.frozen k
          have y0c := (hgc.cellEq _ _ hgs).trans y0
          have hgsc : gs < wc.heap.size := by have := hgc.size; omega
          have hxlc : q.x < wc.heap.size := by have := hgc.size; omega
          have HDC := Lib.hid hdc
          have HGC := Lib.hid hgc
          clear hwc hdc hgc hstc x0b y0b f0b cj fj x0 y0 hcv
          refine wp_region_R [8] (fun w' : World => w'.cell? ⟨q.x, 0, none⟩ = some (.slice (some ⟨gs, 0, none⟩) D.st.length cs) ∧ (convert 75 9 (.slice (some ⟨w.heap.size, 0, none⟩) 140 cap)).run Try.prog w' = .ok (.string (xorB a j m)) w') (by kernel_rfl) ?_
          have hS := (show (fun w' : World => w'.cell? ⟨q.x, 0, none⟩ = some (.slice (some ⟨gs, 0, none⟩) D.st.length cs) ∧ (convert 75 9 (.slice (some ⟨w.heap.size, 0, none⟩) 140 cap)).run Try.prog w' = .ok (.string (xorB a j m)) w') wc.drew from ⟨hx0c, hcv2⟩)
          refine wpAnyR_takeQ (i := 0) (v := ?_) (some 39) rfl rfl (by kernel_rfl) (by kernel_rfl) (by kernel_rfl) (by kernel_rfl) (fun _ _ _ h => h) (Or.inl ⟨by rfl, ?_⟩) ?_
          rotate_left
          focus (intro wS hSw; (try dsimp only at hSw); go_simp; (try with_reducible rfl); (try (first | (rw [if_pos (by omega)]; (try go_simp); (try with_reducible rfl)) | (rw [if_neg (by omega)]; (try go_simp); (try with_reducible rfl)))))
          try simp only [Act.put, List.setIfInBounds_toArray, List.set_cons_zero, List.set_cons_succ]
          refine wpAnyR_take (i := 1) (v := ?_) [2, 3, 7, 8] (some 40) rfl rfl (by kernel_rfl) (by kernel_rfl) (by kernel_rfl) (by kernel_rfl) (by kernel_rfl) (by kernel_rfl) (by kernel_rfl) (fun _ _ _ h => h) (Or.inl ⟨by rfl, ?_⟩) hS ?_
          rotate_left
          focus (intro wS hSw; (try dsimp only at hSw); go_simp; (try with_reducible rfl); (try (first | (rw [if_pos (by omega)]; (try go_simp); (try with_reducible rfl)) | (rw [if_neg (by omega)]; (try go_simp); (try with_reducible rfl)))))
          try simp only [Act.put, List.setIfInBounds_toArray, List.set_cons_zero, List.set_cons_succ]
          refine wpAnyR_takeQ (i := 2) (v := ?_) (some 41) rfl rfl (by kernel_rfl) (by kernel_rfl) (by kernel_rfl) (by kernel_rfl) (fun _ _ _ h => h) (Or.inl ⟨by rfl, ?_⟩) ?_
          rotate_left
          focus (intro wS hSw; (try dsimp only at hSw); go_simp; (try with_reducible rfl); (try (first | (rw [if_pos (by omega)]; (try go_simp); (try with_reducible rfl)) | (rw [if_neg (by omega)]; (try go_simp); (try with_reducible rfl)))))
          try simp only [Act.put, List.setIfInBounds_toArray, List.set_cons_zero, List.set_cons_succ]
          refine wpAnyR_take (i := 3) (v := ?_) [7, 8] (some 42) rfl rfl (by kernel_rfl) (by kernel_rfl) (by kernel_rfl) (by kernel_rfl) (by kernel_rfl) (by kernel_rfl) (by kernel_rfl) (fun _ _ _ h => h) (Or.inl ⟨by rfl, ?_⟩) hS ?_
          rotate_left
          focus (intro wS hSw; (try dsimp only at hSw); go_simp; (try with_reducible rfl); (try (first | (rw [if_pos (by omega)]; (try go_simp); (try with_reducible rfl)) | (rw [if_neg (by omega)]; (try go_simp); (try with_reducible rfl)))))
          try simp only [Act.put, List.setIfInBounds_toArray, List.set_cons_zero, List.set_cons_succ]
          refine wpAnyR_takeQ (i := 4) (v := ?_) (some 43) rfl rfl (by kernel_rfl) (by kernel_rfl) (by kernel_rfl) (by kernel_rfl) (fun _ _ _ h => h) (Or.inl ⟨by rfl, ?_⟩) ?_
          rotate_left
          focus (intro wS hSw; (try dsimp only at hSw); go_simp; (try with_reducible rfl); (try (first | (rw [if_pos (by omega)]; (try go_simp); (try with_reducible rfl)) | (rw [if_neg (by omega)]; (try go_simp); (try with_reducible rfl)))))
          try simp only [Act.put, List.setIfInBounds_toArray, List.set_cons_zero, List.set_cons_succ]
          refine wpAnyR_takeQ (i := 5) (v := ?_) (some 44) rfl rfl (by kernel_rfl) (by kernel_rfl) (by kernel_rfl) (by kernel_rfl) (fun _ _ _ h => h) (Or.inl ⟨by rfl, ?_⟩) ?_
          rotate_left
          focus (intro wS hSw; (try dsimp only at hSw); go_simp; (try with_reducible rfl); (try (first | (rw [if_pos (by omega)]; (try go_simp); (try with_reducible rfl)) | (rw [if_neg (by omega)]; (try go_simp); (try with_reducible rfl)))))
          try simp only [Act.put, List.setIfInBounds_toArray, List.set_cons_zero, List.set_cons_succ]
          refine wpAnyR_take (i := 6) (v := ?_) [7, 8] (some 45) rfl rfl (by kernel_rfl) (by kernel_rfl) (by kernel_rfl) (by kernel_rfl) (by kernel_rfl) (by kernel_rfl) (by kernel_rfl) (fun _ _ _ h => h) (Or.inl ⟨by rfl, ?_⟩) hS ?_
          rotate_left
          focus (intro wS hSw; (try dsimp only at hSw); go_simp; (try with_reducible rfl); (try (first | (rw [if_pos (by omega)]; (try go_simp); (try with_reducible rfl)) | (rw [if_neg (by omega)]; (try go_simp); (try with_reducible rfl)))))
          try simp only [Act.put, List.setIfInBounds_toArray, List.set_cons_zero, List.set_cons_succ]
          refine wpAnyR_takeQ (i := 7) (v := ?_) (some 46) rfl rfl (by kernel_rfl) (by kernel_rfl) (by kernel_rfl) (by kernel_rfl) (fun _ _ _ h => h) (Or.inl ⟨by rfl, ?_⟩) ?_
          rotate_left
          focus (intro wS hSw; (try dsimp only at hSw); go_simp; (try with_reducible rfl); (try (first | (rw [if_pos (by omega)]; (try go_simp); (try with_reducible rfl)) | (rw [if_neg (by omega)]; (try go_simp); (try with_reducible rfl)))))
          try simp only [Act.put, List.setIfInBounds_toArray, List.set_cons_zero, List.set_cons_succ]
          refine wpAnyR_n1 (i := 8) rfl (by kernel_rfl) ?_
          intro K' hK
          rw [if_pos (by rfl)]
          simp only [List.getElem_toArray, List.getElem_cons_succ, List.getElem_cons_zero]
          go_wp2_with fail
          refine hK.out _ _ (.inl rfl) ?_
          clear hK hS
          refine wpAnyR_done (by kernel_rfl) ?_ _
          go_wp2_with fail
          go_ret
          rw [HV.out]
          have hd1 := HDC.out.grew (Grew.refl wc).drew
          exact ⟨rfl, q, hd1.store_st HVS.out hkl (by rw [HXS.out, hsz]), Foot'.refl _ _, (((HGC.out.turned q.feet).drew).setCell (p := ⟨gs, k, none⟩) (fun _ => .inr (.inr (.inl (by rw [HVS.out]; rfl)))) _)⟩
end
end Go.Proofs.Ytbddelefglhaaaa
namespace Go.Proofs.Ytbddelefglhaaaa
set_option linter.unusedVariables false
set_option linter.unusedSimpArgs false
set_option linter.unusedSectionVars false
open Go.RowKit
theorem sh1_zero (z : BitVec 32) (h : sh1 z = 0#32) : z = 0#32 := by
  unfold sh1 at h
  cases h0 : z.getLsbD 0 with
  | true =>
    rw [if_pos h0] at h
    have := congrArg (fun v => BitVec.getLsbD v 31) h
    simp only [BitVec.getLsbD_xor, BitVec.getLsbD_ushiftRight] at this
    rw [BitVec.getLsbD_of_ge z (1 + 31) (by omega)] at this
    exact absurd this (by decide)
  | false =>
    rw [if_neg (by rw [h0]; simp)] at h
    apply BitVec.eq_of_getLsbD_eq
    intro i hi
    cases i with
    | zero => rw [h0]; simp
    | succ i =>
      have := congrArg (fun v => BitVec.getLsbD v i) h
      simp only [BitVec.getLsbD_ushiftRight] at this
      rw [show i + 1 = 1 + i from by omega, this]
      simp
theorem xor_zero_eq {a b : BitVec 32} (h : a ^^^ b = 0#32) : a = b := by
  have := congrArg (· ^^^ b) h
  simpa [BitVec.xor_assoc] using this
theorem sh1_inj {a b : BitVec 32} (h : sh1 a = sh1 b) : a = b := xor_zero_eq (sh1_zero _ (by rw [sh1_xor, h, BitVec.xor_self]))
theorem shN_inj (n : Nat) : ∀ {a b : BitVec 32}, shN n a = shN n b → a = b := by
  induction n with
  | zero => intro a b h; exact h
  | succ n ih => intro a b h; exact sh1_inj (ih h)
theorem xor_left_inj {a b x : BitVec 32} (h : a ^^^ x = b ^^^ x) : a = b := by
  have := congrArg (· ^^^ x) h
  simpa [BitVec.xor_assoc] using this
theorem xor_right_inj {a b x : BitVec 32} (h : x ^^^ a = x ^^^ b) : a = b := by
  rw [BitVec.xor_comm x a, BitVec.xor_comm x b] at h
  exact xor_left_inj h
theorem byteV_inj {c d : UInt8} (h : byteV c = byteV d) : c = d := by
  have := congrArg BitVec.toNat h
  unfold byteV at this
  rw [BitVec.toNat_ofNat, BitVec.toNat_ofNat] at this
  have := c.toNat_lt
  have := d.toNat_lt
  exact UInt8.toNat_inj.1 (by omega)
theorem crcU_inj : ∀ (l : List UInt8) {x y : BitVec 32}, crcU l x = crcU l y → x = y
  | [], _, _, h => h
  | c :: l, x, y, h => xor_left_inj (shN_inj 8 (crcU_inj l (x := stepB x c) (y := stepB y c) h))
theorem crc_one (a b : List UInt8) (c d : UInt8) (x : BitVec 32) (h : crcU (a ++ c :: b) x = crcU (a ++ d :: b) x) : c = d := by
  unfold crcU at h
  rw [List.foldl_append, List.foldl_append, List.foldl_cons, List.foldl_cons] at h
  exact byteV_inj (xor_right_inj (shN_inj 8 (crcU_inj b h)))
theorem xor8_ne (b m : UInt8) (hm : m ≠ 0) : b ^^^ m ≠ b := by
  intro h
  apply hm
  have : (b ^^^ m) ^^^ b = b ^^^ b := by rw [h]
  rw [UInt8.xor_comm b m, UInt8.xor_assoc, UInt8.xor_self] at this
  simpa using this
theorem xorB_size' (s : ByteArray) (i : Nat) (m : UInt8) : (xorB s i m).size = s.size := by
  show (s.data.modify i (fun b => b ^^^ m)).size = s.data.size
  exact Array.size_modify ..
theorem xorB_list (s : ByteArray) (i : Nat) (m : UInt8) : (xorB s i m).data.toList = s.data.toList.modify i (fun b => b ^^^ m) := by
  unfold xorB
  exact Array.toList_modify ..
/-- A part that does not hold the byte stays. -/
theorem xorB_out (s : ByteArray) (k : Nat) (m : UInt8) (i j : Nat) (h : k < i ∨ j ≤ k) : (xorB s k m).extract i j = s.extract i j := by
  apply bytes_ext
  rw [ext_list, ext_list, xorB_list]
  apply List.ext_getElem?
  intro n
  rw [List.getElem?_take, List.getElem?_take, List.getElem?_drop, List.getElem?_drop, List.getElem?_modify]
  split
  · have hk : ¬ k = i + n := by omega
    simp only [if_neg hk]
    cases s.data.toList[i + n]? <;> rfl
  · rfl
theorem xorB_in (s : ByteArray) (k : Nat) (m : UInt8) (i j : Nat) (h1 : i ≤ k) (h2 : k < j) : (xorB s k m).extract i j = xorB (s.extract i j) (k - i) m := by
  apply bytes_ext
  rw [ext_list, xorB_list, xorB_list, ext_list]
  apply List.ext_getElem?
  intro n
  rw [List.getElem?_take, List.getElem?_drop, List.getElem?_modify, List.getElem?_modify, List.getElem?_take, List.getElem?_drop]
  by_cases hn : n < j - i
  · rw [if_pos hn, if_pos hn]
    by_cases hk : k = i + n
    · simp only [if_pos hk, if_pos (show k - i = n from by omega)]
    · simp only [if_neg hk, if_neg (show ¬ k - i = n from by omega)]
  · rw [if_neg hn, if_neg hn]
    split <;> rfl
theorem xorB_ne (s : ByteArray) (k : Nat) (m : UInt8) (hk : k < s.size) (hm : m ≠ 0) : xorB s k m ≠ s := by
  intro h
  have h2 : (xorB s k m).data.toList[k]? = s.data.toList[k]? := by rw [h]
  rw [xorB_list, List.getElem?_modify, List.getElem?_eq_getElem (by simpa using hk)] at h2
  simp only [Option.map_eq_map, Option.map_some, Option.some.injEq, if_true] at h2
  exact xor8_ne _ m hm h2
theorem sum_one (s : ByteArray) (k : Nat) (m : UInt8) (hk : k < s.size) (hm : m ≠ 0) : sumS (xorB s k m) ≠ sumS s := by
  intro h
  unfold sumS at h
  have h1 := congrArg (~~~ ·) h
  simp only [BitVec.not_not] at h1
  have hl : k < s.data.toList.length := by simpa using hk
  have e1 : s.data.toList = s.data.toList.take k ++ s.data.toList[k] :: s.data.toList.drop (k + 1) := by rw [← List.drop_eq_getElem_cons hl, List.take_append_drop]
  have e2 : (xorB s k m).data.toList = s.data.toList.take k ++ (s.data.toList[k] ^^^ m) :: s.data.toList.drop (k + 1) := by
    rw [xorB_list, List.modify_eq_take_cons_drop hl]
  rw [e2] at h1
  conv at h1 => rhs; rw [e1]
  exact xor8_ne _ m hm (crc_one _ _ _ _ _ h1)
end Go.Proofs.Ytbddelefglhaaaa
namespace Go.Proofs.Ytbddelefglhaaaa
set_option linter.unusedVariables false
set_option linter.unusedSimpArgs false
set_option linter.unusedSectionVars false
open Go.RowKit
open Go.Maps (Keyed)
attribute [local go_sem ↓] Go.wp_at_zero Go.wp_at_succ
section
variable {w0 ws : World} {x : Nat} {D : Dev} {out : Nat → Prop} (h : Live w0 x D out ws)
include h
theorem return_live (sec back : Int) (hs : okI sec) (hb : okI back) :
    Calls Try.prog 67 #[.pointer (some ⟨x, 0, none⟩), .int .i64 sec, .int .i64 back] ws fun er w' => er = .returned (.int .i64 (returnD D sec back).2) ∧ Live w0 x (returnD D sec back).1 out w' ∧ Beside w0 out ws w' :=
  h.did (fun q hx hd => by rw [← hx]; exact return_any hd sec back hs hb)
theorem damage_live (sec i : Int) (m : UInt8) (hs : okI sec) (hi : okI i) :
    Calls Try.prog 68 #[.pointer (some ⟨x, 0, none⟩), .int .i64 sec, .int .i64 i, .int .u8 (m.toNat : Int)] ws fun er w' => er = .returned (.int .i64 (damageD D sec i m).2) ∧ Live w0 x (damageD D sec i m).1 out w' ∧ Beside w0 out ws w' :=
  h.did (fun q hx hd => by rw [← hx]; exact damage_any hd sec i m hs hi)
theorem old_live (i : Int) : Calls Try.prog 66 #[.pointer (some ⟨x, 0, none⟩), .int .i64 i] ws fun e w' => e = .returned (.int .i64 (earlierD D i : Int)) ∧ ws = w' :=
  h.look (fun q hx hd => by rw [← hx]; exact old_any hd i)
end
end Go.Proofs.Ytbddelefglhaaaa
namespace Go.Proofs.Ytbddelefglhaaaa
set_option linter.unusedVariables false
set_option linter.unusedSimpArgs false
set_option linter.unusedSectionVars false
open Go.RowKit
attribute [local go_sem ↓] Go.wp_at_zero Go.wp_at_succ
/-- A list of writes among the arguments. -/
structure WsE where
  A : Option Addr
  c : Nat
  l : List (Int × ByteArray)
instance : Inhabited WsE := ⟨⟨none, 0, []⟩⟩
def wsC (x : WsE) : List Value := [.slice x.A x.l.length x.c]
structure WsOk (w : World) (B : Nat) (A : Option Addr) (l : List (Int × ByteArray)) : Prop where
  at_ : ListAt w B 2 A (l.map entC)
  len : l.length ≤ 9223372036854775807
  ok : ∀ e ∈ l, okI e.1
def LstsAt (w : World) (B : Nat) (A : Option Addr) (xs : List WsE) : Prop := (∀ x ∈ xs, WsOk w B x.A x.l) ∧ ListAt w B 1 A (xs.map wsC)
theorem WsOk.keep {w w' : World} {B : Nat} {A : Option Addr} {l : List (Int × ByteArray)} (h : WsOk w B A l) (hB : B ≤ w.heap.size) (hg : Grew w w') : WsOk w' B A l := ⟨h.at_.keep hB hg, h.len, h.ok⟩
theorem LstsAt.keep {w w' : World} {B : Nat} {A : Option Addr} {xs : List WsE} (h : LstsAt w B A xs) (hB : B ≤ w.heap.size) (hg : Grew w w') : LstsAt w' B A xs := ⟨fun x hx => (h.1 x hx).keep hB hg, h.2.keep hB hg⟩
theorem ws_at {w : World} {B : Nat} {A : Option Addr} {xs : List WsE} (h : LstsAt w B A xs) {k : Nat} (hk : k < xs.length) :
    ∃ b off, A = some ⟨b, off, none⟩ ∧ b < B ∧ w.cell? ⟨b, off + k, none⟩ = some (.slice xs[k].A xs[k].l.length xs[k].c) := by
  obtain ⟨b, off, e, hb, hc⟩ := h.2 (by rw [List.length_map]; omega)
  have hj : (xs.map wsC)[k]? = some (wsC xs[k]) := by rw [List.getElem?_map, List.getElem?_eq_getElem hk]; rfl
  exact ⟨b, off, e, hb, by have := hc k _ hj 0 _ rfl; simpa using this⟩
def fewLs (xs : List WsE) : Bool := xs.all (fun x => shortP x.l 12) && decide (xs.length ≤ 6)
theorem short_facts {l : List (Int × ByteArray)} {n : Nat} (h : shortP l n = true) : (∀ e ∈ l, e.2.size ≤ 200) ∧ l.length ≤ n := by
  unfold shortP at h
  simp only [Bool.and_eq_true, List.all_eq_true, decide_eq_true_eq] at h
  exact h
theorem fewLs_facts {xs : List WsE} (h : fewLs xs = true) : (∀ x ∈ xs, (∀ e ∈ x.l, e.2.size ≤ 200) ∧ x.l.length ≤ 12) ∧ xs.length ≤ 6 := by
  unfold fewLs at h
  simp only [Bool.and_eq_true, List.all_eq_true, decide_eq_true_eq] at h
  exact ⟨fun x hx => short_facts (h.1 x hx), h.2⟩
set_option maxRecDepth 100000 in
set_option maxHeartbeats 1000000 in
theorem few4_any (xs : List WsE) (A : Option Addr) (c : Nat) (w : World) (hat : LstsAt w w.heap.size A xs) (hl : xs.length ≤ 9223372036854775807) :
    Calls Try.prog 23 #[.slice A xs.length c] w fun e w' => e = .returned (.bool (fewLs xs)) ∧ Grew w w' := by
  have HAT := Lib.hid hat
  clear hat
  go_enter Try.func23, Try.ntmps23
  go_wp2_with fail
  go_loopg [7] xs.length (fun gk i' wr => ∃ i : Nat, i ≤ xs.length ∧ gk = xs.length - i ∧ i' = .int .i64 i ∧ Grew w wr ∧ (xs.take i).all (fun x => shortP x.l 12) = true)
  case atStart => exact ⟨0, by omega, by omega, rfl, Grew.refl _, rfl⟩
  case round =>
    obtain ⟨i, hi, hgi, rfl, hg, ht⟩ := hrel
    have HGI := Lib.hid hgi
    have HG := Lib.hid hg
    have HT := Lib.hid ht
    clear hgi hg ht
    by_cases hlt : i < xs.length
    · have hii : (i : Int) < (xs.length : Int) := by omega
      have hk := HAT.out.keep (Nat.le_refl _) HG.out
      obtain ⟨b, off, rfl, hbb, c0⟩ := ws_at hk hlt
      have hgw : w.heap.size ≤ wr.heap.size := HG.out.size
      have hwo := hk.1 _ (List.getElem_mem hlt)
      obtain ⟨⟨A1, c1, l1⟩, he⟩ : ∃ e, xs[i] = e := ⟨_, rfl⟩
      rw [he] at c0 hwo
      simp only at c0 hwo
      have HSH := Lib.hid (short_any l1 A1 c1 12 (by omega) wr (hwo.at_.mono hgw) hwo.len)
      have HE := Lib.hid he
      clear he hk hwo
      cases hb : shortP l1 12 with
      | false =>
        rw [hb] at HSH
        have HF : Hid (fewLs xs = false) := Lib.hid (by
          unfold fewLs
          rw [Bool.and_eq_false_iff]
          left
          rw [List.all_eq_false]
          exact ⟨xs[i], List.getElem_mem hlt, by rw [HE.out]; simp [hb]⟩)
        clear hb
        go_wp2_with fail
        refine HSH.out.mono ?_
        rintro e w2 ⟨rfl, g2⟩
        go_wp2_with fail
        go_ret
        exact ⟨by rw [HF.out]; rfl, HG.out.trans g2⟩
      | true =>
        rw [hb] at HSH
        have HB := Lib.hid hb
        clear hb
        go_wp2_with fail
        refine HSH.out.mono ?_
        rintro e w2 ⟨rfl, g2⟩
        have HG2 := Lib.hid (HG.out.trans g2)
        clear g2
        go_wp2_with fail
        go_roundg (xs.length - (i + 1))
        case measure => rw [HGI.out]; omega
        case rel => exact ⟨i + 1, by omega, by omega, by go_num, HG2.out, by rw [List.take_succ_eq_append_getElem hlt, List.all_append, HT.out, HE.out]; simp [HB.out]⟩
    · obtain rfl : i = xs.length := by omega
      have HE : Hid (fewLs xs = decide ((xs.length : Int) ≤ 6)) := Lib.hid (by
        have := HT.out
        rw [List.take_of_length_le (Nat.le_refl _)] at this
        unfold fewLs
        rw [this, Bool.true_and]
        exact decide_eq_decide.2 (by omega))
      go_wp2_with fail
      go_ret
      exact ⟨by rw [HE.out]; rfl, HG.out⟩
/-- A device and its store behind the first lists, by several systems in turn. -/
def fillK (L : List WsE) (p : Dev × Img) : Nat → Dev × Img
  | 0 => p
  | i + 1 => ((commitP (fillK L p i).1 (sysL (i % 3)) 0 (fairP (fillK L p i).2.n 12 (L.getD i default).l)).1, (fillK L p i).2.next (fairP (fillK L p i).2.n 12 (L.getD i default).l))
theorem zero_cs (n : Nat) : csL (img0 n) = List.replicate n (zeroS 128) := by
  unfold csL
  apply List.ext_getElem?
  intro i
  rw [List.getElem?_map, List.getElem?_replicate]
  rcases Nat.lt_or_ge i n with h | h
  · rw [if_pos h, List.getElem?_range (show i < (img0 n).n from h)]; rfl
  · rw [if_neg (by omega), List.getElem?_eq_none (by rw [List.length_range]; exact h)]; rfl
theorem fair_next {I : Img} (h0 : 0 < I.n) (l : List (Int × ByteArray)) : nextC I (fairP I.n 12 l) = I.next (fairP I.n 12 l) ∧ checkP I.n (fairP I.n 12 l) = 0 ∧ csL (I.next (fairP I.n 12 l)) = withP (csL I) (fairP I.n 12 l) ∧ (I.next (fairP I.n 12 l)).n = I.n ∧ (I.next (fairP I.n 12 l)).N ≤ I.N + 1 ∧ (fairP I.n 12 l).length ≤ 12 ∧ ∀ e ∈ fairP I.n 12 l, 0 ≤ e.1 ∧ e.1 < (I.n : Int) := by
  have hf := fair_ok (most := 12) h0 l
  have hc := hf.check (by omega)
  refine ⟨if_pos hc, hc, next_cs hc, next_n .., ?_, hf.len, fun e he => (hf.all e he).2⟩
  rw [next_N]
  split <;> omega
theorem OwnL.low {w : World} {base base' e sz : Nat} {v : Value} {rows : List (List Value)} (h : OwnL w base e sz v rows) (hb : base' ≤ base) : OwnL w base' e sz v rows := by
  refine ⟨h.1, h.2.1, ?_⟩
  rcases h.2.2 with h0 | ⟨g, cap, cur, hv, hg, hr⟩
  · exact .inl h0
  · exact .inr ⟨g, cap, cur, hv, Nat.le_trans hb hg, hr⟩
theorem Held.re {w0 W : World} {x s m : Nat} {sy ep : Int} {D : Dev} {out out' : Nat → Prop} (h : Held w0 x s m sy ep D out W) (h1 : ∀ k, out' k → out k) (hs : out' s) (hm : out' m) : Held w0 x s m sy ep D out' W := ⟨h.live.few h1, h.store, hs, hm, h.m0⟩
theorem Beside.done {w0 W w1 w2 : World} {x s m : Nat} {sy ep : Int} {D' : Dev} {out out' : Nat → Prop} (hT : Beside w0 out W w1) (hd : Done w0 x s m sy ep D' out' w1 w2) (ho : ∀ k, out k → out' k) (hm : W.heap.size ≤ m) : Beside w0 out W w2 :=
  hT.next hd.turned (fun i hi h9 => h9.elim (fun h8 => ⟨h8.1, fun h7 => h8.2 (ho i h7)⟩) (fun h8 => absurd hi (by omega)))
theorem Beside.andThen {w0 W w1 w2 : World} {out out' : Nat → Prop} (hT : Beside w0 out W w1) (hb : Beside w0 out' w1 w2) (ho : ∀ k, out k → out' k) : Beside w0 out W w2 :=
  hT.trans (hb.mono fun i _ h9 => ⟨h9.1, fun h7 => h9.2 (ho i h7)⟩)
theorem rep_step (i : Nat) (z : ByteArray) : (List.replicate (i + 1) z).map (fun s => [Value.string s]) = (List.replicate i z).map (fun s => [Value.string s]) ++ [[Value.string z]] := by
  rw [List.replicate_succ', List.map_append]
  rfl
def outS (out : Nat → Prop) (s m : Nat) (k : Nat) : Prop := out k ∨ k = s ∨ k = m
set_option maxRecDepth 100000 in
set_option maxHeartbeats 4000000 in
theorem fill_any {w0 : World} {x : Nat} {D : Dev} {out : Nat → Prop} {W : World} {n : Nat} (h : Live w0 x D out W) (hn : Neat D (img0 n)) (xs : List WsE) (A : Option Addr) (c : Nat) (hat : LstsAt w0 w0.heap.size A xs) (hf : fewLs xs = true) :
    Calls Try.prog 31 #[ptrV x, .slice A xs.length c] W fun e w' => ∃ v D' I', e = .returned (.tuple #[v, .bool true]) ∧ OwnL w' W.heap.size 9 1 v ((csL I').map fun s => [.string s]) ∧ Live w0 x D' (also out v) w' ∧ Beside w0 out W w' ∧ Neat D' I' ∧ I'.n = n ∧ I'.N ≤ 1 + xs.length ∧ fillK xs (D, img0 n) xs.length = (D', I') := by
  obtain ⟨hfs, hxl⟩ := fewLs_facts hf
  have hn1 : n ≤ 1024 := hn.clean.img.n1
  have hn0 : 1 ≤ n := hn.clean.img.n0
  have hDl : D.st.length = 131 + n := hn.clean.len
  have hw0 := h.base.size
  have hB0 : Beside w0 out W W := Turned.refl _ _
  have hl0 : Live w0 x D (also out (.slice (some ⟨W.heap.size, 0, none⟩) 0 0)) (W.alloc (.cells #[] 9)) := (h.more ((Grew.refl W).alloc _)).few (fun k hk => hk.elim .inl (fun h9 => .inr (own_lit k h9)))
  have HOP := Lib.hid (openC_any hl0 hn 0 (by omega))
  have HO0 := Lib.hid (OwnL.empty W W.heap.size 9 1 (Nat.le_refl _) rfl)
  have HB0 := Lib.hid hB0
  have HAT := Lib.hid hat
  have HFS := Lib.hid hfs
  have HN := Lib.hid hn
  have HW0 := Lib.hid hw0
  have HZ : Hid (dataS ⟨#[]⟩ = zeroS 128) := Lib.hid dataS_empty
  clear h hn hat hf hfs hB0 hl0
  go_enter Try.func31, Try.ntmps31
  go_wp2_with fail
  refine HOP.out.mono ?_
  rintro e w2 ⟨s, m, rfl, hh, hsz, hb⟩
  rw [show sysL 0 = 1 from rfl] at hh
  have hb2 : Beside w0 out W w2 := Beside.andThen (HB0.out.alloc _) hb (fun k hk => .inl hk)
  have ho2 := HO0.out.beside hb (fun k hk => .inr hk)
  have hh2 : Held w0 x s m 1 0 D (also (outS out s m) (.slice (some ⟨W.heap.size, 0, none⟩) 0 0)) w2 := hh.re (fun k hk => hk.elim (fun h9 => h9.elim (fun h8 => .inl (.inl h8)) .inr) (fun h9 => .inl (.inr h9))) (.inl (.inr (.inl rfl))) (.inl (.inr (.inr rfl)))
  have HSE := Lib.hid (sectors_any' hh2)
  rw [show (D.st.length : Int) - 131 = (n : Int) from by omega] at HSE
  have HH2 := Lib.hid hh2
  have HO2 := Lib.hid ho2
  have HB2 := Lib.hid hb2
  clear hh hsz hb hb2 ho2 hh2
  go_wp2_with fail
  refine HSE.out.mono ?_
  rintro e w3 ⟨rfl, g3⟩
  have HH3 := Lib.hid (HH2.out.grew g3)
  have HO3 := Lib.hid (HO2.out.grew g3)
  have HB3 := Lib.hid (HB2.out.andGrew g3)
  clear g3
  go_wp2_with fail
  go_loopg [6, 23] n (fun gk u i' wr => ∃ i : Nat, i ≤ n ∧ gk = n - i ∧ i' = .int .i64 i ∧ OwnL wr W.heap.size 9 1 u ((List.replicate i (zeroS 128)).map fun s => [.string s]) ∧ Held w0 x s m 1 0 D (also (outS out s m) u) wr ∧ Beside w0 out W wr)
  case atStart => exact ⟨0, by omega, by omega, rfl, HO3.out, HH3.out, HB3.out⟩
  case round =>
    obtain ⟨i, hi, hgi, rfl, hown, hh, ht⟩ := hrel
    have HGI := Lib.hid hgi
    have HOW := Lib.hid hown
    have HH := Lib.hid hh
    have HT := Lib.hid ht
    clear hgi hown hh ht
    by_cases hlt : i < n
    · have hii : (i : Int) < (n : Int) := by omega
      have hrow := Lib.hid HOW.out.row_ge
      have HW2 := Lib.hid HT.out.size
      have HTL := Lib.hid (show ((List.replicate i (zeroS 128)).map fun s => [Value.string s]).length = i by simp)
      go_wp2_with fail
      refine (data_any ⟨#[]⟩ wr (by decide)).mono ?_
      rintro e w4 ⟨rfl, rfl⟩
      rw [HZ.out]
      have hz2 := HW2.out
      go_wp2_with (at_builtin; refine wpList_push2 rfl _ _ 37 rfl W.heap.size 9 1 16 (.string ⟨#[]⟩) Try.underlying37 info_strz rfl (by decide) (wr.alloc (.cells #[.string (zeroS 128)] 9)) _ ((List.replicate i (zeroS 128)).map fun s => [.string s]) [.string (zeroS 128)] rfl rfl (HOW.out.alloc _) wr.heap.size (by rfl) (Blk.new _ _ _ rfl) rfl (by rw [HTL.out]; omega) (by rw [HTL.out]; omega) (by simp; omega) i HTL.out ?_)
      intro g9 cap9 w9 hown9 hgb9 hn9 hl9
      have hh9 : Held w0 x s m 1 0 D (also (outS out s m) (.slice (some ⟨g9, 0, none⟩) (i + 1) cap9)) w9 := Held.own (HH.out.grew ((Grew.refl wr).alloc (.cells #[.string (zeroS 128)] 9))) ⟨.inr (.inl rfl), .inr (.inr rfl)⟩ (HOW.out.alloc _) HW0.out (by decide) hgb9 rfl (by simpa using hn9) hl9
      have ht9 : Beside w0 out W w9 := own_push (HT.out.alloc _) HOW.out.row_ge hgb9
      have HO9 : Hid (OwnL w9 W.heap.size 9 1 (.slice (some ⟨g9, 0, none⟩) (i + 1) cap9) ((List.replicate (i + 1) (zeroS 128)).map fun s => [.string s])) := Lib.hid (by rw [rep_step i (zeroS 128)]; simpa using hown9)
      have HH9 := Lib.hid hh9
      have HT9 := Lib.hid ht9
      clear hown9 hgb9 hn9 hl9 hh9 ht9 hz2
      go_wp2_with fail
      go_roundg (n - (i + 1))
      case measure => rw [HGI.out]; omega
      case rel => exact ⟨i + 1, by omega, by omega, by go_num, HO9.out, HH9.out, HT9.out⟩
    · obtain rfl : i = n := by omega
      have HL5 := Lib.hid (HH.out.live.few (out' := also out u6) (fun k hk => hk.elim (fun h9 => .inl (.inl h9)) .inr))
      rw [← zero_cs i] at HOW
      clear HH
      obtain ⟨wo, hwo⟩ : ∃ wo : World, wo = wr := ⟨_, rfl⟩
      subst hwo
      go_wp2_with fail
      go_loopg [6, 32] xs.length (fun g2 u i' wr => ∃ (j : Nat) (D1 : Dev) (I1 : Img), j ≤ xs.length ∧ g2 = xs.length - j ∧ i' = .int .i64 j ∧ fillK xs (D, img0 i) j = (D1, I1) ∧ Neat D1 I1 ∧ I1.n = i ∧ I1.N ≤ 1 + j ∧ OwnL wr W.heap.size 9 1 u ((csL I1).map fun s => [.string s]) ∧ Live w0 x D1 (also out u) wr ∧ Beside w0 out W wr)
      case atStart => exact ⟨0, D, img0 i, by omega, by omega, rfl, rfl, HN.out, rfl, Nat.le_refl _, HOW.out, HL5.out, HT.out⟩
      case round =>
        obtain ⟨j, D1, I1, hj, hgj, rfl, hk1, hne, hin, hNb, hown, hlv, hbs⟩ := hrel
        have HGJ := Lib.hid hgj
        have HK1 := Lib.hid hk1
        have HNE := Lib.hid hne
        have HIN := Lib.hid hin
        have HNB := Lib.hid hNb
        have HLV := Lib.hid hlv
        have HBS := Lib.hid hbs
        have hcl : ((csL I1).map fun s => [Value.string s]).length = i := by rw [List.length_map, csL_len, hin]
        obtain ⟨B, cb, rfl, hcb1, hcb2, hbl⟩ := hown.listAt
        rw [hcl] at hcb1 hown HLV ⊢
        have HOU := Lib.hid hown
        clear hgj hk1 hne hin hNb hown hlv hbs hbl hcl
        by_cases hlt : j < xs.length
        · have hjj : (j : Int) < (xs.length : Int) := by omega
          have hka := HAT.out.keep (Nat.le_refl _) HLV.out.base
          obtain ⟨b, off, rfl, hbb, c0⟩ := ws_at hka hlt
          have hgw : w0.heap.size ≤ wr.heap.size := HLV.out.base.size
          have hfx := HFS.out _ (List.getElem_mem hlt)
          have hwo := HAT.out.1 _ (List.getElem_mem hlt)
          obtain ⟨⟨A1, c1, l1⟩, he⟩ : ∃ e, xs[j] = e := ⟨_, rfl⟩
          rw [he] at c0 hfx hwo
          simp only at c0 hfx hwo
          have hgd : xs.getD j default = ⟨A1, c1, l1⟩ := by rw [List.getD_eq_getElem?_getD, List.getElem?_eq_getElem hlt, he]; rfl
          obtain ⟨r, hr⟩ : ∃ r : Nat, j % 3 = r := ⟨_, rfl⟩
          have hr3 : r < 3 := by omega
          have hr1 : (j : Int) % 3 = (r : Int) := by omega
          have hr2 : Int.tmod (j : Int) 3 = (r : Int) := by rw [Int.tmod_eq_emod_of_nonneg (by omega)]; exact hr1
          have hw1 : IntKind.u8.wrap (r : Int) = (r : Int) := IntWalk.u8_in _ (by omega)
          have hw2 : IntKind.i64.wrap (r : Int) = (r : Int) := IntWalk.i64_in _ (by omega)
          obtain ⟨q1, q2, q3, q4, q5, q6, q7⟩ := fair_next (I := I1) (by rw [HIN.out]; omega) l1
          rw [HIN.out] at q1 q2 q3 q4 q5 q6 q7
          obtain ⟨fl, hfl⟩ : ∃ fl, fairP i 12 l1 = fl := ⟨_, rfl⟩
          rw [hfl] at q1 q2 q3 q4 q5 q6 q7
          have hstep : fillK xs (D, img0 i) (j + 1) = ((commitP D1 (sysL r) 0 fl).1, I1.next fl) := by
            show ((commitP (fillK xs (D, img0 i) j).1 (sysL (j % 3)) 0 (fairP (fillK xs (D, img0 i) j).2.n 12 (xs.getD j default).l)).1, (fillK xs (D, img0 i) j).2.next (fairP (fillK xs (D, img0 i) j).2.n 12 (xs.getD j default).l)) = _
            rw [HK1.out, hgd, hr]
            show ((commitP D1 (sysL r) 0 (fairP I1.n 12 l1)).1, I1.next (fairP I1.n 12 l1)) = _
            rw [HIN.out, hfl]
          have HOP := Lib.hid (openC_any HLV.out HNE.out r (by omega))
          have HWO := Lib.hid hwo
          have HFX := Lib.hid hfx
          have HFL := Lib.hid hfl
          have HQ := Lib.hid (And.intro q1 (And.intro q2 (And.intro q3 (And.intro q4 (And.intro q5 (And.intro q6 q7))))))
          have HST := Lib.hid hstep
          have HTM := Lib.hid hr2
          have hi0 : 0 < i ∧ i ≤ 1024 := by omega
          have hj6 : j ≤ 6 := by omega
          have hsy := sysL_bd r
          have HHS := Lib.hid hsy
          clear hka hfx hwo he hgd q1 q2 q3 q4 q5 q6 q7 hfl hstep hsy hr
          go_wp2_with fail
          refine HOP.out.mono ?_
          rintro e wa ⟨s1, m1, rfl, hh, hsz, hb⟩
          have hba := HBS.out.andThen hb (fun k hk => .inl hk)
          have hoa := HOU.out.beside hb (fun k hk => .inr hk)
          have hga := HWO.out.keep (Nat.le_refl _) hh.live.base
          have HFA := Lib.hid (fair_any l1 A1 c1 i 12 hi0 (by omega) wa (hga.at_.mono hh.live.base.size) (by have := HFX.out.2; omega) hga.ok (fun e he => by have := HFX.out.1 e he; omega))
          rw [HFL.out] at HFA
          have hszW := HBS.out.size
          have HSZ := Lib.hid (show W.heap.size ≤ m1 from Nat.le_trans hszW hsz.2)
          have HHa := Lib.hid hh
          have HBa := Lib.hid hba
          have HOa := Lib.hid hoa
          clear hh hsz hb hba hoa hga hszW
          go_wp2_with fail
          refine HFA.out.mono ?_
          rintro e wb ⟨vf, rfl, hof, gf⟩
          have hhb := HHa.out.also_new (v := vf) gf (fun k hk => hof.own_ge hk)
          have hob := HOa.out.grew gf
          have hbb2 := HBa.out.andGrew gf
          obtain ⟨Bv, cv, rfl, hcv1, hcv2, hatv⟩ := hof.listAt
          rw [List.length_map] at hcv1 hof hhb ⊢
          have HCM := Lib.hid (commitC_any hhb HHS.out HNE.out (by have := HNB.out; omega) fl (by have := HQ.out.2.2.2.2.2.1; omega) (fun e he => by have := HQ.out.2.2.2.2.2.2 e he; unfold okI; omega) Bv cv hatv (fun _ b off e => .inr (.inr (by rw [e]; rfl))))
          rw [show checkP I1.n fl = 0 from by rw [HIN.out]; exact HQ.out.2.1, HQ.out.1] at HCM
          have HHb := Lib.hid hhb
          have HOb := Lib.hid hob
          have HBb := Lib.hid hbb2
          have HOF := Lib.hid hof
          clear gf hhb hob hbb2 hcv1 hcv2 hof
          go_wp2_with fail
          refine HCM.out.mono ?_
          rintro e wc ⟨rfl, D2, hd, hn2, hD2⟩
          have hoc := HOb.out.done HHb.out.store hd (fun k hk => .inl (.inl (.inr hk)))
          have hofc := HOF.out.done HHb.out.store hd (fun k hk => .inr hk)
          have hbc := Beside.done HBb.out hd (fun k hk => .inl (.inl (.inl hk))) HSZ.out
          obtain ⟨_, _, eB, _, _, hatB⟩ := hoc.listAt
          obtain ⟨_, _, eV, _, _, hatV⟩ := hofc.listAt
          injection eB with eB1 eB2 eB3
          injection eV with eV1 eV2 eV3
          subst eB1; subst eV1
          have HWI := Lib.hid (withL_any (csL I1) fl B Bv cb cv wc hatB hatV (by rw [csL_len, HIN.out]; omega) (by rw [csL_len, HIN.out]; omega) (by have := HQ.out.2.2.2.2.2.1; omega))
          rw [csL_len, HIN.out] at HWI
          have HLc := Lib.hid hd.live
          have HBc := Lib.hid hbc
          have HN2 := Lib.hid hn2
          have HD2 := Lib.hid hD2
          clear hd hoc hofc hbc eB2 eB3 eV2 eV3 hatB hatV hn2 hD2
          go_wp2_with fail
          refine HWI.out.mono ?_
          rintro e wd ⟨v2, rfl, ho2, g2⟩
          have hl2 := (HLc.out.more g2).few (out' := also out v2) (fun k hk => hk.elim (fun h9 => .inl (.inl (.inl (.inl h9)))) (fun h9 => .inr (ho2.own_ge h9)))
          have ho3 := ho2.low HBc.out.size
          rw [← HQ.out.2.2.1] at ho3
          have hb2 := HBc.out.andGrew g2
          have HL2 := Lib.hid hl2
          have HO3 := Lib.hid ho3
          have HB2 := Lib.hid hb2
          clear ho2 g2 hl2 ho3 hb2
          go_wp2_with fail
          go_roundg (xs.length - (j + 1))
          case measure => rw [HGJ.out]; omega
          case rel => exact ⟨j + 1, D2, I1.next fl, by omega, by omega, by go_num, by rw [HST.out, HD2.out], HN2.out, by rw [HQ.out.2.2.2.1], by have := HQ.out.2.2.2.2.1; have := HNB.out; omega, HO3.out, HL2.out, HB2.out⟩
        · obtain rfl : j = xs.length := by omega
          go_wp2_with fail
          go_ret2
          exact ⟨_, D1, I1, rfl, HOU.out, HLV.out, HBS.out, HNE.out, HIN.out, HNB.out, HK1.out⟩
end Go.Proofs.Ytbddelefglhaaaa
namespace Go.Proofs.Ytbddelefglhaaaa
set_option linter.unusedVariables false
set_option linter.unusedSimpArgs false
set_option linter.unusedSectionVars false
open Go.RowKit
def verN (s : ByteArray) : Nat := (numS (s.extract 128 132)).toNat
end Go.Proofs.Ytbddelefglhaaaa
namespace Go.Proofs.Ytbddelefglhaaaa
set_option linter.unusedVariables false
set_option linter.unusedSimpArgs false
set_option linter.unusedSectionVars false
open Go.RowKit
/-- A harm: a sector, a byte and its mask, how far back. -/
structure HarmD where
  raw : Nat
  at_ : Nat
  mask : Nat
  back : Nat
def HarmD.ok (h : HarmD) : Prop := h.raw < 65536 ∧ h.at_ < 65536 ∧ h.mask < 256 ∧ h.back < 256
def HarmD.sec (h : HarmD) (first last : Nat) : Nat := first + h.raw % (last - first + 1)
def HarmD.bits (h : HarmD) : UInt8 := UInt8.ofNat (h.mask ||| 1)
def harm1 (first last : Nat) (dmg : Bool) (p : Dev × List Nat) (h : HarmD) : Dev × List Nat :=
  if h.sec first last ∈ p.2 then p
  else if dmg = false ∧ h.mask % 2 = 0 ∧ 0 < earlierD p.1 (h.sec first last : Nat) then ((returnD p.1 (h.sec first last : Nat) (1 + ((h.back % earlierD p.1 (h.sec first last : Nat) : Nat) : Int))).1, h.sec first last :: p.2)
  else ((damageD p.1 (h.sec first last : Nat) ((h.at_ % 140 : Nat) : Int) h.bits).1, h.sec first last :: p.2)
def harmP (first last : Nat) (dmg : Bool) (D : Dev) (l : List HarmD) : Dev × List Nat := l.foldl (harm1 first last dmg) (D, [])
theorem harmP_step (first last : Nat) (dmg : Bool) (D : Dev) (l : List HarmD) (k : Nat) (hk : k < l.length) : harmP first last dmg D (l.take (k + 1)) = harm1 first last dmg (harmP first last dmg D (l.take k)) l[k] := by
  unfold harmP
  rw [List.take_succ_eq_append_getElem hk, List.foldl_append]
  rfl
structure Harmed (first last : Nat) (dmg : Bool) (D D' : Dev) (H : List Nat) : Prop where
  out : ∀ i, i ∉ H → D'.at i = D.at i
  inn : ∀ i ∈ H, (∃ (k : Nat) (m : UInt8), k < 140 ∧ m ≠ 0 ∧ D'.at i = xorB (D.at i) k m) ∨ (dmg = false ∧ D'.at i ∈ D.olds i)
  rng : ∀ i ∈ H, first ≤ i ∧ i ≤ last
  nodup : H.Nodup
  ok : D'.Ok
  len : D'.st.length = D.st.length
  old : D'.old = D.old
  pend : D'.pend = D.pend
  fen : D'.fen = D.fen
  fuse : D'.fuse = D.fuse
  failed : D'.failed = D.failed
theorem Harmed.refl (first last : Nat) (dmg : Bool) {D : Dev} (h : D.Ok) : Harmed first last dmg D D [] := ⟨fun _ _ => rfl, fun i hi => (by cases hi), fun i hi => (by cases hi), List.nodup_nil, h, rfl, rfl, rfl, rfl, rfl, rfl⟩
theorem bits_ne (h : HarmD) (hok : h.ok) : h.bits ≠ 0 := by
  have key : ∀ m : Fin 256, UInt8.ofNat (m.1 ||| 1) ≠ 0 := by decide +kernel
  exact key ⟨h.mask, hok.2.2.1⟩
theorem set_at (D : Dev) (i : Nat) (s : ByteArray) (hi : i < D.st.length) (j : Nat) : ({ D with st := D.st.set i s } : Dev).at j = if j = i then s else D.at j := by
  unfold Dev.at
  show (D.st.set i s).getD j emp = _
  rw [List.getD_eq_getElem?_getD, List.getElem?_set]
  by_cases hj : j = i
  · subst hj
    rw [if_pos rfl, if_pos hi, if_pos rfl]
    rfl
  · rw [if_neg (fun h => hj h.symm), if_neg hj, List.getD_eq_getElem?_getD]
theorem set_ok {D : Dev} (h : D.Ok) (i : Nat) (s : ByteArray) (hs : s.size = 140) : ({ D with st := D.st.set i s } : Dev).Ok := by
  refine ⟨by simp [h.len], by simp [h.pos], by simpa using h.lim, fun t ht => ?_, h.old, fun r hr => by simpa using h.pend r hr, h.fen⟩
  rcases List.mem_or_eq_of_mem_set ht with h9 | h9
  · exact h.st t h9
  · rw [h9]; exact hs
theorem Harmed.more {first last : Nat} {dmg : Bool} {D D' : Dev} {H : List Nat} (h : Harmed first last dmg D D' H) {i : Nat} (hi : i ∉ H) (hr : first ≤ i ∧ i ≤ last) (hl : i < D.st.length) {s : ByteArray} (hs : s.size = 140) (hin : (∃ (k : Nat) (m : UInt8), k < 140 ∧ m ≠ 0 ∧ s = xorB (D.at i) k m) ∨ (dmg = false ∧ s ∈ D.olds i)) : Harmed first last dmg D { D' with st := D'.st.set i s } (i :: H) := by
  have hat := set_at D' i s (by rw [h.len]; exact hl)
  refine ⟨fun j hj => ?_, fun j hj => ?_, fun j hj => ?_, List.nodup_cons.2 ⟨hi, h.nodup⟩, set_ok h.ok i s hs, (List.length_set ..).trans h.len, h.old, h.pend, h.fen, h.fuse, h.failed⟩
  · rw [hat, if_neg (fun e => hj (by rw [e]; exact List.mem_cons_self ..)), h.out j (fun h9 => hj (List.mem_cons_of_mem _ h9))]
  · rw [hat]
    rcases List.mem_cons.1 hj with h9 | h9
    · rw [if_pos h9, h9]; exact hin
    · rw [if_neg (fun e => hi (by rw [← e]; exact h9))]
      exact h.inn j h9
  · rcases List.mem_cons.1 hj with h9 | h9
    · rw [h9]; exact hr
    · exact h.rng j h9
theorem harm1_ok {first last : Nat} {dmg : Bool} {D : Dev} (hD : D.Ok) (hr : first ≤ last) (hl : last < D.st.length) {p : Dev × List Nat} (hp : Harmed first last dmg D p.1 p.2) (h : HarmD) (hok : h.ok) : Harmed first last dmg D (harm1 first last dmg p h).1 (harm1 first last dmg p h).2 ∧
    ((h.sec first last ∈ p.2 ∧ harm1 first last dmg p h = p) ∨ (h.sec first last ∉ p.2 ∧ (harm1 first last dmg p h).2 = h.sec first last :: p.2)) := by
  have hb : first ≤ h.sec first last ∧ h.sec first last ≤ last := by
    unfold HarmD.sec
    have := Nat.mod_lt h.raw (show last - first + 1 > 0 by omega)
    omega
  have hth : thereD p.1 (h.sec first last : Nat) = true := by
    unfold thereD
    exact decide_eq_true ⟨by omega, by rw [hp.len]; omega⟩
  unfold harm1
  by_cases h1 : h.sec first last ∈ p.2
  · rw [if_pos h1]
    exact ⟨hp, .inl ⟨h1, rfl⟩⟩
  rw [if_neg h1]
  by_cases h2 : dmg = false ∧ h.mask % 2 = 0 ∧ 0 < earlierD p.1 (h.sec first last : Nat)
  · rw [if_pos h2]
    refine ⟨?_, .inr ⟨h1, rfl⟩⟩
    have he : earlierD p.1 (h.sec first last : Nat) = (p.1.olds (h.sec first last)).length := by unfold earlierD; rw [if_pos hth, Int.toNat_natCast]
    have hol : p.1.olds (h.sec first last) = D.olds (h.sec first last) := by unfold Dev.olds; rw [hp.old]
    have hm : h.back % earlierD p.1 (h.sec first last : Nat) < (D.olds (h.sec first last)).length := by rw [he, hol]; exact Nat.mod_lt _ (by rw [← hol, ← he]; exact h2.2.2)
    obtain ⟨b, hbk⟩ : ∃ b, h.back % earlierD p.1 (h.sec first last : Nat) = b := ⟨_, rfl⟩
    rw [hbk] at hm ⊢
    have hret : (returnD p.1 (h.sec first last : Nat) (1 + (b : Int))).1 = { p.1 with st := p.1.st.set (h.sec first last) ((D.olds (h.sec first last)).getD b emp) } := by
      unfold returnD
      rw [if_neg (by
        rw [hth, Int.toNat_natCast, hol]
        intro h9
        rcases h9 with h9 | h9 | h9
        · cases h9
        · omega
        · omega), Int.toNat_natCast, hol, show (1 + (b : Int)).toNat - 1 = b from by omega]
    rw [hret]
    have hg : (D.olds (h.sec first last)).getD b emp ∈ D.olds (h.sec first last) := by
      rw [List.getD_eq_getElem?_getD, List.getElem?_eq_getElem hm]
      exact List.getElem_mem hm
    exact hp.more h1 hb (by omega) (olds_size hD _ _ hg) (.inr ⟨h2.1, hg⟩)
  · rw [if_neg h2]
    refine ⟨?_, .inr ⟨h1, rfl⟩⟩
    have hk : h.at_ % 140 < 140 := Nat.mod_lt _ (by omega)
    have hdm : (damageD p.1 (h.sec first last : Nat) ((h.at_ % 140 : Nat) : Int) h.bits).1 = { p.1 with st := p.1.st.set (h.sec first last) (xorB (D.at (h.sec first last)) (h.at_ % 140) h.bits) } := by
      unfold damageD
      rw [if_neg (by
        rw [hth]
        intro h9
        rcases h9 with h9 | h9 | h9
        · cases h9
        · omega
        · omega), if_neg (bits_ne h hok), Int.toNat_natCast, Int.toNat_natCast, hp.out _ h1]
    rw [hdm]
    exact hp.more h1 hb (by omega) (by rw [xorB_size']; exact at_size hD (by omega)) (.inl ⟨_, _, hk, bits_ne h hok, rfl⟩)
end Go.Proofs.Ytbddelefglhaaaa
namespace Go.Proofs.Ytbddelefglhaaaa
set_option linter.unusedVariables false
set_option linter.unusedSimpArgs false
set_option linter.unusedSectionVars false
open Go.RowKit
/-- A raw sector of which a byte is changed is not readable as any. -/
theorem damage_shut2 (s : ByteArray) (i j : Int) (k : Nat) (m : UInt8) (h : okR s i) (hk : k < 140) (hm : m ≠ 0) : ¬ okR (xorB s k m) j := by
  obtain ⟨h1, h2, _⟩ := h
  rintro ⟨g1, g2, _⟩
  by_cases c1 : k < 136
  · rw [xorB_out _ _ _ 136 140 (.inl (by omega)), xorB_in _ _ _ 0 136 (Nat.zero_le _) (by omega), h2] at g2
    exact sum_one _ _ m (by rw [ByteArray.size_extract]; omega) hm g2.symm
  · rw [xorB_in _ _ _ 136 140 (by omega) (by omega), xorB_out _ _ _ 0 136 (.inr (by omega)), ← h2] at g2
    have e := congrArg bytesS g2
    rw [bytes_num _ (by rw [xorB_size', ByteArray.size_extract]; omega), bytes_num _ (by rw [ByteArray.size_extract]; omega)] at e
    exact xorB_ne _ _ m (by rw [ByteArray.size_extract]; omega) hm e
/-- Not readable, or older than it should be. -/
def badR (idx ver : Nat) (s : ByteArray) : Prop := ¬ okR s (idx : Nat) ∨ verN s < ver
/-- A device that holds a store, some of whose map and data sectors are bad. -/
structure Sick (F : Dev) (I : Img) (H : List Nat) : Prop where
  ok : F.Ok
  img : I.Ok
  len : F.st.length = 131 + I.n
  live : F.failed = false
  pend : F.pend = []
  noint : intentL F = []
  top : F.at 0 = I.topR
  map : ∀ k, k < 32 → F.at (1 + k) = I.mapR k ∨ (1 + k ∈ H ∧ badR (1 + k) (I.ms k) (F.at (1 + k)))
  dat : ∀ i, i < I.n → F.at (131 + i) = I.datR i ∨ (131 + i ∈ H ∧ badR (131 + i) (I.vs i) (F.at (131 + i)))
theorem Sick.content {F : Dev} {I : Img} {H : List Nat} (h : Sick F I H) (i : Nat) : F.content i = F.at i := by unfold Dev.content; rw [h.pend]; rfl
theorem Sick.topI {F : Dev} {I : Img} {H : List Nat} (h : Sick F I H) : topI F = ⟨vbytes I.tops, nv I.N, true⟩ := by
  unfold Go.Proofs.Ytbddelefglhaaaa.topI
  rw [h.content, h.top]
  unfold Img.topR
  rw [rawOf_pack]
  unfold Img.tops
  rw [vb32]
theorem Sick.finD {F : Dev} {I : Img} {H : List Nat} (h : Sick F I H) (sy ep : Int) : finD F sy ep = (F, false, 0) := by
  unfold Go.Proofs.Ytbddelefglhaaaa.finD
  rw [if_neg (by rw [h.live]; simp), if_pos h.noint]
/-- What is read of a bad sector has another version, or is not readable. -/
theorem bad_raw {idx ver : Nat} {s : ByteArray} (h : badR idx ver s) (hv : ver < 4294967296) : (rawOf s (idx : Nat)).ok = false ∨ ((rawOf s (idx : Nat)).ok = true ∧ (rawOf s (idx : Nat)).ver ≠ nv ver) := by
  unfold rawOf
  by_cases hk : okR s (idx : Nat)
  · rw [if_pos hk]
    right
    refine ⟨rfl, fun e => ?_⟩
    have h2 := h.resolve_left (fun h9 => h9 hk)
    unfold verN at h2
    have e2 : numS (s.extract 128 132) = nv ver := e
    rw [e2, nv_toNat ver hv] at h2
    exact Nat.lt_irrefl _ h2
  · rw [if_neg hk]
    exact .inl rfl
/-- Each data sector is read with its last content, or as bad; and then it or its map sector was harmed. -/
theorem Sick.look {F : Dev} {I : Img} {H : List Nat} (h : Sick F I H) (i : Nat) (hi : i < I.n) : lookI F i = (I.cs i, 0) ∨ (((lookI F i).2 = 11 ∨ (lookI F i).2 = 12) ∧ (131 + i ∈ H ∨ 1 + i / 32 ∈ H)) := by
  have hn := h.img.n1
  have hk : i / 32 < 32 := by omega
  have hms := h.img.ms (i / 32)
  have hvs := h.img.vs i
  have hNN := h.img.N
  have hft : fld (vbytes I.tops) (i / 32) = nv (I.ms (i / 32)) := by unfold Img.tops; rw [fld32 _ _ hk]
  have hfm : fld (vbytes (I.mapL (i / 32))) (i % 32) = nv (I.vs i) := by
    unfold Img.mapL
    rw [fld32 _ _ (Nat.mod_lt _ (by omega))]
    unfold Img.mv
    rw [show 32 * (i / 32) + i % 32 = i from by omega, if_pos hi]
  unfold lookI
  rw [h.topI, if_neg (by simp)]
  rcases h.map (i / 32) hk with hm | ⟨hmH, hm⟩
  · have hmi : mapI F (i / 32) = ⟨vbytes (I.mapL (i / 32)), nv (I.ms (i / 32)), true⟩ := by
      unfold Go.Proofs.Ytbddelefglhaaaa.mapI
      rw [h.content, hm]
      unfold Img.mapR
      rw [rawOf_pack]
      unfold Img.mapL
      rw [vb32]
    rw [hmi, if_neg (by simp), if_neg (fun h9 => h9 hft.symm)]
    rcases h.dat i hi with hd | ⟨hdH, hd⟩
    · have hdi : datI F i = ⟨I.cs i, nv (I.vs i), true⟩ := by
        unfold Go.Proofs.Ytbddelefglhaaaa.datI
        rw [h.content, hd]
        unfold Img.datR
        rw [rawOf_pack, dataS_full _ (h.img.cs i hi)]
      rw [hdi, if_neg (by simp), if_neg (fun h9 => h9 hfm.symm)]
      exact .inl rfl
    · have hb : (datI F i).ok = false ∨ ((datI F i).ok = true ∧ (datI F i).ver ≠ nv (I.vs i)) := by
        unfold Go.Proofs.Ytbddelefglhaaaa.datI
        rw [h.content]
        exact bad_raw hd (by omega)
      right
      refine ⟨?_, .inl hdH⟩
      rcases hb with hb | ⟨hb1, hb2⟩
      · rw [if_pos hb]; exact .inl rfl
      · rw [if_neg (by rw [hb1]; simp), if_pos (by show (datI F i).ver ≠ fld (vbytes (I.mapL (i / 32))) (i % 32); rw [hfm]; exact hb2)]
        exact .inr rfl
  · have hb : (mapI F (i / 32)).ok = false ∨ ((mapI F (i / 32)).ok = true ∧ (mapI F (i / 32)).ver ≠ nv (I.ms (i / 32))) := by
      unfold Go.Proofs.Ytbddelefglhaaaa.mapI
      rw [h.content]
      exact bad_raw hm (by omega)
    right
    refine ⟨?_, .inr hmH⟩
    rcases hb with hb | ⟨hb1, hb2⟩
    · rw [if_pos hb]; exact .inl rfl
    · rw [if_neg (by rw [hb1]; simp), if_pos (by show (mapI F (i / 32)).ver ≠ fld (vbytes I.tops) (i / 32); rw [hft]; exact hb2)]
      exact .inr rfl
theorem Sick.read {F : Dev} {I : Img} {H : List Nat} (h : Sick F I H) (sy ep : Int) (i : Nat) (hi : i < I.n) : ∃ d er, readP F sy ep (i : Int) = (F, d, er) ∧ ((er = 0 ∧ d = I.cs i) ∨ ((er = 11 ∨ er = 12) ∧ (131 + i ∈ H ∨ 1 + i / 32 ∈ H))) := by
  have hl := h.len
  unfold readP
  rw [h.finD, if_neg (by simp), if_neg (by omega), Int.toNat_natCast]
  rcases h.look i hi with h9 | ⟨h9, h8⟩
  · exact ⟨_, _, rfl, .inl ⟨by show (lookI F i).2 = 0; rw [h9], by show (if (lookI F i).2 = 0 then (lookI F i).1 else emptyS) = _; rw [h9]; rfl⟩⟩
  · exact ⟨_, _, rfl, .inr ⟨h9, h8⟩⟩
end Go.Proofs.Ytbddelefglhaaaa
namespace Go.Proofs.Ytbddelefglhaaaa
set_option linter.unusedVariables false
set_option linter.unusedSimpArgs false
set_option linter.unusedSectionVars false
open Go.RowKit
theorem Harmed.content {first last : Nat} {dmg : Bool} {D D' : Dev} {I : Img} {H : List Nat} (hh : Harmed first last dmg D D' H) (h : Clean D I) (i : Nat) : D'.content i = D'.at i := by unfold Dev.content; rw [hh.pend, h.pend]; rfl
theorem okR_pack (d : ByteArray) (v : U32) (i : Int) : okR (packS d v i) i := by
  obtain ⟨h1, h2, _, _, h5⟩ := pack_parts d v i
  exact ⟨packS_size d v i, by rw [h1, h2, num_bytes], by rw [h5, num_bytes]⟩
end Go.Proofs.Ytbddelefglhaaaa
namespace Go.Proofs.Ytbddelefglhaaaa
set_option linter.unusedVariables false
set_option linter.unusedSimpArgs false
set_option linter.unusedSectionVars false
open Go.RowKit
structure Hurt (D : Dev) (I : Img) (H : List Nat) : Prop where
  ok : D.Ok
  img : I.Ok
  len : D.st.length = 131 + I.n
  live : D.failed = false
  pend : D.pend = []
  fen : D.fen = fun _ => 0
  fuse : D.fuse = none
  head : D.at 33 = blankR
  top : 0 ∉ H → D.at 0 = I.topR
  topH : 0 ∈ H → ¬ okR (D.at 0) ((0 : Nat) : Int)
  map : ∀ k, k < 32 → 1 + k ∉ H → D.at (1 + k) = I.mapR k
  mapH : ∀ k, k < 32 → 1 + k ∈ H → ¬ okR (D.at (1 + k)) ((1 + k : Nat) : Int)
  dat : ∀ i, i < I.n → D.at (131 + i) = I.datR i
theorem hurt_of {D D' : Dev} {I : Img} {H : List Nat} (hn : Neat D I) (hh : Harmed 0 32 true D D' H) : Hurt D' I H := by
  have hc := hn.clean
  have hbad : ∀ i, i ∈ H → ∀ (d : ByteArray) (v : U32), D.at i = packS d v (i : Nat) → ¬ okR (D'.at i) (i : Nat) := fun i hi d v hp => by
    rcases hh.inn i hi with ⟨k, m, hk, hm, he⟩ | ⟨h9, _⟩
    · rw [he]
      exact damage_shut2 _ (i : Nat) _ k m (by rw [hp]; exact okR_pack d v (i : Nat)) hk hm
    · cases h9
  have hno : ∀ i, 33 ≤ i → i ∉ H := fun i hi h9 => by have := (hh.rng i h9).2; omega
  exact ⟨hh.ok, hc.img, hh.len.trans hc.len, hh.failed.trans hc.live, hh.pend.trans hc.pend, hh.fen.trans hn.fen, hh.fuse.trans hn.fuse, by rw [hh.out 33 (hno 33 (by omega)), hc.head], fun h9 => by rw [hh.out 0 h9, hc.top], fun h9 => hbad 0 h9 _ _ hc.top, fun k hk h9 => by rw [hh.out _ h9, hc.map k hk], fun k hk h9 => hbad (1 + k) h9 _ _ (hc.map k hk), fun i hi => by rw [hh.out _ (hno _ (by omega)), hc.dat i hi]⟩
section
variable {D : Dev} {I : Img} {H : List Nat} (h : Hurt D I H)
include h
theorem Hurt.content (i : Nat) : D.content i = D.at i := by unfold Dev.content; rw [h.pend]; rfl
theorem Hurt.calm {sy : Int} (hs : 1 ≤ sy ∧ sy ≤ 4) : Calm D sy 0 := ⟨h.ok, h.live, by unfold plainW; exact decide_eq_true ⟨hs.1, hs.2, by omega, by omega⟩, by rw [h.fen]; show ¬ (0 : Int) < 0; omega⟩
theorem Hurt.noint : intentL D = [] := noint_blank D (by rw [h.content, h.head])
theorem Hurt.finD (sy ep : Int) : finD D sy ep = (D, false, 0) := by
  unfold Go.Proofs.Ytbddelefglhaaaa.finD
  rw [if_neg (by rw [h.live]; simp), if_pos h.noint]
theorem Hurt.topY (h0 : 0 ∉ H) : topI D = ⟨vbytes I.tops, nv I.N, true⟩ := by
  unfold Go.Proofs.Ytbddelefglhaaaa.topI
  rw [h.content, h.top h0]
  unfold Img.topR
  rw [rawOf_pack]
  unfold Img.tops
  rw [vb32]
theorem Hurt.topN (h0 : 0 ∈ H) : topI D = rawZ := by
  unfold Go.Proofs.Ytbddelefglhaaaa.topI rawOf
  rw [h.content]
  exact if_neg (h.topH h0)
theorem Hurt.mapY (k : Nat) (hk : k < 32) (h0 : 1 + k ∉ H) : mapI D k = ⟨vbytes (I.mapL k), nv (I.ms k), true⟩ := by
  unfold Go.Proofs.Ytbddelefglhaaaa.mapI
  rw [h.content, h.map k hk h0]
  unfold Img.mapR
  rw [rawOf_pack]
  unfold Img.mapL
  rw [vb32]
theorem Hurt.mapN (k : Nat) (hk : k < 32) (h0 : 1 + k ∈ H) : mapI D k = rawZ := by
  unfold Go.Proofs.Ytbddelefglhaaaa.mapI rawOf
  rw [h.content, if_neg (h.mapH k hk h0)]
theorem Hurt.datY (i : Nat) (hi : i < I.n) : datI D i = ⟨I.cs i, nv (I.vs i), true⟩ := by
  unfold Go.Proofs.Ytbddelefglhaaaa.datI
  rw [h.content, h.dat i hi]
  unfold Img.datR
  rw [rawOf_pack, dataS_full _ (h.img.cs i hi)]
end
/-- The version of a data sector, or 0. -/
def Img.ownV (I : Img) (i : Nat) : Nat := if i < I.n then I.vs i else 0
/-- The store behind Mend. -/
def Img.mend (I : Img) (H : List Nat) (v : Nat) : Img := ⟨I.n, v, fun k => if k < 32 then (if 1 + k ∈ H then v else I.ms k) else 0, fun i => I.ownV i, I.cs⟩
def badL (H : List Nat) (q : Nat) : List Nat := (List.range q).filter fun k => decide (1 + k ∈ H)
theorem badL_succ (H : List Nat) (q : Nat) : badL H (q + 1) = if 1 + q ∈ H then badL H q ++ [q] else badL H q := by
  unfold badL
  rw [List.range_succ, List.filter_append]
  by_cases hq : 1 + q ∈ H
  · rw [if_pos hq]; simp [hq]
  · rw [if_neg hq]; simp [hq]
theorem badL_mem (H : List Nat) (q k : Nat) : k ∈ badL H q ↔ k < q ∧ 1 + k ∈ H := by
  unfold badL
  rw [List.mem_filter, List.mem_range, decide_eq_true_eq]
theorem badL_nodup (H : List Nat) (q : Nat) : (badL H q).Nodup := List.nodup_range.filter _
theorem badL_len (H : List Nat) (q : Nat) : (badL H q).length ≤ q := by
  unfold badL
  refine Nat.le_trans (List.length_filter_le _ _) ?_
  simp
theorem nodup_sub : ∀ (a b : List Nat), a.Nodup → (∀ x ∈ a, x ∈ b) → a.length ≤ b.length := by
  intro a
  induction a with
  | nil => intro b _ _; exact Nat.zero_le _
  | cons x a ih =>
    intro b hn hs
    rw [List.nodup_cons] at hn
    have hx := hs x (List.mem_cons_self ..)
    have h1 := ih (b.erase x) hn.2 (fun y hy => (List.mem_erase_of_ne (fun e => hn.1 (by rw [← e]; exact hy))).2 (hs y (List.mem_cons_of_mem _ hy)))
    rw [List.length_erase_of_mem hx] at h1
    have := List.length_pos_of_mem hx
    rw [List.length_cons]
    omega
/-- How many there are. -/
theorem badL_count {H : List Nat} (hn : H.Nodup) (hr : ∀ i ∈ H, i ≤ 32) : (badL H 32).length ≤ H.length ∧ (badL H 32 = [] → 0 ∉ H → H = []) := by
  constructor
  · have hnd : ((badL H 32).map (1 + ·)).Nodup := by
      rw [List.Nodup, List.pairwise_map]
      exact (badL_nodup H 32).imp (fun {a b} hab he => hab (by omega))
    have := nodup_sub _ H hnd (fun x hx => by
      obtain ⟨k, hk, rfl⟩ := List.mem_map.1 hx
      exact ((badL_mem H 32 k).1 hk).2)
    rwa [List.length_map] at this
  · intro hb h0
    apply List.eq_nil_iff_forall_not_mem.2
    intro i hi
    have hi32 := hr i hi
    have hi0 : i ≠ 0 := fun e => h0 (by rw [← e]; exact hi)
    have h9 : i - 1 ∈ badL H 32 := (badL_mem H 32 (i - 1)).2 ⟨by omega, by rw [show 1 + (i - 1) = i from by omega]; exact hi⟩
    rw [hb] at h9
    cases h9
def mendW (I : Img) (H : List Nat) (v : Nat) : Wl := ((badL H 32).map fun k => (1 + k, (I.mend H v).mapR k)) ++ [(0, (I.mend H v).topR)]
theorem mend_clean {D : Dev} {I : Img} {H : List Nat} (h : Hurt D I H) {sy : Int} (hs : 1 ≤ sy ∧ sy ≤ 4) (v : Nat) (hv : v < 4294967296) (hms : ∀ k, k < 32 → 1 + k ∉ H → I.ms k ≤ v) (hvs : ∀ i, i < I.n → I.vs i ≤ v) : ∃ E, runS sy 0 (puts (mendW I H v) ++ [.sync]) D = (E, 0) ∧ Clean E (I.mend H v) ∧ E.fen = D.fen ∧ E.fuse = none := by
  have hw : okW D (mendW I H v) := fun e he => by
    unfold mendW at he
    rcases List.mem_append.1 he with he | he
    · obtain ⟨k, hk, rfl⟩ := List.mem_map.1 he
      have := ((badL_mem H 32 k).1 hk).1
      exact ⟨by show 1 + k < _; rw [h.len]; omega, packS_size ..⟩
    · rw [List.mem_singleton.1 he]
      exact ⟨by show 0 < _; rw [h.len]; omega, packS_size ..⟩
  have hnd : ((mendW I H v).map (·.1)).Nodup := by
    unfold mendW
    rw [List.map_append, List.map_map, List.nodup_append]
    refine ⟨?_, by simp, ?_⟩
    · rw [List.Nodup, List.pairwise_map]
      exact (badL_nodup H 32).imp (fun {a b} hab he => hab (by simp only [Function.comp] at he; omega))
    · intro a ha b hb e
      obtain ⟨k, _, rfl⟩ := List.mem_map.1 ha
      simp at hb
      simp only [Function.comp] at e
      omega
  have hrun := runS_list sy 0 (mendW I H v) D (h.calm hs) h.fuse h.pend hw
  have k := applyW_kept (mendW I H v) D h.ok hw
  have hat : ∀ i, (applyW D (mendW I H v)).at i = (lastE (mendW I H v) i).getD (D.at i) := applyW_at _ _ hw
  have hin : ∀ e ∈ mendW I H v, (applyW D (mendW I H v)).at e.1 = e.2 := fun e he => by rw [hat, lastE_one _ hnd e he]; rfl
  have hplace : ∀ e ∈ mendW I H v, e.1 ≤ 32 ∧ (e.1 = 0 ∨ ∃ k, e.1 = 1 + k ∧ k < 32 ∧ 1 + k ∈ H) := fun e he => by
    unfold mendW at he
    rcases List.mem_append.1 he with he | he
    · obtain ⟨k, hk, rfl⟩ := List.mem_map.1 he
      have := (badL_mem H 32 k).1 hk
      exact ⟨by show 1 + k ≤ 32; omega, .inr ⟨k, rfl, this⟩⟩
    · rw [List.mem_singleton.1 he]
      exact ⟨by show 0 ≤ 32; omega, .inl rfl⟩
  have hmv : ∀ q j, (I.mend H v).mv q j = I.mv q j := fun q j => by
    unfold Img.mv
    show (if 32 * q + j < I.n then I.ownV (32 * q + j) else 0) = _
    split
    · rename_i hc
      unfold Img.ownV
      rw [if_pos hc]
    · rfl
  refine ⟨applyW D (mendW I H v), hrun, ⟨⟨k.ok, ⟨h.img.n0, h.img.n1, hv, fun q => ?_, fun i => ?_, h.img.cs⟩, k.len.trans h.len, k.failed.trans h.live, k.pend.trans h.pend, ?_, fun q hq => ?_, fun i hi => ?_⟩, ?_⟩, k.fen, k.fuse.trans h.fuse⟩
  · show (if q < 32 then (if 1 + q ∈ H then v else I.ms q) else 0) ≤ v
    split
    · split
      · exact Nat.le_refl _
      · rename_i h1 h2
        exact hms q h1 h2
    · exact Nat.zero_le _
  · show I.ownV i ≤ v
    unfold Img.ownV
    split
    · rename_i h1
      exact hvs i h1
    · exact Nat.zero_le _
  · exact hin (0, (I.mend H v).topR) (List.mem_append_right _ (List.mem_singleton.2 rfl))
  · by_cases hqH : 1 + q ∈ H
    · exact hin (1 + q, (I.mend H v).mapR q) (List.mem_append_left _ (List.mem_map.2 ⟨q, (badL_mem H 32 q).2 ⟨hq, hqH⟩, rfl⟩))
    · rw [hat, lastE_none _ _ (fun e he e9 => by
        rcases (hplace e he).2 with h9 | ⟨k', h9, _, h8⟩
        · omega
        · exact hqH (by rw [show q = k' from by omega]; exact h8))]
      show D.at (1 + q) = _
      rw [h.map q hq hqH]
      have e1 : (I.mend H v).mapL q = I.mapL q := by
        unfold Img.mapL
        exact List.map_congr_left (fun j _ => by rw [hmv])
      unfold Img.mapR
      rw [e1]
      show packS _ (nv (I.ms q)) _ = packS _ (nv (if q < 32 then (if 1 + q ∈ H then v else I.ms q) else 0)) _
      rw [if_pos hq, if_neg hqH]
  · have hi' : i < I.n := hi
    rw [hat, lastE_none _ _ (fun e he e9 => by have := (hplace e he).1; omega)]
    show D.at (131 + i) = _
    rw [h.dat i hi']
    unfold Img.datR
    show packS (I.cs i) (nv (I.vs i)) _ = packS (I.cs i) (nv (I.ownV i)) _
    unfold Img.ownV
    rw [if_pos hi']
  · rw [hat, lastE_none _ _ (fun e he e9 => by have := (hplace e he).1; omega)]
    exact h.head
end Go.Proofs.Ytbddelefglhaaaa
namespace Go.Proofs.Ytbddelefglhaaaa
set_option linter.unusedVariables false
set_option linter.unusedSimpArgs false
set_option linter.unusedSectionVars false
open Go.RowKit Go.MapKept
attribute [local go_sem ↓] Go.wp_at_zero Go.wp_at_succ
theorem map_len {α : Type} {P : Program} {k : TypeId} {kv : α → Value} {w : World} {m : Nat} {F : α → Option Value} (h : MapIs P k kv w m F) (H : List α) (hn : H.Nodup) (hF : ∀ a, (∃ v, F a = some v) ↔ a ∈ H) {t e : TypeId} (ht : P.underlying t = some (.map k e)) (ty : TypeId) : (Builtin.len_ #[t] ty #[.map (some m)]).run P w = .ok (.int .i64 (H.length : Int)) w := by
  obtain ⟨es, clock, l, hb, he, hnd, hok, hFl, _⟩ := h
  have hlen : es.size = l.length := by
    have := congrArg List.length he
    simpa using this
  have hp : (l.map (·.1)).Perm H := by
    refine (List.perm_ext_iff_of_nodup hnd hn).2 (fun a => ?_)
    rw [← hF]
    constructor
    · intro ha
      obtain ⟨p, hp, rfl⟩ := List.mem_map.1 ha
      exact ⟨p.2, (hFl _ _).2 hp⟩
    · rintro ⟨v, hv⟩
      exact List.mem_map.2 ⟨(a, v), (hFl _ _).1 hv, rfl⟩
  have hl := hp.length_eq
  rw [List.length_map] at hl
  have e1 : es.size = H.length := by omega
  simp [Builtin.len_, run_underlying ht, MapKept.run_getObj_map hb, goInt, Result.andThen, e1]
section
variable {w0 : World} {x s m : Nat} {sy ep : Int} {D : Dev} {I : Img} {out : Nat → Prop} {W : World}
set_option maxRecDepth 100000 in
set_option maxHeartbeats 2000000 in
theorem bad_any (h : Held w0 x s m sy ep D out W) (hid : Idle D I) : Calls Try.prog 36 #[ptrV s] W fun e w' => e = .returned (.tuple #[.slice none 0 0, .int .i64 0]) ∧ Done w0 x s m sy ep D out W w' := by
  have hlen : 132 ≤ D.st.length ∧ D.st.length ≤ 1155 := by have := hid.len; have := hid.img.n0; have := hid.img.n1; omega
  have hfin : finD D sy ep = (D, false, 0) := by
    unfold finD
    rw [if_neg (by rw [hid.live]; simp), if_pos hid.noint]
  have HF := Lib.hid (finish_any h hlen.1 (by rw [hid.pend]; simp) D false 0 hfin)
  obtain ⟨n, hn⟩ : ∃ n : Nat, I.n = n := ⟨_, rfl⟩
  have hnl : D.st.length = 131 + n := by rw [hid.len, hn]
  have hn1 : n ≤ 1024 := by omega
  have HLK := Lib.hid (fun (i : Nat) (hi : i < n) => hid.toHolds.look i (by rw [hn]; exact hi))
  have HLV := Lib.hid hid.live
  have HNL := Lib.hid hnl
  have hls := h.store.lt
  have hw0 := h.live.base.size
  have HH := Lib.hid h
  clear h hlen hfin hn hid
  go_enter Try.func36, Try.ntmps36
  go_wp2_with fail
  refine HF.out.mono ?_
  rintro e w1 ⟨rfl, hd⟩
  have HD := Lib.hid hd
  have hh1 := held_up0 (HH.out.done hd)
  have hws : W.heap.size ≤ w1.heap.size := hd.turned.size
  have HLW := Lib.hid (show (w0.heap.size ≤ w1.heap.size ∧ s < w1.heap.size) ∧ m < w1.heap.size from ⟨⟨by omega, by omega⟩, by omega⟩)
  have HH1 := Lib.hid hh1
  clear hd hh1 HF hls
  go_wp2_with fail
  refine (view_any s D w1.heap.size w1 (Nat.le_refl _)).mono ?_
  rintro e w2 ⟨gv, mm, rfl, hview, g2⟩
  have HH2 := Lib.hid (HH1.out.up HLW.out.1 HLW.out.2 (g2.turned _) (HH1.out.store.grew g2))
  have HV2 := Lib.hid hview
  have HT2 := Lib.hid (g2.turned (fun q => q = m ∨ w1.heap.size ≤ q))
  have HSE := Lib.hid (sectors_any' HH2.out)
  rw [show (D.st.length : Int) - 131 = (n : Int) from by have := HNL.out; omega] at HSE
  clear hview g2
  go_wp2_with fail
  refine HSE.out.mono ?_
  rintro e w3 ⟨rfl, g3⟩
  have HT3 := Lib.hid (HT2.out.andGrew g3)
  have HH3 := Lib.hid (HH1.out.up HLW.out.1 HLW.out.2 HT3.out (HH2.out.store.grew g3))
  have HV3 := Lib.hid (HV2.out.grew g3)
  clear g3
  go_wp2_with fail
  go_loopg [6, 23] n (fun gk u i' wr => u = .slice none 0 0 ∧ ∃ i : Nat, i ≤ n ∧ gk = n - i ∧ i' = .int .i64 i ∧ Held w0 x s m sy ep D (up out w1.heap.size wr) wr ∧ ViewM wr w1.heap.size gv s mm D ∧ Turned (fun q => q = m ∨ w1.heap.size ≤ q) w1 wr)
  case atStart => exact ⟨rfl, 0, by omega, by omega, rfl, HH3.out, HV3.out, HT3.out⟩
  case round =>
    obtain ⟨rfl, i, hi, hgi, rfl, hh, hv, ht⟩ := hrel
    have HGI := Lib.hid hgi
    have HHR := Lib.hid hh
    have HVR := Lib.hid hv
    have HTR := Lib.hid ht
    clear hgi hh hv ht
    by_cases hlt : i < n
    · have hii : (i : Int) < (n : Int) := by omega
      have HG := Lib.hid (get_any HHR.out HLW.out.1 (by have := HNL.out; omega) HLV.out HLW.out.2 HVR.out i (by have := HNL.out; omega) (by omega))
      rw [HLK.out i hlt] at HG
      go_wp2_with fail
      refine HG.out.mono ?_
      rintro e w5 ⟨rfl, hh5, hv5, ht5⟩
      have hvl : w1.heap.size ≤ gv ∧ w1.heap.size ≤ mm := by obtain ⟨topv, F, hv⟩ := hv5; exact ⟨hv.lg, hv.lm⟩
      have HT5 : Hid (Turned (fun q => q = m ∨ w1.heap.size ≤ q) w1 w5) := Lib.hid (HTR.out.trans (ht5.mono fun k _ hk => by rcases hk with hk | hk | hk; exact .inl hk; exact .inr (by omega); exact .inr (by omega)))
      have HH5 := Lib.hid hh5
      have HV5 := Lib.hid hv5
      clear hh5 hv5 ht5 hvl
      go_wp2_with fail
      go_roundg (n - (i + 1))
      case measure => rw [HGI.out]; omega
      case rel => exact ⟨rfl, i + 1, by omega, by omega, by go_num, HH5.out, HV5.out, HT5.out⟩
    · obtain rfl : i = n := by omega
      go_wp2_with fail
      go_ret2
      exact ⟨rfl, done_up HD.out HHR.out HTR.out⟩
end
end Go.Proofs.Ytbddelefglhaaaa
namespace Go.Proofs.Ytbddelefglhaaaa
set_option linter.unusedVariables false
set_option linter.unusedSimpArgs false
set_option linter.unusedSectionVars false
open Go.RowKit
attribute [local go_sem ↓] Go.wp_at_zero Go.wp_at_succ
theorem WsOk.on {w w' : World} {A : Option Addr} {l : List (Int × ByteArray)} (h : WsOk w w.heap.size A l) (hg : Grew w w') : WsOk w' w'.heap.size A l := ⟨(h.at_.keep (Nat.le_refl _) hg).mono hg.size, h.len, h.ok⟩
theorem own_at {w : World} {base e sz : Nat} {B : Option Addr} {n c : Nat} {rows : List (List Value)} (h : OwnL w base e sz (.slice B n c) rows) : ListAt w w.heap.size sz B rows := by
  obtain ⟨_, _, e1, _, _, h2⟩ := h.listAt
  injection e1 with e1 _ _
  subst e1
  exact h2
end Go.Proofs.Ytbddelefglhaaaa
