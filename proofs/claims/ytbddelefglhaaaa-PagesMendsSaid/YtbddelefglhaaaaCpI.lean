/- Chapter 4: the error of writes (pages.Store.check). Chapter 4: writes, cloned (slices.Clone at api.SectorWrite); in order (plain). Chapter 4: what Commit keeps in memory (the map sectors that it changes). slices.SortFunc, laid at this program (written by lay.py out of the kit's own command). Chapter 4: writes are sorted (slices.SortFunc at api.SectorWrite). Chapter 4: Commit, what it needs. Chapter 4: the steps of a commit, done (Commit$2 and the last call of Commit). -/
import Derived.Shelf.SlSortCmp.WholeK
import Derived.Shelf.SlSortCmp.NoneTotal
import Derived.Deep.LoopGhost
import Derived.Test.YtbddelefglhaaaaCpA
import Derived.Test.YtbddelefglhaaaaCpH
namespace Go.Proofs.Ytbddelefglhaaaa
set_option linter.unusedVariables false
set_option linter.unusedSimpArgs false
set_option linter.unusedSectionVars false
open Go.RowKit
attribute [local go_sem ↓] Go.wp_at_zero Go.wp_at_succ
def seenF (l : List Int) : Int → Option Value := fun a => if a ∈ l then some (.bool true) else none
theorem seenF_snoc (l : List Int) (a : Int) : ∀ b, upd (seenF l) a (some (.bool true)) b = seenF (l ++ [a]) b := by
  intro b
  unfold seenF
  by_cases h : b = a
  · subst h; rw [upd_same, if_pos (by simp)]
  · rw [upd_other _ _ h]
    by_cases h2 : b ∈ l
    · rw [if_pos h2, if_pos (by simp [h2])]
    · rw [if_neg h2, if_neg (by simp [h2, h])]
theorem zero_bool4 (w : World) : (zeroValue 4).run Try.prog w = .ok (.bool false) w := by kernel_rfl
theorem take_map_snoc (ws : List (Int × ByteArray)) (k : Nat) (hk : k < ws.length) : ((ws.take (k + 1)).map (·.1)) = (ws.take k).map (·.1) ++ [ws[k].1] := by
  rw [List.take_succ_eq_append_getElem hk, List.map_append]
  try rfl
theorem check_size {n : Nat} {ws : List (Int × ByteArray)} (k : Nat) (hk : k < ws.length) (h : ws[k].2.size ≠ 128) : checkP n ws = 1 := by
  unfold checkP
  rw [if_pos (.inl (List.any_eq_true.2 ⟨ws[k], List.getElem_mem hk, by simpa using h⟩))]
theorem check_dup {n : Nat} {ws : List (Int × ByteArray)} (k : Nat) (hk : k < ws.length) (h : ws[k].1 ∈ (ws.take k).map (·.1)) : checkP n ws = 1 := by
  have hn : ¬ (ws.map (·.1)).Nodup := by
    intro hn
    have h1 : ((ws.take (k + 1)).map (·.1)).Nodup := (hn.sublist ((List.take_sublist _ _).map _))
    rw [take_map_snoc ws k hk] at h1
    exact (List.nodup_append.1 h1).2.2 _ h _ (List.mem_singleton.2 rfl) rfl
  unfold checkP
  rw [if_pos (.inr hn)]
theorem check_range {n : Nat} {ws : List (Int × ByteArray)} (h1 : ∀ e ∈ ws, e.2.size = 128) (h2 : (ws.map (·.1)).Nodup) (k : Nat) (hk : k < ws.length) (h : ws[k].1 < 0 ∨ (n : Int) ≤ ws[k].1) : checkP n ws = 2 := by
  unfold checkP
  rw [if_neg (by simp only [not_or, Decidable.not_not]; exact ⟨by rw [Bool.not_eq_true, List.any_eq_false]; intro e he; simp [h1 e he], h2⟩), if_pos (List.any_eq_true.2 ⟨ws[k], List.getElem_mem hk, by simpa using h⟩)]
theorem check_end {n : Nat} {ws : List (Int × ByteArray)} (h1 : ∀ e ∈ ws, e.2.size = 128) (h2 : (ws.map (·.1)).Nodup) (h3 : ∀ e ∈ ws, ¬ (e.1 < 0 ∨ (n : Int) ≤ e.1)) : checkP n ws = if 64 < ws.length then 8 else 0 := by
  unfold checkP
  rw [if_neg (by simp only [not_or, Decidable.not_not]; exact ⟨by rw [Bool.not_eq_true, List.any_eq_false]; intro e he; simp [h1 e he], h2⟩), if_neg (by rw [Bool.not_eq_true, List.any_eq_false]; intro e he; simpa using h3 e he)]
section
variable {w0 : World} {x s m : Nat} {sy ep : Int} {D : Dev} {out : Nat → Prop} {W : World}
set_option maxRecDepth 100000 in
set_option maxHeartbeats 4000000 in
theorem check_any (h : Held w0 x s m sy ep D out W) (hlen : 132 ≤ D.st.length ∧ D.st.length ≤ 1155) (ws : List (Int × ByteArray)) (hl : ws.length ≤ 1000000) (hok : ∀ e ∈ ws, okI e.1) (A : Option Addr) (c : Nat) (hat : ListAt W W.heap.size 2 A (ws.map entC)) :
    Calls Try.prog 51 #[ptrV s, .slice A ws.length c] W fun e w' => e = .returned (.int .i64 (checkP (D.st.length - 131) ws)) ∧ Grew W w' := by
  have hmm := @run_makeMap Try.prog
  have HM0 : Hid (MapI (W.alloc (.map #[] 0)) W.heap.size (seenF [])) := Lib.hid ((MapIs.made _ rfl).congr (fun a => rfl))
  obtain ⟨n, hn⟩ : ∃ n : Nat, D.st.length - 131 = n := ⟨_, rfl⟩
  rw [hn]
  have hni : (D.st.length : Int) - 131 = (n : Int) := by omega
  have HSE := Lib.hid (fun (w1 : World) (hg : Grew W w1) => sectors_any' (h.grew hg))
  rw [hni] at HSE
  have HAT := Lib.hid hat
  have HOK := Lib.hid hok
  clear h hlen hat hn hok hni
  go_enter Try.func51, Try.ntmps51
  go_wp2_with fail
  clear hmm
  go_loopg [13] ws.length (fun gk i wr => ∃ k : Nat, k ≤ ws.length ∧ gk = ws.length - k ∧ i = .int .i64 k ∧ MapI wr W.heap.size (seenF ((ws.take k).map (·.1))) ∧ Grew W wr ∧ (∀ j (hj : j < k) (hj2 : j < ws.length), ws[j].2.size = 128) ∧ ((ws.take k).map (·.1)).Nodup)
  case atStart => exact ⟨0, by omega, by omega, rfl, HM0.out, by (repeat' first | (with_reducible exact Grew.refl _) | (with_reducible assumption) | (with_reducible refine Grew.alloc ?_ _) | (with_reducible refine Grew.drew ?_) | (with_reducible refine Grew.drewN ?_ _) | (with_reducible refine Grew.setRow ?_ (by first | (simp; done) | (simp; omega) | omega) _) | (with_reducible refine Grew.setCell ?_ (by first | (simp; done) | (simp; omega) | omega) _) | ((with_reducible apply Grew.trans); rotate_left; (with_reducible assumption)) | ((with_reducible apply Grew.turn); rotate_left; (with_reducible assumption); (focus (intro i hi; first | omega | (simp at hi; omega)))) | fail), fun j hj => absurd hj (by omega), by simp⟩
  case round =>
    obtain ⟨k, hk, hgk, rfl, hm, hg, hsz, hnd⟩ := hrel
    have HGK := Lib.hid hgk
    have HM := Lib.hid hm
    have HG := Lib.hid hg
    have HSZ := Lib.hid hsz
    have HND := Lib.hid hnd
    clear hgk hm hg hsz hnd
    by_cases hlt : k < ws.length
    · obtain ⟨b, off, rfl, hbb, c0, c1⟩ := ent_at (HAT.out.keep (Nat.le_refl _) HG.out) hlt
      have hki : (k : Int) < (ws.length : Int) := by omega
      by_cases hs : ws[k].2.size = 128
      · have hsb : ((ws[k].2.size : Int) != 128) = false := by rw [hs]; rfl
        obtain ⟨kl, hkl⟩ := int_key ws[k].1 (HOK.out _ (List.getElem_mem hlt))
        have HKL := Lib.hid hkl
        have hm2 := HM.out.alloc (.cells #[.int .i64 ws[k].1, .string ws[k].2] 72)
        have hlk := hm2.lookup_val int_keyedI intV_inj Try.underlying61 (zero_bool4 _) ws[k].1 hkl
        have HM2 := Lib.hid hm2
        by_cases hin : ws[k].1 ∈ (ws.take k).map (·.1)
        · rw [show seenF ((ws.take k).map (·.1)) ws[k].1 = some (.bool true) from if_pos hin, Option.getD_some] at hlk
          have HC := Lib.hid (check_dup (n := n) k hlt hin)
          clear hin hs hkl hm2
          go_wp2_with fail
          go_ret
          rw [HC.out]
          exact ⟨rfl, HG.out.alloc _⟩
        · rw [show seenF ((ws.take k).map (·.1)) ws[k].1 = none from if_neg hin, Option.getD_none] at hlk
          have HS := Lib.hid hs
          have HIN := Lib.hid hin
          clear hin hs hkl hm2
          go_wp2_with (refine wpList_mapUpdate_is rfl _ _ _ 61 rfl 4 int_keyedI intV_inj Try.underlying61 rfl HM2.out ws[k].1 HKL.out (.bool true) rfl rfl ?_; intro w3 hm3 ht3; have HM3 := Lib.hid hm3; have HT3 := Lib.hid ht3; clear hm3 ht3)
          go_roundg (ws.length - (k + 1))
          case measure => rw [HGK.out]; omega
          case rel =>
            refine ⟨k + 1, by omega, by omega, by go_num, HM3.out.congr (fun a => by rw [take_map_snoc ws k hlt]; exact seenF_snoc _ _ a), (HG.out.alloc _).turn HT3.out (fun i e => by rw [e]; exact Nat.le_refl _), fun j hj hj2 => ?_, ?_⟩
            · rcases Nat.lt_or_ge j k with h9 | h9
              · exact HSZ.out j h9 hj2
              · have : j = k := by omega
                subst this; exact HS.out
            · rw [take_map_snoc ws k hlt]
              exact List.nodup_append.2 ⟨HND.out, by simp, fun a ha b hb => by rw [List.mem_singleton.1 hb]; exact fun e => HIN.out (e ▸ ha)⟩
      · have hsb : ((ws[k].2.size : Int) != 128) = true := by rw [bne_iff_ne]; omega
        have HC := Lib.hid (check_size (n := n) k hlt hs)
        clear hs
        go_wp2_with fail
        go_ret
        rw [HC.out]
        exact ⟨rfl, HG.out.alloc _⟩
    · obtain rfl : ws.length = k := by omega
      have H1 : Hid (∀ e ∈ ws, e.2.size = 128) := Lib.hid (fun e he => by
        obtain ⟨j, hj, rfl⟩ := List.mem_iff_getElem.1 he
        exact HSZ.out j hj hj)
      have H2 : Hid ((ws.map (·.1)).Nodup) := Lib.hid (by have := HND.out; rw [List.take_of_length_le (Nat.le_refl _)] at this; exact this)
      clear hlt
      obtain ⟨wa, hwa⟩ : ∃ wa : World, wa = wr := ⟨_, rfl⟩
      subst hwa
      go_wp2_with fail
      go_loopg [33] ws.length (fun gk i wr => ∃ k : Nat, k ≤ ws.length ∧ gk = ws.length - k ∧ i = .int .i64 k ∧ Grew W wr ∧ (∀ j (hj : j < k) (hj2 : j < ws.length), ¬ (ws[j].1 < 0 ∨ (n : Int) ≤ ws[j].1)))
      case atStart => exact ⟨0, by omega, by omega, rfl, HG.out, fun j hj => absurd hj (by omega)⟩
      case round =>
        obtain ⟨k, hk2, hgk, rfl, hg, hrg⟩ := hrel
        have HGK2 := Lib.hid hgk
        have HG2 := Lib.hid hg
        have HRG := Lib.hid hrg
        clear hgk hg hrg
        by_cases hlt : k < ws.length
        · obtain ⟨b, off, rfl, hbb, c0, c1⟩ := ent_at (HAT.out.keep (Nat.le_refl _) HG2.out) hlt
          have hki : (k : Int) < (ws.length : Int) := by omega
          have hx : Blk (wr.alloc (.cells #[.int .i64 ws[k].1, .string ws[k].2] 72)) wr.heap.size 72 #[.int .i64 ws[k].1, .string ws[k].2] := Blk.new wr _ _ rfl
          have HX := Lib.hid hx
          have HGA := Lib.hid (HG2.out.alloc (.cells #[.int .i64 ws[k].1, .string ws[k].2] 72))
          clear hx
          go_wp2_with fail
          refine wp_region_R [] (fun w' : World => w'.cell? ⟨wr.heap.size, 0, none⟩ = some (.int .i64 ws[k].1) ∧ wr.heap.size < w'.heap.size) (by kernel_rfl) ?_
          have hS := (show (fun w' : World => w'.cell? ⟨wr.heap.size, 0, none⟩ = some (.int .i64 ws[k].1) ∧ wr.heap.size < w'.heap.size) (wr.alloc (.cells #[.int .i64 ws[k].1, .string ws[k].2] 72)).drew from ⟨HX.out.drew.cell 0, HX.out.drew.lt⟩)
          by_cases hneg : ws[k].1 < 0
          · have hin : decide (ws[k].1 < 0) = true := decide_eq_true hneg
            have HC := Lib.hid (check_range (n := n) H1.out H2.out k hlt (.inl hneg))
            refine wpAnyR_takeQ (i := 0) (v := ?_) (some 37) rfl rfl (by kernel_rfl) (by kernel_rfl) (by kernel_rfl) (by kernel_rfl) (fun _ _ _ h => h) (Or.inl ⟨by rfl, ?_⟩) ?_
            rotate_left
            focus (intro wS hSw; (try dsimp only at hSw); go_simp; (try with_reducible rfl); (try (first | (rw [if_pos (by omega)]; (try go_simp); (try with_reducible rfl)) | (rw [if_neg (by omega)]; (try go_simp); (try with_reducible rfl)))))
            try simp only [Act.put, List.setIfInBounds_toArray, List.set_cons_zero, List.set_cons_succ]
            refine wpAnyR_take (i := 1) (v := ?_) [2, 3, 4, 5, 6, 7, 8, 9] (some 38) rfl rfl (by kernel_rfl) (by kernel_rfl) (by kernel_rfl) (by kernel_rfl) (by kernel_rfl) (by kernel_rfl) (by kernel_rfl) (fun _ _ _ h => h) (Or.inl ⟨by rfl, ?_⟩) hS ?_
            rotate_left
            focus (intro wS hSw; (try dsimp only at hSw); go_simp; (try with_reducible rfl); (try (first | (rw [if_pos (by omega)]; (try go_simp); (try with_reducible rfl)) | (rw [if_neg (by omega)]; (try go_simp); (try with_reducible rfl)))))
            try simp only [Act.put, List.setIfInBounds_toArray, List.set_cons_zero, List.set_cons_succ]
            refine wpAnyR_takeQ (i := 2) (v := ?_) (some 39) rfl rfl (by kernel_rfl) (by kernel_rfl) (by kernel_rfl) (by kernel_rfl) (fun _ _ _ h => h) (Or.inl ⟨by rfl, ?_⟩) ?_
            rotate_left
            focus (intro wS hSw; (try dsimp only at hSw); go_simp; (try with_reducible rfl); (try (first | (rw [if_pos (by omega)]; (try go_simp); (try with_reducible rfl)) | (rw [if_neg (by omega)]; (try go_simp); (try with_reducible rfl)))))
            try simp only [Act.put, List.setIfInBounds_toArray, List.set_cons_zero, List.set_cons_succ]
            refine wpAnyR_takeQ (i := 3) (v := ?_) (some 40) rfl rfl (by kernel_rfl) (by kernel_rfl) (by kernel_rfl) (by kernel_rfl) (fun _ _ _ h => h) (Or.inl ⟨by rfl, ?_⟩) ?_
            rotate_left
            focus (intro wS hSw; (try dsimp only at hSw); go_simp; (try with_reducible rfl); (try (first | (rw [if_pos (by omega)]; (try go_simp); (try with_reducible rfl)) | (rw [if_neg (by omega)]; (try go_simp); (try with_reducible rfl)))))
            try simp only [Act.put, List.setIfInBounds_toArray, List.set_cons_zero, List.set_cons_succ]
            refine wpAnyR_takeQ (i := 4) (v := undef) (some 41) rfl rfl (by kernel_rfl) (by kernel_rfl) (by kernel_rfl) (by kernel_rfl) (fun _ _ _ h => h) (Or.inr ⟨by rfl, rfl⟩) ?_
            try simp only [Act.put, List.setIfInBounds_toArray, List.set_cons_zero, List.set_cons_succ]
            refine wpAnyR_takeQ (i := 5) (v := undef) (some 42) rfl rfl (by kernel_rfl) (by kernel_rfl) (by kernel_rfl) (by kernel_rfl) (fun _ _ _ h => h) (Or.inr ⟨by rfl, rfl⟩) ?_
            try simp only [Act.put, List.setIfInBounds_toArray, List.set_cons_zero, List.set_cons_succ]
            refine wpAnyR_takeQ (i := 6) (v := undef) (some 43) rfl rfl (by kernel_rfl) (by kernel_rfl) (by kernel_rfl) (by kernel_rfl) (fun _ _ _ h => h) (Or.inr ⟨by rfl, rfl⟩) ?_
            try simp only [Act.put, List.setIfInBounds_toArray, List.set_cons_zero, List.set_cons_succ]
            refine wpAnyR_takeQ (i := 7) (v := undef) (some 44) rfl rfl (by kernel_rfl) (by kernel_rfl) (by kernel_rfl) (by kernel_rfl) (fun _ _ _ h => h) (Or.inr ⟨by rfl, rfl⟩) ?_
            try simp only [Act.put, List.setIfInBounds_toArray, List.set_cons_zero, List.set_cons_succ]
            refine wpAnyR_takeQ (i := 8) (v := undef) (some 45) rfl rfl (by kernel_rfl) (by kernel_rfl) (by kernel_rfl) (by kernel_rfl) (fun _ _ _ h => h) (Or.inr ⟨by rfl, rfl⟩) ?_
            try simp only [Act.put, List.setIfInBounds_toArray, List.set_cons_zero, List.set_cons_succ]
            refine wpAnyR_takeQ (i := 9) (v := ?_) (some 46) rfl rfl (by kernel_rfl) (by kernel_rfl) (by kernel_rfl) (by kernel_rfl) (fun _ _ _ h => h) (Or.inl ⟨by rfl, ?_⟩) ?_
            rotate_left
            focus (intro wS hSw; (try dsimp only at hSw); go_simp; (try with_reducible rfl); (try (first | (rw [if_pos (by omega)]; (try go_simp); (try with_reducible rfl)) | (rw [if_neg (by omega)]; (try go_simp); (try with_reducible rfl)))))
            try simp only [Act.put, List.setIfInBounds_toArray, List.set_cons_zero, List.set_cons_succ]
            refine wpAnyR_done (by kernel_rfl) ?_ _
            go_wp2_with fail
            go_ret
            rw [HC.out]
            exact ⟨rfl, HGA.out.drew⟩
          · have hin : decide (ws[k].1 < 0) = false := decide_eq_false hneg
            refine wpAnyR_takeQ (i := 0) (v := ?_) (some 37) rfl rfl (by kernel_rfl) (by kernel_rfl) (by kernel_rfl) (by kernel_rfl) (fun _ _ _ h => h) (Or.inl ⟨by rfl, ?_⟩) ?_
            rotate_left
            focus (intro wS hSw; (try dsimp only at hSw); go_simp; (try with_reducible rfl); (try (first | (rw [if_pos (by omega)]; (try go_simp); (try with_reducible rfl)) | (rw [if_neg (by omega)]; (try go_simp); (try with_reducible rfl)))))
            try simp only [Act.put, List.setIfInBounds_toArray, List.set_cons_zero, List.set_cons_succ]
            refine wpAnyR_take (i := 1) (v := ?_) [2, 3, 4, 5, 6, 7, 8, 9] (some 38) rfl rfl (by kernel_rfl) (by kernel_rfl) (by kernel_rfl) (by kernel_rfl) (by kernel_rfl) (by kernel_rfl) (by kernel_rfl) (fun _ _ _ h => h) (Or.inl ⟨by rfl, ?_⟩) hS ?_
            rotate_left
            focus (intro wS hSw; (try dsimp only at hSw); go_simp; (try with_reducible rfl); (try (first | (rw [if_pos (by omega)]; (try go_simp); (try with_reducible rfl)) | (rw [if_neg (by omega)]; (try go_simp); (try with_reducible rfl)))))
            try simp only [Act.put, List.setIfInBounds_toArray, List.set_cons_zero, List.set_cons_succ]
            refine wpAnyR_takeQ (i := 2) (v := ?_) (some 39) rfl rfl (by kernel_rfl) (by kernel_rfl) (by kernel_rfl) (by kernel_rfl) (fun _ _ _ h => h) (Or.inl ⟨by rfl, ?_⟩) ?_
            rotate_left
            focus (intro wS hSw; (try dsimp only at hSw); go_simp; (try with_reducible rfl); (try (first | (rw [if_pos (by omega)]; (try go_simp); (try with_reducible rfl)) | (rw [if_neg (by omega)]; (try go_simp); (try with_reducible rfl)))))
            try simp only [Act.put, List.setIfInBounds_toArray, List.set_cons_zero, List.set_cons_succ]
            refine wpAnyR_takeQ (i := 3) (v := ?_) (some 40) rfl rfl (by kernel_rfl) (by kernel_rfl) (by kernel_rfl) (by kernel_rfl) (fun _ _ _ h => h) (Or.inl ⟨by rfl, ?_⟩) ?_
            rotate_left
            focus (intro wS hSw; (try dsimp only at hSw); go_simp; (try with_reducible rfl); (try (first | (rw [if_pos (by omega)]; (try go_simp); (try with_reducible rfl)) | (rw [if_neg (by omega)]; (try go_simp); (try with_reducible rfl)))))
            try simp only [Act.put, List.setIfInBounds_toArray, List.set_cons_zero, List.set_cons_succ]
            refine wpAnyR_takeQ (i := 4) (v := ?_) (some 41) rfl rfl (by kernel_rfl) (by kernel_rfl) (by kernel_rfl) (by kernel_rfl) (fun _ _ _ h => h) (Or.inl ⟨by rfl, ?_⟩) ?_
            rotate_left
            focus (intro wS hSw; (try dsimp only at hSw); go_simp; (try with_reducible rfl); (try (first | (rw [if_pos (by omega)]; (try go_simp); (try with_reducible rfl)) | (rw [if_neg (by omega)]; (try go_simp); (try with_reducible rfl)))))
            try simp only [Act.put, List.setIfInBounds_toArray, List.set_cons_zero, List.set_cons_succ]
            refine wpAnyR_take (i := 5) (v := ?_) [8, 9] (some 42) rfl rfl (by kernel_rfl) (by kernel_rfl) (by kernel_rfl) (by kernel_rfl) (by kernel_rfl) (by kernel_rfl) (by kernel_rfl) (fun _ _ _ h => h) (Or.inl ⟨by rfl, ?_⟩) hS ?_
            rotate_left
            focus (intro wS hSw; (try dsimp only at hSw); go_simp; (try with_reducible rfl); (try (first | (rw [if_pos (by omega)]; (try go_simp); (try with_reducible rfl)) | (rw [if_neg (by omega)]; (try go_simp); (try with_reducible rfl)))))
            try simp only [Act.put, List.setIfInBounds_toArray, List.set_cons_zero, List.set_cons_succ]
            refine wpAnyR_takeQ (i := 6) (v := ?_) (some 43) rfl rfl (by kernel_rfl) (by kernel_rfl) (by kernel_rfl) (by kernel_rfl) (fun _ _ _ h => h) (Or.inl ⟨by rfl, ?_⟩) ?_
            rotate_left
            focus (intro wS hSw; (try dsimp only at hSw); go_simp; (try with_reducible rfl); (try (first | (rw [if_pos (by omega)]; (try go_simp); (try with_reducible rfl)) | (rw [if_neg (by omega)]; (try go_simp); (try with_reducible rfl)))))
            try simp only [Act.put, List.setIfInBounds_toArray, List.set_cons_zero, List.set_cons_succ]
            refine wpAnyR_n1 (i := 7) rfl (by kernel_rfl) ?_
            intro K' hK
            rw [if_pos (by rfl)]
            simp only [List.getElem_toArray, List.getElem_cons_succ, List.getElem_cons_zero]
            go_wp2_with fail
            refine (HSE.out _ HGA.out.drew).mono ?_
            rintro e w5 ⟨rfl, g5⟩
            have HG5 := Lib.hid (HGA.out.drew.trans g5)
            have hx5 := HX.out.drew.grew g5
            have c05 := hx5.cell 0
            have cl5 := hx5.lt
            clear g5 hx5
            go_wp2_with fail
            refine hK.out _ _ (.inr (fun _ => ⟨c05, cl5⟩)) ?_
            clear hK hS
            have hS := (show (fun w' : World => w'.cell? ⟨wr.heap.size, 0, none⟩ = some (.int .i64 ws[k].1) ∧ wr.heap.size < w'.heap.size) w5 from ⟨c05, cl5⟩)
            refine wpAnyR_takeQ (i := 8) (v := ?_) (some 45) rfl rfl (by kernel_rfl) (by kernel_rfl) (by kernel_rfl) (by kernel_rfl) (fun _ _ _ h => h) (Or.inl ⟨by rfl, ?_⟩) ?_
            rotate_left
            focus (intro wS hSw; (try dsimp only at hSw); go_simp; (try with_reducible rfl); (try (first | (rw [if_pos (by omega)]; (try go_simp); (try with_reducible rfl)) | (rw [if_neg (by omega)]; (try go_simp); (try with_reducible rfl)))))
            try simp only [Act.put, List.setIfInBounds_toArray, List.set_cons_zero, List.set_cons_succ]
            refine wpAnyR_takeQ (i := 9) (v := ?_) (some 46) rfl rfl (by kernel_rfl) (by kernel_rfl) (by kernel_rfl) (by kernel_rfl) (fun _ _ _ h => h) (Or.inl ⟨by rfl, ?_⟩) ?_
            rotate_left
            focus (intro wS hSw; (try dsimp only at hSw); go_simp; (try with_reducible rfl); (try (first | (rw [if_pos (by omega)]; (try go_simp); (try with_reducible rfl)) | (rw [if_neg (by omega)]; (try go_simp); (try with_reducible rfl)))))
            try simp only [Act.put, List.setIfInBounds_toArray, List.set_cons_zero, List.set_cons_succ]
            refine wpAnyR_done (by kernel_rfl) ?_ _
            by_cases hbig : (n : Int) ≤ ws[k].1
            · have hib : decide ((n : Int) ≤ ws[k].1) = true := decide_eq_true hbig
              have hib2 : ws[k].1 ≥ (n : Int) := hbig
              have HC := Lib.hid (check_range (n := n) H1.out H2.out k hlt (.inr hbig))
              clear hbig
              go_wp2_with fail
              go_ret
              rw [HC.out]
              exact ⟨rfl, HG5.out⟩
            · have hib : decide ((n : Int) ≤ ws[k].1) = false := decide_eq_false hbig
              have hib2 : ¬ ws[k].1 ≥ (n : Int) := hbig
              have HNR : Hid (¬ (ws[k].1 < 0 ∨ (n : Int) ≤ ws[k].1)) := Lib.hid (by omega)
              clear hbig hneg
              go_wp2_with fail
              go_roundg (ws.length - (k + 1))
              case measure => rw [HGK2.out]; omega
              case rel =>
                refine ⟨k + 1, by omega, by omega, by go_num, HG5.out, fun j hj hj2 => ?_⟩
                rcases Nat.lt_or_ge j k with h9 | h9
                · exact HRG.out j h9 hj2
                · have : j = k := by omega
                  subst this; exact HNR.out
        · obtain rfl : ws.length = k := by omega
          have HC := Lib.hid (check_end (n := n) H1.out H2.out (fun e he => by
            obtain ⟨j, hj, rfl⟩ := List.mem_iff_getElem.1 he
            exact HRG.out j hj hj))
          by_cases hbig : 64 < ws.length
          · have hb : (ws.length : Int) > 64 := by omega
            rw [if_pos hbig] at HC
            clear hlt
            go_wp2_with fail
            go_ret
            rw [HC.out]
            exact ⟨rfl, HG2.out⟩
          · have hb : ¬ (ws.length : Int) > 64 := by omega
            rw [if_neg hbig] at HC
            clear hlt
            go_wp2_with fail
            go_ret
            rw [HC.out]
            exact ⟨rfl, HG2.out⟩
end
end Go.Proofs.Ytbddelefglhaaaa
namespace Go.Proofs.Ytbddelefglhaaaa
set_option linter.unusedVariables false
set_option linter.unusedSimpArgs false
set_option linter.unusedSectionVars false
open Go.RowKit
theorem info_sw : (Try.prog.info? 72).map (fun i => (i.zero, i.size, i.bytes)) = some (some (.agg #[.int .i64 0, .string ⟨#[]⟩]), 2, 24) := by kernel_rfl
theorem asc_one : ∀ (a b : List (Int × ByteArray)), a.Perm b → (a.Pairwise fun x y => x.1 < y.1) → (b.Pairwise fun x y => x.1 < y.1) → a = b := by
  intro a
  induction a with
  | nil => intro b hp _ _; exact hp.nil_eq
  | cons x a ih =>
    intro b hp ha hb
    cases b with
    | nil => exact absurd hp.length_eq (by simp)
    | cons y b =>
      have hxy : x = y := by
        have h1 : x ∈ y :: b := hp.subset (List.mem_cons_self ..)
        have h2 : y ∈ x :: a := hp.symm.subset (List.mem_cons_self ..)
        rcases List.mem_cons.1 h1 with h1 | h1
        · exact h1
        · rcases List.mem_cons.1 h2 with h2 | h2
          · exact h2.symm
          · have e1 := (List.pairwise_cons.1 ha).1 y h2
            have e2 := (List.pairwise_cons.1 hb).1 x h1
            omega
      subst hxy
      rw [ih b ((List.perm_cons x).1 hp) (List.pairwise_cons.1 ha).2 (List.pairwise_cons.1 hb).2]
/-- The sorted writes of a list that is taken are those of sortW. -/
theorem sorted_is (n : Nat) (ws d : List (Int × ByteArray)) (hn : (ws.map (·.1)).Nodup) (hb : ∀ e ∈ ws, 0 ≤ e.1 ∧ e.1 < (n : Int)) (hp : d.Perm ws) (hs : d.Pairwise fun a b => ¬ b.1 < a.1) : d = wlI (sortW n ws) := by
  have hnw : ws.Nodup := by
    have h := hn
    rw [List.Nodup, List.pairwise_map] at h
    exact h.imp (fun {a b} hab e => hab (by rw [e]))
  have hsn : (wlI (sortW n ws)).Pairwise fun a b => a.1 < b.1 := by
    unfold wlI
    rw [List.pairwise_map]
    exact (sortW_asc n ws).imp (fun {a b} h => by omega)
  have hp2 : (wlI (sortW n ws)).Perm ws := by
    refine (List.perm_ext_iff_of_nodup (hsn.imp (fun {a b} h e => by rw [e] at h; omega)) hnw).2 (fun e => ?_)
    unfold wlI
    rw [List.mem_map]
    constructor
    · rintro ⟨x, hx, rfl⟩
      obtain ⟨h1, h2⟩ := (sortW_mem n ws x).1 hx
      obtain ⟨y, hy, hyx⟩ := Option.map_eq_some_iff.1 h2
      have h3 := List.find?_some hy
      have h4 := List.mem_of_find?_eq_some hy
      have : y = ((x.1 : Int), x.2) := Prod.ext (by simpa using h3) hyx
      rw [← this]; exact h4
    · intro he
      have hbe := hb e he
      refine ⟨(e.1.toNat, e.2), (sortW_mem n ws _).2 ⟨by show e.1.toNat < n; omega, ?_⟩, Prod.ext (by show ((e.1.toNat : Nat) : Int) = e.1; omega) rfl⟩
      show (ws.find? fun y => y.1 == ((e.1.toNat : Nat) : Int)).map (·.2) = some e.2
      rw [show ((e.1.toNat : Nat) : Int) = e.1 from by omega, find_of_mem hn e he]
      rfl
  have hd1 : d.Pairwise fun a b => a.1 < b.1 := by
    have hdn : d.Pairwise fun a b => a.1 ≠ b.1 := by
      have := (hp.map (·.1)).nodup_iff.2 hn
      rw [List.Nodup, List.pairwise_map] at this
      exact this
    exact (hs.and hdn).imp (fun {a b} h => by omega)
  exact asc_one d _ (hp.trans hp2.symm) hd1 hsn
attribute [local go_sem ↓] Go.wp_at_zero Go.wp_at_succ
set_option maxRecDepth 100000 in
set_option maxHeartbeats 2000000 in
theorem clone_sw (A : Option Addr) (c n : Nat) (l : List (Int × ByteArray)) (w : World) (hn : n = l.length) (hl : l.length ≤ 1000000) (hr : ListAt w w.heap.size 2 A (l.map entC)) :
    Calls Try.prog 53 #[.slice A n c] w fun e w' => ∃ v, e = .returned v ∧ OwnL w' w.heap.size 72 2 v (l.map entC) ∧ Grew w w' := by
  subst hn
  cases A with
  | none =>
    have h0 : l = [] := by
      rcases Nat.eq_zero_or_pos l.length with h0 | h0
      · exact List.length_eq_zero_iff.1 h0
      · obtain ⟨b, off, e, _⟩ := hr (by rw [List.length_map]; exact h0)
        cases e
    subst h0
    have hnil := fun (W : World) => Lib.run_eql_slice_nil (P := Try.prog) W 29 72 none 0 c 0 0 Try.underlying29
    go_enter Try.func53, Try.ntmps53
    go_wp2
    go_ret
    exact ⟨_, rfl, OwnL.nil _ _ _ _, by (repeat' first | (with_reducible exact Grew.refl _) | (with_reducible assumption) | (with_reducible refine Grew.alloc ?_ _) | (with_reducible refine Grew.drew ?_) | (with_reducible refine Grew.drewN ?_ _) | (with_reducible refine Grew.setRow ?_ (by first | (simp; done) | (simp; omega) | omega) _) | (with_reducible refine Grew.setCell ?_ (by first | (simp; done) | (simp; omega) | omega) _) | ((with_reducible apply Grew.trans); rotate_left; (with_reducible assumption)) | ((with_reducible apply Grew.turn); rotate_left; (with_reducible assumption); (focus (intro i hi; first | omega | (simp at hi; omega)))) | fail)⟩
  | some ad =>
    have hnil := fun (W : World) => Lib.run_eql_slice_nil (P := Try.prog) W 29 72 (some ad) l.length c 0 0 Try.underlying29
    have hra := ListAt.mono (B' := w.heap.size + 1) (hr.keep (Nat.le_refl _) ((Grew.refl w).alloc (.cells #[] 72))) (by omega)
    go_enter Try.func53, Try.ntmps53
    go_wp2_with (at_builtin; refine wpList_pushAll (by rfl) _ _ 29 rfl w.heap.size 72 2 24 _ Try.underlying29 info_sw rfl (by decide) _ [] (l.map entC) (by rfl) (OwnL.empty w _ _ _ (Nat.le_refl _) rfl) _ l.length _ (by rfl) (by simp) (by intro r hr; obtain ⟨x, _, rfl⟩ := List.mem_map.1 hr; rfl) (by simpa using hra) (by intro r hr; obtain ⟨x, _, rfl⟩ := List.mem_map.1 hr; rfl) (by simp; omega) (by simp; omega) (by simp) ?_; intro v1 w3 hown1 hgr1 hat1)
    go_ret
    exact ⟨v1, rfl, hown1, Grew.own ((Grew.refl w).alloc _) hgr1 (by simp [Value.ownBlock]) (Nat.le_refl _)⟩
end Go.Proofs.Ytbddelefglhaaaa
namespace Go.Proofs.Ytbddelefglhaaaa
set_option linter.unusedVariables false
set_option linter.unusedSimpArgs false
set_option linter.unusedSectionVars false
open Go.RowKit
theorem asc_nat : ∀ (a b : List Nat), (a.Pairwise fun x y => x < y) → (b.Pairwise fun x y => x < y) → (∀ x, x ∈ a ↔ x ∈ b) → a = b := by
  intro a
  induction a with
  | nil =>
    intro b _ _ h
    cases b with
    | nil => rfl
    | cons y b => exact absurd ((h y).2 (List.mem_cons_self ..)) (by simp)
  | cons x a ih =>
    intro b ha hb h
    cases b with
    | nil => exact absurd ((h x).1 (List.mem_cons_self ..)) (by simp)
    | cons y b =>
      obtain ⟨ha1, ha2⟩ := List.pairwise_cons.1 ha
      obtain ⟨hb1, hb2⟩ := List.pairwise_cons.1 hb
      have hxy : x = y := by
        rcases List.mem_cons.1 ((h x).1 (List.mem_cons_self ..)) with h1 | h1
        · exact h1
        · rcases List.mem_cons.1 ((h y).2 (List.mem_cons_self ..)) with h2 | h2
          · exact h2.symm
          · have := ha1 y h2; have := hb1 x h1; omega
      subst hxy
      rw [ih b ha2 hb2 (fun z => by
        have hz := h z
        constructor
        · intro h9
          rcases List.mem_cons.1 (hz.1 (List.mem_cons_of_mem _ h9)) with h8 | h8
          · have := ha1 z h9; omega
          · exact h8
        · intro h9
          rcases List.mem_cons.1 (hz.2 (List.mem_cons_of_mem _ h9)) with h8 | h8
          · have := hb1 z h9; omega
          · exact h8)]
theorem ksW_asc (S : Wl) : (ksW S).Pairwise fun x y => x < y := List.pairwise_lt_range.filter _
theorem ksW_old (S : Wl) (i : Nat) (hi : i < S.length) (h : S[i].1 / 32 ∈ ksW (S.take i)) : ksW (S.take (i + 1)) = ksW (S.take i) := by
  refine asc_nat _ _ (ksW_asc _) (ksW_asc _) (fun x => ?_)
  rw [List.take_succ_eq_append_getElem hi, ksW_mem, ksW_mem]
  constructor
  · rintro ⟨h1, e, he, hx⟩
    rcases List.mem_append.1 he with he | he
    · exact ⟨h1, e, he, hx⟩
    · rw [List.mem_singleton.1 he] at hx
      rw [← hx]; exact (ksW_mem _ _).1 h
  · rintro ⟨h1, e, he, hx⟩
    exact ⟨h1, e, List.mem_append_left _ he, hx⟩
theorem ksW_new (S : Wl) (hS : S.Pairwise fun a b => a.1 < b.1) (i : Nat) (hi : i < S.length) (h32 : S[i].1 / 32 < 32) (h : ¬ S[i].1 / 32 ∈ ksW (S.take i)) : ksW (S.take (i + 1)) = ksW (S.take i) ++ [S[i].1 / 32] := by
  refine asc_nat _ _ (ksW_asc _) (List.pairwise_append.2 ⟨ksW_asc _, List.pairwise_singleton _ _, fun a ha b hb => ?_⟩) (fun x => ?_)
  · rw [List.mem_singleton.1 hb]
    obtain ⟨_, e, he, hx⟩ := (ksW_mem _ _).1 ha
    obtain ⟨j, hj, rfl⟩ := List.mem_iff_getElem.1 he
    rw [List.length_take] at hj
    rw [List.getElem_take] at hx
    have h1 := List.pairwise_iff_getElem.1 hS j i (by omega) hi (by omega)
    have h2 : S[j].1 / 32 ≠ S[i].1 / 32 := fun e9 => h (by rw [← e9, hx]; exact ha)
    omega
  · rw [List.take_succ_eq_append_getElem hi, List.mem_append, List.mem_singleton, ksW_mem, ksW_mem]
    constructor
    · rintro ⟨h1, e, he, hx⟩
      rcases List.mem_append.1 he with he | he
      · exact .inl ⟨h1, e, he, hx⟩
      · rw [List.mem_singleton.1 he] at hx
        exact .inr hx.symm
    · rintro (⟨h1, e, he, hx⟩ | rfl)
      · exact ⟨h1, e, List.mem_append_left _ he, hx⟩
      · exact ⟨h32, S[i], List.mem_append_right _ (List.mem_singleton.2 rfl), rfl⟩
theorem lastE_iff (l : Wl) (q : Nat) : (lastE l q).isSome = true ↔ ∃ e ∈ l, e.1 = q := by
  induction l with
  | nil => simp [lastE]
  | cons e l ih =>
    unfold lastE
    cases hq : lastE l q with
    | some s =>
      rw [hq] at ih
      obtain ⟨e', h1, h2⟩ := ih.1 rfl
      exact ⟨fun _ => ⟨e', List.mem_cons_of_mem _ h1, h2⟩, fun _ => rfl⟩
    | none =>
      rw [hq] at ih
      constructor
      · intro h
        by_cases hqe : q = e.1
        · exact ⟨e, List.mem_cons_self .., hqe.symm⟩
        · simp [hqe] at h
      · rintro ⟨e', h1, h2⟩
        rcases List.mem_cons.1 h1 with rfl | h1
        · simp [h2]
        · exact absurd (ih.2 ⟨e', h1, h2⟩) (by simp)
/-- The versions of a map sector behind the first writes. -/
def nm (E : Dev) (S : Wl) (v : U32) (i k j : Nat) : U32 := if (lastE (S.take i) (32 * k + j)).isSome = true then v else fld (mapI E k).data j
theorem nm_zero (E : Dev) (S : Wl) (v : U32) (k j : Nat) : nm E S v 0 k j = fld (mapI E k).data j := by unfold nm; rw [List.take_zero]; rfl
theorem nm_end (E : Dev) (S : Wl) (v : U32) (k : Nat) : (List.range 32).map (nm E S v S.length k) = newMap E S v k := by
  unfold newMap nm
  rw [List.take_of_length_le (Nat.le_refl _)]
theorem nm_step (E : Dev) (S : Wl) (v : U32) (i : Nat) (hi : i < S.length) (k j : Nat) (hj : j < 32) : nm E S v (i + 1) k j = if k = S[i].1 / 32 ∧ j = S[i].1 % 32 then v else nm E S v i k j := by
  unfold nm
  have h1 : (lastE (S.take (i + 1)) (32 * k + j)).isSome = true ↔ ((lastE (S.take i) (32 * k + j)).isSome = true ∨ S[i].1 = 32 * k + j) := by
    rw [lastE_iff, lastE_iff, List.take_succ_eq_append_getElem hi]
    constructor
    · rintro ⟨e, he, hq⟩
      rcases List.mem_append.1 he with he | he
      · exact .inl ⟨e, he, hq⟩
      · rw [List.mem_singleton.1 he] at hq; exact .inr hq
    · rintro (⟨e, he, hq⟩ | hq)
      · exact ⟨e, List.mem_append_left _ he, hq⟩
      · exact ⟨S[i], List.mem_append_right _ (List.mem_singleton.2 rfl), hq⟩
  have h2 : S[i].1 = 32 * k + j ↔ (k = S[i].1 / 32 ∧ j = S[i].1 % 32) := by omega
  by_cases h3 : (lastE (S.take i) (32 * k + j)).isSome = true
  · rw [if_pos (h1.2 (.inl h3)), if_pos h3]
    split <;> rfl
  · rw [if_neg h3]
    by_cases h4 : k = S[i].1 / 32 ∧ j = S[i].1 % 32
    · rw [if_pos h4, if_pos (h1.2 (.inr (h2.2 h4)))]
    · rw [if_neg h4, if_neg (fun h9 => (h1.1 h9).elim h3 (fun h8 => h4 (h2.1 h8)))]
def mapF (ks : List Nat) (bk : Nat → Nat) : Int → Option Value := fun a => if 0 ≤ a ∧ a.toNat ∈ ks then some (ptrV (bk a.toNat)) else none
theorem mapF_at (ks : List Nat) (bk : Nat → Nat) (k : Nat) : mapF ks bk (k : Int) = if k ∈ ks then some (ptrV (bk k)) else none := by
  unfold mapF
  rw [Int.toNat_natCast]
  by_cases h : k ∈ ks
  · rw [if_pos ⟨by omega, h⟩, if_pos h]
  · rw [if_neg (fun h9 => h h9.2), if_neg h]
/-- The map sectors that are to be changed, in memory. -/
structure MapsM (w : World) (lo mm : Nat) (ks : List Nat) (bk : Nat → Nat) (V : Nat → Nat → U32) : Prop where
  map : MapI w mm (mapF ks bk)
  lm : lo ≤ mm
  low : ∀ k ∈ ks, lo ≤ bk k
  blk : ∀ k ∈ ks, Blk w (bk k) 94 (verArr (V k))
  inj : ∀ k ∈ ks, ∀ k' ∈ ks, bk k = bk k' → k = k'
theorem MapsM.kept {w w' : World} {lo mm : Nat} {ks : List Nat} {bk : Nat → Nat} {V : Nat → Nat → U32} (h : MapsM w lo mm ks bk V) {S : Nat → Prop} (ht : Turned S w w') (hm : ¬ S mm) (hS : ∀ k ∈ ks, ¬ S (bk k)) : MapsM w' lo mm ks bk V :=
  ⟨h.map.turned ht hm, h.lm, h.low, fun k hk => (h.blk k hk).turned ht (hS k hk), h.inj⟩
theorem MapsM.grew {w w' : World} {lo mm : Nat} {ks : List Nat} {bk : Nat → Nat} {V : Nat → Nat → U32} (h : MapsM w lo mm ks bk V) (hg : Grew w w') : MapsM w' lo mm ks bk V := h.kept (hg.turned (fun _ => False)) (fun h => h) (fun _ _ h => h)
theorem MapsM.lookd {w w' : World} {lo mm m : Nat} {ks : List Nat} {bk : Nat → Nat} {V : Nat → Nat → U32} (h : MapsM w lo mm ks bk V) (ht : Turned (fun q => q = m) w w') (hm : m < lo) : MapsM w' lo mm ks bk V := h.kept ht (by have := h.lm; omega) (fun k hk e => by have := h.low k hk; omega)
/-- .. while a block of another type turns. -/
theorem MapsM.other {w w' : World} {lo mm g : Nat} {t : TypeId} {cs : Array Value} {ks : List Nat} {bk : Nat → Nat} {V : Nat → Nat → U32} (h : MapsM w lo mm ks bk V) (hb : Blk w g t cs) (hne : t ≠ 94) (ht : Turned (fun q => q = g) w w') : MapsM w' lo mm ks bk V :=
  h.kept ht (fun e => blk_map_ne hb h.map e.symm) (fun k hk e => Blk.ne_ (h.blk k hk) hb (fun e9 => hne e9.symm) e)
theorem MapsM.own {w w' : World} {lo mm base e sz : Nat} {v : Value} {rows : List (List Value)} {ks : List Nat} {bk : Nat → Nat} {V : Nat → Nat → U32} (h : MapsM w lo mm ks bk V) (ho : OwnL w base e sz v rows) (hne : e ≠ 94) (hg : w.grownBy w' v.ownBlock) : MapsM w' lo mm ks bk V :=
  h.kept (S := fun q => v.ownBlock = some q) ⟨hg.os, hg.tape, hg.output, hg.size, fun k hk hn => hg.block k hk (fun e9 => hn e9.symm)⟩ (fun e9 => own_map_ne ho h.map e9) (fun k hk e9 => ho.ne_blk (h.blk k hk) hne e9)
theorem MapsM.snoc {w w' : World} {lo mm b k : Nat} {ks : List Nat} {bk : Nat → Nat} {V : Nat → Nat → U32} {X : Nat → U32} (h : MapsM w lo mm ks bk V) (hk : ¬ k ∈ ks) (hb0 : lo ≤ b) (hb : Blk w b 94 (verArr X)) (hne : ∀ j ∈ ks, ¬ bk j = b) (hm : MapI w' mm (upd (mapF ks bk) (k : Int) (some (ptrV b)))) (ht : Turned (fun q => q = mm) w w') :
    MapsM w' lo mm (ks ++ [k]) (fun j => if j = k then b else bk j) (fun j => if j = k then X else V j) := by
  have hkk : ∀ j ∈ ks, ¬ j = k := fun j hj e => hk (e ▸ hj)
  refine ⟨hm.congr (fun a => ?_), h.lm, fun j hj => ?_, fun j hj => ?_, fun j hj j' hj' he => ?_⟩
  · by_cases ha : a = (k : Int)
    · subst ha
      rw [upd_same, mapF_at, if_pos (by simp), if_pos rfl]
    · rw [upd_other _ _ ha]
      unfold mapF
      by_cases h1 : 0 ≤ a ∧ a.toNat ∈ ks
      · rw [if_pos h1, if_pos ⟨h1.1, List.mem_append_left _ h1.2⟩]
        show _ = some (ptrV (if a.toNat = k then b else bk a.toNat))
        rw [if_neg (by omega)]
      · rw [if_neg h1, if_neg]
        rintro ⟨h2, h3⟩
        rcases List.mem_append.1 h3 with h3 | h3
        · exact h1 ⟨h2, h3⟩
        · have := List.mem_singleton.1 h3; omega
  · rcases List.mem_append.1 hj with hj | hj
    · show lo ≤ if j = k then b else bk j
      rw [if_neg (hkk j hj)]; exact h.low j hj
    · rw [List.mem_singleton.1 hj]
      show lo ≤ if k = k then b else bk k
      rw [if_pos rfl]; exact hb0
  · rcases List.mem_append.1 hj with hj | hj
    · simp only [if_neg (hkk j hj)]
      exact (h.blk j hj).turned ht (blk_map_ne (h.blk j hj) h.map)
    · rw [List.mem_singleton.1 hj]
      simp only [if_true]
      exact hb.turned ht (blk_map_ne hb h.map)
  · change (if j = k then b else bk j) = (if j' = k then b else bk j') at he
    rcases List.mem_append.1 hj with hj | hj <;> rcases List.mem_append.1 hj' with hj' | hj'
    · rw [if_neg (hkk j hj), if_neg (hkk j' hj')] at he
      exact h.inj j hj j' hj' he
    · rw [List.mem_singleton.1 hj'] at he ⊢
      rw [if_neg (hkk j hj), if_pos rfl] at he
      exact absurd he (hne j hj)
    · rw [List.mem_singleton.1 hj] at he ⊢
      rw [if_pos rfl, if_neg (hkk j' hj')] at he
      exact absurd he.symm (hne j' hj')
    · rw [List.mem_singleton.1 hj, List.mem_singleton.1 hj']
theorem MapsM.store {w : World} {lo mm k j : Nat} {ks : List Nat} {bk : Nat → Nat} {V : Nat → Nat → U32} (h : MapsM w lo mm ks bk V) (hk : k ∈ ks) (v : U32) : MapsM (w.setCell ⟨bk k, j, none⟩ (.int .u32 (u32 v))) lo mm ks bk (fun k' i => if k' = k ∧ i = j then v else V k' i) := by
  have hT : Turned (fun q => q = bk k) w (w.setCell ⟨bk k, j, none⟩ (.int .u32 (u32 v))) := (Turned.refl (fun q => q = bk k) w).setCell (p := ⟨bk k, j, none⟩) (fun _ => rfl) _
  refine ⟨h.map.turned hT (fun e => blk_map_ne (h.blk k hk) h.map e.symm), h.lm, h.low, fun k' hk' => ?_, h.inj⟩
  by_cases hkk : k' = k
  · subst hkk
    have := (h.blk k' hk').set_ j (.int .u32 (u32 v))
    rw [verArr_set] at this
    refine this.conv (verArr_congr fun i _ => ?_)
    by_cases hij : i = j
    · rw [if_pos hij, if_pos ⟨rfl, hij⟩]
    · rw [if_neg hij, if_neg (fun h9 => hij h9.2)]
  · have := (h.blk k' hk').turned hT (fun e => hkk (h.inj k' hk' k hk e))
    exact this.conv (verArr_congr fun i _ => by rw [if_neg (fun h9 => hkk h9.1)])
theorem MapsM.conv {w : World} {lo mm : Nat} {ks : List Nat} {bk : Nat → Nat} {V V' : Nat → Nat → U32} (h : MapsM w lo mm ks bk V) (e : ∀ k ∈ ks, ∀ j, j < 32 → V k j = V' k j) : MapsM w lo mm ks bk V' :=
  ⟨h.map, h.lm, h.low, fun k hk => (h.blk k hk).conv (verArr_congr fun j hj => e k hk j hj), h.inj⟩
end Go.Proofs.Ytbddelefglhaaaa
namespace Go.Proofs.Ytbddelefglhaaaa
set_option linter.unusedVariables false
set_option linter.unusedSimpArgs false
set_option linter.unusedSectionVars false
open Go.Shelf Go.RowKit Go.Lib
set_option maxRecDepth 100000
def sortSw_ren : Go.Shelf.Ren := ⟨fun | 6 => 54 | 15 => 80 | 14 => 79 | 28 => 96 | 29 => 97 | 20 => 88 | 21 => 89 | 22 => 90 | 23 => 91 | 24 => 92 | 25 => 93 | 26 => 94 | 27 => 95 | 46 => 104 | 47 => 105 | 48 => 106 | 49 => 107 | 50 => 108 | 57 => 114 | n => n, fun | 22 => 29 | 24 => 72 | 25 => 92 | 3 => 3 | 39 => 141 | 0 => 0 | 53 => 22 | 55 => 158 | 4 => 4 | 46 => 161 | 45 => 160 | 50 => 119 | 5 => 5 | 9 => 9 | 66 => 175 | 70 => 179 | 76 => 184 | 77 => 185 | n => n, fun | n => n⟩
theorem sortSw : Go.Proofs.SlLaysF0.n6 Try.prog sortSw_ren := {
  mixed := by kernel_rfl
  f6 := ⟨Try.f54.name, by decide, Try.func54.trans (congrArg some (by kernel_rfl))⟩
  f14 := ⟨Try.f79.name, by decide, Try.func79.trans (congrArg some (by kernel_rfl))⟩
  f15 := Try.func80.trans (congrArg some (by kernel_rfl))
  f20 := ⟨Try.f88.name, by decide, Try.func88.trans (congrArg some (by kernel_rfl))⟩
  f21 := ⟨Try.f89.name, by decide, Try.func89.trans (congrArg some (by kernel_rfl))⟩
  f22 := ⟨Try.f90.name, by decide, Try.func90.trans (congrArg some (by kernel_rfl))⟩
  f23 := ⟨Try.f91.name, by decide, Try.func91.trans (congrArg some (by kernel_rfl))⟩
  f24 := ⟨Try.f92.name, by decide, Try.func92.trans (congrArg some (by kernel_rfl))⟩
  f25 := ⟨Try.f93.name, by decide, Try.func93.trans (congrArg some (by kernel_rfl))⟩
  f26 := ⟨Try.f94.name, by decide, Try.func94.trans (congrArg some (by kernel_rfl))⟩
  f27 := ⟨Try.f95.name, by decide, Try.func95.trans (congrArg some (by kernel_rfl))⟩
  f28 := Try.func96.trans (congrArg some (by kernel_rfl))
  f29 := Try.func97.trans (congrArg some (by kernel_rfl))
  f46 := ⟨Try.f104.name, by decide, Try.func104.trans (congrArg some (by kernel_rfl))⟩
  f47 := Try.func105.trans (congrArg some (by kernel_rfl))
  f48 := Try.func106.trans (congrArg some (by kernel_rfl))
  f49 := ⟨Try.f107.name, by decide, Try.func107.trans (congrArg some (by kernel_rfl))⟩
  f50 := ⟨Try.f108.name, by decide, Try.func108.trans (congrArg some (by kernel_rfl))⟩
  f57 := ⟨Try.f114.name, by decide, Try.func114.trans (congrArg some (by kernel_rfl))⟩
  t0 := Try.underlying0
  a0 := Try.isAgg0
  z0 := Try.sizeOf0
  v0 := Try.zeroValue0
  t3 := Try.underlying3
  a3 := Try.isAgg3
  z3 := Try.sizeOf3
  v3 := Try.zeroValue3
  t4 := Try.underlying4
  a4 := Try.isAgg4
  z4 := Try.sizeOf4
  v4 := Try.zeroValue4
  t5 := Try.underlying5
  a5 := Try.isAgg5
  z5 := Try.sizeOf5
  v5 := Try.zeroValue5
  t9 := Try.underlying9
  a9 := Try.isAgg9
  z9 := Try.sizeOf9
  v9 := Try.zeroValue9
  t22 := Try.underlying29
  a22 := Try.isAgg29
  z22 := Try.sizeOf29
  v22 := Try.zeroValue29
  t25 := Try.underlying92
  a25 := Try.isAgg92
  z25 := Try.sizeOf92
  v25 := Try.zeroValue92
  t39 := Try.underlying141
  a39 := Try.isAgg141
  z39 := Try.sizeOf141
  v39 := Try.zeroValue141
  t45 := Try.underlying160
  a45 := Try.isAgg160
  z45 := Try.sizeOf160
  v45 := Try.zeroValue160
  t46 := Try.underlying161
  a46 := Try.isAgg161
  z46 := Try.sizeOf161
  v46 := Try.zeroValue161
  t50 := Try.underlying119
  a50 := Try.isAgg119
  z50 := Try.sizeOf119
  v50 := Try.zeroValue119
  t53 := Try.underlying22
  a53 := Try.isAgg22
  z53 := Try.sizeOf22
  v53 := Try.zeroValue22
  t55 := Try.underlying158
  a55 := Try.isAgg158
  z55 := Try.sizeOf158
  v55 := Try.zeroValue158
  t66 := Try.underlying175
  a66 := Try.isAgg175
  z66 := Try.sizeOf175
  v66 := Try.zeroValue175
  t70 := Try.underlying179
  a70 := Try.isAgg179
  z70 := Try.sizeOf179
  v70 := Try.zeroValue179
  t76 := Try.underlying184
  a76 := Try.isAgg184
  z76 := Try.sizeOf184
  v76 := Try.zeroValue184
  t77 := Try.underlying185
  a77 := Try.isAgg185
  z77 := Try.sizeOf185
  v77 := Try.zeroValue185
  }
end Go.Proofs.Ytbddelefglhaaaa
namespace Go.Proofs.Ytbddelefglhaaaa
set_option linter.unusedVariables false
set_option linter.unusedSimpArgs false
set_option linter.unusedSectionVars false
open Go.RowKit Go.Shelf Go.Lib
attribute [local go_sem ↓] Go.wp_at_zero Go.wp_at_succ
/-- A write of a sector below 1024. -/
abbrev EltW := Fin 1024 × ByteArray
def eltC (a : EltW) : List Value := [.int .i64 ((a.1.1 : Nat) : Int), .string a.2]
def cmpW (x y : EltW) : Int := ((x.1.1 : Nat) : Int) - ((y.1.1 : Nat) : Int)
theorem lt_cmpW (x y : EltW) : Go.Proofs.ltOf cmpW x y = true ↔ x.1.1 < y.1.1 := by
  unfold Go.Proofs.ltOf cmpW
  rw [decide_eq_true_eq]
  omega
theorem swW : Go.Sort.SWO (Go.Proofs.ltOf cmpW) where
  irrefl x := by
    cases h : Go.Proofs.ltOf cmpW x x with
    | false => rfl
    | true => have := (lt_cmpW x x).1 h; omega
  trans x y z h1 h2 := by
    rw [lt_cmpW] at h1 h2 ⊢
    omega
  ntrans x y z h1 h2 := by
    rw [← Bool.not_eq_true] at h1 h2 ⊢
    rw [lt_cmpW] at h1 h2 ⊢
    omega
def toW (e : Int × ByteArray) : EltW := (⟨e.1.toNat % 1024, Nat.mod_lt _ (by decide)⟩, e.2)
def ofW (a : EltW) : Int × ByteArray := (((a.1.1 : Nat) : Int), a.2)
theorem of_to (e : Int × ByteArray) (h : 0 ≤ e.1 ∧ e.1 < 1024) : ofW (toW e) = e := by
  unfold ofW toW
  refine Prod.ext ?_ rfl
  show ((e.1.toNat % 1024 : Nat) : Int) = e.1
  omega
set_option maxRecDepth 100000 in
theorem cmp_any (x y : EltW) (W : World) : Calls Try.prog 55 #[.agg (eltC x).toArray, .agg (eltC y).toArray] W fun e w' => e = .returned (.int .i64 (cmpW x y)) ∧ ∃ q os', w' = Go.Sort.grow (W.drewN q) os' := by
  obtain ⟨⟨a, ha⟩, s⟩ := x
  obtain ⟨⟨b, hb⟩, t⟩ := y
  show Calls Try.prog 55 #[.agg #[.int .i64 (a : Int), .string s], .agg #[.int .i64 (b : Int), .string t]] W _
  have hab : -1024 ≤ (a : Int) - (b : Int) ∧ (a : Int) - (b : Int) ≤ 1024 := by omega
  go_enter Try.func55, Try.ntmps55
  go_wp2_with fail
  go_ret
  exact ⟨rfl, 0, _, by rw [Go.Sort.alloc_eq_grow, Go.Sort.alloc_eq_grow, Go.Sort.grow_grow]; rfl⟩
theorem wsorted_turned (w : World) (g m : Nat) (d : Array EltW) (os : Array Obj) : Turned (fun i => i = g) w (Go.Proofs.sortWorldK eltC 2 w g 0 m d os) := by
  refine ⟨rfl, rfl, rfl, ?_, fun k hk hs => ?_⟩
  · exact Go.Proofs.size_sortWorldK_c eltC 2 w g 0 m d os
  · unfold Go.Proofs.sortWorldK Go.Sort.grow Go.Sort.putRowK Go.Sort.putRow Go.Sort.mapBlock Go.Sort.ahead
    show (w.heap.modify g _ ++ os)[k]? = w.heap[k]?
    rw [Array.getElem?_append_left (by rw [Array.size_modify]; exact hk), Array.getElem?_modify, if_neg (fun e => hs e.symm)]
theorem wat_idx (d : Array EltW) (i : Nat) (h : i < d.size) : d[i]! = d.toList[i]'(by rw [Array.length_toList]; exact h) := by
  rw [getElem!_pos d i h, Array.getElem_toList]
theorem wholds_own {w : World} {base g cap : Nat} {N : List EltW} (h : OwnL w base 72 2 (.slice (some ⟨g, 0, none⟩) N.length cap) (N.map eltC)) : Go.Sort.HoldsK eltC 2 w g 0 N.toArray := by
  intro t ht
  have ht' : t < N.length * 2 := by simpa using ht
  have hj : t / 2 < N.length := by omega
  rw [Go.Sort.get_flatK _ _ _ _ (by simpa using ht'), Nat.zero_add]
  have hel : (N.toArray)[t / 2]! = N[t / 2] := by
    rw [getElem!_pos _ _ (by simpa using hj)]
    simp
  have hrow : (N.map eltC)[t / 2]? = some (eltC N[t / 2]) := by rw [List.getElem?_map, List.getElem?_eq_getElem hj]; rfl
  rw [hel]
  refine ⟨?_, h.frozen t⟩
  have hm : t = t / 2 * 2 + t % 2 := by omega
  have hlt : t % 2 < 2 := Nat.mod_lt _ (by decide)
  have hu : (eltC N[t / 2])[t % 2]? = some ((eltC N[t / 2])[t % 2]!) := by
    have hlen : (eltC N[t / 2]).length = 2 := rfl
    rw [List.getElem?_eq_getElem (by omega), getElem!_pos _ _ (by omega)]
  have := h.cell (j := t / 2) (i := t % 2) hrow hu
  rwa [← hm] at this
theorem ws_held {w : World} {g : Nat} {d : Array EltW} (h : Go.Sort.HoldsK eltC 2 w g 0 d) (hg : g < w.heap.size) : ListAt w w.heap.size 2 (some ⟨g, 0, none⟩) (d.toList.map eltC) := by
  refine fun _ => ⟨g, 0, rfl, hg, fun j cs hj i v hi => ?_⟩
  rw [List.getElem?_map] at hj
  cases hx : d.toList[j]? with
  | none => rw [hx] at hj; cases hj
  | some x =>
    rw [hx] at hj
    have hjl : j < d.toList.length := (List.getElem?_eq_some_iff.1 hx).1
    have hjs : j < d.size := by rw [← Array.length_toList]; exact hjl
    injection hj with hj
    have hcs : cs = eltC x := hj.symm
    have hil : i < cs.length := (List.getElem?_eq_some_iff.1 hi).1
    have hi2 : i < 2 := by rw [hcs] at hil; exact hil
    have hc := (h.cell (i := j) (c := i) hjs hi2).1
    have hxe : d[j]! = x := by
      rw [wat_idx d j hjs]
      exact (List.getElem?_eq_some_iff.1 hx).2
    rw [hxe, ← hcs, getElem!_pos cs i hil] at hc
    rw [hc, (List.getElem?_eq_some_iff.1 hi).2]
set_option maxRecDepth 100000 in
set_option maxHeartbeats 1000000 in
theorem wsort_any (g cap n : Nat) (ws : List (Int × ByteArray)) (hl : 0 < ws.length ∧ ws.length ≤ 100000) (hn : (ws.map (·.1)).Nodup) (hb : ∀ e ∈ ws, 0 ≤ e.1 ∧ e.1 < (n : Int)) (hn2 : n ≤ 1024) (w : World) (base : Nat) (hown : OwnL w base 72 2 (.slice (some ⟨g, 0, none⟩) ws.length cap) (ws.map entC)) :
    Calls Try.prog 54 #[.slice (some ⟨g, 0, none⟩) ws.length cap, .func (.func 55) #[] #[]] w fun e w' => e = .returned (.tuple #[]) ∧ Turned (fun i => i = g) w w' ∧ ListAt w' w'.heap.size 2 (some ⟨g, 0, none⟩) ((wlI (sortW n ws)).map entC) := by
  obtain ⟨N, hN⟩ : ∃ N : List EltW, ws.map toW = N := ⟨_, rfl⟩
  have hNl : N.length = ws.length := by rw [← hN, List.length_map]
  have hNe : N.map eltC = ws.map entC := by
    rw [← hN, List.map_map]
    apply List.map_congr_left
    intro e he
    have := hb e he
    show entC (ofW (toW e)) = entC e
    rw [of_to e ⟨this.1, by omega⟩]
  have hNo : N.map ofW = ws := by
    rw [← hN, List.map_map]
    conv => rhs; rw [← List.map_id ws]
    apply List.map_congr_left
    intro e he
    have := hb e he
    exact of_to e ⟨this.1, by omega⟩
  rw [← hNe, ← hNl] at hown
  rw [← hNl]
  have hg : g < w.heap.size := (hown.own_ge rfl).2
  have hH := wholds_own hown
  have hds : N.toArray.size = N.length := by simp
  have hdl : N.toArray.toList = N := by simp
  obtain ⟨d, hd⟩ : ∃ d, N.toArray = d := ⟨_, rfl⟩
  rw [hd] at hH hds hdl
  have eg : ∀ args w, (callFunc 55 args).run Try.prog w = .ok (.enter 55 args) w := enters_of Try.func55 (by kernel_rfl) (by kernel_rfl)
  have hcon := Go.Proofs.AnyQ.slices_SortFunc sortSw 2 Try.isAgg72 Try.sizeOf72 eltC (fun _ => rfl) (fun x v hv => by simp [eltC] at hv; rcases hv with rfl | rfl <;> rfl) cmpW swW 55 #[] g 0 cap d w eg (fun m os dk hs x y => cmp_any x y _) hH hg (by rw [hds]; omega)
  change Calls Try.prog 54 _ _ _ at hcon
  rw [hds] at hcon
  refine hcon.mono ?_
  rintro e w' ⟨rfl, d', n', os, hp, hs, rfl⟩
  refine ⟨rfl, wsorted_turned w g n' d' os, ?_⟩
  have hsz : d'.size = d.size := hp.1
  have hh := ws_held (d := d') (Go.Proofs.holdsK_sortWorldK_c eltC 2 w g 0 d d' n' os hH hg hsz) (Nat.lt_of_lt_of_le hg (Go.Proofs.size_sortWorldK_c eltC 2 w g 0 n' d' os))
  have he : d'.toList.map ofW = wlI (sortW n ws) := by
    refine sorted_is n ws _ hn hb ?_ ?_
    · have h3 := hp.2.2
      rw [← hds, Array.extract_size, ← hsz, Array.extract_size] at h3
      have h4 := (h3.map ofW)
      rw [hdl, hNo] at h4
      exact h4
    · rw [List.pairwise_map, List.pairwise_iff_getElem]
      intro i j hi hj hij hlt
      rw [Array.length_toList] at hi hj
      have h4 := hs i j (Nat.zero_le _) hij (by omega)
      rw [wat_idx d' j hj, wat_idx d' i hi] at h4
      rw [(lt_cmpW _ _).2 (by unfold ofW at hlt; simp only at hlt; omega)] at h4
      cases h4
  have hh2 : d'.toList.map eltC = (wlI (sortW n ws)).map entC := by
    rw [← he, List.map_map]
    rfl
  rw [hh2] at hh
  exact hh
end Go.Proofs.Ytbddelefglhaaaa
namespace Go.Proofs.Ytbddelefglhaaaa
set_option linter.unusedVariables false
set_option linter.unusedSimpArgs false
set_option linter.unusedSectionVars false
open Go.RowKit
theorem listAt_stay {w w' : World} {sz : Nat} {A : Option Addr} {rows : List (List Value)} {S : Nat → Prop} (h : ListAt w w.heap.size sz A rows) (ht : Turned S w w') (hS : ∀ b off o u, A = some ⟨b, off, none⟩ → w.cell? ⟨b, o, none⟩ = some u → ¬ S b) : ListAt w' w'.heap.size sz A rows := fun hl => by
  obtain ⟨b, off, e, hb, hc⟩ := h hl
  refine ⟨b, off, e, Nat.lt_of_lt_of_le hb ht.size, fun j cs hj i v hi => ?_⟩
  have hv := hc j cs hj i v hi
  rw [ht.cellEq b _ hb (hS b off _ v e hv)]
  exact hv
theorem listAt_on {w w' : World} {sz : Nat} {A : Option Addr} {cells : List (List Value)} (h : ListAt w w.heap.size sz A cells) (hg : Grew w w') : ListAt w' w'.heap.size sz A cells := (h.keep (Nat.le_refl _) hg).mono hg.size
theorem OwnL.some_ {w : World} {base e sz : Nat} {v : Value} {rows : List (List Value)} (h : OwnL w base e sz v rows) (hne : rows ≠ []) : ∃ g cap, v = .slice (some ⟨g, 0, none⟩) rows.length cap ∧ base ≤ g ∧ g < w.heap.size := by
  rcases h.form with ⟨_, h0⟩ | ⟨g, cap, e1, h1, h2, _⟩
  · exact absurd h0 hne
  · exact ⟨g, cap, e1, h1, h2⟩
theorem commit_end {w0 : World} {x s m : Nat} {sy ep : Int} {E R : Dev} {out : Nat → Prop} {b : Nat} {W wA w1 w9 w10 : World} (hg0 : Grew W wA) (hd : Done w0 x s m sy ep E (fun k => out k ∨ k = b) wA w1) (hst : StoreM w9 s m x sy ep) (hT : Turned (fun q => q = m ∨ w1.heap.size ≤ q) w1 w9)
    (hL : Live w0 x R (up (fun k => out k ∨ k = b) w1.heap.size w9) w10) (hB : Beside w0 (up (fun k => out k ∨ k = b) w1.heap.size w9) w9 w10) (hos : out s) (hom : out m) : Done w0 x s m sy ep R out W w10 := by
  have hm9 := hst.lt.2
  refine ⟨hL.few (fun k hk => .inl (.inl hk)), hst.kept hB (fun hk => hk.2 (.inl (.inl hos))) (fun hk => hk.2 (.inl (.inl hom))), ?_⟩
  have h1 : Turned (fun k => (w0.heap.size ≤ k ∧ ¬ out k) ∨ k = m) W w1 := (hg0.turned _).trans (hd.turned.mono fun k _ hk => hk.elim (fun h9 => .inl ⟨h9.1, fun h8 => h9.2 (.inl h8)⟩) .inr)
  have h2 : Turned (fun k => (w0.heap.size ≤ k ∧ ¬ out k) ∨ k = m) W w9 := h1.next hT (fun k hk hq => by
    rcases hq with hq | hq
    · exact .inr hq
    · exact absurd hk (by have := h1.size; omega))
  exact h2.trans (hB.mono fun k _ hk => .inl ⟨hk.1, fun h9 => hk.2 (.inl (.inl h9))⟩)
theorem ent_own {w : World} {g k : Nat} {l : Wl} (h : ListAt w w.heap.size 2 (some ⟨g, 0, none⟩) ((wlI l).map entC)) (hk : k < l.length) : g < w.heap.size ∧ w.cell? ⟨g, k * 2, none⟩ = some (.int .i64 ((l[k].1 : Nat) : Int)) ∧ w.cell? ⟨g, k * 2 + 1, none⟩ = some (.string l[k].2) := by
  obtain ⟨b, off, e, hb, c0, c1⟩ := ent_at h (k := k) (by unfold wlI; rw [List.length_map]; exact hk)
  injection e with e
  injection e with e1 e2 _
  subst e1; subst e2
  have he : (wlI l)[k]'(by unfold wlI; rw [List.length_map]; exact hk) = (((l[k].1 : Nat) : Int), l[k].2) := by simp [wlI]
  rw [he] at c0 c1
  simp only [Nat.zero_add] at c0 c1
  exact ⟨hb, c0, c1⟩
theorem ksW_nil : ksW [] = [] := by decide
theorem MapsM.made {w : World} (V : Nat → Nat → U32) : MapsM (w.alloc (.map #[] 0)) w.heap.size w.heap.size (ksW []) (fun _ => 0) V := by
  rw [ksW_nil]
  exact ⟨(MapIs.made w rfl).congr (fun a => by unfold mapF; rw [if_neg (fun h => absurd h.2 List.not_mem_nil)]), Nat.le_refl _, (fun k hk => absurd hk (List.not_mem_nil)), (fun k hk => absurd hk (List.not_mem_nil)), (fun k hk => absurd hk (List.not_mem_nil))⟩
theorem box_S {w1 w2 : World} {b s t' k : Nat} {ver : BitVec 32} (hg : Grew w1 w2) (h : (fun w' : World => w'.cell? ⟨b, 0, none⟩ = some (ptrV s) ∧ b < w'.heap.size ∧ w'.cell? ⟨t', k, none⟩ = some (.int .u32 (u32 ver)) ∧ t' < w'.heap.size) w1) : (fun w' : World => w'.cell? ⟨b, 0, none⟩ = some (ptrV s) ∧ b < w'.heap.size ∧ w'.cell? ⟨t', k, none⟩ = some (.int .u32 (u32 ver)) ∧ t' < w'.heap.size) w2 := ⟨cell_grew hg h.1, Nat.lt_of_lt_of_le h.2.1 hg.size, cell_grew hg h.2.2.1, Nat.lt_of_lt_of_le h.2.2.2 hg.size⟩
theorem ver_up {tv v : U32} (h : tv + 1#32 = v) (hn : tv ≠ 4294967295#32) : (u32 tv == 4294967295) = false ∧ u32 tv + 1 = u32 v ∧ u32 tv + 1 ≤ 4294967295 ∧ IntKind.u32.wrap (u32 tv + 1) = u32 v := by
  have h1 : tv.toNat ≠ 4294967295 := fun e => hn (BitVec.eq_of_toNat_eq (by rw [e]; rfl))
  have h2 := tv.isLt
  have h3 : u32 tv + 1 = u32 v := by
    unfold u32
    rw [← h, BitVec.toNat_add]
    have : (1#32 : BitVec 32).toNat = 1 := rfl
    omega
  have h4 : u32 tv + 1 ≤ 4294967295 := by unfold u32; omega
  refine ⟨by rw [beq_eq_false_iff_ne]; unfold u32; omega, h3, h4, ?_⟩
  rw [h3]
  exact IntWalk.u32_in _ (u32_bd v)
theorem own_int {w : World} {base g cap : Nat} {ks : List Nat} (h : OwnL w base 3 1 (.slice (some ⟨g, 0, none⟩) ks.length cap) (ks.map fun k : Nat => [.int .i64 (k : Int)])) {j : Nat} (hj : j < ks.length) : w.cell? ⟨g, j, none⟩ = some (.int .i64 ((ks[j] : Nat) : Int)) ∧ g < w.heap.size := by
  have h1 : (ks.map fun k : Nat => [Value.int .i64 (k : Int)])[j]? = some [.int .i64 ((ks[j] : Nat) : Int)] := by rw [List.getElem?_map, List.getElem?_eq_getElem hj]; rfl
  have h2 := h.cell (j := j) (i := 0) h1 rfl
  exact ⟨by simpa using h2, (h.own_ge rfl).2⟩
/-- The versions of the top behind the first map sectors. -/
def nt (td : ByteArray) (S : Wl) (v : U32) (q p : Nat) : U32 := if p ∈ (ksW S).take q then v else fld td p
theorem nt_zero (td : ByteArray) (S : Wl) (v : U32) (p : Nat) : nt td S v 0 p = fld td p := by unfold nt; rw [List.take_zero, if_neg List.not_mem_nil]
theorem nt_step (td : ByteArray) (S : Wl) (v : U32) (q : Nat) (hq : q < (ksW S).length) (p : Nat) : (if p = (ksW S)[q] then v else nt td S v q p) = nt td S v (q + 1) p := by
  unfold nt
  rw [List.take_succ_eq_append_getElem hq]
  by_cases h : p = (ksW S)[q]
  · rw [if_pos h, if_pos (List.mem_append_right _ (List.mem_singleton.2 h))]
  · rw [if_neg h]
    by_cases h2 : p ∈ (ksW S).take q
    · rw [if_pos h2, if_pos (List.mem_append_left _ h2)]
    · rw [if_neg h2, if_neg (fun h9 => (List.mem_append.1 h9).elim h2 (fun h8 => h (List.mem_singleton.1 h8)))]
theorem nt_end (E : Dev) (td : ByteArray) (S : Wl) (v : U32) (h : (topI E).data = td) : (List.range 32).map (nt td S v (ksW S).length) = newTop E S v := by
  unfold newTop
  apply List.map_congr_left
  intro p hp
  have hp32 := List.mem_range.1 hp
  unfold nt
  rw [List.take_of_length_le (Nat.le_refl _), h]
  have : p ∈ ksW S ↔ (S.any fun e => e.1 / 32 == p) = true := by
    unfold ksW
    rw [List.mem_filter]
    exact ⟨fun h => h.2, fun h => ⟨hp, h⟩⟩
  by_cases h2 : p ∈ ksW S
  · rw [if_pos h2, if_pos (this.1 h2)]
  · rw [if_neg h2, if_neg (fun h9 => h2 (this.2 h9))]
theorem own_some {go g n c : Nat} (h : (Value.slice (some ⟨go, 0, none⟩) n c).ownBlock = some g) : g = go := by
  have e1 : go = g := by simpa [Value.ownBlock] using h
  exact e1.symm
def en0 (E : Dev) (S : Wl) (v : U32) : Int × ByteArray := (0, packS (vbytes (newTop E S v)) v 0)
def enM (E : Dev) (S : Wl) (v : U32) (q : Nat) : List (Int × ByteArray) := ((ksW S).take q).map fun k : Nat => (1 + (k : Int), packS (vbytes (newMap E S v k)) v (1 + (k : Int)))
def enD (S : Wl) (v : U32) (q : Nat) : List (Int × ByteArray) := (S.take q).map fun e => (131 + ((e.1 : Nat) : Int), packS e.2 v (131 + ((e.1 : Nat) : Int)))
theorem enM_step (E : Dev) (S : Wl) (v : U32) (q : Nat) (hq : q < (ksW S).length) : enM E S v (q + 1) = enM E S v q ++ [(1 + (((ksW S)[q] : Nat) : Int), packS (vbytes (newMap E S v (ksW S)[q])) v (1 + (((ksW S)[q] : Nat) : Int)))] := by
  unfold enM
  rw [List.take_succ_eq_append_getElem hq, List.map_append]
  rfl
theorem enD_step (S : Wl) (v : U32) (q : Nat) (hq : q < S.length) : enD S v (q + 1) = enD S v q ++ [(131 + ((S[q].1 : Nat) : Int), packS S[q].2 v (131 + ((S[q].1 : Nat) : Int)))] := by
  unfold enD
  rw [List.take_succ_eq_append_getElem hq, List.map_append]
  rfl
theorem enM_len (E : Dev) (S : Wl) (v : U32) (q : Nat) : (enM E S v q).length ≤ (ksW S).length := by unfold enM; rw [List.length_map, List.length_take]; omega
theorem enD_len (S : Wl) (v : U32) (q : Nat) : (enD S v q).length ≤ S.length := by unfold enD; rw [List.length_map, List.length_take]; omega
theorem en_all (E : Dev) (S : Wl) (v : U32) : en0 E S v :: (enM E S v (ksW S).length ++ enD S v S.length) = wlI (entG E S v) := by
  unfold wlI entG enM enD en0
  rw [List.take_of_length_le (Nat.le_refl _), List.take_of_length_le (Nat.le_refl _), List.map_cons, List.map_append, List.map_map, List.map_map]
  congr 1
/-- The slots of the first entries. -/
def slU (l : Wl) (q : Nat) : List (Int × ByteArray) := (List.range q).map fun i : Nat => (34 + (i : Int), (l.getD i (0, ⟨#[]⟩)).2)
theorem slU_step (l : Wl) (q : Nat) (hq : q < l.length) : slU l (q + 1) = slU l q ++ [(34 + (q : Int), l[q].2)] := by
  unfold slU
  rw [List.range_succ, List.map_append]
  simp [List.getD_eq_getElem?_getD, List.getElem?_eq_getElem hq]
theorem slU_len (l : Wl) (q : Nat) : (slU l q).length = q := by unfold slU; rw [List.length_map, List.length_range]
theorem slU_end (l : Wl) : slU l l.length = wlI (slotsW l) := by
  unfold slU wlI slotsW
  rw [List.map_map]
  apply List.map_congr_left
  intro j _
  show (34 + (j : Int), _) = (((34 + j : Nat) : Int), _)
  rw [show (((34 + j : Nat)) : Int) = 34 + (j : Int) from by omega]
theorem rawsB_step (l : Wl) (q : Nat) (hq : q < l.length) : catB (rawsB (l.take (q + 1))) = catB (rawsB (l.take q)) ++ l[q].2 := by
  unfold rawsB
  rw [List.take_succ_eq_append_getElem hq, List.map_append]
  exact catB_snoc _ _
theorem rowsI_len (l : Wl) : ((wlI l).map entC).length = l.length := by unfold wlI; rw [List.length_map, List.length_map]
theorem entG_len (E : Dev) (S : Wl) (v : U32) (h : S.length ≤ 64) : 0 < (entG E S v).length ∧ (entG E S v).length ≤ 97 := by
  have h1 : (ksW S).length ≤ 32 := by unfold ksW; exact Nat.le_trans (List.length_filter_le _ _) (by rw [List.length_range]; exact Nat.le_refl _)
  unfold entG
  rw [List.length_cons, List.length_append, List.length_map, List.length_map]
  omega
theorem entG_size (E : Dev) (S : Wl) (v : U32) : ∀ e ∈ entG E S v, e.2.size = 140 := by
  intro e he
  unfold entG at he
  rcases List.mem_cons.1 he with rfl | he
  · exact packS_size ..
  · rcases List.mem_append.1 he with he | he
    · obtain ⟨k, _, rfl⟩ := List.mem_map.1 he
      exact packS_size ..
    · obtain ⟨k, _, rfl⟩ := List.mem_map.1 he
      exact packS_size ..
/-- What the sort does (wsort_any). -/
def SortOK : Prop := ∀ (g cap n : Nat) (ws : List (Int × ByteArray)) (_ : 0 < ws.length ∧ ws.length ≤ 100000) (_ : (ws.map (·.1)).Nodup) (_ : ∀ e ∈ ws, 0 ≤ e.1 ∧ e.1 < (n : Int)) (_ : n ≤ 1024) (w : World) (base : Nat) (_ : OwnL w base 72 2 (.slice (some ⟨g, 0, none⟩) ws.length cap) (ws.map entC)),
    Calls Try.prog 54 #[.slice (some ⟨g, 0, none⟩) ws.length cap, .func (.func 55) #[] #[]] w fun e w' => e = .returned (.tuple #[]) ∧ Turned (fun i => i = g) w w' ∧ ListAt w' w'.heap.size 2 (some ⟨g, 0, none⟩) ((wlI (sortW n ws)).map entC)
theorem sort_ok : SortOK := fun g cap n ws a b c d w base e => wsort_any g cap n ws a b c d w base e
end Go.Proofs.Ytbddelefglhaaaa
namespace Go.Proofs.Ytbddelefglhaaaa
set_option linter.unusedVariables false
set_option linter.unusedSimpArgs false
set_option linter.unusedSectionVars false
open Go.RowKit
attribute [local go_sem ↓] Go.wp_at_zero Go.wp_at_succ
/-- .. while not more than B writes are pending. -/
def WorksB (w0 : World) (x : Nat) (out : Nat → Prop) (W : World) (n B : Nat) (v : Value) (f : Dev → Dev × Int) : Prop :=
  ∃ fn first caps, v = .func (.func fn) first caps ∧ Enters Try.prog fn ∧ ∀ D' w', Live w0 x D' out w' → Beside w0 out W w' → D'.pend.length ≤ B → Calls Try.prog fn (first ++ caps) w' fun e w'' =>
    e = .returned (.int .i64 (f D').2) ∧ Live w0 x (f D').1 out w'' ∧ Beside w0 out w' w'' ∧ (f D').1.pend.length ≤ D'.pend.length + n
theorem Works.toB {w0 : World} {x : Nat} {out : Nat → Prop} {W : World} {n n' B : Nat} {v : Value} {f : Dev → Dev × Int} (h : Works w0 x out W n v f) (hn : n ≤ n') (hB : B ≤ 990000) : WorksB w0 x out W n' B v f := by
  obtain ⟨fn, first, caps, h1, h2, h3⟩ := h
  exact ⟨fn, first, caps, h1, h2, fun D' w' a b c => (h3 D' w' a b (by omega)).mono fun e w'' h => ⟨h.1, h.2.1, h.2.2.1, by omega⟩⟩
def WorksLB (w0 : World) (x : Nat) (out : Nat → Prop) (W : World) (n B : Nat) (fs : List (Dev → Dev × Int)) (vs : List Value) : Prop :=
  vs.length = fs.length ∧ ∀ (k : Nat) (f : Dev → Dev × Int) (v : Value), fs[k]? = some f → vs[k]? = some v → WorksB w0 x out W n B v f
theorem WorksL.toB {w0 : World} {x : Nat} {out : Nat → Prop} {W : World} {n n' B : Nat} {fs : List (Dev → Dev × Int)} {vs : List Value} (h : WorksL w0 x out W n fs vs) (hn : n ≤ n') (hB : B ≤ 990000) : WorksLB w0 x out W n' B fs vs :=
  ⟨h.1, fun k f v h1 h2 => (h.2 k f v h1 h2).toB hn hB⟩
theorem WorksLB.snoc {w0 : World} {x : Nat} {out : Nat → Prop} {W : World} {n B : Nat} {fs : List (Dev → Dev × Int)} {vs : List Value} {f : Dev → Dev × Int} {v : Value} (h : WorksLB w0 x out W n B fs vs) (hk : WorksB w0 x out W n B v f) : WorksLB w0 x out W n B (fs ++ [f]) (vs ++ [v]) := by
  refine ⟨by rw [List.length_append, List.length_append, h.1]; rfl, fun j f' v' h1 h2 => ?_⟩
  rcases Nat.lt_or_ge j fs.length with hj | hj
  · rw [List.getElem?_append_left hj] at h1
    rw [List.getElem?_append_left (by rw [h.1]; exact hj)] at h2
    exact h.2 j f' v' h1 h2
  · rw [List.getElem?_append_right hj] at h1
    rw [List.getElem?_append_right (by rw [h.1]; exact hj), h.1] at h2
    have h0 : j - fs.length = 0 := by have := (List.getElem?_eq_some_iff.1 h1).1; simp at this; omega
    rw [h0] at h1 h2
    obtain rfl : f = f' := by simpa using h1
    obtain rfl : v = v' := by simpa using h2
    exact hk
theorem do_worksB {w0 : World} {x : Nat} {D : Dev} {out : Nat → Prop} {W : World} (hL : Live w0 x D out W) (n B : Nat) (fs : List (Dev → Dev × Int)) (vs : List Value) (hW : WorksLB w0 x out W n B fs vs)
    (hmax : D.pend.length + n * vs.length ≤ B) (hv : vs.length ≤ 990000) (A : Option Addr) (c : Nat) (hat : ListAt W W.heap.size 1 A (vs.map fun v => [v])) (hA : AsideL w0 out A) :
    Calls Try.prog 64 #[.slice A vs.length c] W fun e w' => e = .returned (.int .i64 (runF fs D).2) ∧ Live w0 x (runF fs D).1 out w' ∧ Beside w0 out W w' := by
  refine (do_any (fun k D' w' => (k ≤ vs.length → D'.pend.length ≤ D.pend.length + n * k) ∧ Live w0 x D' out w' ∧ Beside w0 out W w') fs vs hW.1 (by omega) A c (fun k D' w' h => hat.beside h.2.2 hA) (fun k h1 h2 => ?_) D W ⟨fun _ => by omega, hL, Turned.refl _ _⟩).mono ?_
  · obtain ⟨fn, first, caps, hv, hE, hc⟩ := hW.2 k _ _ (List.getElem?_eq_getElem h1) (List.getElem?_eq_getElem h2)
    refine ⟨fn, first, caps, hv, hE, fun D' w' ⟨hp, hL', hB⟩ => ?_⟩
    have h9 := hp (by omega)
    have h8 : n * k ≤ n * vs.length := Nat.mul_le_mul_left n (by omega)
    refine (hc D' w' hL' hB (by omega)).mono ?_
    rintro e w'' ⟨he, hL2, hB2, hp2⟩
    exact ⟨he, fun _ => by rw [Nat.mul_succ]; omega, hL2, hB.trans hB2⟩
  · rintro e w' ⟨he, j, hj, hp, hL', hB⟩
    exact ⟨he, hL', hB⟩
theorem enters_c2 : Enters Try.prog 62 := enters_of Try.func62 (by kernel_rfl) (by kernel_rfl)
set_option maxRecDepth 100000 in
set_option maxHeartbeats 1000000 in
theorem works_compl {w0 : World} {x s m : Nat} {sy ep : Int} {out : Nat → Prop} {W : World} (hb : Blk W s 110 (storeC x sy ep m)) (hs : out s) {b2 b25 ge c : Nat} (h2 : Blk W b2 34 #[ptrV s]) (o2 : out b2) (L : List (Int × ByteArray)) (hl : L.length ≤ 97) (hsz : ∀ e ∈ L, e.2.size ≤ 9223372036854775807)
    (h25 : Blk W b25 102 #[.slice (some ⟨ge, 0, none⟩) L.length c]) (o25 : out b25) (hat : ListAt W W.heap.size 2 (some ⟨ge, 0, none⟩) (L.map entC)) (og : out ge) :
    WorksB w0 x out W 100 980000 (.func (.func 62) #[] #[.pointer (some ⟨b2, 0, none⟩), .pointer (some ⟨b25, 0, none⟩)]) (fun D => runS sy ep (complS L) D) := by
  refine ⟨_, _, _, rfl, enters_c2, fun D' w' hL hB hp => ?_⟩
  have hC := complete_any hL (hb.beside hB hs) hs (by omega) L (by omega) hsz (some ⟨ge, 0, none⟩) c (hat.beside hB (fun b off e => by injection e with e; injection e with e _ _; subst e; exact .inr og))
  have hpd := runS_pend sy ep (complS L) D'
  have hcl : (complS L).length = L.length + 3 := by unfold complS; rw [List.length_append, List.length_map]; rfl
  have k2 := h2.beside hB o2
  have k25 := h25.beside hB o25
  have c2 := k2.cell 0
  have l2 := k2.lt
  have c25 := k25.cell 0
  have l25 := k25.lt
  have HC := Lib.hid hC
  have HP9 := Lib.hid (show (runS sy ep (complS L) D').1.pend.length ≤ D'.pend.length + 100 from by omega)
  clear hC hpd hcl k2 k25 hb h2 h25 hat hsz hL hB hp
  show Calls Try.prog 62 #[.pointer (some ⟨b2, 0, none⟩), .pointer (some ⟨b25, 0, none⟩)] w' _
  go_enter Try.func62, Try.ntmps62
  go_wp2_with fail
  refine HC.out.mono ?_
  rintro e w3 ⟨rfl, hL3, hB3⟩
  go_wp2_with fail
  go_ret
  exact ⟨rfl, hL3, hB3, HP9.out⟩
def commF (sy ep : Int) (l : Wl) (v : U32) : List (Dev → Dev × Int) := ((wlI (slotsW l)).map (fun e D => writeD D sy ep e.1 e.2) ++ [fun D => syncD D sy ep, fun D => writeD D sy ep 33 (headR l v), fun D => syncD D sy ep]) ++ [fun D => runS sy ep (complS (wlI l)) D]
theorem commF_run (sy ep : Int) (l : Wl) (v : U32) (D : Dev) : runF (commF sy ep l v) D = runS sy ep (commitS l v) D := by
  have h1 : ∀ D, runF ((wlI (slotsW l)).map (fun e D => writeD D sy ep e.1 e.2) ++ [fun D => syncD D sy ep, fun D => writeD D sy ep 33 (headR l v), fun D => syncD D sy ep]) D = runS sy ep (puts (slotsW l) ++ [.sync] ++ (puts [(33, headR l v)] ++ [.sync])) D := by
    intro D
    rw [← runF_S]
    congr 1
    unfold wlI puts
    simp only [List.map_append, List.map_map, List.map_cons, List.map_nil, List.append_assoc, List.cons_append, List.nil_append]
    congr 1
  have h2 : commitS l v = (puts (slotsW l) ++ [.sync] ++ (puts [(33, headR l v)] ++ [.sync])) ++ complS (wlI l) := by
    rw [complS_is]
    unfold commitS
    simp only [List.append_assoc]
  obtain ⟨P, hP⟩ : ∃ P, puts (slotsW l) ++ [St.sync] ++ (puts [(33, headR l v)] ++ [St.sync]) = P := ⟨_, rfl⟩
  rw [hP] at h1 h2
  unfold commF
  rw [runF_app, h1, h2, runS_app]
  split
  · show (if (runS sy ep (complS (wlI l)) _).2 = 0 then (_, 0) else runS sy ep (complS (wlI l)) _) = _
    split
    · rename_i h9
      exact Prod.ext rfl h9.symm
    · rfl
  · rfl
/-- The last call of 'Commit'. -/
theorem commit_do {w0 : World} {x s m : Nat} {sy ep : Int} {E : Dev} {out9 : Nat → Prop} {w9 : World} (hH : Held w0 x s m sy ep E out9 w9) (hp : E.pend.length ≤ 900000) {lo base : Nat} (hlo : ∀ k, lo ≤ k → k < w9.heap.size → out9 k) (hbase : lo ≤ base) (l : Wl) (v : U32) (hl : l.length ≤ 97) (hsz : ∀ e ∈ l, e.2.size = 140)
    {b2 b25 ge c : Nat} (h2 : Blk w9 b2 34 #[ptrV s]) (o2 : out9 b2) (h25 : Blk w9 b25 102 #[.slice (some ⟨ge, 0, none⟩) l.length c]) (l25 : lo ≤ b25) (hat : ListAt w9 w9.heap.size 2 (some ⟨ge, 0, none⟩) ((wlI l).map entC)) (hge : lo ≤ ge ∧ ge < w9.heap.size)
    {vs : List Value} {F v2 : Value} (hpa : PutsAt w9 base s (slU l l.length) vs) (hpu : PutAt w9 base s 33 (headR l v) F)
    (hown : OwnL w9 base 104 1 v2 ((vs ++ [.func (.func 61) #[ptrV s] #[], F, .func (.func 61) #[ptrV s] #[], .func (.func 62) #[] #[.pointer (some ⟨b2, 0, none⟩), .pointer (some ⟨b25, 0, none⟩)]]).map fun v => [v])) :
    ∃ A2 n2 c2, v2 = .slice A2 n2 c2 ∧ Calls Try.prog 64 #[.slice A2 n2 c2] w9 fun e w' => e = .returned (.int .i64 (runS sy ep (commitS l v) E).2) ∧ Live w0 x (runS sy ep (commitS l v) E).1 out9 w' ∧ Beside w0 out9 w9 w' := by
  obtain ⟨A2, c2, hv2, _, _, hla⟩ := hown.listAt
  rw [List.length_map] at hv2
  have hvl := hpa.1
  rw [slU_len] at hvl
  rw [slU_end] at hpa
  have hlen : (vs ++ [Value.func (.func 61) #[ptrV s] #[], F, .func (.func 61) #[ptrV s] #[], .func (.func 62) #[] #[.pointer (some ⟨b2, 0, none⟩), .pointer (some ⟨b25, 0, none⟩)]]).length = l.length + 4 := by rw [List.length_append, hvl]; rfl
  refine ⟨A2, _, c2, hv2, ?_⟩
  have hb := hH.store.blk
  have hlo2 : ∀ k, base ≤ k → k < w9.heap.size → out9 k := fun k h1 h2 => hlo k (by omega) h2
  have hsz1 : ∀ e ∈ wlI (slotsW l), e.2.size ≤ 9223372036854775807 := by
    intro e he
    obtain ⟨y, hy, rfl⟩ := List.mem_map.1 he
    unfold slotsW at hy
    obtain ⟨j, hj, rfl⟩ := List.mem_map.1 hy
    have hjl := List.mem_range.1 hj
    show (l.getD j (0, ⟨#[]⟩)).2.size ≤ _
    rw [List.getD_eq_getElem?_getD, List.getElem?_eq_getElem hjl]
    have := hsz _ (List.getElem_mem hjl)
    show l[j].2.size ≤ _
    omega
  have hsz2 : ∀ e ∈ wlI l, e.2.size ≤ 9223372036854775807 := by
    intro e he
    obtain ⟨y, hy, rfl⟩ := List.mem_map.1 he
    have := hsz y hy
    show y.2.size ≤ _
    omega
  have hsh : (headR l v).size ≤ 9223372036854775807 := by have : (headR l v).size = 140 := packS_size ..; omega
  have hwl : (wlI l).length = l.length := by unfold wlI; rw [List.length_map]
  have hC := works_compl (x := x) (m := m) (sy := sy) (ep := ep) hb hH.os h2 o2 (wlI l) (by rw [hwl]; exact hl) hsz2 (by rw [hwl]; exact h25) (hlo _ l25 h25.lt) hat (hlo _ hge.1 hge.2) (w0 := w0)
  have hw : WorksLB w0 x out9 w9 100 980000 (commF sy ep l v) (vs ++ [.func (.func 61) #[ptrV s] #[], F, .func (.func 61) #[ptrV s] #[], .func (.func 62) #[] #[.pointer (some ⟨b2, 0, none⟩), .pointer (some ⟨b25, 0, none⟩)]]) := by
    have h1 := (WorksL.puts (w0 := w0) (x := x) hb hH.os hlo2 hsz1 hpa).app (WorksL.cons ((works_sync hb hH.os).more (by omega)) (WorksL.cons (works_put hb hH.os hlo2 hsh hpu) (WorksL.cons ((works_sync hb hH.os).more (by omega)) (WorksL.nil ..))))
    have h3 := (h1.toB (n' := 100) (B := 980000) (by omega) (by omega)).snoc hC
    rw [List.append_assoc vs] at h3
    exact h3
  refine (do_worksB hH.live 100 980000 (commF sy ep l v) _ hw (by omega) (by omega) A2 c2 hla (fun b off e => ?_)).mono ?_
  · obtain ⟨g, cap, e1, h1, h9⟩ := hown.some_ (fun e => by have := congrArg List.length e; rw [List.length_map, hlen, List.length_nil] at this; omega)
    rw [e1] at hv2
    injection hv2 with hv2 _ _
    rw [e] at hv2
    injection hv2 with hv2
    injection hv2 with hv2 _ _
    subst hv2
    exact .inr (hlo _ (by omega) h9)
  · rintro e w' ⟨he, h1, h2⟩
    rw [commF_run] at he h1
    exact ⟨he, h1, h2⟩
theorem cnt_conv (n : Nat) (h : n ≤ 97) : IntKind.u32.wrap (n : Int) = u32 (nv n) := by
  have h9 : u32 (nv n) = (n : Int) := by unfold u32 nv; rw [BitVec.toNat_ofNat]; omega
  rw [h9]
  exact IntWalk.u32_in _ (by omega)
end Go.Proofs.Ytbddelefglhaaaa
