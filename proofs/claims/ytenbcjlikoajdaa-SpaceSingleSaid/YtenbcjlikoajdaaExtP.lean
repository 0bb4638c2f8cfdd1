/- The reference's Sequence, Disjoint, At and Index. -/
import Derived.Test.YtenbcjlikoajdaaExtO
namespace Go.Proofs.Ytenbcjlikoajdaa
set_option linter.unusedVariables false
set_option linter.unusedSimpArgs false
set_option linter.unusedSectionVars false
open Go.RowKit
def natC (t : Nat) : List Value := [.int .i64 (t : Int)]
theorem info_int : (Try.prog.info? 3).map (fun i => (i.zero, i.size, i.bytes)) = some (some (.int .i64 0), 1, 8) := by kernel_rfl
theorem nat_at {w : World} {B : Nat} {A : Option Addr} {s : List Nat} (h : ListAt w B 1 A (s.map natC)) {k : Nat} (hk : k < s.length) :
    ∃ b off, A = some ⟨b, off, none⟩ ∧ b < B ∧ w.cell? ⟨b, off + k, none⟩ = some (.int .i64 (s[k] : Int)) := by
  obtain ⟨b, off, e, hb, hc⟩ := h (by simp; omega)
  have := hc k (natC s[k]) (by rw [List.getElem?_map, List.getElem?_eq_getElem hk]; rfl) 0 _ rfl
  rw [Nat.mul_one, Nat.add_zero] at this
  exact ⟨b, off, e, hb, this⟩
theorem seqS_snoc (l : List (Int × Int)) (k : Nat) (h : k < l.length) : seqS (l.take (k + 1)) = seqS (l.take k) ++ seqN (clipS l[k]) := by
  rw [List.take_succ_eq_append_getElem h, seqS_append, seqS_cons]
  simp [seqS]
set_option maxRecDepth 100000 in
set_option maxHeartbeats 4000000 in
theorem seq_any (A : Option Addr) (c : Nat) (l : List (Int × Int)) (w : World) (B : Nat) (hB : B ≤ w.heap.size) (hl : l.length ≤ 100000) (hr : RunsAt w B A l) :
    Calls Try.prog 54 #[.slice A l.length c] w fun e w' => ∃ v, e = .returned v ∧ OwnL w' w.heap.size 3 1 v ((seqS l).map natC) ∧ Grew w w' := by
  have HR := Lib.hid hr
  clear hr
  go_enter Try.func54, Try.ntmps54
  go_wp2_with fail
  go_loopg [3, 4] l.length (fun gk v i wr => ∃ k : Nat, k ≤ l.length ∧ gk = l.length - k ∧ i = .int .i64 k ∧ OwnL wr w.heap.size 3 1 v ((seqS (l.take k)).map natC) ∧ Grew w wr)
  case atStart => exact ⟨0, by omega, by omega, rfl, OwnL.empty w _ _ _ (Nat.le_refl _) rfl, by (repeat' first | (with_reducible exact Grew.refl _) | (with_reducible assumption) | (with_reducible refine Grew.alloc ?_ _) | (with_reducible refine Grew.drew ?_) | (with_reducible refine Grew.drewN ?_ _) | (with_reducible refine Grew.setRow ?_ (by first | (simp; done) | (simp; omega) | omega) _) | (with_reducible refine Grew.setCell ?_ (by first | (simp; done) | (simp; omega) | omega) _) | ((with_reducible apply Grew.trans); rotate_left; (with_reducible assumption)) | ((with_reducible apply Grew.turn); rotate_left; (with_reducible assumption); (focus (intro i hi; first | omega | (simp at hi; omega)))) | fail)⟩
  case round =>
    obtain ⟨k, hk, hgk, rfl, hown, hg⟩ := hrel
    have HGK := Lib.hid hgk
    clear hgk
    by_cases hlt : k < l.length
    · obtain ⟨b, off, f, c, rfl, hb, hlk, ⟨f0, f1, c0, c1⟩, x0, x1⟩ := (HR.out.keep hB hg).at_ hlt
      simp only at f0 f1 c0 c1
      have hbs : b < wr.heap.size := by have := hg.size; omega
      have hws := hg.size
      have hle := clipS_le (f, c)
      have HN := Lib.hid (show seqS (l.take (k + 1)) = seqS (l.take k) ++ seqN (clipS (f, c)) from by rw [seqS_snoc l k hlt, hlk])
      have HLE := Lib.hid (show (seqS (l.take k)).length ≤ 128 * k from by rw [seqS_len]; have := sizeS_le (l.take k); have := List.length_take_le k l; omega)
      clear hlk
      have HC := fun W => Lib.hid (refclip_any f c W f0 f1 c0 c1)
      generalize clipS (f, c) = r at *
      generalize seqS (l.take k) = s at *
      obtain ⟨lo, nn⟩ := r
      simp only at hle
      go_wp2_with fail
      refine (HC _).out.mono ?_
      rintro e w1 ⟨rfl, g1⟩
      have hg1 := hg.trans g1
      have hown1 := hown.grew g1
      clear hg hown x0 x1 hbs
      have hws1 := hg1.size
      go_wp2_with fail
      go_loopg [3, 6] nn (fun gk2 v i wx => ∃ j : Nat, j ≤ nn ∧ gk2 = nn - j ∧ i = .int .i64 j ∧ OwnL wx w.heap.size 3 1 v ((s ++ seqN (lo, j)).map natC) ∧ Blk wx w1.heap.size 25 #[.int .i64 lo, .int .i64 nn] ∧ Grew w wx)
      case atStart => exact ⟨0, by omega, by omega, rfl, by (rw [show s ++ seqN (lo, 0) = s from by simp [seqN]]; exact hown1.alloc _), by (apply Blk.conv; (· (repeat' first | (with_reducible assumption) | (with_reducible apply Blk.setRow) | ((with_reducible apply Blk.farRow); rotate_left; (focus (first | (simp; done) | (simp; omega) | omega))) | (with_reducible apply Blk.drew) | (with_reducible apply Blk.drewN) | (with_reducible apply Blk.set_) | (with_reducible exact Blk.new _ _ _ (by first | rfl | (simp; done) | (simp; omega))) | (with_reducible apply Blk.alloc) | ((with_reducible apply Blk.far); rotate_left; (focus (first | (simp; done) | (simp; omega) | omega))) | ((with_reducible apply Blk.grew); rotate_left; (with_reducible assumption)) | ((with_reducible apply Blk.turned); rotate_left; (with_reducible assumption); (focus (first | (simp; done) | (simp; omega) | omega))) | fail)); (· rfl)), by (repeat' first | (with_reducible exact Grew.refl _) | (with_reducible assumption) | (with_reducible refine Grew.alloc ?_ _) | (with_reducible refine Grew.drew ?_) | (with_reducible refine Grew.drewN ?_ _) | (with_reducible refine Grew.setRow ?_ (by first | (simp; done) | (simp; omega) | omega) _) | (with_reducible refine Grew.setCell ?_ (by first | (simp; done) | (simp; omega) | omega) _) | ((with_reducible apply Grew.trans); rotate_left; (with_reducible assumption)) | ((with_reducible apply Grew.turn); rotate_left; (with_reducible assumption); (focus (intro i hi; first | omega | (simp at hi; omega)))) | fail)⟩
      case round =>
        obtain ⟨j, hj, hgj, rfl, hownx, hbx, hgx⟩ := hrel
        have HGJ := Lib.hid hgj
        clear hgj
        have hx := hbx.lt
        have y0 := hbx.cell 0
        have y1 := hbx.cell 1
        have hne := hownx.ne_blk hbx (by decide)
        have HLS := Lib.hid (show ((s ++ seqN (lo, j)).map natC).length = s.length + j from by rw [List.length_map, List.length_append, seqN_len])
        have HS := Lib.hid (show s ++ seqN (lo, j + 1) = (s ++ seqN (lo, j)) ++ [lo + j] from by rw [seqN_succ, List.append_assoc])
        have hsl : s.length ≤ 128 * 100000 := by have := HLE.out; omega
        clear hown1 hg1
        by_cases hjn : j < nn
        · go_wp2_with (at_builtin; refine wpList_push rfl _ _ 66 rfl w.heap.size 3 1 8 _ Try.underlying66 info_int rfl (by decide) _ _ ((s ++ seqN (lo, j)).map natC) (natC (lo + j)) (by rfl) rfl rfl hownx (by first | rfl | (simp; done)) rfl rfl (by rw [HLS.out]; omega) (by rw [HLS.out]; omega) hgx.size ?_; intro v' w3 hown3 hgr hbk hsz)
          go_roundg (nn - (j + 1))
          case measure => rw [HGJ.out]; omega
          case rel => exact ⟨j + 1, by omega, by omega, by go_num, by rw [HS.out, List.map_append]; exact hown3, hbk _ _ _ hbx hne, hgr _ hgx (Nat.le_refl _)⟩
        · obtain rfl : j = nn := by omega
          go_wp2_with fail
          go_roundg (l.length - (k + 1))
          case measure => rw [HGK.out]; omega
          case rel => exact ⟨k + 1, by omega, by omega, by go_num, by rw [HN.out]; exact hownx, hgx⟩
    · obtain rfl : k = l.length := by omega
      rw [List.take_length] at hown
      go_wp2_with fail
      go_ret
      exact ⟨_, rfl, hown, hg⟩
theorem own_nats {w : World} {base : Nat} {v : Value} {s : List Nat} (h : OwnL w base 3 1 v (s.map natC)) : ∃ A c, v = .slice A s.length c ∧ ListAt w w.heap.size 1 A (s.map natC) := by
  obtain ⟨A, c, hv, _, _, hl⟩ := h.listAt
  exact ⟨A, c, by rw [hv, List.length_map], hl⟩
theorem findT_drop (t : Int) (s : List Nat) (k : Nat) (h : k < s.length) (n : Nat) : findT t (s.drop k) n = if (s[k] : Int) = t then ((n : Int), true) else findT t (s.drop (k + 1)) (n + 1) := by
  rw [List.drop_eq_getElem_cons h, findT]
theorem take_nodup (s : List Nat) (k : Nat) (h : k < s.length) : (s.take (k + 1)).Nodup ↔ (s.take k).Nodup ∧ ∀ j (hj : j < k), s[k] ≠ s[j] := by
  rw [List.take_succ_eq_append_getElem h, List.nodup_append]
  constructor
  · rintro ⟨h1, _, h3⟩
    refine ⟨h1, fun j hj e => h3 (s[j]) ?_ (s[k]) (by simp) e.symm⟩
    exact List.mem_take_iff_getElem.2 ⟨j, by omega, rfl⟩
  · rintro ⟨h1, h2⟩
    refine ⟨h1, by simp, fun a ha b hb e => ?_⟩
    obtain ⟨j, hj, rfl⟩ := List.mem_take_iff_getElem.1 ha
    rw [List.mem_singleton.1 hb] at e
    exact h2 j (by omega) e.symm
section
variable (A : Option Addr) (c : Nat) (l : List (Int × Int)) (w : World) (B : Nat) (hB : B ≤ w.heap.size) (hl : l.length ≤ 100000) (hr : RunsAt w B A l)
include hB hl hr
end
end Go.Proofs.Ytenbcjlikoajdaa
