/- The reference's Cut. -/
import Derived.Test.YtenbcjlikoajdaaExtQ
import Derived.Test.YtenbcjlikoajdaaExtNW
namespace Go.Proofs.Ytenbcjlikoajdaa
set_option linter.unusedVariables false
set_option linter.unusedSimpArgs false
set_option linter.unusedSectionVars false
open Go.RowKit
set_option maxRecDepth 100000 in
set_option maxHeartbeats 8000000 in
theorem refcut_any (A : Option Addr) (c : Nat) (l : List (Int × Int)) (w : World) (B : Nat) (hB : B ≤ w.heap.size) (hl : l.length ≤ 100000) (hr : RunsAt w B A l) (n : Int) (N : Nat) (n0 : -9223372036854775808 ≤ n) (n1 : n ≤ 9223372036854775807) (hN : N = n.toNat) :
    Calls Try.prog 55 #[.slice A l.length c, .int .i64 n] w fun e w' => ∃ v1 v2, e = .returned (.tuple #[v1, v2]) ∧ OwnL w' w.heap.size 25 2 v1 ((joinS (ints (cutA l N))).map rowN) ∧ OwnL w' w.heap.size 25 2 v2 ((joinS (ints (cutB l N))).map rowN) ∧ Grew w w' := by
  have HR := Lib.hid hr
  clear hr
  have hNb : N ≤ 9223372036854775807 := by omega
  go_enter Try.func55, Try.ntmps55
  go_wp2_with fail
  go_loopg [1, 6, 7, 8] l.length (fun gk m va vb i wr => ∃ (k j : Nat) (mm : Int) (va' vb' : Value), va' = va ∧ vb' = vb ∧ k ≤ l.length ∧ gk = l.length - k ∧ i = .int .i64 k ∧ m = .int .i64 mm ∧ -9223372036854775808 ≤ mm ∧ mm ≤ 9223372036854775807 ∧ j = mm.toNat ∧ j = N - sizeS (l.take k) ∧ OwnL wr w.heap.size 25 2 va ((cutA (l.take k) N).map rowN) ∧ OwnL wr w.heap.size 25 2 vb ((cutB (l.take k) N).map rowN) ∧ (∀ g, va.ownBlock = some g → vb.ownBlock ≠ some g) ∧ Grew w wr)
  case atStart =>
    refine ⟨0, N, n, _, _, rfl, rfl, by omega, by omega, rfl, rfl, n0, n1, hN, by simp [sizeS], ?_, ?_, by simp [Value.ownBlock], by (repeat' first | (with_reducible exact Grew.refl _) | (with_reducible assumption) | (with_reducible refine Grew.alloc ?_ _) | (with_reducible refine Grew.drew ?_) | (with_reducible refine Grew.drewN ?_ _) | (with_reducible refine Grew.setRow ?_ (by first | (simp; done) | (simp; omega) | omega) _) | (with_reducible refine Grew.setCell ?_ (by first | (simp; done) | (simp; omega) | omega) _) | ((with_reducible apply Grew.trans); rotate_left; (with_reducible assumption)) | ((with_reducible apply Grew.turn); rotate_left; (with_reducible assumption); (focus (intro i hi; first | omega | (simp at hi; omega)))) | fail)⟩
    · exact (OwnL.empty w _ _ _ (Nat.le_refl _) rfl).alloc _
    · exact (OwnL.empty (w.alloc (.cells #[] 25)) w.heap.size 25 2 (by simp) (by simp))
  case round =>
    obtain ⟨k, j, mm, va, vb, rfl, rfl, hk, hgk, rfl, rfl, hm0, hm1, hjm, hj, hoa, hob, hdis, hg⟩ := hrel
    have HGK := Lib.hid hgk
    clear hgk n0 n1 hN
    have hjb : j ≤ 9223372036854775807 := by omega
    by_cases hlt : k < l.length
    · obtain ⟨b, off, f, c, rfl, hb, hlk, ⟨f0, f1, c0, c1⟩, x0, x1⟩ := (HR.out.keep hB hg).at_ hlt
      simp only at f0 f1 c0 c1
      have hbs : b < wr.heap.size := by have := hg.size; omega
      have hws := hg.size
      have hle := clipS_le (f, c)
      have htk : l.take (k + 1) = l.take k ++ [(f, c)] := by rw [List.take_succ_eq_append_getElem hlt, hlk]
      have HNA := Lib.hid (show cutA (l.take (k + 1)) N = _ from by rw [htk, cutA_snoc, ← hj])
      have HNB := Lib.hid (show cutB (l.take (k + 1)) N = _ from by rw [htk, cutB_snoc, ← hj])
      have HSZ := Lib.hid (show sizeS (l.take (k + 1)) = sizeS (l.take k) + (clipS (f, c)).2 from by rw [sizeS_snoc l k hlt, hlk])
      have HLA := Lib.hid (show ((cutA (l.take k) N).map rowN).length = k from by rw [List.length_map, cutA_len, List.length_take]; omega)
      have HLB := Lib.hid (show ((cutB (l.take k) N).map rowN).length = k from by rw [List.length_map, cutB_len, List.length_take]; omega)
      have HJ := Lib.hid hj
      have HJM := Lib.hid hjm
      clear hlk htk hj hjm
      have HC := fun W => Lib.hid (refclip_any f c W f0 f1 c0 c1)
      generalize clipS (f, c) = r at *
      obtain ⟨lo, nn⟩ := r
      simp only at hle
      have hboA := fun g h => hoa.own_ge (g := g) h
      have hboB := fun g h => hob.own_ge (g := g) h
      have hdis' : ∀ g, vb.ownBlock = some g → va.ownBlock ≠ some g := fun g h h' => hdis g h' h
      go_upto_block 1 with fail
      go_cut [1, 6, 7] (fun m sa sb wx => m = .int .i64 (if 0 < mm then ((j - min j nn : Nat) : Int) else mm) ∧ OwnL wx w.heap.size 25 2 sa ((cutA (l.take k) N).map rowN ++ [rowN (lo, min j nn)]) ∧ OwnL wx w.heap.size 25 2 sb ((cutB (l.take k) N).map rowN ++ [rowN (lo + min j nn, nn - min j nn)]) ∧ (∀ g, sa.ownBlock = some g → sb.ownBlock ≠ some g) ∧ Grew w wx)
      case first =>
        go_wp2_with fail
        refine (HC _).out.mono ?_
        rintro e w1 ⟨rfl, g1⟩
        have hg1 := hg.trans g1
        have hoa1 := (hoa.grew g1).alloc (.cells #[.int .i64 (lo : Int), .int .i64 (nn : Int)] 25)
        have hob1 := (hob.grew g1).alloc (.cells #[.int .i64 (lo : Int), .int .i64 (nn : Int)] 25)
        have hz1 := g1.size
        have hz2 := hg1.size
        have hgb := Blk.new w1 25 #[.int .i64 (lo : Int), .int .i64 (nn : Int)] rfl
        have hgg : Grew w (w1.alloc (.cells #[.int .i64 (lo : Int), .int .i64 (nn : Int)] 25)) := hg1.alloc _
        have hsz : (w1.alloc (.cells #[.int .i64 (lo : Int), .int .i64 (nn : Int)] 25)).heap.size = w1.heap.size + 1 := by simp
        have hnA : va.ownBlock ≠ some w1.heap.size := fun h => by have := (hboA _ h).2; omega
        have hnB : vb.ownBlock ≠ some w1.heap.size := fun h => by have := (hboB _ h).2; omega
        go_upto_region 6 with fail
        clear g1 hg hoa hob
        generalize w1.alloc (.cells #[.int .i64 (lo : Int), .int .i64 (nn : Int)] 25) = w2 at *
        have r0 := hgb.cell 0
        have r1 := hgb.cell 1
        have hszl : w1.heap.size < w2.heap.size := by omega
        clear hsz
        go_cut [10] (fun kk wx => kk = .int .i64 ((min j nn : Nat) : Int) ∧ w2 = wx)
        case first =>
          have hjm := HJM.out
          by_cases h1 : mm < (nn : Int)
          · by_cases h2 : 0 < mm
            · have HMN := Lib.hid (show ((min j nn : Nat) : Int) = mm from by omega)
              clear hjm
              go_wp2_with fail
              all_goals (go_meet; exact ⟨by first | (rw [HMN.out]; done) | (rw [HMN.out]; go_num), rfl⟩)
            · have HMN := Lib.hid (show ((min j nn : Nat) : Int) = 0 from by omega)
              clear hjm
              go_wp2_with fail
              all_goals (go_meet; exact ⟨by first | (rw [HMN.out]; done) | (rw [HMN.out]; go_num), rfl⟩)
          · have HMN := Lib.hid (show ((min j nn : Nat) : Int) = (nn : Int) from by omega)
            clear hjm
            have h1' : (nn : Int) ≤ mm := by omega
            by_cases h2 : (0 : Int) < (nn : Int)
            · go_wp2_with fail
              all_goals (go_meet; exact ⟨by first | (rw [HMN.out]; done) | (rw [HMN.out]; go_num), rfl⟩)
            · have HZ := Lib.hid (show (nn : Int) = 0 from by omega)
              go_wp2_with fail
              all_goals (go_meet; exact ⟨by first | (rw [HMN.out, HZ.out]; done) | (rw [HMN.out]; have := HZ.out; go_num), rfl⟩)
        case rest =>
        obtain ⟨rfl, rfl⟩ := hcut
        have hq1 : min j nn ≤ j := Nat.min_le_left _ _
        have hq2 : min j nn ≤ nn := Nat.min_le_right _ _
        generalize min j nn = q at *
        have hw1 : IntKind.i64.wrap ((lo : Int) + (q : Int)) = ((lo + q : Nat) : Int) := by rw [IntKind.wrap_i64]; omega
        have hw2 : IntKind.i64.wrap ((nn : Int) - (q : Int)) = ((nn - q : Nat) : Int) := by rw [IntKind.wrap_i64]; omega
        have hws2 := hgg.size
        have hA3 : ∀ g, va.ownBlock = some g → g < w2.heap.size := fun g h => (hoa1.own_ge h).2
        have hB3 : ∀ g, vb.ownBlock = some g → g < w2.heap.size := fun g h => (hob1.own_ge h).2
        go_wp2_with (first
          | (refine wpList_push2 rfl (.tmp 29) (.tmp 34) 22 rfl w.heap.size 25 2 16 _ Try.underlying22 info_run rfl (by decide) _ va ((cutA (l.take k) N).map rowN) (rowN (lo, q)) rfl rfl (hoa1.alloc _) w2.heap.size (by first | rfl | (simp; done)) (Blk.new w2 _ _ rfl) rfl (by rw [HLA.out]; omega) (by rw [HLA.out]; omega) (by simp; omega) k HLA.out ?_; intro gA cA w3 hoa3 hgrow hatA hltA; have s0 := (hgrow.cell_far ⟨w1.heap.size, 0, none⟩ (by simp; omega) (fun e => hnA e.symm)).trans ((World.cell?_alloc_lt w2 _ _ hszl).trans r0); have s1 := (hgrow.cell_far ⟨w1.heap.size, 1, none⟩ (by simp; omega) (fun e => hnA e.symm)).trans ((World.cell?_alloc_lt w2 _ _ hszl).trans r1); clear r0 r1; have hzA := hgrow.size; simp at hzA)
          | (refine wpList_push2 rfl (.tmp 36) (.tmp 46) 22 rfl w.heap.size 25 2 16 _ Try.underlying22 info_run rfl (by decide) _ vb ((cutB (l.take k) N).map rowN) (rowN (lo + q, nn - q)) rfl rfl ((OwnL.own (hob1.alloc _) hgrow (fun g h => hdis' g h)).alloc _) w3.heap.size (by first | rfl | (simp; done)) (Blk.new w3 _ _ rfl) rfl (by rw [HLB.out]; omega) (by rw [HLB.out]; omega) (by simp; omega) k HLB.out ?_; intro gB cB w4 hob4 hgrow' hatB hltB))
        all_goals
          go_meet
          have hzB := hgrow'.size
          simp at hzB
          refine ⟨?_, ?_, hob4, ?_, ?_⟩
          · have := HJM.out
            first
              | (rw [if_pos (by omega)]; go_num)
              | (rw [if_neg (by omega)]; done)
          · exact OwnL.own (hoa3.alloc _) hgrow' (fun g h h' => by
              simp [Value.ownBlock] at h
              subst h
              rcases hatA with h2 | h2
              · exact hdis' _ h' h2
              · simp at h2; have := hB3 _ h'; omega)
          · intro g h h'
            simp [Value.ownBlock] at h h'
            subst h
            subst h'
            rcases hatA with h2 | h2 <;> rcases hatB with h3 | h3
            · exact hdis _ h2 h3
            · have := hA3 _ h2; simp at h3; omega
            · have := hB3 _ h3; simp at h2; omega
            · simp at h2 h3; omega
          · have hg3 := Grew.own (a := w) (hgg.alloc _) hgrow hoa1.row_ge (Nat.le_refl _)
            exact Grew.own (hg3.alloc _) hgrow' hob1.row_ge (Nat.le_refl _)
      case rest =>
        obtain ⟨rfl, hA5, hB5, hd5, hg5⟩ := hcut
        have hjm := HJM.out
        have HOA := Lib.hid (show (cutA (l.take (k + 1)) N).map rowN = (cutA (l.take k) N).map rowN ++ [rowN (lo, min j nn)] from by rw [HNA.out, List.map_append]; rfl)
        have HOB := Lib.hid (show (cutB (l.take (k + 1)) N).map rowN = (cutB (l.take k) N).map rowN ++ [rowN (lo + min j nn, nn - min j nn)] from by rw [HNB.out, List.map_append]; rfl)
        have HQ := Lib.hid (show j - nn = (if 0 < mm then ((j - min j nn : Nat) : Int) else mm).toNat from by split <;> omega)
        have hb1 : -9223372036854775808 ≤ (if 0 < mm then ((j - min j nn : Nat) : Int) else mm) := by split <;> omega
        have hb2 : (if 0 < mm then ((j - min j nn : Nat) : Int) else mm) ≤ 9223372036854775807 := by split <;> omega
        clear hoa hob hdis hdis' hjm
        generalize (if 0 < mm then ((j - min j nn : Nat) : Int) else mm) = m2 at *
        generalize min j nn = q at *
        go_wp2_with fail
        go_roundg (l.length - (k + 1))
        case measure => rw [HGK.out]; omega
        case rel =>
          exact ⟨k + 1, j - nn, m2, _, _, rfl, rfl, by omega, by omega, by go_num, rfl, hb1, hb2, HQ.out, by rw [HSZ.out, HJ.out]; omega, by rw [HOA.out]; exact hA5, by rw [HOB.out]; exact hB5, hd5, hg5⟩
    · obtain rfl : k = l.length := by omega
      rw [List.take_length] at hoa hob
      have hla := cutA_len l N
      have hlb := cutB_len l N
      obtain ⟨Aa, ca, hva, hra⟩ := own_runs hoa (fun r hr => Nat.le_trans (cutA_bd _ _ r hr) (by omega))
      obtain ⟨Ab, cb, hvb, hrb⟩ := own_runs hob (fun r hr => Nat.le_trans (cutB_bd _ _ r hr) (by omega))
      subst hva
      subst hvb
      go_wp2_with fail
      refine (refjoin_any Aa ca (ints (cutA l N)) wr wr.heap.size (Nat.le_refl _) (by rw [ints_len]; omega) hra).mono ?_
      rintro e w1 ⟨v1, rfl, ho1, g1⟩
      have hrb1 := (hrb.hold g1)
      go_wp2_with fail
      refine (refjoin_any Ab cb (ints (cutB l N)) w1 w1.heap.size (Nat.le_refl _) (by rw [ints_len]; omega) hrb1).mono ?_
      rintro e w2 ⟨v2, rfl, ho2, g2⟩
      have h1 := g1.size
      have h2 := hg.size
      go_wp2_with fail
      go_ret2
      exact ⟨v1, v2, rfl, (ho1.grew g2).mono (by omega), ho2.mono (by omega), hg.trans (g1.trans g2)⟩
end Go.Proofs.Ytenbcjlikoajdaa
