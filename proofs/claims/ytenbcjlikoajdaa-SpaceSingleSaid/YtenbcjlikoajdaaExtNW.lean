/- Cut: the program's. -/
import Derived.Test.YtenbcjlikoajdaaExtN
import Derived.Deep.DeepCutAuto
import Derived.Deep.CutBlock
namespace Go.Proofs.Ytenbcjlikoajdaa
set_option linter.unusedVariables false
set_option linter.unusedSimpArgs false
set_option linter.unusedSectionVars false
open Go.RowKit
theorem min_cases (j nn : Nat) : min j nn = nn ∧ nn < j ∨ min j nn = j ∧ j ≤ nn := by omega
set_option maxRecDepth 100000 in
set_option maxHeartbeats 8000000 in
theorem cut_any (A : Option Addr) (c : Nat) (l : List (Int × Int)) (w : World) (B : Nat) (hB : B ≤ w.heap.size) (hl : l.length ≤ 100000) (hr : RunsAt w B A l) (n : Int) (N : Nat) (n0 : -9223372036854775808 ≤ n) (n1 : n ≤ 9223372036854775807) (hN : N = n.toNat) :
    Calls Try.prog 35 #[.slice A l.length c, .int .i64 n] w fun e w' => ∃ v1 v2, e = .returned (.tuple #[v1, v2]) ∧ OwnL w' w.heap.size 25 2 v1 ((joinS (ints (cutA l N))).map rowN) ∧ OwnL w' w.heap.size 25 2 v2 ((joinS (ints (cutB l N))).map rowN) ∧ Grew w w' := by
  have HR := Lib.hid hr
  clear hr
  have hNb : N ≤ 9223372036854775807 := by omega
  have HNN := Lib.hid hN
  clear hN
  go_enter Try.func35, Try.ntmps35
  go_upto_region 2 with fail
  go_cut [1] (fun m wx => m = .int .i64 (N : Int) ∧ w = wx)
  case first =>
    have hN := HNN.out
    clear HNN
    by_cases hn : n < 0
    · obtain rfl : N = 0 := by omega
      clear hN
      go_wp2_with fail
      go_meet
      exact ⟨rfl, rfl⟩
    · obtain rfl : n = (N : Int) := by omega
      clear hN
      rcases Nat.eq_zero_or_pos N with rfl | hpos
      · go_wp2_with fail
        go_meet
        exact ⟨rfl, rfl⟩
      · go_wp2_with fail
        go_meet
        exact ⟨rfl, rfl⟩
  case rest =>
  obtain ⟨rfl, rfl⟩ := hcut
  clear HNN n0 n1
  go_wp2_with fail
  go_loopg [1, 6, 7, 15] l.length (fun gk m va vb i wr => ∃ (k j : Nat) (va' vb' : Value), va' = va ∧ vb' = vb ∧ k ≤ l.length ∧ gk = l.length - k ∧ i = .int .i64 k ∧ m = .int .i64 j ∧ j = N - sizeS (l.take k) ∧ OwnL wr w.heap.size 25 2 va ((cutA (l.take k) N).map rowN) ∧ OwnL wr w.heap.size 25 2 vb ((cutB (l.take k) N).map rowN) ∧ (∀ g, va.ownBlock = some g → vb.ownBlock ≠ some g) ∧ Grew w wr)
  case atStart => exact ⟨0, N, _, _, rfl, rfl, by omega, by omega, rfl, rfl, by simp [sizeS], OwnL.nil _ _ _ _, OwnL.nil _ _ _ _, by simp [Value.ownBlock], by (repeat' first | (with_reducible exact Grew.refl _) | (with_reducible assumption) | (with_reducible refine Grew.alloc ?_ _) | (with_reducible refine Grew.drew ?_) | (with_reducible refine Grew.drewN ?_ _) | (with_reducible refine Grew.setRow ?_ (by first | (simp; done) | (simp; omega) | omega) _) | (with_reducible refine Grew.setCell ?_ (by first | (simp; done) | (simp; omega) | omega) _) | ((with_reducible apply Grew.trans); rotate_left; (with_reducible assumption)) | ((with_reducible apply Grew.turn); rotate_left; (with_reducible assumption); (focus (intro i hi; first | omega | (simp at hi; omega)))) | fail)⟩
  case round =>
    obtain ⟨k, j, va, vb, rfl, rfl, hk, hgk, rfl, rfl, hj, hoa, hob, hdis, hg⟩ := hrel
    have HGK := Lib.hid hgk
    clear hgk
    have hjb : j ≤ 9223372036854775807 := by omega
    by_cases hlt : k < l.length
    · obtain ⟨b, off, f, c, rfl, hb, hlk, ⟨f0, f1, c0, c1⟩, x0, x1⟩ := (HR.out.keep hB hg).at_ hlt
      simp only at f0 f1 c0 c1
      have hbs : b < wr.heap.size := by have := hg.size; omega
      have hws := hg.size
      have hle := clipS_le (f, c)
      have htk : l.take (k + 1) = l.take k ++ [(f, c)] := by rw [List.take_succ_eq_append_getElem hlt, hlk]
      have HNA := Lib.hid (show cutA (l.take (k + 1)) N = _ from by rw [htk, cutA_snoc, ← hj])
      have HNB := Lib.hid (show cutB (l.take (k + 1)) N = _ from by rw [htk, cutB_snoc, ← hj])
      have HSZ := Lib.hid (show sizeS (l.take (k + 1)) = sizeS (l.take k) + (clipS (f, c)).2 from by rw [sizeS_snoc l k hlt, hlk])
      have HLA := Lib.hid (show ((cutA (l.take k) N).map rowN).length = k from by rw [List.length_map, cutA_len, List.length_take]; omega)
      have HLB := Lib.hid (show ((cutB (l.take k) N).map rowN).length = k from by rw [List.length_map, cutB_len, List.length_take]; omega)
      have HJ := Lib.hid hj
      clear hlk htk hj
      have HC := fun W => Lib.hid (clip_any f c W f0 f1 c0 c1)
      generalize clipS (f, c) = r at *
      obtain ⟨lo, nn⟩ := r
      simp only at hle
      have hboA := fun g h => hoa.own_ge (g := g) h
      have hboB := fun g h => hob.own_ge (g := g) h
      have hdis' : ∀ g, vb.ownBlock = some g → va.ownBlock ≠ some g := fun g h h' => hdis g h' h
      go_upto_block 1 with fail
      go_cut [1, 6, 7] (fun m sa sb wx => m = .int .i64 ((j - min j nn : Nat) : Int) ∧ OwnL wx w.heap.size 25 2 sa ((cutA (l.take k) N).map rowN ++ [rowN (lo, min j nn)]) ∧ OwnL wx w.heap.size 25 2 sb ((cutB (l.take k) N).map rowN ++ [rowN (lo + min j nn, nn - min j nn)]) ∧ (∀ g, sa.ownBlock = some g → sb.ownBlock ≠ some g) ∧ Grew w wx)
      case first =>
       go_wp2_with fail
       refine (HC _).out.mono ?_
       rintro e w1 ⟨rfl, g1⟩
       have hz1 : wr.heap.size < w1.heap.size := by have := g1.size; simp at this; omega
       have hr1 : Blk w1 wr.heap.size 25 #[.int .i64 f, .int .i64 c] := (Blk.new wr _ _ rfl).grew g1
       have hoa1 := (hoa.alloc (.cells #[.int .i64 f, .int .i64 c] 25)).grew g1
       have hob1 := (hob.alloc (.cells #[.int .i64 f, .int .i64 c] 25)).grew g1
       have hg1 : Grew w w1 := by (repeat' first | (with_reducible exact Grew.refl _) | (with_reducible assumption) | (with_reducible refine Grew.alloc ?_ _) | (with_reducible refine Grew.drew ?_) | (with_reducible refine Grew.drewN ?_ _) | (with_reducible refine Grew.setRow ?_ (by first | (simp; done) | (simp; omega) | omega) _) | (with_reducible refine Grew.setCell ?_ (by first | (simp; done) | (simp; omega) | omega) _) | ((with_reducible apply Grew.trans); rotate_left; (with_reducible assumption)) | ((with_reducible apply Grew.turn); rotate_left; (with_reducible assumption); (focus (intro i hi; first | omega | (simp at hi; omega)))) | fail)
       have r0 := hr1.cell 0
       have r1 := hr1.cell 1
       have rf0 := hr1.frozen 0
       have rf1 := hr1.frozen 1
       clear g1
       have hoa2 := (hoa1.far (p := ⟨wr.heap.size, 0, none⟩) (fun h => by have := (hboA _ h).2; (try simp only at this); omega) (.int .i64 (lo : Int))).far (p := ⟨wr.heap.size, 1, none⟩) (fun h => by have := (hboA _ h).2; (try simp only at this); omega) (.int .i64 (nn : Int))
       have hob2 := (hob1.far (p := ⟨wr.heap.size, 0, none⟩) (fun h => by have := (hboB _ h).2; (try simp only at this); omega) (.int .i64 (lo : Int))).far (p := ⟨wr.heap.size, 1, none⟩) (fun h => by have := (hboB _ h).2; (try simp only at this); omega) (.int .i64 (nn : Int))
       have hg2 : Grew w ((w1.setCell ⟨wr.heap.size, 0, none⟩ (.int .i64 (lo : Int))).setCell ⟨wr.heap.size, 1, none⟩ (.int .i64 (nn : Int))) := by (repeat' first | (with_reducible exact Grew.refl _) | (with_reducible assumption) | (with_reducible refine Grew.alloc ?_ _) | (with_reducible refine Grew.drew ?_) | (with_reducible refine Grew.drewN ?_ _) | (with_reducible refine Grew.setRow ?_ (by first | (simp; done) | (simp; omega) | omega) _) | (with_reducible refine Grew.setCell ?_ (by first | (simp; done) | (simp; omega) | omega) _) | ((with_reducible apply Grew.trans); rotate_left; (with_reducible assumption)) | ((with_reducible apply Grew.turn); rotate_left; (with_reducible assumption); (focus (intro i hi; first | omega | (simp at hi; omega)))) | fail)
       have hr2 : Blk ((w1.setCell ⟨wr.heap.size, 0, none⟩ (.int .i64 (lo : Int))).setCell ⟨wr.heap.size, 1, none⟩ (.int .i64 (nn : Int))) wr.heap.size 25 #[.int .i64 lo, .int .i64 nn] := by (apply Blk.conv; (· (repeat' first | (with_reducible assumption) | (with_reducible apply Blk.setRow) | ((with_reducible apply Blk.farRow); rotate_left; (focus (first | (simp; done) | (simp; omega) | omega))) | (with_reducible apply Blk.drew) | (with_reducible apply Blk.drewN) | (with_reducible apply Blk.set_) | (with_reducible exact Blk.new _ _ _ (by first | rfl | (simp; done) | (simp; omega))) | (with_reducible apply Blk.alloc) | ((with_reducible apply Blk.far); rotate_left; (focus (first | (simp; done) | (simp; omega) | omega))) | ((with_reducible apply Blk.grew); rotate_left; (with_reducible assumption)) | ((with_reducible apply Blk.turned); rotate_left; (with_reducible assumption); (focus (first | (simp; done) | (simp; omega) | omega))) | fail)); (· rfl))
       have hz2 : ((w1.setCell ⟨wr.heap.size, 0, none⟩ (.int .i64 (lo : Int))).setCell ⟨wr.heap.size, 1, none⟩ (.int .i64 (nn : Int))).heap.size = w1.heap.size := by simp [World.setCell]
       go_upto_region 7 with fail
       clear r0 r1 rf0 rf1 hoa1 hob1 hg1 hr1
       generalize ((w1.setCell ⟨wr.heap.size, 0, none⟩ (.int .i64 (lo : Int))).setCell ⟨wr.heap.size, 1, none⟩ (.int .i64 (nn : Int))) = w2 at *
       have r0 := hr2.cell 0
       have r1 := hr2.cell 1
       have hzz := hg2.size
       rw [← hz2] at hz1
       clear hz2
       go_cut [10] (fun kk wx => kk = .int .i64 ((min j nn : Nat) : Int) ∧ w2 = wx)
       case first =>
         rcases min_cases j nn with ⟨hm, hjn⟩ | ⟨hm, hjn⟩
         · have HMN := Lib.hid hm
           clear hm
           go_wp2_with fail
           go_meet
           exact ⟨by rw [HMN.out], rfl⟩
         · have HMN := Lib.hid hm
           clear hm
           go_wp2_with fail
           go_meet
           exact ⟨by rw [HMN.out], rfl⟩
       case rest =>
       obtain ⟨rfl, rfl⟩ := hcut
       have hq1 : min j nn ≤ j := Nat.min_le_left _ _
       have hq2 : min j nn ≤ nn := Nat.min_le_right _ _
       have HQ := Lib.hid (show nn - (j - (j - min j nn)) = nn - min j nn ∧ j - min j nn = j - nn from by omega)
       generalize min j nn = q at *
       go_upto_region 9 with fail
       have hw1 : IntKind.i64.wrap ((lo : Int) + (q : Int)) = ((lo + q : Nat) : Int) := by rw [IntKind.wrap_i64]; omega
       have hw2 : IntKind.i64.wrap ((nn : Int) - (q : Int)) = ((nn - q : Nat) : Int) := by rw [IntKind.wrap_i64]; omega
       go_region_held3 (fun w' => w'.cell? ⟨wr.heap.size, 0, none⟩ = some (.int .i64 lo) ∧ w'.cell? ⟨wr.heap.size, 1, none⟩ = some (.int .i64 nn))
         (first
           | go_keep
           | (go_split_ands
              refine ⟨?_, ?_⟩
              · (rw [hgrow.cell_far _ (by simp; omega) (fun e => by have := (hboA _ e.symm).2; (try simp only at this); omega)]; assumption)
              · (rw [hgrow.cell_far _ (by simp; omega) (fun e => by have := (hboA _ e.symm).2; (try simp only at this); omega)]; assumption))
           | (go_split_ands
              refine ⟨?_, ?_⟩
              · (rw [hgrow'.cell_far _ (by simp; omega) (fun e => by have := (hboB _ e.symm).2; (try simp only at this); omega)]; assumption)
              · (rw [hgrow'.cell_far _ (by simp; omega) (fun e => by have := (hboB _ e.symm).2; (try simp only at this); omega)]; assumption)))
         (first
           | ((refine step_push (by rfl) (.tmp 28) (.tmp 33) 22 (by rfl) w.heap.size 25 2 16 _ Try.underlying22 info_run rfl (by decide) _ va ((cutA (l.take k) N).map rowN) (rowN (lo, q)) rfl (by rfl) (by (repeat' first | (with_reducible assumption) | (with_reducible apply OwnL.drew) | (with_reducible apply OwnL.drewN) | (with_reducible apply OwnL.alloc) | ((with_reducible apply OwnL.own); rotate_left; (with_reducible assumption); (with_reducible assumption)) | fail)) _ (by rfl) (by (apply Blk.conv; (· (repeat' first | (with_reducible assumption) | (with_reducible apply Blk.setRow) | ((with_reducible apply Blk.farRow); rotate_left; (focus (first | (simp; done) | (simp; omega) | omega))) | (with_reducible apply Blk.drew) | (with_reducible apply Blk.drewN) | (with_reducible apply Blk.set_) | (with_reducible exact Blk.new _ _ _ (by first | rfl | (simp; done) | (simp; omega))) | (with_reducible apply Blk.alloc) | ((with_reducible apply Blk.far); rotate_left; (focus (first | (simp; done) | (simp; omega) | omega))) | ((with_reducible apply Blk.grew); rotate_left; (with_reducible assumption)) | ((with_reducible apply Blk.turned); rotate_left; (with_reducible assumption); (focus (first | (simp; done) | (simp; omega) | omega))) | fail)); (· rfl))) rfl (by rw [HLA.out]; omega) (by rw [HLA.out]; omega) (by first | (simp; omega) | omega) k HLA.out ?_; intro gA cA w3 hownA hgrow hatA hltA; have hszA := hgrow.size; try simp at hszA))
           | ((refine step_push (by rfl) (.tmp 35) (.tmp 45) 22 (by rfl) w.heap.size 25 2 16 _ Try.underlying22 info_run rfl (by decide) _ vb ((cutB (l.take k) N).map rowN) (rowN (lo + q, nn - q)) rfl (by rfl) (by (repeat' first | (with_reducible assumption) | (with_reducible apply OwnL.drew) | (with_reducible apply OwnL.drewN) | (with_reducible apply OwnL.alloc) | ((with_reducible apply OwnL.own); rotate_left; (with_reducible assumption); (with_reducible assumption)) | fail)) _ (by rfl) (by first | (apply Blk.conv; (· (repeat' first | (with_reducible assumption) | (with_reducible apply Blk.setRow) | ((with_reducible apply Blk.farRow); rotate_left; (focus (first | (simp; done) | (simp; omega) | omega))) | (with_reducible apply Blk.drew) | (with_reducible apply Blk.drewN) | (with_reducible apply Blk.set_) | (with_reducible exact Blk.new _ _ _ (by first | rfl | (simp; done) | (simp; omega))) | (with_reducible apply Blk.alloc) | ((with_reducible apply Blk.far); rotate_left; (focus (first | (simp; done) | (simp; omega) | omega))) | ((with_reducible apply Blk.grew); rotate_left; (with_reducible assumption)) | ((with_reducible apply Blk.turned); rotate_left; (with_reducible assumption); (focus (first | (simp; done) | (simp; omega) | omega))) | fail)); (· rfl)) | exact Blk.own (by (apply Blk.conv; (· (repeat' first | (with_reducible assumption) | (with_reducible apply Blk.setRow) | ((with_reducible apply Blk.farRow); rotate_left; (focus (first | (simp; done) | (simp; omega) | omega))) | (with_reducible apply Blk.drew) | (with_reducible apply Blk.drewN) | (with_reducible apply Blk.set_) | (with_reducible exact Blk.new _ _ _ (by first | rfl | (simp; done) | (simp; omega))) | (with_reducible apply Blk.alloc) | ((with_reducible apply Blk.far); rotate_left; (focus (first | (simp; done) | (simp; omega) | omega))) | ((with_reducible apply Blk.grew); rotate_left; (with_reducible assumption)) | ((with_reducible apply Blk.turned); rotate_left; (with_reducible assumption); (focus (first | (simp; done) | (simp; omega) | omega))) | fail)); (· rfl))) hgrow (fun e => by have := (hboA _ e).2; (try simp only at this); omega)) rfl (by rw [HLB.out]; omega) (by rw [HLB.out]; omega) (by first | (simp; omega) | omega) k HLB.out ?_; intro gB cB w4 hownB hgrow' hatB hltB)))
       all_goals
         go_wp2_with fail
         go_meet
         try simp at hatB
         try simp at hatA
         have hszB := hgrow'.size
         try simp at hszB
         have hA3 : ∀ g, va.ownBlock = some g → g < w2.heap.size := fun g h => by have := (hboA g h).2; omega
         have hB3 : ∀ g, vb.ownBlock = some g → g < w2.heap.size := fun g h => by have := (hboB g h).2; omega
         refine ⟨by go_num, ?_, hownB, ?_, ?_⟩
         · exact OwnL.own (by (repeat' first | (with_reducible assumption) | (with_reducible apply OwnL.drew) | (with_reducible apply OwnL.drewN) | (with_reducible apply OwnL.alloc) | ((with_reducible apply OwnL.own); rotate_left; (with_reducible assumption); (with_reducible assumption)) | fail)) hgrow' (fun g h h' => by
             simp [Value.ownBlock] at h
             rcases hatA with h2 | h2
             · exact hdis' _ h' (h ▸ h2)
             · have := hB3 _ h'; omega)
         · intro g h h'
           simp [Value.ownBlock] at h h'
           subst h
           subst h'
           rcases hatA with h2 | h2 <;> rcases hatB with h3 | h3
           · exact hdis _ h2 h3
           · have := hA3 _ h2; omega
           · have := hB3 _ h3; omega
           · omega
         · have hg3 := Grew.own (a := w) (by (repeat' first | (with_reducible exact Grew.refl _) | (with_reducible assumption) | (with_reducible refine Grew.alloc ?_ _) | (with_reducible refine Grew.drew ?_) | (with_reducible refine Grew.drewN ?_ _) | (with_reducible refine Grew.setRow ?_ (by first | (simp; done) | (simp; omega) | omega) _) | (with_reducible refine Grew.setCell ?_ (by first | (simp; done) | (simp; omega) | omega) _) | ((with_reducible apply Grew.trans); rotate_left; (with_reducible assumption)) | ((with_reducible apply Grew.turn); rotate_left; (with_reducible assumption); (focus (intro i hi; first | omega | (simp at hi; omega)))) | fail)) hgrow hoa.row_ge (Nat.le_refl _)
           exact Grew.own (by (repeat' first | (with_reducible exact Grew.refl _) | (with_reducible assumption) | (with_reducible refine Grew.alloc ?_ _) | (with_reducible refine Grew.drew ?_) | (with_reducible refine Grew.drewN ?_ _) | (with_reducible refine Grew.setRow ?_ (by first | (simp; done) | (simp; omega) | omega) _) | (with_reducible refine Grew.setCell ?_ (by first | (simp; done) | (simp; omega) | omega) _) | ((with_reducible apply Grew.trans); rotate_left; (with_reducible assumption)) | ((with_reducible apply Grew.turn); rotate_left; (with_reducible assumption); (focus (intro i hi; first | omega | (simp at hi; omega)))) | fail)) hgrow' hob.row_ge (Nat.le_refl _)
      case rest =>
        obtain ⟨rfl, hA5, hB5, hd5, hg5⟩ := hcut
        have hq1 : min j nn ≤ j := Nat.min_le_left _ _
        have hq2 : min j nn ≤ nn := Nat.min_le_right _ _
        have HQ := Lib.hid (show j - min j nn = j - nn from by omega)
        have HOA := Lib.hid (show (cutA (l.take (k + 1)) N).map rowN = (cutA (l.take k) N).map rowN ++ [rowN (lo, min j nn)] from by rw [HNA.out, List.map_append]; rfl)
        have HOB := Lib.hid (show (cutB (l.take (k + 1)) N).map rowN = (cutB (l.take k) N).map rowN ++ [rowN (lo + min j nn, nn - min j nn)] from by rw [HNB.out, List.map_append]; rfl)
        clear hoa hob hdis hdis'
        generalize min j nn = q at *
        go_wp2_with fail
        go_roundg (l.length - (k + 1))
        case measure => rw [HGK.out]; omega
        case rel =>
          exact ⟨k + 1, j - q, _, _, rfl, rfl, by omega, by omega, by go_num, rfl, by rw [HSZ.out, HQ.out, HJ.out]; omega, by rw [HOA.out]; exact hA5, by rw [HOB.out]; exact hB5, hd5, hg5⟩
    · obtain rfl : k = l.length := by omega
      rw [List.take_length] at hoa hob
      have hla := cutA_len l N
      have hlb := cutB_len l N
      obtain ⟨Aa, ca, hva, hra⟩ := own_runs hoa (fun r hr => Nat.le_trans (cutA_bd _ _ r hr) (by omega))
      obtain ⟨Ab, cb, hvb, hrb⟩ := own_runs hob (fun r hr => Nat.le_trans (cutB_bd _ _ r hr) (by omega))
      subst hva
      subst hvb
      go_wp2_with fail
      refine (join_any Aa ca (ints (cutA l N)) wr wr.heap.size (Nat.le_refl _) (by rw [ints_len]; omega) hra).mono ?_
      rintro e w1 ⟨v1, rfl, ho1, g1⟩
      have hrb1 := (hrb.hold g1)
      go_wp2_with fail
      refine (join_any Ab cb (ints (cutB l N)) w1 w1.heap.size (Nat.le_refl _) (by rw [ints_len]; omega) hrb1).mono ?_
      rintro e w2 ⟨v2, rfl, ho2, g2⟩
      have h1 := g1.size
      have h2 := hg.size
      go_wp2_with fail
      go_ret2
      exact ⟨v1, v2, rfl, (ho1.grew g2).mono (by omega), ho2.mono (by omega), hg.trans (g1.trans g2)⟩
end Go.Proofs.Ytenbcjlikoajdaa
