/- Chapter 8: the program's Load. Chapter 8: Extend, Release, Replace, Confirm, Note, Remove. Chapter 8: Create. -/
import Derived.Test.YtnlaogneceanoaaCrJ
namespace Go.Proofs.Ytnlaogneceanoaa
set_option linter.unusedVariables false
set_option linter.unusedSimpArgs false
set_option linter.unusedSectionVars false
open Go.RowKit
attribute [local go_sem ↓] Go.wp_at_zero Go.wp_at_succ
set_option maxRecDepth 100000 in
set_option maxHeartbeats 16000000 in
theorem load_tab (A : Option Addr) (c : Nat) (ss : List ByteArray) (w : World) (h : ListAt w w.heap.size 1 A (ss.map strC)) (hl : ss.length ≤ 100000) (hz : ∀ x ∈ ss, x.size ≤ 1000) :
    Calls Try.prog 28 #[.slice A ss.length c] w fun e w' => ∃ A c xs T er, e = .returned (.tuple #[.agg #[.string T.name, .int .i64 T.tracks, .slice A T.labels.length c], .int .i64 er]) ∧ LdS ss T er ∧ SmallT T ∧ TabAt w' A c xs T ∧ Grew w w' := by
  have H := Lib.hid h
  have HZ := Lib.hid hz
  have HB0 := Lib.hid (Blk.new w 34 #[.string ⟨#[]⟩, .int .i64 0, .slice none 0 0] rfl)
  have HG0 := Lib.hid ((Grew.refl w).alloc (.cells #[.string ⟨#[]⟩, .int .i64 0, .slice none 0 0] 34))
  clear h hz
  go_enter Try.func28, Try.ntmps28
  go_wp2_with fail
  go_loopg [4, 17] ss.length (fun gk tv0 i wr => ∃ (k : Nat) (tv : Value), k ≤ ss.length ∧ gk = ss.length - k ∧ tv = tv0 ∧ i = .int .i64 k ∧ (∀ x ∈ ss.take k, x.size = 128) ∧ OwnL wr (w.heap.size + 1) 9 1 tv ((trkL ss k).map strC) ∧ Blk wr w.heap.size 34 #[.string ⟨#[]⟩, .int .i64 0, .slice none 0 0] ∧ Grew w wr)
  case atStart => exact ⟨0, _, by omega, by omega, rfl, rfl, fun x hx => (by cases hx), OwnL.nil _ _ _ _, HB0.out, HG0.out⟩
  case round =>
    obtain ⟨k, tv, hk, hgk, hv0, rfl, hall, hown, hb, hg⟩ := hrel
    subst hv0
    have HGK := Lib.hid hgk
    have HALL := Lib.hid hall
    clear hgk hall
    by_cases hlt : k < ss.length
    · have hlb0 : w.heap.size + 1 ≤ wr.heap.size := hb.lt
      obtain ⟨b1, o1, rfl, hb1, hc1⟩ := H.out (by rw [List.length_map]; omega)
      obtain ⟨x, hx⟩ : ∃ x, ss[k] = x := ⟨_, rfl⟩
      have q0 : wr.cell? ⟨b1, o1 + k, none⟩ = some (.string x) := by
        rw [hg.cellEq _ _ hb1]
        have := hc1 k (strC x) (by rw [List.getElem?_map, List.getElem?_eq_getElem hlt, hx]; rfl) 0 _ rfl
        simpa using this
      have hxs : x.size ≤ 1000 := by rw [← hx]; exact HZ.out _ (List.getElem_mem hlt)
      clear hc1
      by_cases h128 : x.size = 128
      rotate_left
      · have hn : ((x.size : Int) != 128) = true := by rw [bne_iff_ne]; omega
        have HE := Lib.hid (ld_128 ss k hlt (by rw [hx]; exact h128))
        have z0 := hb.cell 0
        have z1 := hb.cell 1
        have z2 := hb.cell 2
        have f0 := hb.frozen 0
        have f1 := hb.frozen 1
        have f2 := hb.frozen 2
        have hlb := hb.lt
        have hgg := hg
        clear hb hown hx h128
        go_wp2_with fail
        refine bodyPost_ret (by first | (simp [*, results, Try.results28, go_sem]; rfl) | simp [*, results, Try.results28, go_sem]) rfl ?_
        exact ⟨none, 0, [], tabZ, 11, rfl, HE.out, small_zero, TabAt.zero _, by (repeat' first | (with_reducible exact Grew.refl _) | (with_reducible assumption) | (with_reducible refine Grew.alloc ?_ _) | (with_reducible refine Grew.drew ?_) | (with_reducible refine Grew.drewN ?_ _) | (with_reducible refine Grew.setRow ?_ (by first | (simp; done) | (simp; omega) | omega) _) | (with_reducible refine Grew.setCell ?_ (by first | (simp; done) | (simp; omega) | omega) _) | ((with_reducible apply Grew.trans); rotate_left; (with_reducible assumption)) | ((with_reducible apply Grew.turn); rotate_left; (with_reducible assumption); (focus (intro i hi; first | omega | (simp at hi; omega)))) | fail)⟩
      have hn : ((x.size : Int) != 128) = false := by rw [bne_eq_false_iff_eq]; omega
      have HN128 := Lib.hid (show ∀ z ∈ ss.take (k + 1), z.size = 128 from fun z hz => by
        rw [List.take_succ_eq_append_getElem hlt] at hz
        rcases List.mem_append.1 hz with hz | hz
        · exact HALL.out z hz
        · rw [List.mem_singleton.1 hz, hx]; exact h128)
      by_cases h8 : k % 8 = 0
      · have hm : ((k : Int) % 8 == 0) = true := by rw [beq_iff_eq]; omega
        have hY := trkY_new ss k h8
        have hll := trkL_len ss k
        have hbe := hown.ne_blk hb (by decide)
        clear h8 h128
        go_upto_region 9 with (at_builtin; refine wpList_push rfl _ _ 62 rfl (w.heap.size + 1) 9 1 16 _ Try.underlying62 info_str rfl (by decide) wr _ ((trkL ss k).map strC) (strC ⟨#[]⟩) (by rfl) rfl rfl hown (by first | rfl | (simp; done)) rfl rfl (by rw [List.length_map]; omega) (by rw [List.length_map]; omega) hlb0 ?_; intro tv5 ww5 hown5 hgr hbk hsz)
        have hb5 := hbk _ _ _ hb hbe
        have hg5 := hgr _ hg (by omega)
        rw [show (trkL ss k).map strC ++ [strC ⟨#[]⟩] = (trkY ss k).map strC from by rw [hY, List.map_append]; rfl] at hown5
        clear hgr hbk hown hb hg hY hm hll hbe q0
        have hlen1 : ((trkY ss k).map strC).length = k / 8 + 1 := by rw [List.length_map, trkY_len]
        have hidx : k / 8 < (trkY ss k).length := by rw [trkY_len]; omega
        have hnx := trkL_next ss k hlt hidx
        have hys := trkY_size ss k HZ.out _ (List.getElem_mem hidx)
        obtain ⟨y, hy⟩ : ∃ y, (trkY ss k)[k / 8] = y := ⟨_, rfl⟩
        rw [hy, hx] at hnx
        rw [hy] at hys
        have hrow : ((trkY ss k).map strC)[k / 8]? = some (strC y) := by rw [List.getElem?_map, List.getElem?_eq_getElem hidx, hy]; rfl
        obtain ⟨q, hq⟩ : ∃ q, k / 8 = q := ⟨_, rfl⟩
        have hqb : q ≤ 100000 := by omega
        rw [hq] at hrow hlen1 hnx
        obtain ⟨g, cap, hv, hgb, hgs⟩ : ∃ g cap, tv5 = .slice (some ⟨g, 0, none⟩) (q + 1) cap ∧ w.heap.size + 1 ≤ g ∧ g < ww5.heap.size := by
          rcases hown5.form with ⟨_, h0⟩ | ⟨g, cap, hv, h1, h2, _⟩
          · have := congrArg List.length h0; rw [hlen1, List.length_nil] at this; omega
          · rw [hlen1] at hv; exact ⟨g, cap, hv, h1, h2⟩
        subst hv
        have t0 : ww5.cell? ⟨g, q, none⟩ = some (.string y) := by have := hown5.cell hrow (i := 0) rfl; simpa using this
        have tf := hown5.frozen q
        have hset := hown5.set_ hrow (i := 0) (o := q) (by decide) (by omega) (.string (y ++ x))
        have HSET := Lib.hid (show OwnL (ww5.setCell ⟨g, q, none⟩ (.string (y ++ x))) (w.heap.size + 1) 9 1 (.slice (some ⟨g, 0, none⟩) (q + 1) cap) ((trkL ss (k + 1)).map strC) from by rw [hnx, List.map_set]; exact hset)
        have HB9 := Lib.hid (hb5.far (p := ⟨g, q, none⟩) (by show w.heap.size ≠ g; omega) (.string (y ++ x)))
        have HG9 := Lib.hid (hg5.setCell (p := ⟨g, q, none⟩) (by show w.heap.size ≤ g; omega) (.string (y ++ x)))
        obtain ⟨n, hn1⟩ : ∃ n, q + 1 = n := ⟨_, rfl⟩
        have hq63 : (n : Int) - 1 = (q : Int) := by omega
        rw [hn1] at HSET ⊢
        clear hset hown5 hb5 hg5 hnx hrow hlen1 hy hidx hq
        go_wp2_with fail
        go_roundg (ss.length - (k + 1))
        case measure => rw [HGK.out]; omega
        case rel => exact ⟨k + 1, _, by omega, by omega, rfl, by go_num, HN128.out, HSET.out, HB9.out, HG9.out⟩
      · have hm : ((k : Int) % 8 == 0) = false := by rw [beq_eq_false_iff_ne]; omega
        have hY := trkY_old ss k h8
        have hown6 : OwnL wr (w.heap.size + 1) 9 1 tv ((trkY ss k).map strC) := by rw [hY]; exact hown
        have hb6 := hb
        have hg6 := hg
        clear h8 h128 hown hb hg hY
        have hlen1 : ((trkY ss k).map strC).length = k / 8 + 1 := by rw [List.length_map, trkY_len]
        have hidx : k / 8 < (trkY ss k).length := by rw [trkY_len]; omega
        have hnx := trkL_next ss k hlt hidx
        have hys := trkY_size ss k HZ.out _ (List.getElem_mem hidx)
        obtain ⟨y, hy⟩ : ∃ y, (trkY ss k)[k / 8] = y := ⟨_, rfl⟩
        rw [hy, hx] at hnx
        rw [hy] at hys
        have hrow : ((trkY ss k).map strC)[k / 8]? = some (strC y) := by rw [List.getElem?_map, List.getElem?_eq_getElem hidx, hy]; rfl
        obtain ⟨q, hq⟩ : ∃ q, k / 8 = q := ⟨_, rfl⟩
        have hqb : q ≤ 100000 := by omega
        rw [hq] at hrow hlen1 hnx
        obtain ⟨g, cap, hv, hgb, hgs⟩ : ∃ g cap, tv = .slice (some ⟨g, 0, none⟩) (q + 1) cap ∧ w.heap.size + 1 ≤ g ∧ g < wr.heap.size := by
          rcases hown6.form with ⟨_, h0⟩ | ⟨g, cap, hv, h1, h2, _⟩
          · have := congrArg List.length h0; rw [hlen1, List.length_nil] at this; omega
          · rw [hlen1] at hv; exact ⟨g, cap, hv, h1, h2⟩
        subst hv
        have t0 : wr.cell? ⟨g, q, none⟩ = some (.string y) := by have := hown6.cell hrow (i := 0) rfl; simpa using this
        have tf := hown6.frozen q
        have hset := hown6.set_ hrow (i := 0) (o := q) (by decide) (by omega) (.string (y ++ x))
        have HSET := Lib.hid (show OwnL (wr.setCell ⟨g, q, none⟩ (.string (y ++ x))) (w.heap.size + 1) 9 1 (.slice (some ⟨g, 0, none⟩) (q + 1) cap) ((trkL ss (k + 1)).map strC) from by rw [hnx, List.map_set]; exact hset)
        have HB9 := Lib.hid (hb6.far (p := ⟨g, q, none⟩) (by show w.heap.size ≠ g; omega) (.string (y ++ x)))
        have HG9 := Lib.hid (hg6.setCell (p := ⟨g, q, none⟩) (by show w.heap.size ≤ g; omega) (.string (y ++ x)))
        obtain ⟨n, hn1⟩ : ∃ n, q + 1 = n := ⟨_, rfl⟩
        have hq63 : (n : Int) - 1 = (q : Int) := by omega
        rw [hn1] at HSET ⊢
        clear hset hown6 hb6 hg6 hnx hrow hlen1 hy hidx hq
        go_wp2_with fail
        go_roundg (ss.length - (k + 1))
        case measure => rw [HGK.out]; omega
        case rel => exact ⟨k + 1, _, by omega, by omega, rfl, by go_num, HN128.out, HSET.out, HB9.out, HG9.out⟩
    · skip
      have hkn : k = ss.length := by omega
      subst hkn
      have H128 := Lib.hid (show ∀ x ∈ ss, x.size = 128 from by have := HALL.out; rwa [List.take_length] at this)
      have hll := trkL_len ss ss.length
      obtain ⟨A5, c5, hv5, hl5, hc5, hr5⟩ := hown.listAt
      rw [List.length_map] at hv5 hl5
      subst hv5
      have HR5 := Lib.hid hr5
      have HLL := Lib.hid hll
      obtain ⟨q, hq⟩ : ∃ q, (trkL ss ss.length).length = q := ⟨_, rfl⟩
      rw [hq] at hl5 ⊢
      have hqe : q = (ss.length + 7) / 8 := by rw [← hq]; exact HLL.out
      have HQ := Lib.hid hq
      have HQE := Lib.hid hqe
      have hgg := hg
      have HB := Lib.hid hb
      have HG := Lib.hid hg
      have z0 := hb.cell 0
      have z1 := hb.cell 1
      have z2 := hb.cell 2
      have f0 := hb.frozen 0
      have f1 := hb.frozen 1
      have f2 := hb.frozen 2
      have hlb := hb.lt
      clear hr5 hll hq hown hb hgg hg hqe
      by_cases h0 : ss.length = 0
      · have hm : ((q : Int) == 0) = true := by rw [beq_iff_eq]; have := HQE.out; omega
        have HE := Lib.hid (ld_len ss (.inl h0))
        have hgg := HG.out
        clear h0
        go_wp2_with fail
        refine bodyPost_ret (by first | (simp [*, results, Try.results28, go_sem]; rfl) | simp [*, results, Try.results28, go_sem]) rfl ?_
        exact ⟨none, 0, [], tabZ, 11, rfl, HE.out, small_zero, TabAt.zero _, by (repeat' first | (with_reducible exact Grew.refl _) | (with_reducible assumption) | (with_reducible refine Grew.alloc ?_ _) | (with_reducible refine Grew.drew ?_) | (with_reducible refine Grew.drewN ?_ _) | (with_reducible refine Grew.setRow ?_ (by first | (simp; done) | (simp; omega) | omega) _) | (with_reducible refine Grew.setCell ?_ (by first | (simp; done) | (simp; omega) | omega) _) | ((with_reducible apply Grew.trans); rotate_left; (with_reducible assumption)) | ((with_reducible apply Grew.turn); rotate_left; (with_reducible assumption); (focus (intro i hi; first | omega | (simp at hi; omega)))) | fail)⟩
      have hm : ((q : Int) == 0) = false := by rw [beq_eq_false_iff_ne]; have := HQE.out; omega
      by_cases h8 : ss.length % 8 = 0
      rotate_left
      · have hm8 : ((ss.length : Int) % 8 != 0) = true := by rw [bne_iff_ne]; omega
        have HE := Lib.hid (ld_len ss (.inr h8))
        have hgg := HG.out
        clear h8
        go_wp2_with fail
        refine bodyPost_ret (by first | (simp [*, results, Try.results28, go_sem]; rfl) | simp [*, results, Try.results28, go_sem]) rfl ?_
        exact ⟨none, 0, [], tabZ, 11, rfl, HE.out, small_zero, TabAt.zero _, by (repeat' first | (with_reducible exact Grew.refl _) | (with_reducible assumption) | (with_reducible refine Grew.alloc ?_ _) | (with_reducible refine Grew.drew ?_) | (with_reducible refine Grew.drewN ?_ _) | (with_reducible refine Grew.setRow ?_ (by first | (simp; done) | (simp; omega) | omega) _) | (with_reducible refine Grew.setCell ?_ (by first | (simp; done) | (simp; omega) | omega) _) | ((with_reducible apply Grew.trans); rotate_left; (with_reducible assumption)) | ((with_reducible apply Grew.turn); rotate_left; (with_reducible assumption); (focus (intro i hi; first | omega | (simp at hi; omega)))) | fail)⟩
      have hm8 : ((ss.length : Int) % 8 != 0) = false := by rw [bne_eq_false_iff_eq]; omega
      obtain ⟨m, hm9⟩ : ∃ m, ss.length = 8 * (m + 1) := ⟨ss.length / 8 - 1, by omega⟩
      have hqm : q = m + 1 := by have := HQE.out; omega
      subst hqm
      have hrows := trkL_all ss (m + 1) (by omega)
      rw [hrows] at HR5
      have HR := Lib.hid (show ListAt wr wr.heap.size 1 A5 (((List.range (m + 1)).map (trkS ss)).map strC) from HR5.out)
      obtain ⟨b5, o5, rfl, hb5, hc5'⟩ := HR.out (by simp)
      have HC5 := Lib.hid (show ∀ j, j < m + 1 → ∀ w9, Grew wr w9 → w9.cell? ⟨b5, o5 + j, none⟩ = some (.string (trkS ss j)) from fun j hj w9 g9 => by
        rw [g9.cellEq _ _ hb5]
        have := hc5' j (strC (trkS ss j)) (by rw [List.getElem?_map, List.getElem?_map, List.getElem?_range hj]; rfl) 0 _ rfl
        simpa using this)
      have HM9 := Lib.hid hm9
      have q0 := HC5.out 0 (by omega) wr (Grew.refl _)
      rw [Nat.add_zero] at q0
      have hts : (trkS ss 0).size ≤ 8000 := trkS_size 1000 ss 0 HZ.out
      have C := fun w9 => decHead_any (trkS ss 0) w9 (by omega)
      rcases head_strict (trkS ss 0) with hh | ⟨nm, tt, hh, _, hnm, htt, hn8, ht0, ht1⟩
      · have HE := Lib.hid (ld_head ss hh)
        rw [hh] at C
        clear hh h0 h8 hm9 HR5 hrows hc5'
        go_wp2_with fail
        refine (C _).mono ?_
        rintro e w3 ⟨rfl, g3⟩
        have hb3 := HB.out.grew g3
        have hgg := HG.out.trans g3
        clear z0 z1 z2 f0 f1 f2 hlb g3
        have z0 := hb3.cell 0
        have z1 := hb3.cell 1
        have z2 := hb3.cell 2
        have f0 := hb3.frozen 0
        have f1 := hb3.frozen 1
        have f2 := hb3.frozen 2
        have hlb := hb3.lt
        go_wp2_with fail
        refine bodyPost_ret (by first | (simp [*, results, Try.results28, go_sem]; rfl) | simp [*, results, Try.results28, go_sem]) rfl ?_
        exact ⟨none, 0, [], tabZ, 11, rfl, HE.out, small_zero, TabAt.zero _, by (repeat' first | (with_reducible exact Grew.refl _) | (with_reducible assumption) | (with_reducible refine Grew.alloc ?_ _) | (with_reducible refine Grew.drew ?_) | (with_reducible refine Grew.drewN ?_ _) | (with_reducible refine Grew.setRow ?_ (by first | (simp; done) | (simp; omega) | omega) _) | (with_reducible refine Grew.setCell ?_ (by first | (simp; done) | (simp; omega) | omega) _) | ((with_reducible apply Grew.trans); rotate_left; (with_reducible assumption)) | ((with_reducible apply Grew.turn); rotate_left; (with_reducible assumption); (focus (intro i hi; first | omega | (simp at hi; omega)))) | fail)⟩
      rw [hh] at C
      have HH := Lib.hid hh
      have HTT := Lib.hid htt
      clear hh h0 h8 hm9 HR5 hrows hc5' htt
      go_wp2_with fail
      refine (C _).mono ?_
      rintro e w3 ⟨rfl, g3⟩
      have hb3 := HB.out.grew g3
      have hgg := HG.out.trans g3
      have HGW := Lib.hid g3
      have HG3 := Lib.hid hgg
      have HB3 := Lib.hid hb3
      clear z0 z1 z2 f0 f1 f2 hlb g3 q0 C
      have z0 := hb3.cell 0
      have z1 := hb3.cell 1
      have z2 := hb3.cell 2
      have f0 := hb3.frozen 0
      have f1 := hb3.frozen 1
      have f2 := hb3.frozen 2
      have hlb := hb3.lt
      obtain ⟨tts, htts⟩ : ∃ x, ttS tt = x := ⟨_, rfl⟩
      have HTTS := Lib.hid htts
      by_cases htb : ((m + 1 : Nat) : Int) = ttS tt
      rotate_left
      · have hne : ((m : Int) + 1 != tts) = true := by rw [bne_iff_ne]; omega
        have HE := Lib.hid (ld_table ss nm tt HH.out (by have := HM9.out; rw [show ss.length / 8 = m + 1 from by omega]; exact htb))
        clear htb htts
        go_wp2_with fail
        refine (table_any _ _).mono ?_
        rintro e w9 ⟨rfl, rfl⟩
        rw [HTTS.out]
        go_wp2_with fail
        refine bodyPost_ret (by first | (simp [*, results, Try.results28, go_sem]; rfl) | simp [*, results, Try.results28, go_sem]) rfl ?_
        exact ⟨none, 0, [], tabZ, 11, rfl, HE.out, small_zero, TabAt.zero _, by (repeat' first | (with_reducible exact Grew.refl _) | (with_reducible assumption) | (with_reducible refine Grew.alloc ?_ _) | (with_reducible refine Grew.drew ?_) | (with_reducible refine Grew.drewN ?_ _) | (with_reducible refine Grew.setRow ?_ (by first | (simp; done) | (simp; omega) | omega) _) | (with_reducible refine Grew.setCell ?_ (by first | (simp; done) | (simp; omega) | omega) _) | ((with_reducible apply Grew.trans); rotate_left; (with_reducible assumption)) | ((with_reducible apply Grew.turn); rotate_left; (with_reducible assumption); (focus (intro i hi; first | omega | (simp at hi; omega)))) | fail)⟩
      have hne : ((m : Int) + 1 != tts) = false := by rw [bne_eq_false_iff_eq]; omega
      have HTB := Lib.hid htb
      have hm32 : m ≤ 32 := by have := ttS_bd tt; omega
      have hT0 := Blk.new w3 34 #[.string nm, .int .i64 tt, .slice none 0 0] rfl
      have hG0 := (Grew.refl w3).alloc (.cells #[.string nm, .int .i64 tt, .slice none 0 0] 34)
      have HT0 := Lib.hid hT0
      have HGT0 := Lib.hid hG0
      clear htb htts hT0 hG0 hgg hb3 z0 z1 z2 f0 f1 f2
      go_wp2_with fail
      refine (table_any _ _).mono ?_
      rintro e w9 ⟨rfl, rfl⟩
      rw [HTTS.out]
      by_cases hc51 : c5 = 1
      · subst hc51
        have hm0 : m < 1 := by omega
        go_wp2_with fail
        obtain ⟨wo, hwo⟩ : ∃ wo : World, wo = wr := ⟨_, rfl⟩
        subst hwo
        go_loopg [76] m (fun gk i wq => ∃ (k : Nat) (v : Value) (ys : List LabE) (ls : List Lab), k ≤ m ∧ gk = m - k ∧ i = .int .i64 k ∧ ls.length = k ∧ (∀ j (hj : j < ls.length), decP (trkS ss (j + 1)) tt = (ls[j], 0)) ∧ (∀ l ∈ ls, l.ext.length ≤ 1000) ∧ TabO wq (w3.heap.size + 1) v ys ls ∧ Blk wq w3.heap.size 34 #[.string nm, .int .i64 tt, v] ∧ Grew w3 wq)
        case atStart => exact ⟨0, _, [], [], by omega, by omega, rfl, rfl, fun j hj => absurd hj (Nat.not_lt_zero _), fun l hl => (by cases hl), ⟨OwnL.nil _ _ _ _, fun y hy => (by cases hy), fun y hy => (by cases hy), rfl⟩, HT0.out, HGT0.out⟩
        case round =>
          obtain ⟨wq, hwq⟩ : ∃ wq : World, wq = wr := ⟨_, rfl⟩
          subst hwq
          obtain ⟨k, v, ys, ls, hk, hgk, rfl, hlk, hdec, hsm, hto, hbt, hgq⟩ := hrel
          obtain ⟨Av, cv, hv, hfm⟩ := hto.form
          subst hv
          have HGK := Lib.hid hgk
          have HDEC := Lib.hid hdec
          have HSM := Lib.hid hsm
          have HTO := Lib.hid hto
          have HBT := Lib.hid hbt
          have HGQ := Lib.hid hgq
          have HGA := Lib.hid (HG3.out.trans hgq)
          have hb3 := HB3.out.grew hgq
          clear hgk hdec hsm hto hbt
          by_cases hlt : k < m
          · exact absurd hlt (by omega)
          · have hkm : k = m := by omega
            subst hkm
            have HLK := Lib.hid hlk
            have hTb := HTB.out
            have hls : (ls.length : Int) = slotsS tt := by unfold slotsS; omega
            obtain ⟨T, hT⟩ : ∃ T : Tab, T = ⟨nm, tt, ls⟩ := ⟨_, rfl⟩
            have htab := hfm nm tt (by omega) (by omega) (by omega)
            have hlT : T.labels.length = ls.length := by rw [hT]
            have hsmT : SmallT T := by rw [hT]; exact ⟨by show ls.length ≤ 1000; omega, HSM.out⟩
            rw [← hT] at htab
            have HST := Lib.hid hsmT
            have CV := fun w9 (g9 : Grew wq w9) => valid_tab Av cv ys T w9 (htab.hold g9) hsmT k (hlT.trans hlk).symm
            have HEND := Lib.hid (fun hno => ld_end ss nm tt ls HH.out hls HDEC.out hno)
            have HOK := Lib.hid (fun hv => load_ok ss nm tt ls H128.out (by rw [hlk]; exact HM9.out) HH.out HDEC.out hv)
            rw [← hT] at HEND HOK
            have HTE := Lib.hid hT
            have htn : T.name = nm := by rw [hT]
            have htt2 : T.tracks = tt := by rw [hT]
            rw [htn, htt2] at CV
            have HTN := Lib.hid htn
            have HTK := Lib.hid htt2
            have HLT := Lib.hid hlT
            have x0 := HBT.out.cell 0
            have x1 := HBT.out.cell 1
            have x2 := HBT.out.cell 2
            have hlw := HBT.out.lt
            clear hfm htab hsmT hT htn htt2 hlT hTb hls
            cases hv : validT T with
            | false =>
              have HE := Lib.hid (HEND.out (fun h9 => by rw [hv] at h9; cases h9.1))
              rw [hv] at CV
              clear hv
              go_wp2_with fail
              refine (CV _ (Grew.refl _)).mono ?_
              rintro e w8 ⟨rfl, g8⟩
              have hb8 := hb3.grew g8
              have hgg := HGA.out.trans g8
              clear hb3 x0 x1 x2 hlw g8
              have z0 := hb8.cell 0
              have z1 := hb8.cell 1
              have z2 := hb8.cell 2
              have f0 := hb8.frozen 0
              have f1 := hb8.frozen 1
              have f2 := hb8.frozen 2
              have hlb := hb8.lt
              go_wp2_with fail
              refine bodyPost_ret (by first | (simp [*, results, Try.results28, go_sem]; rfl) | simp [*, results, Try.results28, go_sem]) rfl ?_
              exact ⟨none, 0, [], tabZ, 11, rfl, HE.out, small_zero, TabAt.zero _, by (repeat' first | (with_reducible exact Grew.refl _) | (with_reducible assumption) | (with_reducible refine Grew.alloc ?_ _) | (with_reducible refine Grew.drew ?_) | (with_reducible refine Grew.drewN ?_ _) | (with_reducible refine Grew.setRow ?_ (by first | (simp; done) | (simp; omega) | omega) _) | (with_reducible refine Grew.setCell ?_ (by first | (simp; done) | (simp; omega) | omega) _) | ((with_reducible apply Grew.trans); rotate_left; (with_reducible assumption)) | ((with_reducible apply Grew.turn); rotate_left; (with_reducible assumption); (focus (intro i hi; first | omega | (simp at hi; omega)))) | fail)⟩
            | true =>
              have HE := Lib.hid (show LdS ss T 0 from .inl ⟨HOK.out hv, rfl⟩)
              rw [hv] at CV
              clear hv
              go_wp2_with fail
              refine (CV _ (Grew.refl _)).mono ?_
              rintro e w8 ⟨rfl, g8⟩
              have hb8 := hb3.grew g8
              have hgg := HGA.out.trans g8
              have hbt8 := HBT.out.grew g8
              have HTC := Lib.hid (show TabO w8 (w3.heap.size + 1) (.slice Av k cv) ys ls from by rw [← HLK.out]; exact HTO.out.hold g8)
              have HAP := Lib.hid ((HTO.out.hold g8).apart hb8)
              clear hb3 x0 x1 x2 hlw g8
              have x0 := hbt8.cell 0
              have x1 := hbt8.cell 1
              have x2 := hbt8.cell 2
              have hlw := hbt8.lt
              have z0 := hb8.cell 0
              have z1 := hb8.cell 1
              have z2 := hb8.cell 2
              have f0 := hb8.frozen 0
              have f1 := hb8.frozen 1
              have f2 := hb8.frozen 2
              have hlb := hb8.lt
              have HGG := Lib.hid hgg
              clear hb8 hgg hbt8
              have hw30 := HB3.out.lt
              go_wp2_with fail
              refine bodyPost_ret (by first | (simp [*, results, Try.results28, go_sem]; rfl) | simp [*, results, Try.results28, go_sem]) rfl ?_
              refine ⟨Av, cv, ys, T, 0, by rw [HTN.out, HTK.out, HLT.out, HLK.out], HE.out, HST.out, ?_, by have hgg := HGG.out; (repeat' first | (with_reducible exact Grew.refl _) | (with_reducible assumption) | (with_reducible refine Grew.alloc ?_ _) | (with_reducible refine Grew.drew ?_) | (with_reducible refine Grew.drewN ?_ _) | (with_reducible refine Grew.setRow ?_ (by first | (simp; done) | (simp; omega) | omega) _) | (with_reducible refine Grew.setCell ?_ (by first | (simp; done) | (simp; omega) | omega) _) | ((with_reducible apply Grew.trans); rotate_left; (with_reducible assumption)) | ((with_reducible apply Grew.turn); rotate_left; (with_reducible assumption); (focus (intro i hi; first | omega | (simp at hi; omega)))) | fail)⟩
              have hto9 : TabO (((w8.setCell ⟨w.heap.size, 0, none⟩ (.string nm)).setCell ⟨w.heap.size, 1, none⟩ (.int .i64 tt)).setCell ⟨w.heap.size, 2, none⟩ (.slice Av k cv)) (w3.heap.size + 1) (.slice Av k cv) ys ls := HTC.out.turned (S := fun q => q = w.heap.size) (by (repeat' first | (with_reducible exact Turned.refl _ _) | (with_reducible assumption) | (with_reducible refine Turned.alloc ?_ _) | (with_reducible refine Turned.drew ?_) | (with_reducible refine Turned.drewN ?_ _) | (with_reducible refine Turned.setRow ?_ (by first | (simp; done) | (simp; omega) | omega) _) | (with_reducible refine Turned.setCell ?_ (by first | (simp; done) | (simp; omega) | omega) _) | ((with_reducible apply Turned.andGrew); rotate_left; (with_reducible assumption)) | ((with_reducible apply Turned.trans); rotate_left; (with_reducible assumption)) | fail)) (fun q hq => by have h1 := (HTC.out.own.own_ge hq).1; omega) (fun y hy h0 b off e => HAP.out y hy h0 b off e)
              obtain ⟨A8, c8, hv8, hfm8⟩ := hto9.form
              injection hv8 with hv1 _ hv2
              subst hv1; subst hv2
              rw [HTE.out]
              exact hfm8 nm tt (by omega) (by omega) (by omega)
      go_wp2_with fail
      obtain ⟨wo, hwo⟩ : ∃ wo : World, wo = wr := ⟨_, rfl⟩
      subst hwo
      go_loopg [76] m (fun gk i wq => ∃ (k : Nat) (v : Value) (ys : List LabE) (ls : List Lab), k ≤ m ∧ gk = m - k ∧ i = .int .i64 k ∧ ls.length = k ∧ (∀ j (hj : j < ls.length), decP (trkS ss (j + 1)) tt = (ls[j], 0)) ∧ (∀ l ∈ ls, l.ext.length ≤ 1000) ∧ TabO wq (w3.heap.size + 1) v ys ls ∧ Blk wq w3.heap.size 34 #[.string nm, .int .i64 tt, v] ∧ Grew w3 wq)
      case atStart => exact ⟨0, _, [], [], by omega, by omega, rfl, rfl, fun j hj => absurd hj (Nat.not_lt_zero _), fun l hl => (by cases hl), ⟨OwnL.nil _ _ _ _, fun y hy => (by cases hy), fun y hy => (by cases hy), rfl⟩, HT0.out, HGT0.out⟩
      case round =>
        obtain ⟨wq, hwq⟩ : ∃ wq : World, wq = wr := ⟨_, rfl⟩
        subst hwq
        obtain ⟨k, v, ys, ls, hk, hgk, rfl, hlk, hdec, hsm, hto, hbt, hgq⟩ := hrel
        obtain ⟨Av, cv, hv, hfm⟩ := hto.form
        subst hv
        have HGK := Lib.hid hgk
        have HDEC := Lib.hid hdec
        have HSM := Lib.hid hsm
        have HTO := Lib.hid hto
        have HBT := Lib.hid hbt
        have HGQ := Lib.hid hgq
        have HGA := Lib.hid (HG3.out.trans hgq)
        have hb3 := HB3.out.grew hgq
        clear hgk hdec hsm hto hbt
        by_cases hlt : k < m
        · have q0 : wq.cell? ⟨b5, o5 + 1 + k, none⟩ = some (.string (trkS ss (k + 1))) := by have := HC5.out (k + 1) (by omega) wq (HGW.out.trans hgq); rwa [show o5 + (k + 1) = o5 + 1 + k from by omega] at this
          have hts2 : (trkS ss (k + 1)).size ≤ 8000 := trkS_size 1000 ss (k + 1) HZ.out
          have hb5q : b5 < wq.heap.size := by have := HGW.out.size; have := hgq.size; omega
          have CD := fun w9 => decode_lab (trkS ss (k + 1)) tt w9 (by omega) (by omega) (by omega)
          have hlw := HBT.out.lt
          rcases decP_pair (trkS ss (k + 1)) tt with ⟨l, hd, hle⟩ | hd
          rotate_left
          · have HE := Lib.hid (ld_dec ss nm tt HH.out k (by have := HTB.out; omega) hd)
            rw [hd] at CD
            clear hd
            go_wp2_with fail
            refine (CD _).mono ?_
            rintro e w4 ⟨A4, c4, rfl, hl4, g4, hn4⟩
            have hb4 := hb3.grew g4
            have hgg := HGA.out.trans g4
            clear hb3 hl4 hn4 q0
            have z0 := hb4.cell 0
            have z1 := hb4.cell 1
            have z2 := hb4.cell 2
            have f0 := hb4.frozen 0
            have f1 := hb4.frozen 1
            have f2 := hb4.frozen 2
            have hlb := hb4.lt
            go_wp2_with fail
            refine bodyPost_ret (by first | (simp [*, results, Try.results28, go_sem]; rfl) | simp [*, results, Try.results28, go_sem]) rfl ?_
            exact ⟨none, 0, [], tabZ, 11, rfl, HE.out, small_zero, TabAt.zero _, by (repeat' first | (with_reducible exact Grew.refl _) | (with_reducible assumption) | (with_reducible refine Grew.alloc ?_ _) | (with_reducible refine Grew.drew ?_) | (with_reducible refine Grew.drewN ?_ _) | (with_reducible refine Grew.setRow ?_ (by first | (simp; done) | (simp; omega) | omega) _) | (with_reducible refine Grew.setCell ?_ (by first | (simp; done) | (simp; omega) | omega) _) | ((with_reducible apply Grew.trans); rotate_left; (with_reducible assumption)) | ((with_reducible apply Grew.turn); rotate_left; (with_reducible assumption); (focus (intro i hi; first | omega | (simp at hi; omega)))) | fail)⟩
          have HD := Lib.hid hd
          rw [hd] at CD
          clear hd hb3
          go_wp2_with fail
          refine (CD _).mono ?_
          rintro e w4 ⟨A4, c4, rfl, hl4, g4, hn4⟩
          clear q0
          have hbt4 := HBT.out.grew g4
          have hto4 := HTO.out.hold g4
          have hgq4 := HGQ.out.trans g4
          have hlw4 := hbt4.lt
          have hgs4 : wq.heap.size ≤ w4.heap.size := g4.size
          have hnew : 0 < l.ext.length → ∀ b off, A4 = some ⟨b, off, none⟩ → (Value.slice Av k cv).ownBlock ≠ some b := fun _ b off e hq => by
            have h1 := hn4 b off e
            have h2 := (HTO.out.own.own_ge (show (Value.slice Av ls.length cv).ownBlock = some b from by rw [hlk]; exact hq)).2
            omega
          obtain ⟨W1, hW1⟩ : ∃ W1, W1 = w4.alloc (.cells #[.int .i64 l.id, .int .i64 l.unit, .string l.name, .string l.note, .slice A4 l.ext.length c4] 24) := ⟨_, rfl⟩
          have gal1 : Grew w4 W1 := by rw [hW1]; exact (Grew.refl w4).alloc _
          have hn1 : Blk W1 w4.heap.size 24 #[.int .i64 l.id, .int .i64 l.unit, .string l.name, .string l.note, .slice A4 l.ext.length c4] := by rw [hW1]; exact Blk.new w4 _ _ rfl
          have hW1s : W1.heap.size = w4.heap.size + 1 := by rw [hW1]; simp
          obtain ⟨W2, hW2⟩ : ∃ W2, W2 = W1.alloc (.cells #[.int .i64 l.id, .int .i64 l.unit, .string l.name, .string l.note, .slice A4 l.ext.length c4] 24) := ⟨_, rfl⟩
          have gal2 : Grew W1 W2 := by rw [hW2]; exact (Grew.refl W1).alloc _
          have hW2s : W2.heap.size = W1.heap.size + 1 := by rw [hW2]; simp
          have hnb : Blk W2 W1.heap.size 24 (labC ⟨A4, c4, l⟩).toArray := by rw [hW2]; exact Blk.new W1 _ _ rfl
          have g42 := gal1.trans gal2
          have hto2 := hto4.hold g42
          have hbt2 := hbt4.grew g42
          have hgq2 := hgq4.trans g42
          have hla2 := hl4.hold g42
          have hyl : (ys.map labC).length = k := by rw [List.length_map, hto2.len, hlk]
          have y0 := hn1.cell 0
          have y1 := hn1.cell 1
          have y2 := hn1.cell 2
          have y3 := hn1.cell 3
          have y4 := hn1.cell 4
          have hnl := hn1.lt
          have t2 := hbt4.cell 2
          have HLA2 := Lib.hid hla2
          have HTO2 := Lib.hid (show TabO W2 (w3.heap.size + 1) (.slice Av k cv) ys ls from by rw [← hlk]; exact hto2)
          have HBT2 := Lib.hid hbt2
          have HGQ2 := Lib.hid hgq2
          have HNB := Lib.hid (show Blk W2 (w4.heap.size + 1) 24 (labC ⟨A4, c4, l⟩).toArray from by rw [← hW1s]; exact hnb)
          have HNEW := Lib.hid hnew
          have h3g : w3.heap.size < W2.heap.size := hbt2.lt
          clear hto4 hgq4 hl4 hn4 hnew hla2 hgq2 hnb hbt2 hto2 g42 gal1 gal2
          go_wp2_with (at_builtin; rw [← hW1, ← hW2]; refine wpList_push2 rfl _ _ 32 rfl (w3.heap.size + 1) 24 5 72 _ Try.underlying32 info_lab rfl (by decide) W2 _ (ys.map labC) (labC ⟨A4, c4, l⟩) rfl (by rfl) HTO2.out.own (w4.heap.size + 1) (by rfl) HNB.out rfl (by rw [hyl]; omega) (by rw [hyl]; omega) (by omega) _ hyl ?_; intro g5 cap5 w5 hown5 hgr5 hat5 hg5; have hbt5 := HBT2.out.own hgr5 (fun hq => by have : w3.heap.size + 1 ≤ w3.heap.size := (HTO2.out.own.own_ge hq).1; omega); have u2 := hbt5.cell 2; have uf2 := hbt5.frozen 2; have hlw5 := hbt5.lt)
          have hto5 := HTO2.out.push ⟨A4, c4, l⟩ hown5 hgr5 hat5 HLA2.out HNEW.out
          have hge5 : w3.heap.size + 1 ≤ g5 := (hown5.own_ge (g := g5) rfl).1
          have hap5 := hto5.apart hbt5
          have hto6 := hto5.turned (S := fun q => q = w3.heap.size) ((Turned.refl (fun q => q = w3.heap.size) w5).setCell (p := ⟨w3.heap.size, 2, none⟩) (fun _ => rfl) (.slice (some ⟨g5, 0, none⟩) (k + 1) cap5)) (fun g hq => by simp only [Value.ownBlock, Option.some.injEq] at hq; omega) hap5
          have hbt6 := (hbt5.set_ 2 (.slice (some ⟨g5, 0, none⟩) (k + 1) cap5)).conv (ds := #[.string nm, .int .i64 tt, .slice (some ⟨g5, 0, none⟩) (k + 1) cap5]) rfl
          have hg6 := (Grew.own HGQ2.out hgr5 HTO2.out.own.row_ge (by omega)).setCell (p := ⟨w3.heap.size, 2, none⟩) (Nat.le_refl _) (.slice (some ⟨g5, 0, none⟩) (k + 1) cap5)
          have HDE := Lib.hid (dec_snoc HDEC.out (by rw [hlk]; exact HD.out))
          go_roundg (m - (k + 1))
          case measure => rw [HGK.out]; omega
          case rel => exact ⟨k + 1, _, _, ls ++ [l], by omega, by omega, by go_num, by rw [List.length_append, hlk]; rfl, HDE.out, ext_snoc HSM.out hle, hto6, hbt6, hg6⟩
        · have hkm : k = m := by omega
          subst hkm
          have HLK := Lib.hid hlk
          have hTb := HTB.out
          have hls : (ls.length : Int) = slotsS tt := by unfold slotsS; omega
          obtain ⟨T, hT⟩ : ∃ T : Tab, T = ⟨nm, tt, ls⟩ := ⟨_, rfl⟩
          have htab := hfm nm tt (by omega) (by omega) (by omega)
          have hlT : T.labels.length = ls.length := by rw [hT]
          have hsmT : SmallT T := by rw [hT]; exact ⟨by show ls.length ≤ 1000; omega, HSM.out⟩
          rw [← hT] at htab
          have HST := Lib.hid hsmT
          have CV := fun w9 (g9 : Grew wq w9) => valid_tab Av cv ys T w9 (htab.hold g9) hsmT k (hlT.trans hlk).symm
          have HEND := Lib.hid (fun hno => ld_end ss nm tt ls HH.out hls HDEC.out hno)
          have HOK := Lib.hid (fun hv => load_ok ss nm tt ls H128.out (by rw [hlk]; exact HM9.out) HH.out HDEC.out hv)
          rw [← hT] at HEND HOK
          have HTE := Lib.hid hT
          have htn : T.name = nm := by rw [hT]
          have htt2 : T.tracks = tt := by rw [hT]
          rw [htn, htt2] at CV
          have HTN := Lib.hid htn
          have HTK := Lib.hid htt2
          have HLT := Lib.hid hlT
          have x0 := HBT.out.cell 0
          have x1 := HBT.out.cell 1
          have x2 := HBT.out.cell 2
          have hlw := HBT.out.lt
          clear hfm htab hsmT hT htn htt2 hlT hTb hls
          cases hv : validT T with
          | false =>
            have HE := Lib.hid (HEND.out (fun h9 => by rw [hv] at h9; cases h9.1))
            rw [hv] at CV
            clear hv
            go_wp2_with fail
            refine (CV _ (Grew.refl _)).mono ?_
            rintro e w8 ⟨rfl, g8⟩
            have hb8 := hb3.grew g8
            have hgg := HGA.out.trans g8
            clear hb3 x0 x1 x2 hlw g8
            have z0 := hb8.cell 0
            have z1 := hb8.cell 1
            have z2 := hb8.cell 2
            have f0 := hb8.frozen 0
            have f1 := hb8.frozen 1
            have f2 := hb8.frozen 2
            have hlb := hb8.lt
            go_wp2_with fail
            refine bodyPost_ret (by first | (simp [*, results, Try.results28, go_sem]; rfl) | simp [*, results, Try.results28, go_sem]) rfl ?_
            exact ⟨none, 0, [], tabZ, 11, rfl, HE.out, small_zero, TabAt.zero _, by (repeat' first | (with_reducible exact Grew.refl _) | (with_reducible assumption) | (with_reducible refine Grew.alloc ?_ _) | (with_reducible refine Grew.drew ?_) | (with_reducible refine Grew.drewN ?_ _) | (with_reducible refine Grew.setRow ?_ (by first | (simp; done) | (simp; omega) | omega) _) | (with_reducible refine Grew.setCell ?_ (by first | (simp; done) | (simp; omega) | omega) _) | ((with_reducible apply Grew.trans); rotate_left; (with_reducible assumption)) | ((with_reducible apply Grew.turn); rotate_left; (with_reducible assumption); (focus (intro i hi; first | omega | (simp at hi; omega)))) | fail)⟩
          | true =>
            have HE := Lib.hid (show LdS ss T 0 from .inl ⟨HOK.out hv, rfl⟩)
            rw [hv] at CV
            clear hv
            go_wp2_with fail
            refine (CV _ (Grew.refl _)).mono ?_
            rintro e w8 ⟨rfl, g8⟩
            have hb8 := hb3.grew g8
            have hgg := HGA.out.trans g8
            have hbt8 := HBT.out.grew g8
            have HTC := Lib.hid (show TabO w8 (w3.heap.size + 1) (.slice Av k cv) ys ls from by rw [← HLK.out]; exact HTO.out.hold g8)
            have HAP := Lib.hid ((HTO.out.hold g8).apart hb8)
            clear hb3 x0 x1 x2 hlw g8
            have x0 := hbt8.cell 0
            have x1 := hbt8.cell 1
            have x2 := hbt8.cell 2
            have hlw := hbt8.lt
            have z0 := hb8.cell 0
            have z1 := hb8.cell 1
            have z2 := hb8.cell 2
            have f0 := hb8.frozen 0
            have f1 := hb8.frozen 1
            have f2 := hb8.frozen 2
            have hlb := hb8.lt
            have HGG := Lib.hid hgg
            clear hb8 hgg hbt8
            have hw30 := HB3.out.lt
            go_wp2_with fail
            refine bodyPost_ret (by first | (simp [*, results, Try.results28, go_sem]; rfl) | simp [*, results, Try.results28, go_sem]) rfl ?_
            refine ⟨Av, cv, ys, T, 0, by rw [HTN.out, HTK.out, HLT.out, HLK.out], HE.out, HST.out, ?_, by have hgg := HGG.out; (repeat' first | (with_reducible exact Grew.refl _) | (with_reducible assumption) | (with_reducible refine Grew.alloc ?_ _) | (with_reducible refine Grew.drew ?_) | (with_reducible refine Grew.drewN ?_ _) | (with_reducible refine Grew.setRow ?_ (by first | (simp; done) | (simp; omega) | omega) _) | (with_reducible refine Grew.setCell ?_ (by first | (simp; done) | (simp; omega) | omega) _) | ((with_reducible apply Grew.trans); rotate_left; (with_reducible assumption)) | ((with_reducible apply Grew.turn); rotate_left; (with_reducible assumption); (focus (intro i hi; first | omega | (simp at hi; omega)))) | fail)⟩
            have hto9 : TabO (((w8.setCell ⟨w.heap.size, 0, none⟩ (.string nm)).setCell ⟨w.heap.size, 1, none⟩ (.int .i64 tt)).setCell ⟨w.heap.size, 2, none⟩ (.slice Av k cv)) (w3.heap.size + 1) (.slice Av k cv) ys ls := HTC.out.turned (S := fun q => q = w.heap.size) (by (repeat' first | (with_reducible exact Turned.refl _ _) | (with_reducible assumption) | (with_reducible refine Turned.alloc ?_ _) | (with_reducible refine Turned.drew ?_) | (with_reducible refine Turned.drewN ?_ _) | (with_reducible refine Turned.setRow ?_ (by first | (simp; done) | (simp; omega) | omega) _) | (with_reducible refine Turned.setCell ?_ (by first | (simp; done) | (simp; omega) | omega) _) | ((with_reducible apply Turned.andGrew); rotate_left; (with_reducible assumption)) | ((with_reducible apply Turned.trans); rotate_left; (with_reducible assumption)) | fail)) (fun q hq => by have h1 := (HTC.out.own.own_ge hq).1; omega) (fun y hy h0 b off e => HAP.out y hy h0 b off e)
            obtain ⟨A8, c8, hv8, hfm8⟩ := hto9.form
            injection hv8 with hv1 _ hv2
            subst hv1; subst hv2
            rw [HTE.out]
            exact hfm8 nm tt (by omega) (by omega) (by omega)
end Go.Proofs.Ytnlaogneceanoaa
namespace Go.Proofs.Ytnlaogneceanoaa
set_option linter.unusedVariables false
set_option linter.unusedSimpArgs false
set_option linter.unusedSectionVars false
open Go.RowKit
attribute [local go_sem ↓] Go.wp_at_zero Go.wp_at_succ
theorem TabAt.turned {S : Nat → Prop} {w w' : World} {A : Option Addr} {c : Nat} {xs : List LabE} {T : Tab} (h : TabAt w A c xs T) (ht : Turned S w w') (h1 : 0 < xs.length → ∀ b off, A = some ⟨b, off, none⟩ → ¬ S b) (h2 : ∀ x ∈ xs, 0 < x.l.ext.length → ∀ b off, x.A = some ⟨b, off, none⟩ → ¬ S b) : TabAt w' A c xs T :=
  ⟨fun x hx => (h.lab x hx).turned ht (h2 x hx), fun h0 => by
    obtain ⟨b, off, e, hb, hc⟩ := h.rows h0
    exact ⟨b, off, e, Nat.lt_of_lt_of_le hb ht.size, fun j cs hj i v hi => by rw [ht.cellEq _ _ hb (h1 (by simpa using h0) b off e)]; exact hc j cs hj i v hi⟩, h.len, h.cap, h.eq, h.tr0, h.tr1, h.name⟩
/-- A table is apart from a variable that holds one. -/
theorem TabAt.apart {w w' : World} {A : Option Addr} {c : Nat} {xs : List LabE} {T : Tab} (h : TabAt w A c xs T) {g : Nat} {t : TypeId} {s : ByteArray} {i : Int} {a : Option Addr} {n d : Nat} (hb : Blk w g t #[.string s, .int .i64 i, .slice a n d]) (ht : Turned (fun x => x = g) w w') : TabAt w' A c xs T := by
  refine h.turned ht (fun h0 b off e => ?_) (fun x hx h0 b off e => runs_ne_tab (h.lab x hx).runs h0 hb b off e)
  rintro rfl
  obtain ⟨b', off', e', hb', hc⟩ := h.rows (by simpa using h0)
  rw [e] at e'
  injection e' with e'
  injection e' with e1 e2 _
  subst e1; subst e2
  have hr : (xs.map labC)[0]? = some (labC xs[0]) := by rw [List.getElem?_map, List.getElem?_eq_getElem h0]; rfl
  have c0 := hc 0 _ hr 0 _ rfl
  have c1 := hc 0 _ hr 1 _ rfl
  rw [Nat.zero_mul, Nat.add_zero, hb.cell] at c0 c1
  match off with
  | 0 => simp at c0
  | 1 => simp at c1
  | 2 => simp at c0
  | off + 3 => simp at c0
section
variable (A : Option Addr) (c : Nat) (xs : List LabE) (T : Tab) (id unit : Int) (w : World)
set_option maxRecDepth 100000 in
set_option maxHeartbeats 4000000 in
theorem confirm_tab (h : TabAt w A c xs T) (hs : SmallT T) (note : ByteArray) (hns : note.size ≤ 9223372036854775807) (T' : Tab) (er : Int) (hr : chgT T id unit (chCon T id note) = (T', er)) :
    Calls Try.prog 15 #[.agg #[.string T.name, .int .i64 T.tracks, .slice A T.labels.length c], .agg #[.int .i64 id, .int .i64 unit], .string note] w (TabR w T' er) := by
  have hg0 := ((((Grew.refl w).alloc (.cells #[.string T.name, .int .i64 T.tracks, .slice A T.labels.length c] 34)).alloc (.cells #[.int .i64 id, .int .i64 unit] 37)).alloc (.cells #[.string note] 9)).alloc (.cells #[.string ⟨#[]⟩, .int .i64 0, .slice none 0 0] 34)
  have hb0 := (((Blk.new w 34 #[.string T.name, .int .i64 T.tracks, .slice A T.labels.length c] rfl).alloc (.cells #[.int .i64 id, .int .i64 unit] 37)).alloc (.cells #[.string note] 9)).alloc (.cells #[.string ⟨#[]⟩, .int .i64 0, .slice none 0 0] 34)
  have hr0 := ((Blk.new (w.alloc (.cells #[.string T.name, .int .i64 T.tracks, .slice A T.labels.length c] 34)) 37 #[.int .i64 id, .int .i64 unit] (n := w.heap.size + 1) (by simp)).alloc (.cells #[.string note] 9)).alloc (.cells #[.string ⟨#[]⟩, .int .i64 0, .slice none 0 0] 34)
  have hn0 := (Blk.new ((w.alloc (.cells #[.string T.name, .int .i64 T.tracks, .slice A T.labels.length c] 34)).alloc (.cells #[.int .i64 id, .int .i64 unit] 37)) 9 #[.string note] (n := w.heap.size + 2) (by simp)).alloc (.cells #[.string ⟨#[]⟩, .int .i64 0, .slice none 0 0] 34)
  have hz0 := Blk.new (((w.alloc (.cells #[.string T.name, .int .i64 T.tracks, .slice A T.labels.length c] 34)).alloc (.cells #[.int .i64 id, .int .i64 unit] 37)).alloc (.cells #[.string note] 9)) 34 #[.string ⟨#[]⟩, .int .i64 0, .slice none 0 0] (n := w.heap.size + 3) (by simp)
  have h0 := h.hold hg0
  have HC := Lib.hid (change_con A c xs T id unit _ (w.heap.size + 2) (w.heap.size + 1) h0 hs (chCon T id note) (fun w1 base g cap xo ys k hk _ ho => confirm1_any _ w1 base g cap xo ys T k hk ho hs h.name h.tr0 h.tr1 note hns id unit _ _ hn0 hr0) T' er hr)
  have HG0 := Lib.hid hg0
  have HZ0 := Lib.hid hz0
  clear h hs hg0 hb0 hr0 hn0 hz0 h0 
  go_enter Try.func15, Try.ntmps15
  go_wp2_with fail
  refine HC.out.mono ?_
  rintro e w1 ⟨A1, c1, xs1, rfl, ht1, g1⟩
  have hz1 := HZ0.out.grew g1
  have z0 := hz1.cell 0
  have z1 := hz1.cell 1
  have z2 := hz1.cell 2
  have f0 := hz1.frozen 0
  have f1 := hz1.frozen 1
  have f2 := hz1.frozen 2
  have hzl := hz1.lt
  have hg1 := HG0.out.trans g1
  have HT1 := Lib.hid (fun w2 (ht : Turned (fun x => x = w.heap.size + 3) w1 w2) => ht1.apart hz1 ht)
  clear hz1 g1 ht1
  go_wp2_with fail
  refine bodyPost_ret (by first | (simp [*, results, Try.results15, go_sem]; rfl) | simp [*, results, Try.results15, go_sem]) rfl ?_
  exact ⟨A1, c1, xs1, rfl, HT1.out _ (by (repeat' first | (with_reducible exact Turned.refl _ _) | (with_reducible assumption) | (with_reducible refine Turned.alloc ?_ _) | (with_reducible refine Turned.drew ?_) | (with_reducible refine Turned.drewN ?_ _) | (with_reducible refine Turned.setRow ?_ (by first | (simp; done) | (simp; omega) | omega) _) | (with_reducible refine Turned.setCell ?_ (by first | (simp; done) | (simp; omega) | omega) _) | ((with_reducible apply Turned.andGrew); rotate_left; (with_reducible assumption)) | ((with_reducible apply Turned.trans); rotate_left; (with_reducible assumption)) | fail)), by (repeat' first | (with_reducible exact Grew.refl _) | (with_reducible assumption) | (with_reducible refine Grew.alloc ?_ _) | (with_reducible refine Grew.drew ?_) | (with_reducible refine Grew.drewN ?_ _) | (with_reducible refine Grew.setRow ?_ (by first | (simp; done) | (simp; omega) | omega) _) | (with_reducible refine Grew.setCell ?_ (by first | (simp; done) | (simp; omega) | omega) _) | ((with_reducible apply Grew.trans); rotate_left; (with_reducible assumption)) | ((with_reducible apply Grew.turn); rotate_left; (with_reducible assumption); (focus (intro i hi; first | omega | (simp at hi; omega)))) | fail)⟩
end
end Go.Proofs.Ytnlaogneceanoaa
namespace Go.Proofs.Ytnlaogneceanoaa
set_option linter.unusedVariables false
set_option linter.unusedSimpArgs false
set_option linter.unusedSectionVars false
open Go.RowKit
attribute [local go_sem ↓] Go.wp_at_zero Go.wp_at_succ
def okNew (id unit : Int) (nm nt : ByteArray) (n : Int) : Prop := 1 ≤ id ∧ id ≤ 1099511627776 ∧ 1 ≤ unit ∧ unit ≤ 1099511627776 ∧ nm.size ≤ 31 ∧ nt.size ≤ 400 ∧ 1 ≤ n
instance (id unit : Int) (nm nt : ByteArray) (n : Int) : Decidable (okNew id unit nm nt n) := by unfold okNew; exact inferInstance
def createT (T : Tab) (id unit : Int) (nm nt : ByteArray) (n : Int) : Tab × Int :=
  if validT T = true ∧ okNew id unit nm nt n then
    if T.labels.any (tentL id) = true then (tabZ, 5)
    else if idxP emL T.labels < 0 then (tabZ, 8)
    else if (allocS (memS (freeT T)) n 16).2 = 0 then ({ T with labels := T.labels.set (idxP emL T.labels).toNat ⟨id, unit, nm, nt, ints (allocS (memS (freeT T)) n 16).1⟩ }, 0)
    else (tabZ, 14)
  else (tabZ, 1)
section
variable (A : Option Addr) (c : Nat) (xs : List LabE) (T : Tab) (id unit : Int) (w : World)
set_option maxRecDepth 100000 in
set_option maxHeartbeats 16000000 in
theorem create_tab (h : TabAt w A c xs T) (hs : SmallT T) (nm nt : ByteArray) (hns : nm.size ≤ 9223372036854775807) (hts : nt.size ≤ 9223372036854775807) (n : Int) (n0 : -9223372036854775808 ≤ n) (n1 : n ≤ 9223372036854775807) (T' : Tab) (er : Int) (hr : createT T id unit nm nt n = (T', er)) :
    Calls Try.prog 30 #[.agg #[.string T.name, .int .i64 T.tracks, .slice A T.labels.length c], .agg #[.int .i64 id, .int .i64 unit], .string nm, .string nt, .int .i64 n] w (TabR w T' er) := by
  have hg0 := ((((Grew.refl w).alloc (.cells #[.string T.name, .int .i64 T.tracks, .slice A T.labels.length c] 34)).alloc (.cells #[.int .i64 id, .int .i64 unit] 37))).alloc (.cells #[.string ⟨#[]⟩, .int .i64 0, .slice none 0 0] 34)
  have hb0 := ((Blk.new w 34 #[.string T.name, .int .i64 T.tracks, .slice A T.labels.length c] rfl).alloc (.cells #[.int .i64 id, .int .i64 unit] 37)).alloc (.cells #[.string ⟨#[]⟩, .int .i64 0, .slice none 0 0] 34)
  have hr0 := (Blk.new (w.alloc (.cells #[.string T.name, .int .i64 T.tracks, .slice A T.labels.length c] 34)) 37 #[.int .i64 id, .int .i64 unit] (n := w.heap.size + 1) (by simp)).alloc (.cells #[.string ⟨#[]⟩, .int .i64 0, .slice none 0 0] 34)
  have hz0 := Blk.new ((w.alloc (.cells #[.string T.name, .int .i64 T.tracks, .slice A T.labels.length c] 34)).alloc (.cells #[.int .i64 id, .int .i64 unit] 37)) 34 #[.string ⟨#[]⟩, .int .i64 0, .slice none 0 0] (n := w.heap.size + 1 + 1) (by simp)
  have HV := Lib.hid (valid_tab A c xs T _ (h.hold hg0) hs _ rfl)
  have HTB := Lib.hid h
  have HS := Lib.hid hs
  have HG0 := Lib.hid hg0
  have HB0 := Lib.hid hb0
  have HRF := Lib.hid hr0
  have HZ0 := Lib.hid hz0
  clear h hs hg0 hb0 hr0 hz0
  cases hv : validT T with
  | false =>
    have hx : createT T id unit nm nt n = (tabZ, 1) := by unfold createT; rw [if_neg (fun h => by rw [hv] at h; cases h.1)]
    rw [hx] at hr
    injection hr with e1 e2
    subst e1; subst e2
    have HVF := Lib.hid hv
    clear hv hx
    go_enter Try.func30, Try.ntmps30
    go_wp2_with fail
    refine HV.out.mono ?_
    rintro e w1 ⟨rfl, g1⟩
    rw [HVF.out]
    have hr1 := HRF.out.grew g1
    have r0 := hr1.cell 0
    have r1 := hr1.cell 1
    have hrl := hr1.lt
    have hz1 := HZ0.out.grew g1
    have hzl := hz1.lt
    have z0 := hz1.cell 0
    have z1 := hz1.cell 1
    have z2 := hz1.cell 2
    have f0 := hz1.frozen 0
    have f1 := hz1.frozen 1
    have f2 := hz1.frozen 2
    have hg1 := HG0.out.trans g1
    clear hz1 hr1 g1
    go_wp2_with fail
    refine bodyPost_ret (by first | (simp [*, results, Try.results30, go_sem]; rfl) | simp [*, results, Try.results30, go_sem]) rfl ?_
    exact ⟨none, 0, [], rfl, TabAt.zero _, by (repeat' first | (with_reducible exact Grew.refl _) | (with_reducible assumption) | (with_reducible refine Grew.alloc ?_ _) | (with_reducible refine Grew.drew ?_) | (with_reducible refine Grew.drewN ?_ _) | (with_reducible refine Grew.setRow ?_ (by first | (simp; done) | (simp; omega) | omega) _) | (with_reducible refine Grew.setCell ?_ (by first | (simp; done) | (simp; omega) | omega) _) | ((with_reducible apply Grew.trans); rotate_left; (with_reducible assumption)) | ((with_reducible apply Grew.turn); rotate_left; (with_reducible assumption); (focus (intro i hi; first | omega | (simp at hi; omega)))) | fail)⟩
  | true =>
  have HX1 := Lib.hid (show ¬ okNew id unit nm nt n → createT T id unit nm nt n = (tabZ, 1) from fun hn => by unfold createT; rw [if_neg (fun h => hn h.2)])
  have HX2 := Lib.hid (show okNew id unit nm nt n → createT T id unit nm nt n = (if T.labels.any (tentL id) = true then (tabZ, 5) else if idxP emL T.labels < 0 then (tabZ, 8) else if (allocS (memS (freeT T)) n 16).2 = 0 then ({ T with labels := T.labels.set (idxP emL T.labels).toNat ⟨id, unit, nm, nt, ints (allocS (memS (freeT T)) n 16).1⟩ }, 0) else (tabZ, 14)) from fun hn => by unfold createT; rw [if_pos ⟨hv, hn⟩])
  have HVF := Lib.hid hv
  clear hv
  by_cases a1 : 1 ≤ id
  rotate_left
  · have HE := Lib.hid (HX1.out (fun hc => a1 hc.1))
    rw [HE.out] at hr
    injection hr with e1 e2
    subst e1; subst e2
    go_enter Try.func30, Try.ntmps30
    go_wp2_with fail
    refine HV.out.mono ?_
    rintro e w1 ⟨rfl, g1⟩
    rw [HVF.out]
    have hr1 := HRF.out.grew g1
    have r0 := hr1.cell 0
    have r1 := hr1.cell 1
    have hrl := hr1.lt
    have hz1 := HZ0.out.grew g1
    have hzl := hz1.lt
    have z0 := hz1.cell 0
    have z1 := hz1.cell 1
    have z2 := hz1.cell 2
    have f0 := hz1.frozen 0
    have f1 := hz1.frozen 1
    have f2 := hz1.frozen 2
    have hg1 := HG0.out.trans g1
    clear hz1 hr1 g1
    go_wp2_with fail
    refine bodyPost_ret (by first | (simp [*, results, Try.results30, go_sem]; rfl) | simp [*, results, Try.results30, go_sem]) rfl ?_
    exact ⟨none, 0, [], rfl, TabAt.zero _, by (repeat' first | (with_reducible exact Grew.refl _) | (with_reducible assumption) | (with_reducible refine Grew.alloc ?_ _) | (with_reducible refine Grew.drew ?_) | (with_reducible refine Grew.drewN ?_ _) | (with_reducible refine Grew.setRow ?_ (by first | (simp; done) | (simp; omega) | omega) _) | (with_reducible refine Grew.setCell ?_ (by first | (simp; done) | (simp; omega) | omega) _) | ((with_reducible apply Grew.trans); rotate_left; (with_reducible assumption)) | ((with_reducible apply Grew.turn); rotate_left; (with_reducible assumption); (focus (intro i hi; first | omega | (simp at hi; omega)))) | fail)⟩
  by_cases a2 : id ≤ 1099511627776
  rotate_left
  · have HE := Lib.hid (HX1.out (fun hc => a2 hc.2.1))
    rw [HE.out] at hr
    injection hr with e1 e2
    subst e1; subst e2
    go_enter Try.func30, Try.ntmps30
    go_wp2_with fail
    refine HV.out.mono ?_
    rintro e w1 ⟨rfl, g1⟩
    rw [HVF.out]
    have hr1 := HRF.out.grew g1
    have r0 := hr1.cell 0
    have r1 := hr1.cell 1
    have hrl := hr1.lt
    have hz1 := HZ0.out.grew g1
    have hzl := hz1.lt
    have z0 := hz1.cell 0
    have z1 := hz1.cell 1
    have z2 := hz1.cell 2
    have f0 := hz1.frozen 0
    have f1 := hz1.frozen 1
    have f2 := hz1.frozen 2
    have hg1 := HG0.out.trans g1
    clear hz1 hr1 g1
    go_wp2_with fail
    refine bodyPost_ret (by first | (simp [*, results, Try.results30, go_sem]; rfl) | simp [*, results, Try.results30, go_sem]) rfl ?_
    exact ⟨none, 0, [], rfl, TabAt.zero _, by (repeat' first | (with_reducible exact Grew.refl _) | (with_reducible assumption) | (with_reducible refine Grew.alloc ?_ _) | (with_reducible refine Grew.drew ?_) | (with_reducible refine Grew.drewN ?_ _) | (with_reducible refine Grew.setRow ?_ (by first | (simp; done) | (simp; omega) | omega) _) | (with_reducible refine Grew.setCell ?_ (by first | (simp; done) | (simp; omega) | omega) _) | ((with_reducible apply Grew.trans); rotate_left; (with_reducible assumption)) | ((with_reducible apply Grew.turn); rotate_left; (with_reducible assumption); (focus (intro i hi; first | omega | (simp at hi; omega)))) | fail)⟩
  by_cases a3 : 1 ≤ unit
  rotate_left
  · have HE := Lib.hid (HX1.out (fun hc => a3 hc.2.2.1))
    rw [HE.out] at hr
    injection hr with e1 e2
    subst e1; subst e2
    go_enter Try.func30, Try.ntmps30
    go_wp2_with fail
    refine HV.out.mono ?_
    rintro e w1 ⟨rfl, g1⟩
    rw [HVF.out]
    have hr1 := HRF.out.grew g1
    have r0 := hr1.cell 0
    have r1 := hr1.cell 1
    have hrl := hr1.lt
    have hz1 := HZ0.out.grew g1
    have hzl := hz1.lt
    have z0 := hz1.cell 0
    have z1 := hz1.cell 1
    have z2 := hz1.cell 2
    have f0 := hz1.frozen 0
    have f1 := hz1.frozen 1
    have f2 := hz1.frozen 2
    have hg1 := HG0.out.trans g1
    clear hz1 hr1 g1
    go_wp2_with fail
    refine bodyPost_ret (by first | (simp [*, results, Try.results30, go_sem]; rfl) | simp [*, results, Try.results30, go_sem]) rfl ?_
    exact ⟨none, 0, [], rfl, TabAt.zero _, by (repeat' first | (with_reducible exact Grew.refl _) | (with_reducible assumption) | (with_reducible refine Grew.alloc ?_ _) | (with_reducible refine Grew.drew ?_) | (with_reducible refine Grew.drewN ?_ _) | (with_reducible refine Grew.setRow ?_ (by first | (simp; done) | (simp; omega) | omega) _) | (with_reducible refine Grew.setCell ?_ (by first | (simp; done) | (simp; omega) | omega) _) | ((with_reducible apply Grew.trans); rotate_left; (with_reducible assumption)) | ((with_reducible apply Grew.turn); rotate_left; (with_reducible assumption); (focus (intro i hi; first | omega | (simp at hi; omega)))) | fail)⟩
  by_cases a4 : unit ≤ 1099511627776
  rotate_left
  · have HE := Lib.hid (HX1.out (fun hc => a4 hc.2.2.2.1))
    rw [HE.out] at hr
    injection hr with e1 e2
    subst e1; subst e2
    go_enter Try.func30, Try.ntmps30
    go_wp2_with fail
    refine HV.out.mono ?_
    rintro e w1 ⟨rfl, g1⟩
    rw [HVF.out]
    have hr1 := HRF.out.grew g1
    have r0 := hr1.cell 0
    have r1 := hr1.cell 1
    have hrl := hr1.lt
    have hz1 := HZ0.out.grew g1
    have hzl := hz1.lt
    have z0 := hz1.cell 0
    have z1 := hz1.cell 1
    have z2 := hz1.cell 2
    have f0 := hz1.frozen 0
    have f1 := hz1.frozen 1
    have f2 := hz1.frozen 2
    have hg1 := HG0.out.trans g1
    clear hz1 hr1 g1
    go_wp2_with fail
    refine bodyPost_ret (by first | (simp [*, results, Try.results30, go_sem]; rfl) | simp [*, results, Try.results30, go_sem]) rfl ?_
    exact ⟨none, 0, [], rfl, TabAt.zero _, by (repeat' first | (with_reducible exact Grew.refl _) | (with_reducible assumption) | (with_reducible refine Grew.alloc ?_ _) | (with_reducible refine Grew.drew ?_) | (with_reducible refine Grew.drewN ?_ _) | (with_reducible refine Grew.setRow ?_ (by first | (simp; done) | (simp; omega) | omega) _) | (with_reducible refine Grew.setCell ?_ (by first | (simp; done) | (simp; omega) | omega) _) | ((with_reducible apply Grew.trans); rotate_left; (with_reducible assumption)) | ((with_reducible apply Grew.turn); rotate_left; (with_reducible assumption); (focus (intro i hi; first | omega | (simp at hi; omega)))) | fail)⟩
  by_cases a5 : nm.size ≤ 31
  rotate_left
  · have HE := Lib.hid (HX1.out (fun hc => a5 hc.2.2.2.2.1))
    have a5i : ¬ (nm.size : Int) ≤ 31 := by omega
    rw [HE.out] at hr
    injection hr with e1 e2
    subst e1; subst e2
    go_enter Try.func30, Try.ntmps30
    go_wp2_with fail
    refine HV.out.mono ?_
    rintro e w1 ⟨rfl, g1⟩
    rw [HVF.out]
    have hr1 := HRF.out.grew g1
    have r0 := hr1.cell 0
    have r1 := hr1.cell 1
    have hrl := hr1.lt
    have hz1 := HZ0.out.grew g1
    have hzl := hz1.lt
    have z0 := hz1.cell 0
    have z1 := hz1.cell 1
    have z2 := hz1.cell 2
    have f0 := hz1.frozen 0
    have f1 := hz1.frozen 1
    have f2 := hz1.frozen 2
    have hg1 := HG0.out.trans g1
    clear hz1 hr1 g1
    go_wp2_with fail
    refine bodyPost_ret (by first | (simp [*, results, Try.results30, go_sem]; rfl) | simp [*, results, Try.results30, go_sem]) rfl ?_
    exact ⟨none, 0, [], rfl, TabAt.zero _, by (repeat' first | (with_reducible exact Grew.refl _) | (with_reducible assumption) | (with_reducible refine Grew.alloc ?_ _) | (with_reducible refine Grew.drew ?_) | (with_reducible refine Grew.drewN ?_ _) | (with_reducible refine Grew.setRow ?_ (by first | (simp; done) | (simp; omega) | omega) _) | (with_reducible refine Grew.setCell ?_ (by first | (simp; done) | (simp; omega) | omega) _) | ((with_reducible apply Grew.trans); rotate_left; (with_reducible assumption)) | ((with_reducible apply Grew.turn); rotate_left; (with_reducible assumption); (focus (intro i hi; first | omega | (simp at hi; omega)))) | fail)⟩
  have a5i : (nm.size : Int) ≤ 31 := by omega
  by_cases a6 : nt.size ≤ 400
  rotate_left
  · have HE := Lib.hid (HX1.out (fun hc => a6 hc.2.2.2.2.2.1))
    have a6i : ¬ (nt.size : Int) ≤ 400 := by omega
    rw [HE.out] at hr
    injection hr with e1 e2
    subst e1; subst e2
    go_enter Try.func30, Try.ntmps30
    go_wp2_with fail
    refine HV.out.mono ?_
    rintro e w1 ⟨rfl, g1⟩
    rw [HVF.out]
    have hr1 := HRF.out.grew g1
    have r0 := hr1.cell 0
    have r1 := hr1.cell 1
    have hrl := hr1.lt
    have hz1 := HZ0.out.grew g1
    have hzl := hz1.lt
    have z0 := hz1.cell 0
    have z1 := hz1.cell 1
    have z2 := hz1.cell 2
    have f0 := hz1.frozen 0
    have f1 := hz1.frozen 1
    have f2 := hz1.frozen 2
    have hg1 := HG0.out.trans g1
    clear hz1 hr1 g1
    go_wp2_with fail
    refine bodyPost_ret (by first | (simp [*, results, Try.results30, go_sem]; rfl) | simp [*, results, Try.results30, go_sem]) rfl ?_
    exact ⟨none, 0, [], rfl, TabAt.zero _, by (repeat' first | (with_reducible exact Grew.refl _) | (with_reducible assumption) | (with_reducible refine Grew.alloc ?_ _) | (with_reducible refine Grew.drew ?_) | (with_reducible refine Grew.drewN ?_ _) | (with_reducible refine Grew.setRow ?_ (by first | (simp; done) | (simp; omega) | omega) _) | (with_reducible refine Grew.setCell ?_ (by first | (simp; done) | (simp; omega) | omega) _) | ((with_reducible apply Grew.trans); rotate_left; (with_reducible assumption)) | ((with_reducible apply Grew.turn); rotate_left; (with_reducible assumption); (focus (intro i hi; first | omega | (simp at hi; omega)))) | fail)⟩
  have a6i : (nt.size : Int) ≤ 400 := by omega
  by_cases a7 : 1 ≤ n
  rotate_left
  · have HE := Lib.hid (HX1.out (fun hc => a7 hc.2.2.2.2.2.2))
    rw [HE.out] at hr
    injection hr with e1 e2
    subst e1; subst e2
    go_enter Try.func30, Try.ntmps30
    go_wp2_with fail
    refine HV.out.mono ?_
    rintro e w1 ⟨rfl, g1⟩
    rw [HVF.out]
    have hr1 := HRF.out.grew g1
    have r0 := hr1.cell 0
    have r1 := hr1.cell 1
    have hrl := hr1.lt
    have hz1 := HZ0.out.grew g1
    have hzl := hz1.lt
    have z0 := hz1.cell 0
    have z1 := hz1.cell 1
    have z2 := hz1.cell 2
    have f0 := hz1.frozen 0
    have f1 := hz1.frozen 1
    have f2 := hz1.frozen 2
    have hg1 := HG0.out.trans g1
    clear hz1 hr1 g1
    go_wp2_with fail
    refine bodyPost_ret (by first | (simp [*, results, Try.results30, go_sem]; rfl) | simp [*, results, Try.results30, go_sem]) rfl ?_
    exact ⟨none, 0, [], rfl, TabAt.zero _, by (repeat' first | (with_reducible exact Grew.refl _) | (with_reducible assumption) | (with_reducible refine Grew.alloc ?_ _) | (with_reducible refine Grew.drew ?_) | (with_reducible refine Grew.drewN ?_ _) | (with_reducible refine Grew.setRow ?_ (by first | (simp; done) | (simp; omega) | omega) _) | (with_reducible refine Grew.setCell ?_ (by first | (simp; done) | (simp; omega) | omega) _) | ((with_reducible apply Grew.trans); rotate_left; (with_reducible assumption)) | ((with_reducible apply Grew.turn); rotate_left; (with_reducible assumption); (focus (intro i hi; first | omega | (simp at hi; omega)))) | fail)⟩
  have d1 : decide (id < 1) = false := decide_eq_false (by omega)
  have d2 : decide (1099511627776 < id) = false := decide_eq_false (by omega)
  have d3 : decide (unit < 1) = false := decide_eq_false (by omega)
  have d4 : decide (1099511627776 < unit) = false := decide_eq_false (by omega)
  have d5 : decide (31 < (nm.size : Int)) = false := decide_eq_false (by omega)
  have d6 : decide (400 < (nt.size : Int)) = false := decide_eq_false (by omega)
  have d7 : decide (n < 1) = false := decide_eq_false (by omega)
  rw [HX2.out ⟨a1, a2, a3, a4, a5, a6, a7⟩] at hr
  obtain ⟨te, hte⟩ : ∃ te, T.labels.any (tentL id) = te := ⟨_, rfl⟩
  rw [hte] at hr
  have HTE := Lib.hid hte
  clear hte
  cases te with
  | true =>
    rw [if_pos rfl] at hr
    injection hr with e1 e2
    subst e1; subst e2
    go_enter Try.func30, Try.ntmps30
    go_wp2_with fail
    refine HV.out.mono ?_
    rintro e w1 ⟨rfl, g1⟩
    rw [HVF.out]
    have hr1 := HRF.out.grew g1
    have r0 := hr1.cell 0
    have r1 := hr1.cell 1
    have hrl := hr1.lt
    have hz1 := HZ0.out.grew g1
    have hzl := hz1.lt
    have HG1 := Lib.hid (HG0.out.trans g1)
    have HB1 := Lib.hid (HB0.out.grew g1)
    have HR1 := Lib.hid hr1
    have HZ1 := Lib.hid hz1
    have b2 := HB1.out.cell 2
    have hbl := HB1.out.lt
    clear hz1 hr1 g1
    go_wp2_with fail
    refine (hasTent_any A c xs T (w.heap.size + 1) id unit w1 (HTB.out.hold HG1.out) HS.out HR1.out _ rfl).mono ?_
    rintro e w2 ⟨rfl, g2⟩
    rw [HTE.out]
    have hz1 := HZ1.out.grew g2
    have hzl2 := hz1.lt
    have z0 := hz1.cell 0
    have z1 := hz1.cell 1
    have z2 := hz1.cell 2
    have f0 := hz1.frozen 0
    have f1 := hz1.frozen 1
    have f2 := hz1.frozen 2
    have hg1 := HG1.out.trans g2
    clear hz1 g2
    go_wp2_with fail
    refine bodyPost_ret (by first | (simp [*, results, Try.results30, go_sem]; rfl) | simp [*, results, Try.results30, go_sem]) rfl ?_
    exact ⟨none, 0, [], rfl, TabAt.zero _, by (repeat' first | (with_reducible exact Grew.refl _) | (with_reducible assumption) | (with_reducible refine Grew.alloc ?_ _) | (with_reducible refine Grew.drew ?_) | (with_reducible refine Grew.drewN ?_ _) | (with_reducible refine Grew.setRow ?_ (by first | (simp; done) | (simp; omega) | omega) _) | (with_reducible refine Grew.setCell ?_ (by first | (simp; done) | (simp; omega) | omega) _) | ((with_reducible apply Grew.trans); rotate_left; (with_reducible assumption)) | ((with_reducible apply Grew.turn); rotate_left; (with_reducible assumption); (focus (intro i hi; first | omega | (simp at hi; omega)))) | fail)⟩
  | false =>
  rw [if_neg (by simp)] at hr
  rcases idxP_cases emL T.labels with ⟨k, hk, hi, -, -⟩ | ⟨hi, -⟩
  rotate_left
  · rw [hi, if_pos (by omega)] at hr
    injection hr with e1 e2
    subst e1; subst e2
    have HIE := Lib.hid hi
    clear hi
    go_enter Try.func30, Try.ntmps30
    go_wp2_with fail
    refine HV.out.mono ?_
    rintro e w1 ⟨rfl, g1⟩
    rw [HVF.out]
    have hr1 := HRF.out.grew g1
    have r0 := hr1.cell 0
    have r1 := hr1.cell 1
    have hrl := hr1.lt
    have hz1 := HZ0.out.grew g1
    have hzl := hz1.lt
    have HG1 := Lib.hid (HG0.out.trans g1)
    have HB1 := Lib.hid (HB0.out.grew g1)
    have HR1 := Lib.hid hr1
    have HZ1 := Lib.hid hz1
    have b2 := HB1.out.cell 2
    have hbl := HB1.out.lt
    clear hz1 hr1 g1
    go_wp2_with fail
    refine (hasTent_any A c xs T (w.heap.size + 1) id unit w1 (HTB.out.hold HG1.out) HS.out HR1.out _ rfl).mono ?_
    rintro e w2 ⟨rfl, g2⟩
    rw [HTE.out]
    have HG2 := Lib.hid (HG1.out.trans g2)
    have HB2 := Lib.hid (HB1.out.grew g2)
    have HR2 := Lib.hid (HR1.out.grew g2)
    have HZ2 := Lib.hid (HZ1.out.grew g2)
    clear b2 hbl r0 r1 hrl hzl g2
    have b2 := HB2.out.cell 2
    have hbl := HB2.out.lt
    go_wp2_with fail
    refine (find_empty A c xs T (w.heap.size + 1) id unit w2 (HTB.out.hold HG2.out) HS.out HR2.out _ rfl).mono ?_
    rintro e w3 ⟨rfl, g3⟩
    rw [HIE.out]
    have hz1 := HZ2.out.grew g3
    have hzl2 := hz1.lt
    have z0 := hz1.cell 0
    have z1 := hz1.cell 1
    have z2 := hz1.cell 2
    have f0 := hz1.frozen 0
    have f1 := hz1.frozen 1
    have f2 := hz1.frozen 2
    have hg1 := HG2.out.trans g3
    clear hz1 g3
    go_wp2_with fail
    refine bodyPost_ret (by first | (simp [*, results, Try.results30, go_sem]; rfl) | simp [*, results, Try.results30, go_sem]) rfl ?_
    exact ⟨none, 0, [], rfl, TabAt.zero _, by (repeat' first | (with_reducible exact Grew.refl _) | (with_reducible assumption) | (with_reducible refine Grew.alloc ?_ _) | (with_reducible refine Grew.drew ?_) | (with_reducible refine Grew.drewN ?_ _) | (with_reducible refine Grew.setRow ?_ (by first | (simp; done) | (simp; omega) | omega) _) | (with_reducible refine Grew.setCell ?_ (by first | (simp; done) | (simp; omega) | omega) _) | ((with_reducible apply Grew.trans); rotate_left; (with_reducible assumption)) | ((with_reducible apply Grew.turn); rotate_left; (with_reducible assumption); (focus (intro i hi; first | omega | (simp at hi; omega)))) | fail)⟩
  rw [hi, if_neg (by omega), Int.toNat_natCast] at hr
  have HIE := Lib.hid hi
  have hkn : (k : Int) < (T.labels.length : Int) := by omega
  obtain ⟨kf, hkf⟩ : ∃ kf, freeT T = kf := ⟨_, rfl⟩
  have hkl : kf.length ≤ 128 := by rw [← hkf]; exact freeT_len T
  rw [hkf] at hr
  obtain ⟨ka, hka⟩ : ∃ ka, ints (allocS (memS kf) n 16).1 = ka := ⟨_, rfl⟩
  obtain ⟨er2, her⟩ : ∃ er2, (allocS (memS kf) n 16).2 = er2 := ⟨_, rfl⟩
  rw [hka, her] at hr
  have HKF := Lib.hid hkf
  have HKA := Lib.hid hka
  have HER := Lib.hid her
  clear hi hkf hka her
  by_cases h0 : er2 = 0
  rotate_left
  · rw [if_neg h0] at hr
    injection hr with e1 e2
    subst e1; subst e2
    have hne : (er2 != 0) = true := by rw [bne_iff_ne]; exact h0
    clear h0
    go_enter Try.func30, Try.ntmps30
    go_wp2_with fail
    refine HV.out.mono ?_
    rintro e w1 ⟨rfl, g1⟩
    rw [HVF.out]
    have hr1 := HRF.out.grew g1
    have r0 := hr1.cell 0
    have r1 := hr1.cell 1
    have hrl := hr1.lt
    have hz1 := HZ0.out.grew g1
    have hzl := hz1.lt
    have HG1 := Lib.hid (HG0.out.trans g1)
    have HB1 := Lib.hid (HB0.out.grew g1)
    have HR1 := Lib.hid hr1
    have HZ1 := Lib.hid hz1
    have b2 := HB1.out.cell 2
    have hbl := HB1.out.lt
    clear hz1 hr1 g1
    go_wp2_with fail
    refine (hasTent_any A c xs T (w.heap.size + 1) id unit w1 (HTB.out.hold HG1.out) HS.out HR1.out _ rfl).mono ?_
    rintro e w2 ⟨rfl, g2⟩
    rw [HTE.out]
    have HG2 := Lib.hid (HG1.out.trans g2)
    have HB2 := Lib.hid (HB1.out.grew g2)
    have HR2 := Lib.hid (HR1.out.grew g2)
    have HZ2 := Lib.hid (HZ1.out.grew g2)
    clear b2 hbl r0 r1 hrl hzl g2
    have b2 := HB2.out.cell 2
    have hbl := HB2.out.lt
    go_wp2_with fail
    refine (find_empty A c xs T (w.heap.size + 1) id unit w2 (HTB.out.hold HG2.out) HS.out HR2.out _ rfl).mono ?_
    rintro e w3 ⟨rfl, g3⟩
    rw [HIE.out]
    have HG3 := Lib.hid (HG2.out.trans g3)
    have HB3 := Lib.hid (HB2.out.grew g3)
    have HR3 := Lib.hid (HR2.out.grew g3)
    have HZ3 := Lib.hid (HZ2.out.grew g3)
    clear b2 hbl g3
    have b0 := HB3.out.cell 0
    have b1 := HB3.out.cell 1
    have b2 := HB3.out.cell 2
    have hbl := HB3.out.lt
    go_wp2_with fail
    refine (free_tab A c xs T w3 (HTB.out.hold HG3.out) HS.out _ rfl kf HKF.out).mono ?_
    rintro e w4 ⟨A4, c4, rfl, hr4, g4⟩
    have HG4 := Lib.hid (HG3.out.trans g4)
    have HB4 := Lib.hid (HB3.out.grew g4)
    have HR4 := Lib.hid (HR3.out.grew g4)
    have HZ4 := Lib.hid (HZ3.out.grew g4)
    clear b0 b1 b2 hbl g4
    go_wp2_with fail
    refine (alloc_new rfl (by omega) hr4 n n0 n1 16 ka er2 HKA.out HER.out).mono ?_
    rintro e w5 ⟨A5, c5, rfl, hn5, g5⟩
    clear hr4
    have hz1 := HZ4.out.grew g5
    have hzl5 := hz1.lt
    have z0 := hz1.cell 0
    have z1 := hz1.cell 1
    have z2 := hz1.cell 2
    have f0 := hz1.frozen 0
    have f1 := hz1.frozen 1
    have f2 := hz1.frozen 2
    have hg1 := HG4.out.trans g5
    clear hz1 g5 hn5
    go_wp2_with fail
    refine bodyPost_ret (by first | (simp [*, results, Try.results30, go_sem]; rfl) | simp [*, results, Try.results30, go_sem]) rfl ?_
    exact ⟨none, 0, [], rfl, TabAt.zero _, by (repeat' first | (with_reducible exact Grew.refl _) | (with_reducible assumption) | (with_reducible refine Grew.alloc ?_ _) | (with_reducible refine Grew.drew ?_) | (with_reducible refine Grew.drewN ?_ _) | (with_reducible refine Grew.setRow ?_ (by first | (simp; done) | (simp; omega) | omega) _) | (with_reducible refine Grew.setCell ?_ (by first | (simp; done) | (simp; omega) | omega) _) | ((with_reducible apply Grew.trans); rotate_left; (with_reducible assumption)) | ((with_reducible apply Grew.turn); rotate_left; (with_reducible assumption); (focus (intro i hi; first | omega | (simp at hi; omega)))) | fail)⟩
  subst h0
  rw [if_pos rfl] at hr
  injection hr with e1 e2
  subst e2
  have HT' := Lib.hid e1
  clear e1
  go_enter Try.func30, Try.ntmps30
  go_wp2_with fail
  refine HV.out.mono ?_
  rintro e w1 ⟨rfl, g1⟩
  rw [HVF.out]
  have hr1 := HRF.out.grew g1
  have r0 := hr1.cell 0
  have r1 := hr1.cell 1
  have hrl := hr1.lt
  have hz1 := HZ0.out.grew g1
  have hzl := hz1.lt
  have HG1 := Lib.hid (HG0.out.trans g1)
  have HB1 := Lib.hid (HB0.out.grew g1)
  have HR1 := Lib.hid hr1
  have HZ1 := Lib.hid hz1
  have b2 := HB1.out.cell 2
  have hbl := HB1.out.lt
  clear hz1 hr1 g1
  go_wp2_with fail
  refine (hasTent_any A c xs T (w.heap.size + 1) id unit w1 (HTB.out.hold HG1.out) HS.out HR1.out _ rfl).mono ?_
  rintro e w2 ⟨rfl, g2⟩
  rw [HTE.out]
  have HG2 := Lib.hid (HG1.out.trans g2)
  have HB2 := Lib.hid (HB1.out.grew g2)
  have HR2 := Lib.hid (HR1.out.grew g2)
  have HZ2 := Lib.hid (HZ1.out.grew g2)
  clear b2 hbl r0 r1 hrl hzl g2
  have b2 := HB2.out.cell 2
  have hbl := HB2.out.lt
  go_wp2_with fail
  refine (find_empty A c xs T (w.heap.size + 1) id unit w2 (HTB.out.hold HG2.out) HS.out HR2.out _ rfl).mono ?_
  rintro e w3 ⟨rfl, g3⟩
  rw [HIE.out]
  have HG3 := Lib.hid (HG2.out.trans g3)
  have HB3 := Lib.hid (HB2.out.grew g3)
  have HR3 := Lib.hid (HR2.out.grew g3)
  have HZ3 := Lib.hid (HZ2.out.grew g3)
  clear b2 hbl g3
  have b0 := HB3.out.cell 0
  have b1 := HB3.out.cell 1
  have b2 := HB3.out.cell 2
  have hbl := HB3.out.lt
  go_wp2_with fail
  refine (free_tab A c xs T w3 (HTB.out.hold HG3.out) HS.out _ rfl kf HKF.out).mono ?_
  rintro e w4 ⟨A4, c4, rfl, hr4, g4⟩
  have HG4 := Lib.hid (HG3.out.trans g4)
  have HB4 := Lib.hid (HB3.out.grew g4)
  have HR4 := Lib.hid (HR3.out.grew g4)
  have HZ4 := Lib.hid (HZ3.out.grew g4)
  clear b0 b1 b2 hbl g4
  go_wp2_with fail
  refine (alloc_new rfl (by omega) hr4 n n0 n1 16 ka 0 HKA.out HER.out).mono ?_
  rintro e w5 ⟨A5, c5, rfl, hn5, g5⟩
  clear hr4
  have HG5 := Lib.hid (HG4.out.trans g5)
  have HB5 := Lib.hid (HB4.out.grew g5)
  have HR5 := Lib.hid (HR4.out.grew g5)
  have HZ5 := Lib.hid (HZ4.out.grew g5)
  have HN5 := Lib.hid hn5
  clear g5 hn5
  have b0 := HB5.out.cell 0
  have b1 := HB5.out.cell 1
  have b2 := HB5.out.cell 2
  have hbl := HB5.out.lt
  go_wp2_with fail
  refine (clone_tab A c xs T w5 (HTB.out.hold HG5.out) HS.out _ rfl).mono ?_
  rintro e w6 ⟨v, ys, rfl, hto, g6⟩
  obtain ⟨g, cap, rfl, hgb, hgs⟩ : ∃ g cap, v = .slice (some ⟨g, 0, none⟩) T.labels.length cap ∧ w5.heap.size ≤ g ∧ g < w6.heap.size := by
    rcases hto.own.form with ⟨_, h0⟩ | ⟨g, cap, hv, h1, h2, -⟩
    · have := congrArg List.length h0; rw [List.length_map, hto.len, List.length_nil] at this; omega
    · rw [List.length_map, hto.len] at hv; exact ⟨g, cap, hv, h1, h2⟩
  have hl1 : k < cap := by have := hto.own.len.2.1; omega
  obtain ⟨B, d, hrow, -, -, -⟩ := hto.row hk
  have y0 : w6.cell? ⟨g, k * 5, none⟩ = some (.int .i64 T.labels[k].id) := hto.own.cell0 hrow rfl
  have y1 : w6.cell? ⟨g, k * 5 + 1, none⟩ = some (.int .i64 T.labels[k].unit) := hto.own.cell hrow (i := 1) rfl
  have y2 : w6.cell? ⟨g, k * 5 + 2, none⟩ = some (.string T.labels[k].name) := hto.own.cell hrow (i := 2) rfl
  have y3 : w6.cell? ⟨g, k * 5 + 3, none⟩ = some (.string T.labels[k].note) := hto.own.cell hrow (i := 3) rfl
  have y4 : w6.cell? ⟨g, k * 5 + 4, none⟩ = some (.slice B T.labels[k].ext.length d) := hto.own.cell hrow (i := 4) rfl
  have yf0 := hto.own.frozen (k * 5)
  have yf1 := hto.own.frozen (k * 5 + 1)
  have yf2 := hto.own.frozen (k * 5 + 2)
  have yf3 := hto.own.frozen (k * 5 + 3)
  have yf4 := hto.own.frozen (k * 5 + 4)
  have hr6 := HR5.out.grew g6
  have r60 := hr6.cell 0
  have r61 := hr6.cell 1
  have hrl6 := hr6.lt
  have hz6 := HZ5.out.grew g6
  have z0 := hz6.cell 0
  have z1 := hz6.cell 1
  have z2 := hz6.cell 2
  have f0 := hz6.frozen 0
  have f1 := hz6.frozen 1
  have f2 := hz6.frozen 2
  have hzl6 := hz6.lt
  have hz5 := HZ5.out.lt
  have hla : LabAt w6 A5 c5 ⟨id, unit, nm, nt, ka⟩ := ⟨by simp only; omega, by simp only; omega, by simp only; omega, by simp only; omega, hns, hts, (HN5.out.hold g6).1, HN5.out.2.1, HN5.out.2.2.1⟩
  have hfar : 0 < ka.length → ∀ b off, A5 = some ⟨b, off, none⟩ → b ≠ g := fun h0 b off e => by
    obtain ⟨b', off', e', hb', _⟩ := HN5.out.1.2 (by simpa using h0)
    rw [e] at e'
    injection e' with e'
    injection e' with e'
    omega
  have ht7 := (hto.set5 hk ⟨A5, c5, ⟨id, unit, nm, nt, ka⟩⟩ hla hfar).hold ((Grew.refl _).alloc (.cells #[.string T.name, .int .i64 T.tracks, .slice (some ⟨g, 0, none⟩) T.labels.length cap] 34))
  have tu7 := set5_turned w6 g (k * 5) (.int .i64 id) (.int .i64 unit) (.string nm) (.string nt) (.slice A5 ka.length c5)
  have hz7 := (hz6.turned tu7 (by omega)).alloc (.cells #[.string T.name, .int .i64 T.tracks, .slice (some ⟨g, 0, none⟩) T.labels.length cap] 34)
  have hx7 := Blk.new (((((w6.setCell ⟨g, k * 5, none⟩ (.int .i64 id)).setCell ⟨g, k * 5 + 1, none⟩ (.int .i64 unit)).setCell ⟨g, k * 5 + 2, none⟩ (.string nm)).setCell ⟨g, k * 5 + 3, none⟩ (.string nt)).setCell ⟨g, k * 5 + 4, none⟩ (.slice A5 ka.length c5)) 34 #[.string T.name, .int .i64 T.tracks, .slice (some ⟨g, 0, none⟩) T.labels.length cap] (n := w6.heap.size) (by simp [World.setCell])
  have hg7 := (((HG5.out.trans g6)).turn tu7 (fun i e => by have := HG5.out.size; omega)).alloc (.cells #[.string T.name, .int .i64 T.tracks, .slice (some ⟨g, 0, none⟩) T.labels.length cap] 34)
  have HAP := Lib.hid (ht7.apart hz7)
  have HT7 := Lib.hid ht7
  have HZ7 := Lib.hid hz7
  have HX7 := Lib.hid hx7
  have HN7 := Lib.hid ht7.nlen
  have HNM := Lib.hid (show T.name.size ≤ 9223372036854775807 ∧ -9223372036854775808 ≤ T.tracks ∧ T.tracks ≤ 9223372036854775807 from ⟨HTB.out.name, HTB.out.tr0, HTB.out.tr1⟩)
  have hww : w.heap.size + 1 + 1 < w5.heap.size := hz5
  have HG7 := Lib.hid hg7
  have hq1 : w.heap.size + 1 + 1 < g := by omega
  have hq2 : w.heap.size + 1 < g := by omega
  clear hg7 a1 a2 a3 a4 a5 a6 a7 a5i a6i hkl n0 n1 hns hts hww hgb hz5 hto hrow hr6 hz6 hla hfar ht7 tu7 hz7 hx7 g6 b0 b1 b2 hbl
  go_upto_region 13 with fail
  obtain ⟨W, hW⟩ : ∃ W, W = (((((w6.setCell ⟨g, k * 5, none⟩ (.int .i64 id)).setCell ⟨g, k * 5 + 1, none⟩ (.int .i64 unit)).setCell ⟨g, k * 5 + 2, none⟩ (.string nm)).setCell ⟨g, k * 5 + 3, none⟩ (.string nt)).setCell ⟨g, k * 5 + 4, none⟩ (.slice A5 ka.length c5)).alloc (.cells #[.string T.name, .int .i64 T.tracks, .slice (some ⟨g, 0, none⟩) T.labels.length cap] 34) := ⟨_, rfl⟩
  rw [← hW]
  rw [← hW] at HT7 HZ7 HX7 HG7
  clear hW z0 z1 z2 f0 f1 f2 y0 y1 y2 y3 y4 yf0 yf1 yf2 yf3 yf4 r60 r61
  have z0 := HZ7.out.cell 0
  have z1 := HZ7.out.cell 1
  have z2 := HZ7.out.cell 2
  have f0 := HZ7.out.frozen 0
  have f1 := HZ7.out.frozen 1
  have f2 := HZ7.out.frozen 2
  have hzl7 := HZ7.out.lt
  have x0 := HX7.out.cell 0
  have x1 := HX7.out.cell 1
  have x2 := HX7.out.cell 2
  have hxl7 := HX7.out.lt
  go_wp2_with fail
  refine bodyPost_ret (by first | (simp [*, results, Try.results30, go_sem]; rfl) | simp [*, results, Try.results30, go_sem]) rfl ?_
  refine ⟨some ⟨g, 0, none⟩, cap, ys.set k ⟨A5, c5, ⟨id, unit, nm, nt, ka⟩⟩, by rw [← HT'.out]; simp only [HN7.out], ?_, by have hg := HG7.out; (repeat' first | (with_reducible exact Grew.refl _) | (with_reducible assumption) | (with_reducible refine Grew.alloc ?_ _) | (with_reducible refine Grew.drew ?_) | (with_reducible refine Grew.drewN ?_ _) | (with_reducible refine Grew.setRow ?_ (by first | (simp; done) | (simp; omega) | omega) _) | (with_reducible refine Grew.setCell ?_ (by first | (simp; done) | (simp; omega) | omega) _) | ((with_reducible apply Grew.trans); rotate_left; (with_reducible assumption)) | ((with_reducible apply Grew.turn); rotate_left; (with_reducible assumption); (focus (intro i hi; first | omega | (simp at hi; omega)))) | fail)⟩
  rw [← HT'.out]
  exact (HT7.out.turned (S := fun k => k = w.heap.size + 1 + 1) (by (repeat' first | (with_reducible exact Turned.refl _ _) | (with_reducible assumption) | (with_reducible refine Turned.alloc ?_ _) | (with_reducible refine Turned.drew ?_) | (with_reducible refine Turned.drewN ?_ _) | (with_reducible refine Turned.setRow ?_ (by first | (simp; done) | (simp; omega) | omega) _) | (with_reducible refine Turned.setCell ?_ (by first | (simp; done) | (simp; omega) | omega) _) | ((with_reducible apply Turned.andGrew); rotate_left; (with_reducible assumption)) | ((with_reducible apply Turned.trans); rotate_left; (with_reducible assumption)) | fail)) (fun g' e => by have e' : g = g' := Option.some.inj e; omega) (fun y hy h0 b off e => HAP.out y hy h0 b off e)).tabAt _ _ HNM.out.1 HNM.out.2.1 HNM.out.2.2
end
end Go.Proofs.Ytnlaogneceanoaa
