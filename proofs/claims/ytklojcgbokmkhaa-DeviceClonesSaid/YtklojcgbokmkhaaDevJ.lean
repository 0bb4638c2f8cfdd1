/- Chapter 3: copies, Fence, FailAfter, Repair. -/
import Derived.Test.YtklojcgbokmkhaaDevI
namespace Go.Proofs.Ytklojcgbokmkhaa
set_option linter.unusedVariables false
set_option linter.unusedSimpArgs false
set_option linter.unusedSectionVars false
open Go.RowKit
open Go.Maps (Keyed)
attribute [local go_sem ↓] Go.wp_at_zero Go.wp_at_succ
theorem OwnL.base0 {w : World} {b e sz : Nat} {v : Value} {rows : List (List Value)} (h : OwnL w b e sz v rows) : OwnL w 0 e sz v rows := by
  refine ⟨h.1, h.2.1, ?_⟩
  rcases h.2.2 with h0 | ⟨g, cap, cur, h1, h2, h3⟩
  · exact .inl h0
  · exact .inr ⟨g, cap, cur, h1, Nat.zero_le _, h3⟩
set_option maxRecDepth 100000 in
set_option maxHeartbeats 2000000 in
theorem clone_int (A : Option Addr) (c n : Nat) (l : List Int) (w : World) (hn : n = l.length) (hl : l.length ≤ 1000000) (hr : ListAt w w.heap.size 1 A (l.map intC)) :
    Calls Try.prog 41 #[.slice A n c] w fun e w' => ∃ v, e = .returned v ∧ OwnL w' w.heap.size 3 1 v (l.map intC) ∧ Grew w w' := by
  subst hn
  cases A with
  | none =>
    have h0 : l = [] := by
      rcases Nat.eq_zero_or_pos l.length with h0 | h0
      · exact List.length_eq_zero_iff.1 h0
      · obtain ⟨b, off, e, _⟩ := hr (by rw [List.length_map]; exact h0)
        cases e
    subst h0
    have hnil := fun (W : World) => Lib.run_eql_slice_nil (P := Try.prog) W 30 3 none 0 c 0 0 Try.underlying30
    go_enter Try.func41, Try.ntmps41
    go_wp2
    go_ret
    exact ⟨_, rfl, OwnL.nil _ _ _ _, by (repeat' first | (with_reducible exact Grew.refl _) | (with_reducible assumption) | (with_reducible refine Grew.alloc ?_ _) | (with_reducible refine Grew.drew ?_) | (with_reducible refine Grew.drewN ?_ _) | (with_reducible refine Grew.setRow ?_ (by first | (simp; done) | (simp; omega) | omega) _) | (with_reducible refine Grew.setCell ?_ (by first | (simp; done) | (simp; omega) | omega) _) | ((with_reducible apply Grew.trans); rotate_left; (with_reducible assumption)) | ((with_reducible apply Grew.turn); rotate_left; (with_reducible assumption); (focus (intro i hi; first | omega | (simp at hi; omega)))) | fail)⟩
  | some ad =>
    have hnil := fun (W : World) => Lib.run_eql_slice_nil (P := Try.prog) W 30 3 (some ad) l.length c 0 0 Try.underlying30
    have hra := ListAt.mono (B' := w.heap.size + 1) (hr.keep (Nat.le_refl _) ((Grew.refl w).alloc (.cells #[] 3))) (by omega)
    go_enter Try.func41, Try.ntmps41
    go_wp2_with (at_builtin; refine wpList_pushAll (by rfl) _ _ 30 rfl w.heap.size 3 1 8 _ Try.underlying30 info_int rfl (by decide) _ [] (l.map intC) (by rfl) (OwnL.empty w _ _ _ (Nat.le_refl _) rfl) _ l.length _ (by rfl) (by simp) (by intro r hr; obtain ⟨x, _, rfl⟩ := List.mem_map.1 hr; rfl) (by simpa using hra) (by intro r hr; obtain ⟨x, _, rfl⟩ := List.mem_map.1 hr; rfl) (by simp; omega) (by simp; omega) (by simp) ?_; intro v1 w3 hown1 hgr1 hat1)
    go_ret
    exact ⟨v1, rfl, hown1, Grew.own ((Grew.refl w).alloc _) hgr1 (by simp [Value.ownBlock]) (Nat.le_refl _)⟩
set_option maxRecDepth 100000 in
set_option maxHeartbeats 2000000 in
theorem clone_str (A : Option Addr) (c n : Nat) (l : List ByteArray) (w : World) (hn : n = l.length) (hl : l.length ≤ 1000000) (hr : ListAt w w.heap.size 1 A (l.map strC)) :
    Calls Try.prog 40 #[.slice A n c] w fun e w' => ∃ v, e = .returned v ∧ OwnL w' w.heap.size 9 1 v (l.map strC) ∧ Grew w w' := by
  subst hn
  cases A with
  | none =>
    have h0 : l = [] := by
      rcases Nat.eq_zero_or_pos l.length with h0 | h0
      · exact List.length_eq_zero_iff.1 h0
      · obtain ⟨b, off, e, _⟩ := hr (by rw [List.length_map]; exact h0)
        cases e
    subst h0
    have hnil := fun (W : World) => Lib.run_eql_slice_nil (P := Try.prog) W 27 9 none 0 c 0 0 Try.underlying27
    go_enter Try.func40, Try.ntmps40
    go_wp2
    go_ret
    exact ⟨_, rfl, OwnL.nil _ _ _ _, by (repeat' first | (with_reducible exact Grew.refl _) | (with_reducible assumption) | (with_reducible refine Grew.alloc ?_ _) | (with_reducible refine Grew.drew ?_) | (with_reducible refine Grew.drewN ?_ _) | (with_reducible refine Grew.setRow ?_ (by first | (simp; done) | (simp; omega) | omega) _) | (with_reducible refine Grew.setCell ?_ (by first | (simp; done) | (simp; omega) | omega) _) | ((with_reducible apply Grew.trans); rotate_left; (with_reducible assumption)) | ((with_reducible apply Grew.turn); rotate_left; (with_reducible assumption); (focus (intro i hi; first | omega | (simp at hi; omega)))) | fail)⟩
  | some ad =>
    have hnil := fun (W : World) => Lib.run_eql_slice_nil (P := Try.prog) W 27 9 (some ad) l.length c 0 0 Try.underlying27
    have hra := ListAt.mono (B' := w.heap.size + 1) (hr.keep (Nat.le_refl _) ((Grew.refl w).alloc (.cells #[] 9))) (by omega)
    go_enter Try.func40, Try.ntmps40
    go_wp2_with (at_builtin; refine wpList_pushAll (by rfl) _ _ 27 rfl w.heap.size 9 1 16 _ Try.underlying27 info_str rfl (by decide) _ [] (l.map strC) (by rfl) (OwnL.empty w _ _ _ (Nat.le_refl _) rfl) _ l.length _ (by rfl) (by simp) (by intro r hr; obtain ⟨x, _, rfl⟩ := List.mem_map.1 hr; rfl) (by simpa using hra) (by intro r hr; obtain ⟨x, _, rfl⟩ := List.mem_map.1 hr; rfl) (by simp; omega) (by simp; omega) (by simp) ?_; intro v1 w3 hown1 hgr1 hat1)
    go_ret
    exact ⟨v1, rfl, hown1, Grew.own ((Grew.refl w).alloc _) hgr1 (by simp [Value.ownBlock]) (Nat.le_refl _)⟩
set_option maxRecDepth 100000 in
set_option maxHeartbeats 2000000 in
theorem clone_wr (A : Option Addr) (c n : Nat) (l : List Wr) (w : World) (hn : n = l.length) (hl : l.length ≤ 1000000) (hr : ListAt w w.heap.size 3 A (l.map wrC)) :
    Calls Try.prog 39 #[.slice A n c] w fun e w' => ∃ v, e = .returned v ∧ OwnL w' w.heap.size 77 3 v (l.map wrC) ∧ Grew w w' := by
  subst hn
  cases A with
  | none =>
    have h0 : l = [] := by
      rcases Nat.eq_zero_or_pos l.length with h0 | h0
      · exact List.length_eq_zero_iff.1 h0
      · obtain ⟨b, off, e, _⟩ := hr (by rw [List.length_map]; exact h0)
        cases e
    subst h0
    have hnil := fun (W : World) => Lib.run_eql_slice_nil (P := Try.prog) W 65 77 none 0 c 0 0 Try.underlying65
    go_enter Try.func39, Try.ntmps39
    go_wp2
    go_ret
    exact ⟨_, rfl, OwnL.nil _ _ _ _, by (repeat' first | (with_reducible exact Grew.refl _) | (with_reducible assumption) | (with_reducible refine Grew.alloc ?_ _) | (with_reducible refine Grew.drew ?_) | (with_reducible refine Grew.drewN ?_ _) | (with_reducible refine Grew.setRow ?_ (by first | (simp; done) | (simp; omega) | omega) _) | (with_reducible refine Grew.setCell ?_ (by first | (simp; done) | (simp; omega) | omega) _) | ((with_reducible apply Grew.trans); rotate_left; (with_reducible assumption)) | ((with_reducible apply Grew.turn); rotate_left; (with_reducible assumption); (focus (intro i hi; first | omega | (simp at hi; omega)))) | fail)⟩
  | some ad =>
    have hnil := fun (W : World) => Lib.run_eql_slice_nil (P := Try.prog) W 65 77 (some ad) l.length c 0 0 Try.underlying65
    have hra := ListAt.mono (B' := w.heap.size + 1) (hr.keep (Nat.le_refl _) ((Grew.refl w).alloc (.cells #[] 77))) (by omega)
    go_enter Try.func39, Try.ntmps39
    go_wp2_with (at_builtin; refine wpList_pushAll (by rfl) _ _ 65 rfl w.heap.size 77 3 32 _ Try.underlying65 info_wr rfl (by decide) _ [] (l.map wrC) (by rfl) (OwnL.empty w _ _ _ (Nat.le_refl _) rfl) _ l.length _ (by rfl) (by simp) (by intro r hr; obtain ⟨x, _, rfl⟩ := List.mem_map.1 hr; rfl) (by simpa using hra) (by intro r hr; obtain ⟨x, _, rfl⟩ := List.mem_map.1 hr; rfl) (by simp; omega) (by simp; omega) (by simp) ?_; intro v1 w3 hown1 hgr1 hat1)
    go_ret
    exact ⟨v1, rfl, hown1, Grew.own ((Grew.refl w).alloc _) hgr1 (by simp [Value.ownBlock]) (Nat.le_refl _)⟩
theorem DevM.newmap {w w' : World} {q : DevP} {D : Dev} (h : DevM w q D) (ht : Turned (fun k => k = q.m) w w') {E' : Int → Option Value} (hm : MapI w' q.m E') {fe : Int → Int} (hf : ∀ s, 1 ≤ s → s ≤ 4 → FenR (E' s) (fe s)) (hok : ∀ s, 0 ≤ fe s ∧ fe s ≤ 1099511627777) :
    DevM w' { q with E := E' } { D with fen := fe } := by
  refine ⟨h.blk.turned ht (blk_map_ne h.blk h.map), h.st.kept ht (fun g hg e => own_map_ne h.st h.map (by rw [hg, e])), h.old.kept ht (fun g hg e => own_map_ne h.old h.map (by rw [hg, e])), h.olen, fun j v l hv hl => ?_, h.pend.kept ht (fun g hg e => own_map_ne h.pend h.map (by rw [hg, e])), h.sv.kept ht (fun g hg e => own_map_ne h.sv h.map (by rw [hg, e])),
    hm, hf, h.fuse, h.left, h.svok, ⟨h.ok.len, h.ok.pos, h.ok.lim, h.ok.st, h.ok.old, h.ok.pend, hok⟩⟩
  obtain ⟨h5, h6⟩ := h.each j v l hv hl
  exact ⟨h5.kept ht (fun g hg e => own_map_ne h5 h.map (by rw [hg, e])), h6⟩
theorem clipE_ok (e : Int) : 0 ≤ clipE e ∧ clipE e ≤ 1099511627777 := by unfold clipE; split <;> omega
theorem fen_new {w : World} {q : DevP} {D : Dev} (h : DevM w q D) {s e : Int} (he : okI e) (hmax : max (D.fen s) (clipE e) = clipE e) : ∀ i, 1 ≤ i → i ≤ 4 → FenR (upd q.E s (some (.int .i64 e)) i) (if i = s then max (D.fen s) (clipE e) else D.fen i) := by
  intro i h1 h2
  by_cases hi : i = s
  · subst hi
    rw [upd_same, if_pos rfl, hmax]
    exact .inr ⟨e, he, rfl, rfl⟩
  · rw [upd_other _ _ hi, if_neg hi]
    exact h.fen i h1 h2
section
variable {w : World} {q : DevP} {D : Dev} (h : DevM w q D)
include h
set_option maxRecDepth 100000 in
set_option maxHeartbeats 4000000 in
theorem fence_any (s e : Int) (hs : okI s) (he : okI e) : Calls Try.prog 24 #[.pointer (some ⟨q.x, 0, none⟩), .int .i64 s, .int .i64 e] w fun er w' => er = .returned (.tuple #[]) ∧ Did w w' q (fenceD D s e) := by
  have hso := hs
  unfold okI at hs
  by_cases h1 : s < 1
  · have HV := Lib.hid (show fenceD D s e = D from by unfold fenceD; rw [if_pos (.inl h1)])
    have HH := Lib.hid h
    clear h
    go_enter Try.func24, Try.ntmps24
    go_wp2_with fail
    refine bodyPost_ret (results_none rfl _ _ _) rfl ?_
    rw [HV.out]
    exact ⟨rfl, Did.same HH.out (Grew.refl _)⟩
  · by_cases h4 : 4 < s
    · have HV := Lib.hid (show fenceD D s e = D from by unfold fenceD; rw [if_pos (.inr h4)])
      have HH := Lib.hid h
      clear h
      go_enter Try.func24, Try.ntmps24
      go_wp2_with fail
      refine bodyPost_ret (results_none rfl _ _ _) rfl ?_
      rw [HV.out]
      exact ⟨rfl, Did.same HH.out (Grew.refl _)⟩
    · have HV := Lib.hid (show fenceD D s e = { D with fen := fun i => if i = s then max (D.fen s) (clipE e) else D.fen i } from by unfold fenceD; rw [if_neg (by omega)])
      have HH := Lib.hid h
      obtain ⟨f, b, ho, ha, hb0, hb1⟩ := h.fence (s := s) (by omega) (by omega)
      have hlk := fen_look h.map hso ha
      have hb := h.blk
      have hxl := hb.lt
      have x3 := hb.cell 3
      have hcl := clipE_ok e
      have hup : b = false ∨ (b = true ∧ f < e) → max (D.fen s) (clipE e) = clipE e := by
        rintro (rfl | ⟨rfl, hf⟩)
        · rw [hb0 rfl]; omega
        · rw [hb1 rfl]
          unfold clipE
          split <;> split <;> omega
      have hstay : b = true ∧ ¬ f < e → (fun i => if i = s then max (D.fen s) (clipE e) else D.fen i) = D.fen := by
        rintro ⟨rfl, hf⟩
        funext i
        by_cases hi : i = s
        · subst hi
          rw [if_pos rfl, hb1 rfl]
          unfold clipE
          split <;> split <;> omega
        · rw [if_neg hi]
      have HUP := Lib.hid hup
      have HST := Lib.hid hstay
      have HHE := Lib.hid he
      obtain ⟨kl, hkey⟩ := int_key s hso
      obtain ⟨w2, hrun, hm2, ht2⟩ := h.map.update int_keyedI intV_inj Try.underlying64 s hkey (.int .i64 e)
      have HM2 := Lib.hid hm2
      have HT2 := Lib.hid ht2
      unfold okI at ho he
      clear h hb hup hstay ha hb0 hb1 hkey hm2 ht2 hcl
      cases b with
      | false =>
        go_enter Try.func24, Try.ntmps24
        go_wp2_with fail
        go_end0
        rw [HV.out]
        have hmx := HUP.out (.inl (by first | rfl | trivial))
        refine ⟨rfl, { q with E := upd q.E s (some (.int .i64 e)) }, HH.out.newmap HT2.out HM2.out (fen_new HH.out HHE.out hmx) (fun i => ?_), ⟨rfl, rfl, fun k hk => .inl hk⟩, HT2.out.mono (fun k _ hk => .inr (.inl hk))⟩
        by_cases hi : i = s
        · rw [if_pos hi, hmx]; exact clipE_ok e
        · rw [if_neg hi]; exact HH.out.ok.fen i
      | true =>
        by_cases hfe : f < e
        · go_enter Try.func24, Try.ntmps24
          go_wp2_with fail
          go_end0
          rw [HV.out]
          have hmx := HUP.out (.inr ⟨by first | rfl | trivial, hfe⟩)
          refine ⟨rfl, { q with E := upd q.E s (some (.int .i64 e)) }, HH.out.newmap HT2.out HM2.out (fen_new HH.out HHE.out hmx) (fun i => ?_), ⟨rfl, rfl, fun k hk => .inl hk⟩, HT2.out.mono (fun k _ hk => .inr (.inl hk))⟩
          by_cases hi : i = s
          · rw [if_pos hi, hmx]; exact clipE_ok e
          · rw [if_neg hi]; exact HH.out.ok.fen i
        · go_enter Try.func24, Try.ntmps24
          go_wp2_with fail
          go_end0
          rw [HV.out, HST.out ⟨by first | rfl | trivial, hfe⟩]
          exact ⟨rfl, Did.same HH.out (Grew.refl _)⟩
set_option maxRecDepth 100000 in
set_option maxHeartbeats 4000000 in
theorem repair_any : Calls Try.prog 43 #[.pointer (some ⟨q.x, 0, none⟩)] w fun er w' => er = .returned (.tuple #[]) ∧ Did w w' q (repairD D) := by
  have HH := Lib.hid h
  have hb := h.blk
  have hxl := hb.lt
  have x4 := hb.cell 4
  have x5 := hb.cell 5
  have x6 := hb.cell 6
  have x7 := hb.cell 7
  have f4 := hb.frozen 4
  have f5 := hb.frozen 5
  have f6 := hb.frozen 6
  have f7 := hb.frozen 7
  clear h hb
  go_enter Try.func43, Try.ntmps43
  go_wp2_with fail
  go_end0
  have hh := HH.out
  have ht4 := (((((Turned.refl (fun k => k = q.x) w).setCell (p := ⟨q.x, 7, none⟩) (fun _ => rfl) (.bool false)).setCell (p := ⟨q.x, 4, none⟩) (fun _ => rfl) (.bool false)).setCell (p := ⟨q.x, 5, none⟩) (fun _ => rfl) (.int .i64 0)).setCell (p := ⟨q.x, 6, none⟩) (fun _ => rfl) (.slice none 0 0))
  exact ⟨rfl, _, hh.rex ht4 false 0 [] (.slice none 0 0) false none (((((hh.blk.set_ 7 _).set_ 4 _).set_ 5 _).set_ 6 _).conv rfl) (OwnL.nil _ _ _ _) rfl (by omega) ⟨(fun n hn => by cases hn), by decide⟩, rex_foot w q _ _ _ _ (fun k hk => by cases hk), ht4.mono (fun k _ hk => .inl hk)⟩
set_option maxRecDepth 100000 in
set_option maxHeartbeats 4000000 in
theorem fail_any (n : Int) (hn : okI n) (A2 : Option Addr) (c2 : Nat) (l : List Int) (hl : ListAt w w.heap.size 1 A2 (l.map intC)) (hlen : l.length ≤ 1000000) (hlok : ∀ n ∈ l, okI n) :
    Calls Try.prog 42 #[.pointer (some ⟨q.x, 0, none⟩), .int .i64 n, .slice A2 l.length c2] w fun er w' => er = .returned (.tuple #[]) ∧ Did w w' q (failD D n l) := by
  have HH := Lib.hid h
  have hb := h.blk
  have hxl := hb.lt
  unfold okI at hn
  cases hf : D.failed with
  | true =>
    have HV := Lib.hid (show failD D n l = D from by unfold failD; rw [if_pos hf])
    have x7 := hb.cell 7
    rw [hf] at x7
    clear h hb hf
    go_enter Try.func42, Try.ntmps42
    go_wp2_with fail
    refine bodyPost_ret (results_none rfl _ _ _) rfl ?_
    rw [HV.out]
    exact ⟨rfl, Did.same HH.out (Grew.refl _)⟩
  | false =>
    have HF := Lib.hid hf
    have HC := Lib.hid (clone_int A2 c2 l.length l w rfl hlen hl)
    have HLOK := Lib.hid hlok
    have HV := Lib.hid (show failD D n l = { D with fuse := some ((max 0 n).toNat, l) } from by unfold failD; rw [if_neg (by rw [hf]; decide)])
    have x7 := hb.cell 7
    rw [hf] at x7
    clear h hb hf hlok hl
    obtain ⟨m, hm⟩ : ∃ m : Nat, (max 0 n).toNat = m := ⟨_, rfl⟩
    rw [hm] at HV
    have hmb : (m : Int) ≤ 9223372036854775807 := by omega
    have HFU := Lib.hid (show (some (m, l) : Option (Nat × List Int)) = if true then some ((m : Int).toNat, l) else none from by simp)
    rcases Int.lt_trichotomy n 0 with h0 | rfl | h0
    · obtain rfl : m = 0 := by omega
      clear hm
      go_enter Try.func42, Try.ntmps42
      go_wp2_with fail
      refine HC.out.mono ?_
      rintro er w1 ⟨v, rfl, hown, hg⟩
      obtain ⟨A5, c5, rfl, hl5, hc5, _⟩ := hown.listAt
      rw [List.length_map] at hown hl5
      have hb1 := HH.out.blk.grew hg
      have hxl1 := hb1.lt
      have x4 := hb1.cell 4
      have x5 := hb1.cell 5
      have x6 := hb1.cell 6
      have f4 := hb1.frozen 4
      have f5 := hb1.frozen 5
      have f6 := hb1.frozen 6
      have HG := Lib.hid hg
      have HOWN := Lib.hid hown
      clear hg hown hb1 x7
      go_wp2_with fail
      go_end0
      rw [HV.out]
      have hh := HH.out.grew HG.out
      have ht4 := ((((Turned.refl (fun k => k = q.x) w1).setCell (p := ⟨q.x, 4, none⟩) (fun _ => rfl) (.bool true)).setCell (p := ⟨q.x, 5, none⟩) (fun _ => rfl) (.int .i64 0)).setCell (p := ⟨q.x, 6, none⟩) (fun _ => rfl) (.slice A5 l.length c5))
      exact ⟨rfl, _, hh.rex ht4 true 0 l _ D.failed _ ((((hh.blk.set_ 4 _).set_ 5 _).set_ 6 _).conv rfl) (HOWN.out.base0.kept ht4 (fun g hg e => HOWN.out.ne_blk hh.blk (by decide) (by rw [hg, e]))) HFU.out (by omega) ⟨HLOK.out, hlen⟩, rex_foot w q _ _ _ _ (fun k hk => .inr (HOWN.out.own_ge hk).1), (HG.out.turned _).trans (ht4.mono (fun k _ hk => .inl hk))⟩
    · obtain rfl : m = 0 := by omega
      clear hm
      go_enter Try.func42, Try.ntmps42
      go_wp2_with fail
      refine HC.out.mono ?_
      rintro er w1 ⟨v, rfl, hown, hg⟩
      obtain ⟨A5, c5, rfl, hl5, hc5, _⟩ := hown.listAt
      rw [List.length_map] at hown hl5
      have hb1 := HH.out.blk.grew hg
      have hxl1 := hb1.lt
      have x4 := hb1.cell 4
      have x5 := hb1.cell 5
      have x6 := hb1.cell 6
      have f4 := hb1.frozen 4
      have f5 := hb1.frozen 5
      have f6 := hb1.frozen 6
      have HG := Lib.hid hg
      have HOWN := Lib.hid hown
      clear hg hown hb1 x7
      go_wp2_with fail
      go_end0
      rw [HV.out]
      have hh := HH.out.grew HG.out
      have ht4 := ((((Turned.refl (fun k => k = q.x) w1).setCell (p := ⟨q.x, 4, none⟩) (fun _ => rfl) (.bool true)).setCell (p := ⟨q.x, 5, none⟩) (fun _ => rfl) (.int .i64 0)).setCell (p := ⟨q.x, 6, none⟩) (fun _ => rfl) (.slice A5 l.length c5))
      exact ⟨rfl, _, hh.rex ht4 true 0 l _ D.failed _ ((((hh.blk.set_ 4 _).set_ 5 _).set_ 6 _).conv rfl) (HOWN.out.base0.kept ht4 (fun g hg e => HOWN.out.ne_blk hh.blk (by decide) (by rw [hg, e]))) HFU.out (by omega) ⟨HLOK.out, hlen⟩, rex_foot w q _ _ _ _ (fun k hk => .inr (HOWN.out.own_ge hk).1), (HG.out.turned _).trans (ht4.mono (fun k _ hk => .inl hk))⟩
    · obtain rfl : n = (m : Int) := by omega
      clear hm
      go_enter Try.func42, Try.ntmps42
      go_wp2_with fail
      refine HC.out.mono ?_
      rintro er w1 ⟨v, rfl, hown, hg⟩
      obtain ⟨A5, c5, rfl, hl5, hc5, _⟩ := hown.listAt
      rw [List.length_map] at hown hl5
      have hb1 := HH.out.blk.grew hg
      have hxl1 := hb1.lt
      have x4 := hb1.cell 4
      have x5 := hb1.cell 5
      have x6 := hb1.cell 6
      have f4 := hb1.frozen 4
      have f5 := hb1.frozen 5
      have f6 := hb1.frozen 6
      have HG := Lib.hid hg
      have HOWN := Lib.hid hown
      clear hg hown hb1 x7
      go_wp2_with fail
      go_end0
      rw [HV.out]
      have hh := HH.out.grew HG.out
      have ht4 := ((((Turned.refl (fun k => k = q.x) w1).setCell (p := ⟨q.x, 4, none⟩) (fun _ => rfl) (.bool true)).setCell (p := ⟨q.x, 5, none⟩) (fun _ => rfl) (.int .i64 (m : Int))).setCell (p := ⟨q.x, 6, none⟩) (fun _ => rfl) (.slice A5 l.length c5))
      exact ⟨rfl, _, hh.rex ht4 true (m : Int) l _ D.failed _ ((((hh.blk.set_ 4 _).set_ 5 _).set_ 6 _).conv rfl) (HOWN.out.base0.kept ht4 (fun g hg e => HOWN.out.ne_blk hh.blk (by decide) (by rw [hg, e]))) HFU.out (by omega) ⟨HLOK.out, hlen⟩, rex_foot w q _ _ _ _ (fun k hk => .inr (HOWN.out.own_ge hk).1), (HG.out.turned _).trans (ht4.mono (fun k _ hk => .inl hk))⟩
end
end Go.Proofs.Ytklojcgbokmkhaa
