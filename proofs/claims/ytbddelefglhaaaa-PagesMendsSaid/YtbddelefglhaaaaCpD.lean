/- Chapter 3: copies, Fence, FailAfter, Repair. Chapter 3: Damage, Return. Chapter 4: sums, numbers and their bytes (checksum.Sum, Bytes, Number). Regions that draw their order: operations that wait for nothing any more and make memory, each on its own, in whatever order. Regions that draw their order: two calls that wait for nothing any more. Chapter 3: New. Chapter 3: Clone. Chapter 4: sealed texts (checksum.Seal, Open). Chapter 4: Pack (pages.Pack). Chapters 2 and 4, plain: a changed byte is noticed. Chapter 4, plain: lists of writes on a device, whole and torn. Chapter 4, plain: lists of writes during which the device fails. Chapter 4, plain: what the raw sectors of a store say. -/
import Derived.Laws.IdiomStrings
import Derived.Carry
import Derived.Laws.CopyRow
import Derived.Test.YtbddelefglhaaaaCpA
import Derived.Test.YtbddelefglhaaaaCpB
import Derived.Test.YtbddelefglhaaaaCpC
namespace Go.Proofs.Ytbddelefglhaaaa
set_option linter.unusedVariables false
set_option linter.unusedSimpArgs false
set_option linter.unusedSectionVars false
open Go.RowKit
open Go.Maps (Keyed)
attribute [local go_sem ↓] Go.wp_at_zero Go.wp_at_succ
theorem OwnL.base0 {w : World} {b e sz : Nat} {v : Value} {rows : List (List Value)} (h : OwnL w b e sz v rows) : OwnL w 0 e sz v rows := by
  refine ⟨h.1, h.2.1, ?_⟩
  rcases h.2.2 with h0 | ⟨g, cap, cur, h1, h2, h3⟩
  · exact .inl h0
  · exact .inr ⟨g, cap, cur, h1, Nat.zero_le _, h3⟩
set_option maxRecDepth 100000 in
set_option maxHeartbeats 2000000 in
theorem clone_int (A : Option Addr) (c n : Nat) (l : List Int) (w : World) (hn : n = l.length) (hl : l.length ≤ 1000000) (hr : ListAt w w.heap.size 1 A (l.map intC)) :
    Calls Try.prog 65 #[.slice A n c] w fun e w' => ∃ v, e = .returned v ∧ OwnL w' w.heap.size 3 1 v (l.map intC) ∧ Grew w w' := by
  subst hn
  cases A with
  | none =>
    have h0 : l = [] := by
      rcases Nat.eq_zero_or_pos l.length with h0 | h0
      · exact List.length_eq_zero_iff.1 h0
      · obtain ⟨b, off, e, _⟩ := hr (by rw [List.length_map]; exact h0)
        cases e
    subst h0
    have hnil := fun (W : World) => Lib.run_eql_slice_nil (P := Try.prog) W 54 3 none 0 c 0 0 Try.underlying54
    go_enter Try.func65, Try.ntmps65
    go_wp2
    go_ret
    exact ⟨_, rfl, OwnL.nil _ _ _ _, by (repeat' first | (with_reducible exact Grew.refl _) | (with_reducible assumption) | (with_reducible refine Grew.alloc ?_ _) | (with_reducible refine Grew.drew ?_) | (with_reducible refine Grew.drewN ?_ _) | (with_reducible refine Grew.setRow ?_ (by first | (simp; done) | (simp; omega) | omega) _) | (with_reducible refine Grew.setCell ?_ (by first | (simp; done) | (simp; omega) | omega) _) | ((with_reducible apply Grew.trans); rotate_left; (with_reducible assumption)) | ((with_reducible apply Grew.turn); rotate_left; (with_reducible assumption); (focus (intro i hi; first | omega | (simp at hi; omega)))) | fail)⟩
  | some ad =>
    have hnil := fun (W : World) => Lib.run_eql_slice_nil (P := Try.prog) W 54 3 (some ad) l.length c 0 0 Try.underlying54
    have hra := ListAt.mono (B' := w.heap.size + 1) (hr.keep (Nat.le_refl _) ((Grew.refl w).alloc (.cells #[] 3))) (by omega)
    go_enter Try.func65, Try.ntmps65
    go_wp2_with (at_builtin; refine wpList_pushAll (by rfl) _ _ 54 rfl w.heap.size 3 1 8 _ Try.underlying54 info_int rfl (by decide) _ [] (l.map intC) (by rfl) (OwnL.empty w _ _ _ (Nat.le_refl _) rfl) _ l.length _ (by rfl) (by simp) (by intro r hr; obtain ⟨x, _, rfl⟩ := List.mem_map.1 hr; rfl) (by simpa using hra) (by intro r hr; obtain ⟨x, _, rfl⟩ := List.mem_map.1 hr; rfl) (by simp; omega) (by simp; omega) (by simp) ?_; intro v1 w3 hown1 hgr1 hat1)
    go_ret
    exact ⟨v1, rfl, hown1, Grew.own ((Grew.refl w).alloc _) hgr1 (by simp [Value.ownBlock]) (Nat.le_refl _)⟩
theorem DevM.newmap {w w' : World} {q : DevP} {D : Dev} (h : DevM w q D) (ht : Turned (fun k => k = q.m) w w') {E' : Int → Option Value} (hm : MapI w' q.m E') {fe : Int → Int} (hf : ∀ s, 1 ≤ s → s ≤ 4 → FenR (E' s) (fe s)) (hok : ∀ s, 0 ≤ fe s ∧ fe s ≤ 1099511627777) :
    DevM w' { q with E := E' } { D with fen := fe } := by
  refine ⟨h.blk.turned ht (blk_map_ne h.blk h.map), h.st.kept ht (fun g hg e => own_map_ne h.st h.map (by rw [hg, e])), h.old.kept ht (fun g hg e => own_map_ne h.old h.map (by rw [hg, e])), h.olen, fun j v l hv hl => ?_, h.pend.kept ht (fun g hg e => own_map_ne h.pend h.map (by rw [hg, e])), h.sv.kept ht (fun g hg e => own_map_ne h.sv h.map (by rw [hg, e])),
    hm, hf, h.fuse, h.left, h.svok, ⟨h.ok.len, h.ok.pos, h.ok.lim, h.ok.st, h.ok.old, h.ok.pend, hok⟩⟩
  obtain ⟨h5, h6⟩ := h.each j v l hv hl
  exact ⟨h5.kept ht (fun g hg e => own_map_ne h5 h.map (by rw [hg, e])), h6⟩
theorem clipE_ok (e : Int) : 0 ≤ clipE e ∧ clipE e ≤ 1099511627777 := by unfold clipE; split <;> omega
theorem fen_new {w : World} {q : DevP} {D : Dev} (h : DevM w q D) {s e : Int} (he : okI e) (hmax : max (D.fen s) (clipE e) = clipE e) : ∀ i, 1 ≤ i → i ≤ 4 → FenR (upd q.E s (some (.int .i64 e)) i) (if i = s then max (D.fen s) (clipE e) else D.fen i) := by
  intro i h1 h2
  by_cases hi : i = s
  · subst hi
    rw [upd_same, if_pos rfl, hmax]
    exact .inr ⟨e, he, rfl, rfl⟩
  · rw [upd_other _ _ hi, if_neg hi]
    exact h.fen i h1 h2
section
variable {w : World} {q : DevP} {D : Dev} (h : DevM w q D)
include h
set_option maxRecDepth 100000 in
set_option maxHeartbeats 4000000 in
theorem fence_any (s e : Int) (hs : okI s) (he : okI e) : Calls Try.prog 30 #[.pointer (some ⟨q.x, 0, none⟩), .int .i64 s, .int .i64 e] w fun er w' => er = .returned (.tuple #[]) ∧ Did w w' q (fenceD D s e) := by
  have hso := hs
  unfold okI at hs
  by_cases h1 : s < 1
  · have HV := Lib.hid (show fenceD D s e = D from by unfold fenceD; rw [if_pos (.inl h1)])
    have HH := Lib.hid h
    clear h
    go_enter Try.func30, Try.ntmps30
    go_wp2_with fail
    refine bodyPost_ret (results_none rfl _ _ _) rfl ?_
    rw [HV.out]
    exact ⟨rfl, Did.same HH.out (Grew.refl _)⟩
  · by_cases h4 : 4 < s
    · have HV := Lib.hid (show fenceD D s e = D from by unfold fenceD; rw [if_pos (.inr h4)])
      have HH := Lib.hid h
      clear h
      go_enter Try.func30, Try.ntmps30
      go_wp2_with fail
      refine bodyPost_ret (results_none rfl _ _ _) rfl ?_
      rw [HV.out]
      exact ⟨rfl, Did.same HH.out (Grew.refl _)⟩
    · have HV := Lib.hid (show fenceD D s e = { D with fen := fun i => if i = s then max (D.fen s) (clipE e) else D.fen i } from by unfold fenceD; rw [if_neg (by omega)])
      have HH := Lib.hid h
      obtain ⟨f, b, ho, ha, hb0, hb1⟩ := h.fence (s := s) (by omega) (by omega)
      have hlk := fen_look h.map hso ha
      have hb := h.blk
      have hxl := hb.lt
      have x3 := hb.cell 3
      have hcl := clipE_ok e
      have hup : b = false ∨ (b = true ∧ f < e) → max (D.fen s) (clipE e) = clipE e := by
        rintro (rfl | ⟨rfl, hf⟩)
        · rw [hb0 rfl]; omega
        · rw [hb1 rfl]
          unfold clipE
          split <;> split <;> omega
      have hstay : b = true ∧ ¬ f < e → (fun i => if i = s then max (D.fen s) (clipE e) else D.fen i) = D.fen := by
        rintro ⟨rfl, hf⟩
        funext i
        by_cases hi : i = s
        · subst hi
          rw [if_pos rfl, hb1 rfl]
          unfold clipE
          split <;> split <;> omega
        · rw [if_neg hi]
      have HUP := Lib.hid hup
      have HST := Lib.hid hstay
      have HHE := Lib.hid he
      obtain ⟨kl, hkey⟩ := int_key s hso
      obtain ⟨w2, hrun, hm2, ht2⟩ := h.map.update int_keyedI intV_inj Try.underlying113 s hkey (.int .i64 e)
      have HM2 := Lib.hid hm2
      have HT2 := Lib.hid ht2
      unfold okI at ho he
      clear h hb hup hstay ha hb0 hb1 hkey hm2 ht2 hcl
      cases b with
      | false =>
        go_enter Try.func30, Try.ntmps30
        go_wp2_with fail
        go_end0
        rw [HV.out]
        have hmx := HUP.out (.inl (by first | rfl | trivial))
        refine ⟨rfl, { q with E := upd q.E s (some (.int .i64 e)) }, HH.out.newmap HT2.out HM2.out (fen_new HH.out HHE.out hmx) (fun i => ?_), ⟨rfl, rfl, fun k hk => .inl hk⟩, HT2.out.mono (fun k _ hk => .inr (.inl hk))⟩
        by_cases hi : i = s
        · rw [if_pos hi, hmx]; exact clipE_ok e
        · rw [if_neg hi]; exact HH.out.ok.fen i
      | true =>
        by_cases hfe : f < e
        · go_enter Try.func30, Try.ntmps30
          go_wp2_with fail
          go_end0
          rw [HV.out]
          have hmx := HUP.out (.inr ⟨by first | rfl | trivial, hfe⟩)
          refine ⟨rfl, { q with E := upd q.E s (some (.int .i64 e)) }, HH.out.newmap HT2.out HM2.out (fen_new HH.out HHE.out hmx) (fun i => ?_), ⟨rfl, rfl, fun k hk => .inl hk⟩, HT2.out.mono (fun k _ hk => .inr (.inl hk))⟩
          by_cases hi : i = s
          · rw [if_pos hi, hmx]; exact clipE_ok e
          · rw [if_neg hi]; exact HH.out.ok.fen i
        · go_enter Try.func30, Try.ntmps30
          go_wp2_with fail
          go_end0
          rw [HV.out, HST.out ⟨by first | rfl | trivial, hfe⟩]
          exact ⟨rfl, Did.same HH.out (Grew.refl _)⟩
set_option maxRecDepth 100000 in
set_option maxHeartbeats 4000000 in
theorem repair_any : Calls Try.prog 29 #[.pointer (some ⟨q.x, 0, none⟩)] w fun er w' => er = .returned (.tuple #[]) ∧ Did w w' q (repairD D) := by
  have HH := Lib.hid h
  have hb := h.blk
  have hxl := hb.lt
  have x4 := hb.cell 4
  have x5 := hb.cell 5
  have x6 := hb.cell 6
  have x7 := hb.cell 7
  have f4 := hb.frozen 4
  have f5 := hb.frozen 5
  have f6 := hb.frozen 6
  have f7 := hb.frozen 7
  clear h hb
  go_enter Try.func29, Try.ntmps29
  go_wp2_with fail
  go_end0
  have hh := HH.out
  have ht4 := (((((Turned.refl (fun k => k = q.x) w).setCell (p := ⟨q.x, 7, none⟩) (fun _ => rfl) (.bool false)).setCell (p := ⟨q.x, 4, none⟩) (fun _ => rfl) (.bool false)).setCell (p := ⟨q.x, 5, none⟩) (fun _ => rfl) (.int .i64 0)).setCell (p := ⟨q.x, 6, none⟩) (fun _ => rfl) (.slice none 0 0))
  exact ⟨rfl, _, hh.rex ht4 false 0 [] (.slice none 0 0) false none (((((hh.blk.set_ 7 _).set_ 4 _).set_ 5 _).set_ 6 _).conv rfl) (OwnL.nil _ _ _ _) rfl (by omega) ⟨(fun n hn => by cases hn), by decide⟩, rex_foot w q _ _ _ _ (fun k hk => by cases hk), ht4.mono (fun k _ hk => .inl hk)⟩
set_option maxRecDepth 100000 in
set_option maxHeartbeats 4000000 in
theorem fail_any (n : Int) (hn : okI n) (A2 : Option Addr) (c2 : Nat) (l : List Int) (hl : ListAt w w.heap.size 1 A2 (l.map intC)) (hlen : l.length ≤ 1000000) (hlok : ∀ n ∈ l, okI n) :
    Calls Try.prog 28 #[.pointer (some ⟨q.x, 0, none⟩), .int .i64 n, .slice A2 l.length c2] w fun er w' => er = .returned (.tuple #[]) ∧ Did w w' q (failD D n l) := by
  have HH := Lib.hid h
  have hb := h.blk
  have hxl := hb.lt
  unfold okI at hn
  cases hf : D.failed with
  | true =>
    have HV := Lib.hid (show failD D n l = D from by unfold failD; rw [if_pos hf])
    have x7 := hb.cell 7
    rw [hf] at x7
    clear h hb hf
    go_enter Try.func28, Try.ntmps28
    go_wp2_with fail
    refine bodyPost_ret (results_none rfl _ _ _) rfl ?_
    rw [HV.out]
    exact ⟨rfl, Did.same HH.out (Grew.refl _)⟩
  | false =>
    have HF := Lib.hid hf
    have HC := Lib.hid (clone_int A2 c2 l.length l w rfl hlen hl)
    have HLOK := Lib.hid hlok
    have HV := Lib.hid (show failD D n l = { D with fuse := some ((max 0 n).toNat, l) } from by unfold failD; rw [if_neg (by rw [hf]; decide)])
    have x7 := hb.cell 7
    rw [hf] at x7
    clear h hb hf hlok hl
    obtain ⟨m, hm⟩ : ∃ m : Nat, (max 0 n).toNat = m := ⟨_, rfl⟩
    rw [hm] at HV
    have hmb : (m : Int) ≤ 9223372036854775807 := by omega
    have HFU := Lib.hid (show (some (m, l) : Option (Nat × List Int)) = if true then some ((m : Int).toNat, l) else none from by simp)
    rcases Int.lt_trichotomy n 0 with h0 | rfl | h0
    · obtain rfl : m = 0 := by omega
      clear hm
      go_enter Try.func28, Try.ntmps28
      go_wp2_with fail
      refine HC.out.mono ?_
      rintro er w1 ⟨v, rfl, hown, hg⟩
      obtain ⟨A5, c5, rfl, hl5, hc5, _⟩ := hown.listAt
      rw [List.length_map] at hown hl5
      have hb1 := HH.out.blk.grew hg
      have hxl1 := hb1.lt
      have x4 := hb1.cell 4
      have x5 := hb1.cell 5
      have x6 := hb1.cell 6
      have f4 := hb1.frozen 4
      have f5 := hb1.frozen 5
      have f6 := hb1.frozen 6
      have HG := Lib.hid hg
      have HOWN := Lib.hid hown
      clear hg hown hb1 x7
      go_wp2_with fail
      go_end0
      rw [HV.out]
      have hh := HH.out.grew HG.out
      have ht4 := ((((Turned.refl (fun k => k = q.x) w1).setCell (p := ⟨q.x, 4, none⟩) (fun _ => rfl) (.bool true)).setCell (p := ⟨q.x, 5, none⟩) (fun _ => rfl) (.int .i64 0)).setCell (p := ⟨q.x, 6, none⟩) (fun _ => rfl) (.slice A5 l.length c5))
      exact ⟨rfl, _, hh.rex ht4 true 0 l _ D.failed _ ((((hh.blk.set_ 4 _).set_ 5 _).set_ 6 _).conv rfl) (HOWN.out.base0.kept ht4 (fun g hg e => HOWN.out.ne_blk hh.blk (by decide) (by rw [hg, e]))) HFU.out (by omega) ⟨HLOK.out, hlen⟩, rex_foot w q _ _ _ _ (fun k hk => .inr (HOWN.out.own_ge hk).1), (HG.out.turned _).trans (ht4.mono (fun k _ hk => .inl hk))⟩
    · obtain rfl : m = 0 := by omega
      clear hm
      go_enter Try.func28, Try.ntmps28
      go_wp2_with fail
      refine HC.out.mono ?_
      rintro er w1 ⟨v, rfl, hown, hg⟩
      obtain ⟨A5, c5, rfl, hl5, hc5, _⟩ := hown.listAt
      rw [List.length_map] at hown hl5
      have hb1 := HH.out.blk.grew hg
      have hxl1 := hb1.lt
      have x4 := hb1.cell 4
      have x5 := hb1.cell 5
      have x6 := hb1.cell 6
      have f4 := hb1.frozen 4
      have f5 := hb1.frozen 5
      have f6 := hb1.frozen 6
      have HG := Lib.hid hg
      have HOWN := Lib.hid hown
      clear hg hown hb1 x7
      go_wp2_with fail
      go_end0
      rw [HV.out]
      have hh := HH.out.grew HG.out
      have ht4 := ((((Turned.refl (fun k => k = q.x) w1).setCell (p := ⟨q.x, 4, none⟩) (fun _ => rfl) (.bool true)).setCell (p := ⟨q.x, 5, none⟩) (fun _ => rfl) (.int .i64 0)).setCell (p := ⟨q.x, 6, none⟩) (fun _ => rfl) (.slice A5 l.length c5))
      exact ⟨rfl, _, hh.rex ht4 true 0 l _ D.failed _ ((((hh.blk.set_ 4 _).set_ 5 _).set_ 6 _).conv rfl) (HOWN.out.base0.kept ht4 (fun g hg e => HOWN.out.ne_blk hh.blk (by decide) (by rw [hg, e]))) HFU.out (by omega) ⟨HLOK.out, hlen⟩, rex_foot w q _ _ _ _ (fun k hk => .inr (HOWN.out.own_ge hk).1), (HG.out.turned _).trans (ht4.mono (fun k _ hk => .inl hk))⟩
    · obtain rfl : n = (m : Int) := by omega
      clear hm
      go_enter Try.func28, Try.ntmps28
      go_wp2_with fail
      refine HC.out.mono ?_
      rintro er w1 ⟨v, rfl, hown, hg⟩
      obtain ⟨A5, c5, rfl, hl5, hc5, _⟩ := hown.listAt
      rw [List.length_map] at hown hl5
      have hb1 := HH.out.blk.grew hg
      have hxl1 := hb1.lt
      have x4 := hb1.cell 4
      have x5 := hb1.cell 5
      have x6 := hb1.cell 6
      have f4 := hb1.frozen 4
      have f5 := hb1.frozen 5
      have f6 := hb1.frozen 6
      have HG := Lib.hid hg
      have HOWN := Lib.hid hown
      clear hg hown hb1 x7
      go_wp2_with fail
      go_end0
      rw [HV.out]
      have hh := HH.out.grew HG.out
      have ht4 := ((((Turned.refl (fun k => k = q.x) w1).setCell (p := ⟨q.x, 4, none⟩) (fun _ => rfl) (.bool true)).setCell (p := ⟨q.x, 5, none⟩) (fun _ => rfl) (.int .i64 (m : Int))).setCell (p := ⟨q.x, 6, none⟩) (fun _ => rfl) (.slice A5 l.length c5))
      exact ⟨rfl, _, hh.rex ht4 true (m : Int) l _ D.failed _ ((((hh.blk.set_ 4 _).set_ 5 _).set_ 6 _).conv rfl) (HOWN.out.base0.kept ht4 (fun g hg e => HOWN.out.ne_blk hh.blk (by decide) (by rw [hg, e]))) HFU.out (by omega) ⟨HLOK.out, hlen⟩, rex_foot w q _ _ _ _ (fun k hk => .inr (HOWN.out.own_ge hk).1), (HG.out.turned _).trans (ht4.mono (fun k _ hk => .inl hk))⟩
end
end Go.Proofs.Ytbddelefglhaaaa
namespace Go.Proofs.Ytbddelefglhaaaa
set_option linter.unusedVariables false
set_option linter.unusedSimpArgs false
set_option linter.unusedSectionVars false
open Go.RowKit
open Go.Maps (Keyed)
attribute [local go_sem ↓] Go.wp_at_zero Go.wp_at_succ
section
variable {w : World} {q : DevP} {D : Dev} (h : DevM w q D)
include h
omit h in
theorem conv_back (W : World) (g cap : Nat) (u : ByteArray) (hu : u.size = 140) (hc : ∀ j (hj : j < u.size), W.cell? ⟨g, j, none⟩ = some (.int .u8 (u[j].toNat : Int))) : (convert 75 9 (.slice (some ⟨g, 0, none⟩) 140 cap)).run Try.prog W = .ok (.string u) W := by
  have h := run_convert_bytes_back (P := Try.prog) W 75 9 5 ⟨g, 0, none⟩ cap u.data.toList Try.underlying75 Try.underlying5 Try.underlying9 (fun j hj => by
    have : (⟨g, 0, none⟩ : Addr).add j = ⟨g, j, none⟩ := by unfold Addr.add; split <;> simp_all
    rw [this]
    exact hc j (by rw [Array.length_toList] at hj; exact hj))
  have hl : u.data.toList.length = 140 := by rw [Array.length_toList]; exact hu
  rw [hl] at h
  exact h
end
end Go.Proofs.Ytbddelefglhaaaa
namespace Go.Proofs.Ytbddelefglhaaaa
set_option linter.unusedVariables false
set_option linter.unusedSimpArgs false
set_option linter.unusedSectionVars false
open Go.RowKit
/-- Bytes in memory, as a string. -/
theorem conv_is (W : World) (g cap n : Nat) (u : ByteArray) (hu : u.size = n) (hc : ∀ j (hj : j < u.size), W.cell? ⟨g, j, none⟩ = some (.int .u8 (u[j].toNat : Int))) : (convert 75 9 (.slice (some ⟨g, 0, none⟩) n cap)).run Try.prog W = .ok (.string u) W := by
  have h := run_convert_bytes_back (P := Try.prog) W 75 9 5 ⟨g, 0, none⟩ cap u.data.toList Try.underlying75 Try.underlying5 Try.underlying9 (fun j hj => by
    have : (⟨g, 0, none⟩ : Addr).add j = ⟨g, j, none⟩ := by unfold Addr.add; split <;> simp_all
    rw [this]
    exact hc j (by rw [Array.length_toList] at hj; exact hj))
  have hl : u.data.toList.length = n := by rw [Array.length_toList]; exact hu
  rw [hl] at h
  exact h
theorem conv_bytes (w : World) (x : BitVec 32) :
    (convert 75 9 (.slice (some ⟨w.heap.size, 0, none⟩) 4 4)).run Try.prog (w.alloc (.cells #[.int .u8 (u32 x % 256), .int .u8 (u32 x / 256 % 256), .int .u8 (u32 x / 65536 % 256), .int .u8 (u32 x / 16777216)] 5)) = .ok (.string (bytesS x)) (w.alloc (.cells #[.int .u8 (u32 x % 256), .int .u8 (u32 x / 256 % 256), .int .u8 (u32 x / 65536 % 256), .int .u8 (u32 x / 16777216)] 5)) := by
  refine conv_is _ _ 4 4 (bytesS x) (bytesS_size x) (fun j hj => ?_)
  rw [(Blk.new w 5 #[.int .u8 (u32 x % 256), .int .u8 (u32 x / 256 % 256), .int .u8 (u32 x / 65536 % 256), .int .u8 (u32 x / 16777216)] rfl).cell]
  have hx := x.isLt
  rw [bytesS_size] at hj
  unfold u32
  match j, hj with
  | 0, _ => show some (Value.int .u8 ((x.toNat : Int) % 256)) = some (Value.int .u8 ((b8 x.toNat).toNat : Int)); rw [b8_toNat]; rfl
  | 1, _ => show some (Value.int .u8 ((x.toNat : Int) / 256 % 256)) = some (Value.int .u8 ((b8 (x.toNat / 256)).toNat : Int)); rw [b8_toNat]; rfl
  | 2, _ => show some (Value.int .u8 ((x.toNat : Int) / 65536 % 256)) = some (Value.int .u8 ((b8 (x.toNat / 65536)).toNat : Int)); rw [b8_toNat]; rfl
  | 3, _ => show some (Value.int .u8 ((x.toNat : Int) / 16777216)) = some (Value.int .u8 ((b8 (x.toNat / 16777216)).toNat : Int)); rw [b8_toNat, Nat.mod_eq_of_lt (by omega)]; rfl
theorem or_nat (a b : Nat) (ha : a < 4294967296) (hb : b < 4294967296) : bits .or .u32 (a : Int) (b : Int) = ((a ||| b : Nat) : Int) := by
  have h1 : (a : Int) = u32 (BitVec.ofNat 32 a) := by unfold u32; rw [BitVec.toNat_ofNat, Nat.mod_eq_of_lt ha]
  have h2 : (b : Int) = u32 (BitVec.ofNat 32 b) := by unfold u32; rw [BitVec.toNat_ofNat, Nat.mod_eq_of_lt hb]
  rw [h1, h2, or_u32]
  unfold u32
  rw [BitVec.toNat_or, BitVec.toNat_ofNat, BitVec.toNat_ofNat, Nat.mod_eq_of_lt ha, Nat.mod_eq_of_lt hb]
theorem or_add (a b i : Nat) (h : a < 2 ^ i) : a ||| b * 2 ^ i = a + b * 2 ^ i := by
  have := Nat.shiftLeft_add_eq_or_of_lt h b
  rw [Nat.shiftLeft_eq] at this
  rw [Nat.or_comm, ← this, Nat.add_comm]
theorem num_walk (s : ByteArray) (h : s.size = 4) : bits .or .u32 (bits .or .u32 (bits .or .u32 (((s[0]'(by omega)).toNat : Int) % 4294967296) (((s[1]'(by omega)).toNat : Int) % 4294967296 * 256 % 4294967296)) (((s[2]'(by omega)).toNat : Int) % 4294967296 * 65536 % 4294967296)) (((s[3]'(by omega)).toNat : Int) % 4294967296 * 16777216 % 4294967296) = u32 (numS s) := by
  have e0 : (s[0]'(by omega)).toNat = at8 s 0 := by unfold at8; rw [Array.getD_eq_getD_getElem?, Array.getElem?_eq_getElem (show 0 < s.data.size from by show 0 < s.size; omega)]; rfl
  have e1 : (s[1]'(by omega)).toNat = at8 s 1 := by unfold at8; rw [Array.getD_eq_getD_getElem?, Array.getElem?_eq_getElem (show 1 < s.data.size from by show 1 < s.size; omega)]; rfl
  have e2 : (s[2]'(by omega)).toNat = at8 s 2 := by unfold at8; rw [Array.getD_eq_getD_getElem?, Array.getElem?_eq_getElem (show 2 < s.data.size from by show 2 < s.size; omega)]; rfl
  have e3 : (s[3]'(by omega)).toNat = at8 s 3 := by unfold at8; rw [Array.getD_eq_getD_getElem?, Array.getElem?_eq_getElem (show 3 < s.data.size from by show 3 < s.size; omega)]; rfl
  rw [e0, e1, e2, e3]
  unfold u32
  rw [numS_toNat]
  unfold numN
  rw [if_pos h]
  have h0 := at8_lt s 0
  have h1 := at8_lt s 1
  have h2 := at8_lt s 2
  have h3 := at8_lt s 3
  generalize at8 s 0 = a at *
  generalize at8 s 1 = b at *
  generalize at8 s 2 = c at *
  generalize at8 s 3 = d at *
  rw [show ((a : Int) % 4294967296) = ((a : Nat) : Int) from by omega, show ((b : Int) % 4294967296 * 256 % 4294967296) = ((b * 2 ^ 8 : Nat) : Int) from by omega, show ((c : Int) % 4294967296 * 65536 % 4294967296) = ((c * 2 ^ 16 : Nat) : Int) from by omega, show ((d : Int) % 4294967296 * 16777216 % 4294967296) = ((d * 2 ^ 24 : Nat) : Int) from by omega]
  rw [or_nat _ _ (by omega) (by omega), or_add _ _ 8 (by omega), or_nat _ _ (by omega) (by omega), or_add _ _ 16 (by omega), or_nat _ _ (by omega) (by omega), or_add _ _ 24 (by omega)]
  omega
theorem num_other (s : ByteArray) (h : ¬ s.size = 4) : numS s = 0#32 := by unfold numS numN; rw [if_neg h]
set_option maxRecDepth 100000 in
theorem sum_any (s : ByteArray) (hs : s.size ≤ 9223372036854775807) (w : World) : Calls Try.prog 60 #[.string s] w fun e w' => e = .returned (.int .u32 (u32 (sumS s))) ∧ Grew w w' := by
  have HU := Lib.hid (update_any 0#32 s hs w)
  go_enter Try.func60, Try.ntmps60
  go_wp2_with fail
  refine HU.out.mono ?_
  rintro e w1 ⟨rfl, g1⟩
  go_wp2_with fail
  go_ret
  exact ⟨rfl, g1⟩
set_option maxRecDepth 100000 in
theorem bytes_any (x : BitVec 32) (w : World) : Calls Try.prog 44 #[.int .u32 (u32 x)] w fun e w' => e = .returned (.string (bytesS x)) ∧ Grew w w' := by
  have hb := u32_bd x
  have hcv := conv_bytes w x
  go_enter Try.func44, Try.ntmps44
  go_wp2_with fail
  go_ret
  exact ⟨rfl, by (repeat' first | (with_reducible exact Grew.refl _) | (with_reducible assumption) | (with_reducible refine Grew.alloc ?_ _) | (with_reducible refine Grew.drew ?_) | (with_reducible refine Grew.drewN ?_ _) | (with_reducible refine Grew.setRow ?_ (by first | (simp; done) | (simp; omega) | omega) _) | (with_reducible refine Grew.setCell ?_ (by first | (simp; done) | (simp; omega) | omega) _) | ((with_reducible apply Grew.trans); rotate_left; (with_reducible assumption)) | ((with_reducible apply Grew.turn); rotate_left; (with_reducible assumption); (focus (intro i hi; first | omega | (simp at hi; omega)))) | fail)⟩
set_option maxRecDepth 100000 in
theorem number_any (s : ByteArray) (hs : s.size ≤ 9223372036854775807) (w : World) : Calls Try.prog 40 #[.string s] w fun e w' => e = .returned (.int .u32 (u32 (numS s))) ∧ Grew w w' := by
  by_cases h4 : s.size = 4
  · have hne : ((s.size : Int) != 4) = false := by rw [h4]; rfl
    have HN := Lib.hid (num_walk s h4)
    go_enter Try.func40, Try.ntmps40
    go_wp2_with fail
    go_quiet (fail)
    go_wp2_with fail
    go_ret
    exact ⟨ret_int HN.out, by (repeat' first | (with_reducible exact Grew.refl _) | (with_reducible assumption) | (with_reducible refine Grew.alloc ?_ _) | (with_reducible refine Grew.drew ?_) | (with_reducible refine Grew.drewN ?_ _) | (with_reducible refine Grew.setRow ?_ (by first | (simp; done) | (simp; omega) | omega) _) | (with_reducible refine Grew.setCell ?_ (by first | (simp; done) | (simp; omega) | omega) _) | ((with_reducible apply Grew.trans); rotate_left; (with_reducible assumption)) | ((with_reducible apply Grew.turn); rotate_left; (with_reducible assumption); (focus (intro i hi; first | omega | (simp at hi; omega)))) | fail)⟩
  · have hne : ((s.size : Int) != 4) = true := by simp; omega
    have HN := Lib.hid (num_other s h4)
    go_enter Try.func40, Try.ntmps40
    go_wp2_with fail
    go_ret
    exact ⟨by rw [HN.out]; rfl, by (repeat' first | (with_reducible exact Grew.refl _) | (with_reducible assumption) | (with_reducible refine Grew.alloc ?_ _) | (with_reducible refine Grew.drew ?_) | (with_reducible refine Grew.drewN ?_ _) | (with_reducible refine Grew.setRow ?_ (by first | (simp; done) | (simp; omega) | omega) _) | (with_reducible refine Grew.setCell ?_ (by first | (simp; done) | (simp; omega) | omega) _) | ((with_reducible apply Grew.trans); rotate_left; (with_reducible assumption)) | ((with_reducible apply Grew.turn); rotate_left; (with_reducible assumption); (focus (intro i hi; first | omega | (simp at hi; omega)))) | fail)⟩
end Go.Proofs.Ytbddelefglhaaaa
namespace Go.Proofs.Ytbddelefglhaaaa
set_option linter.unusedVariables false
set_option linter.unusedSimpArgs false
set_option linter.unusedSectionVars false
open Go.RowKit
/-- The values of the listed ones of M put. -/
def putL (vals : Nat → Value) (s : Nat → Bool) : List (Nat × Nat) → Act → Act
  | [], a => a
  | p :: M, a => putL vals s M (if s p.1 then a.put (some p.2) (vals p.1) else a)
def setL (s : Nat → Bool) : List (Nat × Nat) → Array Bool → Array Bool
  | [], l => l
  | p :: M, l => setL s M (if s p.1 then l.setIfInBounds p.1 true else l)
theorem put_comm (a : Act) (d d' : Nat) (v v' : Value) (h : d ≠ d') : (a.put (some d) v).put (some d') v' = (a.put (some d') v').put (some d) v := by
  simp only [Act.put]
  congr 1
  exact Array.setIfInBounds_comm _ _ h
theorem putL_put (vals : Nat → Value) (s : Nat → Bool) : ∀ (M : List (Nat × Nat)) (a : Act) (d : Nat) (v : Value), d ∉ M.map (·.2) → putL vals s M (a.put (some d) v) = (putL vals s M a).put (some d) v
  | [], _, _, _, _ => rfl
  | p :: M, a, d, v, h => by
    rw [List.map_cons, List.mem_cons, not_or] at h
    unfold putL
    cases hs : s p.1 with
    | false => simp only [Bool.false_eq_true, if_false]; exact putL_put vals s M a d v h.2
    | true => simp only [if_true]; rw [put_comm a d p.2 _ _ h.1]; exact putL_put vals s M _ d v h.2
theorem putL_congr (vals vals' : Nat → Value) (s s' : Nat → Bool) : ∀ (M : List (Nat × Nat)) (a : Act), (∀ p ∈ M, s p.1 = s' p.1 ∧ (s p.1 = true → vals p.1 = vals' p.1)) → putL vals s M a = putL vals' s' M a
  | [], _, _ => rfl
  | p :: M, a, h => by
    unfold putL
    have h1 := h p (List.mem_cons_self ..)
    rw [putL_congr vals vals' s s' M _ (fun q hq => h q (List.mem_cons_of_mem _ hq)), ← h1.1]
    cases hs : s p.1 with
    | false => rfl
    | true => rw [h1.2 hs]
theorem putL_upd (vals : Nat → Value) (s : Nat → Bool) (i d : Nat) (v : Value) : ∀ (M : List (Nat × Nat)) (a : Act), (i, d) ∈ M → (M.map (·.1)).Nodup → (M.map (·.2)).Nodup → s i = false →
    putL (fun j => if j = i then v else vals j) (fun j => if j = i then true else s j) M a = (putL vals s M a).put (some d) v
  | [], _, h, _, _, _ => by cases h
  | p :: M, a, h, h1, h2, hs => by
    rw [List.map_cons, List.nodup_cons] at h1 h2
    rcases List.mem_cons.1 h with h | h
    · subst h
      unfold putL
      simp only [if_true, hs, Bool.false_eq_true, if_false]
      rw [putL_congr _ vals _ s M _ (fun q hq => ?_), putL_put vals s M a d v h2.1]
      have : q.1 ≠ i := fun e => h1.1 (List.mem_map.2 ⟨q, hq, e⟩)
      simp [this]
    · have hne : p.1 ≠ i := fun e => h1.1 (by rw [e]; exact List.mem_map.2 ⟨(i, d), h, rfl⟩)
      unfold putL
      rw [if_neg hne, if_neg hne]
      exact putL_upd vals s i d v M _ h h1.2 h2.2 hs
theorem putL_eval (vals : Nat → Value) (s : Nat → Bool) (t : Nat) : ∀ (M : List (Nat × Nat)) (a : Act), t ∉ M.map (·.2) → (putL vals s M a).tmps.getD t undef = a.tmps.getD t undef
  | [], _, _ => rfl
  | p :: M, a, h => by
    rw [List.map_cons, List.mem_cons, not_or] at h
    unfold putL
    rw [putL_eval vals s t M _ h.2]
    cases s p.1 with
    | false => rfl
    | true =>
      simp only [if_true, Act.put]
      simp only [Array.getD_eq_getD_getElem?]
      rw [Array.getElem?_setIfInBounds_ne (fun e => h.1 e.symm)]
theorem setL_set (s : Nat → Bool) : ∀ (M : List (Nat × Nat)) (l : Array Bool) (i : Nat), setL s M (l.setIfInBounds i true) = (setL s M l).setIfInBounds i true
  | [], _, _ => rfl
  | p :: M, l, i => by
    unfold setL
    cases s p.1 with
    | false => exact setL_set s M l i
    | true =>
      simp only [if_true]
      by_cases h : i = p.1
      · subst h; rw [setL_set s M (l.setIfInBounds p.1 true) p.1]
      · rw [Array.setIfInBounds_comm _ _ h]; exact setL_set s M _ i
theorem setL_congr (s s' : Nat → Bool) : ∀ (M : List (Nat × Nat)) (l : Array Bool), (∀ p ∈ M, s p.1 = s' p.1) → setL s M l = setL s' M l
  | [], _, _ => rfl
  | p :: M, l, h => by
    unfold setL
    rw [h p (List.mem_cons_self ..)]
    exact setL_congr s s' M _ (fun q hq => h q (List.mem_cons_of_mem _ hq))
theorem setL_upd (s : Nat → Bool) (i d : Nat) : ∀ (M : List (Nat × Nat)) (l : Array Bool), (i, d) ∈ M → (M.map (·.1)).Nodup → s i = false → setL (fun j => if j = i then true else s j) M l = (setL s M l).setIfInBounds i true
  | [], _, h, _, _ => by cases h
  | p :: M, l, h, h1, hs => by
    rw [List.map_cons, List.nodup_cons] at h1
    rcases List.mem_cons.1 h with h | h
    · subst h
      unfold setL
      simp only [if_true, hs, Bool.false_eq_true, if_false]
      rw [setL_congr _ s M _ (fun q hq => ?_), setL_set]
      have : q.1 ≠ i := fun e => h1.1 (List.mem_map.2 ⟨q, hq, e⟩)
      simp [this]
    · have hne : p.1 ≠ i := fun e => h1.1 (by rw [e]; exact List.mem_map.2 ⟨(i, d), h, rfl⟩)
      unfold setL
      rw [if_neg hne]
      exact setL_upd s i d M _ h h1.2 hs
def subsL : List (Nat × Nat) → List (List (Nat × Nat))
  | [] => [[]]
  | p :: M => subsL M ++ (subsL M).map (p :: ·)
theorem mem_subsL (q : Nat × Nat → Bool) : ∀ M, M.filter q ∈ subsL M
  | [] => List.mem_singleton.2 rfl
  | p :: M => by
    unfold subsL
    rw [List.filter_cons]
    cases q p with
    | false => exact List.mem_append_left _ (mem_subsL q M)
    | true => exact List.mem_append_right _ (List.mem_map_of_mem (mem_subsL q M))
def parB (md : Region.Mode) (ops : Array Oper) (listed : Array Bool) (M : List (Nat × Nat)) : Bool :=
  decide (M.map (·.1)).Nodup && decide (M.map (·.2)).Nodup && (M.all fun p => (match ops[p.1]? with | some o => o.dst == some p.2 | none => false)) &&
  (subsL M).all fun t => t.length == M.length || Region.ready md ops (setL (fun i => (t.map (·.1)).contains i) M listed) == (M.filter fun p => !(t.map (·.1)).contains p.1).map (·.1)
section
variable {P : Program} {ops : Array Oper} {Q : Exit → Act → World → Prop} {md : Region.Mode} {S : World → Prop}
theorem filter_none {α : Type} (p : α → Bool) (l : List α) (h : (l.filter fun x => !p x) = []) : ∀ x ∈ l, p x = true := by
  intro x hx
  rw [List.filter_eq_nil_iff] at h
  have := h x hx
  simpa using this
theorem filter_split {α : Type} (p : α → Bool) : ∀ l : List α, (l.filter p).length + (l.filter fun x => !p x).length = l.length
  | [] => rfl
  | x :: l => by have := filter_split p l; cases hp : p x <;> simp [List.filter_cons, hp] <;> omega
/-- The operations of M come up in whatever order; what each yields lasts while memory grows. -/
theorem wpAnyR_par {N fuel : Nat} {listed : Array Bool} {a : Act} {w : World} {al : List Nat} (M : List (Nat × Nat)) (R : Nat → Value → World → Prop) (hN : N = fuel + M.length) (hB : parB md ops listed M = true)
    (hst : ∀ i v w1 w2, Grew w1 w2 → R i v w1 → R i v w2) (hSt : ∀ w1 w2, Grew w1 w2 → S w1 → S w2)
    (hstep : ∀ p ∈ M, ∀ (a' : Act) (w' : World), Grew w w' → (∀ t, t ∉ M.map (·.2) → a'.tmps.getD t undef = a.tmps.getD t undef) → ∀ K' : Act → World → Prop, Shut (∀ v w'', Grew w' w'' → R p.1 v w'' → K' (a'.put (some p.2) v) w'') →
      ∃ o, ops[p.1]? = some o ∧ if Region.wanted o (yielded ops a'.tmps) = true then Oper.wp P o a' w' K' Q else K' (a'.put o.dst undef) w')
    (hend : ∀ (vals : Nat → Value) w', Grew w w' → (∀ p ∈ M, R p.1 (vals p.1) w') → wpAnyR P md ops Q al.contains S fuel (setL (fun _ => true) M listed) (putL vals (fun _ => true) M a) w') :
    wpAnyR P md ops Q al.contains S N listed a w := by
  unfold parB at hB
  simp only [Bool.and_eq_true, decide_eq_true_eq] at hB
  obtain ⟨⟨⟨hn1, hn2⟩, hd⟩, hsub⟩ := hB
  have hready : ∀ s : Nat → Bool, (M.filter fun p => !s p.1) ≠ [] → Region.ready md ops (setL s M listed) = (M.filter fun p => !s p.1).map (·.1) := by
    intro s hne
    have h1 := List.all_eq_true.1 hsub _ (mem_subsL (fun p => s p.1) M)
    have hmem : ∀ p ∈ M, ((M.filter fun p => s p.1).map (·.1)).contains p.1 = s p.1 := by
      intro p hp
      rw [Bool.eq_iff_iff, List.contains_iff_mem, List.mem_map]
      constructor
      · rintro ⟨q, hq, e⟩
        rw [← e]; exact (List.mem_filter.1 hq).2
      · intro h; exact ⟨p, List.mem_filter.2 ⟨hp, h⟩, rfl⟩
    rw [Bool.or_eq_true] at h1
    rcases h1 with h1 | h1
    · exfalso
      have h2 := filter_split (fun p : Nat × Nat => s p.1) M
      rw [beq_iff_eq] at h1
      exact hne (List.length_eq_zero_iff.1 (by omega))
    · rw [beq_iff_eq] at h1
      rw [setL_congr s _ M listed (fun p hp => (hmem p hp).symm), h1]
      congr 1
      exact List.filter_congr (fun p hp => by rw [hmem p hp])
  have key : ∀ (k : Nat) (s : Nat → Bool) (vals : Nat → Value) (w' : World), (M.filter fun p => !s p.1).length = k → Grew w w' → (∀ p ∈ M, s p.1 = true → R p.1 (vals p.1) w') →
      wpAnyR P md ops Q al.contains S (fuel + k) (setL s M listed) (putL vals s M a) w' := by
    intro k
    induction k with
    | zero =>
      intro s vals w' hk hg hR
      have hall := filter_none (fun p : Nat × Nat => s p.1) M (List.length_eq_zero_iff.1 hk)
      rw [setL_congr s (fun _ => true) M listed (fun p hp => hall p hp), putL_congr vals vals s (fun _ => true) M a (fun p hp => ⟨hall p hp, fun _ => rfl⟩)]
      exact hend vals w' hg (fun p hp => hR p hp (hall p hp))
    | succ k ih =>
      intro s vals w' hk hg hR
      have hne : (M.filter fun p => !s p.1) ≠ [] := fun e => by rw [e] at hk; cases hk
      have hr := hready s hne
      refine ⟨fun h => absurd (hr ▸ h) (by simp at hne ⊢; exact hne), fun i hi => ?_⟩
      rw [hr] at hi
      obtain ⟨p, hp, rfl⟩ := List.mem_map.1 hi
      obtain ⟨hpM, hps⟩ := List.mem_filter.1 hp
      rw [Bool.not_eq_true'] at hps
      obtain ⟨i, d⟩ := p
      have hoi : ∃ o, ops[i]? = some o := by
        have := List.all_eq_true.1 hd _ hpM
        cases h : ops[i]? with
        | none => simp [h] at this
        | some o => exact ⟨o, rfl⟩
      obtain ⟨o, ho⟩ := hoi
      refine wpOp_step ho (fun K' hK => ?_)
      have hstep' := hstep (i, d) hpM (putL vals s M a) w' hg (fun t ht => putL_eval vals s t M a ht) K' (fun v w'' hg2 hRv => by
        refine hK _ _ ⟨.inr (fun h => hSt _ _ hg2 h), ?_⟩
        have hcnt : (M.filter fun p => !(if p.1 = i then true else s p.1)).length = k := by
          have e1 : ∀ M' : List (Nat × Nat), (i, d) ∈ M' → (M'.map (·.1)).Nodup → (M'.filter fun p => !(if p.1 = i then true else s p.1)).length + 1 = (M'.filter fun p => !s p.1).length := by
            intro M'
            induction M' with
            | nil => intro h; cases h
            | cons q M' ihM =>
              intro h hnd
              rw [List.map_cons, List.nodup_cons] at hnd
              rcases List.mem_cons.1 h with h | h
              · subst h
                have e2 : (M'.filter fun p => !(if p.1 = i then true else s p.1)) = M'.filter fun p => !s p.1 := List.filter_congr (fun q hq => by
                  have : q.1 ≠ i := fun e => hnd.1 (List.mem_map.2 ⟨q, hq, e⟩)
                  rw [if_neg this])
                rw [List.filter_cons, List.filter_cons, e2]
                simp [hps]
              · have hne : q.1 ≠ i := fun e => hnd.1 (by rw [e]; exact List.mem_map.2 ⟨(i, d), h, rfl⟩)
                have := ihM h hnd.2
                rw [List.filter_cons, List.filter_cons]
                simp only [hne, if_false]
                cases s q.1 with
                | false => simp only [Bool.not_false, if_true, List.length_cons]; omega
                | true => simp only [Bool.not_true, Bool.false_eq_true, if_false]; exact this
          have := e1 M hpM hn1
          omega
        have := ih (fun j => if j = i then true else s j) (fun j => if j = i then v else vals j) w'' hcnt (hg.trans hg2) (fun p hp hs => by
          by_cases hpi : p.1 = i
          · simp only [hpi, if_true]; exact hRv
          · simp only [hpi, if_false] at hs ⊢; exact hst _ _ _ _ hg2 (hR p hp hs))
        rw [setL_upd s i d M listed hpM hn1 hps, putL_upd vals s i d v M a hpM hn1 hn2 hps] at this
        exact this)
      obtain ⟨o', ho', h⟩ := hstep'
      rw [ho] at ho'
      injection ho' with ho'
      subst ho'
      exact h
  subst hN
  have h0 := key M.length (fun _ => false) (fun _ => undef) w (by rw [show (M.filter fun p => !false) = M from List.filter_eq_self.2 (fun _ _ => rfl)]) (Grew.refl w) (fun _ _ h => by cases h)
  have e1 : ∀ (M : List (Nat × Nat)) (l : Array Bool), setL (fun _ => false) M l = l := by
    intro M
    induction M with
    | nil => intro l; rfl
    | cons p M ih => intro l; unfold setL; exact ih l
  have e2 : ∀ (M : List (Nat × Nat)) (a : Act), putL (fun _ => undef) (fun _ => false) M a = a := by
    intro M
    induction M with
    | nil => intro l; rfl
    | cons p M ih => intro l; unfold putL; exact ih l
  rwa [e1, e2] at h0
end
end Go.Proofs.Ytbddelefglhaaaa
namespace Go.Proofs.Ytbddelefglhaaaa
set_option linter.unusedVariables false
set_option linter.unusedSimpArgs false
set_option linter.unusedSectionVars false
open Go.RowKit
/-- A function of the program itself. -/
def Enters (P : Program) (f : FuncId) : Prop := ∀ (args : Array Value) (w : World), (callFunc f args).run P w = .ok (.enter f args) w
theorem enters_of {P : Program} {f : FuncId} {fn : Func} (hf : P.funcs[f]? = some fn) (hname : (fn.name == "runtime.NumGoroutine") = false) (hb : fn.body.isNone = false) : Enters P f := by
  intro args w
  have h1 : ¬ fn.name = "runtime.NumGoroutine" := by simpa using hname
  have h2 : ¬ fn.body = none := by intro e; rw [e] at hb; cases hb
  unfold callFunc
  simp [hf, h1, h2, go_sem]
section
variable {P : Program} {ops : Array Oper} {Q : Exit → Act → World → Prop} {md : Region.Mode} {S : World → Prop}
end
end Go.Proofs.Ytbddelefglhaaaa
namespace Go.Proofs.Ytbddelefglhaaaa
set_option linter.unusedVariables false
set_option linter.unusedSimpArgs false
set_option linter.unusedSectionVars false
open Go.RowKit
open Go.Maps (Keyed)
attribute [local go_sem ↓] Go.wp_at_zero Go.wp_at_succ
theorem wp_make {o : Oper} {a : Act} {w w' : World} {K : Act → World → Prop} {Q : Exit → Act → World → Prop} (t : TypeId) (x y : Operand) (hop : o.op = .makeSlice t x y) {vx vy v : Value} (hx : a.eval x = vx) (hy : a.eval y = vy) (hrun : (Instr.makeSlice t vx vy).run Try.prog w = .ok v w') (h : K (a.put o.dst v) w') : o.wp Try.prog a w K Q := by
  unfold Oper.wp
  simp [execOp, hop, hx, hy, hrun, Result.andThen]
  exact h
theorem wp_makeMap {o : Oper} {a : Act} {w : World} {K : Act → World → Prop} {Q : Exit → Act → World → Prop} (t : TypeId) (hop : o.op = .makeMap t none) (h : K (a.put o.dst (.map (some w.heap.size))) (w.alloc (.map #[] 0))) : o.wp Try.prog a w K Q := by
  have hr := run_makeMap (P := Try.prog) t w
  unfold Oper.wp
  simp [execOp, hop, hr, Result.andThen]
  exact h
theorem info_strs : (Try.prog.info? 37).map (fun i => (i.zero, i.size, i.bytes)) = some (some (.slice none 0 0), 1, 24) := by kernel_rfl
theorem info_u8 : (Try.prog.info? 5).map (fun i => (i.zero, i.size, i.bytes)) = some (some (.int .u8 0), 1, 1) := by kernel_rfl
def zeros (n : Nat) : ByteArray := ⟨(List.replicate n (0 : UInt8)).toArray⟩
def blank : ByteArray := zeros 140
theorem blank_size : blank.size = 140 := by simp [blank, zeros, ByteArray.size]
theorem zeros_at (n j : Nat) (hj : j < (zeros n).size) : (zeros n)[j] = 0 := by
  have h' : j < ((List.replicate n (0 : UInt8)).toArray).size := hj
  have : ((List.replicate n (0 : UInt8)).toArray)[j]'h' = 0 := by simp
  exact this
theorem blank_at (j : Nat) (hj : j < blank.size) : blank[j] = 0 := zeros_at 140 j hj
def newD (n : Nat) : Dev := ⟨List.replicate n blank, List.replicate n [], [], fun _ => 0, none, false⟩
theorem newD_ok (n : Nat) (h1 : 1 ≤ n) (h2 : n ≤ 1155) : (newD n).Ok := by
  refine ⟨by simp [newD], by simpa [newD] using h1, by simpa [newD] using h2, fun s hs => ?_, fun l hl => ?_, fun r hr => (by cases hr), fun s => (by show (0 : Int) ≤ 0 ∧ (0 : Int) ≤ _; omega)⟩
  · rw [(List.mem_replicate.1 hs).2]; exact blank_size
  · rw [(List.mem_replicate.1 hl).2]; simp
/-- What New's parts are. -/
def NewR (w : World) (n : Nat) (i : Nat) (v : Value) (w' : World) : Prop :=
  (i = 1 → OwnL w' w.heap.size 9 1 v (List.replicate n [.string ⟨#[]⟩])) ∧ (i = 3 → OwnL w' w.heap.size 37 1 v (List.replicate n [.slice none 0 0])) ∧ (i = 4 → ∃ m, v = .map (some m) ∧ w.heap.size ≤ m ∧ MapI w' m (fun _ => none))
theorem NewR.grew {w : World} {n i : Nat} {v : Value} {w1 w2 : World} (hg : Grew w1 w2) (h : NewR w n i v w1) : NewR w n i v w2 := by
  refine ⟨fun hi => (h.1 hi).grew hg, fun hi => (h.2.1 hi).grew hg, fun hi => ?_⟩
  obtain ⟨m, h1, h2, h3⟩ := h.2.2 hi
  exact ⟨m, h1, h2, h3.grew hg⟩
set_option maxRecDepth 100000 in
set_option maxHeartbeats 8000000 in
theorem new_any (n : Nat) (w : World) (h1 : 1 ≤ n) (h2 : n ≤ 1155) : Calls Try.prog 47 #[.int .i64 (n : Int)] w fun e w' => ∃ x q, e = .returned (.tuple #[.pointer (some ⟨x, 0, none⟩), .int .i64 0]) ∧ q.x = x ∧ DevM w' q (newD n) ∧ Grew w w' ∧ ∀ k, q.feet k → w.heap.size ≤ k := by
  have hS : (fun _ : World => True) w.drew := trivial
  go_enter Try.func47, Try.ntmps47
  go_wp2_with fail
  refine wp_region_R [] (fun _ : World => True) (by kernel_rfl) ?_
  refine wpAnyR_takeQ (i := 0) (v := ?_) (some 13) rfl rfl (by kernel_rfl) (by kernel_rfl) (by kernel_rfl) (by kernel_rfl) (fun _ _ _ h => h) (Or.inl ⟨by rfl, ?_⟩) ?_
  rotate_left
  focus (intro wS hSw; (try dsimp only at hSw); go_simp; (try with_reducible rfl); (try (first | (rw [if_pos (by omega)]; (try go_simp); (try with_reducible rfl)) | (rw [if_neg (by omega)]; (try go_simp); (try with_reducible rfl)))))
  try simp only [Act.put, List.setIfInBounds_toArray, List.set_cons_zero, List.set_cons_succ]
  refine wpAnyR_takeQ (i := 2) (v := ?_) (some 15) rfl rfl (by kernel_rfl) (by kernel_rfl) (by kernel_rfl) (by kernel_rfl) (fun _ _ _ h => h) (Or.inl ⟨by rfl, ?_⟩) ?_
  rotate_left
  focus (intro wS hSw; (try dsimp only at hSw); go_simp; (try with_reducible rfl); (try (first | (rw [if_pos (by omega)]; (try go_simp); (try with_reducible rfl)) | (rw [if_neg (by omega)]; (try go_simp); (try with_reducible rfl)))))
  try simp only [Act.put, List.setIfInBounds_toArray, List.set_cons_zero, List.set_cons_succ]
  refine wpAnyR_par [(1, 14), (3, 16), (4, 17)] (NewR w n) (fuel := 3) rfl (by kernel_rfl) (fun i v w1 w2 hg h => h.grew hg) (fun _ _ _ _ => trivial) ?_ ?_
  · intro p hp a' w' hg hev K' hK
    have e13 : a'.eval (.tmp 13) = .int .i64 (n : Int) := (hev 13 (by decide)).trans rfl
    have e15 : a'.eval (.tmp 15) = .int .i64 (n : Int) := (hev 15 (by decide)).trans rfl
    rcases List.mem_cons.1 hp with rfl | hp
    · refine ⟨_, rfl, ?_⟩
      rw [if_pos (by rfl)]
      refine wp_make 37 (.tmp 13) (.tmp 13) rfl e13 e13 (made_one w' n Try.underlying37 info_str rfl (by omega) (by omega)) ?_
      refine hK.out _ _ ((Grew.refl w').alloc _) ⟨fun _ => OwnL.made w' w.heap.size _ n _ hg.size (by omega) rfl, fun h => absurd h (by decide), fun h => absurd h (by decide)⟩
    · rcases List.mem_cons.1 hp with rfl | hp
      · refine ⟨_, rfl, ?_⟩
        rw [if_pos (by rfl)]
        refine wp_make 111 (.tmp 15) (.tmp 15) rfl e15 e15 (made_one w' n Try.underlying111 info_strs rfl (by omega) (by omega)) ?_
        refine hK.out _ _ ((Grew.refl w').alloc _) ⟨fun h => absurd h (by decide), fun _ => OwnL.made w' w.heap.size _ n _ hg.size (by omega) rfl, fun h => absurd h (by decide)⟩
      · obtain rfl := List.mem_singleton.1 hp
        refine ⟨_, rfl, ?_⟩
        rw [if_pos (by rfl)]
        refine wp_makeMap 113 rfl ?_
        exact hK.out _ _ ((Grew.refl w').alloc _) ⟨fun h => absurd h (by decide), fun h => absurd h (by decide), fun _ => ⟨w'.heap.size, rfl, hg.size, MapIs.made w' rfl⟩⟩
  · intro vals w1 hg1 hR
    have h3 := (hR (1, 14) (by decide)).1 rfl
    have h4 := (hR (3, 16) (by decide)).2.1 rfl
    obtain ⟨m, h5, h6, h7⟩ := (hR (4, 17) (by decide)).2.2 rfl
    clear hS
    have hS : (fun _ : World => True) w1 := trivial
    simp only [putL, setL, if_true, Act.put, List.setIfInBounds_toArray, List.set_cons_zero, List.set_cons_succ]
    generalize vals 1 = v1 at *
    generalize vals 3 = v3 at *
    rw [h5]
    clear h5 hR
    obtain ⟨g1, c1, rfl, hb1, hl1, hn1, hc1⟩ : ∃ g c, v1 = .slice (some ⟨g, 0, none⟩) n c ∧ w.heap.size ≤ g ∧ g < w1.heap.size ∧ n ≤ c ∧ c ≤ 9223372036854775807 := by
      rcases h3.form with ⟨_, h0⟩ | ⟨g, c, e1, e2, e3, e4, e5⟩
      · have := congrArg List.length h0; simp at this; omega
      · rw [List.length_replicate] at e1 e4; exact ⟨g, c, e1, e2, e3, e4, e5⟩
    obtain ⟨g3, c3, rfl, hb3, hl3, hn3, hc3⟩ : ∃ g c, v3 = .slice (some ⟨g, 0, none⟩) n c ∧ w.heap.size ≤ g ∧ g < w1.heap.size ∧ n ≤ c ∧ c ≤ 9223372036854775807 := by
      rcases h4.form with ⟨_, h0⟩ | ⟨g, c, e1, e2, e3, e4, e5⟩
      · have := congrArg List.length h0; simp at this; omega
      · rw [List.length_replicate] at e1 e4; exact ⟨g, c, e1, e2, e3, e4, e5⟩
    have H3 := Lib.hid h3
    have H4 := Lib.hid h4
    have H7 := Lib.hid h7
    have HG1 := Lib.hid hg1
    clear h3 h4 h7 hg1
    refine wpAnyR_takeQ (i := 5) (v := ?_) (some 18) rfl rfl (by kernel_rfl) (by kernel_rfl) (by kernel_rfl) (by kernel_rfl) (fun _ _ _ h => h) (Or.inl ⟨by rfl, ?_⟩) ?_
    rotate_left
    focus (intro wS hSw; (try dsimp only at hSw); go_simp; (try with_reducible rfl); (try (first | (rw [if_pos (by omega)]; (try go_simp); (try with_reducible rfl)) | (rw [if_neg (by omega)]; (try go_simp); (try with_reducible rfl)))))
    try simp only [Act.put, List.setIfInBounds_toArray, List.set_cons_zero, List.set_cons_succ]
    refine wpAnyR_n1 (i := 6) rfl (by kernel_rfl) ?_
    intro K' hK
    rw [if_pos (by rfl)]
    simp only [List.getElem_toArray, List.getElem_cons_succ, List.getElem_cons_zero]
    go_wp2_with fail
    refine hK.out _ _ (.inr (fun h => h)) ?_
    clear hK hS
    have hS : (fun _ : World => True) w1 := trivial
    refine wpAnyR_takeQ (i := 7) (v := ?_) (some 4) rfl rfl (by kernel_rfl) (by kernel_rfl) (by kernel_rfl) (by kernel_rfl) (fun _ _ _ h => h) (Or.inl ⟨by rfl, ?_⟩) ?_
    rotate_left
    focus (intro wS hSw; (try dsimp only at hSw); go_simp; (try with_reducible rfl); (try (first | (rw [if_pos (by omega)]; (try go_simp); (try with_reducible rfl)) | (rw [if_neg (by omega)]; (try go_simp); (try with_reducible rfl)))))
    try simp only [Act.put, List.setIfInBounds_toArray, List.set_cons_zero, List.set_cons_succ]
    refine wpAnyR_done (by kernel_rfl) ?_ _
    clear hS
    have hbx := Blk.new w1 117 #[.slice (some ⟨g1, 0, none⟩) n c1, .slice (some ⟨g3, 0, none⟩) n c3, .slice none 0 0, .map (some m), .bool false, .int .i64 0, .slice none 0 0, .bool false] rfl
    have hg2 := (Grew.refl w1).alloc (.cells #[.slice (some ⟨g1, 0, none⟩) n c1, .slice (some ⟨g3, 0, none⟩) n c3, .slice none 0 0, .map (some m), .bool false, .int .i64 0, .slice none 0 0, .bool false] 117)
    obtain ⟨w2, hw2⟩ : ∃ w2, w2 = w1.alloc (.cells #[.slice (some ⟨g1, 0, none⟩) n c1, .slice (some ⟨g3, 0, none⟩) n c3, .slice none 0 0, .map (some m), .bool false, .int .i64 0, .slice none 0 0, .bool false] 117) := ⟨_, rfl⟩
    rw [← hw2] at hbx hg2 ⊢
    clear hw2
    have hmk := made_one w2 140 Try.underlying75 info_u8 rfl (by omega) (by omega)
    have hcv := conv_back (w2.alloc (.cells (Array.replicate 140 (.int .u8 0)) 5)) w2.heap.size 140 blank blank_size (fun j hj => by
      rw [cell_of_row _ w2.heap.size j _ _ _ (heap_alloc_new w2 _), Array.getElem?_replicate, if_pos (by rw [blank_size] at hj; exact hj)]
      rw [blank_at j hj]; rfl)
    have hg3 := hg2.alloc (.cells (Array.replicate 140 (.int .u8 0)) 5)
    have hb3 := hbx.alloc (.cells (Array.replicate 140 (.int .u8 0)) 5)
    have hxl := hb3.lt
    have x0 := hb3.cell 0
    have H3' := Lib.hid (H3.out.grew hg3)
    have HB3 := Lib.hid hb3
    have HG3 := Lib.hid hg3
    have hx1 : w1.heap.size < w2.heap.size := hbx.lt
    clear hbx hg2 hb3 hg3
    have hmk' : (Instr.makeSlice 75 (.int .i64 140) (.int .i64 140)).run Try.prog w2 = .ok (.slice (some ⟨w2.heap.size, 0, none⟩) 140 140) (w2.alloc (.cells (Array.replicate 140 (.int .u8 0)) 5)) := hmk
    clear hmk
    generalize hwc : w2.alloc (.cells (Array.replicate 140 (.int .u8 0)) 5) = w3 at *
    have hz3 : w3.heap.size = w2.heap.size + 1 := by rw [← hwc]; simp
    clear hwc
    go_wp2_with fail
    go_loopg [27] n (fun gk iv wr => ∃ j : Nat, j ≤ n ∧ gk = n - j ∧ iv = .int .i64 (j : Int) ∧ OwnL wr w.heap.size 9 1 (.slice (some ⟨g1, 0, none⟩) n c1) ((List.replicate j blank ++ List.replicate (n - j) emp).map strC) ∧ Turned (fun k => k = g1) w3 wr)
    case atStart => exact ⟨0, by omega, rfl, rfl, by rw [List.replicate_zero, List.nil_append, List.map_replicate]; exact H3'.out, Turned.refl _ _⟩
    case round =>
      obtain ⟨j, hj, hgk, rfl, hor, htr⟩ := hrel
      have HGK := Lib.hid hgk
      have HTR := Lib.hid htr
      have HOR := Lib.hid hor
      have hzr := htr.size
      have hxg : ¬ w1.heap.size = g1 := by omega
      have hbr := HB3.out.turned htr hxg
      have xr0 := hbr.cell 0
      have hxr := hbr.lt
      clear hgk hbr x0
      by_cases hlt : j < n
      · have hrow : ((List.replicate j blank ++ List.replicate (n - j) emp).map strC)[j]? = some (strC emp) := by
          rw [List.getElem?_map, List.getElem?_append_right (by simp), List.length_replicate, Nat.sub_self, List.getElem?_replicate, if_pos (by omega)]; rfl
        have c0 := hor.cell (i := 0) hrow rfl
        rw [Nat.mul_one, Nat.add_zero] at c0
        have f0 := hor.frozen j
        have hs := hor.set_ (j := j) (i := 0) (o := j) hrow (by omega) (by omega) (.string blank)
        have he : ((List.replicate j blank ++ List.replicate (n - j) emp).map strC).set j ((strC emp).set 0 (.string blank)) = (List.replicate (j + 1) blank ++ List.replicate (n - (j + 1)) emp).map strC := by
          rw [show (strC emp).set 0 (.string blank) = strC blank from rfl, ← List.map_set]
          congr 1
          rw [List.set_append_right _ _ (by simp), List.length_replicate, Nat.sub_self, show n - j = (n - (j + 1)) + 1 by omega, List.replicate_succ, List.set_cons_zero, List.replicate_succ', List.append_assoc]
          rfl
        rw [he] at hs
        have HS := Lib.hid hs
        clear hs he hrow hor htr
        go_wp2_with fail
        go_roundg (n - (j + 1))
        case measure => rw [HGK.out]; omega
        case rel => exact ⟨j + 1, by omega, by omega, by go_num, HS.out, HTR.out.setCell (p := ⟨g1, j, none⟩) (fun _ => rfl) _⟩
      · obtain rfl : j = n := by omega
        have hor' := hor
        rw [Nat.sub_self, List.replicate_zero, List.append_nil] at hor'
        have HO' := Lib.hid hor'
        clear hor hor' htr
        go_wp2_with fail
        go_ret2
        have hgg : Grew w w1 := (Grew.refl w).drew.trans HG1.out
        have hgr3 : Grew w1 wr → True := fun _ => trivial
        have ht13 : Turned (fun k => k = g1) w1 wr := (HG3.out.turned _).trans HTR.out
        have hne13 : g3 ≠ g1 := by
          have h1 := H3.out
          have h2 := H4.out
          intro e
          exact own_own_ne h1 h2 (by decide) g1 rfl (by rw [e]; rfl)
        have hmne : m ≠ g1 := fun e => own_map_ne H3.out H7.out (by rw [e]; rfl)
        refine ⟨w1.heap.size, ⟨w1.heap.size, m, .slice (some ⟨g1, 0, none⟩) j c1, .slice (some ⟨g3, 0, none⟩) j c3, .slice none 0 0, .slice none 0 0, List.replicate j (.slice none 0 0), false, 0, [], fun _ => none⟩, rfl, rfl, ?_, ?_, ?_⟩
        · refine ⟨HB3.out.turned HTR.out hxg, HO'.out.base0, ?_, by simp [newD], fun i v l hv hl => ?_, OwnL.nil _ _ _ _, OwnL.nil _ _ _ _, H7.out.turned ht13 hmne, fun s _ _ => .inl ⟨rfl, rfl⟩, rfl, (by show (0 : Int) ≤ 0 ∧ (0 : Int) ≤ _; omega), ⟨fun n hn => (by cases hn), Nat.zero_le _⟩, newD_ok j h1 h2⟩
          · rw [List.map_replicate]
            exact H4.out.base0.kept ht13 (fun g hg e => hne13 (by injection hg with hg; exact hg.trans e))
          · have hv' := (List.mem_replicate.1 (List.mem_of_getElem? hv)).2
            have hl' := (List.mem_replicate.1 (List.mem_of_getElem? hl)).2
            subst hv'; subst hl'
            exact ⟨OwnL.nil _ _ _ _, fun g hg => (by cases hg)⟩
        · exact hgg.turn ht13 (fun k hk => by omega)
        · intro k hk
          rcases hk with hk | hk | hk | hk | hk | hk | ⟨v, hv, hk⟩
          · rw [hk]; exact hgg.size
          · rw [hk]; exact h6
          · injection hk with hk; subst hk; exact hb1
          · injection hk with hk; subst hk; exact hb3
          · cases hk
          · cases hk
          · rw [(List.mem_replicate.1 hv).2] at hk; cases hk
end Go.Proofs.Ytbddelefglhaaaa
namespace Go.Proofs.Ytbddelefglhaaaa
set_option linter.unusedVariables false
set_option linter.unusedSimpArgs false
set_option linter.unusedSectionVars false
open Go.RowKit
open Go.Maps (Keyed)
attribute [local go_sem ↓] Go.wp_at_zero Go.wp_at_succ
/-- What Clone's parts are. -/
def CloR (w : World) (n : Nat) (pend : List Wr) (i : Nat) (v : Value) (w' : World) : Prop :=
  (i = 5 → OwnL w' w.heap.size 9 1 v (List.replicate n [.string ⟨#[]⟩])) ∧ (i = 11 → OwnL w' w.heap.size 37 1 v (List.replicate n [.slice none 0 0])) ∧ (i = 16 → OwnL w' w.heap.size 140 3 v (pend.map wrC)) ∧ (i = 17 → ∃ m, v = .map (some m) ∧ w.heap.size ≤ m ∧ MapI w' m (fun _ => none))
theorem CloR.grew {w : World} {n i : Nat} {pend : List Wr} {v : Value} {w1 w2 : World} (hg : Grew w1 w2) (h : CloR w n pend i v w1) : CloR w n pend i v w2 := by
  refine ⟨fun hi => (h.1 hi).grew hg, fun hi => (h.2.1 hi).grew hg, fun hi => (h.2.2.1 hi).grew hg, fun hi => ?_⟩
  obtain ⟨m, h1, h2, h3⟩ := h.2.2.2 hi
  exact ⟨m, h1, h2, h3.grew hg⟩
end Go.Proofs.Ytbddelefglhaaaa
namespace Go.Proofs.Ytbddelefglhaaaa
set_option linter.unusedVariables false
set_option linter.unusedSimpArgs false
set_option linter.unusedSectionVars false
open Go.RowKit
attribute [local go_sem ↓] Go.wp_at_zero Go.wp_at_succ
set_option maxRecDepth 100000 in
theorem seal_any (s : ByteArray) (hs : s.size ≤ 1000000) (w : World) : Calls Try.prog 43 #[.string s] w fun e w' => e = .returned (.string (sealS s)) ∧ Grew w w' := by
  have HU := Lib.hid (sum_any s (by omega))
  have HB := Lib.hid (bytes_any (sumS s))
  have hz := bytesS_size (sumS s)
  go_enter Try.func43, Try.ntmps43
  go_wp2_with fail
  refine (HU.out _).mono ?_
  rintro e w1 ⟨rfl, g1⟩
  go_wp2_with fail
  refine (HB.out _).mono ?_
  rintro e w2 ⟨rfl, g2⟩
  go_wp2_with fail
  go_ret
  exact ⟨rfl, g1.trans g2⟩
/-- The bytes of a sealed text. -/
def openS (s : ByteArray) : ByteArray × Int := if 4 ≤ s.size ∧ numS (s.extract (s.size - 4) s.size) = sumS (s.extract 0 (s.size - 4)) then (s.extract 0 (s.size - 4), 0) else (⟨#[]⟩, 11)
theorem openS_yes (s : ByteArray) (n : Nat) (h4 : 4 ≤ s.size) (hn : s.size - 4 = n) (h : numS (s.extract n s.size) = sumS (s.extract 0 n)) : openS s = (s.extract 0 n, 0) := by
  subst hn; unfold openS; rw [if_pos ⟨h4, h⟩]
theorem openS_no (s : ByteArray) (n : Nat) (hn : s.size - 4 = n) (h : ¬ numS (s.extract n s.size) = sumS (s.extract 0 n)) : openS s = (⟨#[]⟩, 11) := by
  subst hn; unfold openS; rw [if_neg (fun e => h e.2)]
set_option maxRecDepth 100000 in
set_option maxHeartbeats 400000 in
theorem open_any (s : ByteArray) (hs : s.size ≤ 1000000) (w : World) (t : ByteArray) (er : Int) (hr : openS s = (t, er)) : Calls Try.prog 39 #[.string s] w fun e w' => e = .returned (.tuple #[.string t, .int .i64 er]) ∧ Grew w w' := by
  by_cases h4 : 4 ≤ s.size
  · obtain ⟨n, hn⟩ : ∃ n, s.size - 4 = n := ⟨_, rfl⟩
    have hni : (s.size : Int) - 4 = (n : Int) := by omega
    have hd : decide ((n : Int) < 0) = false := by simp
    have HN := Lib.hid (number_any (s.extract n s.size) (by rw [ByteArray.size_extract]; omega))
    have HS := Lib.hid (sum_any (s.extract 0 n) (by rw [ByteArray.size_extract]; omega))
    obtain ⟨p, hp⟩ : ∃ p, numS (s.extract n s.size) = p := ⟨_, rfl⟩
    obtain ⟨q, hq⟩ : ∃ q, sumS (s.extract 0 n) = q := ⟨_, rfl⟩
    rw [hp] at HN
    rw [hq] at HS
    have HY := Lib.hid (openS_yes s n h4 hn)
    have HZ := Lib.hid (openS_no s n hn)
    rw [hp, hq] at HY HZ
    have HR := Lib.hid hr
    clear hp hq hr
    have hx : 0 ≤ n ∧ n ≤ s.size := by omega
    clear hn
    go_enter Try.func39, Try.ntmps39
    go_wp2_with fail
    refine wp_region_R [] (fun w' : World => True) (by kernel_rfl) ?_
    have hS := trivial
    refine wpAnyR_takeQ (i := 0) (v := ?_) (some 8) rfl rfl (by kernel_rfl) (by kernel_rfl) (by kernel_rfl) (by kernel_rfl) (fun _ _ _ h => h) (Or.inl ⟨by rfl, ?_⟩) ?_
    rotate_left
    focus (intro wS hSw; (try dsimp only at hSw); go_simp; (try with_reducible rfl); (try (first | (rw [if_pos (by omega)]; (try go_simp); (try with_reducible rfl)) | (rw [if_neg (by omega)]; (try go_simp); (try with_reducible rfl)))))
    try simp only [Act.put, List.setIfInBounds_toArray, List.set_cons_zero, List.set_cons_succ]
    refine wpAnyR_takeQ (i := 1) (v := ?_) (some 9) rfl rfl (by kernel_rfl) (by kernel_rfl) (by kernel_rfl) (by kernel_rfl) (fun _ _ _ h => h) (Or.inl ⟨by rfl, ?_⟩) ?_
    rotate_left
    focus (intro wS hSw; (try dsimp only at hSw); go_simp; (try with_reducible rfl); (try (first | (rw [if_pos (by omega)]; (try go_simp); (try with_reducible rfl)) | (rw [if_neg (by omega)]; (try go_simp); (try with_reducible rfl)))))
    try simp only [Act.put, List.setIfInBounds_toArray, List.set_cons_zero, List.set_cons_succ]
    refine wpAnyR_takeQ (i := 2) (v := ?_) (some 10) rfl rfl (by kernel_rfl) (by kernel_rfl) (by kernel_rfl) (by kernel_rfl) (fun _ _ _ h => h) (Or.inl ⟨by rfl, ?_⟩) ?_
    rotate_left
    focus (intro wS hSw; (try dsimp only at hSw); go_simp; (try with_reducible rfl); (try (first | (rw [if_pos (by omega)]; (try go_simp); (try with_reducible rfl)) | (rw [if_neg (by omega)]; (try go_simp); (try with_reducible rfl)))))
    try simp only [Act.put, List.setIfInBounds_toArray, List.set_cons_zero, List.set_cons_succ]
    refine wpAnyR_takeQ (i := 3) (v := ?_) (some 11) rfl rfl (by kernel_rfl) (by kernel_rfl) (by kernel_rfl) (by kernel_rfl) (fun _ _ _ h => h) (Or.inl ⟨by rfl, ?_⟩) ?_
    rotate_left
    focus (intro wS hSw; (try dsimp only at hSw); go_simp; (try with_reducible rfl); (try (first | (rw [if_pos (by omega)]; (try go_simp); (try with_reducible rfl)) | (rw [if_neg (by omega)]; (try go_simp); (try with_reducible rfl)))))
    try simp only [Act.put, List.setIfInBounds_toArray, List.set_cons_zero, List.set_cons_succ]
    refine wpAnyR_takeQ (i := 4) (v := ?_) (some 12) rfl rfl (by kernel_rfl) (by kernel_rfl) (by kernel_rfl) (by kernel_rfl) (fun _ _ _ h => h) (Or.inl ⟨by rfl, ?_⟩) ?_
    rotate_left
    focus (intro wS hSw; (try dsimp only at hSw); go_simp; (try with_reducible rfl); (try (first | (rw [if_pos (by omega)]; (try go_simp); (try with_reducible rfl)) | (rw [if_neg (by omega)]; (try go_simp); (try with_reducible rfl)))))
    try simp only [Act.put, List.setIfInBounds_toArray, List.set_cons_zero, List.set_cons_succ]
    refine wpAnyR_takeQ (i := 5) (v := ?_) (some 13) rfl rfl (by kernel_rfl) (by kernel_rfl) (by kernel_rfl) (by kernel_rfl) (fun _ _ _ h => h) (Or.inl ⟨by rfl, ?_⟩) ?_
    rotate_left
    focus (intro wS hSw; (try dsimp only at hSw); go_simp; (try with_reducible rfl); (try (first | (rw [if_pos (by omega)]; (try go_simp); (try with_reducible rfl)) | (rw [if_neg (by omega)]; (try go_simp); (try with_reducible rfl)))))
    try simp only [Act.put, List.setIfInBounds_toArray, List.set_cons_zero, List.set_cons_succ]
    refine wpAnyR_takeQ (i := 7) (v := ?_) (some 15) rfl rfl (by kernel_rfl) (by kernel_rfl) (by kernel_rfl) (by kernel_rfl) (fun _ _ _ h => h) (Or.inl ⟨by rfl, ?_⟩) ?_
    rotate_left
    focus (intro wS hSw; (try dsimp only at hSw); go_simp; (try with_reducible rfl); (try (first | (rw [if_pos (by omega)]; (try go_simp); (try with_reducible rfl)) | (rw [if_neg (by omega)]; (try go_simp); (try with_reducible rfl)))))
    try simp only [Act.put, List.setIfInBounds_toArray, List.set_cons_zero, List.set_cons_succ]
    refine wpAnyR_takeQ (i := 8) (v := ?_) (some 16) rfl rfl (by kernel_rfl) (by kernel_rfl) (by kernel_rfl) (by kernel_rfl) (fun _ _ _ h => h) (Or.inl ⟨by rfl, ?_⟩) ?_
    rotate_left
    focus (intro wS hSw; (try dsimp only at hSw); go_simp; (try with_reducible rfl); (try (first | (rw [if_pos (by omega)]; (try go_simp); (try with_reducible rfl)) | (rw [if_neg (by omega)]; (try go_simp); (try with_reducible rfl)))))
    try simp only [Act.put, List.setIfInBounds_toArray, List.set_cons_zero, List.set_cons_succ]
    refine wpAnyR_takeQ (i := 9) (v := ?_) (some 17) rfl rfl (by kernel_rfl) (by kernel_rfl) (by kernel_rfl) (by kernel_rfl) (fun _ _ _ h => h) (Or.inl ⟨by rfl, ?_⟩) ?_
    rotate_left
    focus (intro wS hSw; (try dsimp only at hSw); go_simp; (try with_reducible rfl); (try (first | (rw [if_pos (by omega)]; (try go_simp); (try with_reducible rfl)) | (rw [if_neg (by omega)]; (try go_simp); (try with_reducible rfl)))))
    try simp only [Act.put, List.setIfInBounds_toArray, List.set_cons_zero, List.set_cons_succ]
    refine wpAnyR_n1 (i := 6) rfl (by kernel_rfl) ?_
    intro K' hK
    rw [if_pos (by rfl)]
    simp only [List.getElem_toArray, List.getElem_cons_succ, List.getElem_cons_zero]
    go_wp2_with fail
    refine (HN.out _).mono ?_
    rintro e w1 ⟨rfl, g1⟩
    go_wp2_with fail
    refine hK.out _ _ (.inr id) ?_
    clear hK
    refine wpAnyR_n1 (i := 10) rfl (by kernel_rfl) ?_
    intro K' hK
    rw [if_pos (by rfl)]
    simp only [List.getElem_toArray, List.getElem_cons_succ, List.getElem_cons_zero]
    go_wp2_with fail
    refine (HS.out _).mono ?_
    rintro e w2 ⟨rfl, g2⟩
    go_wp2_with fail
    refine hK.out _ _ (.inr id) ?_
    clear hK
    refine wpAnyR_takeQ (i := 11) (v := ?_) (some 19) rfl rfl (by kernel_rfl) (by kernel_rfl) (by kernel_rfl) (by kernel_rfl) (fun _ _ _ h => h) (Or.inl ⟨by rfl, ?_⟩) ?_
    rotate_left
    focus (intro wS hSw; (try dsimp only at hSw); go_simp; (try with_reducible rfl); (try (first | (rw [if_pos (by omega)]; (try go_simp); (try with_reducible rfl)) | (rw [if_neg (by omega)]; (try go_simp); (try with_reducible rfl)))))
    try simp only [Act.put, List.setIfInBounds_toArray, List.set_cons_zero, List.set_cons_succ]
    refine wpAnyR_takeQ (i := 12) (v := ?_) (some 20) rfl rfl (by kernel_rfl) (by kernel_rfl) (by kernel_rfl) (by kernel_rfl) (fun _ _ _ h => h) (Or.inl ⟨by rfl, ?_⟩) ?_
    rotate_left
    focus (intro wS hSw; (try dsimp only at hSw); go_simp; (try with_reducible rfl); (try (first | (rw [if_pos (by omega)]; (try go_simp); (try with_reducible rfl)) | (rw [if_neg (by omega)]; (try go_simp); (try with_reducible rfl)))))
    try simp only [Act.put, List.setIfInBounds_toArray, List.set_cons_zero, List.set_cons_succ]
    refine wpAnyR_done (by kernel_rfl) ?_ _
    have hg : Grew w w2 := ((Grew.refl w).drew.trans g1).trans g2
    by_cases hpq : p = q
    · have hb : (u32 p != u32 q) = false := by rw [hpq]; simp
      have h1 := HR.out
      rw [HY.out hpq] at h1
      injection h1 with h1 h2
      subst h1; subst h2
      clear hpq
      go_wp2_with fail
      go_ret2
      exact ⟨rfl, hg⟩
    · have hb : (u32 p != u32 q) = true := by rw [bne_iff_ne]; exact fun e => hpq (u32_inj e)
      have h1 := HR.out
      rw [HZ.out hpq] at h1
      injection h1 with h1 h2
      subst h1; subst h2
      clear hpq
      go_wp2_with fail
      go_ret2
      exact ⟨rfl, hg⟩
  · have hd : decide ((s.size : Int) - 4 < 0) = true := by simp; omega
    have h1 : openS s = (⟨#[]⟩, 11) := by unfold openS; rw [if_neg (fun e => h4 e.1)]
    rw [h1] at hr
    injection hr with h1 h2
    subst h1; subst h2
    go_enter Try.func39, Try.ntmps39
    go_wp2_with fail
    refine wp_region_R [] (fun w' : World => True) (by kernel_rfl) ?_
    have hS := trivial
    refine wpAnyR_takeQ (i := 0) (v := ?_) (some 8) rfl rfl (by kernel_rfl) (by kernel_rfl) (by kernel_rfl) (by kernel_rfl) (fun _ _ _ h => h) (Or.inl ⟨by rfl, ?_⟩) ?_
    rotate_left
    focus (intro wS hSw; (try dsimp only at hSw); go_simp; (try with_reducible rfl); (try (first | (rw [if_pos (by omega)]; (try go_simp); (try with_reducible rfl)) | (rw [if_neg (by omega)]; (try go_simp); (try with_reducible rfl)))))
    try simp only [Act.put, List.setIfInBounds_toArray, List.set_cons_zero, List.set_cons_succ]
    refine wpAnyR_takeQ (i := 1) (v := ?_) (some 9) rfl rfl (by kernel_rfl) (by kernel_rfl) (by kernel_rfl) (by kernel_rfl) (fun _ _ _ h => h) (Or.inl ⟨by rfl, ?_⟩) ?_
    rotate_left
    focus (intro wS hSw; (try dsimp only at hSw); go_simp; (try with_reducible rfl); (try (first | (rw [if_pos (by omega)]; (try go_simp); (try with_reducible rfl)) | (rw [if_neg (by omega)]; (try go_simp); (try with_reducible rfl)))))
    try simp only [Act.put, List.setIfInBounds_toArray, List.set_cons_zero, List.set_cons_succ]
    refine wpAnyR_takeQ (i := 2) (v := ?_) (some 10) rfl rfl (by kernel_rfl) (by kernel_rfl) (by kernel_rfl) (by kernel_rfl) (fun _ _ _ h => h) (Or.inl ⟨by rfl, ?_⟩) ?_
    rotate_left
    focus (intro wS hSw; (try dsimp only at hSw); go_simp; (try with_reducible rfl); (try (first | (rw [if_pos (by omega)]; (try go_simp); (try with_reducible rfl)) | (rw [if_neg (by omega)]; (try go_simp); (try with_reducible rfl)))))
    try simp only [Act.put, List.setIfInBounds_toArray, List.set_cons_zero, List.set_cons_succ]
    refine wpAnyR_takeQ (i := 3) (v := undef) (some 11) rfl rfl (by kernel_rfl) (by kernel_rfl) (by kernel_rfl) (by kernel_rfl) (fun _ _ _ h => h) (Or.inr ⟨by rfl, rfl⟩) ?_
    try simp only [Act.put, List.setIfInBounds_toArray, List.set_cons_zero, List.set_cons_succ]
    refine wpAnyR_takeQ (i := 4) (v := undef) (some 12) rfl rfl (by kernel_rfl) (by kernel_rfl) (by kernel_rfl) (by kernel_rfl) (fun _ _ _ h => h) (Or.inr ⟨by rfl, rfl⟩) ?_
    try simp only [Act.put, List.setIfInBounds_toArray, List.set_cons_zero, List.set_cons_succ]
    refine wpAnyR_takeQ (i := 5) (v := undef) (some 13) rfl rfl (by kernel_rfl) (by kernel_rfl) (by kernel_rfl) (by kernel_rfl) (fun _ _ _ h => h) (Or.inr ⟨by rfl, rfl⟩) ?_
    try simp only [Act.put, List.setIfInBounds_toArray, List.set_cons_zero, List.set_cons_succ]
    refine wpAnyR_takeQ (i := 6) (v := undef) (some 14) rfl rfl (by kernel_rfl) (by kernel_rfl) (by kernel_rfl) (by kernel_rfl) (fun _ _ _ h => h) (Or.inr ⟨by rfl, rfl⟩) ?_
    try simp only [Act.put, List.setIfInBounds_toArray, List.set_cons_zero, List.set_cons_succ]
    refine wpAnyR_takeQ (i := 7) (v := undef) (some 15) rfl rfl (by kernel_rfl) (by kernel_rfl) (by kernel_rfl) (by kernel_rfl) (fun _ _ _ h => h) (Or.inr ⟨by rfl, rfl⟩) ?_
    try simp only [Act.put, List.setIfInBounds_toArray, List.set_cons_zero, List.set_cons_succ]
    refine wpAnyR_takeQ (i := 8) (v := undef) (some 16) rfl rfl (by kernel_rfl) (by kernel_rfl) (by kernel_rfl) (by kernel_rfl) (fun _ _ _ h => h) (Or.inr ⟨by rfl, rfl⟩) ?_
    try simp only [Act.put, List.setIfInBounds_toArray, List.set_cons_zero, List.set_cons_succ]
    refine wpAnyR_takeQ (i := 9) (v := undef) (some 17) rfl rfl (by kernel_rfl) (by kernel_rfl) (by kernel_rfl) (by kernel_rfl) (fun _ _ _ h => h) (Or.inr ⟨by rfl, rfl⟩) ?_
    try simp only [Act.put, List.setIfInBounds_toArray, List.set_cons_zero, List.set_cons_succ]
    refine wpAnyR_takeQ (i := 10) (v := undef) (some 18) rfl rfl (by kernel_rfl) (by kernel_rfl) (by kernel_rfl) (by kernel_rfl) (fun _ _ _ h => h) (Or.inr ⟨by rfl, rfl⟩) ?_
    try simp only [Act.put, List.setIfInBounds_toArray, List.set_cons_zero, List.set_cons_succ]
    refine wpAnyR_takeQ (i := 11) (v := undef) (some 19) rfl rfl (by kernel_rfl) (by kernel_rfl) (by kernel_rfl) (by kernel_rfl) (fun _ _ _ h => h) (Or.inr ⟨by rfl, rfl⟩) ?_
    try simp only [Act.put, List.setIfInBounds_toArray, List.set_cons_zero, List.set_cons_succ]
    refine wpAnyR_takeQ (i := 12) (v := ?_) (some 20) rfl rfl (by kernel_rfl) (by kernel_rfl) (by kernel_rfl) (by kernel_rfl) (fun _ _ _ h => h) (Or.inl ⟨by rfl, ?_⟩) ?_
    rotate_left
    focus (intro wS hSw; (try dsimp only at hSw); go_simp; (try with_reducible rfl); (try (first | (rw [if_pos (by omega)]; (try go_simp); (try with_reducible rfl)) | (rw [if_neg (by omega)]; (try go_simp); (try with_reducible rfl)))))
    try simp only [Act.put, List.setIfInBounds_toArray, List.set_cons_zero, List.set_cons_succ]
    refine wpAnyR_done (by kernel_rfl) ?_ _
    go_wp2_with fail
    go_ret2
    exact ⟨rfl, by (repeat' first | (with_reducible exact Grew.refl _) | (with_reducible assumption) | (with_reducible refine Grew.alloc ?_ _) | (with_reducible refine Grew.drew ?_) | (with_reducible refine Grew.drewN ?_ _) | (with_reducible refine Grew.setRow ?_ (by first | (simp; done) | (simp; omega) | omega) _) | (with_reducible refine Grew.setCell ?_ (by first | (simp; done) | (simp; omega) | omega) _) | ((with_reducible apply Grew.trans); rotate_left; (with_reducible assumption)) | ((with_reducible apply Grew.turn); rotate_left; (with_reducible assumption); (focus (intro i hi; first | omega | (simp at hi; omega)))) | fail)⟩
end Go.Proofs.Ytbddelefglhaaaa
namespace Go.Proofs.Ytbddelefglhaaaa
set_option linter.unusedVariables false
set_option linter.unusedSimpArgs false
set_option linter.unusedSectionVars false
open Go.RowKit
attribute [local go_sem ↓] Go.wp_at_zero Go.wp_at_succ
theorem info_u8c : (Try.prog.info? 5).map (fun i => (i.zero, i.size, i.bytes)) = some (some (.int .u8 0), 1, 1) := by kernel_rfl
theorem info_u8z : (Try.prog.info? 5).map (·.size) = some 1 := by kernel_rfl
def cellB (b : UInt8) : Value := .int .u8 (b.toNat : Int)
/-- The cells of bytes. -/
def cellsB (s : ByteArray) : Array Value := (s.data.toList.map cellB).toArray
theorem cellsB_size (s : ByteArray) : (cellsB s).size = s.size := by simp [cellsB]
set_option maxRecDepth 100000 in
theorem made_bytes (w : World) (n : Nat) (hn : n ≤ 1000000) : (Instr.makeSlice 75 (.int .i64 (n : Int)) (.int .i64 (n : Int))).run Try.prog w = .ok (.slice (some ⟨w.heap.size, 0, none⟩) n n) (w.alloc (.cells (cellsB (zeroS n)) 5)) := by
  obtain ⟨i, hi, hz0, hz1, hz2⟩ := info_parts info_u8c
  have h := run_make (P := Try.prog) w 75 5 i _ Try.underlying75 hi hz0 .i64 .i64 (n : Int) (n : Int) (by omega) (by omega) (by rw [hz2]; omega) (by omega)
  rw [hz1] at h
  simp only [Int.toNat_natCast, Nat.mul_one] at h
  rw [h]
  congr 3
  unfold madeCells
  apply Array.ext
  · simp [cellsB, zeroS]
  · intro j h1 h2
    simp [Value.cells, Nat.mod_one, cellsB, zeroS, cellB]
theorem conv_cells (W : World) (g n : Nat) (s : ByteArray) (hs : s.size = n) (hb : Blk W g 5 (cellsB s)) : (convert 75 9 (.slice (some ⟨g, 0, none⟩) n n)).run Try.prog W = .ok (.string s) W := by
  refine conv_is W g n n s hs (fun j hj => ?_)
  rw [hb.cell]
  unfold cellsB
  have h2 : j < s.data.size := hj
  simp [cellB]
  exact ⟨s[j], Array.getElem?_eq_getElem h2, rfl⟩
/-- 'copy(b, s)' over bytes of the call's own, s a string. -/
theorem wpList_copy_cut {W : World} {ops : Array Oper} {rest : List Oper} {o : Oper} {a : Act} {Q : Exit → Act → World → Prop} (hgd : o.guard = none) (d x : Operand)
    (ho : o.op = .call { callee := .builtin .copy, args := #[d, x], argTypes := #[75, 9] }) (g n c : Nat) (s u : ByteArray) (hd : a.eval d = .slice (some ⟨g, 0, none⟩) n c) (hx : a.eval x = .string s) (hb : Blk W g 5 (cellsB u)) (hn : u.size = n)
    (h : wpList Try.prog ops Q rest (a.put o.dst (.int .i64 (min s.size n : Nat))) (W.setRow g (cellsB (s.extract 0 n ++ u.extract s.size n)))) : wpList Try.prog ops Q (o :: rest) a W := by
  have hmin : Nat.min s.size n = min s.size n := rfl
  have hlen : ((s.data.toList.map cellB).take (min s.size n)).length = min s.size n := by
    rw [List.length_take, List.length_map]
    have : s.data.toList.length = s.size := rfl
    omega
  have hst := run_storeCells_at Try.prog g 0 5 ((s.data.toList.map cellB).take (min s.size n)) 0 (cellsB u) W hb (by rw [hlen, cellsB_size]; omega) (by
    intro v hv
    have := List.mem_of_mem_take hv
    obtain ⟨b, _, rfl⟩ := List.mem_map.1 this
    rfl)
  have hrow : ((cellsB u).toList.take (0 + 0) ++ (s.data.toList.map cellB).take (min s.size n) ++ (cellsB u).toList.drop (0 + 0 + ((s.data.toList.map cellB).take (min s.size n)).length)).toArray = cellsB (s.extract 0 n ++ u.extract s.size n) := by
    rw [hlen]
    unfold cellsB
    congr 1
    simp only [Nat.add_zero, Nat.zero_add, List.take_zero, List.nil_append, ByteArray.data_append, Array.toList_append, List.map_append, ByteArray.data_extract]
    have e1 : s.data.size = s.size := rfl
    have e2 : u.data.size = u.size := rfl
    congr 1
    · simp [Array.toList_extract, List.map_take]
      omega
    · simp [Array.toList_extract, List.map_drop]
      rw [List.take_of_length_le (by simp; omega)]
      by_cases hle : s.size ≤ n
      · rw [Nat.min_eq_left hle]
      · rw [Nat.min_eq_right (by omega), List.drop_of_length_le (by simp; omega), List.drop_of_length_le (by simp; omega)]
  rw [hrow] at hst
  refine wpList_plain hgd fun K' hK => ?_
  have hrun : (Builtin.copy_ #[75, 9] o.type #[.slice (some ⟨g, 0, none⟩) n c, .string s]).run Try.prog W = .ok (goInt (min (s.size : Int) (n : Int))) (W.setRow g (cellsB (s.extract 0 n ++ u.extract s.size n))) := by
    obtain ⟨i, hi, hz⟩ : ∃ i, Try.prog.info? 5 = some i ∧ i.size = 1 := by
      have := info_u8z
      cases hq : Try.prog.info? 5 with
      | none => rw [hq] at this; cases this
      | some i => rw [hq] at this; exact ⟨i, rfl, by simpa using this⟩
    have hst' : (storeCells ⟨g, 0, none⟩ (List.take (min s.size n) (List.map (fun b : UInt8 => Value.int IntKind.u8 (b.toNat : Int)) s.data.toList)) 0).run Try.prog W = .ok () (W.setRow g (cellsB (s.extract 0 n ++ u.extract s.size n))) := hst
    have hu := Try.underlying75
    have hcast : ((min s.size n : Nat) : Int) = min (s.size : Int) (n : Int) := by omega
    simp [Builtin.copy_, run_underlying hu, Builtin.lenOf, Builtin.firstCells, sizeOf, typeInfo, hi, hz, hst', hmin]
    rw [hcast]
  unfold Oper.wp
  simp [execOp, ho, resolve, invoke, builtin, hd, hx, hrun, Result.andThen]
  have hm2 : goInt (min (s.size : Int) (n : Int)) = .int .i64 ((min s.size n : Nat) : Int) := by rw [show min (s.size : Int) (n : Int) = ((min s.size n : Nat) : Int) from by omega]; rfl
  rw [hm2]
  exact hK _ _ h
theorem u32_idx (i : Int) : u32 (idx32 i) = i % 4294967296 := by
  unfold u32 idx32
  rw [BitVec.toNat_ofInt]
  omega
theorem wrap_idx (i : Int) : IntKind.u32.wrap i = u32 (idx32 i) := by
  rw [u32_idx]
  simp only [IntKind.wrap, IntKind.signed, IntKind.bits]
  simp
theorem zero_rest (n k : Nat) : (zeroS n).extract k n = zeroS (n - k) := by
  apply ByteArray.ext
  rw [ByteArray.data_extract]
  unfold zeroS
  simp only [List.extract_toArray]
  congr 1
  simp [List.extract]
theorem pad_data (d : ByteArray) : d.extract 0 128 ++ (zeroS 128).extract d.size 128 = dataS d := by rw [zero_rest]; rfl
set_option maxRecDepth 100000 in
set_option maxHeartbeats 1000000 in
theorem pack_any (d : ByteArray) (v : BitVec 32) (i : Int) (w : World) (hd : d.size ≤ 9223372036854775807) (hi : okI i) :
    Calls Try.prog 13 #[.string d, .int .u32 (u32 v), .int .i64 i] w fun e w' => e = .returned (.string (packS d v i)) ∧ Grew w w' := by
  have hb0 : Blk (w.alloc (.cells (cellsB (zeroS 128)) 5)) w.heap.size 5 (cellsB (zeroS 128)) := Blk.new w _ _ rfl
  have hmk : (Instr.makeSlice 75 (.int .i64 128) (.int .i64 128)).run Try.prog w = _ := made_bytes w 128 (by omega)
  have hbd := wrap_idx i
  have hz1 := dataS_size d
  have hz2 := bytesS_size v
  have hz3 := bytesS_size (idx32 i)
  have HS := Lib.hid (seal_any (bodyR d v i) (by rw [bodyR_size]; omega))
  have HB1 := Lib.hid (bytes_any v)
  have HB2 := Lib.hid (bytes_any (idx32 i))
  unfold okI at hi
  unfold bodyR at HS
  go_enter Try.func13, Try.ntmps13
  go_wp2_with (with_reducible refine wpList_copy_cut rfl _ _ rfl _ 128 128 d (zeroS 128) rfl rfl hb0 (zeroS_size 128) ?_)
  rw [pad_data]
  have hb1 : Blk ((w.alloc (.cells (cellsB (zeroS 128)) 5)).setRow w.heap.size (cellsB (dataS d))) w.heap.size 5 (cellsB (dataS d)) := hb0.setRow _
  have hg1 : Grew w ((w.alloc (.cells (cellsB (zeroS 128)) 5)).setRow w.heap.size (cellsB (dataS d))) := by (repeat' first | (with_reducible exact Grew.refl _) | (with_reducible assumption) | (with_reducible refine Grew.alloc ?_ _) | (with_reducible refine Grew.drew ?_) | (with_reducible refine Grew.drewN ?_ _) | (with_reducible refine Grew.setRow ?_ (by first | (simp; done) | (simp; omega) | omega) _) | (with_reducible refine Grew.setCell ?_ (by first | (simp; done) | (simp; omega) | omega) _) | ((with_reducible apply Grew.trans); rotate_left; (with_reducible assumption)) | ((with_reducible apply Grew.turn); rotate_left; (with_reducible assumption); (focus (intro i hi; first | omega | (simp at hi; omega)))) | fail)
  obtain ⟨W1, hW1⟩ : ∃ W1, W1 = (w.alloc (.cells (cellsB (zeroS 128)) 5)).setRow w.heap.size (cellsB (dataS d)) := ⟨_, rfl⟩
  rw [← hW1] at hb1 hg1 ⊢
  clear hW1 hb0 hmk
  simp only [Act.put, List.setIfInBounds_toArray, List.set_cons_zero, List.set_cons_succ]
  go_wp2_with fail
  refine wp_region_R [] (fun w' : World => (convert 75 9 (.slice (some ⟨w.heap.size, 0, none⟩) 128 128)).run Try.prog w' = .ok (.string (dataS d)) w') (by kernel_rfl) ?_
  have hS := (show (fun w' : World => (convert 75 9 (.slice (some ⟨w.heap.size, 0, none⟩) 128 128)).run Try.prog w' = .ok (.string (dataS d)) w') W1.drew from conv_cells _ _ _ _ hz1 hb1.drew)
  refine wpAnyR_takeQ (i := 0) (v := ?_) (some 12) rfl rfl (by kernel_rfl) (by kernel_rfl) (by kernel_rfl) (by kernel_rfl) (fun _ _ _ h => h) (Or.inl ⟨by rfl, ?_⟩) ?_
  rotate_left
  focus (intro wS hSw; (try dsimp only at hSw); go_simp; (try with_reducible rfl); (try (first | (rw [if_pos (by omega)]; (try go_simp); (try with_reducible rfl)) | (rw [if_neg (by omega)]; (try go_simp); (try with_reducible rfl)))))
  try simp only [Act.put, List.setIfInBounds_toArray, List.set_cons_zero, List.set_cons_succ]
  refine wpAnyR_take (i := 1) (v := ?_) [4, 8, 9, 10] (some 13) rfl rfl (by kernel_rfl) (by kernel_rfl) (by kernel_rfl) (by kernel_rfl) (by kernel_rfl) (by kernel_rfl) (by kernel_rfl) (fun _ _ _ h => h) (Or.inl ⟨by rfl, ?_⟩) hS ?_
  rotate_left
  focus (intro wS hSw; (try dsimp only at hSw); go_simp; (try with_reducible rfl); (try (first | (rw [if_pos (by omega)]; (try go_simp); (try with_reducible rfl)) | (rw [if_neg (by omega)]; (try go_simp); (try with_reducible rfl)))))
  try simp only [Act.put, List.setIfInBounds_toArray, List.set_cons_zero, List.set_cons_succ]
  refine wpAnyR_takeQ (i := 2) (v := ?_) (some 14) rfl rfl (by kernel_rfl) (by kernel_rfl) (by kernel_rfl) (by kernel_rfl) (fun _ _ _ h => h) (Or.inl ⟨by rfl, ?_⟩) ?_
  rotate_left
  focus (intro wS hSw; (try dsimp only at hSw); go_simp; (try with_reducible rfl); (try (first | (rw [if_pos (by omega)]; (try go_simp); (try with_reducible rfl)) | (rw [if_neg (by omega)]; (try go_simp); (try with_reducible rfl)))))
  try simp only [Act.put, List.setIfInBounds_toArray, List.set_cons_zero, List.set_cons_succ]
  refine wpAnyR_takeQ (i := 5) (v := ?_) (some 17) rfl rfl (by kernel_rfl) (by kernel_rfl) (by kernel_rfl) (by kernel_rfl) (fun _ _ _ h => h) (Or.inl ⟨by rfl, ?_⟩) ?_
  rotate_left
  focus (intro wS hSw; (try dsimp only at hSw); go_simp; (try with_reducible rfl); (try (first | (rw [if_pos (by omega)]; (try go_simp); (try with_reducible rfl)) | (rw [if_neg (by omega)]; (try go_simp); (try with_reducible rfl)))))
  try simp only [Act.put, List.setIfInBounds_toArray, List.set_cons_zero, List.set_cons_succ]
  refine wpAnyR_take (i := 6) (v := ?_) [7, 8, 9, 10] (some 18) rfl rfl (by kernel_rfl) (by kernel_rfl) (by kernel_rfl) (by kernel_rfl) (by kernel_rfl) (by kernel_rfl) (by kernel_rfl) (fun _ _ _ h => h) (Or.inl ⟨by rfl, ?_⟩) hS ?_
  rotate_left
  focus (intro wS hSw; (try dsimp only at hSw); go_simp; (try with_reducible rfl); (try (first | (rw [if_pos (by omega)]; (try go_simp); (try with_reducible rfl)) | (rw [if_neg (by omega)]; (try go_simp); (try with_reducible rfl)))))
  try simp only [Act.put, List.setIfInBounds_toArray, List.set_cons_zero, List.set_cons_succ]
  clear hS
  refine wpAnyR_n1 (i := 3) rfl (by kernel_rfl) ?_
  intro K' hK
  rw [if_pos (by rfl)]
  simp only [List.getElem_toArray, List.getElem_cons_succ, List.getElem_cons_zero]
  go_wp2_with fail
  refine (HB1.out _).mono ?_
  rintro e w2 ⟨rfl, g2⟩
  go_wp2_with fail
  have hg2 : Grew w w2 := hg1.drew.trans g2
  refine hK.out _ _ (.inr (fun _ => conv_cells _ _ _ _ hz1 (hb1.drew.grew g2))) ?_
  clear hK
  have hS := trivial
  refine wpAnyR_takeQ (i := 4) (v := ?_) (some 16) rfl rfl (by kernel_rfl) (by kernel_rfl) (by kernel_rfl) (by kernel_rfl) (fun _ _ _ h => h) (Or.inl ⟨by rfl, ?_⟩) ?_
  rotate_left
  focus (intro wS hSw; (try dsimp only at hSw); go_simp; (try with_reducible rfl); (try (first | (rw [if_pos (by omega)]; (try go_simp); (try with_reducible rfl)) | (rw [if_neg (by omega)]; (try go_simp); (try with_reducible rfl)))))
  try simp only [Act.put, List.setIfInBounds_toArray, List.set_cons_zero, List.set_cons_succ]
  refine wpAnyR_n1 (i := 7) rfl (by kernel_rfl) ?_
  intro K' hK
  rw [if_pos (by rfl)]
  simp only [List.getElem_toArray, List.getElem_cons_succ, List.getElem_cons_zero]
  go_wp2_with fail
  refine (HB2.out _).mono ?_
  rintro e w3 ⟨rfl, g3⟩
  go_wp2_with fail
  have hg3 : Grew w w3 := hg2.trans g3
  refine hK.out _ _ (.inr (fun _ => conv_cells _ _ _ _ hz1 ((hb1.drew.grew g2).grew g3))) ?_
  clear hK
  refine wpAnyR_takeQ (i := 8) (v := ?_) (some 20) rfl rfl (by kernel_rfl) (by kernel_rfl) (by kernel_rfl) (by kernel_rfl) (fun _ _ _ h => h) (Or.inl ⟨by rfl, ?_⟩) ?_
  rotate_left
  focus (intro wS hSw; (try dsimp only at hSw); go_simp; (try with_reducible rfl); (try (first | (rw [if_pos (by omega)]; (try go_simp); (try with_reducible rfl)) | (rw [if_neg (by omega)]; (try go_simp); (try with_reducible rfl)))))
  try simp only [Act.put, List.setIfInBounds_toArray, List.set_cons_zero, List.set_cons_succ]
  refine wpAnyR_n1 (i := 9) rfl (by kernel_rfl) ?_
  intro K' hK
  rw [if_pos (by rfl)]
  simp only [List.getElem_toArray, List.getElem_cons_succ, List.getElem_cons_zero]
  go_wp2_with fail
  refine (HS.out _).mono ?_
  rintro e w4 ⟨rfl, g4⟩
  go_wp2_with fail
  have hg4 : Grew w w4 := hg3.trans g4
  refine hK.out _ _ (.inr (fun _ => conv_cells _ _ _ _ hz1 (((hb1.drew.grew g2).grew g3).grew g4))) ?_
  clear hK
  refine wpAnyR_takeQ (i := 10) (v := ?_) (some 6) rfl rfl (by kernel_rfl) (by kernel_rfl) (by kernel_rfl) (by kernel_rfl) (fun _ _ _ h => h) (Or.inl ⟨by rfl, ?_⟩) ?_
  rotate_left
  focus (intro wS hSw; (try dsimp only at hSw); go_simp; (try with_reducible rfl); (try (first | (rw [if_pos (by omega)]; (try go_simp); (try with_reducible rfl)) | (rw [if_neg (by omega)]; (try go_simp); (try with_reducible rfl)))))
  try simp only [Act.put, List.setIfInBounds_toArray, List.set_cons_zero, List.set_cons_succ]
  refine wpAnyR_done (by kernel_rfl) ?_ _
  go_wp2_with fail
  go_ret
  exact ⟨rfl, hg4⟩
theorem openS_140 (s : ByteArray) (h : s.size = 140) : openS s = if numS (s.extract 136 140) = sumS (s.extract 0 136) then (s.extract 0 136, 0) else (⟨#[]⟩, 11) := by
  unfold openS
  rw [h]
  by_cases hq : numS (s.extract 136 140) = sumS (s.extract 0 136)
  · rw [if_pos ⟨by omega, hq⟩, if_pos hq]
  · rw [if_neg (fun e => hq e.2), if_neg hq]
theorem sub_ext (s : ByteArray) (i j k : Nat) (h : j ≤ k) : (s.extract 0 k).extract i j = s.extract i j := by
  rw [ByteArray.extract_extract]
  congr 1 <;> omega
theorem unpackS_no (s : ByteArray) (i : Int) (h : ¬ okR s i) : unpackS s i = (⟨#[]⟩, 0#32, 11) := by unfold unpackS; rw [if_neg h]
set_option maxRecDepth 100000 in
set_option maxHeartbeats 1000000 in
theorem unpack_any (s : ByteArray) (i : Int) (w : World) (hs : s.size ≤ 9223372036854775807) (hi : okI i) (d : ByteArray) (v : BitVec 32) (er : Int) (hr : unpackS s i = (d, v, er)) :
    Calls Try.prog 11 #[.string s, .int .i64 i] w fun e w' => e = .returned (.tuple #[.string d, .int .u32 (u32 v), .int .i64 er]) ∧ Grew w w' := by
  have hbd := wrap_idx i
  have hbd2 : i % 4294967296 = u32 (idx32 i) := (u32_idx i).symm
  unfold okI at hi
  by_cases h140 : s.size = 140
  · have hne : ((s.size : Int) != 140) = false := by rw [h140]; rfl
    by_cases hsum : numS (s.extract 136 140) = sumS (s.extract 0 136)
    · have hop : openS s = (s.extract 0 136, 0) := by rw [openS_140 s h140, if_pos hsum]
      have hz : (s.extract 0 136).size = 136 := by rw [ByteArray.size_extract]; omega
      have HO := Lib.hid (open_any s (by omega) w _ _ hop)
      obtain ⟨t, ht⟩ : ∃ t, s.extract 0 136 = t := ⟨_, rfl⟩
      rw [ht] at HO hz
      have e1 : t.extract 132 t.size = s.extract 132 136 := by rw [hz, ← ht]; exact sub_ext s 132 136 136 (by omega)
      have e2 : t.extract 0 128 = s.extract 0 128 := by rw [← ht]; exact sub_ext s 0 128 136 (by omega)
      have e3 : t.extract 128 132 = s.extract 128 132 := by rw [← ht]; exact sub_ext s 128 132 136 (by omega)
      have HN := Lib.hid (number_any (t.extract 132 t.size) (by rw [ByteArray.size_extract]; omega))
      have HM := Lib.hid (number_any (t.extract 128 132) (by rw [ByteArray.size_extract]; omega))
      obtain ⟨p, hp⟩ : ∃ p, numS (s.extract 132 136) = p := ⟨_, rfl⟩
      obtain ⟨q, hq⟩ : ∃ q, numS (s.extract 128 132) = q := ⟨_, rfl⟩
      rw [e1, hp] at HN
      rw [e3, hq] at HM
      have HE1 := Lib.hid e1
      have HE2 := Lib.hid e2
      have HE3 := Lib.hid e3
      have htz : 136 ≤ t.size ∧ t.size ≤ 136 := by omega
      clear ht hop e1 e2 e3
      by_cases hidx : p = idx32 i
      · have hu : unpackS s i = (s.extract 0 128, q, 0) := by unfold unpackS; rw [if_pos ⟨h140, hsum, hp.trans hidx⟩, hq]
        rw [hu] at hr
        injection hr with h1 h2
        injection h2 with h2 h3
        subst h1; subst h2; subst h3
        have hqq : (u32 p != u32 (idx32 i)) = false := by rw [hidx]; simp
        clear hu hsum hidx hz hp
        go_enter Try.func11, Try.ntmps11
        go_wp2_with fail
        refine HO.out.mono ?_
        rintro e w1 ⟨rfl, g1⟩
        go_wp2_with fail
        rw [HE1.out]
        refine (HN.out _).mono ?_
        rintro e w2 ⟨rfl, g2⟩
        go_wp2_with fail
        refine wp_region_R [] (fun w' : World => True) (by kernel_rfl) ?_
        have hS := trivial
        refine wpAnyR_takeQ (i := 0) (v := ?_) (some 27) rfl rfl (by kernel_rfl) (by kernel_rfl) (by kernel_rfl) (by kernel_rfl) (fun _ _ _ h => h) (Or.inl ⟨by rfl, ?_⟩) ?_
        rotate_left
        focus (intro wS hSw; (try dsimp only at hSw); go_simp; (try with_reducible rfl); (try (first | (rw [if_pos (by omega)]; (try go_simp); (try with_reducible rfl)) | (rw [if_neg (by omega)]; (try go_simp); (try with_reducible rfl)))))
        try simp only [Act.put, List.setIfInBounds_toArray, List.set_cons_zero, List.set_cons_succ]
        refine wpAnyR_takeQ (i := 1) (v := ?_) (some 28) rfl rfl (by kernel_rfl) (by kernel_rfl) (by kernel_rfl) (by kernel_rfl) (fun _ _ _ h => h) (Or.inl ⟨by rfl, ?_⟩) ?_
        rotate_left
        focus (intro wS hSw; (try dsimp only at hSw); go_simp; (try with_reducible rfl); (try (first | (rw [if_pos (by omega)]; (try go_simp); (try with_reducible rfl)) | (rw [if_neg (by omega)]; (try go_simp); (try with_reducible rfl)))))
        try simp only [Act.put, List.setIfInBounds_toArray, List.set_cons_zero, List.set_cons_succ]
        refine wpAnyR_takeQ (i := 2) (v := ?_) (some 29) rfl rfl (by kernel_rfl) (by kernel_rfl) (by kernel_rfl) (by kernel_rfl) (fun _ _ _ h => h) (Or.inl ⟨by rfl, ?_⟩) ?_
        rotate_left
        focus (intro wS hSw; (try dsimp only at hSw); go_simp; (try with_reducible rfl); (try (first | (rw [if_pos (by omega)]; (try go_simp); (try with_reducible rfl)) | (rw [if_neg (by omega)]; (try go_simp); (try with_reducible rfl)))))
        try simp only [Act.put, List.setIfInBounds_toArray, List.set_cons_zero, List.set_cons_succ]
        refine wpAnyR_takeQ (i := 3) (v := ?_) (some 30) rfl rfl (by kernel_rfl) (by kernel_rfl) (by kernel_rfl) (by kernel_rfl) (fun _ _ _ h => h) (Or.inl ⟨by rfl, ?_⟩) ?_
        rotate_left
        focus (intro wS hSw; (try dsimp only at hSw); go_simp; (try with_reducible rfl); (try (first | (rw [if_pos (by omega)]; (try go_simp); (try with_reducible rfl)) | (rw [if_neg (by omega)]; (try go_simp); (try with_reducible rfl)))))
        try simp only [Act.put, List.setIfInBounds_toArray, List.set_cons_zero, List.set_cons_succ]
        refine wpAnyR_n1 (i := 4) rfl (by kernel_rfl) ?_
        intro K' hK
        rw [if_pos (by rfl)]
        simp only [List.getElem_toArray, List.getElem_cons_succ, List.getElem_cons_zero]
        go_wp2_with fail
        rw [HE3.out]
        refine (HM.out _).mono ?_
        rintro e w3 ⟨rfl, g3⟩
        go_wp2_with fail
        refine hK.out _ _ (.inr id) ?_
        clear hK
        refine wpAnyR_takeQ (i := 5) (v := ?_) (some 4) rfl rfl (by kernel_rfl) (by kernel_rfl) (by kernel_rfl) (by kernel_rfl) (fun _ _ _ h => h) (Or.inl ⟨by rfl, ?_⟩) ?_
        rotate_left
        focus (intro wS hSw; (try dsimp only at hSw); go_simp; (try with_reducible rfl); (try (first | (rw [if_pos (by omega)]; (try go_simp); (try with_reducible rfl)) | (rw [if_neg (by omega)]; (try go_simp); (try with_reducible rfl)))))
        try simp only [Act.put, List.setIfInBounds_toArray, List.set_cons_zero, List.set_cons_succ]
        refine wpAnyR_takeQ (i := 6) (v := ?_) (some 5) rfl rfl (by kernel_rfl) (by kernel_rfl) (by kernel_rfl) (by kernel_rfl) (fun _ _ _ h => h) (Or.inl ⟨by rfl, ?_⟩) ?_
        rotate_left
        focus (intro wS hSw; (try dsimp only at hSw); go_simp; (try with_reducible rfl); (try (first | (rw [if_pos (by omega)]; (try go_simp); (try with_reducible rfl)) | (rw [if_neg (by omega)]; (try go_simp); (try with_reducible rfl)))))
        try simp only [Act.put, List.setIfInBounds_toArray, List.set_cons_zero, List.set_cons_succ]
        refine wpAnyR_takeQ (i := 7) (v := ?_) (some 6) rfl rfl (by kernel_rfl) (by kernel_rfl) (by kernel_rfl) (by kernel_rfl) (fun _ _ _ h => h) (Or.inl ⟨by rfl, ?_⟩) ?_
        rotate_left
        focus (intro wS hSw; (try dsimp only at hSw); go_simp; (try with_reducible rfl); (try (first | (rw [if_pos (by omega)]; (try go_simp); (try with_reducible rfl)) | (rw [if_neg (by omega)]; (try go_simp); (try with_reducible rfl)))))
        try simp only [Act.put, List.setIfInBounds_toArray, List.set_cons_zero, List.set_cons_succ]
        refine wpAnyR_done (by kernel_rfl) ?_ _
        rw [HE2.out]
        go_wp2_with fail
        have hg : Grew w w3 := (g1.trans g2).drew.trans g3
        go_ret3
        exact ⟨rfl, hg⟩
      · have hu : unpackS s i = (⟨#[]⟩, 0#32, 11) := unpackS_no s i (fun e => hidx (hp.symm.trans e.2.2))
        rw [hu] at hr
        injection hr with h1 h2
        injection h2 with h2 h3
        subst h1; subst h2; subst h3
        have hqq : (u32 p != u32 (idx32 i)) = true := by rw [bne_iff_ne]; exact fun e => hidx (u32_inj e)
        clear hu hsum hidx hz hp
        go_enter Try.func11, Try.ntmps11
        go_wp2_with fail
        refine HO.out.mono ?_
        rintro e w1 ⟨rfl, g1⟩
        go_wp2_with fail
        rw [HE1.out]
        refine (HN.out _).mono ?_
        rintro e w2 ⟨rfl, g2⟩
        go_wp2_with fail
        go_ret3
        exact ⟨rfl, g1.trans g2⟩
    · have hop : openS s = (⟨#[]⟩, 11) := by rw [openS_140 s h140, if_neg hsum]
      have HO := Lib.hid (open_any s (by omega) w _ _ hop)
      have hu : unpackS s i = (⟨#[]⟩, 0#32, 11) := unpackS_no s i (fun e => hsum e.2.1)
      rw [hu] at hr
      injection hr with h1 h2
      injection h2 with h2 h3
      subst h1; subst h2; subst h3
      clear hu hsum hop
      go_enter Try.func11, Try.ntmps11
      go_wp2_with fail
      refine HO.out.mono ?_
      rintro e w1 ⟨rfl, g1⟩
      go_wp2_with fail
      go_ret3
      exact ⟨rfl, g1⟩
  · have hne : ((s.size : Int) != 140) = true := by simp; omega
    have hu : unpackS s i = (⟨#[]⟩, 0#32, 11) := unpackS_no s i (fun e => h140 e.1)
    rw [hu] at hr
    injection hr with h1 h2
    injection h2 with h2 h3
    subst h1; subst h2; subst h3
    clear hu
    go_enter Try.func11, Try.ntmps11
    go_wp2_with fail
    go_ret3
    exact ⟨rfl, by (repeat' first | (with_reducible exact Grew.refl _) | (with_reducible assumption) | (with_reducible refine Grew.alloc ?_ _) | (with_reducible refine Grew.drew ?_) | (with_reducible refine Grew.drewN ?_ _) | (with_reducible refine Grew.setRow ?_ (by first | (simp; done) | (simp; omega) | omega) _) | (with_reducible refine Grew.setCell ?_ (by first | (simp; done) | (simp; omega) | omega) _) | ((with_reducible apply Grew.trans); rotate_left; (with_reducible assumption)) | ((with_reducible apply Grew.turn); rotate_left; (with_reducible assumption); (focus (intro i hi; first | omega | (simp at hi; omega)))) | fail)⟩
end Go.Proofs.Ytbddelefglhaaaa
namespace Go.Proofs.Ytbddelefglhaaaa
set_option linter.unusedVariables false
set_option linter.unusedSimpArgs false
set_option linter.unusedSectionVars false
open Go.RowKit
theorem bytes_ext {a b : ByteArray} (h : a.data.toList = b.data.toList) : a = b := by
  obtain ⟨⟨l⟩⟩ := a
  obtain ⟨⟨m⟩⟩ := b
  exact congrArg (fun l => (⟨⟨l⟩⟩ : ByteArray)) h
theorem ext_list (s : ByteArray) (i j : Nat) : (s.extract i j).data.toList = (s.data.toList.drop i).take (j - i) := by
  rw [ByteArray.data_extract, Array.toList_extract, List.extract_eq_take_drop]
end Go.Proofs.Ytbddelefglhaaaa
namespace Go.Proofs.Ytbddelefglhaaaa
set_option linter.unusedVariables false
set_option linter.unusedSimpArgs false
set_option linter.unusedSectionVars false
open Go.RowKit
/-- A step: a raw sector is written, or all writes are made stable. -/
inductive St where
  | put (i : Int) (s : ByteArray)
  | sync
def stD (D : Dev) (sy ep : Int) : St → Dev × Int
  | .put i s => writeD D sy ep i s
  | .sync => syncD D sy ep
/-- Steps, until one fails. -/
def runS (sy ep : Int) : List St → Dev → Dev × Int
  | [], D => (D, 0)
  | t :: l, D => if (stD D sy ep t).2 = 0 then runS sy ep l (stD D sy ep t).1 else stD D sy ep t
theorem runS_app (sy ep : Int) (a b : List St) : ∀ D, runS sy ep (a ++ b) D = if (runS sy ep a D).2 = 0 then runS sy ep b (runS sy ep a D).1 else runS sy ep a D := by
  induction a with
  | nil => intro D; rfl
  | cons t a ih =>
    intro D
    show (if (stD D sy ep t).2 = 0 then runS sy ep (a ++ b) (stD D sy ep t).1 else stD D sy ep t) = _
    by_cases h : (stD D sy ep t).2 = 0
    · rw [if_pos h, ih]
      show _ = if (if (stD D sy ep t).2 = 0 then runS sy ep a (stD D sy ep t).1 else stD D sy ep t).2 = 0 then runS sy ep b (if (stD D sy ep t).2 = 0 then runS sy ep a (stD D sy ep t).1 else stD D sy ep t).1 else (if (stD D sy ep t).2 = 0 then runS sy ep a (stD D sy ep t).1 else stD D sy ep t)
      rw [if_pos h]
    · rw [if_neg h]
      show _ = if (if (stD D sy ep t).2 = 0 then runS sy ep a (stD D sy ep t).1 else stD D sy ep t).2 = 0 then runS sy ep b (if (stD D sy ep t).2 = 0 then runS sy ep a (stD D sy ep t).1 else stD D sy ep t).1 else (if (stD D sy ep t).2 = 0 then runS sy ep a (stD D sy ep t).1 else stD D sy ep t)
      rw [if_neg h, if_neg h]
/-- Writes of whole sectors, in order. -/
abbrev Wl := List (Nat × ByteArray)
def puts (l : Wl) : List St := l.map fun e => .put (e.1 : Int) e.2
def applyW (D : Dev) (l : Wl) : Dev := l.foldl (fun D e => changeD D e.1 e.2) D
def wrs (sy : Int) (l : Wl) : List Wr := l.map fun e => ⟨sy, e.1, e.2⟩
/-- The writes of a list are of sectors that there are, and whole. -/
def okW (D : Dev) (l : Wl) : Prop := ∀ e ∈ l, e.1 < D.st.length ∧ e.2.size = 140
/-- A device that does what the writer asks for. -/
structure Calm (D : Dev) (sy ep : Int) : Prop where
  ok : D.Ok
  live : D.failed = false
  plain : plainW sy ep = true
  free : ¬ ep < D.fen sy
theorem changeD_at (D : Dev) (i : Nat) (s : ByteArray) (hi : i < D.st.length) (j : Nat) : (changeD D i s).at j = if j = i then s else D.at j := by
  unfold changeD
  split
  · rename_i h
    by_cases hj : j = i
    · rw [if_pos hj, hj]; exact h
    · rw [if_neg hj]
  · unfold Dev.at
    show (D.st.set i s).getD j emp = _
    rw [List.getD_eq_getElem?_getD, List.getElem?_set]
    by_cases hj : j = i
    · subst hj
      rw [if_pos rfl, if_pos hi, if_pos rfl]
      rfl
    · rw [if_neg (fun h => hj h.symm), if_neg hj, List.getD_eq_getElem?_getD]
theorem cut_full (r : Wr) (was : ByteArray) (h1 : r.data.size = 140) (h2 : was.size = 140) : cutW r 140 was = r.data := by
  unfold cutW
  rw [← h1, ByteArray.extract_zero_size, h1, h2]
  rw [show was.extract 140 140 = ByteArray.empty from by rw [← ByteArray.size_eq_zero_iff, ByteArray.size_extract]; omega]
  exact ByteArray.append_empty
theorem applyW_kept (l : Wl) : ∀ D, D.Ok → okW D l → EndKept D (applyW D l) := by
  induction l with
  | nil => intro D h _; exact ⟨h, rfl, rfl, rfl, rfl, rfl⟩
  | cons e l ih =>
    intro D h hl
    obtain ⟨h1, h2⟩ := hl e (List.mem_cons_self ..)
    have hc := changeD_ok h h1 h2
    have k := ih (changeD D e.1 e.2) hc (fun x hx => by rw [changeD_len]; exact hl x (List.mem_cons_of_mem _ hx))
    exact ⟨k.ok, k.len.trans (changeD_len ..), k.pend.trans (changeD_pend ..), k.fen.trans (changeD_fen ..), k.fuse.trans (changeD_fuse ..), k.failed.trans (changeD_failed ..)⟩
/-- What a sector holds behind writes. -/
def lastE : Wl → Nat → Option ByteArray
  | [], _ => none
  | e :: l, i => match lastE l i with
    | some s => some s
    | none => if i = e.1 then some e.2 else none
theorem applyW_at (l : Wl) : ∀ D, okW D l → ∀ i, (applyW D l).at i = (lastE l i).getD (D.at i) := by
  induction l with
  | nil => intro D _ i; rfl
  | cons e l ih =>
    intro D hl i
    have h1 := (hl e (List.mem_cons_self ..)).1
    show (applyW (changeD D e.1 e.2) l).at i = _
    rw [ih _ (fun x hx => by rw [changeD_len]; exact hl x (List.mem_cons_of_mem _ hx)), changeD_at D e.1 e.2 h1 i]
    have hE : lastE (e :: l) i = match lastE l i with
      | some s => some s
      | none => if i = e.1 then some e.2 else none := rfl
    rw [hE]
    cases lastE l i with
    | some s => rfl
    | none => by_cases h : i = e.1 <;> simp [h]
theorem lastE_none (l : Wl) (i : Nat) (h : ∀ e ∈ l, e.1 ≠ i) : lastE l i = none := by
  induction l with
  | nil => rfl
  | cons e l ih =>
    unfold lastE
    rw [ih (fun x hx => h x (List.mem_cons_of_mem _ hx)), if_neg (fun he => h e (List.mem_cons_self ..) he.symm)]
theorem lastE_one (l : Wl) (hn : (l.map (·.1)).Nodup) (e : Nat × ByteArray) (he : e ∈ l) : lastE l e.1 = some e.2 := by
  induction l with
  | nil => cases he
  | cons x l ih =>
    rw [List.map_cons, List.nodup_cons] at hn
    unfold lastE
    rcases List.mem_cons.1 he with rfl | he
    · rw [lastE_none l e.1 (fun y hy h => hn.1 (h ▸ List.mem_map_of_mem hy)), if_pos rfl]
    · rw [ih hn.2 he]
theorem write_ok {D : Dev} {sy ep : Int} (h : Calm D sy ep) (hf : D.fuse = none) (e : Nat × ByteArray) (he : e.1 < D.st.length ∧ e.2.size = 140) : writeD D sy ep (e.1 : Int) e.2 = ({ D with pend := D.pend ++ [⟨sy, e.1, e.2⟩] }, 0) := by
  have ha : admitD D sy ep = (D, 0) := by
    unfold admitD
    rw [if_neg (by rw [h.live]; simp), if_neg h.free]
    unfold useD
    rw [hf]
    rfl
  unfold writeD
  rw [if_neg (by rw [h.plain]; simp [he.2]), if_neg (by unfold thereD; simp; omega), ha]
  rfl
theorem sync_ok {D : Dev} {sy ep : Int} (h : Calm D sy ep) (hf : D.fuse = none) : syncD D sy ep = (finishD D (ofSys sy) (fun _ => 140), 0) := by
  have ha : admitD D sy ep = (D, 0) := by
    unfold admitD
    rw [if_neg (by rw [h.live]; simp), if_neg h.free]
    unfold useD
    rw [hf]
    rfl
  unfold syncD
  rw [if_neg (by rw [h.plain]; simp), ha]
  rfl
theorem Calm.pend {D : Dev} {sy ep : Int} (h : Calm D sy ep) (l : Wl) (hl : okW D l) : Calm { D with pend := D.pend ++ wrs sy l } sy ep := by
  refine ⟨⟨h.ok.len, h.ok.pos, h.ok.lim, h.ok.st, h.ok.old, fun r hr => ?_, h.ok.fen⟩, h.live, h.plain, h.free⟩
  rcases List.mem_append.1 hr with hr | hr
  · exact h.ok.pend r hr
  · obtain ⟨e, he, rfl⟩ := List.mem_map.1 hr
    have hp := h.plain
    unfold plainW at hp
    have hp' := of_decide_eq_true hp
    exact ⟨(hl e he).1, (hl e he).2, hp'.1, hp'.2.1⟩
theorem runS_puts (sy ep : Int) (l : Wl) : ∀ D, Calm D sy ep → D.fuse = none → okW D l → runS sy ep (puts l) D = ({ D with pend := D.pend ++ wrs sy l }, 0) := by
  induction l with
  | nil => intro D _ _ _; show (D, 0) = _; simp [wrs]
  | cons e l ih =>
    intro D h hf hl
    have he := hl e (List.mem_cons_self ..)
    have hw := write_ok h hf e he
    show (if (writeD D sy ep (e.1 : Int) e.2).2 = 0 then runS sy ep (puts l) (writeD D sy ep (e.1 : Int) e.2).1 else _) = _
    rw [hw, if_pos rfl]
    have hc : Calm { D with pend := D.pend ++ wrs sy [e] } sy ep := h.pend [e] (fun x hx => by rw [List.mem_singleton.1 hx]; exact he)
    have := ih _ hc hf (fun x hx => hl x (List.mem_cons_of_mem _ hx))
    rw [show ({ D with pend := D.pend ++ [⟨sy, e.1, e.2⟩] } : Dev) = { D with pend := D.pend ++ wrs sy [e] } from rfl, this]
    simp [wrs]
/-- All of a system's pending writes become stable. -/
theorem flush_ (sy : Int) (p : Wr → Bool) (hp : ∀ (i : Nat) s, p ⟨sy, i, s⟩ = true) (l : Wl) : ∀ (D : Dev) (k : Nat), D.Ok → okW D l → ((wrs sy l).foldl (endStep p (fun _ => 140)) (D, k)).1 = applyW D l := by
  induction l with
  | nil => intro D k _ _; rfl
  | cons e l ih =>
    intro D k h hl
    obtain ⟨h1, h2⟩ := hl e (List.mem_cons_self ..)
    show ((wrs sy l).foldl (endStep p (fun _ => 140)) (endStep p (fun _ => 140) (D, k) ⟨sy, e.1, e.2⟩)).1 = applyW (changeD D e.1 e.2) l
    unfold endStep
    rw [if_pos (hp _ _)]
    show ((wrs sy l).foldl (endStep p (fun _ => 140)) (changeD D e.1 (cutW ⟨sy, e.1, e.2⟩ 140 (D.at e.1)), k + 1)).1 = _
    rw [cut_full ⟨sy, e.1, e.2⟩ _ h2 (at_size h h1)]
    exact ih _ _ (changeD_ok h h1 h2) (fun x hx => by rw [changeD_len]; exact hl x (List.mem_cons_of_mem _ hx))
theorem ofSys_self (sy : Int) (i : Nat) (s : ByteArray) : ofSys sy ⟨sy, i, s⟩ = true := decide_eq_true rfl
theorem applyW_pend (l : Wl) (P : List Wr) : ∀ D : Dev, applyW { D with pend := P } l = { applyW D l with pend := P } := by
  induction l with
  | nil => intro D; rfl
  | cons e l ih =>
    intro D
    show applyW (changeD { D with pend := P } e.1 e.2) l = { applyW (changeD D e.1 e.2) l with pend := P }
    rw [← ih]
    congr 1
    unfold changeD
    show (if D.at e.1 = e.2 then _ else _) = _
    split <;> rfl
theorem filter_wrs (sy : Int) (l : Wl) : (wrs sy l).filter (fun r => !ofSys sy r) = [] := by
  rw [List.filter_eq_nil_iff]
  intro r hr
  obtain ⟨e, _, rfl⟩ := List.mem_map.1 hr
  rw [ofSys_self]; simp
/-- A list of writes and a sync. -/
theorem runS_list (sy ep : Int) (l : Wl) (D : Dev) (h : Calm D sy ep) (hf : D.fuse = none) (hp : D.pend = []) (hl : okW D l) : runS sy ep (puts l ++ [.sync]) D = (applyW D l, 0) := by
  rw [runS_app, runS_puts sy ep l D h hf hl, if_pos rfl]
  show (if (syncD _ sy ep).2 = 0 then ((syncD _ sy ep).1, 0) else syncD _ sy ep) = _
  rw [sync_ok (h.pend l hl) hf, if_pos rfl]
  congr 1
  unfold finishD runEnd
  rw [hp, List.nil_append]
  show ({ ((wrs sy l).foldl (endStep (ofSys sy) (fun _ => 140)) ({ D with pend := wrs sy l }, 0)).1 with pend := (wrs sy l).filter fun r => !ofSys sy r } : Dev) = _
  have hok := h.pend l hl
  rw [hp, List.nil_append] at hok
  rw [flush_ sy (ofSys sy) (ofSys_self sy) l { D with pend := wrs sy l } 0 hok.ok hl, filter_wrs, applyW_pend]
  have := (applyW_kept l D h.ok hl).pend
  rw [hp] at this
  show ({ applyW D l with pend := [] } : Dev) = applyW D l
  rw [← this]
theorem Calm.kept {D E : Dev} {sy ep : Int} (h : Calm D sy ep) (k : EndKept D E) : Calm E sy ep := ⟨k.ok, by rw [k.failed]; exact h.live, h.plain, by rw [k.fen]; exact h.free⟩
end Go.Proofs.Ytbddelefglhaaaa
namespace Go.Proofs.Ytbddelefglhaaaa
set_option linter.unusedVariables false
set_option linter.unusedSimpArgs false
set_option linter.unusedSectionVars false
open Go.RowKit
/-- The first bytes of a write and the rest of what was there. -/
def cutB (s : ByteArray) (n : Nat) (was : ByteArray) : ByteArray := s.extract 0 n ++ was.extract n was.size
/-- The device with other pending writes and another fuse. -/
def setP (D : Dev) (P : List Wr) (fu : Option (Nat × List Int)) : Dev := ⟨D.st, D.old, P, D.fen, fu, D.failed⟩
/-- The device after a failure with some pending writes. -/
def broke (D : Dev) (l : List Wr) (sv : List Int) : Dev := ⟨(runEnd D (fun _ => true) (svN sv) l).1.st, (runEnd D (fun _ => true) (svN sv) l).1.old, [], D.fen, none, true⟩
theorem endStep_set (P : List Wr) (fu : Option (Nat × List Int)) (p : Wr → Bool) (sv : Nat → Nat) (D : Dev) (k : Nat) (r : Wr) : endStep p sv (setP D P fu, k) r = (setP (endStep p sv (D, k) r).1 P fu, (endStep p sv (D, k) r).2) := by
  unfold endStep
  by_cases h : p r = true
  · rw [if_pos h, if_pos h]
    show (changeD (setP D P fu) r.sec (cutW r (sv k) (D.at r.sec)), k + 1) = _
    congr 1
    unfold changeD
    show (if D.at r.sec = cutW r (sv k) (D.at r.sec) then _ else _) = setP (if D.at r.sec = cutW r (sv k) (D.at r.sec) then _ else _) P fu
    split <;> rfl
  · rw [if_neg h, if_neg h]
theorem fold_set (P : List Wr) (fu : Option (Nat × List Int)) (p : Wr → Bool) (sv : Nat → Nat) (l : List Wr) : ∀ (D : Dev) (k : Nat), l.foldl (endStep p sv) (setP D P fu, k) = (setP (l.foldl (endStep p sv) (D, k)).1 P fu, (l.foldl (endStep p sv) (D, k)).2) := by
  induction l with
  | nil => intro D k; rfl
  | cons r l ih =>
    intro D k
    rw [List.foldl_cons, List.foldl_cons, endStep_set]
    exact ih _ _
theorem broke_is (D : Dev) (P : List Wr) (fu : Option (Nat × List Int)) (sv : List Int) : ({ finishD (setP D P fu) (fun _ => true) (svN sv) with failed := true, fuse := none } : Dev) = broke D P sv := by
  have h := fold_set P fu (fun _ => true) (svN sv) P D 0
  have h1 : (runEnd (setP D P fu) (fun _ => true) (svN sv) P).1 = setP (runEnd D (fun _ => true) (svN sv) P).1 P fu := by unfold runEnd; rw [h]
  have hf : (P.filter fun r => !(fun _ => true) r) = [] := List.filter_eq_nil_iff.2 (fun _ _ => by simp)
  unfold finishD broke
  show (⟨(runEnd (setP D P fu) (fun _ => true) (svN sv) P).1.st, (runEnd (setP D P fu) (fun _ => true) (svN sv) P).1.old, P.filter fun r => !(fun _ => true) r, (runEnd (setP D P fu) (fun _ => true) (svN sv) P).1.fen, none, true⟩ : Dev) = _
  rw [h1, hf]
  have hk : ∀ (l : List Wr) (E : Dev) (k : Nat), (l.foldl (endStep (fun _ => true) (svN sv)) (E, k)).1.fen = E.fen := by
    intro l
    induction l with
    | nil => intro E k; rfl
    | cons r l ih =>
      intro E k
      rw [List.foldl_cons]
      unfold endStep
      rw [if_pos rfl]
      exact (ih _ _).trans (changeD_fen ..)
  show (⟨_, _, [], (runEnd D (fun _ => true) (svN sv) P).1.fen, none, true⟩ : Dev) = _
  unfold runEnd
  rw [hk]
  rfl
theorem setP_self (D : Dev) : setP D D.pend D.fuse = D := rfl
theorem setP_setP (D : Dev) (P Q : List Wr) (fu gu : Option (Nat × List Int)) : setP (setP D P fu) Q gu = setP D Q gu := rfl
theorem use_some {D : Dev} {sy ep : Int} (h : Calm D sy ep) {n : Nat} {sv : List Int} (hf : D.fuse = some (n + 1, sv)) : admitD D sy ep = (setP D D.pend (some (n, sv)), 0) := by
  unfold admitD
  rw [if_neg (by rw [h.live]; simp), if_neg h.free]
  unfold useD
  rw [hf]
  rfl
theorem use_last {D : Dev} {sy ep : Int} (h : Calm D sy ep) {sv : List Int} (hf : D.fuse = some (0, sv)) : admitD D sy ep = (broke D D.pend sv, 10) := by
  rw [← broke_is D D.pend D.fuse sv, setP_self]
  unfold admitD
  rw [if_neg (by rw [h.live]; simp), if_neg h.free]
  unfold useD
  rw [hf]
  rfl
theorem write_use {D : Dev} {sy ep : Int} (h : Calm D sy ep) (e : Nat × ByteArray) (he : e.1 < D.st.length ∧ e.2.size = 140) :
    writeD D sy ep (e.1 : Int) e.2 = if (admitD D sy ep).2 = 0 then (setP (admitD D sy ep).1 ((admitD D sy ep).1.pend ++ wrs sy [e]) (admitD D sy ep).1.fuse, 0) else admitD D sy ep := by
  unfold writeD
  rw [if_neg (by rw [h.plain]; simp [he.2]), if_neg (by unfold thereD; simp; omega)]
  by_cases h0 : (admitD D sy ep).2 = 0
  · rw [if_neg (by simp [h0]), if_pos h0]
    rfl
  · rw [if_pos h0, if_neg h0]
theorem sync_use {D : Dev} {sy ep : Int} (h : Calm D sy ep) :
    syncD D sy ep = if (admitD D sy ep).2 = 0 then (finishD (admitD D sy ep).1 (ofSys sy) (fun _ => 140), 0) else admitD D sy ep := by
  unfold syncD
  rw [if_neg (by rw [h.plain]; simp)]
  by_cases h0 : (admitD D sy ep).2 = 0
  · rw [if_neg (by simp [h0]), if_pos h0]
  · rw [if_pos h0, if_neg h0]
theorem Calm.set {D : Dev} {sy ep : Int} (h : Calm D sy ep) (l : Wl) (hl : okW D l) (fu : Option (Nat × List Int)) : Calm (setP D (D.pend ++ wrs sy l) fu) sy ep := by
  have h1 := (h.pend l hl).ok
  exact ⟨⟨h1.len, h1.pos, h1.lim, h1.st, h1.old, h1.pend, h1.fen⟩, h.live, h.plain, h.free⟩
/-- All writes are done, or the device fails behind the first f of them. -/
theorem puts_use (sy ep : Int) (sv : List Int) (l : Wl) : ∀ (D : Dev) (f : Nat), Calm D sy ep → D.fuse = some (f, sv) → okW D l →
    (l.length ≤ f ∧ runS sy ep (puts l) D = (setP D (D.pend ++ wrs sy l) (some (f - l.length, sv)), 0)) ∨
    (f < l.length ∧ runS sy ep (puts l) D = (broke D (D.pend ++ wrs sy (l.take f)) sv, 10)) := by
  induction l with
  | nil =>
    intro D f _ hf _
    left
    refine ⟨Nat.zero_le _, ?_⟩
    show (D, 0) = _
    rw [show D.pend ++ wrs sy [] = D.pend from List.append_nil _, List.length_nil, Nat.sub_zero, ← hf, setP_self]
  | cons e l ih =>
    intro D f h hf hl
    have he := hl e (List.mem_cons_self ..)
    have hrun : runS sy ep (puts (e :: l)) D = if (writeD D sy ep (e.1 : Int) e.2).2 = 0 then runS sy ep (puts l) (writeD D sy ep (e.1 : Int) e.2).1 else writeD D sy ep (e.1 : Int) e.2 := rfl
    cases f with
    | zero =>
      right
      refine ⟨by simp, ?_⟩
      rw [hrun, write_use h e he, use_last h hf, if_neg (by simp), if_neg (by simp), List.take_zero, show D.pend ++ wrs sy [] = D.pend from List.append_nil _]
    | succ n =>
      have hw : writeD D sy ep (e.1 : Int) e.2 = (setP D (D.pend ++ wrs sy [e]) (some (n, sv)), 0) := by
        rw [write_use h e he, use_some h hf, if_pos rfl]
        rfl
      rw [hrun, hw, if_pos rfl]
      have hc : Calm (setP D (D.pend ++ wrs sy [e]) (some (n, sv))) sy ep := h.set [e] (fun x hx => by rw [List.mem_singleton.1 hx]; exact he) _
      have e1 : ∀ t : Wl, (D.pend ++ wrs sy [e]) ++ wrs sy t = D.pend ++ wrs sy (e :: t) := fun t => by simp [wrs]
      rcases ih _ n hc rfl (fun x hx => hl x (List.mem_cons_of_mem _ hx)) with ⟨h1, h2⟩ | ⟨h1, h2⟩
      · left
        refine ⟨by rw [List.length_cons]; omega, ?_⟩
        rw [h2, List.length_cons, show n + 1 - (l.length + 1) = n - l.length from by omega, setP_setP, ← e1 l]
        rfl
      · right
        refine ⟨by rw [List.length_cons]; omega, ?_⟩
        rw [h2, List.take_succ_cons]
        have hk : ∀ P : List Wr, broke (setP D (D.pend ++ wrs sy [e]) (some (n, sv))) P sv = broke D P sv := fun P => by
          have h := fold_set (D.pend ++ wrs sy [e]) (some (n, sv)) (fun _ => true) (svN sv) P D 0
          unfold broke runEnd
          rw [h]
          rfl
        rw [hk, ← e1 (l.take n)]
        rfl
/-- A list of writes and a sync: all is done, or the device fails with the first f writes pending. -/
theorem list_use (sy ep : Int) (sv : List Int) (l : Wl) (D : Dev) (f : Nat) (h : Calm D sy ep) (hf : D.fuse = some (f, sv)) (hp : D.pend = []) (hl : okW D l) :
    (l.length < f ∧ runS sy ep (puts l ++ [.sync]) D = (setP (applyW D l) [] (some (f - (l.length + 1), sv)), 0)) ∨
    (f ≤ l.length ∧ runS sy ep (puts l ++ [.sync]) D = (broke D (wrs sy (l.take f)) sv, 10)) := by
  rw [runS_app]
  rcases puts_use sy ep sv l D f h hf hl with ⟨h1, h2⟩ | ⟨h1, h2⟩
  · rw [h2, hp, List.nil_append, if_pos rfl]
    have hc := h.set l hl (some (f - l.length, sv))
    rw [hp, List.nil_append] at hc
    have hrun : runS sy ep [.sync] (setP D (wrs sy l) (some (f - l.length, sv))) = if (syncD (setP D (wrs sy l) (some (f - l.length, sv))) sy ep).2 = 0 then ((syncD (setP D (wrs sy l) (some (f - l.length, sv))) sy ep).1, 0) else syncD (setP D (wrs sy l) (some (f - l.length, sv))) sy ep := rfl
    obtain ⟨g, hg⟩ : ∃ g, f - l.length = g := ⟨_, rfl⟩
    rw [hrun, sync_use hc]
    rw [hg] at hc ⊢
    cases g with
    | zero =>
      right
      refine ⟨by omega, ?_⟩
      rw [use_last hc rfl, if_neg (by simp), if_neg (by simp), List.take_of_length_le (by omega)]
      have h := fold_set (wrs sy l) (some (0, sv)) (fun _ => true) (svN sv) (wrs sy l) D 0
      show (broke (setP D (wrs sy l) (some (0, sv))) (wrs sy l) sv, _) = _
      congr 1
      unfold broke runEnd
      rw [h]
      rfl
    | succ g =>
      left
      refine ⟨by omega, ?_⟩
      rw [use_some hc rfl, if_pos rfl, if_pos rfl, show f - (l.length + 1) = g from by omega]
      congr 1
      rw [setP_setP]
      show finishD (setP D (wrs sy l) (some (g, sv))) (ofSys sy) (fun _ => 140) = _
      unfold finishD runEnd
      rw [fold_set]
      show (⟨((wrs sy l).foldl (endStep (ofSys sy) (fun _ => 140)) (D, 0)).1.st, ((wrs sy l).foldl (endStep (ofSys sy) (fun _ => 140)) (D, 0)).1.old, (wrs sy l).filter fun r => !ofSys sy r, ((wrs sy l).foldl (endStep (ofSys sy) (fun _ => 140)) (D, 0)).1.fen, some (g, sv), ((wrs sy l).foldl (endStep (ofSys sy) (fun _ => 140)) (D, 0)).1.failed⟩ : Dev) = _
      rw [flush_ sy (ofSys sy) (ofSys_self sy) l D 0 h.ok hl, filter_wrs]
      rfl
  · right
    rw [h2, if_neg (by simp), hp, List.nil_append]
    exact ⟨by omega, rfl⟩
/-- What a sector holds behind a failure. -/
theorem torn_at (sy : Int) (sv : Nat → Nat) (hsv : ∀ k, sv k ≤ 140) (l : Wl) : ∀ (D : Dev) (k : Nat), D.Ok → okW D l → (l.map (·.1)).Nodup →
    (∀ i, (∀ e ∈ l, e.1 ≠ i) → ((wrs sy l).foldl (endStep (fun _ => true) sv) (D, k)).1.at i = D.at i) ∧
    (∀ e ∈ l, ∃ n, n ≤ 140 ∧ ((wrs sy l).foldl (endStep (fun _ => true) sv) (D, k)).1.at e.1 = cutB e.2 n (D.at e.1)) := by
  induction l with
  | nil => intro D k _ _ _; exact ⟨fun _ _ => rfl, fun e he => by cases he⟩
  | cons x l ih =>
    intro D k h hl hn
    rw [List.map_cons, List.nodup_cons] at hn
    obtain ⟨h1, h2⟩ := hl x (List.mem_cons_self ..)
    have hstep : (wrs sy (x :: l)).foldl (endStep (fun _ => true) sv) (D, k) = (wrs sy l).foldl (endStep (fun _ => true) sv) (changeD D x.1 (cutW ⟨sy, x.1, x.2⟩ (sv k) (D.at x.1)), k + 1) := rfl
    have hs : (cutW ⟨sy, x.1, x.2⟩ (sv k) (D.at x.1)).size = 140 := cutW_size h2 (at_size h h1) (hsv k)
    obtain ⟨g1, g2⟩ := ih (changeD D x.1 (cutW ⟨sy, x.1, x.2⟩ (sv k) (D.at x.1))) (k + 1) (changeD_ok h h1 hs) (fun y hy => by rw [changeD_len]; exact hl y (List.mem_cons_of_mem _ hy)) hn.2
    rw [hstep]
    refine ⟨fun i hi => ?_, fun e he => ?_⟩
    · rw [g1 i (fun e he => hi e (List.mem_cons_of_mem _ he)), changeD_at _ _ _ h1, if_neg (fun e => hi x (List.mem_cons_self ..) e.symm)]
    · rcases List.mem_cons.1 he with rfl | he
      · refine ⟨sv k, hsv k, ?_⟩
        rw [g1 e.1 (fun y hy hq => hn.1 (by rw [← hq]; exact List.mem_map_of_mem hy)), changeD_at _ _ _ h1, if_pos rfl]
        rfl
      · obtain ⟨n, hn2, e2⟩ := g2 e he
        refine ⟨n, hn2, ?_⟩
        rw [e2, changeD_at _ _ _ h1, if_neg (fun hq => hn.1 (by rw [← hq]; exact List.mem_map_of_mem he))]
theorem broke_at (D : Dev) (sy : Int) (l : Wl) (sv : List Int) (h : D.Ok) (hl : okW D l) (hn : (l.map (·.1)).Nodup) :
    (∀ i, (∀ e ∈ l, e.1 ≠ i) → (broke D (wrs sy l) sv).at i = D.at i) ∧ (∀ e ∈ l, ∃ n, n ≤ 140 ∧ (broke D (wrs sy l) sv).at e.1 = cutB e.2 n (D.at e.1)) :=
  torn_at sy (svN sv) (svN_le sv) l D 0 h hl hn
theorem broke_ok (D : Dev) (sy : Int) (l : Wl) (sv : List Int) {ep : Int} (h : Calm D sy ep) (hl : okW D l) : (broke D (wrs sy l) sv).Ok ∧ (broke D (wrs sy l) sv).st.length = D.st.length := by
  have k := run_kept h.ok (fun _ => true) (svN sv) (svN_le sv) (wrs sy l) (D, 0) ⟨h.ok, rfl, rfl, rfl, rfl, rfl⟩ (fun r hr => by
    obtain ⟨e, he, rfl⟩ := List.mem_map.1 hr
    exact hl e he)
  exact ⟨⟨k.ok.len, k.ok.pos, k.ok.lim, k.ok.st, k.ok.old, fun r hr => (by cases hr), h.ok.fen⟩, k.len⟩
end Go.Proofs.Ytbddelefglhaaaa
namespace Go.Proofs.Ytbddelefglhaaaa
set_option linter.unusedVariables false
set_option linter.unusedSimpArgs false
set_option linter.unusedSectionVars false
open Go.RowKit
abbrev U32 := BitVec 32
def blankR : ByteArray := zeroS 140
theorem blankR_size : blankR.size = 140 := zeroS_size 140
/-- The number with index i in data. -/
def fld (s : ByteArray) (i : Nat) : U32 := numS (s.extract (4 * i) (4 * i + 4))
/-- The bytes of numbers, one behind the other. -/
def vbytes : List U32 → ByteArray
  | [] => ⟨#[]⟩
  | x :: l => bytesS x ++ vbytes l
theorem vbytes_size (l : List U32) : (vbytes l).size = 4 * l.length := by
  induction l with
  | nil => rfl
  | cons x l ih => show (bytesS x ++ vbytes l).size = _; rw [ByteArray.size_append, bytesS_size, ih, List.length_cons]; omega
theorem vbytes_app (a b : List U32) : vbytes (a ++ b) = vbytes a ++ vbytes b := by
  induction a with
  | nil => show vbytes b = ByteArray.empty ++ vbytes b; rw [ByteArray.empty_append]
  | cons x a ih => show bytesS x ++ vbytes (a ++ b) = (bytesS x ++ vbytes a) ++ vbytes b; rw [ih, ByteArray.append_assoc]
theorem ext_skip (a b : ByteArray) (i j : Nat) (h : a.size ≤ i) : (a ++ b).extract i j = b.extract (i - a.size) (j - a.size) := by
  rw [ByteArray.extract_append]
  rw [show a.extract i j = ByteArray.empty from by rw [← ByteArray.size_eq_zero_iff, ByteArray.size_extract]; omega]
  exact ByteArray.empty_append
theorem fld_vbytes (l : List U32) : ∀ i (h : i < l.length), fld (vbytes l) i = l[i] := by
  induction l with
  | nil => intro i h; exact absurd h (by simp)
  | cons x l ih =>
    intro i h
    cases i with
    | zero =>
      show numS ((bytesS x ++ vbytes l).extract 0 4) = x
      rw [ext_left _ _ 4 (bytesS_size x), num_bytes]
    | succ i =>
      have hi : i < l.length := by simpa using h
      show numS ((bytesS x ++ vbytes l).extract (4 * (i + 1)) (4 * (i + 1) + 4)) = l[i]
      rw [ext_skip _ _ _ _ (by rw [bytesS_size]; omega), bytesS_size, show 4 * (i + 1) - 4 = 4 * i from by omega, show 4 * (i + 1) + 4 - 4 = 4 * i + 4 from by omega]
      exact ih i hi
/-- What was read of a raw sector. -/
structure Raw where
  data : ByteArray
  ver : U32
  ok : Bool
def rawZ : Raw := ⟨⟨#[]⟩, 0#32, false⟩
def rawOf (s : ByteArray) (i : Int) : Raw := if okR s i then ⟨s.extract 0 128, numS (s.extract 128 132), true⟩ else rawZ
theorem rawOf_pack (d : ByteArray) (v : U32) (i : Int) : rawOf (packS d v i) i = ⟨dataS d, v, true⟩ := by
  obtain ⟨h1, h2, h3, h4, h5⟩ := pack_parts d v i
  unfold rawOf
  rw [if_pos ⟨packS_size d v i, by rw [h1, h2, num_bytes], by rw [h5, num_bytes]⟩, h3, h4, num_bytes]
theorem zero_num (i : Nat) (h : i + 4 ≤ 140) : numS (blankR.extract i (i + 4)) = 0#32 := by
  have e : blankR.extract i (i + 4) = zeroS 4 := by
    apply bytes_ext
    rw [ext_list]
    show ((List.replicate 140 (0 : UInt8)).toArray.toList.drop i).take (i + 4 - i) = (List.replicate 4 (0 : UInt8)).toArray.toList
    rw [List.drop_replicate, List.take_replicate, show min (i + 4 - i) (140 - i) = 4 from by omega]
  rw [e]
  decide
/-- A cleared head is not readable. -/
theorem blank_shut (i : Int) (h : idx32 i ≠ 0#32) : ¬ okR blankR i := by
  rintro ⟨_, _, h3⟩
  rw [zero_num 132 (by omega)] at h3
  exact h h3.symm
/-- The intent. -/
def slotI (D : Dev) (j : Nat) : ByteArray := D.content (34 + j)
def selfI (s : ByteArray) : Int := u32 (numS (s.extract 132 136))
def okSlot (n : Nat) (m : U32) (s : ByteArray) : Bool := decide (okR s (selfI s)) && (numS (s.extract 128 132) == m) && !(decide (32 < selfI s) && (decide (selfI s < 131) || decide ((n : Int) ≤ selfI s)))
def slotsD (D : Dev) (c : Nat) : List ByteArray := (List.range c).map (slotI D)
def catB : List ByteArray → ByteArray
  | [] => ⟨#[]⟩
  | s :: l => s ++ catB l
def headI (D : Dev) : Raw := rawOf (D.content 33) 33
def topI (D : Dev) : Raw := rawOf (D.content 0) 0
def cntI (D : Dev) : Nat := (fld (headI D).data 1).toNat
def headB' (D : Dev) : Bool := (headI D).ok && (fld (headI D).data 0 == (headI D).ver) && decide (1 ≤ cntI D ∧ cntI D ≤ 97) && decide ((headI D).data.extract 12 128 = zeroS 116)
def slotsB (D : Dev) : Bool := (slotsD D (cntI D)).all (okSlot D.st.length (headI D).ver)
def sumB (D : Dev) : Bool := decide (sumS (catB (slotsD D (cntI D))) = fld (headI D).data 2)
def topB (D : Dev) : Bool := !(topI D).ok || ((headI D).ver == (topI D).ver) || decide ((headI D).ver.toNat = (topI D).ver.toNat + 1)
def intentB (D : Dev) : Bool := headB' D && (slotsB D && (sumB D && topB D))
def intentL (D : Dev) : List (Int × ByteArray) := if intentB D = true then (slotsD D (cntI D)).map fun s => (selfI s, s) else []
/-- What finishing does with entries. -/
def complS (l : List (Int × ByteArray)) : List St := l.map (fun e => .put e.1 e.2) ++ [.sync, .put 33 blankR, .sync]
def finD (D : Dev) (sy ep : Int) : Dev × Bool × Int :=
  if D.failed = true then (D, false, 10) else if intentL D = [] then (D, false, 0) else ((runS sy ep (complS (intentL D)) D).1, (runS sy ep (complS (intentL D)) D).2 == 0, (runS sy ep (complS (intentL D)) D).2)
/-- What is read of a data sector, if the device has not failed. -/
def mapI (D : Dev) (k : Nat) : Raw := rawOf (D.content (1 + k)) (1 + k : Nat)
def datI (D : Dev) (i : Nat) : Raw := rawOf (D.content (131 + i)) (131 + i : Nat)
def lookI (D : Dev) (i : Nat) : ByteArray × Int :=
  if (topI D).ok = false then (⟨#[]⟩, 11) else if (mapI D (i / 32)).ok = false then (⟨#[]⟩, 11) else if (mapI D (i / 32)).ver ≠ fld (topI D).data (i / 32) then (⟨#[]⟩, 12)
  else if (datI D i).ok = false then (⟨#[]⟩, 11) else if (datI D i).ver ≠ fld (mapI D (i / 32)).data (i % 32) then (⟨#[]⟩, 12) else ((datI D i).data, 0)
/-- The contents and versions of a store. -/
structure Img where
  n : Nat
  N : Nat
  ms : Nat → Nat
  vs : Nat → Nat
  cs : Nat → ByteArray
def Img.mv (I : Img) (k j : Nat) : Nat := if 32 * k + j < I.n then I.vs (32 * k + j) else 0
def nv (n : Nat) : U32 := BitVec.ofNat 32 n
theorem nv_toNat (n : Nat) (h : n < 4294967296) : (nv n).toNat = n := by unfold nv; rw [BitVec.toNat_ofNat]; exact Nat.mod_eq_of_lt h
def Img.tops (I : Img) : List U32 := (List.range 32).map fun k => nv (I.ms k)
def Img.mapL (I : Img) (k : Nat) : List U32 := (List.range 32).map fun j => nv (I.mv k j)
def Img.topR (I : Img) : ByteArray := packS (vbytes I.tops) (nv I.N) 0
def Img.mapR (I : Img) (k : Nat) : ByteArray := packS (vbytes (I.mapL k)) (nv (I.ms k)) (1 + k : Nat)
def Img.datR (I : Img) (i : Nat) : ByteArray := packS (I.cs i) (nv (I.vs i)) (131 + i : Nat)
theorem vb32 (f : Nat → U32) : dataS (vbytes ((List.range 32).map f)) = vbytes ((List.range 32).map f) := dataS_full _ (by rw [vbytes_size]; simp)
theorem fld32 (f : Nat → U32) (k : Nat) (h : k < 32) : fld (vbytes ((List.range 32).map f)) k = f k := by
  rw [fld_vbytes _ k (by simpa using h)]
  simp
structure Img.Ok (I : Img) : Prop where
  n0 : 1 ≤ I.n
  n1 : I.n ≤ 1024
  N : I.N < 4294967296
  ms : ∀ k, I.ms k ≤ I.N
  vs : ∀ i, I.vs i ≤ I.N
  cs : ∀ i, i < I.n → (I.cs i).size = 128
/-- A device with nothing pending that holds a store. -/
structure Holds (D : Dev) (I : Img) : Prop where
  ok : D.Ok
  img : I.Ok
  len : D.st.length = 131 + I.n
  live : D.failed = false
  pend : D.pend = []
  top : D.at 0 = I.topR
  map : ∀ k, k < 32 → D.at (1 + k) = I.mapR k
  dat : ∀ i, i < I.n → D.at (131 + i) = I.datR i
/-- Its head is cleared, too. -/
structure Clean (D : Dev) (I : Img) : Prop extends Holds D I where
  head : D.at 33 = blankR
theorem Holds.content {D : Dev} {I : Img} (h : Holds D I) (i : Nat) : D.content i = D.at i := by unfold Dev.content; rw [h.pend]; rfl
theorem Holds.topI {D : Dev} {I : Img} (h : Holds D I) : topI D = ⟨vbytes I.tops, nv I.N, true⟩ := by
  unfold Go.Proofs.Ytbddelefglhaaaa.topI
  rw [h.content, h.top]
  unfold Img.topR
  rw [rawOf_pack]
  unfold Img.tops
  rw [vb32]
theorem Holds.mapI {D : Dev} {I : Img} (h : Holds D I) (k : Nat) (hk : k < 32) : mapI D k = ⟨vbytes (I.mapL k), nv (I.ms k), true⟩ := by
  unfold Go.Proofs.Ytbddelefglhaaaa.mapI
  rw [h.content, h.map k hk]
  unfold Img.mapR
  rw [rawOf_pack]
  unfold Img.mapL
  rw [vb32]
theorem Holds.datI {D : Dev} {I : Img} (h : Holds D I) (i : Nat) (hi : i < I.n) : datI D i = ⟨I.cs i, nv (I.vs i), true⟩ := by
  unfold Go.Proofs.Ytbddelefglhaaaa.datI
  rw [h.content, h.dat i hi]
  unfold Img.datR
  rw [rawOf_pack, dataS_full _ (h.img.cs i hi)]
/-- Every data sector is read with its content. -/
theorem Holds.look {D : Dev} {I : Img} (h : Holds D I) (i : Nat) (hi : i < I.n) : lookI D i = (I.cs i, 0) := by
  have hn := h.img.n1
  have hk : i / 32 < 32 := by omega
  unfold lookI
  rw [h.topI, h.mapI _ hk, h.datI i hi, if_neg (by simp), if_neg (by simp), if_neg, if_neg (by simp), if_neg]
  · intro hc
    apply hc
    show nv (I.vs i) = fld (vbytes (I.mapL (i / 32))) (i % 32)
    unfold Img.mapL
    rw [fld32 _ _ (by omega)]
    unfold Img.mv
    rw [show 32 * (i / 32) + i % 32 = i from by omega, if_pos hi]
  · intro hc
    apply hc
    show nv (I.ms (i / 32)) = fld (vbytes I.tops) (i / 32)
    unfold Img.tops
    rw [fld32 _ _ hk]
theorem idx_ne (i : Nat) (h : i ≠ 0) (h2 : i < 4294967296) : idx32 (i : Int) ≠ 0#32 := by
  intro e
  have := idx32_inj (i := (i : Int)) (j := 0) (by omega) (by omega) (by rw [e]; decide)
  omega
/-- Without a readable head there is no intent. -/
theorem noint_head (D : Dev) (h : (headI D).ok = false) : intentL D = [] := by
  unfold intentL intentB headB'
  rw [h]
  rfl
theorem noint_blank (D : Dev) (h : D.content 33 = blankR) : intentL D = [] := by
  apply noint_head
  unfold headI rawOf
  rw [h, if_neg (blank_shut 33 (idx_ne 33 (by decide) (by decide)))]
  rfl
theorem Clean.noint {D : Dev} {I : Img} (h : Clean D I) : intentL D = [] := noint_blank D (by rw [h.content, h.head])
theorem finD_clean {D : Dev} {I : Img} (h : Clean D I) (sy ep : Int) : finD D sy ep = (D, false, 0) := by
  unfold finD
  rw [if_neg (by rw [h.live]; simp), if_pos h.noint]
end Go.Proofs.Ytbddelefglhaaaa
