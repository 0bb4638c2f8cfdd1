/- start, Few, do: what the laws share. -/
import Derived.Test.YtfmhiocigoejjaaBufI
namespace Go.Proofs.Ytfmhiocigoejjaa
set_option linter.unusedVariables false
set_option linter.unusedSimpArgs false
set_option linter.unusedSectionVars false
open Go.RowKit
/-- A call: its kind, the place, the version and the content. -/
structure Opn where
  kind : Int
  id : Int
  page : Int
  ver : Int
  data : ByteArray
instance : Inhabited Opn := ⟨⟨0, 0, 0, 0, ⟨#[]⟩⟩⟩
def opC (o : Opn) : List Value := [.int .i64 o.kind, .int .i64 o.id, .int .i64 o.page, .int .i64 o.ver, .string o.data]
def okOp (o : Opn) : Prop := okInt o.kind ∧ okInt o.id ∧ okInt o.page ∧ okInt o.ver ∧ o.data.size ≤ 9223372036854775807
def OpsAt (w : World) (B : Nat) (A : Option Addr) (l : List Opn) : Prop := (∀ o ∈ l, okOp o) ∧ ListAt w B 5 A (l.map opC)
theorem OpsAt.hold {w w' : World} {B : Nat} {A : Option Addr} {l : List Opn} (h : OpsAt w B A l) (hB : B ≤ w.heap.size) (hg : Grew w w') : OpsAt w' B A l := ⟨h.1, h.2.keep hB hg⟩
theorem OpsAt.at_ {w : World} {B : Nat} {A : Option Addr} {l : List Opn} (h : OpsAt w B A l) {k : Nat} (hk : k < l.length) :
    ∃ b off, A = some ⟨b, off, none⟩ ∧ b < B ∧ okOp l[k] ∧ w.cell? ⟨b, off + k * 5, none⟩ = some (.int .i64 l[k].kind) ∧ w.cell? ⟨b, off + k * 5 + 1, none⟩ = some (.int .i64 l[k].id) ∧ w.cell? ⟨b, off + k * 5 + 2, none⟩ = some (.int .i64 l[k].page) ∧ w.cell? ⟨b, off + k * 5 + 3, none⟩ = some (.int .i64 l[k].ver) ∧ w.cell? ⟨b, off + k * 5 + 4, none⟩ = some (.string l[k].data) := by
  obtain ⟨b, off, e, hb, hc⟩ := h.2 (by simp; omega)
  have hl : (l.map opC)[k]? = some (opC l[k]) := by rw [List.getElem?_map, List.getElem?_eq_getElem hk]; rfl
  have hcc := hc k _ hl
  exact ⟨b, off, e, hb, h.1 _ (List.getElem_mem hk), hcc 0 _ rfl, hcc 1 _ rfl, hcc 2 _ rfl, hcc 3 _ rfl, hcc 4 _ rfl⟩
/-- The pool's state behind a call. -/
structure St where
  pages : List Pg
  hits : Int
  misses : Int
def stepO (cap : Int) (s : St) (o : Opn) : St :=
  if o.kind = 0 then (match look s.pages (o.id, o.page) with
    | some c => ⟨rmv s.pages (o.id, o.page) ++ [((o.id, o.page), c)], s.hits + 1, s.misses⟩
    | none => ⟨s.pages, s.hits, s.misses + 1⟩)
  else if o.kind = 1 then ⟨putS cap s.pages (o.id, o.page) (o.data, o.ver), s.hits, s.misses⟩
  else if o.kind = 2 then ⟨invS s.pages (o.id, o.page) o.ver, s.hits, s.misses⟩
  else if o.kind = 3 then ⟨dropS s.pages o.id, s.hits, s.misses⟩
  else s
/-- A state that calls of a small number lead to. -/
def Sound (cap : Int) (s : St) (n : Nat) : Prop := (s.pages.length : Int) ≤ cap ∧ 0 ≤ s.hits ∧ 0 ≤ s.misses ∧ s.hits ≤ n ∧ s.misses ≤ n
theorem rmv_lt (L : List Pg) (p : Place) (h : p ∈ keys L) : (rmv L p).length + 1 ≤ L.length := by
  obtain ⟨x, hx, rfl⟩ := List.mem_map.1 h
  unfold rmv
  have := (List.length_filter_lt_length_iff_exists (p := fun y : Pg => !decide (y.1 = x.1))).2 ⟨x, hx, by simp⟩
  omega
theorem look_some_mem (L : List Pg) (p : Place) (c : ByteArray × Int) (h : look L p = some c) : p ∈ keys L := by
  unfold look at h
  cases hf : L.find? (fun x => decide (x.1 = p)) with
  | none => rw [hf] at h; cases h
  | some y =>
    have h1 := List.find?_some hf
    have h2 := List.mem_of_find?_eq_some hf
    rw [decide_eq_true_eq] at h1
    rw [← h1]
    exact List.mem_map_of_mem h2
theorem putS_len (cap : Int) (L : List Pg) (p : Place) (c : ByteArray × Int) (h : (L.length : Int) ≤ cap) (hc : 1 ≤ cap) : ((putS cap L p c).length : Int) ≤ cap := by
  have := rmv_len L p
  unfold putS
  split
  · rw [List.length_drop, List.length_append, List.length_singleton]; omega
  · rw [List.length_append, List.length_singleton]; omega
theorem Sound.step {cap : Int} {s : St} {n : Nat} (h : Sound cap s n) (hc : 1 ≤ cap) (o : Opn) : Sound cap (stepO cap s o) (n + 1) := by
  obtain ⟨h1, h2, h3, h4, h5⟩ := h
  unfold stepO
  split
  · split
    · rename_i c hl
      have := rmv_lt _ _ (look_some_mem _ _ _ hl)
      refine ⟨?_, ?_, ?_, ?_, ?_⟩ <;> simp only [List.length_append, List.length_singleton] <;> omega
    · refine ⟨?_, ?_, ?_, ?_, ?_⟩ <;> simp only [] <;> omega
  · split
    · exact ⟨putS_len cap _ _ _ h1 hc, h2, h3, by simp only []; omega, by simp only []; omega⟩
    · split
      · have := List.length_filter_le (fun y : Pg => !invQ s.pages (o.id, o.page) o.ver y.1) s.pages
        exact ⟨by show ((invS _ _ _).length : Int) ≤ cap; unfold invS; omega, h2, h3, by simp only []; omega, by simp only []; omega⟩
      · split
        · have := List.length_filter_le (fun y : Pg => !decide (y.1.1 = o.id)) s.pages
          exact ⟨by show ((dropS _ _).length : Int) ≤ cap; unfold dropS; omega, h2, h3, by simp only []; omega, by simp only []; omega⟩
        · exact ⟨h1, h2, h3, by omega, by omega⟩
set_option maxRecDepth 100000 in
set_option maxHeartbeats 4000000 in
theorem do_any (x m base : Nat) (v : Value) (cap : Int) (s : St) (n : Nat) (o : Opn) (w : World) (S : Nat → Prop) (hp : PoolM w base x m v cap s.pages s.hits s.misses) (hF : Foot S w x m v) (hs : Sound cap s n) (hn : n ≤ 100000) (hcap : 1 ≤ cap ∧ cap ≤ 4096) (hbw : base ≤ w.heap.size) (hok : okOp o) :
    Calls Try.prog 18 #[.pointer (some ⟨x, 0, none⟩), .agg #[.int .i64 o.kind, .int .i64 o.id, .int .i64 o.page, .int .i64 o.ver, .string o.data]] w fun e w' => e = .returned (.tuple #[]) ∧ (∃ v', PoolM w' base x m v' cap (stepO cap s o).pages (stepO cap s o).hits (stepO cap s o).misses ∧ Foot S w' x m v') ∧ Turned S w w' := by
  obtain ⟨kind, id, page, ver, data⟩ := o
  obtain ⟨L, h, ms⟩ := s
  obtain ⟨k0, k1, k2, k3, k4⟩ := hok
  obtain ⟨s1, s2, s3, s4, s5⟩ := hs
  simp only at *
  have hP1 : PoolM (w.alloc (.cells #[.int .i64 kind, .int .i64 id, .int .i64 page, .int .i64 ver, .string data] 38)) base x m v cap L h ms := ⟨hp.blk.alloc _, hp.map.alloc _, hp.own.alloc _, hp.bx, hp.bm, hp.nd, hp.ok⟩
  have hbw1 : base ≤ (w.alloc (.cells #[.int .i64 kind, .int .i64 id, .int .i64 page, .int .i64 ver, .string data] 38)).heap.size := by simp; omega
  have ht1 := (Turned.refl S w).alloc (.cells #[.int .i64 kind, .int .i64 id, .int .i64 page, .int .i64 ver, .string data] 38)
  have hF1 := hF.next (w' := w.alloc (.cells #[.int .i64 kind, .int .i64 id, .int .i64 page, .int .i64 ver, .string data] 38)) (by simp) hF.own
  have HP := Lib.hid hp
  have HFT := Lib.hid hF1
  clear hp hF
  by_cases h0 : kind = 0
  · subst h0
    cases hl : look L (id, page) with
    | none =>
      have HG := Lib.hid (get_none x m base v cap h ms L id page _ S hP1 hF1 (by omega) hbw1 ⟨k1, k2⟩ (by omega) hl)
      have HST := Lib.hid (show stepO cap ⟨L, h, ms⟩ ⟨0, id, page, ver, data⟩ = ⟨L, h, ms + 1⟩ from by simp [stepO, hl])
      clear hF1 hP1 hl
      go_enter Try.func18, Try.ntmps18
      go_wp2_with fail
      refine HG.out.mono ?_
      rintro e w1 ⟨rfl, hp1, ht2⟩
      go_wp2_with fail
      go_end0
      rw [HST.out]
      exact ⟨rfl, hp1, ht1.trans ht2⟩
    | some c =>
      have HG := Lib.hid (get_some x m base v cap h ms L id page c.1 c.2 _ S hP1 hF1 (by omega) hbw1 ⟨k1, k2⟩ (by omega) hl)
      have HST := Lib.hid (show stepO cap ⟨L, h, ms⟩ ⟨0, id, page, ver, data⟩ = ⟨rmv L (id, page) ++ [((id, page), c)], h + 1, ms⟩ from by simp [stepO, hl])
      clear hF1 hP1 hl
      go_enter Try.func18, Try.ntmps18
      go_wp2_with fail
      refine HG.out.mono ?_
      rintro e w1 ⟨rfl, hp1, ht2⟩
      go_wp2_with fail
      go_end0
      rw [HST.out]
      exact ⟨rfl, hp1, ht1.trans ht2⟩
  · have b0 : (kind == 0) = false := beq_eq_false_iff_ne.2 h0
    by_cases h1 : kind = 1
    · subst h1
      have HG := Lib.hid (put_any x m base v cap h ms L id page data ver _ S hP1 hF1 (by omega) hcap hbw1 ⟨k1, k2⟩)
      have HST := Lib.hid (show stepO cap ⟨L, h, ms⟩ ⟨1, id, page, ver, data⟩ = ⟨putS cap L (id, page) (data, ver), h, ms⟩ from by simp [stepO])
      clear hF1 hP1 h0
      go_enter Try.func18, Try.ntmps18
      go_wp2_with fail
      refine HG.out.mono ?_
      rintro e w1 ⟨rfl, hp1, ht2⟩
      go_wp2_with fail
      go_end0
      rw [HST.out]
      exact ⟨rfl, hp1, ht1.trans ht2⟩
    · have b1 : (kind == 1) = false := beq_eq_false_iff_ne.2 h1
      by_cases h2 : kind = 2
      · subst h2
        have HG := Lib.hid (inv_any x m base v cap h ms L id page ver _ S hP1 hF1 (by omega) hbw1)
        have HST := Lib.hid (show stepO cap ⟨L, h, ms⟩ ⟨2, id, page, ver, data⟩ = ⟨invS L (id, page) ver, h, ms⟩ from by simp [stepO])
        clear hF1 hP1 h0 h1
        go_enter Try.func18, Try.ntmps18
        go_wp2_with fail
        refine HG.out.mono ?_
        rintro e w1 ⟨rfl, hp1, ht2⟩
        go_wp2_with fail
        go_end0
        rw [HST.out]
        exact ⟨rfl, hp1, ht1.trans ht2⟩
      · have b2 : (kind == 2) = false := beq_eq_false_iff_ne.2 h2
        by_cases h3 : kind = 3
        · subst h3
          have HG := Lib.hid (drop_any x m base v cap h ms L id _ S hP1 hF1 (by omega) hbw1)
          have HST := Lib.hid (show stepO cap ⟨L, h, ms⟩ ⟨3, id, page, ver, data⟩ = ⟨dropS L id, h, ms⟩ from by simp [stepO])
          clear hF1 hP1 h0 h1 h2
          go_enter Try.func18, Try.ntmps18
          go_wp2_with fail
          refine HG.out.mono ?_
          rintro e w1 ⟨rfl, hp1, ht2⟩
          go_wp2_with fail
          go_end0
          rw [HST.out]
          exact ⟨rfl, hp1, ht1.trans ht2⟩
        · have b3 : (kind == 3) = false := beq_eq_false_iff_ne.2 h3
          have HST := Lib.hid (show stepO cap ⟨L, h, ms⟩ ⟨kind, id, page, ver, data⟩ = ⟨L, h, ms⟩ from by simp [stepO, h0, h1, h2, h3])
          have HP1 := Lib.hid hP1
          clear hF1 hP1 h0 h1 h2 h3
          go_enter Try.func18, Try.ntmps18
          go_wp2_with fail
          go_end0
          rw [HST.out]
          exact ⟨rfl, ⟨v, HP1.out, HFT.out⟩, ht1⟩
set_option maxRecDepth 100000 in
set_option maxHeartbeats 2000000 in
theorem start_any (c : Nat) (hc : c < 256) (w : World) : Calls Try.prog 16 #[.int .u8 (c : Int)] w fun e w' => ∃ x m, ∃ n : Nat, n = 1 + c % 8 ∧ e = .returned (.tuple #[.pointer (some ⟨x, 0, none⟩), .int .i64 (n : Int)]) ∧ PoolM w' w.heap.size x m (.slice none 0 0) (n : Int) [] 0 0 ∧ Grew w w' := by
  obtain ⟨n, hn⟩ : ∃ n, n = 1 + c % 8 := ⟨_, rfl⟩
  have hn1 : 1 ≤ n := by omega
  have hn8 : n ≤ 8 := by omega
  have HN := Lib.hid hn
  obtain ⟨r, hr⟩ : ∃ r : Int, (c : Int) % 8 = r := ⟨_, rfl⟩
  have hr0 : 0 ≤ r := by omega
  have hr7 : r ≤ 7 := by omega
  have HRN := Lib.hid (show 1 + r = (n : Int) by omega)
  have hrb : 0 ≤ 1 + r ∧ 1 + r ≤ 1000000 := by omega
  have HNW := Lib.hid (new_any (1 + r) w (by omega) (by omega))
  clear hn
  go_enter Try.func16, Try.ntmps16
  go_wp2_with fail
  refine HNW.out.mono ?_
  rintro e w1 ⟨x, m, rfl, hp, hg⟩
  rw [HRN.out] at hp ⊢
  have HP := Lib.hid hp
  clear hp
  go_wp2_with fail
  go_ret2
  exact ⟨x, m, n, HN.out, rfl, HP.out, hg⟩
end Go.Proofs.Ytfmhiocigoejjaa
