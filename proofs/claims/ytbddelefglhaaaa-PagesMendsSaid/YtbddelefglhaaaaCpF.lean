/- Chapter 4: entries are written to their places (pages.Store.complete). Chapter 4: a raw sector is read (pages.Store.read). Chapter 4: the top; a sector that must have a version. Chapter 4: small methods (fits, newStore, view, Sectors, Writer). Chapter 4: an unfinished intent, prepared (plain facts; pages.Store.intent$1). Chapter 4: an unfinished intent (pages.Store.intent). Chapter 4: an unfinished intent, looked through (pages.Store.intent). -/
import Derived.Deep.LoopGhost
import Derived.Test.YtbddelefglhaaaaCpE
namespace Go.Proofs.Ytbddelefglhaaaa
set_option linter.unusedVariables false
set_option linter.unusedSimpArgs false
set_option linter.unusedSectionVars false
open Go.RowKit
attribute [local go_sem ↓] Go.wp_at_zero Go.wp_at_succ
def entC (e : Int × ByteArray) : List Value := [.int .i64 e.1, .string e.2]
theorem info_fun : (Try.prog.info? 104).map (fun i => (i.zero, i.size, i.bytes)) = some (some .nilFunc, 1, 8) := by kernel_rfl
theorem PutAt.same {W W' : World} {lo s : Nat} {i : Int} {raw : ByteArray} {v : Value} (h : PutAt W lo s i raw v) (hk : ∀ k t cs, lo ≤ k → t ≠ 104 → Blk W k t cs → Blk W' k t cs) : PutAt W' lo s i raw v := by
  obtain ⟨a, b, c, rfl, la, lb, lc, ha, hbb, hc⟩ := h
  exact ⟨a, b, c, rfl, la, lb, lc, hk a _ _ la (by decide) ha, hk b _ _ lb (by decide) hbb, hk c _ _ lc (by decide) hc⟩
theorem PutAt.form {W : World} {lo s : Nat} {i : Int} {raw : ByteArray} {v : Value} (h : PutAt W lo s i raw v) : ∃ caps, v = .func (.func 81) #[] caps := by
  obtain ⟨a, b, c, rfl, _⟩ := h
  exact ⟨_, rfl⟩
theorem PutAt.grew {W W' : World} {lo s : Nat} {i : Int} {raw : ByteArray} {v : Value} (h : PutAt W lo s i raw v) (hg : Grew W W') : PutAt W' lo s i raw v := h.same fun _ _ _ _ _ hb => hb.grew hg
theorem PutAt.low {W : World} {lo lo' s : Nat} {i : Int} {raw : ByteArray} {v : Value} (h : PutAt W lo s i raw v) (hl : lo' ≤ lo) : PutAt W lo' s i raw v := by
  obtain ⟨a, b, c, rfl, la, lb, lc, ha, hbb, hc⟩ := h
  exact ⟨a, b, c, rfl, by omega, by omega, by omega, ha, hbb, hc⟩
/-- .. while the list of functions itself grows. -/
theorem PutAt.own {W W' : World} {lo s : Nat} {i : Int} {raw : ByteArray} {v u : Value} {rows : List (List Value)} {base : Nat} (h : PutAt W lo s i raw v) (hown : OwnL W base 104 1 u rows) (hg : W.grownBy W' u.ownBlock) : PutAt W' lo s i raw v :=
  h.same fun _ _ _ _ hne hb => hb.own hg (hown.ne_blk hb (fun e => hne e.symm))
/-- The functions of a list of writes so far. -/
def PutsAt (W : World) (lo s : Nat) (L : List (Int × ByteArray)) (vs : List Value) : Prop := vs.length = L.length ∧ ∀ (k : Nat) (e : Int × ByteArray) (v : Value), L[k]? = some e → vs[k]? = some v → PutAt W lo s e.1 e.2 v
theorem PutsAt.grew {W W' : World} {lo s : Nat} {L : List (Int × ByteArray)} {vs : List Value} (h : PutsAt W lo s L vs) (hg : Grew W W') : PutsAt W' lo s L vs := ⟨h.1, fun k e v h1 h2 => (h.2 k e v h1 h2).grew hg⟩
theorem PutsAt.own {W W' : World} {lo s : Nat} {L : List (Int × ByteArray)} {vs : List Value} {u : Value} {rows : List (List Value)} {base : Nat} (h : PutsAt W lo s L vs) (hown : OwnL W base 104 1 u rows) (hg : W.grownBy W' u.ownBlock) : PutsAt W' lo s L vs := ⟨h.1, fun k e v h1 h2 => (h.2 k e v h1 h2).own hown hg⟩
theorem PutsAt.snoc {W : World} {lo s : Nat} {L : List (Int × ByteArray)} {vs : List Value} {e : Int × ByteArray} {v : Value} (h : PutsAt W lo s L vs) (hp : PutAt W lo s e.1 e.2 v) : PutsAt W lo s (L ++ [e]) (vs ++ [v]) := by
  refine ⟨by rw [List.length_append, List.length_append, h.1]; rfl, fun k e' v' h1 h2 => ?_⟩
  rcases Nat.lt_or_ge k L.length with hk | hk
  · rw [List.getElem?_append_left hk] at h1
    rw [List.getElem?_append_left (by rw [h.1]; exact hk)] at h2
    exact h.2 k e' v' h1 h2
  · rw [List.getElem?_append_right hk] at h1
    rw [List.getElem?_append_right (by rw [h.1]; exact hk), h.1] at h2
    have h0 : k - L.length = 0 := by have := (List.getElem?_eq_some_iff.1 h1).1; simp at this; omega
    rw [h0] at h1 h2
    obtain rfl : e = e' := by simpa using h1
    obtain rfl : v = v' := by simpa using h2
    exact hp
theorem PutsAt.nil (W : World) (lo s : Nat) : PutsAt W lo s [] [] := ⟨rfl, fun k e v h => by simp at h⟩
theorem ones_len (l : List Value) : ∀ r ∈ (l.map fun v => [v]), r.length = 1 := by
  intro r hr
  obtain ⟨v, _, rfl⟩ := List.mem_map.1 hr
  rfl
theorem ones_one {l : List Value} (h : l.all (·.oneCell') = true) : ∀ r ∈ (l.map fun v => [v]), r.all (·.oneCell') = true := by
  intro r hr
  obtain ⟨v, hv, rfl⟩ := List.mem_map.1 hr
  have := List.all_eq_true.1 h v hv
  simp [this]
theorem ones_blk {w : World} {g B : Nat} {t : TypeId} {l : List Value} (h : Blk w g t l.toArray) (hB : g < B) : ListAt w B 1 (some ⟨g, 0, none⟩) (l.map fun v => [v]) := fun _ => ⟨g, 0, rfl, hB, fun j cs hj i v hi => by
  rw [List.getElem?_map] at hj
  cases hq : l[j]? with
  | none => rw [hq] at hj; cases hj
  | some u =>
    rw [hq] at hj
    obtain rfl : [u] = cs := by simpa using hj
    have h0 : i = 0 := by have := (List.getElem?_eq_some_iff.1 hi).1; simp at this; omega
    subst h0
    obtain rfl : u = v := by simpa using hi
    rw [h.cell]
    simpa using hq⟩
theorem ent_at {w : World} {B : Nat} {A : Option Addr} {l : List (Int × ByteArray)} (h : ListAt w B 2 A (l.map entC)) {k : Nat} (hk : k < l.length) :
    ∃ b off, A = some ⟨b, off, none⟩ ∧ b < B ∧ w.cell? ⟨b, off + k * 2, none⟩ = some (.int .i64 l[k].1) ∧ w.cell? ⟨b, off + k * 2 + 1, none⟩ = some (.string l[k].2) := by
  obtain ⟨b, off, e, hb, hc⟩ := h (by rw [List.length_map]; omega)
  have hj : (l.map entC)[k]? = some (entC l[k]) := by rw [List.getElem?_map, List.getElem?_eq_getElem hk]; rfl
  exact ⟨b, off, e, hb, by have := hc k _ hj 0 _ rfl; rwa [Nat.add_zero] at this, hc k _ hj 1 _ rfl⟩
theorem Beside.wide {w0 W w1 w2 : World} {out out' : Nat → Prop} (hg : Grew W w1) (h : Beside w0 out' w1 w2) (ho : ∀ k, out k → out' k) : Beside w0 out W w2 :=
  (hg.turned _).trans (h.mono fun k _ hk => ⟨hk.1, fun h9 => hk.2 (ho k h9)⟩)
theorem WorksL.puts {w0 : World} {x s m : Nat} {sy ep : Int} {out : Nat → Prop} {W : World} (hb : Blk W s 110 (storeC x sy ep m)) (hs : out s) {lo : Nat} (hlo : ∀ k, lo ≤ k → k < W.heap.size → out k) {L : List (Int × ByteArray)} (hsz : ∀ e ∈ L, e.2.size ≤ 9223372036854775807) {vs : List Value} (h : PutsAt W lo s L vs) :
    WorksL w0 x out W 1 (L.map fun e D => writeD D sy ep e.1 e.2) vs := by
  refine ⟨by rw [List.length_map]; exact h.1, fun k f v h1 h2 => ?_⟩
  rw [List.getElem?_map] at h1
  cases hq : L[k]? with
  | none => rw [hq] at h1; cases h1
  | some e =>
    rw [hq] at h1
    obtain rfl := Option.some.inj h1
    exact works_put hb hs hlo (hsz e (List.mem_of_getElem? hq)) (h.2 k e v hq h2)
def complF (sy ep : Int) (L : List (Int × ByteArray)) : List (Dev → Dev × Int) := L.map (fun e D => writeD D sy ep e.1 e.2) ++ [fun D => syncD D sy ep, fun D => writeD D sy ep 33 blankR, fun D => syncD D sy ep]
theorem complF_run (sy ep : Int) (L : List (Int × ByteArray)) (D : Dev) : runF (complF sy ep L) D = runS sy ep (complS L) D := by
  rw [← runF_S]
  congr 1
  unfold complF complS
  rw [List.map_append, List.map_map]
  rfl
section
variable {w0 : World} {x s m : Nat} {sy ep : Int} {D : Dev} {out : Nat → Prop} {W : World} (hL : Live w0 x D out W) (hb : Blk W s 110 (storeC x sy ep m)) (hs : out s) (hp : D.pend.length ≤ 980000)
include hL hb hs hp
/-- The last call of 'complete'. -/
theorem compl_do (L : List (Int × ByteArray)) (hl : L.length ≤ 1000) (hsz : ∀ e ∈ L, e.2.size ≤ 9223372036854775807) {w2 : World} {vs : List Value} {v2 : Value} (hg2 : Grew W w2) (hpa : PutsAt w2 W.heap.size s L vs)
    (hown : OwnL w2 W.heap.size 104 1 v2 ((vs ++ ([.func (.func 61) #[ptrV s] #[], .func (.func 77) #[ptrV s] #[], .func (.func 61) #[ptrV s] #[]] : List Value)).map fun v => [v])) :
    ∃ A2 n2 c2, v2 = .slice A2 n2 c2 ∧ Calls Try.prog 64 #[.slice A2 n2 c2] w2 fun e w' => e = .returned (.int .i64 (runS sy ep (complS L) D).2) ∧ Live w0 x (runS sy ep (complS L) D).1 out w' ∧ Beside w0 out W w' := by
  obtain ⟨A2, c2, hv2, _, _, hla⟩ := hown.listAt
  rw [List.length_map] at hv2
  have hvl := hpa.1
  have hlen : (vs ++ ([.func (.func 61) #[ptrV s] #[], .func (.func 77) #[ptrV s] #[], .func (.func 61) #[ptrV s] #[]] : List Value)).length = L.length + 3 := by rw [List.length_append, hvl]; rfl
  refine ⟨A2, _, c2, hv2, ?_⟩
  have hb2 := hb.grew hg2
  have ho2 : (fun k => out k ∨ (W.heap.size ≤ k ∧ k < w2.heap.size)) s := .inl hs
  have hlo : ∀ k, W.heap.size ≤ k → k < w2.heap.size → (fun k => out k ∨ (W.heap.size ≤ k ∧ k < w2.heap.size)) k := fun k h1 h2 => .inr ⟨h1, h2⟩
  refine (do_works (hL.more hg2) 1 (complF sy ep L) _ ((WorksL.puts hb2 ho2 hlo hsz hpa).app (WorksL.cons ((works_sync hb2 ho2).more (by omega)) (WorksL.cons (works_clear hb2 ho2) (WorksL.cons ((works_sync hb2 ho2).more (by omega)) (WorksL.nil ..))))) (by omega) (by omega) A2 c2 hla (fun b off e => ?_)).mono ?_
  · rcases hown.form with ⟨_, h0⟩ | ⟨g, cap, e1, h1, h2, _⟩
    · have := congrArg List.length h0; rw [List.length_map, hlen, List.length_nil] at this; omega
    · rw [e1] at hv2
      injection hv2 with hv2 _ _
      rw [e] at hv2
      injection hv2 with hv2
      injection hv2 with hv2 _ _
      subst hv2
      exact .inr (.inr ⟨h1, h2⟩)
  · rintro e w' ⟨he, h1, h2, _⟩
    rw [complF_run] at he h1
    exact ⟨he, h1.few (fun k hk => .inl hk), Beside.wide hg2 h2 (fun k hk => .inl hk)⟩
set_option maxRecDepth 100000 in
set_option maxHeartbeats 2000000 in
theorem complete_any (L : List (Int × ByteArray)) (hl : L.length ≤ 1000) (hsz : ∀ e ∈ L, e.2.size ≤ 9223372036854775807) (A : Option Addr) (c : Nat) (hat : ListAt W W.heap.size 2 A (L.map entC)) :
    Calls Try.prog 63 #[ptrV s, .slice A L.length c] W fun e w' => e = .returned (.int .i64 (runS sy ep (complS L) D).2) ∧ Live w0 x (runS sy ep (complS L) D).1 out w' ∧ Beside w0 out W w' := by
  have HL := Lib.hid hL
  have HB := Lib.hid hb
  have HAT := Lib.hid hat
  have HS := Lib.hid hs
  have HP := Lib.hid hp
  have HSZ := Lib.hid hsz
  have hsl := hb.lt
  clear hL hb hat hs hp hsz
  go_enter Try.func63, Try.ntmps63
  go_wp2_with fail
  go_loopg [5, 10] L.length (fun gk u i wr => ∃ (k : Nat) (vs : List Value), k ≤ L.length ∧ gk = L.length - k ∧ i = .int .i64 k ∧ OwnL wr W.heap.size 104 1 u (vs.map fun v => [v]) ∧ PutsAt wr W.heap.size s (L.take k) vs ∧ Grew W wr)
  case atStart => exact ⟨0, [], by omega, by omega, rfl, OwnL.nil .., PutsAt.nil .., Grew.refl _⟩
  case round =>
    obtain ⟨k, vs, hk, hgk, rfl, hown, hpa, hg⟩ := hrel
    have HGK := Lib.hid hgk
    have HOWN := Lib.hid hown
    have HPA := Lib.hid hpa
    have HG := Lib.hid hg
    clear hgk hown hpa hg
    by_cases hlt : k < L.length
    · obtain ⟨b, off, rfl, hbb, c0, c1⟩ := ent_at (HAT.out.keep (Nat.le_refl _) HG.out) hlt
      have hki : (k : Int) < (L.length : Int) := by omega
      go_wp2_with fail
      refine (put_any _ _ _ _).mono ?_
      rintro e w1 ⟨v, rfl, hput, g1⟩
      obtain ⟨caps, rfl⟩ := hput.form
      have hg1 : Grew W w1 := (HG.out.alloc _).trans g1
      have hown1 := (HOWN.out.alloc (.cells #[.int .i64 L[k].1, .string L[k].2] 101)).grew g1
      have hpa1 := (HPA.out.grew ((Grew.refl wr).alloc (.cells #[.int .i64 L[k].1, .string L[k].2] 101))).grew g1
      have hput1 := (hput.low (by simp; have := HG.out.size; omega) : PutAt w1 W.heap.size s L[k].1 L[k].2 (.func (.func 81) #[] caps))
      have HG1 := Lib.hid hg1
      have HOWN1 := Lib.hid hown1
      have HPA1 := Lib.hid (hpa1.snoc (e := L[k]) hput1)
      have hvl : vs.length = k := by have := HPA.out.1; rw [List.length_take] at this; omega
      have hgs : W.heap.size ≤ w1.heap.size := hg1.size
      clear hput g1 hg1 hown1 hpa1 hput1
      go_wp2_with (at_builtin; refine wpList_push2 rfl _ _ 103 rfl W.heap.size 104 1 8 .nilFunc Try.underlying103 info_fun rfl (by decide) (w1.alloc (.cells #[.func (.func 81) #[] caps] 104)) u5 (vs.map fun v => [v]) [.func (.func 81) #[] caps] rfl rfl (HOWN1.out.alloc _) w1.heap.size (by rfl) (Blk.new _ _ _ rfl) rfl (by rw [List.length_map]; omega) (by rw [List.length_map]; omega) (by simp; omega) k (by rw [List.length_map]; omega) ?_)
      intro g2 cap2 w2 hown2 hgb _ _
      have hg2 : Grew W w2 := (HG1.out.alloc _).own hgb HOWN1.out.row_ge (Nat.le_refl _)
      have hpa2 := (HPA1.out.grew ((Grew.refl w1).alloc (.cells #[.func (.func 81) #[] caps] 104))).own (HOWN1.out.alloc (.cells #[.func (.func 81) #[] caps] 104)) hgb
      have HOWN2 := Lib.hid hown2
      have HG2 := Lib.hid hg2
      have HPA2 := Lib.hid hpa2
      have HTK := Lib.hid (List.take_succ_eq_append_getElem hlt)
      clear hown2 hgb hg2 hpa2
      go_wp2_with fail
      go_roundg (L.length - (k + 1))
      case measure => rw [HGK.out]; omega
      case rel => exact ⟨k + 1, vs ++ [.func (.func 81) #[] caps], by omega, by omega, by go_num, by rw [List.map_append]; exact HOWN2.out, by rw [HTK.out]; exact HPA2.out, HG2.out⟩
    · obtain rfl : k = L.length := by omega
      have hvl : vs.length = L.length := by have := HPA.out.1; rw [List.length_take] at this; omega
      have htk : L.take L.length = L := List.take_of_length_le (Nat.le_refl _)
      rw [htk] at HPA
      clear htk
      have hgs : W.heap.size ≤ wr.heap.size := HG.out.size
      go_wp2_with (at_builtin; refine wpList_pushAll (by rfl) _ _ 103 rfl W.heap.size 104 1 8 .nilFunc Try.underlying103 info_fun rfl (by decide) u5 (vs.map fun v => [v]) (([.func (.func 61) #[ptrV s] #[], .func (.func 77) #[ptrV s] #[], .func (.func 61) #[ptrV s] #[]] : List Value).map fun v => [v]) rfl (HOWN.out.alloc _) (some ⟨wr.heap.size, 0, none⟩) 3 3 (by rfl) rfl (ones_len _) (ones_blk (Blk.new _ _ _ rfl) (by simp)) (ones_one (by rfl)) (by rw [List.length_map]; omega) (by rw [List.length_map]; omega) (by simp; omega) ?_)
      intro v2 w2 hown2 hgb _
      have hg2 : Grew W w2 := (HG.out.alloc _).own hgb HOWN.out.row_ge (Nat.le_refl _)
      have hpa2 := (HPA.out.grew ((Grew.refl wr).alloc (.cells #[.func (.func 61) #[ptrV s] #[], .func (.func 77) #[ptrV s] #[], .func (.func 61) #[ptrV s] #[]] 104))).own (HOWN.out.alloc (.cells #[.func (.func 61) #[ptrV s] #[], .func (.func 77) #[ptrV s] #[], .func (.func 61) #[ptrV s] #[]] 104)) hgb
      have HD := Lib.hid (compl_do HL.out HB.out HS.out HP.out L hl HSZ.out hg2 hpa2 (by rw [List.map_append]; exact hown2))
      clear hown2 hgb hpa2 hg2
      obtain ⟨A2, n2, c2, rfl, hd⟩ := HD.out
      have HDD := Lib.hid hd
      clear hd
      go_wp2_with fail
      refine HDD.out.mono ?_
      rintro e w3 ⟨rfl, hL3, hB3⟩
      go_wp2_with fail
      go_ret
      exact ⟨rfl, hL3, hB3⟩
end
end Go.Proofs.Ytbddelefglhaaaa
namespace Go.Proofs.Ytbddelefglhaaaa
set_option linter.unusedVariables false
set_option linter.unusedSimpArgs false
set_option linter.unusedSectionVars false
open Go.RowKit
attribute [local go_sem ↓] Go.wp_at_zero Go.wp_at_succ
def rawV (r : Raw) : Value := .agg #[.string r.data, .int .u32 (u32 r.ver), .bool r.ok]
/-- What reading a raw sector gives. -/
def readR (D : Dev) (i : Int) : Raw × Int := if (readD D i).2 = 0 then (rawOf (readD D i).1 i, 0) else (rawZ, (readD D i).2)
theorem rawOf_unpack (t : ByteArray) (i : Int) : ∃ er, unpackS t i = ((rawOf t i).data, (rawOf t i).ver, er) ∧ (rawOf t i).ok = (er == 0) := by
  unfold rawOf unpackS
  by_cases h : okR t i
  · rw [if_pos h, if_pos h]; exact ⟨0, rfl, rfl⟩
  · rw [if_neg h, if_neg h]; exact ⟨11, rfl, rfl⟩
theorem zero_memo (w : World) : (zeroValue 150).run Try.prog w = .ok (.agg #[.string ⟨#[]⟩, .string ⟨#[]⟩, .int .u32 0, .bool false]) w := by kernel_rfl
theorem lastW_mem (l : List Wr) (i : Nat) (s : ByteArray) (h : lastW l i = some s) : ∃ r ∈ l, r.data = s := by
  induction l with
  | nil => cases h
  | cons r l ih =>
    unfold lastW at h
    cases hq : lastW l i with
    | some t =>
      rw [hq] at h
      obtain ⟨r', h1, h2⟩ := ih (by rw [hq]; exact h)
      exact ⟨r', List.mem_cons_of_mem _ h1, h2⟩
    | none =>
      rw [hq] at h
      dsimp only at h
      split at h
      · exact ⟨r, List.mem_cons_self .., Option.some.inj h⟩
      · cases h
theorem content_size {D : Dev} (h : D.Ok) {i : Nat} (hi : i < D.st.length) : (D.content i).size = 140 := by
  unfold Dev.content
  cases hq : lastW D.pend i with
  | none => exact at_size h hi
  | some s =>
    obtain ⟨r, h1, h2⟩ := lastW_mem _ _ _ hq
    show s.size = 140
    rw [← h2]
    exact (h.pend r h1).2.1
theorem readD_size {D : Dev} (h : D.Ok) {i : Int} {t : ByteArray} (hr : readD D i = (t, 0)) : t.size = 140 := by
  unfold readD at hr
  split at hr
  · injection hr with _ h2; cases h2
  split at hr
  · injection hr with _ h2; cases h2
  · rename_i h1 _
    injection hr with h1' _
    rw [← h1']
    have : thereD D i = true := by simpa using h1
    unfold thereD at this
    have := of_decide_eq_true this
    exact content_size h (by omega)
theorem Live.turn1 {w0 ws ws' : World} {x m : Nat} {D : Dev} {out : Nat → Prop} (h : Live w0 x D out ws) (hm : out m) (h0 : w0.heap.size ≤ m) (ht : Turned (fun k => k = m) ws ws') : Live w0 x D out ws' := by
  obtain ⟨q, hx, hd, hg0, hf, hn⟩ := h
  exact ⟨q, hx, hd.kept ht (fun k hk h => (hn m hm).2 (h ▸ hk)), hg0.turn ht (fun k hk => by rw [hk]; exact h0), hf, fun k hk => ⟨Nat.lt_of_lt_of_le (hn k hk).1 ht.size, (hn k hk).2⟩⟩
/-- The store has looked at something. -/
structure Looked (w0 : World) (x s m : Nat) (sy ep : Int) (D : Dev) (out : Nat → Prop) (W w' : World) : Prop where
  live : Live w0 x D out w'
  store : StoreM w' s m x sy ep
  turned : Turned (fun k => k = m) W w'
/-- A store of a device, in a law. -/
structure Held (w0 : World) (x s m : Nat) (sy ep : Int) (D : Dev) (out : Nat → Prop) (W : World) : Prop where
  live : Live w0 x D out W
  store : StoreM W s m x sy ep
  os : out s
  om : out m
  m0 : w0.heap.size ≤ m
theorem Held.grew {w0 : World} {x s m : Nat} {sy ep : Int} {D : Dev} {out : Nat → Prop} {W W' : World} (h : Held w0 x s m sy ep D out W) (hg : Grew W W') : Held w0 x s m sy ep D out W' := ⟨h.live.grew hg, h.store.grew hg, h.os, h.om, h.m0⟩
theorem Held.after {w0 : World} {x s m : Nat} {sy ep : Int} {D : Dev} {out : Nat → Prop} {W W' : World} (h : Held w0 x s m sy ep D out W) (hl : Looked w0 x s m sy ep D out W W') : Held w0 x s m sy ep D out W' := ⟨hl.live, hl.store, h.os, h.om, h.m0⟩
theorem Looked.trans {w0 : World} {x s m : Nat} {sy ep : Int} {D : Dev} {out : Nat → Prop} {a b c : World} (h : Looked w0 x s m sy ep D out a b) (k : Looked w0 x s m sy ep D out b c) : Looked w0 x s m sy ep D out a c := ⟨k.live, k.store, h.turned.trans k.turned⟩
theorem Held.same {w0 : World} {x s m : Nat} {sy ep : Int} {D : Dev} {out : Nat → Prop} {W W' : World} (h : Held w0 x s m sy ep D out W) (hg : Grew W W') : Looked w0 x s m sy ep D out W W' := ⟨h.live.grew hg, h.store.grew hg, hg.turned _⟩
theorem Looked.grew {w0 : World} {x s m : Nat} {sy ep : Int} {D : Dev} {out : Nat → Prop} {a b c : World} (h : Looked w0 x s m sy ep D out a b) (hg : Grew b c) : Looked w0 x s m sy ep D out a c := ⟨h.live.grew hg, h.store.grew hg, h.turned.trans (hg.turned _)⟩
/-- The answer of a call: a raw sector and an error. -/
def RawR (w0 : World) (x s m : Nat) (sy ep : Int) (D : Dev) (out : Nat → Prop) (W : World) (r : Raw × Int) (e : Ending) (w' : World) : Prop :=
  e = .returned (.tuple #[rawV r.1, .int .i64 r.2]) ∧ Looked w0 x s m sy ep D out W w'
theorem looked_upd {w0 : World} {x s m : Nat} {sy ep : Int} {D : Dev} {out : Nat → Prop} {W w4 w9 : World} {F : Int → Option Value} {i : Int} {t : ByteArray} {g : Nat} (h : Held w0 x s m sy ep D out W) (hF : ∀ i v, F i = some v → ∃ t : ByteArray, t.size ≤ 200 ∧ v = memoV t i) (hm : MapI w4 m (upd F i (some (memoV t i))))
    (ht : Turned (fun k => k = m) W w4) (h9 : Turned (fun k => k = g) w4 w9) (hg : W.heap.size ≤ g ∧ ¬ g = m ∧ t.size ≤ 200) : Looked w0 x s m sy ep D out W w9 := by
  have hT : Turned (fun k => k = m) W w9 := ht.next h9 (fun k hk e => absurd hk (by omega))
  refine ⟨h.live.turn1 h.om h.m0 hT, ⟨h.store.blk.turned hT h.store.ne, _, hm.turned h9 (fun e => hg.2.1 e.symm), fun j v hj => ?_⟩, hT⟩
  by_cases hji : j = i
  · subst hji
    rw [upd_same] at hj
    exact ⟨t, hg.2.2, (Option.some.inj hj).symm⟩
  · rw [upd_other _ _ hji] at hj
    exact hF j v hj
section
variable {w0 : World} {x s m : Nat} {sy ep : Int} {D : Dev} {out : Nat → Prop} {W : World} (h : Held w0 x s m sy ep D out W)
include h
set_option maxRecDepth 100000 in
set_option maxHeartbeats 2000000 in
theorem read_any' (i : Int) (hi : okI i) : Calls Try.prog 72 #[ptrV s, .int .i64 i] W (RawR w0 x s m sy ep D out W (readR D i)) := by
  obtain ⟨⟨t, er⟩, hr⟩ : ∃ r, readD D i = r := ⟨_, rfl⟩
  have hb := h.store.blk
  unfold storeC at hb
  have s0 := hb.cell 0
  have s3 := hb.cell 3
  have hsl := hb.lt
  have hb4 : Blk (W.alloc (.cells #[.string ⟨#[]⟩, .int .u32 0, .bool false] 87)) W.heap.size 87 #[.string ⟨#[]⟩, .int .u32 0, .bool false] := Blk.new W _ _ rfl
  have HR := Lib.hid (fun w1 (hg : Grew W w1) => read_live (h.live.grew hg) i t er hr)
  by_cases h0 : er = 0
  · subst h0
    have htz := readD_size h.live.ok hr
    have hts : t.size ≤ 140 := by omega
    have HRR : Hid (readR D i = (rawOf t i, 0)) := Lib.hid (by unfold readR; rw [hr]; exact if_pos rfl)
    have HH := Lib.hid h
    obtain ⟨F, hF, hFm⟩ := h.store.seen
    have HFM := Lib.hid hFm
    have HFF := Lib.hid hF
    obtain ⟨kl, hkl⟩ := int_key i hi
    have HKL := Lib.hid hkl
    have hlk := hF.lookup_ok int_keyedI intV_inj Try.underlying108 (zero_memo _) i hkl
    have HLK := Lib.hid (fun w1 (hg : Grew W w1) => (hF.grew hg).lookup_ok int_keyedI intV_inj Try.underlying108 (zero_memo _) i hkl)
    obtain ⟨eu, hu, hok⟩ := rawOf_unpack t i
    have HU := Lib.hid (fun w1 => unpack_any t i w1 (by omega) hi _ _ _ hu)
    have HOK := Lib.hid hok
    have HSB := Lib.hid h.store.blk
    clear hlk hF hFm hkl hu hok h hr htz
    cases hFi : F i with
    | none =>
        rw [hFi] at HLK
        clear hFi
        have hlk := HLK.out (W.alloc (.cells #[.string ⟨#[]⟩, .int .u32 0, .bool false] 87)) ((Grew.refl W).alloc _)
        simp only [Option.getD_none, Option.isSome_none] at hlk
        go_enter Try.func72, Try.ntmps72
        go_wp2_with fail
        refine (HR.out _ ((Grew.refl W).alloc _)).mono ?_
        rintro e w1 ⟨rfl, rfl⟩
        go_wp2_with fail
        refine (HU.out _).mono ?_
        rintro e w2 ⟨rfl, g2⟩
        have hg2 : Grew W w2 := (((Grew.refl W).alloc _).alloc _).trans g2
        have hs2 := HSB.out.grew hg2
        have hz2 := (hb4.alloc _).grew g2
        have p0 := hs2.cell 0
        have p3 := hs2.cell 3
        have pl := hs2.lt
        have z0 := hz2.cell 0
        have z1 := hz2.cell 1
        have z2 := hz2.cell 2
        have f0 := hz2.frozen 0
        have f1 := hz2.frozen 1
        have f2 := hz2.frozen 2
        have zl := hz2.lt
        unfold storeC at p0 p3
        have HG2 := Lib.hid hg2
        have HS2 := Lib.hid hs2
        have HZ2 := Lib.hid hz2
        clear hg2 hs2 hz2 g2 hlk
        go_wp2_with fail
        rw [show (eu == 0) = (rawOf t i).ok from HOK.out.symm]
        have hgx : Grew w2 (w2.alloc (.cells #[.string (rawOf t i).data, .int .u32 (u32 (rawOf t i).ver), .bool (rawOf t i).ok] 87)).drew := ((Grew.refl w2).alloc _).drew
        have hxb : Blk (w2.alloc (.cells #[.string (rawOf t i).data, .int .u32 (u32 (rawOf t i).ver), .bool (rawOf t i).ok] 87)).drew w2.heap.size 87 #[.string (rawOf t i).data, .int .u32 (u32 (rawOf t i).ver), .bool (rawOf t i).ok] := (Blk.new w2 _ _ rfl).drew
        have hs3 := HS2.out.grew hgx
        have hz3 := HZ2.out.grew hgx
        have hm3 := (HFF.out.grew HG2.out).grew hgx
        have hg3 := HG2.out.trans hgx
        have hml := HFF.out.lt
        have hsml := HG2.out.size
        obtain ⟨kl, hkl⟩ : ∃ kl, keyOf Try.prog 3 (intV i) = some kl := ⟨_, HKL.out⟩
        refine wp_region_R [8] (fun w' : World => w'.cell? ⟨s, 3, none⟩ = some (.map (some m)) ∧ s < w'.heap.size ∧ w'.cell? ⟨w2.heap.size, 0, none⟩ = some (.string (rawOf t i).data) ∧ w'.cell? ⟨w2.heap.size, 1, none⟩ = some (.int .u32 (u32 (rawOf t i).ver)) ∧ w'.cell? ⟨w2.heap.size, 2, none⟩ = some (.bool (rawOf t i).ok) ∧ w2.heap.size < w'.heap.size) (by kernel_rfl) ?_
        have hS := (show (fun w' : World => w'.cell? ⟨s, 3, none⟩ = some (.map (some m)) ∧ s < w'.heap.size ∧ w'.cell? ⟨w2.heap.size, 0, none⟩ = some (.string (rawOf t i).data) ∧ w'.cell? ⟨w2.heap.size, 1, none⟩ = some (.int .u32 (u32 (rawOf t i).ver)) ∧ w'.cell? ⟨w2.heap.size, 2, none⟩ = some (.bool (rawOf t i).ok) ∧ w2.heap.size < w'.heap.size) (w2.alloc (.cells #[.string (rawOf t i).data, .int .u32 (u32 (rawOf t i).ver), .bool (rawOf t i).ok] 87)).drew from ⟨hs3.cell 3, hs3.lt, hxb.cell 0, hxb.cell 1, hxb.cell 2, hxb.lt⟩)
        clear p0 p3 pl z0 z1 z2 f0 f1 f2 zl
        refine wpAnyR_takeQ (i := 0) (v := ?_) (some 56) rfl rfl (by kernel_rfl) (by kernel_rfl) (by kernel_rfl) (by kernel_rfl) (fun _ _ _ h => h) (Or.inl ⟨by rfl, ?_⟩) ?_
        rotate_left
        focus (intro wS hSw; (try dsimp only at hSw); go_simp; (try with_reducible rfl); (try (first | (rw [if_pos (by omega)]; (try go_simp); (try with_reducible rfl)) | (rw [if_neg (by omega)]; (try go_simp); (try with_reducible rfl)))))
        try simp only [Act.put, List.setIfInBounds_toArray, List.set_cons_zero, List.set_cons_succ]
        refine wpAnyR_take (i := 1) (v := ?_) [2, 3, 8] (some 57) rfl rfl (by kernel_rfl) (by kernel_rfl) (by kernel_rfl) (by kernel_rfl) (by kernel_rfl) (by kernel_rfl) (by kernel_rfl) (fun _ _ _ h => h) (Or.inl ⟨by rfl, ?_⟩) hS ?_
        rotate_left
        focus (intro wS hSw; (try dsimp only at hSw); go_simp; (try with_reducible rfl); (try (first | (rw [if_pos (by omega)]; (try go_simp); (try with_reducible rfl)) | (rw [if_neg (by omega)]; (try go_simp); (try with_reducible rfl)))))
        try simp only [Act.put, List.setIfInBounds_toArray, List.set_cons_zero, List.set_cons_succ]
        refine wpAnyR_takeQ (i := 2) (v := ?_) (some 58) rfl rfl (by kernel_rfl) (by kernel_rfl) (by kernel_rfl) (by kernel_rfl) (fun _ _ _ h => h) (Or.inl ⟨by rfl, ?_⟩) ?_
        rotate_left
        focus (intro wS hSw; (try dsimp only at hSw); go_simp; (try with_reducible rfl); (try (first | (rw [if_pos (by omega)]; (try go_simp); (try with_reducible rfl)) | (rw [if_neg (by omega)]; (try go_simp); (try with_reducible rfl)))))
        try simp only [Act.put, List.setIfInBounds_toArray, List.set_cons_zero, List.set_cons_succ]
        refine wpAnyR_take (i := 3) (v := ?_) [8] (some 59) rfl rfl (by kernel_rfl) (by kernel_rfl) (by kernel_rfl) (by kernel_rfl) (by kernel_rfl) (by kernel_rfl) (by kernel_rfl) (fun _ _ _ h => h) (Or.inl ⟨by rfl, ?_⟩) hS ?_
        rotate_left
        focus (intro wS hSw; (try dsimp only at hSw); go_simp; (try with_reducible rfl); (try (first | (rw [if_pos (by omega)]; (try go_simp); (try with_reducible rfl)) | (rw [if_neg (by omega)]; (try go_simp); (try with_reducible rfl)))))
        try simp only [Act.put, List.setIfInBounds_toArray, List.set_cons_zero, List.set_cons_succ]
        refine wpAnyR_takeQ (i := 4) (v := ?_) (some 60) rfl rfl (by kernel_rfl) (by kernel_rfl) (by kernel_rfl) (by kernel_rfl) (fun _ _ _ h => h) (Or.inl ⟨by rfl, ?_⟩) ?_
        rotate_left
        focus (intro wS hSw; (try dsimp only at hSw); go_simp; (try with_reducible rfl); (try (first | (rw [if_pos (by omega)]; (try go_simp); (try with_reducible rfl)) | (rw [if_neg (by omega)]; (try go_simp); (try with_reducible rfl)))))
        try simp only [Act.put, List.setIfInBounds_toArray, List.set_cons_zero, List.set_cons_succ]
        refine wpAnyR_takeQ (i := 5) (v := ?_) (some 61) rfl rfl (by kernel_rfl) (by kernel_rfl) (by kernel_rfl) (by kernel_rfl) (fun _ _ _ h => h) (Or.inl ⟨by rfl, ?_⟩) ?_
        rotate_left
        focus (intro wS hSw; (try dsimp only at hSw); go_simp; (try with_reducible rfl); (try (first | (rw [if_pos (by omega)]; (try go_simp); (try with_reducible rfl)) | (rw [if_neg (by omega)]; (try go_simp); (try with_reducible rfl)))))
        try simp only [Act.put, List.setIfInBounds_toArray, List.set_cons_zero, List.set_cons_succ]
        refine wpAnyR_take (i := 6) (v := ?_) [7, 8] (some 62) rfl rfl (by kernel_rfl) (by kernel_rfl) (by kernel_rfl) (by kernel_rfl) (by kernel_rfl) (by kernel_rfl) (by kernel_rfl) (fun _ _ _ h => h) (Or.inl ⟨by rfl, ?_⟩) hS ?_
        rotate_left
        focus (intro wS hSw; (try dsimp only at hSw); go_simp; (try with_reducible rfl); (try (first | (rw [if_pos (by omega)]; (try go_simp); (try with_reducible rfl)) | (rw [if_neg (by omega)]; (try go_simp); (try with_reducible rfl)))))
        try simp only [Act.put, List.setIfInBounds_toArray, List.set_cons_zero, List.set_cons_succ]
        refine wpAnyR_takeQ (i := 7) (v := ?_) (some 63) rfl rfl (by kernel_rfl) (by kernel_rfl) (by kernel_rfl) (by kernel_rfl) (fun _ _ _ h => h) (Or.inl ⟨by rfl, ?_⟩) ?_
        rotate_left
        focus (intro wS hSw; (try dsimp only at hSw); go_simp; (try with_reducible rfl); (try (first | (rw [if_pos (by omega)]; (try go_simp); (try with_reducible rfl)) | (rw [if_neg (by omega)]; (try go_simp); (try with_reducible rfl)))))
        try simp only [Act.put, List.setIfInBounds_toArray, List.set_cons_zero, List.set_cons_succ]
        clear hS
        obtain ⟨w3, hw3⟩ : ∃ w3, w3 = (w2.alloc (.cells #[.string (rawOf t i).data, .int .u32 (u32 (rawOf t i).ver), .bool (rawOf t i).ok] 87)).drew := ⟨_, rfl⟩
        rw [← hw3] at hxb hs3 hz3 hm3 hg3 ⊢
        clear hw3 hgx
        refine wpAnyR_n1 (i := 8) rfl (by kernel_rfl) ?_
        intro K' hK
        rw [if_pos (by rfl)]
        simp only [List.getElem_toArray, List.getElem_cons_succ, List.getElem_cons_zero]
        refine wp_mapUpdate_is (.tmp 59) (.tmp 60) (.tmp 63) 108 rfl 150 int_keyedI intV_inj Try.underlying108 rfl hm3 i hkl (memoV t i) rfl rfl ?_
        intro w4 hm4 ht4
        refine hK.out _ _ (.inl (by rfl)) ?_
        clear hK hkl
        refine wpAnyR_done (by kernel_rfl) ?_ _
        have hx4 := hxb.turned ht4 (by omega)
        have hz4 := hz3.turned ht4 (by omega)
        have p0 := hx4.cell 0
        have p1 := hx4.cell 1
        have p2 := hx4.cell 2
        have pl := hx4.lt
        have z0 := hz4.cell 0
        have z1 := hz4.cell 1
        have z2 := hz4.cell 2
        have f0 := hz4.frozen 0
        have f1 := hz4.frozen 1
        have f2 := hz4.frozen 2
        have zl := hz4.lt
        have ht5 : Turned (fun k => k = m) W w4 := (hg3.turned _).trans ht4
        have HT5 := Lib.hid ht5
        have HM4 := Lib.hid hm4
        have hwm : ¬ W.heap.size = m := by omega
        clear hm4 ht4 ht5 hx4 hz4 hm3 hs3 hz3 hg3 hxb
        go_wp2_with fail
        refine bodyPost_ret (by first | (simp [*, results, Try.results72, go_sem]; rfl) | simp [*, results, Try.results72, go_sem]) rfl ?_
        rw [HRR.out]
        refine ⟨rfl, ?_⟩
        have hT : ∀ w9, Turned (fun k => k = W.heap.size) w4 w9 → Looked w0 x s m sy ep D out W w9 := fun w9 h9 => looked_upd HH.out HFM.out HM4.out HT5.out h9 (by omega)
        exact hT _ (by (repeat' first | (with_reducible exact Turned.refl _ _) | (with_reducible assumption) | (with_reducible refine Turned.alloc ?_ _) | (with_reducible refine Turned.drew ?_) | (with_reducible refine Turned.drewN ?_ _) | (with_reducible refine Turned.setRow ?_ (by first | (simp; done) | (simp; omega) | omega) _) | (with_reducible refine Turned.setCell ?_ (by first | (simp; done) | (simp; omega) | omega) _) | ((with_reducible apply Turned.andGrew); rotate_left; (with_reducible assumption)) | ((with_reducible apply Turned.trans); rotate_left; (with_reducible assumption)) | fail))
    | some mv =>
      obtain ⟨t', ht', rfl⟩ := HFM.out i mv hFi
      by_cases hts2 : t' = t
      · subst hts2
        rw [hFi] at HLK
        clear hFi
        have hlk := HLK.out (W.alloc (.cells #[.string ⟨#[]⟩, .int .u32 0, .bool false] 87)) ((Grew.refl W).alloc _)
        simp only [Option.getD_some, Option.isSome_some] at hlk
        unfold memoV at hlk
        go_enter Try.func72, Try.ntmps72
        go_wp2_with fail
        refine (HR.out _ ((Grew.refl W).alloc _)).mono ?_
        rintro e w1 ⟨rfl, rfl⟩
        go_wp2_with fail
        refine bodyPost_ret (by first | (simp [*, results, Try.results72, go_sem]; rfl) | simp [*, results, Try.results72, go_sem]) rfl ?_
        rw [HRR.out]
        exact ⟨rfl, HH.out.same (((Grew.refl W).alloc _).alloc _)⟩
      · have hb1 := str_ne hts2
        rw [hFi] at HLK
        clear hFi hts2
        have hlk := HLK.out (W.alloc (.cells #[.string ⟨#[]⟩, .int .u32 0, .bool false] 87)) ((Grew.refl W).alloc _)
        simp only [Option.getD_some, Option.isSome_some] at hlk
        unfold memoV at hlk
        go_enter Try.func72, Try.ntmps72
        go_wp2_with fail
        refine (HR.out _ ((Grew.refl W).alloc _)).mono ?_
        rintro e w1 ⟨rfl, rfl⟩
        go_wp2_with fail
        refine (HU.out _).mono ?_
        rintro e w2 ⟨rfl, g2⟩
        have hg2 : Grew W w2 := (((Grew.refl W).alloc _).alloc _).trans g2
        have hs2 := HSB.out.grew hg2
        have hz2 := (hb4.alloc _).grew g2
        have p0 := hs2.cell 0
        have p3 := hs2.cell 3
        have pl := hs2.lt
        have z0 := hz2.cell 0
        have z1 := hz2.cell 1
        have z2 := hz2.cell 2
        have f0 := hz2.frozen 0
        have f1 := hz2.frozen 1
        have f2 := hz2.frozen 2
        have zl := hz2.lt
        unfold storeC at p0 p3
        have HG2 := Lib.hid hg2
        have HS2 := Lib.hid hs2
        have HZ2 := Lib.hid hz2
        clear hg2 hs2 hz2 g2 hlk
        go_wp2_with fail
        rw [show (eu == 0) = (rawOf t i).ok from HOK.out.symm]
        have hgx : Grew w2 (w2.alloc (.cells #[.string (rawOf t i).data, .int .u32 (u32 (rawOf t i).ver), .bool (rawOf t i).ok] 87)).drew := ((Grew.refl w2).alloc _).drew
        have hxb : Blk (w2.alloc (.cells #[.string (rawOf t i).data, .int .u32 (u32 (rawOf t i).ver), .bool (rawOf t i).ok] 87)).drew w2.heap.size 87 #[.string (rawOf t i).data, .int .u32 (u32 (rawOf t i).ver), .bool (rawOf t i).ok] := (Blk.new w2 _ _ rfl).drew
        have hs3 := HS2.out.grew hgx
        have hz3 := HZ2.out.grew hgx
        have hm3 := (HFF.out.grew HG2.out).grew hgx
        have hg3 := HG2.out.trans hgx
        have hml := HFF.out.lt
        have hsml := HG2.out.size
        obtain ⟨kl, hkl⟩ : ∃ kl, keyOf Try.prog 3 (intV i) = some kl := ⟨_, HKL.out⟩
        refine wp_region_R [8] (fun w' : World => w'.cell? ⟨s, 3, none⟩ = some (.map (some m)) ∧ s < w'.heap.size ∧ w'.cell? ⟨w2.heap.size, 0, none⟩ = some (.string (rawOf t i).data) ∧ w'.cell? ⟨w2.heap.size, 1, none⟩ = some (.int .u32 (u32 (rawOf t i).ver)) ∧ w'.cell? ⟨w2.heap.size, 2, none⟩ = some (.bool (rawOf t i).ok) ∧ w2.heap.size < w'.heap.size) (by kernel_rfl) ?_
        have hS := (show (fun w' : World => w'.cell? ⟨s, 3, none⟩ = some (.map (some m)) ∧ s < w'.heap.size ∧ w'.cell? ⟨w2.heap.size, 0, none⟩ = some (.string (rawOf t i).data) ∧ w'.cell? ⟨w2.heap.size, 1, none⟩ = some (.int .u32 (u32 (rawOf t i).ver)) ∧ w'.cell? ⟨w2.heap.size, 2, none⟩ = some (.bool (rawOf t i).ok) ∧ w2.heap.size < w'.heap.size) (w2.alloc (.cells #[.string (rawOf t i).data, .int .u32 (u32 (rawOf t i).ver), .bool (rawOf t i).ok] 87)).drew from ⟨hs3.cell 3, hs3.lt, hxb.cell 0, hxb.cell 1, hxb.cell 2, hxb.lt⟩)
        clear p0 p3 pl z0 z1 z2 f0 f1 f2 zl
        refine wpAnyR_takeQ (i := 0) (v := ?_) (some 56) rfl rfl (by kernel_rfl) (by kernel_rfl) (by kernel_rfl) (by kernel_rfl) (fun _ _ _ h => h) (Or.inl ⟨by rfl, ?_⟩) ?_
        rotate_left
        focus (intro wS hSw; (try dsimp only at hSw); go_simp; (try with_reducible rfl); (try (first | (rw [if_pos (by omega)]; (try go_simp); (try with_reducible rfl)) | (rw [if_neg (by omega)]; (try go_simp); (try with_reducible rfl)))))
        try simp only [Act.put, List.setIfInBounds_toArray, List.set_cons_zero, List.set_cons_succ]
        refine wpAnyR_take (i := 1) (v := ?_) [2, 3, 8] (some 57) rfl rfl (by kernel_rfl) (by kernel_rfl) (by kernel_rfl) (by kernel_rfl) (by kernel_rfl) (by kernel_rfl) (by kernel_rfl) (fun _ _ _ h => h) (Or.inl ⟨by rfl, ?_⟩) hS ?_
        rotate_left
        focus (intro wS hSw; (try dsimp only at hSw); go_simp; (try with_reducible rfl); (try (first | (rw [if_pos (by omega)]; (try go_simp); (try with_reducible rfl)) | (rw [if_neg (by omega)]; (try go_simp); (try with_reducible rfl)))))
        try simp only [Act.put, List.setIfInBounds_toArray, List.set_cons_zero, List.set_cons_succ]
        refine wpAnyR_takeQ (i := 2) (v := ?_) (some 58) rfl rfl (by kernel_rfl) (by kernel_rfl) (by kernel_rfl) (by kernel_rfl) (fun _ _ _ h => h) (Or.inl ⟨by rfl, ?_⟩) ?_
        rotate_left
        focus (intro wS hSw; (try dsimp only at hSw); go_simp; (try with_reducible rfl); (try (first | (rw [if_pos (by omega)]; (try go_simp); (try with_reducible rfl)) | (rw [if_neg (by omega)]; (try go_simp); (try with_reducible rfl)))))
        try simp only [Act.put, List.setIfInBounds_toArray, List.set_cons_zero, List.set_cons_succ]
        refine wpAnyR_take (i := 3) (v := ?_) [8] (some 59) rfl rfl (by kernel_rfl) (by kernel_rfl) (by kernel_rfl) (by kernel_rfl) (by kernel_rfl) (by kernel_rfl) (by kernel_rfl) (fun _ _ _ h => h) (Or.inl ⟨by rfl, ?_⟩) hS ?_
        rotate_left
        focus (intro wS hSw; (try dsimp only at hSw); go_simp; (try with_reducible rfl); (try (first | (rw [if_pos (by omega)]; (try go_simp); (try with_reducible rfl)) | (rw [if_neg (by omega)]; (try go_simp); (try with_reducible rfl)))))
        try simp only [Act.put, List.setIfInBounds_toArray, List.set_cons_zero, List.set_cons_succ]
        refine wpAnyR_takeQ (i := 4) (v := ?_) (some 60) rfl rfl (by kernel_rfl) (by kernel_rfl) (by kernel_rfl) (by kernel_rfl) (fun _ _ _ h => h) (Or.inl ⟨by rfl, ?_⟩) ?_
        rotate_left
        focus (intro wS hSw; (try dsimp only at hSw); go_simp; (try with_reducible rfl); (try (first | (rw [if_pos (by omega)]; (try go_simp); (try with_reducible rfl)) | (rw [if_neg (by omega)]; (try go_simp); (try with_reducible rfl)))))
        try simp only [Act.put, List.setIfInBounds_toArray, List.set_cons_zero, List.set_cons_succ]
        refine wpAnyR_takeQ (i := 5) (v := ?_) (some 61) rfl rfl (by kernel_rfl) (by kernel_rfl) (by kernel_rfl) (by kernel_rfl) (fun _ _ _ h => h) (Or.inl ⟨by rfl, ?_⟩) ?_
        rotate_left
        focus (intro wS hSw; (try dsimp only at hSw); go_simp; (try with_reducible rfl); (try (first | (rw [if_pos (by omega)]; (try go_simp); (try with_reducible rfl)) | (rw [if_neg (by omega)]; (try go_simp); (try with_reducible rfl)))))
        try simp only [Act.put, List.setIfInBounds_toArray, List.set_cons_zero, List.set_cons_succ]
        refine wpAnyR_take (i := 6) (v := ?_) [7, 8] (some 62) rfl rfl (by kernel_rfl) (by kernel_rfl) (by kernel_rfl) (by kernel_rfl) (by kernel_rfl) (by kernel_rfl) (by kernel_rfl) (fun _ _ _ h => h) (Or.inl ⟨by rfl, ?_⟩) hS ?_
        rotate_left
        focus (intro wS hSw; (try dsimp only at hSw); go_simp; (try with_reducible rfl); (try (first | (rw [if_pos (by omega)]; (try go_simp); (try with_reducible rfl)) | (rw [if_neg (by omega)]; (try go_simp); (try with_reducible rfl)))))
        try simp only [Act.put, List.setIfInBounds_toArray, List.set_cons_zero, List.set_cons_succ]
        refine wpAnyR_takeQ (i := 7) (v := ?_) (some 63) rfl rfl (by kernel_rfl) (by kernel_rfl) (by kernel_rfl) (by kernel_rfl) (fun _ _ _ h => h) (Or.inl ⟨by rfl, ?_⟩) ?_
        rotate_left
        focus (intro wS hSw; (try dsimp only at hSw); go_simp; (try with_reducible rfl); (try (first | (rw [if_pos (by omega)]; (try go_simp); (try with_reducible rfl)) | (rw [if_neg (by omega)]; (try go_simp); (try with_reducible rfl)))))
        try simp only [Act.put, List.setIfInBounds_toArray, List.set_cons_zero, List.set_cons_succ]
        clear hS
        obtain ⟨w3, hw3⟩ : ∃ w3, w3 = (w2.alloc (.cells #[.string (rawOf t i).data, .int .u32 (u32 (rawOf t i).ver), .bool (rawOf t i).ok] 87)).drew := ⟨_, rfl⟩
        rw [← hw3] at hxb hs3 hz3 hm3 hg3 ⊢
        clear hw3 hgx
        refine wpAnyR_n1 (i := 8) rfl (by kernel_rfl) ?_
        intro K' hK
        rw [if_pos (by rfl)]
        simp only [List.getElem_toArray, List.getElem_cons_succ, List.getElem_cons_zero]
        refine wp_mapUpdate_is (.tmp 59) (.tmp 60) (.tmp 63) 108 rfl 150 int_keyedI intV_inj Try.underlying108 rfl hm3 i hkl (memoV t i) rfl rfl ?_
        intro w4 hm4 ht4
        refine hK.out _ _ (.inl (by rfl)) ?_
        clear hK hkl
        refine wpAnyR_done (by kernel_rfl) ?_ _
        have hx4 := hxb.turned ht4 (by omega)
        have hz4 := hz3.turned ht4 (by omega)
        have p0 := hx4.cell 0
        have p1 := hx4.cell 1
        have p2 := hx4.cell 2
        have pl := hx4.lt
        have z0 := hz4.cell 0
        have z1 := hz4.cell 1
        have z2 := hz4.cell 2
        have f0 := hz4.frozen 0
        have f1 := hz4.frozen 1
        have f2 := hz4.frozen 2
        have zl := hz4.lt
        have ht5 : Turned (fun k => k = m) W w4 := (hg3.turned _).trans ht4
        have HT5 := Lib.hid ht5
        have HM4 := Lib.hid hm4
        have hwm : ¬ W.heap.size = m := by omega
        clear hm4 ht4 ht5 hx4 hz4 hm3 hs3 hz3 hg3 hxb
        go_wp2_with fail
        refine bodyPost_ret (by first | (simp [*, results, Try.results72, go_sem]; rfl) | simp [*, results, Try.results72, go_sem]) rfl ?_
        rw [HRR.out]
        refine ⟨rfl, ?_⟩
        have hT : ∀ w9, Turned (fun k => k = W.heap.size) w4 w9 → Looked w0 x s m sy ep D out W w9 := fun w9 h9 => looked_upd HH.out HFM.out HM4.out HT5.out h9 (by omega)
        exact hT _ (by (repeat' first | (with_reducible exact Turned.refl _ _) | (with_reducible assumption) | (with_reducible refine Turned.alloc ?_ _) | (with_reducible refine Turned.drew ?_) | (with_reducible refine Turned.drewN ?_ _) | (with_reducible refine Turned.setRow ?_ (by first | (simp; done) | (simp; omega) | omega) _) | (with_reducible refine Turned.setCell ?_ (by first | (simp; done) | (simp; omega) | omega) _) | ((with_reducible apply Turned.andGrew); rotate_left; (with_reducible assumption)) | ((with_reducible apply Turned.trans); rotate_left; (with_reducible assumption)) | fail))
  · have hne : (er != 0) = true := by rw [bne_iff_ne]; exact h0
    have HRR : Hid (readR D i = (rawZ, er)) := Lib.hid (by unfold readR; rw [hr]; exact if_neg h0)
    have HH := Lib.hid h
    clear h h0 hr hb
    go_enter Try.func72, Try.ntmps72
    go_wp2_with fail
    refine (HR.out _ ((Grew.refl W).alloc _)).mono ?_
    rintro e w1 ⟨rfl, rfl⟩
    go_wp2_with fail
    refine bodyPost_ret (by first | (simp [*, results, Try.results72, go_sem]; rfl) | simp [*, results, Try.results72, go_sem]) rfl ?_
    rw [HRR.out]
    exact ⟨rfl, HH.out.same ((Grew.refl W).alloc _)⟩
end
end Go.Proofs.Ytbddelefglhaaaa
namespace Go.Proofs.Ytbddelefglhaaaa
set_option linter.unusedVariables false
set_option linter.unusedSimpArgs false
set_option linter.unusedSectionVars false
open Go.RowKit
attribute [local go_sem ↓] Go.wp_at_zero Go.wp_at_succ
/-- What the top says. -/
def topD (D : Dev) : Raw × Int := ((readR D 0).1, if (readR D 0).2 = 0 then (if (readR D 0).1.ok = true then 0 else 11) else (readR D 0).2)
def belowD (D : Dev) (i : Int) (v : BitVec 32) : Raw × Int :=
  if (readR D i).2 ≠ 0 then (rawZ, (readR D i).2) else if (readR D i).1.ok = false then (rawZ, 11) else if (readR D i).1.ver ≠ v then (rawZ, 12) else ((readR D i).1, 0)
theorem looked_loc {w0 : World} {x s m : Nat} {sy ep : Int} {D : Dev} {out : Nat → Prop} {W w1 w9 : World} (h : Held w0 x s m sy ep D out W) (hl : Looked w0 x s m sy ep D out W w1) (ht : Turned (fun k => W.heap.size ≤ k) w1 w9) : Looked w0 x s m sy ep D out W w9 := by
  have hT : Turned (fun k => k = m) W w9 := hl.turned.next ht (fun k hk e => absurd hk (by omega))
  have hlt := h.store.lt
  exact ⟨h.live.turn1 h.om h.m0 hT, hl.store.kept ht (by omega) (by omega), hT⟩
/-- A local block of the call's stays while the store looks at something. -/
theorem Blk.looked {w0 : World} {x s m : Nat} {sy ep : Int} {D : Dev} {out : Nat → Prop} {w1 w2 : World} {g : Nat} {t : TypeId} {cs : Array Value} (hb : Blk w1 g t cs) (hl : Looked w0 x s m sy ep D out w1 w2) (hg : ¬ g = m) : Blk w2 g t cs := hb.turned hl.turned hg
section
variable {w0 : World} {x s m : Nat} {sy ep : Int} {D : Dev} {out : Nat → Prop} {W : World} (h : Held w0 x s m sy ep D out W)
include h
/-- .. with the answer written out. -/
theorem read_is (i : Int) (hi : okI i) (d : ByteArray) (v : BitVec 32) (k : Bool) (er : Int) (hr : readR D i = (⟨d, v, k⟩, er)) : Calls Try.prog 72 #[ptrV s, .int .i64 i] W fun e w' => e = .returned (.tuple #[.agg #[.string d, .int .u32 (u32 v), .bool k], .int .i64 er]) ∧ Looked w0 x s m sy ep D out W w' := by
  have := read_any' h i hi
  rw [hr] at this
  exact this
set_option maxRecDepth 100000 in
set_option maxHeartbeats 2000000 in
theorem top_any : Calls Try.prog 52 #[ptrV s] W (RawR w0 x s m sy ep D out W (topD D)) := by
  obtain ⟨⟨⟨d, v, k⟩, er⟩, hr⟩ : ∃ r, readR D 0 = r := ⟨_, rfl⟩
  have hz : Blk (W.alloc (.cells #[.string ⟨#[]⟩, .int .u32 0, .bool false] 87)) W.heap.size 87 #[.string ⟨#[]⟩, .int .u32 0, .bool false] := Blk.new W _ _ rfl
  have HRD := Lib.hid (fun w1 (hg : Grew W w1) => read_is (h.grew hg) 0 (by unfold okI; omega) d v k er hr)
  have hml := h.store.lt.2
  have HH := Lib.hid h
  have HZ := Lib.hid hz
  clear h hz
  by_cases h0 : er = 0
  · subst h0
    cases k with
    | true =>
      have HT : Hid (topD D = (⟨d, v, true⟩, 0)) := Lib.hid (by unfold topD; rw [hr]; rfl)
      clear hr
      go_enter Try.func52, Try.ntmps52
      go_wp2_with fail
      refine (HRD.out _ ((Grew.refl W).alloc _)).mono ?_
      rintro e w1 ⟨rfl, hl1⟩
      have hz1 := HZ.out.looked hl1 (by omega)
      have z0 := hz1.cell 0
      have z1 := hz1.cell 1
      have z2 := hz1.cell 2
      have f0 := hz1.frozen 0
      have f1 := hz1.frozen 1
      have f2 := hz1.frozen 2
      have zl := hz1.lt
      have HL1 := Lib.hid ((HH.out.same ((Grew.refl W).alloc (.cells #[.string ⟨#[]⟩, .int .u32 0, .bool false] 87))).trans hl1)
      clear hl1 hz1
      go_wp2_with fail
      refine bodyPost_ret (by first | (simp [*, results, Try.results52, go_sem]; rfl) | simp [*, results, Try.results52, go_sem]) rfl ?_
      rw [HT.out]
      exact ⟨rfl, looked_loc HH.out HL1.out (by (repeat' first | (with_reducible exact Turned.refl _ _) | (with_reducible assumption) | (with_reducible refine Turned.alloc ?_ _) | (with_reducible refine Turned.drew ?_) | (with_reducible refine Turned.drewN ?_ _) | (with_reducible refine Turned.setRow ?_ (by first | (simp; done) | (simp; omega) | omega) _) | (with_reducible refine Turned.setCell ?_ (by first | (simp; done) | (simp; omega) | omega) _) | ((with_reducible apply Turned.andGrew); rotate_left; (with_reducible assumption)) | ((with_reducible apply Turned.trans); rotate_left; (with_reducible assumption)) | fail))⟩
    | false =>
      have HT : Hid (topD D = (⟨d, v, false⟩, 11)) := Lib.hid (by unfold topD; rw [hr]; rfl)
      clear hr
      go_enter Try.func52, Try.ntmps52
      go_wp2_with fail
      refine (HRD.out _ ((Grew.refl W).alloc _)).mono ?_
      rintro e w1 ⟨rfl, hl1⟩
      have hz1 := HZ.out.looked hl1 (by omega)
      have z0 := hz1.cell 0
      have z1 := hz1.cell 1
      have z2 := hz1.cell 2
      have f0 := hz1.frozen 0
      have f1 := hz1.frozen 1
      have f2 := hz1.frozen 2
      have zl := hz1.lt
      have HL1 := Lib.hid ((HH.out.same ((Grew.refl W).alloc (.cells #[.string ⟨#[]⟩, .int .u32 0, .bool false] 87))).trans hl1)
      clear hl1 hz1
      go_wp2_with fail
      refine bodyPost_ret (by first | (simp [*, results, Try.results52, go_sem]; rfl) | simp [*, results, Try.results52, go_sem]) rfl ?_
      rw [HT.out]
      exact ⟨rfl, looked_loc HH.out HL1.out (by (repeat' first | (with_reducible exact Turned.refl _ _) | (with_reducible assumption) | (with_reducible refine Turned.alloc ?_ _) | (with_reducible refine Turned.drew ?_) | (with_reducible refine Turned.drewN ?_ _) | (with_reducible refine Turned.setRow ?_ (by first | (simp; done) | (simp; omega) | omega) _) | (with_reducible refine Turned.setCell ?_ (by first | (simp; done) | (simp; omega) | omega) _) | ((with_reducible apply Turned.andGrew); rotate_left; (with_reducible assumption)) | ((with_reducible apply Turned.trans); rotate_left; (with_reducible assumption)) | fail))⟩
  · have hne : (er == 0) = false := by rw [beq_eq_false_iff_ne]; exact h0
    have HT : Hid (topD D = (⟨d, v, k⟩, er)) := Lib.hid (by unfold topD; rw [hr]; show (_, if er = 0 then _ else er) = _; rw [if_neg h0])
    clear hr h0
    go_enter Try.func52, Try.ntmps52
    go_wp2_with fail
    refine (HRD.out _ ((Grew.refl W).alloc _)).mono ?_
    rintro e w1 ⟨rfl, hl1⟩
    have hz1 := HZ.out.looked hl1 (by omega)
    have z0 := hz1.cell 0
    have z1 := hz1.cell 1
    have z2 := hz1.cell 2
    have f0 := hz1.frozen 0
    have f1 := hz1.frozen 1
    have f2 := hz1.frozen 2
    have zl := hz1.lt
    have HL1 := Lib.hid ((HH.out.same ((Grew.refl W).alloc (.cells #[.string ⟨#[]⟩, .int .u32 0, .bool false] 87))).trans hl1)
    clear hl1 hz1
    go_wp2_with fail
    refine bodyPost_ret (by first | (simp [*, results, Try.results52, go_sem]; rfl) | simp [*, results, Try.results52, go_sem]) rfl ?_
    rw [HT.out]
    exact ⟨rfl, looked_loc HH.out HL1.out (by (repeat' first | (with_reducible exact Turned.refl _ _) | (with_reducible assumption) | (with_reducible refine Turned.alloc ?_ _) | (with_reducible refine Turned.drew ?_) | (with_reducible refine Turned.drewN ?_ _) | (with_reducible refine Turned.setRow ?_ (by first | (simp; done) | (simp; omega) | omega) _) | (with_reducible refine Turned.setCell ?_ (by first | (simp; done) | (simp; omega) | omega) _) | ((with_reducible apply Turned.andGrew); rotate_left; (with_reducible assumption)) | ((with_reducible apply Turned.trans); rotate_left; (with_reducible assumption)) | fail))⟩
set_option maxRecDepth 100000 in
set_option maxHeartbeats 2000000 in
theorem below_any (i : Int) (hi : okI i) (ver : BitVec 32) : Calls Try.prog 57 #[ptrV s, .int .i64 i, .int .u32 (u32 ver)] W (RawR w0 x s m sy ep D out W (belowD D i ver)) := by
  obtain ⟨⟨⟨d, v, k⟩, er⟩, hr⟩ : ∃ r, readR D i = r := ⟨_, rfl⟩
  have hz : Blk (W.alloc (.cells #[.string ⟨#[]⟩, .int .u32 0, .bool false] 87)) W.heap.size 87 #[.string ⟨#[]⟩, .int .u32 0, .bool false] := Blk.new W _ _ rfl
  have HRD := Lib.hid (fun w1 (hg : Grew W w1) => read_is (h.grew hg) i hi d v k er hr)
  have hml := h.store.lt.2
  have HH := Lib.hid h
  have HZ := Lib.hid hz
  clear h hz
  by_cases h0 : er = 0
  · subst h0
    cases k with
    | true =>
      by_cases hv : v = ver
      · have hb : (u32 v != u32 ver) = false := by rw [hv]; simp
        have HT : Hid (belowD D i ver = (⟨d, v, true⟩, 0)) := Lib.hid (by unfold belowD; rw [hr, if_neg (by simp), if_neg (by simp), if_neg (by simpa using hv)])
        clear hr hv
        go_enter Try.func57, Try.ntmps57
        go_wp2_with fail
        refine (HRD.out _ ((Grew.refl W).alloc _)).mono ?_
        rintro e w1 ⟨rfl, hl1⟩
        have hz1 := HZ.out.looked hl1 (by omega)
        have z0 := hz1.cell 0
        have z1 := hz1.cell 1
        have z2 := hz1.cell 2
        have f0 := hz1.frozen 0
        have f1 := hz1.frozen 1
        have f2 := hz1.frozen 2
        have zl := hz1.lt
        have HL1 := Lib.hid ((HH.out.same ((Grew.refl W).alloc (.cells #[.string ⟨#[]⟩, .int .u32 0, .bool false] 87))).trans hl1)
        clear hl1 hz1
        go_wp2_with fail
        refine bodyPost_ret (by first | (simp [*, results, Try.results57, go_sem]; rfl) | simp [*, results, Try.results57, go_sem]) rfl ?_
        rw [HT.out]
        exact ⟨rfl, looked_loc HH.out HL1.out (by (repeat' first | (with_reducible exact Turned.refl _ _) | (with_reducible assumption) | (with_reducible refine Turned.alloc ?_ _) | (with_reducible refine Turned.drew ?_) | (with_reducible refine Turned.drewN ?_ _) | (with_reducible refine Turned.setRow ?_ (by first | (simp; done) | (simp; omega) | omega) _) | (with_reducible refine Turned.setCell ?_ (by first | (simp; done) | (simp; omega) | omega) _) | ((with_reducible apply Turned.andGrew); rotate_left; (with_reducible assumption)) | ((with_reducible apply Turned.trans); rotate_left; (with_reducible assumption)) | fail))⟩
      · have hb : (u32 v != u32 ver) = true := by rw [bne_iff_ne]; exact fun e => hv (u32_inj e)
        have HT : Hid (belowD D i ver = (rawZ, 12)) := Lib.hid (by unfold belowD; rw [hr, if_neg (by simp), if_neg (by simp), if_pos (by simpa using hv)])
        clear hr hv
        go_enter Try.func57, Try.ntmps57
        go_wp2_with fail
        refine (HRD.out _ ((Grew.refl W).alloc _)).mono ?_
        rintro e w1 ⟨rfl, hl1⟩
        have hz1 := HZ.out.looked hl1 (by omega)
        have z0 := hz1.cell 0
        have z1 := hz1.cell 1
        have z2 := hz1.cell 2
        have f0 := hz1.frozen 0
        have f1 := hz1.frozen 1
        have f2 := hz1.frozen 2
        have zl := hz1.lt
        have HL1 := Lib.hid ((HH.out.same ((Grew.refl W).alloc (.cells #[.string ⟨#[]⟩, .int .u32 0, .bool false] 87))).trans hl1)
        clear hl1 hz1
        go_wp2_with fail
        refine bodyPost_ret (by first | (simp [*, results, Try.results57, go_sem]; rfl) | simp [*, results, Try.results57, go_sem]) rfl ?_
        rw [HT.out]
        exact ⟨rfl, looked_loc HH.out HL1.out (by (repeat' first | (with_reducible exact Turned.refl _ _) | (with_reducible assumption) | (with_reducible refine Turned.alloc ?_ _) | (with_reducible refine Turned.drew ?_) | (with_reducible refine Turned.drewN ?_ _) | (with_reducible refine Turned.setRow ?_ (by first | (simp; done) | (simp; omega) | omega) _) | (with_reducible refine Turned.setCell ?_ (by first | (simp; done) | (simp; omega) | omega) _) | ((with_reducible apply Turned.andGrew); rotate_left; (with_reducible assumption)) | ((with_reducible apply Turned.trans); rotate_left; (with_reducible assumption)) | fail))⟩
    | false =>
      have HT : Hid (belowD D i ver = (rawZ, 11)) := Lib.hid (by unfold belowD; rw [hr, if_neg (by simp), if_pos rfl])
      clear hr
      go_enter Try.func57, Try.ntmps57
      go_wp2_with fail
      refine (HRD.out _ ((Grew.refl W).alloc _)).mono ?_
      rintro e w1 ⟨rfl, hl1⟩
      have hz1 := HZ.out.looked hl1 (by omega)
      have z0 := hz1.cell 0
      have z1 := hz1.cell 1
      have z2 := hz1.cell 2
      have f0 := hz1.frozen 0
      have f1 := hz1.frozen 1
      have f2 := hz1.frozen 2
      have zl := hz1.lt
      have HL1 := Lib.hid ((HH.out.same ((Grew.refl W).alloc (.cells #[.string ⟨#[]⟩, .int .u32 0, .bool false] 87))).trans hl1)
      clear hl1 hz1
      go_wp2_with fail
      refine bodyPost_ret (by first | (simp [*, results, Try.results57, go_sem]; rfl) | simp [*, results, Try.results57, go_sem]) rfl ?_
      rw [HT.out]
      exact ⟨rfl, looked_loc HH.out HL1.out (by (repeat' first | (with_reducible exact Turned.refl _ _) | (with_reducible assumption) | (with_reducible refine Turned.alloc ?_ _) | (with_reducible refine Turned.drew ?_) | (with_reducible refine Turned.drewN ?_ _) | (with_reducible refine Turned.setRow ?_ (by first | (simp; done) | (simp; omega) | omega) _) | (with_reducible refine Turned.setCell ?_ (by first | (simp; done) | (simp; omega) | omega) _) | ((with_reducible apply Turned.andGrew); rotate_left; (with_reducible assumption)) | ((with_reducible apply Turned.trans); rotate_left; (with_reducible assumption)) | fail))⟩
  · have hne : (er != 0) = true := by rw [bne_iff_ne]; exact h0
    have HT : Hid (belowD D i ver = (rawZ, er)) := Lib.hid (by unfold belowD; rw [hr, if_pos h0])
    clear hr h0
    go_enter Try.func57, Try.ntmps57
    go_wp2_with fail
    refine (HRD.out _ ((Grew.refl W).alloc _)).mono ?_
    rintro e w1 ⟨rfl, hl1⟩
    have hz1 := HZ.out.looked hl1 (by omega)
    have z0 := hz1.cell 0
    have z1 := hz1.cell 1
    have z2 := hz1.cell 2
    have f0 := hz1.frozen 0
    have f1 := hz1.frozen 1
    have f2 := hz1.frozen 2
    have zl := hz1.lt
    have HL1 := Lib.hid ((HH.out.same ((Grew.refl W).alloc (.cells #[.string ⟨#[]⟩, .int .u32 0, .bool false] 87))).trans hl1)
    clear hl1 hz1
    go_wp2_with fail
    refine bodyPost_ret (by first | (simp [*, results, Try.results57, go_sem]; rfl) | simp [*, results, Try.results57, go_sem]) rfl ?_
    rw [HT.out]
    exact ⟨rfl, looked_loc HH.out HL1.out (by (repeat' first | (with_reducible exact Turned.refl _ _) | (with_reducible assumption) | (with_reducible refine Turned.alloc ?_ _) | (with_reducible refine Turned.drew ?_) | (with_reducible refine Turned.drewN ?_ _) | (with_reducible refine Turned.setRow ?_ (by first | (simp; done) | (simp; omega) | omega) _) | (with_reducible refine Turned.setCell ?_ (by first | (simp; done) | (simp; omega) | omega) _) | ((with_reducible apply Turned.andGrew); rotate_left; (with_reducible assumption)) | ((with_reducible apply Turned.trans); rotate_left; (with_reducible assumption)) | fail))⟩
end
end Go.Proofs.Ytbddelefglhaaaa
namespace Go.Proofs.Ytbddelefglhaaaa
set_option linter.unusedVariables false
set_option linter.unusedSimpArgs false
set_option linter.unusedSectionVars false
open Go.RowKit
attribute [local go_sem ↓] Go.wp_at_zero Go.wp_at_succ
section
variable {w0 : World} {x : Nat} {D : Dev} {out : Nat → Prop} {W : World} (h : Live w0 x D out W)
include h
set_option maxRecDepth 100000 in
set_option maxHeartbeats 1000000 in
theorem fits_any (sy ep : Int) (h1 : 132 ≤ D.st.length ∧ D.st.length ≤ 1155) (hs : 1 ≤ sy ∧ sy ≤ 4) (he : 0 ≤ ep ∧ ep ≤ 1099511627776) :
    Calls Try.prog 70 #[ptrV x, .agg #[.int .i64 sy, .int .i64 ep]] W fun e w' => e = .returned (.bool true) ∧ Grew W w' := by
  have HS := Lib.hid (fun w1 (hg : Grew W w1) => sectors_live (h.grew hg))
  obtain ⟨n, hn⟩ : ∃ n : Nat, D.st.length - 131 = n := ⟨_, rfl⟩
  have hni : (D.st.length : Int) - 131 = (n : Int) := by omega
  have n1 : (n : Int) ≥ 1 := by omega
  have n2 : (n : Int) ≤ 1024 := by omega
  have s1 : sy ≥ 1 := hs.1
  have s2 : sy ≤ 4 := hs.2
  have e1 : ep ≥ 0 := he.1
  have e2 : ep ≤ 1099511627776 := he.2
  have hL : (D.st.length : Int) ≤ 1155 := by omega
  clear h h1 hn hs he
  go_enter Try.func70, Try.ntmps70
  go_wp2_with fail
  refine (HS.out _ ((Grew.refl W).alloc _)).mono ?_
  rintro e w1 ⟨rfl, rfl⟩
  go_wp2_with fail
  go_ret
  exact ⟨rfl, by (repeat' first | (with_reducible exact Grew.refl _) | (with_reducible assumption) | (with_reducible refine Grew.alloc ?_ _) | (with_reducible refine Grew.drew ?_) | (with_reducible refine Grew.drewN ?_ _) | (with_reducible refine Grew.setRow ?_ (by first | (simp; done) | (simp; omega) | omega) _) | (with_reducible refine Grew.setCell ?_ (by first | (simp; done) | (simp; omega) | omega) _) | ((with_reducible apply Grew.trans); rotate_left; (with_reducible assumption)) | ((with_reducible apply Grew.turn); rotate_left; (with_reducible assumption); (focus (intro i hi; first | omega | (simp at hi; omega)))) | fail)⟩
/-- A new store. -/
theorem newStore_any (sy ep : Int) : Calls Try.prog 71 #[ptrV x, .agg #[.int .i64 sy, .int .i64 ep]] W fun e w' => ∃ s m, e = .returned (ptrV s) ∧ StoreM w' s m x sy ep ∧ Grew W w' ∧ W.heap.size ≤ s ∧ W.heap.size ≤ m := by
  have hmm := @run_makeMap Try.prog
  have HG : Hid (Grew W (((W.alloc (.cells #[.int .i64 sy, .int .i64 ep] 50)).alloc (.map #[] 0)).alloc (.cells (storeC x sy ep (W.heap.size + 1)) 110))) := Lib.hid ((((Grew.refl W).alloc _).alloc _).alloc _)
  have HB : Hid (Blk (((W.alloc (.cells #[.int .i64 sy, .int .i64 ep] 50)).alloc (.map #[] 0)).alloc (.cells (storeC x sy ep (W.heap.size + 1)) 110)) (W.heap.size + 1 + 1) 110 (storeC x sy ep (W.heap.size + 1))) := Lib.hid (Blk.new _ _ _ (by simp))
  have HM : Hid (MapI (((W.alloc (.cells #[.int .i64 sy, .int .i64 ep] 50)).alloc (.map #[] 0)).alloc (.cells (storeC x sy ep (W.heap.size + 1)) 110)) (W.heap.size + 1) (fun _ => none)) := Lib.hid ((MapIs.made _ (by simp)).alloc _)
  clear h
  go_enter Try.func71, Try.ntmps71
  go_wp2_with fail
  go_ret
  exact ⟨_, _, rfl, ⟨HB.out, _, HM.out, fun i v h => by cases h⟩, HG.out, by omega, by omega⟩
end
/-- A store and its device, looked at. -/
theorem sectors_any' {w0 : World} {x s m : Nat} {sy ep : Int} {D : Dev} {out : Nat → Prop} {W : World} (h : Held w0 x s m sy ep D out W) : Calls Try.prog 27 #[ptrV s] W fun e w' => e = .returned (.int .i64 ((D.st.length : Int) - 131)) ∧ Grew W w' := by
  have HS := Lib.hid (fun w1 (hg : Grew W w1) => sectors_live (h.live.grew hg))
  have hb := h.store.blk
  unfold storeC at hb
  have s0 := hb.cell 0
  have sl := hb.lt
  have hl := h.live.ok.lim
  have hli : (D.st.length : Int) ≤ 1155 := by omega
  clear h hb hl
  go_enter Try.func27, Try.ntmps27
  go_wp2_with fail
  refine (HS.out _ (Grew.refl W)).mono ?_
  rintro e w1 ⟨rfl, rfl⟩
  go_wp2_with fail
  go_ret
  exact ⟨rfl, by (repeat' first | (with_reducible exact Grew.refl _) | (with_reducible assumption) | (with_reducible refine Grew.alloc ?_ _) | (with_reducible refine Grew.drew ?_) | (with_reducible refine Grew.drewN ?_ _) | (with_reducible refine Grew.setRow ?_ (by first | (simp; done) | (simp; omega) | omega) _) | (with_reducible refine Grew.setCell ?_ (by first | (simp; done) | (simp; omega) | omega) _) | ((with_reducible apply Grew.trans); rotate_left; (with_reducible assumption)) | ((with_reducible apply Grew.turn); rotate_left; (with_reducible assumption); (focus (intro i hi; first | omega | (simp at hi; omega)))) | fail)⟩
theorem writer_any {w0 : World} {x s m : Nat} {sy ep : Int} {D : Dev} {out : Nat → Prop} {W : World} (h : Held w0 x s m sy ep D out W) : Calls Try.prog 25 #[ptrV s] W fun e w' => e = .returned (.agg #[.int .i64 sy, .int .i64 ep]) ∧ Grew W w' := by
  have hb := h.store.blk
  unfold storeC at hb
  have s1 := hb.cell 1
  have s2 := hb.cell 2
  have sl := hb.lt
  clear h hb
  go_enter Try.func25, Try.ntmps25
  go_wp2_with fail
  refine bodyPost_ret (by first | (simp [*, results, Try.results25, go_sem]; rfl) | simp [*, results, Try.results25, go_sem]) rfl ?_
  exact ⟨rfl, by (repeat' first | (with_reducible exact Grew.refl _) | (with_reducible assumption) | (with_reducible refine Grew.alloc ?_ _) | (with_reducible refine Grew.drew ?_) | (with_reducible refine Grew.drewN ?_ _) | (with_reducible refine Grew.setRow ?_ (by first | (simp; done) | (simp; omega) | omega) _) | (with_reducible refine Grew.setCell ?_ (by first | (simp; done) | (simp; omega) | omega) _) | ((with_reducible apply Grew.trans); rotate_left; (with_reducible assumption)) | ((with_reducible apply Grew.turn); rotate_left; (with_reducible assumption); (focus (intro i hi; first | omega | (simp at hi; omega)))) | fail)⟩
end Go.Proofs.Ytbddelefglhaaaa
namespace Go.Proofs.Ytbddelefglhaaaa
set_option linter.unusedVariables false
set_option linter.unusedSimpArgs false
set_option linter.unusedSectionVars false
open Go.RowKit
attribute [local go_sem ↓] Go.wp_at_zero Go.wp_at_succ
theorem readD_ok {D : Dev} (hf : D.failed = false) (i : Nat) (hi : i < D.st.length) : readD D (i : Int) = (D.content i, 0) := by
  unfold readD
  rw [if_neg (by unfold thereD; simp; omega), if_neg (by rw [hf]; simp)]
  rfl
theorem readD_failed {D : Dev} (hf : D.failed = true) (i : Nat) (hi : i < D.st.length) : readD D (i : Int) = (emp, 10) := by
  unfold readD
  rw [if_neg (by unfold thereD; simp; omega), if_pos hf]
theorem readR_ok {D : Dev} (hf : D.failed = false) (i : Nat) (hi : i < D.st.length) : readR D (i : Int) = (rawOf (D.content i) (i : Int), 0) := by
  unfold readR
  rw [readD_ok hf i hi]
  rfl
theorem readR_failed {D : Dev} (hf : D.failed = true) (i : Nat) (hi : i < D.st.length) : readR D (i : Int) = (rawZ, 10) := by
  unfold readR
  rw [readD_failed hf i hi]
  rfl
theorem rawOf_full {t : ByteArray} {i : Int} (h : (rawOf t i).ok = true) : (rawOf t i).data.size = 128 := by
  unfold rawOf at h ⊢
  by_cases ho : okR t i
  · rw [if_pos ho]
    show (t.extract 0 128).size = 128
    rw [ByteArray.size_extract, ho.1]
    rfl
  · rw [if_neg ho] at h; cases h
theorem catB_snoc (l : List ByteArray) (s : ByteArray) : catB (l ++ [s]) = catB l ++ s := by
  induction l with
  | nil => show s ++ (⟨#[]⟩ : ByteArray) = (⟨#[]⟩ : ByteArray) ++ s; rw [show (⟨#[]⟩ : ByteArray) = ByteArray.empty from rfl, ByteArray.append_empty, ByteArray.empty_append]
  | cons x l ih => show x ++ catB (l ++ [s]) = (x ++ catB l) ++ s; rw [ih, ByteArray.append_assoc]
theorem catB_size (l : List ByteArray) (h : ∀ s ∈ l, s.size = 140) : (catB l).size = 140 * l.length := by
  induction l with
  | nil => rfl
  | cons x l ih => show (x ++ catB l).size = _; rw [ByteArray.size_append, ih (fun s hs => h s (List.mem_cons_of_mem _ hs)), h x (List.mem_cons_self ..), List.length_cons]; omega
theorem slotsD_succ (D : Dev) (k : Nat) : slotsD D (k + 1) = slotsD D k ++ [slotI D k] := by
  unfold slotsD
  rw [List.range_succ, List.map_append]
  rfl
theorem slotsD_size {D : Dev} (h : D.Ok) (hl : 131 ≤ D.st.length) (k : Nat) (hk : k ≤ 97) : (catB (slotsD D k)).size = 140 * k := by
  rw [catB_size _ (fun s hs => ?_)]
  · unfold slotsD; rw [List.length_map, List.length_range]
  · obtain ⟨j, hj, rfl⟩ := List.mem_map.1 hs
    have := List.mem_range.1 hj
    exact content_size h (by omega)
def entsD (D : Dev) (k : Nat) : List (Int × ByteArray) := (slotsD D k).map fun s => (selfI s, s)
theorem entsD_succ (D : Dev) (k : Nat) : entsD D (k + 1) = entsD D k ++ [(selfI (slotI D k), slotI D k)] := by
  unfold entsD
  rw [slotsD_succ, List.map_append]
  rfl
theorem entsD_len (D : Dev) (k : Nat) : (entsD D k).length = k := by unfold entsD slotsD; rw [List.length_map, List.length_map, List.length_range]
/-- The four parts of an intent, one after the other. -/
theorem int_no1 {D : Dev} (h : headB' D = false) : intentL D = [] := by unfold intentL intentB; rw [h]; rfl
theorem int_no2 {D : Dev} (k : Nat) (hk : k < cntI D) (h : okSlot D.st.length (headI D).ver (slotI D k) = false) : intentL D = [] := by
  have : slotsB D = false := by
    unfold slotsB
    rw [List.all_eq_false]
    exact ⟨slotI D k, List.mem_map.2 ⟨k, List.mem_range.2 hk, rfl⟩, by rw [h]; simp⟩
  unfold intentL intentB
  rw [this]
  simp
theorem int_no3 {D : Dev} (h : sumB D = false) : intentL D = [] := by unfold intentL intentB; rw [h]; simp
theorem int_no4 {D : Dev} (h : topB D = false) : intentL D = [] := by unfold intentL intentB; rw [h]; simp
theorem int_yes {D : Dev} (h1 : headB' D = true) (h2 : ∀ k, k < cntI D → okSlot D.st.length (headI D).ver (slotI D k) = true) (h3 : sumB D = true) (h4 : topB D = true) : intentL D = entsD D (cntI D) := by
  have : slotsB D = true := by
    unfold slotsB
    rw [List.all_eq_true]
    intro s hs
    obtain ⟨k, hk, rfl⟩ := List.mem_map.1 hs
    exact h2 k (List.mem_range.1 hk)
  unfold intentL intentB
  rw [h1, this, h3, h4]
  rfl
set_option maxRecDepth 100000 in
set_option maxHeartbeats 1000000 in
theorem field_any (k g : Nat) (hk : k < 3) (d : ByteArray) (v : Int) (b : Bool) (hd : d.size = 128) (W : World) (hb : Blk W g 87 #[.string d, .int .u32 v, .bool b]) :
    Calls Try.prog 87 #[.int .i64 (k : Int), ptrV g] W fun e w' => e = .returned (.int .u32 (u32 (fld d k))) ∧ Grew W w' := by
  have HN := Lib.hid (fun (w : World) => number_any (d.extract (4 * k) (4 * k + 4)) (by rw [ByteArray.size_extract]; omega) w)
  have hd1 : 128 ≤ d.size ∧ d.size ≤ 128 := by omega
  have c0 := hb.cell 0
  have hl := hb.lt
  clear hb hd
  go_enter Try.func87, Try.ntmps87
  go_wp2_with fail
  refine (HN.out _).mono ?_
  rintro e w1 ⟨rfl, g1⟩
  go_wp2_with fail
  go_ret
  exact ⟨rfl, g1⟩
end Go.Proofs.Ytbddelefglhaaaa
namespace Go.Proofs.Ytbddelefglhaaaa
set_option linter.unusedVariables false
set_option linter.unusedSimpArgs false
set_option linter.unusedSectionVars false
open Go.RowKit
attribute [local go_sem ↓] Go.wp_at_zero Go.wp_at_succ
theorem info_ent : (Try.prog.info? 101).map (fun i => (i.zero, i.size, i.bytes)) = some (some (.agg #[.int .i64 0, .string ⟨#[]⟩]), 2, 24) := by kernel_rfl
/-- The answer of 'intent'. -/
def IntP (w0 : World) (x s m : Nat) (sy ep : Int) (D : Dev) (out : Nat → Prop) (W : World) (r : List (Int × ByteArray) × Int) (e : Ending) (w' : World) : Prop :=
  ∃ v, e = .returned (.tuple #[v, .int .i64 r.2]) ∧ OwnL w' W.heap.size 101 2 v (r.1.map entC) ∧ Looked w0 x s m sy ep D out W w'
section
variable {w0 : World} {x s m : Nat} {sy ep : Int} {D : Dev} {out : Nat → Prop} {W : World} (h : Held w0 x s m sy ep D out W) (hlen : 132 ≤ D.st.length)
include h hlen
set_option maxRecDepth 100000 in
set_option maxHeartbeats 2000000 in
theorem intent_failed (hf : D.failed = true) : Calls Try.prog 78 #[ptrV s] W (IntP w0 x s m sy ep D out W ([], 10)) := by
  have hr := readR_failed hf 33 (by omega)
  have HRD := Lib.hid (fun w1 (hg : Grew W w1) => read_is (h.grew hg) 33 (by unfold okI; omega) _ _ _ 10 hr)
  have HH := Lib.hid h
  clear h hr hf hlen
  go_enter Try.func78, Try.ntmps78
  go_wp2_with fail
  refine (HRD.out _ (Grew.refl W)).mono ?_
  rintro e w1 ⟨rfl, hl1⟩
  have HL1 := Lib.hid hl1
  clear hl1
  go_wp2_with fail
  go_ret2
  exact ⟨_, rfl, OwnL.nil .., HL1.out.grew ((Grew.refl _).alloc _)⟩
set_option maxRecDepth 100000 in
set_option maxHeartbeats 2000000 in
theorem intent_shut (hf : D.failed = false) (hs : (headI D).ok = false) : Calls Try.prog 78 #[ptrV s] W (IntP w0 x s m sy ep D out W (intentL D, 0)) := by
  have hr := readR_ok hf 33 (by omega)
  have hi := noint_head D hs
  obtain ⟨⟨d, v, k⟩, hd⟩ : ∃ r, headI D = r := ⟨_, rfl⟩
  rw [show rawOf (D.content 33) ((33 : Nat) : Int) = headI D from rfl, hd] at hr
  rw [hd] at hs
  have hk : k = false := hs
  subst hk
  have HRD := Lib.hid (fun w1 (hg : Grew W w1) => read_is (h.grew hg) 33 (by unfold okI; omega) _ _ _ 0 hr)
  have HH := Lib.hid h
  have HI := Lib.hid hi
  clear h hr hf hlen hs hd hi
  go_enter Try.func78, Try.ntmps78
  go_wp2_with fail
  refine (HRD.out _ (Grew.refl W)).mono ?_
  rintro e w1 ⟨rfl, hl1⟩
  have HL1 := Lib.hid hl1
  clear hl1
  go_wp2_with fail
  go_ret2
  rw [HI.out]
  exact ⟨_, rfl, OwnL.nil .., HL1.out.grew ((Grew.refl _).alloc _)⟩
end
section
variable {w0 : World} {x s m : Nat} {sy ep : Int} {D : Dev} {out : Nat → Prop} {W : World} (h : Held w0 x s m sy ep D out W) (hlen : 132 ≤ D.st.length) (hf : D.failed = false) (d : ByteArray) (v : BitVec 32) (hd : headI D = ⟨d, v, true⟩)
include h hlen hf hd
set_option maxRecDepth 100000 in
set_option maxHeartbeats 2000000 in
theorem intent_ver (hv : fld d 0 ≠ v) : Calls Try.prog 78 #[ptrV s] W (IntP w0 x s m sy ep D out W (intentL D, 0)) := by
  have hr := readR_ok hf 33 (by omega)
  rw [show rawOf (D.content 33) ((33 : Nat) : Int) = headI D from rfl, hd] at hr
  have hds : d.size = 128 := by have := rawOf_full (t := D.content 33) (i := 33) (by rw [show rawOf (D.content 33) 33 = headI D from rfl, hd]); rw [show rawOf (D.content 33) 33 = headI D from rfl, hd] at this; exact this
  have HRD := Lib.hid (fun w1 (hg : Grew W w1) => read_is (h.grew hg) 33 (by unfold okI; omega) _ _ _ 0 hr)
  have HF : Hid (∀ (k : Nat) (i : Int), k < 3 → i = (k : Int) → ∀ (g : Nat) (w : World), Blk w g 87 #[.string d, .int .u32 (u32 v), .bool true] → Calls Try.prog 87 #[.int .i64 i, ptrV g] w fun e w' => e = .returned (.int .u32 (u32 (fld d k))) ∧ Grew w w') := Lib.hid (fun k i hk hi g w hb => by rw [hi]; exact field_any k g hk d _ _ hds w hb)
  have u0 := u32_bd (fld d 0)
  have u1 := u32_bd (fld d 1)
  have u2 := u32_bd (fld d 2)
  have uv := u32_bd v
  have HI := Lib.hid (int_no1 (D := D) (by unfold headB'; rw [hd]; simp [hv]))
  have hb : (u32 (fld d 0) != u32 v) = true := by rw [bne_iff_ne]; exact fun e => hv (u32_inj e)
  have HH := Lib.hid h
  clear h hr hf hlen hd hds hv
  go_enter Try.func78, Try.ntmps78
  go_wp2_with fail
  refine (HRD.out _ (Grew.refl W)).mono ?_
  rintro e w1 ⟨rfl, hl1⟩
  have hb1 : Blk (w1.alloc (.cells #[.string d, .int .u32 (u32 v), .bool true] 87)) w1.heap.size 87 #[.string d, .int .u32 (u32 v), .bool true] := Blk.new w1 _ _ rfl
  have hw1 := hl1.turned.size
  have HL1 := Lib.hid (hl1.grew ((Grew.refl w1).alloc (.cells #[.string d, .int .u32 (u32 v), .bool true] 87)))
  have HB1 := Lib.hid hb1
  clear hl1 hb1
  go_wp2_with fail
  refine (HF.out 0 0 (by omega) rfl _ _ HB1.out).mono ?_
  rintro e w2 ⟨rfl, g2⟩
  have HB2 := Lib.hid (HB1.out.grew g2)
  have HL2 := Lib.hid (HL1.out.grew g2)
  clear g2
  go_wp2_with fail
  refine (HF.out 1 1 (by omega) rfl _ _ HB2.out).mono ?_
  rintro e w3 ⟨rfl, g3⟩
  have HB3 := Lib.hid (HB2.out.grew g3)
  have HL3 := Lib.hid (HL2.out.grew g3)
  clear g3
  go_wp2_with fail
  refine (HF.out 2 2 (by omega) rfl _ _ HB3.out).mono ?_
  rintro e w4 ⟨rfl, g4⟩
  have HB4 := Lib.hid (HB3.out.grew g4)
  have HL4 := Lib.hid (HL3.out.grew g4)
  clear g4
  go_wp2_with fail
  refine wp_region_R [] (fun w' : World => w'.cell? ⟨w1.heap.size, 0, none⟩ = some (.string d) ∧ w'.cell? ⟨w1.heap.size, 1, none⟩ = some (.int .u32 (u32 v)) ∧ w1.heap.size < w'.heap.size) (by kernel_rfl) ?_
  have hS := (show (fun w' : World => w'.cell? ⟨w1.heap.size, 0, none⟩ = some (.string d) ∧ w'.cell? ⟨w1.heap.size, 1, none⟩ = some (.int .u32 (u32 v)) ∧ w1.heap.size < w'.heap.size) w4.drew from ⟨HB4.out.drew.cell 0, HB4.out.drew.cell 1, HB4.out.drew.lt⟩)
  refine wpAnyR_takeQ (i := 0) (v := ?_) (some 40) rfl rfl (by kernel_rfl) (by kernel_rfl) (by kernel_rfl) (by kernel_rfl) (fun _ _ _ h => h) (Or.inl ⟨by rfl, ?_⟩) ?_
  rotate_left
  focus (intro wS hSw; (try dsimp only at hSw); go_simp; (try with_reducible rfl); (try (first | (rw [if_pos (by omega)]; (try go_simp); (try with_reducible rfl)) | (rw [if_neg (by omega)]; (try go_simp); (try with_reducible rfl)))))
  try simp only [Act.put, List.setIfInBounds_toArray, List.set_cons_zero, List.set_cons_succ]
  refine wpAnyR_takeQ (i := 1) (v := ?_) (some 41) rfl rfl (by kernel_rfl) (by kernel_rfl) (by kernel_rfl) (by kernel_rfl) (fun _ _ _ h => h) (Or.inl ⟨by rfl, ?_⟩) ?_
  rotate_left
  focus (intro wS hSw; (try dsimp only at hSw); go_simp; (try with_reducible rfl); (try (first | (rw [if_pos (by omega)]; (try go_simp); (try with_reducible rfl)) | (rw [if_neg (by omega)]; (try go_simp); (try with_reducible rfl)))))
  try simp only [Act.put, List.setIfInBounds_toArray, List.set_cons_zero, List.set_cons_succ]
  refine wpAnyR_take (i := 2) (v := ?_) [3, 4, 5, 6, 7, 8, 9, 10, 11, 12, 13, 14, 15, 16, 17, 18, 19] (some 42) rfl rfl (by kernel_rfl) (by kernel_rfl) (by kernel_rfl) (by kernel_rfl) (by kernel_rfl) (by kernel_rfl) (by kernel_rfl) (fun _ _ _ h => h) (Or.inl ⟨by rfl, ?_⟩) hS ?_
  rotate_left
  focus (intro wS hSw; (try dsimp only at hSw); go_simp; (try with_reducible rfl); (try (first | (rw [if_pos (by omega)]; (try go_simp); (try with_reducible rfl)) | (rw [if_neg (by omega)]; (try go_simp); (try with_reducible rfl)))))
  try simp only [Act.put, List.setIfInBounds_toArray, List.set_cons_zero, List.set_cons_succ]
  refine wpAnyR_takeQ (i := 3) (v := ?_) (some 43) rfl rfl (by kernel_rfl) (by kernel_rfl) (by kernel_rfl) (by kernel_rfl) (fun _ _ _ h => h) (Or.inl ⟨by rfl, ?_⟩) ?_
  rotate_left
  focus (intro wS hSw; (try dsimp only at hSw); go_simp; (try with_reducible rfl); (try (first | (rw [if_pos (by omega)]; (try go_simp); (try with_reducible rfl)) | (rw [if_neg (by omega)]; (try go_simp); (try with_reducible rfl)))))
  try simp only [Act.put, List.setIfInBounds_toArray, List.set_cons_zero, List.set_cons_succ]
  refine wpAnyR_takeQ (i := 4) (v := ?_) (some 44) rfl rfl (by kernel_rfl) (by kernel_rfl) (by kernel_rfl) (by kernel_rfl) (fun _ _ _ h => h) (Or.inl ⟨by rfl, ?_⟩) ?_
  rotate_left
  focus (intro wS hSw; (try dsimp only at hSw); go_simp; (try with_reducible rfl); (try (first | (rw [if_pos (by omega)]; (try go_simp); (try with_reducible rfl)) | (rw [if_neg (by omega)]; (try go_simp); (try with_reducible rfl)))))
  try simp only [Act.put, List.setIfInBounds_toArray, List.set_cons_zero, List.set_cons_succ]
  refine wpAnyR_takeQ (i := 5) (v := undef) (some 45) rfl rfl (by kernel_rfl) (by kernel_rfl) (by kernel_rfl) (by kernel_rfl) (fun _ _ _ h => h) (Or.inr ⟨by rfl, rfl⟩) ?_
  try simp only [Act.put, List.setIfInBounds_toArray, List.set_cons_zero, List.set_cons_succ]
  refine wpAnyR_takeQ (i := 6) (v := undef) (some 46) rfl rfl (by kernel_rfl) (by kernel_rfl) (by kernel_rfl) (by kernel_rfl) (fun _ _ _ h => h) (Or.inr ⟨by rfl, rfl⟩) ?_
  try simp only [Act.put, List.setIfInBounds_toArray, List.set_cons_zero, List.set_cons_succ]
  refine wpAnyR_takeQ (i := 7) (v := ?_) (some 47) rfl rfl (by kernel_rfl) (by kernel_rfl) (by kernel_rfl) (by kernel_rfl) (fun _ _ _ h => h) (Or.inl ⟨by rfl, ?_⟩) ?_
  rotate_left
  focus (intro wS hSw; (try dsimp only at hSw); go_simp; (try with_reducible rfl); (try (first | (rw [if_pos (by omega)]; (try go_simp); (try with_reducible rfl)) | (rw [if_neg (by omega)]; (try go_simp); (try with_reducible rfl)))))
  try simp only [Act.put, List.setIfInBounds_toArray, List.set_cons_zero, List.set_cons_succ]
  refine wpAnyR_takeQ (i := 8) (v := ?_) (some 48) rfl rfl (by kernel_rfl) (by kernel_rfl) (by kernel_rfl) (by kernel_rfl) (fun _ _ _ h => h) (Or.inl ⟨by rfl, ?_⟩) ?_
  rotate_left
  focus (intro wS hSw; (try dsimp only at hSw); go_simp; (try with_reducible rfl); (try (first | (rw [if_pos (by omega)]; (try go_simp); (try with_reducible rfl)) | (rw [if_neg (by omega)]; (try go_simp); (try with_reducible rfl)))))
  try simp only [Act.put, List.setIfInBounds_toArray, List.set_cons_zero, List.set_cons_succ]
  refine wpAnyR_takeQ (i := 9) (v := undef) (some 49) rfl rfl (by kernel_rfl) (by kernel_rfl) (by kernel_rfl) (by kernel_rfl) (fun _ _ _ h => h) (Or.inr ⟨by rfl, rfl⟩) ?_
  try simp only [Act.put, List.setIfInBounds_toArray, List.set_cons_zero, List.set_cons_succ]
  refine wpAnyR_takeQ (i := 10) (v := undef) (some 50) rfl rfl (by kernel_rfl) (by kernel_rfl) (by kernel_rfl) (by kernel_rfl) (fun _ _ _ h => h) (Or.inr ⟨by rfl, rfl⟩) ?_
  try simp only [Act.put, List.setIfInBounds_toArray, List.set_cons_zero, List.set_cons_succ]
  refine wpAnyR_takeQ (i := 11) (v := ?_) (some 51) rfl rfl (by kernel_rfl) (by kernel_rfl) (by kernel_rfl) (by kernel_rfl) (fun _ _ _ h => h) (Or.inl ⟨by rfl, ?_⟩) ?_
  rotate_left
  focus (intro wS hSw; (try dsimp only at hSw); go_simp; (try with_reducible rfl); (try (first | (rw [if_pos (by omega)]; (try go_simp); (try with_reducible rfl)) | (rw [if_neg (by omega)]; (try go_simp); (try with_reducible rfl)))))
  try simp only [Act.put, List.setIfInBounds_toArray, List.set_cons_zero, List.set_cons_succ]
  refine wpAnyR_takeQ (i := 12) (v := ?_) (some 52) rfl rfl (by kernel_rfl) (by kernel_rfl) (by kernel_rfl) (by kernel_rfl) (fun _ _ _ h => h) (Or.inl ⟨by rfl, ?_⟩) ?_
  rotate_left
  focus (intro wS hSw; (try dsimp only at hSw); go_simp; (try with_reducible rfl); (try (first | (rw [if_pos (by omega)]; (try go_simp); (try with_reducible rfl)) | (rw [if_neg (by omega)]; (try go_simp); (try with_reducible rfl)))))
  try simp only [Act.put, List.setIfInBounds_toArray, List.set_cons_zero, List.set_cons_succ]
  refine wpAnyR_takeQ (i := 13) (v := undef) (some 53) rfl rfl (by kernel_rfl) (by kernel_rfl) (by kernel_rfl) (by kernel_rfl) (fun _ _ _ h => h) (Or.inr ⟨by rfl, rfl⟩) ?_
  try simp only [Act.put, List.setIfInBounds_toArray, List.set_cons_zero, List.set_cons_succ]
  refine wpAnyR_takeQ (i := 14) (v := undef) (some 54) rfl rfl (by kernel_rfl) (by kernel_rfl) (by kernel_rfl) (by kernel_rfl) (fun _ _ _ h => h) (Or.inr ⟨by rfl, rfl⟩) ?_
  try simp only [Act.put, List.setIfInBounds_toArray, List.set_cons_zero, List.set_cons_succ]
  refine wpAnyR_takeQ (i := 15) (v := undef) (some 55) rfl rfl (by kernel_rfl) (by kernel_rfl) (by kernel_rfl) (by kernel_rfl) (fun _ _ _ h => h) (Or.inr ⟨by rfl, rfl⟩) ?_
  try simp only [Act.put, List.setIfInBounds_toArray, List.set_cons_zero, List.set_cons_succ]
  refine wpAnyR_takeQ (i := 16) (v := undef) (some 56) rfl rfl (by kernel_rfl) (by kernel_rfl) (by kernel_rfl) (by kernel_rfl) (fun _ _ _ h => h) (Or.inr ⟨by rfl, rfl⟩) ?_
  try simp only [Act.put, List.setIfInBounds_toArray, List.set_cons_zero, List.set_cons_succ]
  refine wpAnyR_takeQ (i := 17) (v := undef) (some 57) rfl rfl (by kernel_rfl) (by kernel_rfl) (by kernel_rfl) (by kernel_rfl) (fun _ _ _ h => h) (Or.inr ⟨by rfl, rfl⟩) ?_
  try simp only [Act.put, List.setIfInBounds_toArray, List.set_cons_zero, List.set_cons_succ]
  refine wpAnyR_takeQ (i := 18) (v := undef) (some 58) rfl rfl (by kernel_rfl) (by kernel_rfl) (by kernel_rfl) (by kernel_rfl) (fun _ _ _ h => h) (Or.inr ⟨by rfl, rfl⟩) ?_
  try simp only [Act.put, List.setIfInBounds_toArray, List.set_cons_zero, List.set_cons_succ]
  refine wpAnyR_takeQ (i := 19) (v := ?_) (some 59) rfl rfl (by kernel_rfl) (by kernel_rfl) (by kernel_rfl) (by kernel_rfl) (fun _ _ _ h => h) (Or.inl ⟨by rfl, ?_⟩) ?_
  rotate_left
  focus (intro wS hSw; (try dsimp only at hSw); go_simp; (try with_reducible rfl); (try (first | (rw [if_pos (by omega)]; (try go_simp); (try with_reducible rfl)) | (rw [if_neg (by omega)]; (try go_simp); (try with_reducible rfl)))))
  try simp only [Act.put, List.setIfInBounds_toArray, List.set_cons_zero, List.set_cons_succ]
  refine wpAnyR_done (by kernel_rfl) ?_ _
  go_wp2_with fail
  go_ret2
  rw [HI.out]
  exact ⟨_, rfl, OwnL.nil .., HL4.out.grew (by (repeat' first | (with_reducible exact Grew.refl _) | (with_reducible assumption) | (with_reducible refine Grew.alloc ?_ _) | (with_reducible refine Grew.drew ?_) | (with_reducible refine Grew.drewN ?_ _) | (with_reducible refine Grew.setRow ?_ (by first | (simp; done) | (simp; omega) | omega) _) | (with_reducible refine Grew.setCell ?_ (by first | (simp; done) | (simp; omega) | omega) _) | ((with_reducible apply Grew.trans); rotate_left; (with_reducible assumption)) | ((with_reducible apply Grew.turn); rotate_left; (with_reducible assumption); (focus (intro i hi; first | omega | (simp at hi; omega)))) | fail))⟩
set_option maxRecDepth 100000 in
set_option maxHeartbeats 2000000 in
theorem intent_few (hv : fld d 0 = v) (hc : cntI D < 1) : Calls Try.prog 78 #[ptrV s] W (IntP w0 x s m sy ep D out W (intentL D, 0)) := by
  have hr := readR_ok hf 33 (by omega)
  rw [show rawOf (D.content 33) ((33 : Nat) : Int) = headI D from rfl, hd] at hr
  have hds : d.size = 128 := by have := rawOf_full (t := D.content 33) (i := 33) (by rw [show rawOf (D.content 33) 33 = headI D from rfl, hd]); rw [show rawOf (D.content 33) 33 = headI D from rfl, hd] at this; exact this
  have HRD := Lib.hid (fun w1 (hg : Grew W w1) => read_is (h.grew hg) 33 (by unfold okI; omega) _ _ _ 0 hr)
  have HF : Hid (∀ (k : Nat) (i : Int), k < 3 → i = (k : Int) → ∀ (g : Nat) (w : World), Blk w g 87 #[.string d, .int .u32 (u32 v), .bool true] → Calls Try.prog 87 #[.int .i64 i, ptrV g] w fun e w' => e = .returned (.int .u32 (u32 (fld d k))) ∧ Grew w w') := Lib.hid (fun k i hk hi g w hb => by rw [hi]; exact field_any k g hk d _ _ hds w hb)
  have u0 := u32_bd (fld d 0)
  have u1 := u32_bd (fld d 1)
  have u2 := u32_bd (fld d 2)
  have uv := u32_bd v
  have HI := Lib.hid (int_no1 (D := D) (by unfold headB'; rw [decide_eq_false (fun e => absurd e.1 (by omega))]; simp))
  have hb : (u32 (fld d 0) != u32 v) = false := by rw [hv]; simp
  have hcc : u32 (fld d 1) < 1 := by unfold cntI at hc; rw [hd] at hc; unfold u32; show ((fld d 1).toNat : Int) < 1; have : (fld d 1).toNat < 1 := hc; omega
  have hcb : decide (u32 (fld d 1) < 1) = true := decide_eq_true hcc
  have HH := Lib.hid h
  clear h hr hf hlen hd hds hv hc
  go_enter Try.func78, Try.ntmps78
  go_wp2_with fail
  refine (HRD.out _ (Grew.refl W)).mono ?_
  rintro e w1 ⟨rfl, hl1⟩
  have hb1 : Blk (w1.alloc (.cells #[.string d, .int .u32 (u32 v), .bool true] 87)) w1.heap.size 87 #[.string d, .int .u32 (u32 v), .bool true] := Blk.new w1 _ _ rfl
  have hw1 := hl1.turned.size
  have HL1 := Lib.hid (hl1.grew ((Grew.refl w1).alloc (.cells #[.string d, .int .u32 (u32 v), .bool true] 87)))
  have HB1 := Lib.hid hb1
  clear hl1 hb1
  go_wp2_with fail
  refine (HF.out 0 0 (by omega) rfl _ _ HB1.out).mono ?_
  rintro e w2 ⟨rfl, g2⟩
  have HB2 := Lib.hid (HB1.out.grew g2)
  have HL2 := Lib.hid (HL1.out.grew g2)
  clear g2
  go_wp2_with fail
  refine (HF.out 1 1 (by omega) rfl _ _ HB2.out).mono ?_
  rintro e w3 ⟨rfl, g3⟩
  have HB3 := Lib.hid (HB2.out.grew g3)
  have HL3 := Lib.hid (HL2.out.grew g3)
  clear g3
  go_wp2_with fail
  refine (HF.out 2 2 (by omega) rfl _ _ HB3.out).mono ?_
  rintro e w4 ⟨rfl, g4⟩
  have HB4 := Lib.hid (HB3.out.grew g4)
  have HL4 := Lib.hid (HL3.out.grew g4)
  clear g4
  go_wp2_with fail
  refine wp_region_R [] (fun w' : World => w'.cell? ⟨w1.heap.size, 0, none⟩ = some (.string d) ∧ w'.cell? ⟨w1.heap.size, 1, none⟩ = some (.int .u32 (u32 v)) ∧ w1.heap.size < w'.heap.size) (by kernel_rfl) ?_
  have hS := (show (fun w' : World => w'.cell? ⟨w1.heap.size, 0, none⟩ = some (.string d) ∧ w'.cell? ⟨w1.heap.size, 1, none⟩ = some (.int .u32 (u32 v)) ∧ w1.heap.size < w'.heap.size) w4.drew from ⟨HB4.out.drew.cell 0, HB4.out.drew.cell 1, HB4.out.drew.lt⟩)
  refine wpAnyR_takeQ (i := 0) (v := ?_) (some 40) rfl rfl (by kernel_rfl) (by kernel_rfl) (by kernel_rfl) (by kernel_rfl) (fun _ _ _ h => h) (Or.inl ⟨by rfl, ?_⟩) ?_
  rotate_left
  focus (intro wS hSw; (try dsimp only at hSw); go_simp; (try with_reducible rfl); (try (first | (rw [if_pos (by omega)]; (try go_simp); (try with_reducible rfl)) | (rw [if_neg (by omega)]; (try go_simp); (try with_reducible rfl)))))
  try simp only [Act.put, List.setIfInBounds_toArray, List.set_cons_zero, List.set_cons_succ]
  refine wpAnyR_takeQ (i := 1) (v := ?_) (some 41) rfl rfl (by kernel_rfl) (by kernel_rfl) (by kernel_rfl) (by kernel_rfl) (fun _ _ _ h => h) (Or.inl ⟨by rfl, ?_⟩) ?_
  rotate_left
  focus (intro wS hSw; (try dsimp only at hSw); go_simp; (try with_reducible rfl); (try (first | (rw [if_pos (by omega)]; (try go_simp); (try with_reducible rfl)) | (rw [if_neg (by omega)]; (try go_simp); (try with_reducible rfl)))))
  try simp only [Act.put, List.setIfInBounds_toArray, List.set_cons_zero, List.set_cons_succ]
  refine wpAnyR_take (i := 2) (v := ?_) [3, 4, 5, 6, 7, 8, 9, 10, 11, 12, 13, 14, 15, 16, 17, 18, 19] (some 42) rfl rfl (by kernel_rfl) (by kernel_rfl) (by kernel_rfl) (by kernel_rfl) (by kernel_rfl) (by kernel_rfl) (by kernel_rfl) (fun _ _ _ h => h) (Or.inl ⟨by rfl, ?_⟩) hS ?_
  rotate_left
  focus (intro wS hSw; (try dsimp only at hSw); go_simp; (try with_reducible rfl); (try (first | (rw [if_pos (by omega)]; (try go_simp); (try with_reducible rfl)) | (rw [if_neg (by omega)]; (try go_simp); (try with_reducible rfl)))))
  try simp only [Act.put, List.setIfInBounds_toArray, List.set_cons_zero, List.set_cons_succ]
  refine wpAnyR_takeQ (i := 3) (v := ?_) (some 43) rfl rfl (by kernel_rfl) (by kernel_rfl) (by kernel_rfl) (by kernel_rfl) (fun _ _ _ h => h) (Or.inl ⟨by rfl, ?_⟩) ?_
  rotate_left
  focus (intro wS hSw; (try dsimp only at hSw); go_simp; (try with_reducible rfl); (try (first | (rw [if_pos (by omega)]; (try go_simp); (try with_reducible rfl)) | (rw [if_neg (by omega)]; (try go_simp); (try with_reducible rfl)))))
  try simp only [Act.put, List.setIfInBounds_toArray, List.set_cons_zero, List.set_cons_succ]
  refine wpAnyR_takeQ (i := 4) (v := ?_) (some 44) rfl rfl (by kernel_rfl) (by kernel_rfl) (by kernel_rfl) (by kernel_rfl) (fun _ _ _ h => h) (Or.inl ⟨by rfl, ?_⟩) ?_
  rotate_left
  focus (intro wS hSw; (try dsimp only at hSw); go_simp; (try with_reducible rfl); (try (first | (rw [if_pos (by omega)]; (try go_simp); (try with_reducible rfl)) | (rw [if_neg (by omega)]; (try go_simp); (try with_reducible rfl)))))
  try simp only [Act.put, List.setIfInBounds_toArray, List.set_cons_zero, List.set_cons_succ]
  refine wpAnyR_takeQ (i := 5) (v := ?_) (some 45) rfl rfl (by kernel_rfl) (by kernel_rfl) (by kernel_rfl) (by kernel_rfl) (fun _ _ _ h => h) (Or.inl ⟨by rfl, ?_⟩) ?_
  rotate_left
  focus (intro wS hSw; (try dsimp only at hSw); go_simp; (try with_reducible rfl); (try (first | (rw [if_pos (by omega)]; (try go_simp); (try with_reducible rfl)) | (rw [if_neg (by omega)]; (try go_simp); (try with_reducible rfl)))))
  try simp only [Act.put, List.setIfInBounds_toArray, List.set_cons_zero, List.set_cons_succ]
  refine wpAnyR_takeQ (i := 6) (v := ?_) (some 46) rfl rfl (by kernel_rfl) (by kernel_rfl) (by kernel_rfl) (by kernel_rfl) (fun _ _ _ h => h) (Or.inl ⟨by rfl, ?_⟩) ?_
  rotate_left
  focus (intro wS hSw; (try dsimp only at hSw); go_simp; (try with_reducible rfl); (try (first | (rw [if_pos (by omega)]; (try go_simp); (try with_reducible rfl)) | (rw [if_neg (by omega)]; (try go_simp); (try with_reducible rfl)))))
  try simp only [Act.put, List.setIfInBounds_toArray, List.set_cons_zero, List.set_cons_succ]
  refine wpAnyR_takeQ (i := 7) (v := ?_) (some 47) rfl rfl (by kernel_rfl) (by kernel_rfl) (by kernel_rfl) (by kernel_rfl) (fun _ _ _ h => h) (Or.inl ⟨by rfl, ?_⟩) ?_
  rotate_left
  focus (intro wS hSw; (try dsimp only at hSw); go_simp; (try with_reducible rfl); (try (first | (rw [if_pos (by omega)]; (try go_simp); (try with_reducible rfl)) | (rw [if_neg (by omega)]; (try go_simp); (try with_reducible rfl)))))
  try simp only [Act.put, List.setIfInBounds_toArray, List.set_cons_zero, List.set_cons_succ]
  refine wpAnyR_takeQ (i := 8) (v := ?_) (some 48) rfl rfl (by kernel_rfl) (by kernel_rfl) (by kernel_rfl) (by kernel_rfl) (fun _ _ _ h => h) (Or.inl ⟨by rfl, ?_⟩) ?_
  rotate_left
  focus (intro wS hSw; (try dsimp only at hSw); go_simp; (try with_reducible rfl); (try (first | (rw [if_pos (by omega)]; (try go_simp); (try with_reducible rfl)) | (rw [if_neg (by omega)]; (try go_simp); (try with_reducible rfl)))))
  try simp only [Act.put, List.setIfInBounds_toArray, List.set_cons_zero, List.set_cons_succ]
  refine wpAnyR_takeQ (i := 9) (v := undef) (some 49) rfl rfl (by kernel_rfl) (by kernel_rfl) (by kernel_rfl) (by kernel_rfl) (fun _ _ _ h => h) (Or.inr ⟨by rfl, rfl⟩) ?_
  try simp only [Act.put, List.setIfInBounds_toArray, List.set_cons_zero, List.set_cons_succ]
  refine wpAnyR_takeQ (i := 10) (v := undef) (some 50) rfl rfl (by kernel_rfl) (by kernel_rfl) (by kernel_rfl) (by kernel_rfl) (fun _ _ _ h => h) (Or.inr ⟨by rfl, rfl⟩) ?_
  try simp only [Act.put, List.setIfInBounds_toArray, List.set_cons_zero, List.set_cons_succ]
  refine wpAnyR_takeQ (i := 11) (v := ?_) (some 51) rfl rfl (by kernel_rfl) (by kernel_rfl) (by kernel_rfl) (by kernel_rfl) (fun _ _ _ h => h) (Or.inl ⟨by rfl, ?_⟩) ?_
  rotate_left
  focus (intro wS hSw; (try dsimp only at hSw); go_simp; (try with_reducible rfl); (try (first | (rw [if_pos (by omega)]; (try go_simp); (try with_reducible rfl)) | (rw [if_neg (by omega)]; (try go_simp); (try with_reducible rfl)))))
  try simp only [Act.put, List.setIfInBounds_toArray, List.set_cons_zero, List.set_cons_succ]
  refine wpAnyR_takeQ (i := 12) (v := ?_) (some 52) rfl rfl (by kernel_rfl) (by kernel_rfl) (by kernel_rfl) (by kernel_rfl) (fun _ _ _ h => h) (Or.inl ⟨by rfl, ?_⟩) ?_
  rotate_left
  focus (intro wS hSw; (try dsimp only at hSw); go_simp; (try with_reducible rfl); (try (first | (rw [if_pos (by omega)]; (try go_simp); (try with_reducible rfl)) | (rw [if_neg (by omega)]; (try go_simp); (try with_reducible rfl)))))
  try simp only [Act.put, List.setIfInBounds_toArray, List.set_cons_zero, List.set_cons_succ]
  refine wpAnyR_takeQ (i := 13) (v := undef) (some 53) rfl rfl (by kernel_rfl) (by kernel_rfl) (by kernel_rfl) (by kernel_rfl) (fun _ _ _ h => h) (Or.inr ⟨by rfl, rfl⟩) ?_
  try simp only [Act.put, List.setIfInBounds_toArray, List.set_cons_zero, List.set_cons_succ]
  refine wpAnyR_takeQ (i := 14) (v := undef) (some 54) rfl rfl (by kernel_rfl) (by kernel_rfl) (by kernel_rfl) (by kernel_rfl) (fun _ _ _ h => h) (Or.inr ⟨by rfl, rfl⟩) ?_
  try simp only [Act.put, List.setIfInBounds_toArray, List.set_cons_zero, List.set_cons_succ]
  refine wpAnyR_takeQ (i := 15) (v := undef) (some 55) rfl rfl (by kernel_rfl) (by kernel_rfl) (by kernel_rfl) (by kernel_rfl) (fun _ _ _ h => h) (Or.inr ⟨by rfl, rfl⟩) ?_
  try simp only [Act.put, List.setIfInBounds_toArray, List.set_cons_zero, List.set_cons_succ]
  refine wpAnyR_takeQ (i := 16) (v := undef) (some 56) rfl rfl (by kernel_rfl) (by kernel_rfl) (by kernel_rfl) (by kernel_rfl) (fun _ _ _ h => h) (Or.inr ⟨by rfl, rfl⟩) ?_
  try simp only [Act.put, List.setIfInBounds_toArray, List.set_cons_zero, List.set_cons_succ]
  refine wpAnyR_takeQ (i := 17) (v := undef) (some 57) rfl rfl (by kernel_rfl) (by kernel_rfl) (by kernel_rfl) (by kernel_rfl) (fun _ _ _ h => h) (Or.inr ⟨by rfl, rfl⟩) ?_
  try simp only [Act.put, List.setIfInBounds_toArray, List.set_cons_zero, List.set_cons_succ]
  refine wpAnyR_takeQ (i := 18) (v := undef) (some 58) rfl rfl (by kernel_rfl) (by kernel_rfl) (by kernel_rfl) (by kernel_rfl) (fun _ _ _ h => h) (Or.inr ⟨by rfl, rfl⟩) ?_
  try simp only [Act.put, List.setIfInBounds_toArray, List.set_cons_zero, List.set_cons_succ]
  refine wpAnyR_takeQ (i := 19) (v := ?_) (some 59) rfl rfl (by kernel_rfl) (by kernel_rfl) (by kernel_rfl) (by kernel_rfl) (fun _ _ _ h => h) (Or.inl ⟨by rfl, ?_⟩) ?_
  rotate_left
  focus (intro wS hSw; (try dsimp only at hSw); go_simp; (try with_reducible rfl); (try (first | (rw [if_pos (by omega)]; (try go_simp); (try with_reducible rfl)) | (rw [if_neg (by omega)]; (try go_simp); (try with_reducible rfl)))))
  try simp only [Act.put, List.setIfInBounds_toArray, List.set_cons_zero, List.set_cons_succ]
  refine wpAnyR_done (by kernel_rfl) ?_ _
  go_wp2_with fail
  go_ret2
  rw [HI.out]
  exact ⟨_, rfl, OwnL.nil .., HL4.out.grew (by (repeat' first | (with_reducible exact Grew.refl _) | (with_reducible assumption) | (with_reducible refine Grew.alloc ?_ _) | (with_reducible refine Grew.drew ?_) | (with_reducible refine Grew.drewN ?_ _) | (with_reducible refine Grew.setRow ?_ (by first | (simp; done) | (simp; omega) | omega) _) | (with_reducible refine Grew.setCell ?_ (by first | (simp; done) | (simp; omega) | omega) _) | ((with_reducible apply Grew.trans); rotate_left; (with_reducible assumption)) | ((with_reducible apply Grew.turn); rotate_left; (with_reducible assumption); (focus (intro i hi; first | omega | (simp at hi; omega)))) | fail))⟩
set_option maxRecDepth 100000 in
set_option maxHeartbeats 2000000 in
theorem intent_many (hv : fld d 0 = v) (hc : 97 < cntI D) : Calls Try.prog 78 #[ptrV s] W (IntP w0 x s m sy ep D out W (intentL D, 0)) := by
  have hr := readR_ok hf 33 (by omega)
  rw [show rawOf (D.content 33) ((33 : Nat) : Int) = headI D from rfl, hd] at hr
  have hds : d.size = 128 := by have := rawOf_full (t := D.content 33) (i := 33) (by rw [show rawOf (D.content 33) 33 = headI D from rfl, hd]); rw [show rawOf (D.content 33) 33 = headI D from rfl, hd] at this; exact this
  have HRD := Lib.hid (fun w1 (hg : Grew W w1) => read_is (h.grew hg) 33 (by unfold okI; omega) _ _ _ 0 hr)
  have HF : Hid (∀ (k : Nat) (i : Int), k < 3 → i = (k : Int) → ∀ (g : Nat) (w : World), Blk w g 87 #[.string d, .int .u32 (u32 v), .bool true] → Calls Try.prog 87 #[.int .i64 i, ptrV g] w fun e w' => e = .returned (.int .u32 (u32 (fld d k))) ∧ Grew w w') := Lib.hid (fun k i hk hi g w hb => by rw [hi]; exact field_any k g hk d _ _ hds w hb)
  have u0 := u32_bd (fld d 0)
  have u1 := u32_bd (fld d 1)
  have u2 := u32_bd (fld d 2)
  have uv := u32_bd v
  have HI := Lib.hid (int_no1 (D := D) (by unfold headB'; rw [decide_eq_false (fun e => absurd e.2 (by omega))]; simp))
  have hb : (u32 (fld d 0) != u32 v) = false := by rw [hv]; simp
  have hcc : u32 (fld d 1) > 97 := by unfold cntI at hc; rw [hd] at hc; unfold u32; show ((fld d 1).toNat : Int) > 97; have : 97 < (fld d 1).toNat := hc; omega
  have hcb : decide (u32 (fld d 1) < 1) = false := decide_eq_false (by omega)
  have hcb2 : decide (97 < u32 (fld d 1)) = true := decide_eq_true hcc
  have HH := Lib.hid h
  clear h hr hf hlen hd hds hv hc
  go_enter Try.func78, Try.ntmps78
  go_wp2_with fail
  refine (HRD.out _ (Grew.refl W)).mono ?_
  rintro e w1 ⟨rfl, hl1⟩
  have hb1 : Blk (w1.alloc (.cells #[.string d, .int .u32 (u32 v), .bool true] 87)) w1.heap.size 87 #[.string d, .int .u32 (u32 v), .bool true] := Blk.new w1 _ _ rfl
  have hw1 := hl1.turned.size
  have HL1 := Lib.hid (hl1.grew ((Grew.refl w1).alloc (.cells #[.string d, .int .u32 (u32 v), .bool true] 87)))
  have HB1 := Lib.hid hb1
  clear hl1 hb1
  go_wp2_with fail
  refine (HF.out 0 0 (by omega) rfl _ _ HB1.out).mono ?_
  rintro e w2 ⟨rfl, g2⟩
  have HB2 := Lib.hid (HB1.out.grew g2)
  have HL2 := Lib.hid (HL1.out.grew g2)
  clear g2
  go_wp2_with fail
  refine (HF.out 1 1 (by omega) rfl _ _ HB2.out).mono ?_
  rintro e w3 ⟨rfl, g3⟩
  have HB3 := Lib.hid (HB2.out.grew g3)
  have HL3 := Lib.hid (HL2.out.grew g3)
  clear g3
  go_wp2_with fail
  refine (HF.out 2 2 (by omega) rfl _ _ HB3.out).mono ?_
  rintro e w4 ⟨rfl, g4⟩
  have HB4 := Lib.hid (HB3.out.grew g4)
  have HL4 := Lib.hid (HL3.out.grew g4)
  clear g4
  go_wp2_with fail
  refine wp_region_R [] (fun w' : World => w'.cell? ⟨w1.heap.size, 0, none⟩ = some (.string d) ∧ w'.cell? ⟨w1.heap.size, 1, none⟩ = some (.int .u32 (u32 v)) ∧ w1.heap.size < w'.heap.size) (by kernel_rfl) ?_
  have hS := (show (fun w' : World => w'.cell? ⟨w1.heap.size, 0, none⟩ = some (.string d) ∧ w'.cell? ⟨w1.heap.size, 1, none⟩ = some (.int .u32 (u32 v)) ∧ w1.heap.size < w'.heap.size) w4.drew from ⟨HB4.out.drew.cell 0, HB4.out.drew.cell 1, HB4.out.drew.lt⟩)
  refine wpAnyR_takeQ (i := 0) (v := ?_) (some 40) rfl rfl (by kernel_rfl) (by kernel_rfl) (by kernel_rfl) (by kernel_rfl) (fun _ _ _ h => h) (Or.inl ⟨by rfl, ?_⟩) ?_
  rotate_left
  focus (intro wS hSw; (try dsimp only at hSw); go_simp; (try with_reducible rfl); (try (first | (rw [if_pos (by omega)]; (try go_simp); (try with_reducible rfl)) | (rw [if_neg (by omega)]; (try go_simp); (try with_reducible rfl)))))
  try simp only [Act.put, List.setIfInBounds_toArray, List.set_cons_zero, List.set_cons_succ]
  refine wpAnyR_takeQ (i := 1) (v := ?_) (some 41) rfl rfl (by kernel_rfl) (by kernel_rfl) (by kernel_rfl) (by kernel_rfl) (fun _ _ _ h => h) (Or.inl ⟨by rfl, ?_⟩) ?_
  rotate_left
  focus (intro wS hSw; (try dsimp only at hSw); go_simp; (try with_reducible rfl); (try (first | (rw [if_pos (by omega)]; (try go_simp); (try with_reducible rfl)) | (rw [if_neg (by omega)]; (try go_simp); (try with_reducible rfl)))))
  try simp only [Act.put, List.setIfInBounds_toArray, List.set_cons_zero, List.set_cons_succ]
  refine wpAnyR_take (i := 2) (v := ?_) [3, 4, 5, 6, 7, 8, 9, 10, 11, 12, 13, 14, 15, 16, 17, 18, 19] (some 42) rfl rfl (by kernel_rfl) (by kernel_rfl) (by kernel_rfl) (by kernel_rfl) (by kernel_rfl) (by kernel_rfl) (by kernel_rfl) (fun _ _ _ h => h) (Or.inl ⟨by rfl, ?_⟩) hS ?_
  rotate_left
  focus (intro wS hSw; (try dsimp only at hSw); go_simp; (try with_reducible rfl); (try (first | (rw [if_pos (by omega)]; (try go_simp); (try with_reducible rfl)) | (rw [if_neg (by omega)]; (try go_simp); (try with_reducible rfl)))))
  try simp only [Act.put, List.setIfInBounds_toArray, List.set_cons_zero, List.set_cons_succ]
  refine wpAnyR_takeQ (i := 3) (v := ?_) (some 43) rfl rfl (by kernel_rfl) (by kernel_rfl) (by kernel_rfl) (by kernel_rfl) (fun _ _ _ h => h) (Or.inl ⟨by rfl, ?_⟩) ?_
  rotate_left
  focus (intro wS hSw; (try dsimp only at hSw); go_simp; (try with_reducible rfl); (try (first | (rw [if_pos (by omega)]; (try go_simp); (try with_reducible rfl)) | (rw [if_neg (by omega)]; (try go_simp); (try with_reducible rfl)))))
  try simp only [Act.put, List.setIfInBounds_toArray, List.set_cons_zero, List.set_cons_succ]
  refine wpAnyR_takeQ (i := 4) (v := ?_) (some 44) rfl rfl (by kernel_rfl) (by kernel_rfl) (by kernel_rfl) (by kernel_rfl) (fun _ _ _ h => h) (Or.inl ⟨by rfl, ?_⟩) ?_
  rotate_left
  focus (intro wS hSw; (try dsimp only at hSw); go_simp; (try with_reducible rfl); (try (first | (rw [if_pos (by omega)]; (try go_simp); (try with_reducible rfl)) | (rw [if_neg (by omega)]; (try go_simp); (try with_reducible rfl)))))
  try simp only [Act.put, List.setIfInBounds_toArray, List.set_cons_zero, List.set_cons_succ]
  refine wpAnyR_takeQ (i := 5) (v := ?_) (some 45) rfl rfl (by kernel_rfl) (by kernel_rfl) (by kernel_rfl) (by kernel_rfl) (fun _ _ _ h => h) (Or.inl ⟨by rfl, ?_⟩) ?_
  rotate_left
  focus (intro wS hSw; (try dsimp only at hSw); go_simp; (try with_reducible rfl); (try (first | (rw [if_pos (by omega)]; (try go_simp); (try with_reducible rfl)) | (rw [if_neg (by omega)]; (try go_simp); (try with_reducible rfl)))))
  try simp only [Act.put, List.setIfInBounds_toArray, List.set_cons_zero, List.set_cons_succ]
  refine wpAnyR_takeQ (i := 6) (v := ?_) (some 46) rfl rfl (by kernel_rfl) (by kernel_rfl) (by kernel_rfl) (by kernel_rfl) (fun _ _ _ h => h) (Or.inl ⟨by rfl, ?_⟩) ?_
  rotate_left
  focus (intro wS hSw; (try dsimp only at hSw); go_simp; (try with_reducible rfl); (try (first | (rw [if_pos (by omega)]; (try go_simp); (try with_reducible rfl)) | (rw [if_neg (by omega)]; (try go_simp); (try with_reducible rfl)))))
  try simp only [Act.put, List.setIfInBounds_toArray, List.set_cons_zero, List.set_cons_succ]
  refine wpAnyR_takeQ (i := 7) (v := ?_) (some 47) rfl rfl (by kernel_rfl) (by kernel_rfl) (by kernel_rfl) (by kernel_rfl) (fun _ _ _ h => h) (Or.inl ⟨by rfl, ?_⟩) ?_
  rotate_left
  focus (intro wS hSw; (try dsimp only at hSw); go_simp; (try with_reducible rfl); (try (first | (rw [if_pos (by omega)]; (try go_simp); (try with_reducible rfl)) | (rw [if_neg (by omega)]; (try go_simp); (try with_reducible rfl)))))
  try simp only [Act.put, List.setIfInBounds_toArray, List.set_cons_zero, List.set_cons_succ]
  refine wpAnyR_takeQ (i := 8) (v := ?_) (some 48) rfl rfl (by kernel_rfl) (by kernel_rfl) (by kernel_rfl) (by kernel_rfl) (fun _ _ _ h => h) (Or.inl ⟨by rfl, ?_⟩) ?_
  rotate_left
  focus (intro wS hSw; (try dsimp only at hSw); go_simp; (try with_reducible rfl); (try (first | (rw [if_pos (by omega)]; (try go_simp); (try with_reducible rfl)) | (rw [if_neg (by omega)]; (try go_simp); (try with_reducible rfl)))))
  try simp only [Act.put, List.setIfInBounds_toArray, List.set_cons_zero, List.set_cons_succ]
  refine wpAnyR_takeQ (i := 9) (v := ?_) (some 49) rfl rfl (by kernel_rfl) (by kernel_rfl) (by kernel_rfl) (by kernel_rfl) (fun _ _ _ h => h) (Or.inl ⟨by rfl, ?_⟩) ?_
  rotate_left
  focus (intro wS hSw; (try dsimp only at hSw); go_simp; (try with_reducible rfl); (try (first | (rw [if_pos (by omega)]; (try go_simp); (try with_reducible rfl)) | (rw [if_neg (by omega)]; (try go_simp); (try with_reducible rfl)))))
  try simp only [Act.put, List.setIfInBounds_toArray, List.set_cons_zero, List.set_cons_succ]
  refine wpAnyR_takeQ (i := 10) (v := ?_) (some 50) rfl rfl (by kernel_rfl) (by kernel_rfl) (by kernel_rfl) (by kernel_rfl) (fun _ _ _ h => h) (Or.inl ⟨by rfl, ?_⟩) ?_
  rotate_left
  focus (intro wS hSw; (try dsimp only at hSw); go_simp; (try with_reducible rfl); (try (first | (rw [if_pos (by omega)]; (try go_simp); (try with_reducible rfl)) | (rw [if_neg (by omega)]; (try go_simp); (try with_reducible rfl)))))
  try simp only [Act.put, List.setIfInBounds_toArray, List.set_cons_zero, List.set_cons_succ]
  refine wpAnyR_takeQ (i := 11) (v := ?_) (some 51) rfl rfl (by kernel_rfl) (by kernel_rfl) (by kernel_rfl) (by kernel_rfl) (fun _ _ _ h => h) (Or.inl ⟨by rfl, ?_⟩) ?_
  rotate_left
  focus (intro wS hSw; (try dsimp only at hSw); go_simp; (try with_reducible rfl); (try (first | (rw [if_pos (by omega)]; (try go_simp); (try with_reducible rfl)) | (rw [if_neg (by omega)]; (try go_simp); (try with_reducible rfl)))))
  try simp only [Act.put, List.setIfInBounds_toArray, List.set_cons_zero, List.set_cons_succ]
  refine wpAnyR_takeQ (i := 12) (v := ?_) (some 52) rfl rfl (by kernel_rfl) (by kernel_rfl) (by kernel_rfl) (by kernel_rfl) (fun _ _ _ h => h) (Or.inl ⟨by rfl, ?_⟩) ?_
  rotate_left
  focus (intro wS hSw; (try dsimp only at hSw); go_simp; (try with_reducible rfl); (try (first | (rw [if_pos (by omega)]; (try go_simp); (try with_reducible rfl)) | (rw [if_neg (by omega)]; (try go_simp); (try with_reducible rfl)))))
  try simp only [Act.put, List.setIfInBounds_toArray, List.set_cons_zero, List.set_cons_succ]
  refine wpAnyR_takeQ (i := 13) (v := undef) (some 53) rfl rfl (by kernel_rfl) (by kernel_rfl) (by kernel_rfl) (by kernel_rfl) (fun _ _ _ h => h) (Or.inr ⟨by rfl, rfl⟩) ?_
  try simp only [Act.put, List.setIfInBounds_toArray, List.set_cons_zero, List.set_cons_succ]
  refine wpAnyR_takeQ (i := 14) (v := undef) (some 54) rfl rfl (by kernel_rfl) (by kernel_rfl) (by kernel_rfl) (by kernel_rfl) (fun _ _ _ h => h) (Or.inr ⟨by rfl, rfl⟩) ?_
  try simp only [Act.put, List.setIfInBounds_toArray, List.set_cons_zero, List.set_cons_succ]
  refine wpAnyR_takeQ (i := 15) (v := undef) (some 55) rfl rfl (by kernel_rfl) (by kernel_rfl) (by kernel_rfl) (by kernel_rfl) (fun _ _ _ h => h) (Or.inr ⟨by rfl, rfl⟩) ?_
  try simp only [Act.put, List.setIfInBounds_toArray, List.set_cons_zero, List.set_cons_succ]
  refine wpAnyR_takeQ (i := 16) (v := undef) (some 56) rfl rfl (by kernel_rfl) (by kernel_rfl) (by kernel_rfl) (by kernel_rfl) (fun _ _ _ h => h) (Or.inr ⟨by rfl, rfl⟩) ?_
  try simp only [Act.put, List.setIfInBounds_toArray, List.set_cons_zero, List.set_cons_succ]
  refine wpAnyR_takeQ (i := 17) (v := undef) (some 57) rfl rfl (by kernel_rfl) (by kernel_rfl) (by kernel_rfl) (by kernel_rfl) (fun _ _ _ h => h) (Or.inr ⟨by rfl, rfl⟩) ?_
  try simp only [Act.put, List.setIfInBounds_toArray, List.set_cons_zero, List.set_cons_succ]
  refine wpAnyR_takeQ (i := 18) (v := undef) (some 58) rfl rfl (by kernel_rfl) (by kernel_rfl) (by kernel_rfl) (by kernel_rfl) (fun _ _ _ h => h) (Or.inr ⟨by rfl, rfl⟩) ?_
  try simp only [Act.put, List.setIfInBounds_toArray, List.set_cons_zero, List.set_cons_succ]
  refine wpAnyR_takeQ (i := 19) (v := ?_) (some 59) rfl rfl (by kernel_rfl) (by kernel_rfl) (by kernel_rfl) (by kernel_rfl) (fun _ _ _ h => h) (Or.inl ⟨by rfl, ?_⟩) ?_
  rotate_left
  focus (intro wS hSw; (try dsimp only at hSw); go_simp; (try with_reducible rfl); (try (first | (rw [if_pos (by omega)]; (try go_simp); (try with_reducible rfl)) | (rw [if_neg (by omega)]; (try go_simp); (try with_reducible rfl)))))
  try simp only [Act.put, List.setIfInBounds_toArray, List.set_cons_zero, List.set_cons_succ]
  refine wpAnyR_done (by kernel_rfl) ?_ _
  go_wp2_with fail
  go_ret2
  rw [HI.out]
  exact ⟨_, rfl, OwnL.nil .., HL4.out.grew (by (repeat' first | (with_reducible exact Grew.refl _) | (with_reducible assumption) | (with_reducible refine Grew.alloc ?_ _) | (with_reducible refine Grew.drew ?_) | (with_reducible refine Grew.drewN ?_ _) | (with_reducible refine Grew.setRow ?_ (by first | (simp; done) | (simp; omega) | omega) _) | (with_reducible refine Grew.setCell ?_ (by first | (simp; done) | (simp; omega) | omega) _) | ((with_reducible apply Grew.trans); rotate_left; (with_reducible assumption)) | ((with_reducible apply Grew.turn); rotate_left; (with_reducible assumption); (focus (intro i hi; first | omega | (simp at hi; omega)))) | fail))⟩
end
end Go.Proofs.Ytbddelefglhaaaa
namespace Go.Proofs.Ytbddelefglhaaaa
set_option linter.unusedVariables false
set_option linter.unusedSimpArgs false
set_option linter.unusedSectionVars false
open Go.RowKit
attribute [local go_sem ↓] Go.wp_at_zero Go.wp_at_succ
section
variable {w0 : World} {x s m : Nat} {sy ep : Int} {D : Dev} {out : Nat → Prop} {W : World} (h : Held w0 x s m sy ep D out W) (hlen : 132 ≤ D.st.length) (hf : D.failed = false) (d : ByteArray) (v : BitVec 32) (hd : headI D = ⟨d, v, true⟩) (hv : fld d 0 = v) (hc : 1 ≤ cntI D ∧ cntI D ≤ 97)
include h hlen hf hd hv hc
set_option maxRecDepth 100000 in
set_option maxHeartbeats 2000000 in
theorem intent_zeros (hz : d.extract 12 128 ≠ zeroS 116) : Calls Try.prog 78 #[ptrV s] W (IntP w0 x s m sy ep D out W (intentL D, 0)) := by
  have hr := readR_ok hf 33 (by omega)
  rw [show rawOf (D.content 33) ((33 : Nat) : Int) = headI D from rfl, hd] at hr
  have hds : d.size = 128 := by have := rawOf_full (t := D.content 33) (i := 33) (by rw [show rawOf (D.content 33) 33 = headI D from rfl, hd]); rw [show rawOf (D.content 33) 33 = headI D from rfl, hd] at this; exact this
  have HRD := Lib.hid (fun w1 (hg : Grew W w1) => read_is (h.grew hg) 33 (by unfold okI; omega) _ _ _ 0 hr)
  have HF : Hid (∀ (k : Nat) (i : Int), k < 3 → i = (k : Int) → ∀ (g : Nat) (w : World), Blk w g 87 #[.string d, .int .u32 (u32 v), .bool true] → Calls Try.prog 87 #[.int .i64 i, ptrV g] w fun e w' => e = .returned (.int .u32 (u32 (fld d k))) ∧ Grew w w') := Lib.hid (fun k i hk hi g w hb => by rw [hi]; exact field_any k g hk d _ _ hds w hb)
  have u0 := u32_bd (fld d 0)
  have u1 := u32_bd (fld d 1)
  have u2 := u32_bd (fld d 2)
  have uv := u32_bd v
  have hb : (u32 (fld d 0) != u32 v) = false := by rw [hv]; simp
  have hcn : u32 (fld d 1) = ((cntI D : Nat) : Int) := by unfold cntI; rw [hd]; rfl
  obtain ⟨n, hn⟩ : ∃ n, cntI D = n := ⟨_, rfl⟩
  rw [hn] at hc hcn
  have hcb : decide ((n : Int) < 1) = false := decide_eq_false (by omega)
  have hcb2 : decide (97 < (n : Int)) = false := decide_eq_false (by omega)
  have hc1 : (n : Int) ≥ 1 := by omega
  have hc2 : (n : Int) ≤ 97 := by omega
  have hds2 : 128 ≤ d.size ∧ d.size ≤ 128 := by omega
  have HDS := Lib.hid (show d.extract 12 d.size = d.extract 12 128 from by rw [hds])
  have HI := Lib.hid (int_no1 (D := D) (by unfold headB'; rw [hd]; simp [hz]))
  have hzb := str_ne hz
  rw [hcn] at u1
  have HH := Lib.hid h
  clear h hr hf hlen hd hds hv hc hz hn
  go_enter Try.func78, Try.ntmps78
  go_wp2_with fail
  refine (HRD.out _ (Grew.refl W)).mono ?_
  rintro e w1 ⟨rfl, hl1⟩
  have hb1 : Blk (w1.alloc (.cells #[.string d, .int .u32 (u32 v), .bool true] 87)) w1.heap.size 87 #[.string d, .int .u32 (u32 v), .bool true] := Blk.new w1 _ _ rfl
  have hw1 := hl1.turned.size
  have HL1 := Lib.hid (hl1.grew ((Grew.refl w1).alloc (.cells #[.string d, .int .u32 (u32 v), .bool true] 87)))
  have HB1 := Lib.hid hb1
  clear hl1 hb1
  go_wp2_with fail
  refine (HF.out 0 0 (by omega) rfl _ _ HB1.out).mono ?_
  rintro e w2 ⟨rfl, g2⟩
  have HB2 := Lib.hid (HB1.out.grew g2)
  have HL2 := Lib.hid (HL1.out.grew g2)
  clear g2
  go_wp2_with fail
  refine (HF.out 1 1 (by omega) rfl _ _ HB2.out).mono ?_
  rintro e w3 ⟨rfl, g3⟩
  have HB3 := Lib.hid (HB2.out.grew g3)
  have HL3 := Lib.hid (HL2.out.grew g3)
  clear g3
  go_wp2_with fail
  refine (HF.out 2 2 (by omega) rfl _ _ HB3.out).mono ?_
  rintro e w4 ⟨rfl, g4⟩
  have HB4 := Lib.hid (HB3.out.grew g4)
  have HL4 := Lib.hid (HL3.out.grew g4)
  clear g4
  go_wp2_with fail
  refine wp_region_R [] (fun w' : World => w'.cell? ⟨w1.heap.size, 0, none⟩ = some (.string d) ∧ w'.cell? ⟨w1.heap.size, 1, none⟩ = some (.int .u32 (u32 v)) ∧ w1.heap.size < w'.heap.size) (by kernel_rfl) ?_
  have hS := (show (fun w' : World => w'.cell? ⟨w1.heap.size, 0, none⟩ = some (.string d) ∧ w'.cell? ⟨w1.heap.size, 1, none⟩ = some (.int .u32 (u32 v)) ∧ w1.heap.size < w'.heap.size) w4.drew from ⟨HB4.out.drew.cell 0, HB4.out.drew.cell 1, HB4.out.drew.lt⟩)
  refine wpAnyR_takeQ (i := 0) (v := ?_) (some 40) rfl rfl (by kernel_rfl) (by kernel_rfl) (by kernel_rfl) (by kernel_rfl) (fun _ _ _ h => h) (Or.inl ⟨by rfl, ?_⟩) ?_
  rotate_left
  focus (intro wS hSw; (try dsimp only at hSw); go_simp; (try with_reducible rfl); (try (first | (rw [if_pos (by omega)]; (try go_simp); (try with_reducible rfl)) | (rw [if_neg (by omega)]; (try go_simp); (try with_reducible rfl)))))
  try simp only [Act.put, List.setIfInBounds_toArray, List.set_cons_zero, List.set_cons_succ]
  refine wpAnyR_takeQ (i := 1) (v := ?_) (some 41) rfl rfl (by kernel_rfl) (by kernel_rfl) (by kernel_rfl) (by kernel_rfl) (fun _ _ _ h => h) (Or.inl ⟨by rfl, ?_⟩) ?_
  rotate_left
  focus (intro wS hSw; (try dsimp only at hSw); go_simp; (try with_reducible rfl); (try (first | (rw [if_pos (by omega)]; (try go_simp); (try with_reducible rfl)) | (rw [if_neg (by omega)]; (try go_simp); (try with_reducible rfl)))))
  try simp only [Act.put, List.setIfInBounds_toArray, List.set_cons_zero, List.set_cons_succ]
  refine wpAnyR_take (i := 2) (v := ?_) [3, 4, 5, 6, 7, 8, 9, 10, 11, 12, 13, 14, 15, 16, 17, 18, 19] (some 42) rfl rfl (by kernel_rfl) (by kernel_rfl) (by kernel_rfl) (by kernel_rfl) (by kernel_rfl) (by kernel_rfl) (by kernel_rfl) (fun _ _ _ h => h) (Or.inl ⟨by rfl, ?_⟩) hS ?_
  rotate_left
  focus (intro wS hSw; (try dsimp only at hSw); go_simp; (try with_reducible rfl); (try (first | (rw [if_pos (by omega)]; (try go_simp); (try with_reducible rfl)) | (rw [if_neg (by omega)]; (try go_simp); (try with_reducible rfl)))))
  try simp only [Act.put, List.setIfInBounds_toArray, List.set_cons_zero, List.set_cons_succ]
  refine wpAnyR_takeQ (i := 3) (v := ?_) (some 43) rfl rfl (by kernel_rfl) (by kernel_rfl) (by kernel_rfl) (by kernel_rfl) (fun _ _ _ h => h) (Or.inl ⟨by rfl, ?_⟩) ?_
  rotate_left
  focus (intro wS hSw; (try dsimp only at hSw); go_simp; (try with_reducible rfl); (try (first | (rw [if_pos (by omega)]; (try go_simp); (try with_reducible rfl)) | (rw [if_neg (by omega)]; (try go_simp); (try with_reducible rfl)))))
  try simp only [Act.put, List.setIfInBounds_toArray, List.set_cons_zero, List.set_cons_succ]
  refine wpAnyR_takeQ (i := 4) (v := ?_) (some 44) rfl rfl (by kernel_rfl) (by kernel_rfl) (by kernel_rfl) (by kernel_rfl) (fun _ _ _ h => h) (Or.inl ⟨by rfl, ?_⟩) ?_
  rotate_left
  focus (intro wS hSw; (try dsimp only at hSw); go_simp; (try with_reducible rfl); (try (first | (rw [if_pos (by omega)]; (try go_simp); (try with_reducible rfl)) | (rw [if_neg (by omega)]; (try go_simp); (try with_reducible rfl)))))
  try simp only [Act.put, List.setIfInBounds_toArray, List.set_cons_zero, List.set_cons_succ]
  refine wpAnyR_takeQ (i := 5) (v := ?_) (some 45) rfl rfl (by kernel_rfl) (by kernel_rfl) (by kernel_rfl) (by kernel_rfl) (fun _ _ _ h => h) (Or.inl ⟨by rfl, ?_⟩) ?_
  rotate_left
  focus (intro wS hSw; (try dsimp only at hSw); go_simp; (try with_reducible rfl); (try (first | (rw [if_pos (by omega)]; (try go_simp); (try with_reducible rfl)) | (rw [if_neg (by omega)]; (try go_simp); (try with_reducible rfl)))))
  try simp only [Act.put, List.setIfInBounds_toArray, List.set_cons_zero, List.set_cons_succ]
  refine wpAnyR_takeQ (i := 6) (v := ?_) (some 46) rfl rfl (by kernel_rfl) (by kernel_rfl) (by kernel_rfl) (by kernel_rfl) (fun _ _ _ h => h) (Or.inl ⟨by rfl, ?_⟩) ?_
  rotate_left
  focus (intro wS hSw; (try dsimp only at hSw); go_simp; (try with_reducible rfl); (try (first | (rw [if_pos (by omega)]; (try go_simp); (try with_reducible rfl)) | (rw [if_neg (by omega)]; (try go_simp); (try with_reducible rfl)))))
  try simp only [Act.put, List.setIfInBounds_toArray, List.set_cons_zero, List.set_cons_succ]
  refine wpAnyR_takeQ (i := 7) (v := ?_) (some 47) rfl rfl (by kernel_rfl) (by kernel_rfl) (by kernel_rfl) (by kernel_rfl) (fun _ _ _ h => h) (Or.inl ⟨by rfl, ?_⟩) ?_
  rotate_left
  focus (intro wS hSw; (try dsimp only at hSw); go_simp; (try with_reducible rfl); (try (first | (rw [if_pos (by omega)]; (try go_simp); (try with_reducible rfl)) | (rw [if_neg (by omega)]; (try go_simp); (try with_reducible rfl)))))
  try simp only [Act.put, List.setIfInBounds_toArray, List.set_cons_zero, List.set_cons_succ]
  refine wpAnyR_takeQ (i := 8) (v := ?_) (some 48) rfl rfl (by kernel_rfl) (by kernel_rfl) (by kernel_rfl) (by kernel_rfl) (fun _ _ _ h => h) (Or.inl ⟨by rfl, ?_⟩) ?_
  rotate_left
  focus (intro wS hSw; (try dsimp only at hSw); go_simp; (try with_reducible rfl); (try (first | (rw [if_pos (by omega)]; (try go_simp); (try with_reducible rfl)) | (rw [if_neg (by omega)]; (try go_simp); (try with_reducible rfl)))))
  try simp only [Act.put, List.setIfInBounds_toArray, List.set_cons_zero, List.set_cons_succ]
  refine wpAnyR_takeQ (i := 9) (v := ?_) (some 49) rfl rfl (by kernel_rfl) (by kernel_rfl) (by kernel_rfl) (by kernel_rfl) (fun _ _ _ h => h) (Or.inl ⟨by rfl, ?_⟩) ?_
  rotate_left
  focus (intro wS hSw; (try dsimp only at hSw); go_simp; (try with_reducible rfl); (try (first | (rw [if_pos (by omega)]; (try go_simp); (try with_reducible rfl)) | (rw [if_neg (by omega)]; (try go_simp); (try with_reducible rfl)))))
  try simp only [Act.put, List.setIfInBounds_toArray, List.set_cons_zero, List.set_cons_succ]
  refine wpAnyR_takeQ (i := 10) (v := ?_) (some 50) rfl rfl (by kernel_rfl) (by kernel_rfl) (by kernel_rfl) (by kernel_rfl) (fun _ _ _ h => h) (Or.inl ⟨by rfl, ?_⟩) ?_
  rotate_left
  focus (intro wS hSw; (try dsimp only at hSw); go_simp; (try with_reducible rfl); (try (first | (rw [if_pos (by omega)]; (try go_simp); (try with_reducible rfl)) | (rw [if_neg (by omega)]; (try go_simp); (try with_reducible rfl)))))
  try simp only [Act.put, List.setIfInBounds_toArray, List.set_cons_zero, List.set_cons_succ]
  refine wpAnyR_takeQ (i := 11) (v := ?_) (some 51) rfl rfl (by kernel_rfl) (by kernel_rfl) (by kernel_rfl) (by kernel_rfl) (fun _ _ _ h => h) (Or.inl ⟨by rfl, ?_⟩) ?_
  rotate_left
  focus (intro wS hSw; (try dsimp only at hSw); go_simp; (try with_reducible rfl); (try (first | (rw [if_pos (by omega)]; (try go_simp); (try with_reducible rfl)) | (rw [if_neg (by omega)]; (try go_simp); (try with_reducible rfl)))))
  try simp only [Act.put, List.setIfInBounds_toArray, List.set_cons_zero, List.set_cons_succ]
  refine wpAnyR_takeQ (i := 12) (v := ?_) (some 52) rfl rfl (by kernel_rfl) (by kernel_rfl) (by kernel_rfl) (by kernel_rfl) (fun _ _ _ h => h) (Or.inl ⟨by rfl, ?_⟩) ?_
  rotate_left
  focus (intro wS hSw; (try dsimp only at hSw); go_simp; (try with_reducible rfl); (try (first | (rw [if_pos (by omega)]; (try go_simp); (try with_reducible rfl)) | (rw [if_neg (by omega)]; (try go_simp); (try with_reducible rfl)))))
  try simp only [Act.put, List.setIfInBounds_toArray, List.set_cons_zero, List.set_cons_succ]
  refine wpAnyR_takeQ (i := 13) (v := ?_) (some 53) rfl rfl (by kernel_rfl) (by kernel_rfl) (by kernel_rfl) (by kernel_rfl) (fun _ _ _ h => h) (Or.inl ⟨by rfl, ?_⟩) ?_
  rotate_left
  focus (intro wS hSw; (try dsimp only at hSw); go_simp; (try with_reducible rfl); (try (first | (rw [if_pos (by omega)]; (try go_simp); (try with_reducible rfl)) | (rw [if_neg (by omega)]; (try go_simp); (try with_reducible rfl)))))
  try simp only [Act.put, List.setIfInBounds_toArray, List.set_cons_zero, List.set_cons_succ]
  refine wpAnyR_take (i := 14) (v := ?_) [15, 18, 19] (some 54) rfl rfl (by kernel_rfl) (by kernel_rfl) (by kernel_rfl) (by kernel_rfl) (by kernel_rfl) (by kernel_rfl) (by kernel_rfl) (fun _ _ _ h => h) (Or.inl ⟨by rfl, ?_⟩) hS ?_
  rotate_left
  focus (intro wS hSw; (try dsimp only at hSw); go_simp; (try with_reducible rfl); (try (first | (rw [if_pos (by omega)]; (try go_simp); (try with_reducible rfl)) | (rw [if_neg (by omega)]; (try go_simp); (try with_reducible rfl)))))
  try simp only [Act.put, List.setIfInBounds_toArray, List.set_cons_zero, List.set_cons_succ]
  refine wpAnyR_takeQ (i := 15) (v := ?_) (some 55) rfl rfl (by kernel_rfl) (by kernel_rfl) (by kernel_rfl) (by kernel_rfl) (fun _ _ _ h => h) (Or.inl ⟨by rfl, ?_⟩) ?_
  rotate_left
  focus (intro wS hSw; (try dsimp only at hSw); go_simp; (try with_reducible rfl); (try (first | (rw [if_pos (by omega)]; (try go_simp); (try with_reducible rfl)) | (rw [if_neg (by omega)]; (try go_simp); (try with_reducible rfl)))))
  try simp only [Act.put, List.setIfInBounds_toArray, List.set_cons_zero, List.set_cons_succ]
  clear hS
  have hmk : (Instr.makeSlice 75 (.int .i64 116) (.int .i64 116)).run Try.prog w4.drew = _ := made_bytes w4.drew 116 (by omega)
  have hbz : Blk (w4.alloc (.cells (cellsB (zeroS 116)) 5)).drew w4.heap.size 5 (cellsB (zeroS 116)) := (Blk.new w4 _ _ rfl).drew
  have hg5 : Grew w4 (w4.alloc (.cells (cellsB (zeroS 116)) 5)).drew := ((Grew.refl w4).alloc _).drew
  have hcv : (convert 75 9 (.slice (some ⟨w4.heap.size, 0, none⟩) 116 116)).run Try.prog (w4.alloc (.cells (cellsB (zeroS 116)) 5)).drew = .ok (.string (zeroS 116)) (w4.alloc (.cells (cellsB (zeroS 116)) 5)).drew := conv_cells _ _ 116 (zeroS 116) (zeroS_size 116) hbz
  have hb5 := HB4.out.grew hg5
  have HL5 := Lib.hid (HL4.out.grew hg5)
  clear hbz hg5
  refine wpAnyR_n1 (i := 16) rfl (by kernel_rfl) ?_
  intro K' hK
  rw [if_pos (by rfl)]
  simp only [List.getElem_toArray, List.getElem_cons_succ, List.getElem_cons_zero]
  go_wp2_with fail
  refine hK.out _ _ (.inr (fun _ => ⟨hb5.cell 0, hb5.cell 1, hb5.lt⟩)) ?_
  clear hK
  refine wpAnyR_n1 (i := 17) rfl (by kernel_rfl) ?_
  intro K' hK
  rw [if_pos (by rfl)]
  simp only [List.getElem_toArray, List.getElem_cons_succ, List.getElem_cons_zero]
  go_wp2_with fail
  refine hK.out _ _ (.inr (fun _ => ⟨hb5.cell 0, hb5.cell 1, hb5.lt⟩)) ?_
  clear hK hcv hmk
  obtain ⟨w5, hw5⟩ : ∃ w5, w5 = (w4.alloc (.cells (cellsB (zeroS 116)) 5)).drew := ⟨_, rfl⟩
  rw [← hw5] at hb5 HL5 ⊢
  have HB5 := Lib.hid hb5
  clear hw5 hb5
  rw [HDS.out]
  refine wpAnyR_takeQ (i := 18) (v := ?_) (some 58) rfl rfl (by kernel_rfl) (by kernel_rfl) (by kernel_rfl) (by kernel_rfl) (fun _ _ _ h => h) (Or.inl ⟨by rfl, ?_⟩) ?_
  rotate_left
  focus (intro wS hSw; (try dsimp only at hSw); go_simp; (try with_reducible rfl); (try (first | (rw [if_pos (by omega)]; (try go_simp); (try with_reducible rfl)) | (rw [if_neg (by omega)]; (try go_simp); (try with_reducible rfl)))))
  try simp only [Act.put, List.setIfInBounds_toArray, List.set_cons_zero, List.set_cons_succ]
  refine wpAnyR_takeQ (i := 19) (v := ?_) (some 59) rfl rfl (by kernel_rfl) (by kernel_rfl) (by kernel_rfl) (by kernel_rfl) (fun _ _ _ h => h) (Or.inl ⟨by rfl, ?_⟩) ?_
  rotate_left
  focus (intro wS hSw; (try dsimp only at hSw); go_simp; (try with_reducible rfl); (try (first | (rw [if_pos (by omega)]; (try go_simp); (try with_reducible rfl)) | (rw [if_neg (by omega)]; (try go_simp); (try with_reducible rfl)))))
  try simp only [Act.put, List.setIfInBounds_toArray, List.set_cons_zero, List.set_cons_succ]
  refine wpAnyR_done (by kernel_rfl) ?_ _
  go_wp2_with fail
  go_ret2
  rw [HI.out]
  exact ⟨_, rfl, OwnL.nil .., HL5.out⟩
end
end Go.Proofs.Ytbddelefglhaaaa
