/- Chapter 7: ValidName and the head, on both sides. Chapter 7: EncodeHead and DecodeHead, on both sides. The lists of runs that the laws take. Arguments opened: labels by value. The row's last step, for every law: the call returns true and turns nothing that was there. Chapter 7: awake; LabelSlots, LabelValid. Chapter 7: LabelValid. Chapter 7: Decode. Chapter 7, plain: what is written is read again; both sides decode alike. Chapter 7: DecodeHead, on both sides. Chapter 6, plain: the best run, the runs by size, and what is taken from them. -/
import Derived.ProofKit
import Derived.OpenShut
import Derived.Test.YtnlaogneceanoaaCrA
import Derived.Test.YtnlaogneceanoaaCrB
import Derived.Test.YtnlaogneceanoaaCrC
import Derived.Test.YtnlaogneceanoaaCrD
namespace Go.Proofs.Ytnlaogneceanoaa
set_option linter.unusedVariables false
set_option linter.unusedSimpArgs false
set_option linter.unusedSectionVars false
open Go.RowKit
attribute [local go_sem ↓] Go.wp_at_zero Go.wp_at_succ
def chrC (n : Nat) : Bool := decide (65 ≤ n ∧ n ≤ 90) || decide (48 ≤ n ∧ n ≤ 57)
def NameP (s : ByteArray) : Prop := 1 ≤ s.size ∧ s.size ≤ 8 ∧ (∀ j (hj : j < s.size), chrC s[j].toNat = true) ∧ ∀ _h : 0 < s.size, 65 ≤ s[0].toNat
instance (s : ByteArray) : Decidable (NameP s) := by unfold NameP; exact inferInstance
def nameOk (s : ByteArray) : Bool := decide (NameP s)
theorem nameOk_no {s : ByteArray} (h : ¬ NameP s) : nameOk s = false := decide_eq_false h
theorem nameOk_yes {s : ByteArray} (h : NameP s) : nameOk s = true := decide_eq_true h
theorem chrC_cases (n : Nat) : (chrC n = true ∧ 65 ≤ n ∧ n ≤ 90) ∨ (chrC n = true ∧ 48 ≤ n ∧ n ≤ 57) ∨ (chrC n = false ∧ n < 48) ∨ (chrC n = false ∧ 57 < n ∧ n < 65) ∨ (chrC n = false ∧ 90 < n) := by
  unfold chrC
  by_cases h1 : 65 ≤ n ∧ n ≤ 90
  · exact .inl ⟨by simp [h1], h1⟩
  · by_cases h2 : 48 ≤ n ∧ n ≤ 57
    · exact .inr (.inl ⟨by simp [h2], h2⟩)
    · have e : (decide (65 ≤ n ∧ n ≤ 90) || decide (48 ≤ n ∧ n ≤ 57)) = false := by rw [decide_eq_false h1, decide_eq_false h2]; rfl
      by_cases h3 : n < 48
      · exact .inr (.inr (.inl ⟨e, h3⟩))
      · by_cases h4 : n < 65
        · exact .inr (.inr (.inr (.inl ⟨e, by omega, h4⟩)))
        · exact .inr (.inr (.inr (.inr ⟨e, by omega⟩)))
set_option maxRecDepth 100000 in
set_option maxHeartbeats 1000000 in
theorem validName_any (s : ByteArray) (w : World) (hs : s.size ≤ 9223372036854775807) :
    Calls Try.prog 40 #[.string s] w fun e w' => e = .returned (.bool (nameOk s)) ∧ w = w' := by
  by_cases h0 : s.size < 1
  · have HE := Lib.hid (nameOk_no (s := s) (fun h => by have := h.1; omega))
    go_enter Try.func40, Try.ntmps40
    go_wp2_with fail
    go_ret
    exact ⟨ret_bool (by rw [HE.out]), rfl⟩
  by_cases h8 : s.size > 8
  · have HE := Lib.hid (nameOk_no (s := s) (fun h => by have := h.2.1; omega))
    go_enter Try.func40, Try.ntmps40
    go_wp2_with fail
    go_ret
    exact ⟨ret_bool (by rw [HE.out]), rfl⟩
  have hs1 : 0 < s.size := by omega
  by_cases hc : s[0].toNat < 65
  · have HE := Lib.hid (nameOk_no (s := s) (fun h => by have := h.2.2.2 hs1; omega))
    go_enter Try.func40, Try.ntmps40
    go_wp2_with fail
    go_ret
    exact ⟨ret_bool (by rw [HE.out]), rfl⟩
  go_enter Try.func40, Try.ntmps40
  go_wp2_with fail
  have HC := Lib.hid hc
  clear hc
  go_loopg [20] s.size (fun gk i wr => w = wr ∧ ∃ k : Nat, k ≤ s.size ∧ gk = s.size - k ∧ i = .int .i64 k ∧ ∀ j (hj : j < s.size), j < k → chrC s[j].toNat = true)
  case atStart => exact ⟨rfl, 0, by omega, by omega, rfl, fun j hj h => by omega⟩
  case round =>
    obtain ⟨rfl, k, hk, hgk, rfl, hall⟩ := hrel
    have HGK := Lib.hid hgk
    have HA := Lib.hid hall
    clear hgk hall
    by_cases hlt : k < s.size
    · have HN := Lib.hid (show chrC s[k].toNat = true → ∀ j (hj : j < s.size), j < k + 1 → chrC s[j].toNat = true from fun hz j hj hjk => by
          by_cases hjk' : j = k
          · subst hjk'; exact hz
          · exact HA.out j hj (by omega))
      have HF := Lib.hid (show chrC s[k].toNat = false → nameOk s = false from fun hz => nameOk_no (fun h => by have := h.2.2.1 k hlt; rw [hz] at this; cases this))
      rcases chrC_cases s[k].toNat with ⟨hz, a1, a2⟩ | ⟨hz, a1, a2⟩ | ⟨hz, a1⟩ | ⟨hz, a1, a2⟩ | ⟨hz, a1⟩
      · replace HN := Lib.hid (HN.out hz)
        clear hz HF
        go_wp2_with fail
        go_roundg (s.size - (k + 1))
        case measure => rw [HGK.out]; omega
        case rel => exact ⟨rfl, k + 1, by omega, by omega, by go_num, HN.out⟩
      · replace HN := Lib.hid (HN.out hz)
        clear hz HF
        go_wp2_with fail
        go_roundg (s.size - (k + 1))
        case measure => rw [HGK.out]; omega
        case rel => exact ⟨rfl, k + 1, by omega, by omega, by go_num, HN.out⟩
      · replace HF := Lib.hid (HF.out hz)
        clear hz HN
        go_wp2_with fail
        go_ret
        exact ⟨ret_bool (by rw [HF.out]), rfl⟩
      · replace HF := Lib.hid (HF.out hz)
        clear hz HN
        go_wp2_with fail
        go_ret
        exact ⟨ret_bool (by rw [HF.out]), rfl⟩
      · replace HF := Lib.hid (HF.out hz)
        clear hz HN
        go_wp2_with fail
        go_ret
        exact ⟨ret_bool (by rw [HF.out]), rfl⟩
    · have HE := Lib.hid (show nameOk s = true from nameOk_yes ⟨by omega, by omega, fun j hj => HA.out j hj (by omega), fun _ => by have := HC.out; omega⟩)
      go_wp2_with fail
      go_ret
      exact ⟨ret_bool (by rw [HE.out]), rfl⟩
end Go.Proofs.Ytnlaogneceanoaa
namespace Go.Proofs.Ytnlaogneceanoaa
set_option linter.unusedVariables false
set_option linter.unusedSimpArgs false
set_option linter.unusedSectionVars false
open Go.RowKit
attribute [local go_sem ↓] Go.wp_at_zero Go.wp_at_succ
def headS (s : ByteArray) (t : Int) : ByteArray := if nameOk s = true ∧ okT t = true then padS 1024 (eB s.size ++ s ++ eB t.toNat) else ⟨#[]⟩
set_option maxRecDepth 100000 in
set_option maxHeartbeats 2000000 in
theorem encHead_any (s : ByteArray) (t : Int) (w : World) (hs : s.size ≤ 9223372036854775807) :
    Calls Try.prog 57 #[.string s, .int .i64 t] w fun e w' => e = .returned (.string (headS s t)) ∧ Grew w w' := by
  cases hn : nameOk s with
  | false =>
    have HE := Lib.hid (show headS s t = ⟨#[]⟩ from by unfold headS; rw [if_neg (by rw [hn]; simp)])
    have HN := Lib.hid hn
    clear hn
    go_enter Try.func57, Try.ntmps57
    go_wp2_with fail
    refine (validName_any s _ hs).mono ?_
    rintro e w1 ⟨rfl, rfl⟩
    rw [HN.out]
    go_wp2_with fail
    go_ret
    exact ⟨ret_str (by rw [HE.out]), by (repeat' first | (with_reducible exact Grew.refl _) | (with_reducible assumption) | (with_reducible refine Grew.alloc ?_ _) | (with_reducible refine Grew.drew ?_) | (with_reducible refine Grew.drewN ?_ _) | (with_reducible refine Grew.setRow ?_ (by first | (simp; done) | (simp; omega) | omega) _) | (with_reducible refine Grew.setCell ?_ (by first | (simp; done) | (simp; omega) | omega) _) | ((with_reducible apply Grew.trans); rotate_left; (with_reducible assumption)) | ((with_reducible apply Grew.turn); rotate_left; (with_reducible assumption); (focus (intro i hi; first | omega | (simp at hi; omega)))) | fail)⟩
  | true =>
    have hp : NameP s := of_decide_eq_true hn
    have hs8 : s.size ≤ 8 := hp.2.1
    clear hp
    have HN := Lib.hid hn
    cases ho : okT t with
    | false =>
      have HE := Lib.hid (show headS s t = ⟨#[]⟩ from by unfold headS; rw [if_neg (by rw [ho]; simp)])
      have HO := Lib.hid ho
      clear ho hn
      go_enter Try.func57, Try.ntmps57
      go_wp2_with fail
      refine (validName_any s _ hs).mono ?_
      rintro e w1 ⟨rfl, rfl⟩
      rw [HN.out]
      go_wp2_with fail
      refine (tracksOK_any _ _).mono ?_
      rintro e w1 ⟨rfl, rfl⟩
      rw [HO.out]
      go_wp2_with fail
      go_ret
      exact ⟨ret_str (by rw [HE.out]), by (repeat' first | (with_reducible exact Grew.refl _) | (with_reducible assumption) | (with_reducible refine Grew.alloc ?_ _) | (with_reducible refine Grew.drew ?_) | (with_reducible refine Grew.drewN ?_ _) | (with_reducible refine Grew.setRow ?_ (by first | (simp; done) | (simp; omega) | omega) _) | (with_reducible refine Grew.setCell ?_ (by first | (simp; done) | (simp; omega) | omega) _) | ((with_reducible apply Grew.trans); rotate_left; (with_reducible assumption)) | ((with_reducible apply Grew.turn); rotate_left; (with_reducible assumption); (focus (intro i hi; first | omega | (simp at hi; omega)))) | fail)⟩
    | true =>
      have hb := okT_true ho
      obtain ⟨n, rfl⟩ : ∃ n : Nat, t = (n : Int) := ⟨t.toNat, by omega⟩
      have HE := Lib.hid (show headS s (n : Int) = padS 1024 (eB s.size ++ s ++ eB n) from by unfold headS; rw [if_pos ⟨hn, ho⟩]; rfl)
      have HO := Lib.hid ho
      clear ho hn
      have hn1 : n ≤ 128 := by omega
      clear hb
      have z1 := eB_size s.size
      have z2 := eB_size n
      go_enter Try.func57, Try.ntmps57
      go_wp2_with fail
      refine (validName_any s _ hs).mono ?_
      rintro e w1 ⟨rfl, rfl⟩
      rw [HN.out]
      go_wp2_with fail
      refine (tracksOK_any _ _).mono ?_
      rintro e w1 ⟨rfl, rfl⟩
      rw [HO.out]
      go_wp2_with fail
      refine (appendText_any ⟨#[]⟩ s _ (by decide) (by omega)).mono ?_
      rintro e ws ⟨rfl, g1⟩
      obtain ⟨S1, hS1⟩ : ∃ S1 : ByteArray, S1 = ⟨#[]⟩ ++ ⟨(enc s.size).toArray⟩ ++ s := ⟨_, rfl⟩
      rw [← hS1]
      have HS1 := Lib.hid (show S1 = eB s.size ++ s from hS1.trans (by rw [empty_bytes]; rfl))
      have zS1 : S1.size ≤ 18 := by rw [HS1.out]; (try simp only [ByteArray.size_append]); omega
      clear hS1
      go_wp2_with fail
      refine (appendNumber_any S1 n _ (by omega) (by omega)).mono ?_
      rintro e ws2 ⟨rfl, g2⟩
      obtain ⟨S2, hS2⟩ : ∃ S2 : ByteArray, S2 = S1 ++ ⟨(enc n).toArray⟩ := ⟨_, rfl⟩
      rw [← hS2]
      have HS2 := Lib.hid (show S2 = S1 ++ eB n from hS2.trans rfl)
      have zS2 : S2.size ≤ 28 := by rw [HS2.out]; (try simp only [ByteArray.size_append]); omega
      clear hS2
      go_wp2_with fail
      refine (fill_any S2 _ (by omega)).mono ?_
      rintro e ws3 ⟨rfl, g3⟩
      go_wp2_with fail
      go_ret
      exact ⟨ret_str (by rw [HE.out, HS2.out, HS1.out]), (g1.trans g2).trans g3⟩
end Go.Proofs.Ytnlaogneceanoaa
namespace Go.Proofs.Ytnlaogneceanoaa
set_option linter.unusedVariables false
set_option linter.unusedSimpArgs false
set_option linter.unusedSectionVars false
open Go.ChangeShapes Go.WideShapes Go.ChangeAt Go.RowKit Go.Deep
theorem wf_i64 {n : Int} (h : (Lit.int .i64 n).wf = true) : -9223372036854775808 ≤ n ∧ n ≤ 9223372036854775807 := by
  simp [Lit.wf, IntKind.min, IntKind.max, IntKind.signed, IntKind.bits] at h; omega
end Go.Proofs.Ytnlaogneceanoaa
namespace Go.Proofs.Ytnlaogneceanoaa
set_option linter.unusedVariables false
set_option linter.unusedSimpArgs false
set_option linter.unusedSectionVars false
open Go.ChangeShapes Go.WideShapes Go.ChangeAt Go.RowKit Go.Deep
section
variable {H : Type} {enc : TypeId × Value → H} {P : Program} {w : World}
theorem open_listF {α : Type} [Inhabited α] {t e : Nat} {sz fuel : Nat} {v : Value} {x0 : DataW H × List MemPlace} (ht : P.underlying t = some (.slice e)) (hsz : P.cellsOf e = sz) (hpos : 0 < sz) (f : α → List Value) (Pr : α → Prop)
    (hel : ∀ n cs y, cs.length = sz → DataW.trod enc P w 0 (fun _ => true) true n e cs = some y → ∃ a, Pr a ∧ cs = f a)
    (hf : DataW.trod enc P w 0 (fun _ => true) true fuel t [v] = some x0) :
    ∃ A c, ∃ l : List α, v = .slice A l.length c ∧ l.length ≤ c ∧ c ≤ 9223372036854775807 ∧ (∀ a ∈ l, Pr a) ∧ ListAt w w.heap.size sz A (l.map f) := by
  obtain ⟨A, n, c, rfl⟩ : ∃ A n c, v = .slice A n c := by
    rcases open_slice ht hf with ⟨h0, _⟩ | ⟨a, len, cap, m, n', D, Pl, hcs, _⟩
    · exact ⟨none, 0, 0, by injection h0⟩
    · exact ⟨some a, len, cap, by injection hcs⟩
  rcases open_slice ht hf with ⟨h0, _⟩ | ⟨a, len, cap, m, n', D, Pl, hcs, hb, hl, hm, hmm, hx, hi⟩
  · simp only [List.cons.injEq, and_true] at h0
    injection h0 with h1 h2 h3
    subst h1; subst h2; subst h3
    exact ⟨none, 0, [], rfl, by simp, by simp, by simp, fun h => absurd h (by simp)⟩
  · simp only [List.cons.injEq, and_true] at hcs
    injection hcs with h1 h2 h3
    subst h1; subst h2; subst h3
    rw [if_pos rfl] at hmm
    have hlm : n ≤ m := by omega
    have each : ∀ i, i < n → ∃ x : α, Pr x ∧ ∃ cs, cs = f x ∧ cs.length = sz ∧ w.cells? 0 (a.add (i * sz)) sz = some cs := fun i hin => by
      obtain ⟨cs', hc, ht'⟩ := hi i (by omega)
      rw [hsz] at hc
      have hlen := (World.cells?_some hc).2.1
      obtain ⟨x, hp, hcs⟩ := hel n' cs' _ hlen ht'
      exact ⟨x, hp, cs', hcs, hlen, hc⟩
    obtain ⟨g, hg⟩ := choose_lt each
    refine ⟨some a, c, (List.range n).map g, by simp, by simpa using hl, by unfold maxLen at hm; simpa using hm, ?_, fun h0 => ?_⟩
    · intro x hx
      rw [List.mem_map] at hx
      obtain ⟨i, hi', rfl⟩ := hx
      exact (hg i (List.mem_range.1 hi')).1
    · have hn : 0 < n := by simpa using h0
      obtain ⟨_, cs0, hcs0, hlen0, hc0⟩ := hg 0 hn
      have h1 := (World.cells?_some hc0).2.2 0 hpos
      rw [Nat.zero_mul] at h1
      have hv0 : cs0[0]? = some cs0[0] := List.getElem?_eq_getElem (by omega)
      have ha : (a.add 0).add 0 = a := by simp [Addr.add]
      rw [ha, hv0] at h1
      obtain ⟨hlt, hsp⟩ := cell_lt h1
      obtain ⟨b, off, sp⟩ := a
      simp only at hsp hlt
      subst hsp
      refine ⟨b, off, rfl, hlt, fun j cs hj i v hiv => ?_⟩
      have hjn : j < n := by
        rcases Nat.lt_or_ge j n with h | h
        · exact h
        · rw [List.getElem?_eq_none (by simpa using h)] at hj; cases hj
      obtain ⟨_, cs1, hcs1, hlen1, hc1⟩ := hg j hjn
      have hcs : cs = cs1 := by
        simp [List.getElem?_map, List.getElem?_range, hjn] at hj
        rw [← hj, hcs1]
      subst hcs
      have hil : i < sz := by
        rcases Nat.lt_or_ge i cs.length with h | h
        · omega
        · rw [List.getElem?_eq_none h] at hiv; cases hiv
      have h2 := (World.cells?_some hc1).2.2 i hil
      rw [add_plain, add_plain] at h2
      rw [h2, hiv]
end
section
variable {H : Type} {enc : TypeId × Value → H} {w : World}
theorem open_runsF {fuel : Nat} {v : Value} {x0 : DataW H × List MemPlace} (hf : DataW.trod enc Try.prog w 0 (fun _ => true) true fuel 22 [v] = some x0) :
    ∃ A c, ∃ l : List (Int × Int), v = .slice A l.length c ∧ l.length ≤ c ∧ c ≤ 9223372036854775807 ∧ RunsAt w w.heap.size A l := by
  obtain ⟨A, c, l, rfl, h1, h2, h3, h4⟩ := open_listF (α := Int × Int) (sz := 2) Try.underlying22 (by kernel_rfl) (by omega) runC okRun (fun n cs y hlen h => by
      have hf := struct_fields Try.underlying58 (by kernel_rfl) h
      obtain ⟨v0, _, _, e0, f0⟩ := hf 0 _ rfl (by omega)
      obtain ⟨v1, _, _, e1, f1⟩ := hf 1 _ rfl (by omega)
      obtain ⟨n0, hn0, _, w0⟩ := DataW.trod_int Try.underlying3 f0
      obtain ⟨n1, hn1, _, w1⟩ := DataW.trod_int Try.underlying3 f1
      injection hn0 with hn0 _
      injection hn1 with hn1 _
      subst hn0; subst hn1
      have b0 := wf_i64 w0
      have b1 := wf_i64 w1
      refine ⟨(n0, n1), ⟨b0.1, b0.2, b1.1, b1.2⟩, ?_⟩
      match cs, hlen with
      | [x0, x1], _ =>
        simp at e0 e1
        rw [e0, e1]
        rfl) hf
  exact ⟨A, c, l, rfl, h1, h2, h3, h4⟩
set_option maxRecDepth 100000 in
theorem open_labelC {n : Nat} {cs : List Value} {y : DataW H × List MemPlace} (hlen : cs.length = 5) (h : DataW.trod enc Try.prog w 0 (fun _ => true) true n 24 cs = some y) :
    ∃ A c, ∃ l : Lab, cs = [.int .i64 l.id, .int .i64 l.unit, .string l.name, .string l.note, .slice A l.ext.length c] ∧ LabAt w A c l := by
  have hf := struct_fields Try.underlying24 (by kernel_rfl) h
  obtain ⟨v0, _, _, e0, f0⟩ := hf 0 _ rfl (by omega)
  obtain ⟨v1, _, _, e1, f1⟩ := hf 1 _ rfl (by omega)
  obtain ⟨v2, _, _, e2, f2⟩ := hf 2 _ rfl (by omega)
  obtain ⟨v3, _, _, e3, f3⟩ := hf 3 _ rfl (by omega)
  obtain ⟨v4, _, _, e4, f4⟩ := hf 4 _ rfl (by omega)
  obtain ⟨n0, hn0, _, w0⟩ := DataW.trod_int Try.underlying3 f0
  obtain ⟨n1, hn1, _, w1⟩ := DataW.trod_int Try.underlying3 f1
  obtain ⟨n2, hn2, _, w2⟩ := DataW.trod_string Try.underlying9 f2
  obtain ⟨n3, hn3, _, w3⟩ := DataW.trod_string Try.underlying9 f3
  obtain ⟨A, c, ext, rfl, h1, h2, h3⟩ := open_runsF f4
  injection hn0 with hn0 _
  injection hn1 with hn1 _
  injection hn2 with hn2 _
  injection hn3 with hn3 _
  subst hn0; subst hn1; subst hn2; subst hn3
  have b0 := wf_i64 w0
  have b1 := wf_i64 w1
  unfold maxLen at w2 w3
  refine ⟨A, c, ⟨n0, n1, n2, n3, ext⟩, ?_, ⟨b0.1, b0.2, b1.1, b1.2, by simpa using w2, by simpa using w3, h3, h1, h2⟩⟩
  match cs, hlen with
  | [x0, x1, x2, x3, x4], _ =>
    simp at e0 e1 e2 e3 e4
    rw [e0, e1, e2, e3, e4]
end
end Go.Proofs.Ytnlaogneceanoaa
namespace Go.Proofs.Ytnlaogneceanoaa
set_option linter.unusedVariables false
set_option linter.unusedSimpArgs false
set_option linter.unusedSectionVars false
open Go.ChangeShapes Go.WideShapes Go.ChangeAt Go.RowKit
section
variable {H : Type} {enc : TypeId × Value → H} {P : Program}
theorem trodAll_stays (hl : laidOutB P = true) {W W' : World} {sp' : Nat → Bool} : ∀ {ts : List TypeId} {vs : List Value} {ds : List (DataW H)} {ps : List MemPlace},
    ts.all (fun t => P.readableRec t && decide (t < P.types.size)) = true →
    DataW.TrodAll enc P W 0 (fun _ => true) true ts vs ds ps → (∀ p ∈ ps, W.sameAt W' p) → (∀ p ∈ ps, sp' p.block = true) → DataW.TrodAll enc P W' 0 sp' true ts vs ds ps := by
  intro ts
  induction ts with
  | nil =>
    intro vs ds ps _ h _ _
    obtain ⟨rfl, rfl, rfl⟩ := trodAll_nil h
    exact rfl
  | cons t ts ih =>
    intro vs ds ps hts h hsame hs
    obtain ⟨v, vs', d, ds', p, q, rfl, rfl, rfl, h1, h2⟩ := trodAll_cons h
    rw [List.all_cons, Bool.and_eq_true, Bool.and_eq_true] at hts
    obtain ⟨⟨ht1, ht2⟩, ht3⟩ := hts
    exact trodAll_cons_mk (WideElems.Trod_stays hl ht1 (by simpa using ht2) h1 (fun x hx => hsame x (List.mem_append_left _ hx)) (fun x hx => hs x (List.mem_append_left _ hx)))
      (ih ht3 h2 (fun x hx => hsame x (List.mem_append_right _ hx)) (fun x hx => hs x (List.mem_append_right _ hx)))
theorem law_post {f : Func} {s : ChangeSpec} {apart fresh handsOn : Bool} {W W' : World} {args : Array Value} {ds gs : List (DataW H)} {before : List MemPlace} {tb : TypeId}
    (hl : laidOutB P = true) (hread : f.params.toList.all (fun t => P.readableRec t && decide (t < P.types.size)) = true) (hrt : f.resultTypes = #[tb]) (htb : P.underlying tb = some .bool) (hvars : s.vars = [])
    (hW : DataW.Whole enc P f.params.toList s.vars apart W args.toList ds gs before) (hfn : s.fn H (ds ++ gs) = { results := [.lit (.bool true)], args := ds }) (hg : Grew W W') :
    s.post enc P f apart fresh handsOn false W args (.bool true) W' := by
  have hlt : ∀ p ∈ before, p.block < W.heap.size := fun p hp => hW.lt p hp
  have hW0 := hW
  obtain ⟨p, q, hA, hV, rfl, hfz, hnd⟩ := hW
  rw [hvars] at hV
  obtain ⟨rfl, rfl⟩ := trodVars_none hV
  rw [List.append_nil] at hlt hW0
  have hA' := trodAll_stays hl (W' := W') (sp' := fun b => decide (b < W.heap.size)) hread hA (fun x hx => hg.same (hlt x hx)) (fun x hx => by simpa using hlt x hx)
  refine ⟨ds, [], p, [], p, [], hW0, ?_, ?_, ?_, ?_, fun h => by cases h⟩
  · rw [hfn, hrt]
    show DataW.TrodAll enc P W' _ (fun _ => false) handsOn [tb] [.bool true] [.lit (.bool true)] []
    exact trodAll_mk1 (shut_bool htb true)
  · rw [hfn]
    exact hA'
  · rw [hfn, hvars]
    exact rfl
  · exact hg.frame _
end
end Go.Proofs.Ytnlaogneceanoaa
namespace Go.Proofs.Ytnlaogneceanoaa
set_option linter.unusedVariables false
set_option linter.unusedSimpArgs false
set_option linter.unusedSectionVars false
open Go.RowKit
theorem padS_size (n : Nat) (s : ByteArray) (h : s.size ≤ n) : (padS n s).size = n := by
  unfold padS
  rw [ByteArray.size_append, zeros_size]
  omega
end Go.Proofs.Ytnlaogneceanoaa
namespace Go.Proofs.Ytnlaogneceanoaa
set_option linter.unusedVariables false
set_option linter.unusedSimpArgs false
set_option linter.unusedSectionVars false
open Go.RowKit
attribute [local go_sem ↓] Go.wp_at_zero Go.wp_at_succ
theorem fewL_len (l : Lab) (h : fewL l = true) : l.name.size ≤ 100 ∧ l.note.size ≤ 500 ∧ l.ext.length ≤ 30 := by
  unfold fewL at h
  simp only [Bool.and_eq_true, decide_eq_true_eq] at h
  exact ⟨h.1.1, h.1.2, h.2⟩
end Go.Proofs.Ytnlaogneceanoaa
namespace Go.Proofs.Ytnlaogneceanoaa
set_option linter.unusedVariables false
set_option linter.unusedSimpArgs false
set_option linter.unusedSectionVars false
open Go.RowKit
attribute [local go_sem ↓] Go.wp_at_zero Go.wp_at_succ
/-- The runs that are read, one behind the other. -/
def rdK (m : Int) (s : ByteArray) (e : Int) : Nat → List (Int × Int) × ByteArray × Int
  | 0 => ([], s, e)
  | k + 1 => ((rdK m s e k).1 ++ [(((RCnt (rdK m s e k).2.1 (rdK m s e k).2.2 m).1 : Int), ((RCnt (RCnt (rdK m s e k).2.1 (rdK m s e k).2.2 m).2.1 (RCnt (rdK m s e k).2.1 (rdK m s e k).2.2 m).2.2 128).1 : Int))],
      (RCnt (RCnt (rdK m s e k).2.1 (rdK m s e k).2.2 m).2.1 (RCnt (rdK m s e k).2.1 (rdK m s e k).2.2 m).2.2 128).2.1, (RCnt (RCnt (rdK m s e k).2.1 (rdK m s e k).2.2 m).2.1 (RCnt (rdK m s e k).2.1 (rdK m s e k).2.2 m).2.2 128).2.2)
theorem rdK_len (m : Int) (s : ByteArray) (e : Int) (k : Nat) : (rdK m s e k).1.length = k := by
  induction k with
  | zero => rfl
  | succ k ih => show ((rdK m s e k).1 ++ [_]).length = _; rw [List.length_append, ih]; rfl
theorem rdK_size (m : Int) (s : ByteArray) (e : Int) (k : Nat) : (rdK m s e k).2.1.size ≤ s.size := by
  induction k with
  | zero => exact Nat.le_refl _
  | succ k ih => exact Nat.le_trans (RCnt_size _ _ _) (Nat.le_trans (RCnt_size _ _ _) ih)
def rI (s : ByteArray) := RCnt s 0 1099511627776
def rU (s : ByteArray) := RCnt (rI s).2.1 (rI s).2.2 1099511627776
def rN (s : ByteArray) := RTxt (rU s).2.1 (rU s).2.2 31
def rT (s : ByteArray) := RTxt (rN s).2.1 (rN s).2.2 400
def rC (s : ByteArray) := RCnt (rT s).2.1 (rT s).2.2 16
def rL (m : Int) (s : ByteArray) : Lab := ⟨((rI s).1 : Int), ((rU s).1 : Int), (rN s).1, (rT s).1, (rdK m (rC s).2.1 (rC s).2.2 (rC s).1).1⟩
def rE (m : Int) (s : ByteArray) : Int := (rdK m (rC s).2.1 (rC s).2.2 (rC s).1).2.2
theorem RCnt_bd (s : ByteArray) (e most : Int) (h0 : 0 ≤ most) : ((RCnt s e most).1 : Int) ≤ most := by
  unfold RCnt
  split
  · exact h0
  · split
    · exact h0
    · rename_i h; show ((RNum s e).1 : Int) ≤ most; omega
theorem rdK_next {m : Int} {s s1 s2 s3 : ByteArray} {e e1 e2 e3 : Int} {k a b : Nat} {L : List (Int × Int)} (h : rdK m s e k = (L, s1, e1)) (h1 : RCnt s1 e1 m = (a, s2, e2)) (h2 : RCnt s2 e2 128 = (b, s3, e3)) :
    rdK m s e (k + 1) = (L ++ [((a : Int), (b : Int))], s3, e3) := by simp only [rdK, h, h1, h2]
theorem rdK_ok (s : ByteArray) (e : Int) (k : Nat) : ∀ r ∈ (rdK 128 s e k).1, okRun r := by
  induction k with
  | zero => intro r hr; cases hr
  | succ k ih =>
    intro r hr
    rcases List.mem_append.1 hr with hr | hr
    · exact ih r hr
    · rw [List.mem_singleton.1 hr]
      have h1 := RCnt_bd (rdK 128 s e k).2.1 (rdK 128 s e k).2.2 128 (by omega)
      have h2 := RCnt_bd (RCnt (rdK 128 s e k).2.1 (rdK 128 s e k).2.2 128).2.1 (RCnt (rdK 128 s e k).2.1 (rdK 128 s e k).2.2 128).2.2 128 (by omega)
      exact ⟨by show -9223372036854775808 ≤ ((_ : Nat) : Int); omega, by show ((_ : Nat) : Int) ≤ 9223372036854775807; omega, by show -9223372036854775808 ≤ ((_ : Nat) : Int); omega, by show ((_ : Nat) : Int) ≤ 9223372036854775807; omega⟩
def decP (s : ByteArray) (t : Int) : Lab × Int :=
  if okT t = false ∨ s.size ≠ 1024 then (labZ, 11) else if s = padS 1024 ⟨#[]⟩ then (labZ, 0)
  else if validL (rL 128 s) t = true ∧ encS (rL 128 s) t = s then (rL 128 s, 0) else (labZ, 11)
def DecR (w : World) (d : Lab × Int) (e : Ending) (w' : World) : Prop := ∃ A c, e = .returned (.tuple #[.agg #[.int .i64 d.1.id, .int .i64 d.1.unit, .string d.1.name, .string d.1.note, .slice A d.1.ext.length c], .int .i64 d.2]) ∧ LabAt w' A c d.1 ∧ Grew w w' ∧ ∀ b off, A = some ⟨b, off, none⟩ → w.heap.size ≤ b
theorem decZ (w w' : World) (n : Int) (h : Grew w w') : DecR w (labZ, n) (.returned (.tuple #[.agg #[.int .i64 0, .int .i64 0, .string ⟨#[]⟩, .string ⟨#[]⟩, .slice none 0 0], .int .i64 n])) w' := ⟨none, 0, rfl, LabAt.zero _, h, fun b off e => by cases e⟩
theorem str_ne {a b : ByteArray} (h : ¬ a = b) : (a.toList == b.toList) = false := beq_eq_false_iff_ne.2 (fun e => h (bytes_eq (by simpa [ByteArray.toList_eq] using e)))
theorem RTxt_sz (s : ByteArray) (e most : Int) : (RTxt s e most).1.size ≤ s.size := by
  unfold RTxt
  split
  · exact Nat.zero_le _
  · split
    · exact Nat.zero_le _
    · simp only [ByteArray.size_extract]
      have := RCnt_size s e most
      omega
set_option maxRecDepth 100000 in
set_option maxHeartbeats 4000000 in
theorem decode_lab (s : ByteArray) (t : Int) (w : World) (hs : s.size ≤ 9223372036854775807) (t0 : -9223372036854775808 ≤ t) (t1 : t ≤ 9223372036854775807) :
    Calls Try.prog 60 #[.string s, .int .i64 t] w (DecR w (decP s t)) := by
  have g0 := (Grew.refl w).alloc (.cells #[.int .i64 0, .int .i64 0, .string ⟨#[]⟩, .string ⟨#[]⟩, .slice none 0 0] 24)
  have HG0 := Lib.hid g0
  have HB0 := Lib.hid (Blk.new w 24 #[.int .i64 0, .int .i64 0, .string ⟨#[]⟩, .string ⟨#[]⟩, .slice none 0 0] rfl)
  clear g0
  cases ho : okT t with
  | false =>
    have HO := Lib.hid ho
    have HE := Lib.hid (show decP s t = (labZ, 11) from by unfold decP; rw [if_pos (.inl ho)])
    clear ho
    go_enter Try.func60, Try.ntmps60
    go_wp2_with fail
    refine (tracksOK_any _ _).mono ?_
    rintro e w1 ⟨rfl, rfl⟩
    rw [HO.out]
    go_wp2_with fail
    refine bodyPost_ret (by first | (simp [*, results, Try.results60, go_sem]; rfl) | simp [*, results, Try.results60, go_sem]) rfl ?_
    rw [HE.out]
    exact decZ _ _ _ (by (repeat' first | (with_reducible exact Grew.refl _) | (with_reducible assumption) | (with_reducible refine Grew.alloc ?_ _) | (with_reducible refine Grew.drew ?_) | (with_reducible refine Grew.drewN ?_ _) | (with_reducible refine Grew.setRow ?_ (by first | (simp; done) | (simp; omega) | omega) _) | (with_reducible refine Grew.setCell ?_ (by first | (simp; done) | (simp; omega) | omega) _) | ((with_reducible apply Grew.trans); rotate_left; (with_reducible assumption)) | ((with_reducible apply Grew.turn); rotate_left; (with_reducible assumption); (focus (intro i hi; first | omega | (simp at hi; omega)))) | fail))
  | true =>
    have HO := Lib.hid ho
    by_cases hz : s.size = 1024
    rotate_left
    · have hzi : ((s.size : Int) != 1024) = true := by rw [bne_iff_ne]; omega
      have HE := Lib.hid (show decP s t = (labZ, 11) from by unfold decP; rw [if_pos (.inr hz)])
      clear ho hz
      go_enter Try.func60, Try.ntmps60
      go_wp2_with fail
      refine (tracksOK_any _ _).mono ?_
      rintro e w1 ⟨rfl, rfl⟩
      rw [HO.out]
      go_wp2_with fail
      refine bodyPost_ret (by first | (simp [*, results, Try.results60, go_sem]; rfl) | simp [*, results, Try.results60, go_sem]) rfl ?_
      rw [HE.out]
      exact decZ _ _ _ (by (repeat' first | (with_reducible exact Grew.refl _) | (with_reducible assumption) | (with_reducible refine Grew.alloc ?_ _) | (with_reducible refine Grew.drew ?_) | (with_reducible refine Grew.drewN ?_ _) | (with_reducible refine Grew.setRow ?_ (by first | (simp; done) | (simp; omega) | omega) _) | (with_reducible refine Grew.setCell ?_ (by first | (simp; done) | (simp; omega) | omega) _) | ((with_reducible apply Grew.trans); rotate_left; (with_reducible assumption)) | ((with_reducible apply Grew.turn); rotate_left; (with_reducible assumption); (focus (intro i hi; first | omega | (simp at hi; omega)))) | fail))
    have hzi : ((s.size : Int) != 1024) = false := by rw [bne_eq_false_iff_eq]; omega
    have HSZ := Lib.hid hz
    have hsz1 : s.size ≤ 1024 := by omega
    obtain ⟨ZZ, hZZ⟩ : ∃ ZZ, padS 1024 ⟨#[]⟩ = ZZ := ⟨_, rfl⟩
    have HZZ := Lib.hid hZZ
    by_cases hs0 : s = ZZ
    · have HE := Lib.hid (show decP s t = (labZ, 0) from by unfold decP; rw [if_neg (by rw [ho]; simp [hz]), if_pos (by rw [hZZ]; exact hs0)])
      have HFI := fun w => Lib.hid (fill_any ⟨#[]⟩ w (by decide))
      rw [hZZ, ← hs0] at HFI
      clear ho hz hZZ hs0
      go_enter Try.func60, Try.ntmps60
      go_wp2_with fail
      refine (tracksOK_any _ _).mono ?_
      rintro e w1 ⟨rfl, rfl⟩
      rw [HO.out]
      go_wp2_with fail
      refine (HFI _).out.mono ?_
      rintro e w2 ⟨rfl, g2⟩
      have hb2 := HB0.out.grew g2
      have z0 := hb2.cell 0
      have f0 := hb2.frozen 0
      have z1 := hb2.cell 1
      have f1 := hb2.frozen 1
      have z2 := hb2.cell 2
      have f2 := hb2.frozen 2
      have z3 := hb2.cell 3
      have f3 := hb2.frozen 3
      have z4 := hb2.cell 4
      have f4 := hb2.frozen 4
      have hlb := hb2.lt
      go_wp2_with fail
      refine bodyPost_ret (by first | (simp [*, results, Try.results60, go_sem]; rfl) | simp [*, results, Try.results60, go_sem]) rfl ?_
      rw [HE.out]
      exact decZ _ _ _ (by (repeat' first | (with_reducible exact Grew.refl _) | (with_reducible assumption) | (with_reducible refine Grew.alloc ?_ _) | (with_reducible refine Grew.drew ?_) | (with_reducible refine Grew.drewN ?_ _) | (with_reducible refine Grew.setRow ?_ (by first | (simp; done) | (simp; omega) | omega) _) | (with_reducible refine Grew.setCell ?_ (by first | (simp; done) | (simp; omega) | omega) _) | ((with_reducible apply Grew.trans); rotate_left; (with_reducible assumption)) | ((with_reducible apply Grew.turn); rotate_left; (with_reducible assumption); (focus (intro i hi; first | omega | (simp at hi; omega)))) | fail))
    have hne := str_ne hs0
    have HFI := fun w => Lib.hid (fill_any ⟨#[]⟩ w (by decide))
    rw [hZZ] at HFI
    have HEE := Lib.hid (show decP s t = if validL (rL 128 s) t = true ∧ encS (rL 128 s) t = s then (rL 128 s, 0) else (labZ, 11) from by
      unfold decP; rw [if_neg (by rw [ho]; simp [hz]), if_neg (by rw [hZZ]; exact hs0)])
    clear ho hz hZZ hs0
    go_enter Try.func60, Try.ntmps60
    go_wp2_with fail
    refine (tracksOK_any _ _).mono ?_
    rintro e w1 ⟨rfl, rfl⟩
    rw [HO.out]
    go_wp2_with fail
    refine (HFI _).out.mono ?_
    rintro e w2 ⟨rfl, g2⟩
    go_wp2_with fail
    refine (newReader_any s _).mono ?_
    rintro e w3 ⟨g, rfl, hgg, g3, hr3⟩
    have hG := g2.trans g3
    have hgl : w.heap.size + 1 ≤ g := by have := g2.size; simp at this; omega
    have hI := RCnt_bd s 0 1099511627776 (by omega)
    have hIs := RCnt_size s 0 1099511627776
    clear g2 g3 hgg hI hIs
    obtain ⟨w0, hw0⟩ : ∃ w0, w0 = (w.alloc (.cells #[.int .i64 0, .int .i64 0, .string ⟨#[]⟩, .string ⟨#[]⟩, .slice none 0 0] 24)) := ⟨_, rfl⟩
    have hw0s : w0.heap.size = w.heap.size + 1 := by rw [hw0]; simp
    rw [← hw0] at hG HG0 HB0
    clear hw0
    obtain ⟨⟨i1, s1, e1⟩, hX1⟩ : ∃ X, RCnt s 0 1099511627776 = X := ⟨_, rfl⟩
    have HX1 := Lib.hid hX1
    have zz := RCnt_size s 0 1099511627776
    rw [hX1] at zz
    have zs1 : s1.size ≤ 1024 := Nat.le_trans zz (by omega)
    have C := rcount_any g s 0 1099511627776 w3 hr3 (by omega) (by omega) (by omega)
    rw [hX1] at C
    have bi1 := RCnt_bd s 0 1099511627776 (by omega)
    rw [hX1] at bi1
    have bi1 : (i1 : Int) ≤ 1099511627776 := bi1
    clear hX1 zz
    go_wp2_with fail
    refine C.mono ?_
    rintro e w4 ⟨rfl, t1, hr1⟩
    replace hG := hG.turn t1 (fun _ hk => by omega)
    have hgs1 := t1.size
    clear C t1 hr3
    obtain ⟨⟨u1, s2, e2⟩, hX2⟩ : ∃ X, RCnt s1 e1 1099511627776 = X := ⟨_, rfl⟩
    have HX2 := Lib.hid hX2
    have zz := RCnt_size s1 e1 1099511627776
    rw [hX2] at zz
    have zs2 : s2.size ≤ 1024 := Nat.le_trans zz (by omega)
    have C := rcount_any g s1 e1 1099511627776 w4 hr1 (by omega) (by omega) (by omega)
    rw [hX2] at C
    have bu1 := RCnt_bd s1 e1 1099511627776 (by omega)
    rw [hX2] at bu1
    have bu1 : (u1 : Int) ≤ 1099511627776 := bu1
    clear hX2 zz
    go_wp2_with fail
    refine C.mono ?_
    rintro e w5 ⟨rfl, t2, hr2⟩
    replace hG := hG.turn t2 (fun _ hk => by omega)
    have hgs2 := t2.size
    clear C t2 hr1
    obtain ⟨⟨n1, s3, e3⟩, hX3⟩ : ∃ X, RTxt s2 e2 31 = X := ⟨_, rfl⟩
    have HX3 := Lib.hid hX3
    have zz := RTxt_size s2 e2 31
    rw [hX3] at zz
    have zs3 : s3.size ≤ 1024 := Nat.le_trans zz (by omega)
    have C := rtext_any g s2 e2 31 w5 hr2 (by omega) (by omega) (by omega)
    rw [hX3] at C
    have bn1 := RTxt_sz s2 e2 31
    rw [hX3] at bn1
    have bn1 : n1.size ≤ 1024 := Nat.le_trans bn1 (by omega)
    clear hX3 zz
    go_wp2_with fail
    refine C.mono ?_
    rintro e w6 ⟨rfl, t3, hr3⟩
    replace hG := hG.turn t3 (fun _ hk => by omega)
    have hgs3 := t3.size
    clear C t3 hr2
    obtain ⟨⟨o1, s4, e4⟩, hX4⟩ : ∃ X, RTxt s3 e3 400 = X := ⟨_, rfl⟩
    have HX4 := Lib.hid hX4
    have zz := RTxt_size s3 e3 400
    rw [hX4] at zz
    have zs4 : s4.size ≤ 1024 := Nat.le_trans zz (by omega)
    have C := rtext_any g s3 e3 400 w6 hr3 (by omega) (by omega) (by omega)
    rw [hX4] at C
    have bo1 := RTxt_sz s3 e3 400
    rw [hX4] at bo1
    have bo1 : o1.size ≤ 1024 := Nat.le_trans bo1 (by omega)
    clear hX4 zz
    go_wp2_with fail
    refine C.mono ?_
    rintro e w7 ⟨rfl, t4, hr4⟩
    replace hG := hG.turn t4 (fun _ hk => by omega)
    have hgs4 := t4.size
    clear C t4 hr3
    have hgl7 := hr4.lt
    have HBL := Lib.hid (Blk.new w7 24 #[.int .i64 (i1 : Int), .int .i64 (u1 : Int), .string n1, .string o1, .slice none 0 0] rfl)
    have hr4a := hr4.alloc (.cells #[.int .i64 (i1 : Int), .int .i64 (u1 : Int), .string n1, .string o1, .slice none 0 0] 24)
    have hGa := hG.alloc (.cells #[.int .i64 (i1 : Int), .int .i64 (u1 : Int), .string n1, .string o1, .slice none 0 0] 24)
    obtain ⟨w8, hw8⟩ : ∃ w8, w8 = w7.alloc (.cells #[.int .i64 (i1 : Int), .int .i64 (u1 : Int), .string n1, .string o1, .slice none 0 0] 24) := ⟨_, rfl⟩
    have hw8s : w8.heap.size = w7.heap.size + 1 := by rw [hw8]; simp
    rw [← hw8] at hr4a hGa HBL
    clear hr4 hG
    go_wp2_with fail
    rw [← hw8]
    clear hw8
    obtain ⟨⟨c5, s5, e5⟩, hX5⟩ : ∃ X, RCnt s4 e4 16 = X := ⟨_, rfl⟩
    have HX5 := Lib.hid hX5
    have zz := RCnt_size s4 e4 16
    rw [hX5] at zz
    have zs5 : s5.size ≤ 1024 := Nat.le_trans zz (by omega)
    have C := rcount_any g s4 e4 16 w8 hr4a (by omega) (by omega) (by omega)
    rw [hX5] at C
    have bc5 := RCnt_bd s4 e4 16 (by omega)
    rw [hX5] at bc5
    have bc5 : (c5 : Int) ≤ 16 := bc5
    clear hX5 zz
    refine C.mono ?_
    rintro e w9 ⟨rfl, t5, hr5⟩
    have hGb := hGa.turn t5 (fun _ hk => by omega)
    have hw9 := t5.size
    have HBM := HBL.out.turned t5 (by omega)
    have HLL := Lib.hid (show ∀ L s6 e6, rdK 128 s5 e5 c5 = (L, s6, e6) → rL 128 s = ⟨(i1 : Int), (u1 : Int), n1, o1, L⟩ from by
      intro L s6 e6 h6
      have q1 : rI s = (i1, s1, e1) := HX1.out
      have q2 : rU s = (u1, s2, e2) := by unfold rU; rw [q1]; exact HX2.out
      have q3 : rN s = (n1, s3, e3) := by unfold rN; rw [q2]; exact HX3.out
      have q4 : rT s = (o1, s4, e4) := by unfold rT; rw [q3]; exact HX4.out
      have q5 : rC s = (c5, s5, e5) := by unfold rC; rw [q4]; exact HX5.out
      unfold rL
      rw [q1, q2, q3, q4, q5]
      simp only [h6])
    clear hr4a hGa C t5 HX1 HX2 HX3 HX4 HX5 HBL hgs1 hgs2 hgs3 hgs4
    go_wp2_with fail
    go_loopg [34] c5 (fun gk i wr => ∃ (k : Nat) (v : Value) (L : List (Int × Int)) (sk : ByteArray) (ek : Int), k ≤ c5 ∧ gk = c5 - k ∧ i = .int .i64 k ∧ rdK 128 s5 e5 k = (L, sk, ek) ∧ OwnL wr (w7.heap.size + 1) 58 2 v (L.map runC) ∧ Blk wr w7.heap.size 24 #[.int .i64 (i1 : Int), .int .i64 (u1 : Int), .string n1, .string o1, v] ∧ Rd wr g sk ek ∧ Grew w0 wr)
    case atStart => exact ⟨0, .slice none 0 0, [], s5, e5, by omega, by omega, rfl, rfl, OwnL.nil _ _ _ _, HBM, hr5, hGb⟩
    clear HBM hr5 hGb hw9
    case round =>
      obtain ⟨k, v, L, sk, ek, hk, hgk, rfl, hrk, hown, hbl, hrd, hgw⟩ := hrel
      have HGK := Lib.hid hgk
      have HRK := Lib.hid hrk
      have hln : L.length = k := by have := rdK_len 128 s5 e5 k; rw [hrk] at this; exact this
      have hsk : sk.size ≤ 1024 := by have := rdK_size 128 s5 e5 k; rw [hrk] at this; exact Nat.le_trans this zs5
      have HOK := Lib.hid (show ∀ r ∈ L, okRun r from by have := rdK_ok s5 e5 k; rw [hrk] at this; exact this)
      obtain ⟨A, cv, hv, hlc, hcc, hla0⟩ := hown.listAt
      have HLA0 := Lib.hid hla0
      clear hla0
      rw [List.length_map, hln] at hv hlc
      subst hv
      clear hgk hrk
      by_cases hlt : k < c5
      · obtain ⟨⟨a1, sa, ea⟩, hXA⟩ : ∃ X, RCnt sk ek 128 = X := ⟨_, rfl⟩
        obtain ⟨⟨b1, sb, eb⟩, hXB⟩ : ∃ X, RCnt sa ea 128 = X := ⟨_, rfl⟩
        have HNX := Lib.hid (rdK_next HRK.out hXA hXB)
        have zz := RCnt_size sk ek 128
        rw [hXA] at zz
        have zsa : sa.size ≤ 1024 := Nat.le_trans zz (by omega)
        have CA := fun w h => rcount_any g sk ek 128 w h (by omega) (by omega) (by omega)
        rw [hXA] at CA
        have CB := fun w h => rcount_any g sa ea 128 w h (by omega) (by omega) (by omega)
        rw [hXB] at CB
        have ba1 := RCnt_bd sk ek 128 (by omega)
        rw [hXA] at ba1
        have ba1 : (a1 : Int) ≤ 128 := ba1
        have bb1 := RCnt_bd sa ea 128 (by omega)
        rw [hXB] at bb1
        have bb1 : (b1 : Int) ≤ 128 := bb1
        clear hXA hXB zz
        have HO := Lib.hid hown
        have HL := Lib.hid hbl
        have hlw := hbl.lt
        clear hown hbl
        go_wp2_with fail
        refine wp_region_R [10] (fun w' : World => w'.cell? ⟨w7.heap.size, 4, none⟩ = some (.slice A k cv)) (by kernel_rfl) ?_
        have hS := (show (fun w' : World => w'.cell? ⟨w7.heap.size, 4, none⟩ = some (.slice A k cv)) _ from HL.out.drew.cell 4)
        refine wpAnyR_takeQ (i := 0) (v := ?_) (some 36) rfl rfl (by kernel_rfl) (by kernel_rfl) (by kernel_rfl) (by kernel_rfl) (fun _ _ _ h => h) (Or.inl ⟨by rfl, ?_⟩) ?_
        rotate_left
        focus (intro wS hSw; (try dsimp only at hSw); go_simp; (try with_reducible rfl); (try (first | (rw [if_pos (by omega)]; (try go_simp); (try with_reducible rfl)) | (rw [if_neg (by omega)]; (try go_simp); (try with_reducible rfl)))))
        try simp only [Act.put, zA, zB, zC]
        refine wpAnyR_take (i := 1) (v := ?_) [8, 9, 10] (some 37) rfl rfl (by kernel_rfl) (by kernel_rfl) (by kernel_rfl) (by kernel_rfl) (by kernel_rfl) (by kernel_rfl) (by kernel_rfl) (fun _ _ _ h => h) (Or.inl ⟨by rfl, ?_⟩) hS ?_
        rotate_left
        focus (intro wS hSw; (try dsimp only at hSw); go_simp; (try with_reducible rfl); (try (first | (rw [if_pos (by omega)]; (try go_simp); (try with_reducible rfl)) | (rw [if_neg (by omega)]; (try go_simp); (try with_reducible rfl)))))
        try simp only [Act.put, zA, zB, zC]
        refine wpAnyR_takeQ (i := 2) (v := ?_) (some 38) rfl rfl (by kernel_rfl) (by kernel_rfl) (by kernel_rfl) (by kernel_rfl) (fun _ _ _ h => h) (Or.inl ⟨by rfl, ?_⟩) ?_
        rotate_left
        focus (intro wS hSw; (try dsimp only at hSw); go_simp; (try with_reducible rfl); (try (first | (rw [if_pos (by omega)]; (try go_simp); (try with_reducible rfl)) | (rw [if_neg (by omega)]; (try go_simp); (try with_reducible rfl)))))
        try simp only [Act.put, zA, zB, zC]
        refine wpAnyR_takeQ (i := 4) (v := ?_) (some 40) rfl rfl (by kernel_rfl) (by kernel_rfl) (by kernel_rfl) (by kernel_rfl) (fun _ _ _ h => h) (Or.inl ⟨by rfl, ?_⟩) ?_
        rotate_left
        focus (intro wS hSw; (try dsimp only at hSw); go_simp; (try with_reducible rfl); (try (first | (rw [if_pos (by omega)]; (try go_simp); (try with_reducible rfl)) | (rw [if_neg (by omega)]; (try go_simp); (try with_reducible rfl)))))
        try simp only [Act.put, zA, zB, zC]
        refine wpAnyR_n1 (i := 3) rfl (by kernel_rfl) ?_
        intro K' hK
        rw [if_pos (by rfl)]
        simp only [List.getElem_toArray, List.getElem_cons_succ, List.getElem_cons_zero]
        go_wp2_with fail
        refine (CA _ hrd.drew).mono ?_
        rintro e wa ⟨rfl, ta, hra⟩
        have ga := (hgw.drew).turn ta (fun _ hk => by omega)
        have hla := (HL.out.drew).turned ta (by omega)
        have hoa := (HO.out.drew).kept ta (fun q hq hqg => by have := (HO.out.own_ge hq).1; omega)
        have hsa : wr.heap.size ≤ wa.heap.size := ta.size
        go_wp2_with fail
        refine hK.out _ _ (.inr (fun _ => hla.cell 4)) ?_
        clear hK hS ta
        refine wpAnyR_n1 (i := 5) rfl (by kernel_rfl) ?_
        intro K' hK
        rw [if_pos (by rfl)]
        simp only [List.getElem_toArray, List.getElem_cons_succ, List.getElem_cons_zero]
        go_wp2_with fail
        refine (CB _ hra).mono ?_
        rintro e wb ⟨rfl, tb, hrb⟩
        have gb := ga.turn tb (fun _ hk => by omega)
        have hlb := hla.turned tb (by omega)
        have hob := hoa.kept tb (fun q hq hqg => by have := (hoa.own_ge hq).1; omega)
        have hsb : wa.heap.size ≤ wb.heap.size := tb.size
        go_wp2_with fail
        refine hK.out _ _ (.inr (fun _ => hlb.cell 4)) ?_
        clear hK tb
        refine wpAnyR_takeQ (i := 6) (v := ?_) (some 42) rfl rfl (by kernel_rfl) (by kernel_rfl) (by kernel_rfl) (by kernel_rfl) (fun _ _ _ h => h) (Or.inl ⟨by rfl, ?_⟩) ?_
        rotate_left
        focus (intro wS hSw; (try dsimp only at hSw); go_simp; (try with_reducible rfl); (try (first | (rw [if_pos (by omega)]; (try go_simp); (try with_reducible rfl)) | (rw [if_neg (by omega)]; (try go_simp); (try with_reducible rfl)))))
        try simp only [Act.put, zA, zB, zC]
        refine wpAnyR_n1 (i := 7) rfl (by kernel_rfl) ?_
        intro K' hK
        rw [if_pos (by rfl)]
        simp only [List.getElem_toArray, List.getElem_cons_succ, List.getElem_cons_zero]
        go_wp2_with fail
        have gc := gb.alloc (.cells #[.int .i64 (a1 : Int), .int .i64 (b1 : Int)] 58)
        have hbc := Blk.new wb 58 #[.int .i64 (a1 : Int), .int .i64 (b1 : Int)] rfl
        have hlc' := hlb.alloc (.cells #[.int .i64 (a1 : Int), .int .i64 (b1 : Int)] 58)
        have hoc := hob.alloc (.cells #[.int .i64 (a1 : Int), .int .i64 (b1 : Int)] 58)
        have hrc := hrb.alloc (.cells #[.int .i64 (a1 : Int), .int .i64 (b1 : Int)] 58)
        refine hK.out _ _ (.inr (fun _ => hlc'.cell 4)) ?_
        clear hK
        refine wpAnyR_n1 (i := 8) rfl (by kernel_rfl) ?_
        intro K' hK
        rw [if_pos (by rfl)]
        simp only [List.getElem_toArray, List.getElem_cons_succ, List.getElem_cons_zero]
        refine wp_push (.tmp 37) (.tmp 43) 22 rfl (w7.heap.size + 1) 58 2 16 _ Try.underlying22 info_run rfl (by decide) _ _ (L.map runC) (runC ((a1 : Int), (b1 : Int))) rfl rfl hoc _ rfl hbc rfl (by rw [List.length_map]; omega) (by rw [List.length_map]; omega) (by simp; omega) k (by rw [List.length_map, hln]) ?_
        intro g6 c6 w6' hown6 hgr6 hat6 hlt6
        have g6' : Grew w0 w6' := Grew.own gc hgr6 (fun q hq => by have := (hoc.own_ge hq).1; omega) (Nat.le_refl _)
        have hl6 := hlc'.own hgr6 (fun hq => by have := (hoc.own_ge hq).1; omega)
        have hr6 := hrc.own hgr6 (fun hq => by have := (hoc.own_ge hq).1; omega)
        refine hK.out _ _ (.inr (fun _ => hl6.cell 4)) ?_
        have z4 := hl6.cell 4
        have f4 := hl6.frozen 4
        have HO6 := Lib.hid hown6
        clear hK hgr6 hat6 hown6
        refine wpAnyR_takeQ (i := 9) (v := ?_) (some 45) rfl rfl (by kernel_rfl) (by kernel_rfl) (by kernel_rfl) (by kernel_rfl) (fun _ _ _ h => h) (Or.inl ⟨by rfl, ?_⟩) ?_
        rotate_left
        focus (intro wS hSw; (try dsimp only at hSw); go_simp; (try with_reducible rfl); (try (first | (rw [if_pos (by omega)]; (try go_simp); (try with_reducible rfl)) | (rw [if_neg (by omega)]; (try go_simp); (try with_reducible rfl)))))
        try simp only [Act.put, zA, zB, zC]
        refine wpAnyR_n1 (i := 10) rfl (by kernel_rfl) ?_
        intro K' hK
        rw [if_pos (by rfl)]
        simp only [List.getElem_toArray, List.getElem_cons_succ, List.getElem_cons_zero]
        go_wp2_with fail
        refine hK.out _ _ (.inl rfl) ?_
        refine wpAnyR_done (by kernel_rfl) ?_ _
        have hl7 := hl6.set_ 4 (.slice (some ⟨g6, 0, none⟩) (k + 1) c6)
        have hr7 : Rd _ g sb eb := hr6.far (p := ⟨w7.heap.size, 4, none⟩) (by show g ≠ w7.heap.size; omega) (.slice (some ⟨g6, 0, none⟩) (k + 1) c6)
        have ho7 := HO6.out.far (p := ⟨w7.heap.size, 4, none⟩) (fun hq => by have : w7.heap.size + 1 ≤ w7.heap.size := (HO6.out.own_ge hq).1; omega) (.slice (some ⟨g6, 0, none⟩) (k + 1) c6)
        have g7 := g6'.setCell (p := ⟨w7.heap.size, 4, none⟩) (by show w0.heap.size ≤ w7.heap.size; omega) (.slice (some ⟨g6, 0, none⟩) (k + 1) c6)
        clear z4 f4 hK
        go_wp2_with fail
        go_roundg (c5 - (k + 1))
        case measure => rw [HGK.out]; omega
        case rel => exact ⟨k + 1, _, _, sb, eb, by omega, by omega, by go_num, HNX.out, by rw [List.map_append]; exact ho7, hl7, hr7, g7⟩
      · obtain rfl : k = c5 := by omega
        have HRL := Lib.hid (HLL.out _ _ _ HRK.out)
        subst hln
        have HLA := Lib.hid (show LabAt wr A cv ⟨(i1 : Int), (u1 : Int), n1, o1, L⟩ from ⟨by show -9223372036854775808 ≤ ((_ : Nat) : Int); omega, by show ((_ : Nat) : Int) ≤ 9223372036854775807; omega, by show -9223372036854775808 ≤ ((_ : Nat) : Int); omega, by show ((_ : Nat) : Int) ≤ 9223372036854775807; omega, by show n1.size ≤ _; omega, by show o1.size ≤ _; omega, ⟨HOK.out, HLA0.out⟩, hlc, hcc⟩)
        have hlw := hbl.lt
        have x0 := hbl.cell 0
        have x1 := hbl.cell 1
        have x2 := hbl.cell 2
        have x3 := hbl.cell 3
        have x4 := hbl.cell 4
        have HBL := Lib.hid hbl
        have HB1 := Lib.hid (HB0.out.grew hgw)
        have hGr := Lib.hid (HG0.out.trans hgw)
        have HOW := Lib.hid hown
        clear hbl hown hrd
        have CV := fun w h => valid_lab A cv ⟨(i1 : Int), (u1 : Int), n1, o1, L⟩ t w h (by show L.length ≤ 100000; omega)
        cases hvl : validL ⟨(i1 : Int), (u1 : Int), n1, o1, L⟩ t with
        | false =>
          have HE := Lib.hid (show decP s t = (labZ, 11) from by rw [HEE.out, HRL.out, hvl]; simp)
          rw [hvl] at CV
          clear hvl
          go_wp2_with fail
          refine (CV _ HLA.out).mono ?_
          rintro e wv ⟨rfl, gv⟩
          have hb2 := HB1.out.grew gv
          have z0 := hb2.cell 0
          have f0 := hb2.frozen 0
          have z1 := hb2.cell 1
          have f1 := hb2.frozen 1
          have z2 := hb2.cell 2
          have f2 := hb2.frozen 2
          have z3 := hb2.cell 3
          have f3 := hb2.frozen 3
          have z4 := hb2.cell 4
          have f4 := hb2.frozen 4
          have hlb := hb2.lt
          clear x0 x1 x2 x3 x4
          go_wp2_with fail
          refine bodyPost_ret (by first | (simp [*, results, Try.results60, go_sem]; rfl) | simp [*, results, Try.results60, go_sem]) rfl ?_
          rw [HE.out]
          have hgv := hGr.out.trans gv
          exact decZ _ _ _ (by (repeat' first | (with_reducible exact Grew.refl _) | (with_reducible assumption) | (with_reducible refine Grew.alloc ?_ _) | (with_reducible refine Grew.drew ?_) | (with_reducible refine Grew.drewN ?_ _) | (with_reducible refine Grew.setRow ?_ (by first | (simp; done) | (simp; omega) | omega) _) | (with_reducible refine Grew.setCell ?_ (by first | (simp; done) | (simp; omega) | omega) _) | ((with_reducible apply Grew.trans); rotate_left; (with_reducible assumption)) | ((with_reducible apply Grew.turn); rotate_left; (with_reducible assumption); (focus (intro i hi; first | omega | (simp at hi; omega)))) | fail))
        | true =>
          have CE := fun w h => encode_lab A cv ⟨(i1 : Int), (u1 : Int), n1, o1, L⟩ t w h (by show L.length ≤ 100000; omega) t0 t1
          rw [hvl] at CV
          obtain ⟨EE, hEE⟩ : ∃ EE, encS ⟨(i1 : Int), (u1 : Int), n1, o1, L⟩ t = EE := ⟨_, rfl⟩
          rw [hEE] at CE
          have HEQ := Lib.hid hEE
          by_cases hes : EE = s
          · have HE := Lib.hid (show decP s t = (⟨(i1 : Int), (u1 : Int), n1, o1, L⟩, 0) from by rw [HEE.out, HRL.out, hvl, HEQ.out, hes]; simp)
            rw [hes] at CE
            clear hvl hEE hes
            go_wp2_with fail
            refine (CV _ HLA.out).mono ?_
            rintro e wv ⟨rfl, gv⟩
            have HBV := Lib.hid (HBL.out.grew gv)
            have hlv := HBV.out.lt
            have y0 := HBV.out.cell 0
            have y1 := HBV.out.cell 1
            have y2 := HBV.out.cell 2
            have y3 := HBV.out.cell 3
            have y4 := HBV.out.cell 4
            clear x0 x1 x2 x3 x4 hlw
            go_wp2_with fail
            refine (CE _ (HLA.out.hold gv)).mono ?_
            rintro e we ⟨rfl, ge⟩
            have HBW := Lib.hid (HBV.out.grew ge)
            have hlx := HBW.out.lt
            have x0 := HBW.out.cell 0
            have x1 := HBW.out.cell 1
            have x2 := HBW.out.cell 2
            have x3 := HBW.out.cell 3
            have x4 := HBW.out.cell 4
            have hb2 := (HB1.out.grew gv).grew ge
            have z0 := hb2.cell 0
            have f0 := hb2.frozen 0
            have z1 := hb2.cell 1
            have f1 := hb2.frozen 1
            have z2 := hb2.cell 2
            have f2 := hb2.frozen 2
            have z3 := hb2.cell 3
            have f3 := hb2.frozen 3
            have z4 := hb2.cell 4
            have f4 := hb2.frozen 4
            have hlb := hb2.lt
            clear y0 y1 y2 y3 y4 hlv
            go_wp2_with fail
            refine bodyPost_ret (by first | (simp [*, results, Try.results60, go_sem]; rfl) | simp [*, results, Try.results60, go_sem]) rfl ?_
            rw [HE.out]
            have hgv := (hGr.out.trans gv).trans ge
            have hT := (((((((gv.trans ge).turned (fun q => q = w.heap.size)).setCell (p := ⟨w.heap.size, 0, none⟩) (fun _ => rfl) (.int .i64 (i1 : Int))).setCell (p := ⟨w.heap.size, 1, none⟩) (fun _ => rfl) (.int .i64 (u1 : Int))).setCell (p := ⟨w.heap.size, 2, none⟩) (fun _ => rfl) (.string n1)).setCell (p := ⟨w.heap.size, 3, none⟩) (fun _ => rfl) (.string o1)).setCell (p := ⟨w.heap.size, 4, none⟩) (fun _ => rfl) (.slice A L.length cv))
            have hk := HOW.out.kept hT (fun q hq hqg => by have : w7.heap.size + 1 ≤ q := (HOW.out.own_ge hq).1; omega)
            obtain ⟨A', c', hv', -, -, hl'⟩ := hk.listAt
            rw [List.length_map] at hv'
            simp only [Value.slice.injEq] at hv'
            obtain ⟨rfl, -, rfl⟩ := hv'
            exact ⟨A, cv, rfl, ⟨HLA.out.id0, HLA.out.id1, HLA.out.unit0, HLA.out.unit1, HLA.out.name, HLA.out.note, ⟨HOK.out, hl'⟩, HLA.out.len, HLA.out.cap⟩, by (repeat' first | (with_reducible exact Grew.refl _) | (with_reducible assumption) | (with_reducible refine Grew.alloc ?_ _) | (with_reducible refine Grew.drew ?_) | (with_reducible refine Grew.drewN ?_ _) | (with_reducible refine Grew.setRow ?_ (by first | (simp; done) | (simp; omega) | omega) _) | (with_reducible refine Grew.setCell ?_ (by first | (simp; done) | (simp; omega) | omega) _) | ((with_reducible apply Grew.trans); rotate_left; (with_reducible assumption)) | ((with_reducible apply Grew.turn); rotate_left; (with_reducible assumption); (focus (intro i hi; first | omega | (simp at hi; omega)))) | fail), fun b off e => by have : w7.heap.size + 1 ≤ b := (HOW.out.own_ge (g := b) (by rw [e]; rfl)).1; omega⟩
          · have HE := Lib.hid (show decP s t = (labZ, 11) from by rw [HEE.out, HRL.out, hvl, HEQ.out]; simp [hes])
            have hns := str_ne hes
            clear hvl hEE hes
            go_wp2_with fail
            refine (CV _ HLA.out).mono ?_
            rintro e wv ⟨rfl, gv⟩
            have HBV := Lib.hid (HBL.out.grew gv)
            have hlv := HBV.out.lt
            have y0 := HBV.out.cell 0
            have y1 := HBV.out.cell 1
            have y2 := HBV.out.cell 2
            have y3 := HBV.out.cell 3
            have y4 := HBV.out.cell 4
            clear x0 x1 x2 x3 x4 hlw
            go_wp2_with fail
            refine (CE _ (HLA.out.hold gv)).mono ?_
            rintro e we ⟨rfl, ge⟩
            have hb2 := (HB1.out.grew gv).grew ge
            have z0 := hb2.cell 0
            have f0 := hb2.frozen 0
            have z1 := hb2.cell 1
            have f1 := hb2.frozen 1
            have z2 := hb2.cell 2
            have f2 := hb2.frozen 2
            have z3 := hb2.cell 3
            have f3 := hb2.frozen 3
            have z4 := hb2.cell 4
            have f4 := hb2.frozen 4
            have hlb := hb2.lt
            clear y0 y1 y2 y3 y4 hlv
            go_wp2_with fail
            refine bodyPost_ret (by first | (simp [*, results, Try.results60, go_sem]; rfl) | simp [*, results, Try.results60, go_sem]) rfl ?_
            rw [HE.out]
            have hgv := (hGr.out.trans gv).trans ge
            exact decZ _ _ _ (by (repeat' first | (with_reducible exact Grew.refl _) | (with_reducible assumption) | (with_reducible refine Grew.alloc ?_ _) | (with_reducible refine Grew.drew ?_) | (with_reducible refine Grew.drewN ?_ _) | (with_reducible refine Grew.setRow ?_ (by first | (simp; done) | (simp; omega) | omega) _) | (with_reducible refine Grew.setCell ?_ (by first | (simp; done) | (simp; omega) | omega) _) | ((with_reducible apply Grew.trans); rotate_left; (with_reducible assumption)) | ((with_reducible apply Grew.turn); rotate_left; (with_reducible assumption); (focus (intro i hi; first | omega | (simp at hi; omega)))) | fail))
end Go.Proofs.Ytnlaogneceanoaa
namespace Go.Proofs.Ytnlaogneceanoaa
set_option linter.unusedVariables false
set_option linter.unusedSimpArgs false
set_option linter.unusedSectionVars false
open Go.RowKit
theorem rdK_runs (m : Int) (l : List (Int × Int)) (rest : List UInt8) (hm : m ≤ 1000000) (h : ∀ x ∈ l, 0 ≤ x.1 ∧ x.1 ≤ m ∧ 0 ≤ x.2 ∧ x.2 ≤ 128) :
    ∀ k, k ≤ l.length → rdK m ⟨(runsL l ++ rest).toArray⟩ 0 k = (l.take k, ⟨(runsL (l.drop k) ++ rest).toArray⟩, 0) := by
  intro k
  induction k with
  | zero => intro _; rfl
  | succ k ih =>
    intro hk
    have h0 := ih (by omega)
    obtain ⟨x0, x1, x2, x3⟩ := h l[k] (List.getElem_mem (by omega))
    rw [List.drop_eq_getElem_cons (by omega)] at h0
    have e1 : runsL (l[k] :: l.drop (k + 1)) ++ rest = enc (l[k].1).toNat ++ (enc (l[k].2).toNat ++ (runsL (l.drop (k + 1)) ++ rest)) := by
      show (enc _ ++ (enc _ ++ runsL _)) ++ rest = _
      simp only [List.append_assoc]
    rw [e1] at h0
    have h3 := rdK_next h0 (RCnt_app (l[k].1).toNat _ m (by omega) (by omega)) (RCnt_app (l[k].2).toNat _ 128 (by omega) (by omega))
    rw [h3, List.take_succ_eq_append_getElem (by omega)]
    congr 3
    rw [Int.toNat_of_nonneg x0, Int.toNat_of_nonneg x2]
theorem rL_all (m : Int) (l : Lab) (z : Nat) (hm : m ≤ 1000000) (hl : (1 ≤ l.id ∧ l.id ≤ 1099511627776 ∧ 0 ≤ l.unit ∧ l.unit ≤ 1099511627776) ∧ (l.name.size ≤ 31 ∧ l.note.size ≤ 400) ∧ (1 ≤ l.ext.length ∧ l.ext.length ≤ 16) ∧ jnB l = true)
    (h : ∀ x ∈ l.ext, 0 ≤ x.1 ∧ x.1 ≤ m ∧ 0 ≤ x.2 ∧ x.2 ≤ 128) (s : ByteArray) (hs : s = ⟨(allL l z).toArray⟩) : rL m s = l ∧ rE m s = 0 := by
  obtain ⟨⟨a1, a2, a3, a4⟩, ⟨a5, a6⟩, ⟨a7, a8⟩, _⟩ := hl
  obtain ⟨id, unit, name, note, ext⟩ := l
  simp only at *
  have n1 : name.data.toList.length = name.size := Array.length_toList
  have n2 : note.data.toList.length = note.size := Array.length_toList
  unfold allL at hs
  simp only at hs
  have q1 := (congrArg rI hs).trans (RCnt_app id.toNat _ 1099511627776 (by omega) (by omega))
  have q2 : rU s = RCnt (rI s).2.1 (rI s).2.2 1099511627776 := rfl
  rw [q1] at q2
  have q2 := q2.trans (RCnt_app unit.toNat _ 1099511627776 (by omega) (by omega))
  rw [← n1, ← n2] at q2
  have q3 : rN s = RTxt (rU s).2.1 (rU s).2.2 31 := rfl
  rw [q2] at q3
  have q3 := q3.trans (RTxt_app _ _ 31 (by omega) (by omega))
  have q4 : rT s = RTxt (rN s).2.1 (rN s).2.2 400 := rfl
  rw [q3] at q4
  have q4 := q4.trans (RTxt_app _ _ 400 (by omega) (by omega))
  have q5 : rC s = RCnt (rT s).2.1 (rT s).2.2 16 := rfl
  rw [q4] at q5
  have q5 := q5.trans (RCnt_app ext.length _ 16 (by omega) (by omega))
  have q6 := rdK_runs m ext (List.replicate z 0) hm h ext.length (Nat.le_refl _)
  rw [List.take_length] at q6
  refine ⟨?_, ?_⟩
  · unfold rL
    rw [q1, q2, q3, q4, q5]
    simp only [q6, data_eq]
    rw [Int.toNat_of_nonneg (by omega), Int.toNat_of_nonneg a3]
  · unfold rE
    rw [q5]
    simp only [q6]
theorem trip (m : Int) (l : Lab) (t : Int) (h : validL l t = true) (m0 : 127 ≤ m) (m1 : m ≤ 1000000) : rL m (encS l t) = l ∧ rE m (encS l t) = 0 := by
  have hf := valid_facts l t h
  obtain ⟨h1, h2, h3, h4⟩ := hf
  have ht := okT_true (show okT t = true from by unfold validL at h; revert h; cases okT t <;> simp)
  have hi : inB l t = true := by unfold validL at h; revert h; cases inB l t <;> simp
  have hb := jn_bd l h4
  have hr := rok_of l t h4 hi
  refine rL_all m l (1024 - (bodyE l ++ runsE l.ext).size) m1 ⟨h1, h2, h3, h4⟩ (fun x hx => ?_) _ (by rw [encS_valid l t h, ← pad_data, data_eq])
  obtain ⟨b0, b1, b2⟩ := hb x hx
  obtain ⟨r0, r1, r2, r3⟩ := hr x hx
  exact ⟨b0, by omega, b1, by omega⟩
/-- A valid label is read again from its slot. -/
theorem dec_enc_lab (l : Lab) (t : Int) (h : validL l t = true) (hs : (encS l t).size = 1024) : decP (encS l t) t = (l, 0) := by
  have ht : okT t = true := by unfold validL at h; revert h; cases okT t <;> simp
  have hr := (trip 128 l t h (by omega) (by omega)).1
  have hz : encS l t ≠ padS 1024 ⟨#[]⟩ := by
    intro e
    have h1 := congrArg (fun s => (rI s).1) e
    have h2 : (rI (padS 1024 ⟨#[]⟩)).1 = 0 := by
      have := RCnt_app 0 (List.replicate 1023 0) 1099511627776 (by omega) (by omega)
      unfold rI
      have e2 : padS 1024 ⟨#[]⟩ = ⟨(enc 0 ++ List.replicate 1023 0).toArray⟩ := by
        apply bytes_eq
        have e4 : (padS 1024 ⟨#[]⟩).data.toList = List.replicate 1024 0 := by
          unfold padS zeros
          simp only [ByteArray.data_append, Array.toList_append, Array.toList_replicate]
          rfl
        rw [e4]
        have e3 : enc 0 = [0] := by decide
        rw [e3]
        exact List.replicate_succ (n := 1023)
      rw [e2, this]
    simp only [h2] at h1
    have h3 : ((rI (encS l t)).1 : Int) = l.id := congrArg Lab.id hr
    have h4 := (valid_facts l t h).1.1
    omega
  unfold decP
  rw [if_neg (by rw [ht, hs]; simp), if_neg hz, hr, if_pos ⟨h, rfl⟩]
/-- What is accepted is what Encode returns. -/
theorem dec_strict_lab (s : ByteArray) (t : Int) : ((decP s t).2 = 0 ∧ encS (decP s t).1 t = s) ∨ (decP s t = (labZ, 11)) := by
  unfold decP
  by_cases h0 : okT t = false ∨ s.size ≠ 1024
  · rw [if_pos h0]; exact .inr rfl
  · rw [if_neg h0]
    have ht : okT t = true := by cases h : okT t with | true => rfl | false => exact absurd (.inl h) h0
    by_cases hz : s = padS 1024 ⟨#[]⟩
    · rw [if_pos hz]
      left
      refine ⟨rfl, ?_⟩
      unfold encS
      rw [if_pos ⟨ht, (eqL_iff _ _).2 rfl⟩, hz]
    · rw [if_neg hz]
      by_cases hp : validL (rL 128 s) t = true ∧ encS (rL 128 s) t = s
      · rw [if_pos hp]; exact .inl ⟨rfl, hp.2⟩
      · rw [if_neg hp]; exact .inr rfl
theorem encS_size (l : Lab) (t : Int) (h : validL l t = true) : (encS l t).size = 1024 := by
  obtain ⟨⟨v1, v2, v3, v4⟩, ⟨v5, v6⟩, ⟨v7, v8⟩, _⟩ := valid_facts l t h
  rw [encS_valid l t h]
  refine padS_size _ _ ?_
  have h1 := bodyE_size l v5 v6
  have h2 := runsE_size l.ext
  rw [ByteArray.size_append]
  omega
end Go.Proofs.Ytnlaogneceanoaa
namespace Go.Proofs.Ytnlaogneceanoaa
set_option linter.unusedVariables false
set_option linter.unusedSimpArgs false
set_option linter.unusedSectionVars false
open Go.RowKit
attribute [local go_sem ↓] Go.wp_at_zero Go.wp_at_succ
def hdN (s : ByteArray) := RTxt s 0 8
def hdT (s : ByteArray) := RCnt (hdN s).2.1 (hdN s).2.2 128
def hdE (s : ByteArray) := headS (hdN s).1 ((hdT s).1 : Int)
def headP (s : ByteArray) : ByteArray × Int × Int := if hdE s = ⟨#[]⟩ ∨ hdE s ≠ s then (⟨#[]⟩, 0, 11) else ((hdN s).1, ((hdT s).1 : Int), 0)
theorem headS_facts (s : ByteArray) (t : Int) (h : headS s t ≠ ⟨#[]⟩) : nameOk s = true ∧ okT t = true ∧ (headS s t).size = 1024 := by
  unfold headS at h ⊢
  split at h
  · rename_i hc
    rw [if_pos hc]
    refine ⟨hc.1, hc.2, padS_size _ _ ?_⟩
    have hp : NameP s := of_decide_eq_true hc.1
    have := hp.2.1
    have z1 := eB_size s.size
    have z2 := eB_size t.toNat
    rw [ByteArray.size_append, ByteArray.size_append]
    omega
  · exact absurd rfl h
theorem head_strict (s : ByteArray) : headP s = (⟨#[]⟩, 0, 11) ∨ ∃ n t, headP s = (n, t, 0) ∧ headS n t = s ∧ nameOk n = true ∧ okT t = true ∧ n.size ≤ 8 ∧ 0 ≤ t ∧ t ≤ 128 := by
  unfold headP
  split
  · exact .inl rfl
  · rename_i h
    obtain ⟨h0, h1⟩ := not_or.1 h
    have h1 := Decidable.not_not.1 h1
    obtain ⟨a1, a2, a3⟩ := headS_facts _ _ h0
    have hp : NameP (hdN s).1 := of_decide_eq_true a1
    have := okT_true a2
    exact .inr ⟨_, _, rfl, h1, a1, a2, hp.2.1, by omega, by omega⟩
def HdR (w : World) (d : ByteArray × Int × Int) (e : Ending) (w' : World) : Prop := e = .returned (.tuple #[.string d.1, .int .i64 d.2.1, .int .i64 d.2.2]) ∧ Grew w w'
theorem hdErr (w w' : World) (h : Grew w w') : HdR w (⟨#[]⟩, 0, 11) (.returned (.tuple #[.string ⟨#[]⟩, .int .i64 0, .int .i64 11])) w' := ⟨rfl, h⟩
set_option maxRecDepth 100000 in
set_option maxHeartbeats 2000000 in
theorem decHead_any (s : ByteArray) (w : World) (hs : s.size ≤ 9223372036854775807) :
    Calls Try.prog 59 #[.string s] w (HdR w (headP s)) := by
  go_enter Try.func59, Try.ntmps59
  go_wp2_with fail
  refine (newReader_any s _).mono ?_
  rintro e w3 ⟨g, rfl, hgg, hG, hr3⟩
  have HP0 := Lib.hid (show headP s = if hdE s = ⟨#[]⟩ ∨ hdE s ≠ s then (⟨#[]⟩, 0, 11) else ((hdN s).1, ((hdT s).1 : Int), 0) from rfl)
  unfold hdE hdT hdN at HP0
  obtain ⟨⟨n1, s1, e1⟩, hX1⟩ : ∃ X, RTxt s 0 8 = X := ⟨_, rfl⟩
  rw [hX1] at HP0
  have HX1 := Lib.hid hX1
  have zz := RTxt_size s 0 8
  rw [hX1] at zz
  have zs1 : s1.size ≤ 9223372036854775807 := Nat.le_trans zz hs
  have C := rtext_any g s 0 8 w3 hr3 hs (by omega) (by omega)
  rw [hX1] at C
  have bn1 := RTxt_sz s 0 8
  rw [hX1] at bn1
  have bn1 : n1.size ≤ 9223372036854775807 := Nat.le_trans bn1 hs
  clear hX1 zz
  go_wp2_with fail
  refine C.mono ?_
  rintro e w4 ⟨rfl, t1, hr1⟩
  replace hG := hG.turn t1 (fun _ hk => by omega)
  clear C t1 hr3
  try simp only at HP0
  obtain ⟨⟨t2, s2, e2⟩, hX2⟩ : ∃ X, RCnt s1 e1 128 = X := ⟨_, rfl⟩
  rw [hX2] at HP0
  have C := rcount_any g s1 e1 128 w4 hr1 zs1 (by omega) (by omega)
  rw [hX2] at C
  have bt := RCnt_bd s1 e1 128 (by omega)
  rw [hX2] at bt
  have bt : (t2 : Int) ≤ 128 := bt
  clear hX2
  go_wp2_with fail
  refine C.mono ?_
  rintro e w5 ⟨rfl, t5, hr2⟩
  replace hG := hG.turn t5 (fun _ hk => by omega)
  clear C t5 hr1
  try simp only at HP0
  obtain ⟨E, hE⟩ : ∃ E, headS n1 (t2 : Int) = E := ⟨_, rfl⟩
  rw [hE] at HP0
  have C := encHead_any n1 (t2 : Int) w5 bn1
  rw [hE] at C
  clear hE
  by_cases h0 : E = ⟨#[]⟩
  · subst h0
    have HE := Lib.hid (show headP s = (⟨#[]⟩, 0, 11) from by rw [HP0.out, if_pos (.inl rfl)])
    clear HP0
    go_wp2_with fail
    refine C.mono ?_
    rintro e w6 ⟨rfl, g6⟩
    go_wp2_with fail
    refine bodyPost_ret (by first | (simp [*, results, Try.results59, go_sem]; rfl) | simp [*, results, Try.results59, go_sem]) rfl ?_
    rw [HE.out]
    exact hdErr _ _ (hG.trans g6)
  have hne0 := str_ne h0
  have hne1 : (E.toList == []) = false := by have := hne0; simpa using this
  by_cases h1 : E = s
  · have HE := Lib.hid (show headP s = (n1, (t2 : Int), 0) from by rw [HP0.out, if_neg (fun h => h.elim h0 (fun h => h h1))])
    clear HP0 h0
    subst h1
    go_wp2_with fail
    refine C.mono ?_
    rintro e w6 ⟨rfl, g6⟩
    go_wp2_with fail
    refine bodyPost_ret (by first | (simp [*, results, Try.results59, go_sem]; rfl) | simp [*, results, Try.results59, go_sem]) rfl ?_
    rw [HE.out]
    exact ⟨rfl, hG.trans g6⟩
  · have hne2 := str_ne h1
    have hne3 : (E.toList != s.toList) = true := by rw [bne, hne2]; rfl
    have HE := Lib.hid (show headP s = (⟨#[]⟩, 0, 11) from by rw [HP0.out, if_pos (.inr h1)])
    clear HP0 h0 h1
    go_wp2_with fail
    refine C.mono ?_
    rintro e w6 ⟨rfl, g6⟩
    go_wp2_with fail
    refine bodyPost_ret (by first | (simp [*, results, Try.results59, go_sem]; rfl) | simp [*, results, Try.results59, go_sem]) rfl ?_
    rw [HE.out]
    exact hdErr _ _ (hG.trans g6)
end Go.Proofs.Ytnlaogneceanoaa
namespace Go.Proofs.Ytnlaogneceanoaa
set_option linter.unusedVariables false
set_option linter.unusedSimpArgs false
set_option linter.unusedSectionVars false
open Go.RowKit
def bestStep (n : Int) (b r : Nat × Nat) : Nat × Nat := if n ≤ (r.2 : Int) ∧ (b.2 = 0 ∨ r.2 < b.2) then r else b
def bestF (n : Int) (l : List (Nat × Nat)) : Nat × Nat := l.foldl (bestStep n) (0, 0)
theorem bestF_snoc (n : Int) (l : List (Nat × Nat)) (k : Nat) (h : k < l.length) : bestF n (l.take (k + 1)) = bestStep n (bestF n (l.take k)) l[k] := by
  unfold bestF; rw [List.take_succ_eq_append_getElem h, List.foldl_append]; rfl
theorem fold_inv {n : Int} (P : Nat × Nat → Prop) : ∀ (l : List (Nat × Nat)) (b : Nat × Nat), P b → (∀ r ∈ l, n ≤ (r.2 : Int) → P r) → P (l.foldl (bestStep n) b) := by
  intro l
  induction l with
  | nil => intro b hb _; exact hb
  | cons r l ih =>
    intro b hb h
    refine ih _ ?_ (fun x hx => h x (List.mem_cons_of_mem _ hx))
    unfold bestStep
    split
    · rename_i hc; exact h r (List.mem_cons_self ..) hc.1
    · exact hb
theorem bestF_inv {n : Int} (P : Nat × Nat → Prop) (l : List (Nat × Nat)) (h0 : P (0, 0)) (h : ∀ r ∈ l, n ≤ (r.2 : Int) → P r) : P (bestF n l) := fold_inv P l _ h0 h
theorem bestF_bd (n : Int) (l : List (Nat × Nat)) (m : Nat) (h : ∀ r ∈ l, r.1 + r.2 ≤ m) : (bestF n l).1 + (bestF n l).2 ≤ m :=
  bestF_inv (fun b => b.1 + b.2 ≤ m) l (Nat.zero_le _) (fun r hr _ => h r hr)
theorem bestF_mem (n : Int) (l : List (Nat × Nat)) : bestF n l = (0, 0) ∨ bestF n l ∈ l ∧ n ≤ ((bestF n l).2 : Int) :=
  bestF_inv (fun b => b = (0, 0) ∨ b ∈ l ∧ n ≤ (b.2 : Int)) l (.inl rfl) (fun r hr h => .inr ⟨hr, h⟩)
/-- The first tracks of the best run of a set. -/
def bestS (S : Nat → Bool) (n : Int) : (Int × Int) × Bool :=
  if n < 1 ∨ (bestF n (normS S)).2 = 0 then ((0, 0), false) else ((((bestF n (normS S)).1 : Int), n), true)
def cntL (l : List (Nat × Nat)) : Nat := (l.map (·.2)).sum
theorem cntL_append (a b : List (Nat × Nat)) : cntL (a ++ b) = cntL a + cntL b := by simp [cntL]
theorem cntL_one (x : Nat × Nat) : cntL [x] = x.2 := by simp [cntL]
theorem cntL_snoc (l : List (Nat × Nat)) (k : Nat) (h : k < l.length) : cntL (l.take (k + 1)) = cntL (l.take k) + l[k].2 := by
  rw [List.take_succ_eq_append_getElem h, cntL_append, cntL_one]
/-- What is taken from runs, one behind the other. -/
def takeR : List (Nat × Nat) → Nat → List (Nat × Nat)
  | [], _ => []
  | r :: l, n => if n = 0 then [] else (r.1, min r.2 n) :: takeR l (n - min r.2 n)
theorem takeR_end (x : Nat × Nat) : ∀ (l : List (Nat × Nat)) (n : Nat), takeR (l ++ [x]) n = takeR l n ++ (if n - cntL l = 0 then [] else [(x.1, min x.2 (n - cntL l))]) := by
  intro l
  induction l with
  | nil => intro n; show takeR [x] n = _; unfold takeR; by_cases h : n = 0 <;> simp [h, cntL, takeR]
  | cons r l ih =>
    intro n
    have e : cntL (r :: l) = r.2 + cntL l := by simp [cntL]
    show takeR (r :: (l ++ [x])) n = takeR (r :: l) n ++ _
    rw [takeR, takeR]
    by_cases h : n = 0
    · rw [if_pos h, if_pos h, if_pos (by omega)]; rfl
    · rw [if_neg h, if_neg h, ih, e, show n - min r.2 n - cntL l = n - (r.2 + cntL l) from by omega]; rfl
theorem takeR_snoc (l : List (Nat × Nat)) (k n : Nat) (h : k < l.length) : takeR (l.take (k + 1)) n = takeR (l.take k) n ++ (if n - cntL (l.take k) = 0 then [] else [(l[k].1, min l[k].2 (n - cntL (l.take k)))]) := by
  rw [List.take_succ_eq_append_getElem h, takeR_end]
theorem takeR_stop (b : List (Nat × Nat)) : ∀ (a : List (Nat × Nat)) (n : Nat), n - cntL a = 0 → takeR (a ++ b) n = takeR a n := by
  intro a
  induction a with
  | nil =>
    intro n h
    have hn : n = 0 := by simpa [cntL] using h
    subst hn
    cases b <;> simp [takeR]
  | cons r l ih =>
    intro n h
    have e : cntL (r :: l) = r.2 + cntL l := by simp [cntL]
    show takeR (r :: (l ++ b)) n = takeR (r :: l) n
    rw [takeR, takeR]
    by_cases h0 : n = 0
    · rw [if_pos h0, if_pos h0]
    · rw [if_neg h0, if_neg h0, ih _ (by omega)]
theorem takeR_bd (m : Nat) : ∀ (l : List (Nat × Nat)) (n : Nat), (∀ r ∈ l, r.1 + r.2 ≤ m) → ∀ r ∈ takeR l n, r.1 + r.2 ≤ m := by
  intro l
  induction l with
  | nil => intro n _ r hr; cases hr
  | cons x l ih =>
    intro n h r hr
    rw [takeR] at hr
    split at hr
    · cases hr
    · rcases List.mem_cons.1 hr with rfl | hr
      · have := h x (List.mem_cons_self ..); show x.1 + min x.2 n ≤ m; omega
      · exact ih _ (fun y hy => h y (List.mem_cons_of_mem _ hy)) r hr
theorem takeR_len : ∀ (l : List (Nat × Nat)) (n : Nat), (takeR l n).length ≤ l.length := by
  intro l
  induction l with
  | nil => intro n; exact Nat.zero_le _
  | cons x l ih =>
    intro n
    rw [takeR]
    split
    · exact Nat.zero_le _
    · rw [List.length_cons, List.length_cons]; have := ih (n - min x.2 n); omega
theorem normTo_asc (S : Nat → Bool) (k : Nat) : (normTo S k).Pairwise (fun a b => a.1 + a.2 < b.1) ∧ ∀ r ∈ normTo S k, 1 ≤ r.2 := by
  induction k with
  | zero => exact ⟨List.Pairwise.nil, fun r hr => by cases hr⟩
  | succ k ih =>
    show (stepN S (normTo S k) k).Pairwise _ ∧ ∀ r ∈ stepN S (normTo S k) k, _
    have hbd := normTo_bd S k
    unfold stepN
    split
    · exact ih
    · split
      · rename_i h1 h2
        rcases normTo_end S k with ⟨_, h⟩ | ⟨i, x, hx, _⟩
        · rw [h h2.1] at h2; cases h2.2
        · rw [hx] at ih ⊢
          have hb : bump (i ++ [x]) = i ++ [(x.1, x.2 + 1)] := by unfold bump; rw [last_getD, last_set]
          rw [hb]
          obtain ⟨ih1, ih2⟩ := ih
          rw [List.pairwise_append] at ih1 ⊢
          refine ⟨⟨ih1.1, List.pairwise_singleton _ _, fun a ha b hb => ?_⟩, fun r hr => ?_⟩
          · rw [List.mem_singleton.1 hb]; exact ih1.2.2 a ha x (List.mem_singleton.2 rfl)
          · rcases List.mem_append.1 hr with hr | hr
            · exact ih2 r (List.mem_append_left _ hr)
            · rw [List.mem_singleton.1 hr]; show 1 ≤ x.2 + 1; omega
      · rename_i h1 h2
        rcases normTo_end S k with ⟨h0, _⟩ | ⟨i, x, hx, hiff⟩
        · rw [h0]
          refine ⟨by rw [List.nil_append]; exact List.pairwise_singleton _ _, fun r hr => ?_⟩
          rw [List.nil_append] at hr
          rw [List.mem_singleton.1 hr]; exact Nat.le_refl _
        · rw [hx] at ih hbd ⊢
          obtain ⟨ih1, ih2⟩ := ih
          have hxb := hbd x (List.mem_append_right _ (List.mem_singleton.2 rfl))
          have hne : x.1 + x.2 ≠ k := fun e => h2 (hiff.1 e)
          refine ⟨List.pairwise_append.2 ⟨ih1, List.pairwise_singleton _ _, fun a ha b hb => ?_⟩, fun r hr => ?_⟩
          · rw [List.mem_singleton.1 hb]
            show a.1 + a.2 < k
            rcases List.mem_append.1 ha with ha | ha
            · have := (List.pairwise_append.1 ih1).2.2 a ha x (List.mem_singleton.2 rfl)
              omega
            · rw [List.mem_singleton.1 ha]; omega
          · rcases List.mem_append.1 hr with hr | hr
            · exact ih2 r hr
            · rw [List.mem_singleton.1 hr]; exact Nat.le_refl _
/-- The runs by decreasing size, and those of one size in their order. -/
def sortS (l : List (Nat × Nat)) : List (Nat × Nat) := (List.range 128).flatMap fun i => l.filter fun r => r.2 == 128 - i
theorem mem_sortS (l : List (Nat × Nat)) (h : ∀ r ∈ l, 1 ≤ r.2 ∧ r.2 ≤ 128) (r : Nat × Nat) : r ∈ sortS l ↔ r ∈ l := by
  unfold sortS
  rw [List.mem_flatMap]
  constructor
  · rintro ⟨i, _, hr⟩; exact (List.mem_filter.1 hr).1
  · intro hr
    have := h r hr
    exact ⟨128 - r.2, List.mem_range.2 (by omega), List.mem_filter.2 ⟨hr, by rw [beq_iff_eq]; omega⟩⟩
/-- Which run comes first. -/
def ltR (a b : Nat × Nat) : Prop := b.2 < a.2 ∨ a.2 = b.2 ∧ a.1 < b.1
theorem sortS_sorted (l : List (Nat × Nat)) (h : l.Pairwise (fun a b => a.1 < b.1)) : (sortS l).Pairwise ltR := by
  unfold sortS
  rw [List.flatMap_def, List.pairwise_flatten]
  refine ⟨fun x hx => ?_, ?_⟩
  · obtain ⟨i, _, rfl⟩ := List.mem_map.1 hx
    refine (List.Pairwise.imp_of_mem ?_ (h.filter _))
    intro a b ha hb hab
    have h1 := (List.mem_filter.1 ha).2
    have h2 := (List.mem_filter.1 hb).2
    rw [beq_iff_eq] at h1 h2
    exact .inr ⟨by omega, hab⟩
  · rw [List.pairwise_map]
    refine List.Pairwise.imp_of_mem ?_ (List.pairwise_lt_range (n := 128))
    intro i j hi hj hij a ha b hb
    have h1 := (List.mem_filter.1 ha).2
    have h2 := (List.mem_filter.1 hb).2
    rw [beq_iff_eq] at h1 h2
    have := List.mem_range.1 hi
    have := List.mem_range.1 hj
    exact .inl (by omega)
theorem ltR_asymm {a b : Nat × Nat} (h : ltR a b) (h' : ltR b a) : False := by
  unfold ltR at h h'; omega
theorem sorted_one : ∀ (a b : List (Nat × Nat)), a.Perm b → a.Pairwise ltR → b.Pairwise ltR → a = b := by
  intro a
  induction a with
  | nil => intro b hp _ _; exact hp.nil_eq
  | cons x a ih =>
    intro b hp ha hb
    cases b with
    | nil => exact absurd hp.length_eq (by simp)
    | cons y b =>
      have hxy : x = y := by
        have h1 : x ∈ y :: b := hp.subset (List.mem_cons_self ..)
        have h2 : y ∈ x :: a := hp.symm.subset (List.mem_cons_self ..)
        rcases List.mem_cons.1 h1 with h1 | h1
        · exact h1
        · rcases List.mem_cons.1 h2 with h2 | h2
          · exact h2.symm
          · exact (ltR_asymm ((List.pairwise_cons.1 ha).1 y h2) ((List.pairwise_cons.1 hb).1 x h1)).elim
      subst hxy
      rw [ih b ((List.perm_cons x).1 hp) (List.pairwise_cons.1 ha).2 (List.pairwise_cons.1 hb).2]
theorem nodup_asc {l : List (Nat × Nat)} (h : l.Pairwise (fun a b => a.1 < b.1)) : l.Nodup :=
  List.Pairwise.imp (fun hab e => by rw [e] at hab; omega) h
theorem sorted_nodup {l : List (Nat × Nat)} (h : l.Pairwise ltR) : l.Nodup :=
  List.Pairwise.imp (fun hab e => by rw [e] at hab; exact ltR_asymm hab hab) h
theorem sortS_perm (l : List (Nat × Nat)) (h : ∀ r ∈ l, 1 ≤ r.2 ∧ r.2 ≤ 128) (ha : l.Pairwise (fun a b => a.1 < b.1)) : l.Perm (sortS l) :=
  (List.perm_ext_iff_of_nodup (nodup_asc ha) (sorted_nodup (sortS_sorted l ha))).2 (fun r => (mem_sortS l h r).symm)
theorem normS_asc (S : Nat → Bool) : (normS S).Pairwise (fun a b => a.1 < b.1) :=
  List.Pairwise.imp (fun h => by omega) (normTo_asc S 128).1
theorem normS_cnt (S : Nat → Bool) : ∀ r ∈ normS S, 1 ≤ r.2 ∧ r.2 ≤ 128 := fun r hr => ⟨(normTo_asc S 128).2 r hr, by have := normS_bd S r hr; omega⟩
/-- A sorted order of the runs of a set is the one that is meant. -/
theorem sort_is (S : Nat → Bool) (d : List (Nat × Nat)) (hp : d.Perm (normS S)) (hs : ∀ i j (hi : i < d.length) (hj : j < d.length), i < j → ¬ ltR d[j] d[i]) : d = sortS (normS S) := by
  refine sorted_one _ _ (hp.trans (sortS_perm _ (normS_cnt S) (normS_asc S))) ?_ (sortS_sorted _ (normS_asc S))
  have hn : d.Nodup := (hp.nodup_iff).2 (nodup_asc (normS_asc S))
  have hd : d.Pairwise (fun a b => a.1 ≠ b.1) := by
    have h1 : (normS S).Pairwise (fun a b => a.1 ≠ b.1) := List.Pairwise.imp (fun h => by omega) (normS_asc S)
    exact (hp.pairwise_iff (fun {a b} h e => h e.symm)).2 h1
  rw [List.pairwise_iff_getElem] at hd ⊢
  intro i j hi hj hij
  have h1 := hd i j hi hj hij
  have h2 := hs i j hi hj hij
  unfold ltR at h2 ⊢
  omega
end Go.Proofs.Ytnlaogneceanoaa
