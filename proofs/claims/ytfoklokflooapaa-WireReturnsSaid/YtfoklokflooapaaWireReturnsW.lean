/- WireReturns' walk. -/
import Derived.Test.YtfoklokflooapaaWireVals
import Derived.Test.YtfoklokflooapaaWireLimitsW
import Derived.Deep.LoopGhost
import Derived.Deep.RegionHeld3
import Derived.Deep.RegionWith
namespace Go.Proofs.Ytfoklokflooapaa
open Go.RowKit
def encV (v : Val) : List UInt8 := if v.kd % 4 = 0 then enc v.n else if v.kd % 4 = 1 then enc (zig v.i) else if v.kd % 4 = 2 then [if v.b then 1 else 0] else enc v.t.size ++ v.t.data.toList
def encL (l : List Val) : List UInt8 := l.flatMap encV
theorem encL_take (l : List Val) (k : Nat) (h : k < l.length) : encL (l.take (k + 1)) = encL (l.take k) ++ encV l[k] := by
  unfold encL
  rw [List.take_succ_eq_append_getElem h, List.flatMap_append]
  simp only [List.flatMap_cons, List.flatMap_nil, List.append_nil]
theorem encL_drop (l : List Val) (k : Nat) (h : k < l.length) : encL (l.drop k) = encV l[k] ++ encL (l.drop (k + 1)) := by
  unfold encL
  rw [List.drop_eq_getElem_cons h]
  simp only [List.flatMap_cons]
theorem encV_len (v : Val) (h : v.t.size ≤ 200) : (encV v).length ≤ 210 := by
  have h1 := enc_len v.n
  have h2 := enc_len (zig v.i)
  have h3 := enc_len v.t.size
  have h4 : v.t.data.toList.length = v.t.size := Array.length_toList
  unfold encV
  repeat' split
  all_goals first | omega | (show _ ≤ 210; decide) | (rw [List.length_append]; omega)
theorem encL_len (l : List Val) (h : ∀ v ∈ l, v.t.size ≤ 200) : (encL l).length ≤ 210 * l.length := by
  induction l with
  | nil => simp [encL]
  | cons v l ih =>
    have h1 := encV_len v (h v (by simp))
    have h2 := ih (fun x hx => h x (List.mem_cons_of_mem _ hx))
    simp [encL] at h2 ⊢
    omega
theorem cat3 (a b : List UInt8) (t : ByteArray) : (⟨a.toArray⟩ : ByteArray) ++ ⟨b.toArray⟩ ++ t = ⟨(a ++ (b ++ t.data.toList)).toArray⟩ := by
  apply ByteArray.ext; simp
section
variable (g : Nat)
theorem num_val (n : Nat) (rest : List UInt8) (w : World) (hn : n < 18446744073709551616) (h : Rd w g ⟨(enc n ++ rest).toArray⟩ 0) (hr : rest.length ≤ 1000000) :
    Calls Try.prog 25 #[.pointer (some ⟨g, 0, none⟩)] w fun e w' => e = .returned (.int .u64 n) ∧ Turned (· = g) w w' ∧ Rd w' g ⟨rest.toArray⟩ 0 := by
  have hl := enc_len n
  have := rnumber_any g _ 0 w h (by show (enc n ++ rest).toArray.size ≤ _; simp; omega)
  rw [RNum_app n rest hn] at this
  exact this
theorem int_val (i : Int) (rest : List UInt8) (w : World) (h0 : -9223372036854775808 ≤ i) (h1 : i ≤ 9223372036854775807) (h : Rd w g ⟨(enc (zig i) ++ rest).toArray⟩ 0) (hr : rest.length ≤ 1000000) :
    Calls Try.prog 27 #[.pointer (some ⟨g, 0, none⟩)] w fun e w' => e = .returned (.int .i64 i) ∧ Turned (· = g) w w' ∧ Rd w' g ⟨rest.toArray⟩ 0 := by
  have hl := enc_len (zig i)
  have := rint_any g _ 0 w h (by show (enc (zig i) ++ rest).toArray.size ≤ _; simp; omega)
  rw [RNum_app _ rest (zig_lt i h0 h1)] at this
  rw [unzig_zig] at this
  exact this
theorem bool_val (b : Bool) (rest : List UInt8) (w : World) (h : Rd w g ⟨([if b then 1 else 0] ++ rest).toArray⟩ 0) (hr : rest.length ≤ 1000000) :
    Calls Try.prog 29 #[.pointer (some ⟨g, 0, none⟩)] w fun e w' => e = .returned (.bool b) ∧ Turned (· = g) w w' ∧ Rd w' g ⟨rest.toArray⟩ 0 := by
  have := rbool_any g _ 0 w h (by show ([if b then 1 else 0] ++ rest : List UInt8).toArray.size ≤ _; simp; omega)
  rw [List.singleton_append, RBool_app b rest] at this
  exact this
theorem text_val2 (t : ByteArray) (rest : List UInt8) (w : World) (h : Rd w g ⟨(enc t.size ++ t.data.toList ++ rest).toArray⟩ 0) (hr : rest.length ≤ 1000000) (ht : t.size ≤ 1000000) :
    Calls Try.prog 22 #[.pointer (some ⟨g, 0, none⟩), .int .i64 t.size] w fun e w' => e = .returned (.string t) ∧ Turned (· = g) w w' ∧ Rd w' g ⟨rest.toArray⟩ 0 := by
  have hl := enc_len t.size
  have ht2 : t.data.toList.length = t.size := Array.length_toList
  have := rtext_any g _ 0 t.size w h (by show (enc t.size ++ t.data.toList ++ rest).toArray.size ≤ _; simp; omega) (by omega) (by omega)
  have hx := RTxt_app t.data.toList rest t.size (by omega) (by omega)
  rw [ht2] at hx
  rw [List.append_assoc, hx, data_eq] at this
  exact this
end
set_option maxRecDepth 100000 in
set_option maxHeartbeats 8000000 in
theorem returns_core (A : Option Addr) (c : Nat) (l : List Val) (w : World) (hv : ValsAt w w.heap.size A l) (hl : l.length ≤ 30) (hf : fewB l = true) (hsz : ∀ v ∈ l, v.t.size ≤ 200) :
    Calls Try.prog 9 #[.slice A l.length c] w fun e w' => e = .returned (.bool true) ∧ Grew w w' := by
  have HV := Lib.hid hv
  have HSZ := Lib.hid hsz
  have HF := Lib.hid hf
  clear hv hsz hf
  go_enter Try.func9, Try.ntmps9
  go_wp2_with fail
  refine (awake_any w).mono ?_
  rintro e w1 ⟨rfl, g1⟩
  go_wp2_with fail
  refine (few_any A c l w1 _ (HV.out.keep (Nat.le_refl _) g1) (by omega)).mono ?_
  rintro e w2 ⟨rfl, rfl⟩
  rw [HF.out]
  go_wp2_with fail
  go_loopg [3, 20] l.length (fun gk s i wr => ∃ k : Nat, k ≤ l.length ∧ gk = l.length - k ∧ s = .string ⟨(encL (l.take k)).toArray⟩ ∧ i = .int .i64 k ∧ Grew w wr)
  case atStart => exact ⟨0, by omega, by omega, rfl, rfl, g1⟩
  case round =>
    obtain ⟨k, hk, hgk, rfl, rfl, hgr⟩ := hrel
    have HGK := Lib.hid hgk
    clear hgk g1
    have hel := encL_len (l.take k) (fun v hv => HSZ.out v (List.mem_of_mem_take hv))
    have hel2 : (l.take k).length ≤ 30 := Nat.le_trans (List.length_take_le _ _) (by omega)
    have HS := Lib.hid (show (⟨(encL (l.take k)).toArray⟩ : ByteArray).size = (encL (l.take k)).length from (by show (encL (l.take k)).toArray.size = _; simp))
    by_cases hlt : k < l.length
    · obtain ⟨b, off, kd, n, i, bb, t, rfl, hb, hlk, hok, c0, c1, c2, c3, c4⟩ := (HV.out.keep (Nat.le_refl _) hgr).at_ hlt
      have hts : t.size ≤ 200 := by have := HSZ.out l[k] (List.getElem_mem hlt); rw [hlk] at this; exact this
      have HL := Lib.hid hlk
      obtain ⟨o1, o2, o3, o4, o5⟩ := hok
      simp only at o1 o2 o3 o4 o5
      clear hlk
      have hbs : b < wr.heap.size := Nat.lt_of_lt_of_le hb hgr.size
      have hk4 : kd % 4 = 0 ∨ kd % 4 = 1 ∨ kd % 4 = 2 ∨ kd % 4 = 3 := by omega
      rcases hk4 with h4 | h4 | h4 | h4
      · have hV : encV ⟨kd, n, i, bb, t⟩ = enc n := by simp [encV, h4]
        have HT := Lib.hid (show encL (l.take (k + 1)) = encL (l.take k) ++ (enc n) by rw [encL_take l k hlt, HL.out, hV])
        have e0 : ((kd : Int) % 4 == 0) = true := by first | exact beq_iff_eq.2 (by omega) | exact beq_eq_false_iff_ne.2 (by omega)
        clear h4 hV
        go_wp2_with fail
        refine (appendNumber_any ⟨(encL (l.take k)).toArray⟩ n _ o2 (by rw [HS.out]; omega)).mono ?_
        rintro e w5 ⟨rfl, g5⟩
        go_wp2_with fail
        go_roundg (l.length - (k + 1))
        case measure => rw [HGK.out]; omega
        case rel => exact ⟨k + 1, by omega, by omega, by rw [HT.out]; exact congrArg Value.string (ByteArray.mk_append_mk _ _), by go_num, by (repeat' first | (with_reducible exact Grew.refl _) | (with_reducible assumption) | (with_reducible refine Grew.alloc ?_ _) | (with_reducible refine Grew.drew ?_) | (with_reducible refine Grew.drewN ?_ _) | (with_reducible refine Grew.setCell ?_ (by first | (simp; done) | (simp; omega) | omega) _) | (with_reducible apply Grew.trans; rotate_left; with_reducible assumption) | (with_reducible apply Grew.turn; rotate_left; with_reducible assumption; (intro i hi; first | omega | (simp at hi; omega))) | fail)⟩
      · have hV : encV ⟨kd, n, i, bb, t⟩ = enc (zig i) := by simp [encV, h4]
        have HT := Lib.hid (show encL (l.take (k + 1)) = encL (l.take k) ++ (enc (zig i)) by rw [encL_take l k hlt, HL.out, hV])
        have e0 : ((kd : Int) % 4 == 0) = false := by first | exact beq_iff_eq.2 (by omega) | exact beq_eq_false_iff_ne.2 (by omega)
        have e1 : ((kd : Int) % 4 == 1) = true := by first | exact beq_iff_eq.2 (by omega) | exact beq_eq_false_iff_ne.2 (by omega)
        clear h4 hV
        go_wp2_with fail
        refine (appendInt_any ⟨(encL (l.take k)).toArray⟩ i _ o3 o4 (by rw [HS.out]; omega)).mono ?_
        rintro e w5 ⟨rfl, g5⟩
        go_wp2_with fail
        go_roundg (l.length - (k + 1))
        case measure => rw [HGK.out]; omega
        case rel => exact ⟨k + 1, by omega, by omega, by rw [HT.out]; exact congrArg Value.string (ByteArray.mk_append_mk _ _), by go_num, by (repeat' first | (with_reducible exact Grew.refl _) | (with_reducible assumption) | (with_reducible refine Grew.alloc ?_ _) | (with_reducible refine Grew.drew ?_) | (with_reducible refine Grew.drewN ?_ _) | (with_reducible refine Grew.setCell ?_ (by first | (simp; done) | (simp; omega) | omega) _) | (with_reducible apply Grew.trans; rotate_left; with_reducible assumption) | (with_reducible apply Grew.turn; rotate_left; with_reducible assumption; (intro i hi; first | omega | (simp at hi; omega))) | fail)⟩
      · have hV : encV ⟨kd, n, i, bb, t⟩ = [if bb then 1 else 0] := by simp [encV, h4]
        have HT := Lib.hid (show encL (l.take (k + 1)) = encL (l.take k) ++ ([if bb then 1 else 0]) by rw [encL_take l k hlt, HL.out, hV])
        have e0 : ((kd : Int) % 4 == 0) = false := by first | exact beq_iff_eq.2 (by omega) | exact beq_eq_false_iff_ne.2 (by omega)
        have e1 : ((kd : Int) % 4 == 1) = false := by first | exact beq_iff_eq.2 (by omega) | exact beq_eq_false_iff_ne.2 (by omega)
        have e2 : ((kd : Int) % 4 == 2) = true := by first | exact beq_iff_eq.2 (by omega) | exact beq_eq_false_iff_ne.2 (by omega)
        clear h4 hV
        cases bb
        all_goals
          go_wp2_with fail
          refine (appendBool_any ⟨(encL (l.take k)).toArray⟩ _ _ (by rw [HS.out]; omega)).mono ?_
          rintro e w5 ⟨rfl, g5⟩
          go_wp2_with fail
          go_roundg (l.length - (k + 1))
          case measure => rw [HGK.out]; omega
          case rel => exact ⟨k + 1, by omega, by omega, by rw [HT.out]; exact congrArg Value.string (ByteArray.mk_append_mk _ _), by go_num, by (repeat' first | (with_reducible exact Grew.refl _) | (with_reducible assumption) | (with_reducible refine Grew.alloc ?_ _) | (with_reducible refine Grew.drew ?_) | (with_reducible refine Grew.drewN ?_ _) | (with_reducible refine Grew.setCell ?_ (by first | (simp; done) | (simp; omega) | omega) _) | (with_reducible apply Grew.trans; rotate_left; with_reducible assumption) | (with_reducible apply Grew.turn; rotate_left; with_reducible assumption; (intro i hi; first | omega | (simp at hi; omega))) | fail)⟩
      · have hV : encV ⟨kd, n, i, bb, t⟩ = enc t.size ++ t.data.toList := by simp [encV, h4]
        have HT := Lib.hid (show encL (l.take (k + 1)) = encL (l.take k) ++ (enc t.size ++ t.data.toList) by rw [encL_take l k hlt, HL.out, hV])
        have e0 : ((kd : Int) % 4 == 0) = false := by first | exact beq_iff_eq.2 (by omega) | exact beq_eq_false_iff_ne.2 (by omega)
        have e1 : ((kd : Int) % 4 == 1) = false := by first | exact beq_iff_eq.2 (by omega) | exact beq_eq_false_iff_ne.2 (by omega)
        have e2 : ((kd : Int) % 4 == 2) = false := by first | exact beq_iff_eq.2 (by omega) | exact beq_eq_false_iff_ne.2 (by omega)
        clear h4 hV
        go_wp2_with fail
        refine (appendText_any ⟨(encL (l.take k)).toArray⟩ t _ (by rw [HS.out]; omega) (by omega)).mono ?_
        rintro e w5 ⟨rfl, g5⟩
        go_wp2_with fail
        go_roundg (l.length - (k + 1))
        case measure => rw [HGK.out]; omega
        case rel => exact ⟨k + 1, by omega, by omega, by rw [HT.out]; exact congrArg Value.string (cat3 _ _ t), by go_num, by (repeat' first | (with_reducible exact Grew.refl _) | (with_reducible assumption) | (with_reducible refine Grew.alloc ?_ _) | (with_reducible refine Grew.drew ?_) | (with_reducible refine Grew.drewN ?_ _) | (with_reducible refine Grew.setCell ?_ (by first | (simp; done) | (simp; omega) | omega) _) | (with_reducible apply Grew.trans; rotate_left; with_reducible assumption) | (with_reducible apply Grew.turn; rotate_left; with_reducible assumption; (intro i hi; first | omega | (simp at hi; omega))) | fail)⟩
    · obtain rfl : k = l.length := by omega
      clear hlt
      go_wp2_with fail
      refine (newReader_any _ _).mono ?_
      rintro e w3 ⟨g, rfl, hg, g3, hr⟩
      have hg3 : Grew w w3 := hgr.trans g3
      have hgw : w.heap.size ≤ g := Nat.le_trans hgr.size hg
      clear g3 hg hel hel2 HS
      go_wp2_with fail
      go_loopg [56] l.length (fun gk i wr => ∃ k : Nat, k ≤ l.length ∧ gk = l.length - k ∧ i = .int .i64 k ∧ Rd wr g ⟨(encL (l.drop k)).toArray⟩ 0 ∧ Grew w wr)
      case atStart => exact ⟨0, by omega, by omega, rfl, hr, hg3⟩
      case round =>
        clear hgr hr hg3 HGK
        obtain ⟨k, hk, hgk, rfl, hrd, hgr⟩ := hrel
        have HGK := Lib.hid hgk
        clear hgk
        by_cases hlt : k < l.length
        · obtain ⟨b, off, kd, n, i, bb, t, rfl, hb, hlk, hok, c0, c1, c2, c3, c4⟩ := (HV.out.keep (Nat.le_refl _) hgr).at_ hlt
          have hts : t.size ≤ 200 := by have := HSZ.out l[k] (List.getElem_mem hlt); rw [hlk] at this; exact this
          have HL := Lib.hid hlk
          obtain ⟨o1, o2, o3, o4, o5⟩ := hok
          simp only at o1 o2 o3 o4 o5
          clear hlk
          have hbs : b < wr.heap.size := Nat.lt_of_lt_of_le hb hgr.size
          have hel := encL_len (l.drop (k + 1)) (fun v hv => HSZ.out v (List.mem_of_mem_drop hv))
          have hel2 : (l.drop (k + 1)).length ≤ 30 := by rw [List.length_drop]; omega
          have hgl := hrd.lt
          have hk4 : kd % 4 = 0 ∨ kd % 4 = 1 ∨ kd % 4 = 2 ∨ kd % 4 = 3 := by omega
          rcases hk4 with h4 | h4 | h4 | h4
          · have hV : encV ⟨kd, n, i, bb, t⟩ = enc n := by simp [encV, h4]
            have HD := Lib.hid (show encL (l.drop k) = (enc n) ++ encL (l.drop (k + 1)) by rw [encL_drop l k hlt, HL.out, hV])
            have e0 : ((kd : Int) % 4 == 0) = true := by first | exact beq_iff_eq.2 (by omega) | exact beq_eq_false_iff_ne.2 (by omega)
            clear h4 hV
            go_wp2_with fail
            go_region_held3 (fun w' => w'.cell? ⟨wr.heap.size, 1, none⟩ = some (.int .u64 (n : Int))) (go_keep) (first | (go_at_call 25; refine (num_val g n (encL (l.drop (k + 1))) _ o2 ?_ (by omega)).mono ?_; (rw [HD.out] at hrd; unfold Rd at hrd ⊢; (apply Blk.conv; (· (repeat' first | (with_reducible assumption) | (with_reducible apply Blk.drew) | (with_reducible apply Blk.drewN) | (with_reducible apply Blk.set_) | (with_reducible exact Blk.new _ _ _ (by first | rfl | (simp; done) | (simp; omega))) | (with_reducible apply Blk.alloc) | (with_reducible apply Blk.far; rotate_left; (first | (simp; done) | (simp; omega) | omega)) | (with_reducible apply Blk.grew; rotate_left; with_reducible assumption) | (with_reducible apply Blk.turned; rotate_left; with_reducible assumption; (first | (simp; done) | (simp; omega) | omega)) | fail)); (· rfl))); rintro e w6 ⟨rfl, t6, hr6⟩; have k0 := t6.cellEq wr.heap.size 1 (by simp) (by omega)))
            go_wp2_with fail
            go_roundg (l.length - (k + 1))
            case measure => rw [HGK.out]; omega
            case rel => exact ⟨k + 1, by omega, by omega, by go_num, by unfold Rd at hr6 ⊢; (apply Blk.conv; (· (repeat' first | (with_reducible assumption) | (with_reducible apply Blk.drew) | (with_reducible apply Blk.drewN) | (with_reducible apply Blk.set_) | (with_reducible exact Blk.new _ _ _ (by first | rfl | (simp; done) | (simp; omega))) | (with_reducible apply Blk.alloc) | (with_reducible apply Blk.far; rotate_left; (first | (simp; done) | (simp; omega) | omega)) | (with_reducible apply Blk.grew; rotate_left; with_reducible assumption) | (with_reducible apply Blk.turned; rotate_left; with_reducible assumption; (first | (simp; done) | (simp; omega) | omega)) | fail)); (· rfl)), by (repeat' first | (with_reducible exact Grew.refl _) | (with_reducible assumption) | (with_reducible refine Grew.alloc ?_ _) | (with_reducible refine Grew.drew ?_) | (with_reducible refine Grew.drewN ?_ _) | (with_reducible refine Grew.setCell ?_ (by first | (simp; done) | (simp; omega) | omega) _) | (with_reducible apply Grew.trans; rotate_left; with_reducible assumption) | (with_reducible apply Grew.turn; rotate_left; with_reducible assumption; (intro i hi; first | omega | (simp at hi; omega))) | fail)⟩
          · have hV : encV ⟨kd, n, i, bb, t⟩ = enc (zig i) := by simp [encV, h4]
            have HD := Lib.hid (show encL (l.drop k) = (enc (zig i)) ++ encL (l.drop (k + 1)) by rw [encL_drop l k hlt, HL.out, hV])
            have e0 : ((kd : Int) % 4 == 0) = false := by first | exact beq_iff_eq.2 (by omega) | exact beq_eq_false_iff_ne.2 (by omega)
            have e1 : ((kd : Int) % 4 == 1) = true := by first | exact beq_iff_eq.2 (by omega) | exact beq_eq_false_iff_ne.2 (by omega)
            clear h4 hV
            go_wp2_with fail
            go_region_held3 (fun w' => w'.cell? ⟨wr.heap.size, 2, none⟩ = some (.int .i64 i)) (go_keep) (first | (go_at_call 27; refine (int_val g i (encL (l.drop (k + 1))) _ o3 o4 ?_ (by omega)).mono ?_; (rw [HD.out] at hrd; unfold Rd at hrd ⊢; (apply Blk.conv; (· (repeat' first | (with_reducible assumption) | (with_reducible apply Blk.drew) | (with_reducible apply Blk.drewN) | (with_reducible apply Blk.set_) | (with_reducible exact Blk.new _ _ _ (by first | rfl | (simp; done) | (simp; omega))) | (with_reducible apply Blk.alloc) | (with_reducible apply Blk.far; rotate_left; (first | (simp; done) | (simp; omega) | omega)) | (with_reducible apply Blk.grew; rotate_left; with_reducible assumption) | (with_reducible apply Blk.turned; rotate_left; with_reducible assumption; (first | (simp; done) | (simp; omega) | omega)) | fail)); (· rfl))); rintro e w6 ⟨rfl, t6, hr6⟩; have k0 := t6.cellEq wr.heap.size 2 (by simp) (by omega)))
            go_wp2_with fail
            go_roundg (l.length - (k + 1))
            case measure => rw [HGK.out]; omega
            case rel => exact ⟨k + 1, by omega, by omega, by go_num, by unfold Rd at hr6 ⊢; (apply Blk.conv; (· (repeat' first | (with_reducible assumption) | (with_reducible apply Blk.drew) | (with_reducible apply Blk.drewN) | (with_reducible apply Blk.set_) | (with_reducible exact Blk.new _ _ _ (by first | rfl | (simp; done) | (simp; omega))) | (with_reducible apply Blk.alloc) | (with_reducible apply Blk.far; rotate_left; (first | (simp; done) | (simp; omega) | omega)) | (with_reducible apply Blk.grew; rotate_left; with_reducible assumption) | (with_reducible apply Blk.turned; rotate_left; with_reducible assumption; (first | (simp; done) | (simp; omega) | omega)) | fail)); (· rfl)), by (repeat' first | (with_reducible exact Grew.refl _) | (with_reducible assumption) | (with_reducible refine Grew.alloc ?_ _) | (with_reducible refine Grew.drew ?_) | (with_reducible refine Grew.drewN ?_ _) | (with_reducible refine Grew.setCell ?_ (by first | (simp; done) | (simp; omega) | omega) _) | (with_reducible apply Grew.trans; rotate_left; with_reducible assumption) | (with_reducible apply Grew.turn; rotate_left; with_reducible assumption; (intro i hi; first | omega | (simp at hi; omega))) | fail)⟩
          · have hV : encV ⟨kd, n, i, bb, t⟩ = [if bb then 1 else 0] := by simp [encV, h4]
            have HD := Lib.hid (show encL (l.drop k) = ([if bb then 1 else 0]) ++ encL (l.drop (k + 1)) by rw [encL_drop l k hlt, HL.out, hV])
            have e0 : ((kd : Int) % 4 == 0) = false := by first | exact beq_iff_eq.2 (by omega) | exact beq_eq_false_iff_ne.2 (by omega)
            have e1 : ((kd : Int) % 4 == 1) = false := by first | exact beq_iff_eq.2 (by omega) | exact beq_eq_false_iff_ne.2 (by omega)
            have e2 : ((kd : Int) % 4 == 2) = true := by first | exact beq_iff_eq.2 (by omega) | exact beq_eq_false_iff_ne.2 (by omega)
            clear h4 hV
            go_wp2_with fail
            go_region_held3 (fun w' => w'.cell? ⟨wr.heap.size, 3, none⟩ = some (.bool bb)) (go_keep) (first | (go_at_call 29; refine (bool_val g bb (encL (l.drop (k + 1))) _ ?_ (by omega)).mono ?_; (rw [HD.out] at hrd; unfold Rd at hrd ⊢; (apply Blk.conv; (· (repeat' first | (with_reducible assumption) | (with_reducible apply Blk.drew) | (with_reducible apply Blk.drewN) | (with_reducible apply Blk.set_) | (with_reducible exact Blk.new _ _ _ (by first | rfl | (simp; done) | (simp; omega))) | (with_reducible apply Blk.alloc) | (with_reducible apply Blk.far; rotate_left; (first | (simp; done) | (simp; omega) | omega)) | (with_reducible apply Blk.grew; rotate_left; with_reducible assumption) | (with_reducible apply Blk.turned; rotate_left; with_reducible assumption; (first | (simp; done) | (simp; omega) | omega)) | fail)); (· rfl))); rintro e w6 ⟨rfl, t6, hr6⟩; have k0 := t6.cellEq wr.heap.size 3 (by simp) (by omega)))
            go_wp2_with fail
            go_roundg (l.length - (k + 1))
            case measure => rw [HGK.out]; omega
            case rel => exact ⟨k + 1, by omega, by omega, by go_num, by unfold Rd at hr6 ⊢; (apply Blk.conv; (· (repeat' first | (with_reducible assumption) | (with_reducible apply Blk.drew) | (with_reducible apply Blk.drewN) | (with_reducible apply Blk.set_) | (with_reducible exact Blk.new _ _ _ (by first | rfl | (simp; done) | (simp; omega))) | (with_reducible apply Blk.alloc) | (with_reducible apply Blk.far; rotate_left; (first | (simp; done) | (simp; omega) | omega)) | (with_reducible apply Blk.grew; rotate_left; with_reducible assumption) | (with_reducible apply Blk.turned; rotate_left; with_reducible assumption; (first | (simp; done) | (simp; omega) | omega)) | fail)); (· rfl)), by (repeat' first | (with_reducible exact Grew.refl _) | (with_reducible assumption) | (with_reducible refine Grew.alloc ?_ _) | (with_reducible refine Grew.drew ?_) | (with_reducible refine Grew.drewN ?_ _) | (with_reducible refine Grew.setCell ?_ (by first | (simp; done) | (simp; omega) | omega) _) | (with_reducible apply Grew.trans; rotate_left; with_reducible assumption) | (with_reducible apply Grew.turn; rotate_left; with_reducible assumption; (intro i hi; first | omega | (simp at hi; omega))) | fail)⟩
          · have hV : encV ⟨kd, n, i, bb, t⟩ = enc t.size ++ t.data.toList := by simp [encV, h4]
            have HD := Lib.hid (show encL (l.drop k) = (enc t.size ++ t.data.toList) ++ encL (l.drop (k + 1)) by rw [encL_drop l k hlt, HL.out, hV])
            have e0 : ((kd : Int) % 4 == 0) = false := by first | exact beq_iff_eq.2 (by omega) | exact beq_eq_false_iff_ne.2 (by omega)
            have e1 : ((kd : Int) % 4 == 1) = false := by first | exact beq_iff_eq.2 (by omega) | exact beq_eq_false_iff_ne.2 (by omega)
            have e2 : ((kd : Int) % 4 == 2) = false := by first | exact beq_iff_eq.2 (by omega) | exact beq_eq_false_iff_ne.2 (by omega)
            clear h4 hV
            go_wp2_with fail
            go_region_held3 (fun w' => w'.cell? ⟨wr.heap.size, 4, none⟩ = some (.string t)) (go_keep) (first | (go_at_call 22; refine (text_val2 g t (encL (l.drop (k + 1))) _ ?_ (by omega) (by omega)).mono ?_; (rw [HD.out] at hrd; unfold Rd at hrd ⊢; (apply Blk.conv; (· (repeat' first | (with_reducible assumption) | (with_reducible apply Blk.drew) | (with_reducible apply Blk.drewN) | (with_reducible apply Blk.set_) | (with_reducible exact Blk.new _ _ _ (by first | rfl | (simp; done) | (simp; omega))) | (with_reducible apply Blk.alloc) | (with_reducible apply Blk.far; rotate_left; (first | (simp; done) | (simp; omega) | omega)) | (with_reducible apply Blk.grew; rotate_left; with_reducible assumption) | (with_reducible apply Blk.turned; rotate_left; with_reducible assumption; (first | (simp; done) | (simp; omega) | omega)) | fail)); (· rfl))); rintro e w6 ⟨rfl, t6, hr6⟩; have k0 := t6.cellEq wr.heap.size 4 (by simp) (by omega)))
            go_wp2_with fail
            go_roundg (l.length - (k + 1))
            case measure => rw [HGK.out]; omega
            case rel => exact ⟨k + 1, by omega, by omega, by go_num, by unfold Rd at hr6 ⊢; (apply Blk.conv; (· (repeat' first | (with_reducible assumption) | (with_reducible apply Blk.drew) | (with_reducible apply Blk.drewN) | (with_reducible apply Blk.set_) | (with_reducible exact Blk.new _ _ _ (by first | rfl | (simp; done) | (simp; omega))) | (with_reducible apply Blk.alloc) | (with_reducible apply Blk.far; rotate_left; (first | (simp; done) | (simp; omega) | omega)) | (with_reducible apply Blk.grew; rotate_left; with_reducible assumption) | (with_reducible apply Blk.turned; rotate_left; with_reducible assumption; (first | (simp; done) | (simp; omega) | omega)) | fail)); (· rfl)), by (repeat' first | (with_reducible exact Grew.refl _) | (with_reducible assumption) | (with_reducible refine Grew.alloc ?_ _) | (with_reducible refine Grew.drew ?_) | (with_reducible refine Grew.drewN ?_ _) | (with_reducible refine Grew.setCell ?_ (by first | (simp; done) | (simp; omega) | omega) _) | (with_reducible apply Grew.trans; rotate_left; with_reducible assumption) | (with_reducible apply Grew.turn; rotate_left; with_reducible assumption; (intro i hi; first | omega | (simp at hi; omega))) | fail)⟩
        · have hdr : encL (l.drop k) = [] := by rw [List.drop_eq_nil_of_le (by omega)]; rfl
          rw [hdr] at hrd
          clear hdr
          go_wp2_with fail
          refine (end_val g 0 _ hrd).mono ?_
          rintro e w5 ⟨rfl, rfl⟩
          go_wp2_with fail
          refine (rleft_any g _ 0 _ hrd (by decide)).mono ?_
          rintro e w5 ⟨rfl, rfl⟩
          rw [show ((ByteArray.size ⟨([] : List UInt8).toArray⟩ : Nat) : Int) = 0 from rfl]
          go_wp2_with fail
          refine (rrest_any g _ 0 _ hrd).mono ?_
          rintro e w5 ⟨rfl, rfl⟩
          go_wp2_with fail
          go_ret
          exact ⟨rfl, hgr⟩
set_option maxRecDepth 100000 in
set_option maxHeartbeats 2000000 in
theorem returns_far (A : Option Addr) (c : Nat) (l : List Val) (w : World) (hv : ValsAt w w.heap.size A l) (hl : l.length ≤ 9223372036854775807) (hf : fewB l = false) :
    Calls Try.prog 9 #[.slice A l.length c] w fun e w' => e = .returned (.bool true) ∧ Grew w w' := by
  have HV := Lib.hid hv
  have HF := Lib.hid hf
  clear hv hf
  go_enter Try.func9, Try.ntmps9
  go_wp2_with fail
  refine (awake_any w).mono ?_
  rintro e w1 ⟨rfl, g1⟩
  go_wp2_with fail
  refine (few_any A c l w1 _ (HV.out.keep (Nat.le_refl _) g1) hl).mono ?_
  rintro e w2 ⟨rfl, rfl⟩
  rw [HF.out]
  go_wp2_with fail
  refine (awake_any w1).mono ?_
  rintro e w2 ⟨rfl, g2⟩
  go_wp2_with fail
  go_ret
  exact ⟨rfl, g1.trans g2⟩
theorem wireReturns_any (A : Option Addr) (c : Nat) (l : List Val) (w : World) (hl : l.length ≤ 9223372036854775807) (hv : ValsAt w w.heap.size A l) :
    Calls Try.prog 9 #[.slice A l.length c] w fun e w' => e = .returned (.bool true) ∧ Grew w w' := by
  cases hf : fewB l with
  | false => exact returns_far A c l w hv hl hf
  | true =>
    have h := hf
    unfold fewB at h
    rw [Bool.and_eq_true, List.all_eq_true] at h
    exact returns_core A c l w hv (by simpa using h.2) hf (fun v hv => by simpa using h.1 v hv)
end Go.Proofs.Ytfoklokflooapaa
