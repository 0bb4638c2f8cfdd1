/- Chapter 4: versions (pages.load, versions.data). Chapter 4, plain: a commit, phase by phase. Chapter 4, plain: what a commit makes of a store. Chapter 4, plain: a commit during which the device fails. Chapter 4, plain: whatever fails in a commit, all of it or nothing is found. Chapter 4, plain: a commit with a fuse: all of it or nothing is found after a repair. Chapter 4, plain: Format, Open and Commit of any device. Chapter 3: Full; calm devices; awake. Chapter 3: a device in a law. Chapter 4: a store in memory; the steps of a list (put, sync, clear). Chapter 4: functions are called until one returns an error (pages.do). Chapter 4: the steps of a list, done. -/
import Derived.StillTailTactics
import Derived.Deep.LoopGhost
import Derived.Test.YtbddelefglhaaaaCpD
namespace Go.Proofs.Ytbddelefglhaaaa
set_option linter.unusedVariables false
set_option linter.unusedSimpArgs false
set_option linter.unusedSectionVars false
open Go.RowKit
attribute [local go_sem ↓] Go.wp_at_zero Go.wp_at_succ
/-- Thirty-two numbers of the program. -/
def verArr (S : Nat → BitVec 32) : Array Value := ((List.range 32).map fun i => Value.int .u32 (u32 (S i))).toArray
theorem verArr_size (S : Nat → BitVec 32) : (verArr S).size = 32 := by simp [verArr]
theorem verArr_get (S : Nat → BitVec 32) (k : Nat) (h : k < 32) : (verArr S)[k]? = some (.int .u32 (u32 (S k))) := by
  simp [verArr, List.getElem?_map, List.getElem?_range, h]
theorem verArr_set (S : Nat → BitVec 32) (k : Nat) (b : BitVec 32) : (verArr S).setIfInBounds k (.int .u32 (u32 b)) = verArr (fun i => if i = k then b else S i) := by
  simp only [verArr, List.setIfInBounds_toArray]
  congr 1
  apply List.ext_getElem?
  intro i
  rw [List.getElem?_set]
  by_cases hik : k = i
  · subst hik
    by_cases h : k < 32
    · simp [h]
    · simp [h, List.getElem?_eq_none]
  · rw [if_neg hik]
    by_cases h : i < 32
    · simp [List.getElem?_map, List.getElem?_range, h, Ne.symm hik]
    · rw [List.getElem?_eq_none (by simp; omega), List.getElem?_eq_none (by simp; omega)]
theorem verArr_congr {S T : Nat → BitVec 32} (h : ∀ i, i < 32 → S i = T i) : verArr S = verArr T := by
  unfold verArr
  congr 1
  apply List.map_congr_left
  intro i hi
  rw [h i (List.mem_range.mp hi)]
theorem verArr_one (S : Nat → BitVec 32) : (verArr S).all (·.oneCell') = true := by
  rw [verArr, List.all_toArray, List.all_eq_true]
  intro v hv
  obtain ⟨i, _, rfl⟩ := List.mem_map.mp hv
  rfl
theorem zero_ver (w : World) : (zeroValue 94).run Try.prog w = .ok (.agg (verArr fun _ => 0#32)) w := by kernel_rfl
theorem info_ver : (Try.prog.info? 94).map (·.size) = some 32 := by kernel_rfl
theorem ver_step (f g : Nat → BitVec 32) (k i : Nat) : (if i = k then f k else if i < k then f i else g i) = if i < k + 1 then f i else g i := by
  by_cases h : i = k
  · subst h
    rw [if_pos rfl, if_pos (by omega)]
  · rw [if_neg h]
    by_cases h2 : i < k
    · rw [if_pos h2, if_pos (by omega)]
    · rw [if_neg h2, if_neg (by omega)]
set_option maxRecDepth 100000 in
set_option maxHeartbeats 2000000 in
theorem load_any (d : ByteArray) (hd : d.size = 128) (w : World) :
    Calls Try.prog 56 #[.string d] w fun e w' => e = .returned (.agg (verArr (fld d))) ∧ Grew w w' := by
  have hz := zero_ver
  have HN := Lib.hid (fun k (hk : k < 32) (w : World) => number_any (d.extract (4 * k) (4 * k + 4)) (by rw [ByteArray.size_extract]; omega) w)
  have hd1 : 128 ≤ d.size ∧ d.size ≤ 128 := by omega
  clear hd
  go_enter Try.func56, Try.ntmps56
  go_wp2_with fail
  clear hz
  go_loopg [5] 32 (fun gk i wr => ∃ k : Nat, k ≤ 32 ∧ gk = 32 - k ∧ i = .int .i64 k ∧ Blk wr w.heap.size 94 (verArr fun _ => 0#32) ∧ Blk wr (w.heap.size + 1) 94 (verArr fun i => if i < k then fld d i else 0#32) ∧ Grew w wr)
  case atStart => exact ⟨0, by omega, by omega, rfl, by (apply Blk.conv; (· (repeat' first | (with_reducible assumption) | (with_reducible apply Blk.setRow) | ((with_reducible apply Blk.farRow); rotate_left; (focus (first | (simp; done) | (simp; omega) | omega))) | (with_reducible apply Blk.drew) | (with_reducible apply Blk.drewN) | (with_reducible apply Blk.set_) | (with_reducible exact Blk.new _ _ _ (by first | rfl | (simp; done) | (simp; omega))) | (with_reducible apply Blk.alloc) | ((with_reducible apply Blk.far); rotate_left; (focus (first | (simp; done) | (simp; omega) | omega))) | ((with_reducible apply Blk.grew); rotate_left; (with_reducible assumption)) | ((with_reducible apply Blk.turned); rotate_left; (with_reducible assumption); (focus (first | (simp; done) | (simp; omega) | omega))) | fail)); (· rfl)), by (apply Blk.conv; (· (repeat' first | (with_reducible assumption) | (with_reducible apply Blk.setRow) | ((with_reducible apply Blk.farRow); rotate_left; (focus (first | (simp; done) | (simp; omega) | omega))) | (with_reducible apply Blk.drew) | (with_reducible apply Blk.drewN) | (with_reducible apply Blk.set_) | (with_reducible exact Blk.new _ _ _ (by first | rfl | (simp; done) | (simp; omega))) | (with_reducible apply Blk.alloc) | ((with_reducible apply Blk.far); rotate_left; (focus (first | (simp; done) | (simp; omega) | omega))) | ((with_reducible apply Blk.grew); rotate_left; (with_reducible assumption)) | ((with_reducible apply Blk.turned); rotate_left; (with_reducible assumption); (focus (first | (simp; done) | (simp; omega) | omega))) | fail)); (· exact verArr_congr fun i _ => by simp)), by (repeat' first | (with_reducible exact Grew.refl _) | (with_reducible assumption) | (with_reducible refine Grew.alloc ?_ _) | (with_reducible refine Grew.drew ?_) | (with_reducible refine Grew.drewN ?_ _) | (with_reducible refine Grew.setRow ?_ (by first | (simp; done) | (simp; omega) | omega) _) | (with_reducible refine Grew.setCell ?_ (by first | (simp; done) | (simp; omega) | omega) _) | ((with_reducible apply Grew.trans); rotate_left; (with_reducible assumption)) | ((with_reducible apply Grew.turn); rotate_left; (with_reducible assumption); (focus (intro i hi; first | omega | (simp at hi; omega)))) | fail)⟩
  case round =>
    obtain ⟨k, hk, hgk, rfl, hb0, hb1, hg⟩ := hrel
    have HGK := Lib.hid hgk
    clear hgk
    have hz0 := hb1.lt
    by_cases hlt : k < 32
    · go_wp2_with fail
      refine (HN.out k hlt _).mono ?_
      rintro e w1 ⟨rfl, g1⟩
      have hb0' := hb0.grew g1
      have hb1' := hb1.grew g1
      have hg1 : Grew w w1 := by (repeat' first | (with_reducible exact Grew.refl _) | (with_reducible assumption) | (with_reducible refine Grew.alloc ?_ _) | (with_reducible refine Grew.drew ?_) | (with_reducible refine Grew.drewN ?_ _) | (with_reducible refine Grew.setRow ?_ (by first | (simp; done) | (simp; omega) | omega) _) | (with_reducible refine Grew.setCell ?_ (by first | (simp; done) | (simp; omega) | omega) _) | ((with_reducible apply Grew.trans); rotate_left; (with_reducible assumption)) | ((with_reducible apply Grew.turn); rotate_left; (with_reducible assumption); (focus (intro i hi; first | omega | (simp at hi; omega)))) | fail)
      have ha := hb1'.cell k
      rw [verArr_get _ _ (by omega)] at ha
      have hf := hb1'.frozen k
      have hub := u32_bd (numS (d.extract (4 * k) (4 * k + 4)))
      go_wp2_with fail
      go_roundg (32 - (k + 1))
      case measure => rw [HGK.out]; omega
      case rel => exact ⟨k + 1, by omega, by omega, by go_num, by (apply Blk.conv; (· (repeat' first | (with_reducible assumption) | (with_reducible apply Blk.setRow) | ((with_reducible apply Blk.farRow); rotate_left; (focus (first | (simp; done) | (simp; omega) | omega))) | (with_reducible apply Blk.drew) | (with_reducible apply Blk.drewN) | (with_reducible apply Blk.set_) | (with_reducible exact Blk.new _ _ _ (by first | rfl | (simp; done) | (simp; omega))) | (with_reducible apply Blk.alloc) | ((with_reducible apply Blk.far); rotate_left; (focus (first | (simp; done) | (simp; omega) | omega))) | ((with_reducible apply Blk.grew); rotate_left; (with_reducible assumption)) | ((with_reducible apply Blk.turned); rotate_left; (with_reducible assumption); (focus (first | (simp; done) | (simp; omega) | omega))) | fail)); (· rfl)), by (apply Blk.conv; (· (repeat' first | (with_reducible assumption) | (with_reducible apply Blk.setRow) | ((with_reducible apply Blk.farRow); rotate_left; (focus (first | (simp; done) | (simp; omega) | omega))) | (with_reducible apply Blk.drew) | (with_reducible apply Blk.drewN) | (with_reducible apply Blk.set_) | (with_reducible exact Blk.new _ _ _ (by first | rfl | (simp; done) | (simp; omega))) | (with_reducible apply Blk.alloc) | ((with_reducible apply Blk.far); rotate_left; (focus (first | (simp; done) | (simp; omega) | omega))) | ((with_reducible apply Blk.grew); rotate_left; (with_reducible assumption)) | ((with_reducible apply Blk.turned); rotate_left; (with_reducible assumption); (focus (first | (simp; done) | (simp; omega) | omega))) | fail)); (· rw [verArr_set]; exact verArr_congr fun i _ => ver_step (fld d) (fun _ => 0#32) k i)), by (repeat' first | (with_reducible exact Grew.refl _) | (with_reducible assumption) | (with_reducible refine Grew.alloc ?_ _) | (with_reducible refine Grew.drew ?_) | (with_reducible refine Grew.drewN ?_ _) | (with_reducible refine Grew.setRow ?_ (by first | (simp; done) | (simp; omega) | omega) _) | (with_reducible refine Grew.setCell ?_ (by first | (simp; done) | (simp; omega) | omega) _) | ((with_reducible apply Grew.trans); rotate_left; (with_reducible assumption)) | ((with_reducible apply Grew.turn); rotate_left; (with_reducible assumption); (focus (intro i hi; first | omega | (simp at hi; omega)))) | fail)⟩
    · obtain rfl : k = 32 := by omega
      have e0 : verArr (fun i => if i < 32 then fld d i else 0#32) = verArr (fld d) := verArr_congr fun i hi => by rw [if_pos hi]
      rw [e0] at hb1
      clear e0
      clear hlt
      go_wp2_with (first | (refine wpList_load_blk rfl 94 _ rfl (w.heap.size + 1) rfl 94 (verArr (fld d)) _ hb1 Try.underlying94 rfl (by rw [verArr_size]; exact info_ver) ?_) | (refine wpList_store_blk rfl 94 _ _ rfl w.heap.size (verArr (fld d)) rfl rfl 94 _ hb0 (by rw [verArr_size, verArr_size]) (by rw [verArr_size]; exact info_ver) (verArr_one _) ?_))
      refine bodyPost_ret (results_cell_row rfl _ _ _ 94 (verArr (fld d)) (0, 0) _ rfl (hb0.setRow _) Try.underlying94 rfl (by rw [verArr_size]; exact info_ver)) rfl ?_
      exact ⟨rfl, by (repeat' first | (with_reducible exact Grew.refl _) | (with_reducible assumption) | (with_reducible refine Grew.alloc ?_ _) | (with_reducible refine Grew.drew ?_) | (with_reducible refine Grew.drewN ?_ _) | (with_reducible refine Grew.setRow ?_ (by first | (simp; done) | (simp; omega) | omega) _) | (with_reducible refine Grew.setCell ?_ (by first | (simp; done) | (simp; omega) | omega) _) | ((with_reducible apply Grew.trans); rotate_left; (with_reducible assumption)) | ((with_reducible apply Grew.turn); rotate_left; (with_reducible assumption); (focus (intro i hi; first | omega | (simp at hi; omega)))) | fail)⟩
theorem vbytes_snoc (S : Nat → BitVec 32) (k : Nat) : vbytes ((List.range (k + 1)).map S) = vbytes ((List.range k).map S) ++ bytesS (S k) := by
  rw [List.range_succ, List.map_append, vbytes_app]
  congr 1
set_option maxRecDepth 100000 in
set_option maxHeartbeats 2000000 in
theorem vdata_any (S : Nat → BitVec 32) (g : Nat) (w : World) (hb : Blk w g 94 (verArr S)) :
    Calls Try.prog 58 #[.pointer (some ⟨g, 0, none⟩)] w fun e w' => e = .returned (.string (vbytes ((List.range 32).map S))) ∧ Grew w w' := by
  have HV := Lib.hid (fun k => vbytes_snoc S k)
  have HSZ := Lib.hid (fun k => vbytes_size ((List.range k).map S))
  have HB := Lib.hid hb
  clear hb
  go_enter Try.func58, Try.ntmps58
  go_wp2_with fail
  go_loopg [3, 7] 32 (fun gk s i wr => ∃ k : Nat, k ≤ 32 ∧ gk = 32 - k ∧ i = .int .i64 k ∧ s = .string (vbytes ((List.range k).map S)) ∧ Grew w wr)
  case atStart => exact ⟨0, by omega, by omega, rfl, rfl, by (repeat' first | (with_reducible exact Grew.refl _) | (with_reducible assumption) | (with_reducible refine Grew.alloc ?_ _) | (with_reducible refine Grew.drew ?_) | (with_reducible refine Grew.drewN ?_ _) | (with_reducible refine Grew.setRow ?_ (by first | (simp; done) | (simp; omega) | omega) _) | (with_reducible refine Grew.setCell ?_ (by first | (simp; done) | (simp; omega) | omega) _) | ((with_reducible apply Grew.trans); rotate_left; (with_reducible assumption)) | ((with_reducible apply Grew.turn); rotate_left; (with_reducible assumption); (focus (intro i hi; first | omega | (simp at hi; omega)))) | fail)⟩
  case round =>
    obtain ⟨k, hk, hgk, rfl, rfl, hg⟩ := hrel
    have HGK := Lib.hid hgk
    clear hgk
    by_cases hlt : k < 32
    · have hb1 := HB.out.grew hg
      have ha := hb1.cell k
      rw [verArr_get _ _ (by omega)] at ha
      have hlb := hb1.lt
      have hki : (k : Int) < 32 := by omega
      have hsz : (vbytes ((List.range k).map S)).size ≤ 128 := by rw [HSZ.out, List.length_map, List.length_range]; omega
      have hbz := bytesS_size (S k)
      clear hb1
      go_wp2_with fail
      refine (bytes_any (S k) _).mono ?_
      rintro e w1 ⟨rfl, g1⟩
      go_wp2_with fail
      go_roundg (32 - (k + 1))
      case measure => rw [HGK.out]; omega
      case rel => exact ⟨k + 1, by omega, by omega, by go_num, by rw [HV.out], hg.trans g1⟩
    · obtain rfl : k = 32 := by omega
      go_wp2_with fail
      go_ret
      exact ⟨rfl, hg⟩
end Go.Proofs.Ytbddelefglhaaaa
namespace Go.Proofs.Ytbddelefglhaaaa
set_option linter.unusedVariables false
set_option linter.unusedSimpArgs false
set_option linter.unusedSectionVars false
open Go.RowKit
def wlI (l : Wl) : List (Int × ByteArray) := l.map fun e => ((e.1 : Int), e.2)
def rawsB (l : Wl) : List ByteArray := l.map (·.2)
/-- The data of a head. -/
def headDat (l : Wl) (v : U32) : ByteArray := bytesS v ++ (bytesS (nv l.length) ++ bytesS (sumS (catB (rawsB l))))
def headR (l : Wl) (v : U32) : ByteArray := packS (headDat l v) v 33
def slotsW (l : Wl) : Wl := (List.range l.length).map fun j => (34 + j, (l.getD j (0, ⟨#[]⟩)).2)
/-- The steps of a commit with some entries. -/
def commitS (l : Wl) (v : U32) : List St := (puts (slotsW l) ++ [.sync]) ++ ((puts [(33, headR l v)] ++ [.sync]) ++ ((puts l ++ [.sync]) ++ (puts [(33, blankR)] ++ [.sync])))
theorem complS_is (l : Wl) : complS (wlI l) = (puts l ++ [.sync]) ++ (puts [(33, blankR)] ++ [.sync]) := by
  unfold complS wlI puts
  simp
theorem headDat_size (l : Wl) (v : U32) : (headDat l v).size = 12 := by
  unfold headDat
  rw [ByteArray.size_append, ByteArray.size_append, bytesS_size, bytesS_size, bytesS_size]
theorem headDat_is (l : Wl) (v : U32) : headDat l v = vbytes [v, nv l.length, sumS (catB (rawsB l))] := by
  unfold headDat
  show _ = bytesS v ++ (bytesS (nv l.length) ++ (bytesS _ ++ ⟨#[]⟩))
  rw [show bytesS (sumS (catB (rawsB l))) ++ (⟨#[]⟩ : ByteArray) = bytesS (sumS (catB (rawsB l))) from ByteArray.append_empty]
theorem head_flds (l : Wl) (v : U32) : fld (dataS (headDat l v)) 0 = v ∧ fld (dataS (headDat l v)) 1 = nv l.length ∧ fld (dataS (headDat l v)) 2 = sumS (catB (rawsB l)) ∧ (dataS (headDat l v)).extract 12 128 = zeroS 116 := by
  have hs := headDat_size l v
  have he : dataS (headDat l v) = headDat l v ++ zeroS 116 := by
    unfold dataS
    have hlen : (headDat l v).data.toList.length = 12 := by simpa using hs
    have h0 : (headDat l v).extract 0 128 = headDat l v := by
      apply bytes_ext
      rw [ext_list, List.drop_zero, List.take_of_length_le (by omega)]
    rw [hs, h0]
  have hf : ∀ i, i < 3 → fld (dataS (headDat l v)) i = fld (headDat l v) i := fun i hi => by
    unfold fld
    rw [he, ext_in _ _ _ _ (by omega)]
  refine ⟨?_, ?_, ?_, ?_⟩
  · rw [hf 0 (by omega), headDat_is]; exact fld_vbytes _ 0 (by simp)
  · rw [hf 1 (by omega), headDat_is]; exact fld_vbytes _ 1 (by simp)
  · rw [hf 2 (by omega), headDat_is]; exact fld_vbytes _ 2 (by simp)
  · rw [he]; exact ext_right _ _ 12 128 hs (by rw [zeroS_size])
/-- Entries that a list of writes may have: each is a raw sector of its place with the version of the list. -/
structure Entries (n : Nat) (l : Wl) (v : U32) : Prop where
  pack : ∀ e ∈ l, ∃ d, e.2 = packS d v (e.1 : Int)
  place : ∀ e ∈ l, e.1 ≤ 32 ∨ (131 ≤ e.1 ∧ e.1 < n)
  pos : 1 ≤ l.length
  lim : l.length ≤ 97
  nodup : (l.map (·.1)).Nodup
  bound : n ≤ 1155
  low : 131 ≤ n
theorem Entries.lt {n : Nat} {l : Wl} {v : U32} (h : Entries n l v) : ∀ e ∈ l, e.1 < n ∧ e.2.size = 140 := fun e he => by
  obtain ⟨d, hd⟩ := h.pack e he
  have := h.low
  exact ⟨by rcases h.place e he with h1 | h1 <;> omega, by rw [hd, packS_size]⟩
theorem Entries.slot {n : Nat} {l : Wl} {v : U32} (h : Entries n l v) (e : Nat × ByteArray) (he : e ∈ l) : okSlot n v e.2 = true ∧ selfI e.2 = (e.1 : Int) := by
  obtain ⟨d, hd⟩ := h.pack e he
  obtain ⟨h1, h2, h3, h4, h5⟩ := pack_parts d v (e.1 : Int)
  have hp := h.place e he
  have hb := h.bound
  have hi : selfI e.2 = (e.1 : Int) := by
    unfold selfI
    rw [hd, h5, num_bytes]
    unfold u32 idx32
    rw [BitVec.toNat_ofInt]
    omega
  refine ⟨?_, hi⟩
  have hok : okR e.2 (selfI e.2) := by
    rw [hi, hd]
    exact ⟨packS_size d v _, by rw [h1, h2, num_bytes], by rw [h5, num_bytes]⟩
  unfold okSlot
  rw [decide_eq_true hok, hi, hd, h4, num_bytes]
  simp only [beq_self_eq_true, Bool.true_and, Bool.not_eq_true', Bool.and_eq_false_iff, decide_eq_false_iff_not, Bool.or_eq_false_iff]
  rcases hp with h6 | h6
  · left; omega
  · right; omega
/-- A device with a head and its entries has an unfinished intent. -/
theorem intent_of (E : Dev) (l : Wl) (v : U32) (h : Entries E.st.length l v) (hp : E.pend = []) (hh : E.at 33 = headR l v) (hs : ∀ j (hj : j < l.length), E.at (34 + j) = l[j].2)
    (ht : (topI E).ok = true → v = (topI E).ver ∨ v.toNat = (topI E).ver.toNat + 1) : intentL E = wlI l := by
  have hc : ∀ i, E.content i = E.at i := fun i => by unfold Dev.content; rw [hp]; rfl
  obtain ⟨f0, f1, f2, f3⟩ := head_flds l v
  have hhead : headI E = ⟨dataS (headDat l v), v, true⟩ := by
    unfold headI
    rw [hc, hh]
    exact rawOf_pack _ _ 33
  have hlim := h.lim
  have hpos := h.pos
  have hcnt : cntI E = l.length := by
    unfold cntI
    rw [hhead]
    show (fld (dataS (headDat l v)) 1).toNat = _
    rw [f1, nv_toNat _ (by omega)]
  have hsl : slotsD E (cntI E) = rawsB l := by
    unfold slotsD rawsB
    rw [hcnt]
    apply List.ext_getElem (by simp)
    intro j h1 h2
    rw [List.getElem_map, List.getElem_range, List.getElem_map]
    unfold slotI
    rw [hc]
    exact hs j (by simpa using h2)
  have hB : intentB E = true := by
    unfold intentB headB' slotsB sumB topB
    rw [hsl, hcnt, hhead]
    simp only [Bool.and_eq_true, f0, f1, f2, f3, beq_self_eq_true, decide_eq_true_eq, true_and, and_true]
    refine ⟨⟨hpos, hlim⟩, ?_, ?_⟩
    · rw [List.all_eq_true]
      intro s hsm
      unfold rawsB at hsm
      obtain ⟨e, he, rfl⟩ := List.mem_map.1 hsm
      exact (h.slot e he).1
    · simp only [Bool.or_eq_true, Bool.not_eq_true', beq_iff_eq, decide_eq_true_eq]
      cases ho : (topI E).ok with
      | false => exact .inl (.inl rfl)
      | true =>
        rcases ht ho with h9 | h9
        · exact .inl (.inr h9)
        · exact .inr h9
  unfold intentL
  rw [if_pos hB, hsl]
  unfold rawsB wlI
  rw [List.map_map]
  apply List.map_congr_left
  intro e he
  show (selfI e.2, e.2) = _
  rw [(h.slot e he).2]
theorem slotsW_len (l : Wl) : (slotsW l).length = l.length := by unfold slotsW; simp
theorem slotsW_mem (l : Wl) (e : Nat × ByteArray) (he : e ∈ slotsW l) : ∃ j, ∃ hj : j < l.length, e = (34 + j, l[j].2) := by
  unfold slotsW at he
  obtain ⟨j, hj, rfl⟩ := List.mem_map.1 he
  have hj' := List.mem_range.1 hj
  exact ⟨j, hj', by rw [List.getD_eq_getElem?_getD, List.getElem?_eq_getElem hj']; rfl⟩
theorem slotsW_ok {D : Dev} {l : Wl} {v : U32} (h : Entries D.st.length l v) : okW D (slotsW l) := fun e he => by
  obtain ⟨j, hj, rfl⟩ := slotsW_mem l e he
  have := h.lim
  have := h.low
  exact ⟨by show 34 + j < _; omega, (h.lt _ (List.getElem_mem hj)).2⟩
theorem slotsW_nodup (l : Wl) : ((slotsW l).map (·.1)).Nodup := by
  unfold slotsW
  rw [List.map_map, List.Nodup, List.pairwise_map]
  exact List.nodup_range.imp (fun {a b} hab he => hab (by simp only [Function.comp] at he; omega))
theorem slots_at (D : Dev) (l : Wl) (hl : okW D (slotsW l)) (i : Nat) : (applyW D (slotsW l)).at i = if h : 34 ≤ i ∧ i < 34 + l.length then (l[i - 34]'(by omega)).2 else D.at i := by
  rw [applyW_at _ _ hl]
  split
  · rename_i h
    have hm : (i, (l[i - 34]'(by omega)).2) ∈ slotsW l := by
      unfold slotsW
      refine List.mem_map.2 ⟨i - 34, List.mem_range.2 (by omega), ?_⟩
      rw [List.getD_eq_getElem?_getD, List.getElem?_eq_getElem (by omega)]
      show (34 + (i - 34), _) = _
      rw [show 34 + (i - 34) = i from by omega]
      rfl
    rw [lastE_one _ (slotsW_nodup l) _ hm]
    rfl
  · rename_i h
    rw [lastE_none _ _ (fun e he hq => by obtain ⟨j, hj, rfl⟩ := slotsW_mem l e he; simp only [] at hq; omega)]
    rfl
theorem one_at (D : Dev) (i : Nat) (s : ByteArray) (hl : okW D [(i, s)]) (j : Nat) : (applyW D [(i, s)]).at j = if j = i then s else D.at j := by
  rw [applyW_at _ _ hl]
  show ((if j = i then some s else none : Option ByteArray)).getD _ = _
  by_cases h : j = i <;> simp [h]
end Go.Proofs.Ytbddelefglhaaaa
namespace Go.Proofs.Ytbddelefglhaaaa
set_option linter.unusedVariables false
set_option linter.unusedSimpArgs false
set_option linter.unusedSectionVars false
open Go.RowKit
/-- The states behind the phases of a commit. -/
def ph1 (D : Dev) (l : Wl) : Dev := applyW D (slotsW l)
def ph2 (D : Dev) (l : Wl) (v : U32) : Dev := applyW (ph1 D l) [(33, headR l v)]
def ph3 (D : Dev) (l : Wl) (v : U32) : Dev := applyW (ph2 D l v) l
def ph4 (D : Dev) (l : Wl) (v : U32) : Dev := applyW (ph3 D l v) [(33, blankR)]
theorem okW_one {D : Dev} (h : 131 ≤ D.st.length) (s : ByteArray) (hs : s.size = 140) : okW D [(33, s)] := fun e he => by
  rw [List.mem_singleton.1 he]
  exact ⟨by show 33 < _; omega, hs⟩
theorem ph_kept {D : Dev} {l : Wl} {v : U32} (hd : D.Ok) (h : Entries D.st.length l v) : EndKept D (ph1 D l) ∧ EndKept (ph1 D l) (ph2 D l v) ∧ EndKept (ph2 D l v) (ph3 D l v) ∧ EndKept (ph3 D l v) (ph4 D l v) := by
  have k1 := applyW_kept (slotsW l) D hd (slotsW_ok h)
  have hlow := h.low
  have k2 : EndKept (ph1 D l) (ph2 D l v) := applyW_kept _ (ph1 D l) k1.ok (okW_one (by have := k1.len; show 131 ≤ (applyW D (slotsW l)).st.length; omega) _ (packS_size ..))
  have hl3 : okW (ph2 D l v) l := fun e he => by rw [k2.len, show (ph1 D l).st.length = D.st.length from k1.len]; exact h.lt e he
  have k3 : EndKept (ph2 D l v) (ph3 D l v) := applyW_kept l (ph2 D l v) k2.ok hl3
  have k4 : EndKept (ph3 D l v) (ph4 D l v) := applyW_kept _ (ph3 D l v) k3.ok (okW_one (by rw [k3.len, k2.len, show (ph1 D l).st.length = D.st.length from k1.len]; omega) _ blankR_size)
  exact ⟨k1, k2, k3, k4⟩
theorem ph_len {D : Dev} {l : Wl} {v : U32} (hd : D.Ok) (h : Entries D.st.length l v) : (ph1 D l).st.length = D.st.length ∧ (ph2 D l v).st.length = D.st.length ∧ (ph3 D l v).st.length = D.st.length ∧ (ph4 D l v).st.length = D.st.length := by
  obtain ⟨k1, k2, k3, k4⟩ := ph_kept hd h
  exact ⟨k1.len, k2.len.trans k1.len, k3.len.trans (k2.len.trans k1.len), k4.len.trans (k3.len.trans (k2.len.trans k1.len))⟩
/-- Without a failure a commit does all of its phases. -/
theorem commit_run {D : Dev} {l : Wl} {v : U32} {sy ep : Int} (h : Entries D.st.length l v) (hc : Calm D sy ep) (hf : D.fuse = none) (hp : D.pend = []) : runS sy ep (commitS l v) D = (ph4 D l v, 0) := by
  obtain ⟨k1, k2, k3, k4⟩ := ph_kept (v := v) hc.ok h
  obtain ⟨l1, l2, l3, l4⟩ := ph_len (v := v) hc.ok h
  have hlow := h.low
  have c1 := hc.kept k1
  have c2 := c1.kept k2
  have c3 := c2.kept k3
  have r1 := runS_list sy ep (slotsW l) D hc hf hp (slotsW_ok h)
  have r2 := runS_list sy ep [(33, headR l v)] (ph1 D l) c1 (k1.fuse.trans hf) (k1.pend.trans hp) (okW_one (by omega) _ (packS_size ..))
  have r3 := runS_list sy ep l (ph2 D l v) c2 (k2.fuse.trans (k1.fuse.trans hf)) (k2.pend.trans (k1.pend.trans hp)) (fun e he => by rw [l2]; exact h.lt e he)
  have r4 := runS_list sy ep [(33, blankR)] (ph3 D l v) c3 (k3.fuse.trans (k2.fuse.trans (k1.fuse.trans hf))) (k3.pend.trans (k2.pend.trans (k1.pend.trans hp))) (okW_one (by omega) _ blankR_size)
  unfold commitS
  rw [runS_app, r1, if_pos rfl, runS_app]
  rw [show applyW D (slotsW l) = ph1 D l from rfl, r2, if_pos rfl, runS_app]
  rw [show applyW (ph1 D l) [(33, headR l v)] = ph2 D l v from rfl, r3, if_pos rfl]
  rw [show applyW (ph2 D l v) l = ph3 D l v from rfl, r4]
  rfl
theorem ph1_at {D : Dev} {l : Wl} {v : U32} (h : Entries D.st.length l v) (i : Nat) : (ph1 D l).at i = if h : 34 ≤ i ∧ i < 34 + l.length then (l[i - 34]'(by omega)).2 else D.at i := slots_at D l (slotsW_ok h) i
theorem ph2_at {D : Dev} {l : Wl} {v : U32} (hd : D.Ok) (h : Entries D.st.length l v) (i : Nat) : (ph2 D l v).at i = if i = 33 then headR l v else (ph1 D l).at i := by
  obtain ⟨l1, _⟩ := ph_len (v := v) hd h
  have hlow := h.low
  exact one_at (ph1 D l) 33 _ (okW_one (by omega) _ (packS_size ..)) i
theorem ph3_at {D : Dev} {l : Wl} {v : U32} (hd : D.Ok) (h : Entries D.st.length l v) (i : Nat) : (ph3 D l v).at i = (lastE l i).getD ((ph2 D l v).at i) := by
  obtain ⟨_, l2, _⟩ := ph_len (v := v) hd h
  exact applyW_at l _ (fun e he => by rw [l2]; exact h.lt e he) i
theorem ph4_at {D : Dev} {l : Wl} {v : U32} (hd : D.Ok) (h : Entries D.st.length l v) (i : Nat) : (ph4 D l v).at i = if i = 33 then blankR else (ph3 D l v).at i := by
  obtain ⟨_, _, l3, _⟩ := ph_len (v := v) hd h
  have hlow := h.low
  exact one_at (ph3 D l v) 33 _ (okW_one (by omega) _ blankR_size) i
/-- Outside of the intent a commit leaves what the entries say. -/
theorem ph4_out {D : Dev} {l : Wl} {v : U32} (hd : D.Ok) (h : Entries D.st.length l v) (i : Nat) (hi : i ≤ 32 ∨ 131 ≤ i) : (ph4 D l v).at i = (lastE l i).getD (D.at i) := by
  have hlim := h.lim
  rw [ph4_at hd h, if_neg (by omega), ph3_at hd h, ph2_at hd h, if_neg (by omega), ph1_at h, dif_neg (by omega)]
/-- A list of writes of data sectors that a store takes: each sector once, in increasing order. -/
structure Takes (I : Img) (ws : Wl) : Prop where
  lt : ∀ e ∈ ws, e.1 < I.n ∧ e.2.size = 128
  asc : ws.Pairwise fun a b => a.1 < b.1
  pos : 1 ≤ ws.length
  lim : ws.length ≤ 64
  room : I.N + 1 < 4294967296
def ksW (ws : Wl) : List Nat := (List.range 32).filter fun k => ws.any fun e => e.1 / 32 == k
def Img.upd (I : Img) (ws : Wl) : Img where
  n := I.n
  N := I.N + 1
  ms := fun k => if (ws.any fun e => e.1 / 32 == k) = true then I.N + 1 else I.ms k
  vs := fun i => if (lastE ws i).isSome = true then I.N + 1 else I.vs i
  cs := fun i => (lastE ws i).getD (I.cs i)
/-- The entries of a commit that makes the store J. -/
def entL (J : Img) (ws : Wl) : Wl := (0, J.topR) :: ((ksW ws).map (fun k => (1 + k, J.mapR k)) ++ ws.map fun e => (131 + e.1, J.datR e.1))
theorem ksW_mem (ws : Wl) (k : Nat) : k ∈ ksW ws ↔ k < 32 ∧ ∃ e ∈ ws, e.1 / 32 = k := by
  unfold ksW
  rw [List.mem_filter, List.mem_range, List.any_eq_true]
  simp
theorem ksW_nodup (ws : Wl) : (ksW ws).Nodup := List.nodup_range.filter _
theorem ksW_len (ws : Wl) : (ksW ws).length ≤ 32 := by
  unfold ksW
  refine Nat.le_trans (List.length_filter_le _ _) ?_
  simp
theorem takes_nodup {I : Img} {ws : Wl} (h : Takes I ws) : (ws.map (·.1)).Nodup := by
  rw [List.Nodup, List.pairwise_map]
  exact h.asc.imp (fun {a b} hab => by omega)
theorem entL_nodup {I : Img} {ws : Wl} (h : Takes I ws) (J : Img) : ((entL J ws).map (·.1)).Nodup := by
  unfold entL
  rw [List.map_cons, List.map_append, List.map_map, List.map_map, List.nodup_cons]
  refine ⟨?_, List.nodup_append.2 ⟨?_, ?_, ?_⟩⟩
  · intro hm
    rcases List.mem_append.1 hm with hm | hm
    · obtain ⟨k, _, hk⟩ := List.mem_map.1 hm
      simp only [Function.comp] at hk
      omega
    · obtain ⟨e, _, he⟩ := List.mem_map.1 hm
      simp only [Function.comp] at he
      omega
  · rw [List.Nodup, List.pairwise_map]
    exact (ksW_nodup ws).imp (fun {a b} hab he => hab (by simp only [Function.comp] at he; omega))
  · rw [List.Nodup, List.pairwise_map]
    exact h.asc.imp (fun {a b} hab he => by simp only [Function.comp] at he; omega)
  · intro a ha b hb e
    obtain ⟨k, hk, rfl⟩ := List.mem_map.1 ha
    obtain ⟨x, _, rfl⟩ := List.mem_map.1 hb
    have := ((ksW_mem ws k).1 hk).1
    simp only [Function.comp] at e
    omega
theorem entL_ok {I : Img} {ws : Wl} (hI : I.Ok) (h : Takes I ws) : Entries (131 + I.n) (entL (I.upd ws) ws) (nv (I.N + 1)) := by
  refine ⟨?_, ?_, by simp [entL], ?_, entL_nodup h _, by have := hI.n1; omega, by omega⟩
  · intro e he
    unfold entL at he
    rcases List.mem_cons.1 he with rfl | he
    · exact ⟨_, rfl⟩
    rcases List.mem_append.1 he with he | he
    · obtain ⟨k, hk, rfl⟩ := List.mem_map.1 he
      obtain ⟨_, x, hx, hxk⟩ := (ksW_mem ws k).1 hk
      refine ⟨vbytes ((I.upd ws).mapL k), ?_⟩
      unfold Img.mapR
      rw [show (I.upd ws).ms k = I.N + 1 from if_pos (List.any_eq_true.2 ⟨x, hx, by simpa using hxk⟩)]
    · obtain ⟨x, hx, rfl⟩ := List.mem_map.1 he
      refine ⟨(I.upd ws).cs x.1, ?_⟩
      unfold Img.datR
      rw [show (I.upd ws).vs x.1 = I.N + 1 from if_pos (by rw [lastE_one ws (takes_nodup h) x hx]; rfl)]
  · intro e he
    unfold entL at he
    rcases List.mem_cons.1 he with rfl | he
    · left; show 0 ≤ 32; omega
    rcases List.mem_append.1 he with he | he
    · obtain ⟨k, hk, rfl⟩ := List.mem_map.1 he
      have := ((ksW_mem ws k).1 hk).1
      left; show 1 + k ≤ 32; omega
    · obtain ⟨x, hx, rfl⟩ := List.mem_map.1 he
      have := (h.lt x hx).1
      right; show 131 ≤ 131 + x.1 ∧ 131 + x.1 < 131 + I.n; omega
  · have h1 := ksW_len ws
    have h2 := h.lim
    unfold entL
    rw [List.length_cons, List.length_append, List.length_map, List.length_map]
    omega
theorem upd_ok {I : Img} {ws : Wl} (hI : I.Ok) (h : Takes I ws) : (I.upd ws).Ok := by
  refine ⟨hI.n0, hI.n1, h.room, fun k => ?_, fun i => ?_, fun i hi => ?_⟩
  · have h1 := hI.ms k
    unfold Img.upd
    simp only []
    split
    · exact Nat.le_refl _
    · exact Nat.le_succ_of_le h1
  · have h1 := hI.vs i
    unfold Img.upd
    simp only []
    split
    · exact Nat.le_refl _
    · exact Nat.le_succ_of_le h1
  · show ((lastE ws i).getD (I.cs i)).size = 128
    cases hl : lastE ws i with
    | none => exact hI.cs i hi
    | some s =>
      have : ∀ (l : Wl) (i : Nat) (s : ByteArray), lastE l i = some s → ∃ e ∈ l, e.1 = i ∧ e.2 = s := by
        intro l
        induction l with
        | nil => intro i s h; cases h
        | cons x l ih =>
          intro i s h
          have hE : lastE (x :: l) i = match lastE l i with
            | some s => some s
            | none => if i = x.1 then some x.2 else none := rfl
          rw [hE] at h
          cases h2 : lastE l i with
          | some t =>
            rw [h2] at h
            obtain ⟨e, he, h3, h4⟩ := ih i t h2
            injection h with h
            exact ⟨e, List.mem_cons_of_mem _ he, h3, h4.trans h⟩
          | none =>
            rw [h2] at h
            simp only [] at h
            split at h
            · rename_i hi
              injection h with h
              exact ⟨x, List.mem_cons_self .., hi.symm, h⟩
            · cases h
      obtain ⟨e, he, _, rfl⟩ := this ws i s hl
      exact (h.lt e he).2
/-- What is at the places behind a commit. -/
theorem upd_holds {D : Dev} {I : Img} {ws : Wl} (h : Holds D I) (ht : Takes I ws) (E : Dev) (hE : E.Ok) (hlen : E.st.length = D.st.length) (hlive : E.failed = false) (hpend : E.pend = [])
    (hat : ∀ i, (i ≤ 32 ∨ 131 ≤ i) → E.at i = (lastE (entL (I.upd ws) ws) i).getD (D.at i)) : Holds E (I.upd ws) := by
  have hnd := entL_nodup ht (I.upd ws)
  have hmem : ∀ e ∈ entL (I.upd ws) ws, lastE (entL (I.upd ws) ws) e.1 = some e.2 := fun e he => lastE_one _ hnd e he
  refine ⟨hE, upd_ok h.img ht, hlen.trans h.len, hlive, hpend, ?_, fun k hk => ?_, fun i hi => ?_⟩
  · rw [hat 0 (by omega), hmem (0, (I.upd ws).topR) (List.mem_cons_self ..)]
    rfl
  · rw [hat (1 + k) (by omega)]
    by_cases hin : k ∈ ksW ws
    · rw [hmem (1 + k, (I.upd ws).mapR k) (List.mem_cons_of_mem _ (List.mem_append_left _ (List.mem_map.2 ⟨k, hin, rfl⟩)))]
      rfl
    · rw [lastE_none _ _ (fun e he hq => by
        unfold entL at he
        rcases List.mem_cons.1 he with rfl | he
        · simp only [] at hq; omega
        rcases List.mem_append.1 he with he | he
        · obtain ⟨j, hj, rfl⟩ := List.mem_map.1 he
          simp only [] at hq
          have : j = k := by omega
          subst this
          exact hin hj
        · obtain ⟨x, _, rfl⟩ := List.mem_map.1 he
          simp only [] at hq
          omega)]
      show D.at (1 + k) = _
      rw [h.map k hk]
      have hno : ∀ e ∈ ws, e.1 / 32 ≠ k := fun e he hq => hin ((ksW_mem ws k).2 ⟨hk, e, he, hq⟩)
      have hm : (I.upd ws).ms k = I.ms k := if_neg (by
        rw [List.any_eq_true]
        rintro ⟨e, he, hq⟩
        exact hno e he (by simpa using hq))
      have hv : (I.upd ws).mapL k = I.mapL k := by
        unfold Img.mapL
        apply List.map_congr_left
        intro j hj
        have hj' := List.mem_range.1 hj
        congr 1
        unfold Img.mv
        show (if 32 * k + j < I.n then (if (lastE ws (32 * k + j)).isSome = true then I.N + 1 else I.vs (32 * k + j)) else 0) = _
        rw [lastE_none ws _ (fun e he hq => hno e he (by omega))]
        rfl
      unfold Img.mapR
      rw [hm, hv]
  · rw [hat (131 + i) (by omega)]
    by_cases hin : ∃ e ∈ ws, e.1 = i
    · obtain ⟨e, he, rfl⟩ := hin
      rw [hmem (131 + e.1, (I.upd ws).datR e.1) (List.mem_cons_of_mem _ (List.mem_append_right _ (List.mem_map.2 ⟨e, he, rfl⟩)))]
      rfl
    · have hno : ∀ e ∈ ws, e.1 ≠ i := fun e he hq => hin ⟨e, he, hq⟩
      rw [lastE_none _ _ (fun e he hq => by
        unfold entL at he
        rcases List.mem_cons.1 he with rfl | he
        · simp only [] at hq; omega
        rcases List.mem_append.1 he with he | he
        · obtain ⟨j, hj, rfl⟩ := List.mem_map.1 he
          have := ((ksW_mem ws j).1 hj).1
          simp only [] at hq
          omega
        · obtain ⟨x, hx, rfl⟩ := List.mem_map.1 he
          simp only [] at hq
          exact hno x hx (by omega))]
      show D.at (131 + i) = _
      rw [h.dat i hi]
      unfold Img.datR
      rw [show (I.upd ws).cs i = I.cs i from by show (lastE ws i).getD _ = _; rw [lastE_none ws i hno]; rfl, show (I.upd ws).vs i = I.vs i from if_neg (by rw [lastE_none ws i hno]; simp)]
/-- A commit without a failure. -/
theorem commit_clean {D : Dev} {I : Img} {ws : Wl} {sy ep : Int} (h : Clean D I) (ht : Takes I ws) (hc : Calm D sy ep) (hf : D.fuse = none) :
    runS sy ep (commitS (entL (I.upd ws) ws) (nv (I.N + 1))) D = (ph4 D (entL (I.upd ws) ws) (nv (I.N + 1)), 0) ∧ Clean (ph4 D (entL (I.upd ws) ws) (nv (I.N + 1))) (I.upd ws) ∧
      (ph4 D (entL (I.upd ws) ws) (nv (I.N + 1))).fen = D.fen ∧ (ph4 D (entL (I.upd ws) ws) (nv (I.N + 1))).fuse = none := by
  have he := entL_ok h.img ht
  rw [← h.len] at he
  obtain ⟨k1, k2, k3, k4⟩ := ph_kept h.ok he
  have hl4 := (ph_len h.ok he).2.2.2
  have hp4 : (ph4 D (entL (I.upd ws) ws) (nv (I.N + 1))).pend = [] := k4.pend.trans (k3.pend.trans (k2.pend.trans (k1.pend.trans h.pend)))
  refine ⟨commit_run he hc hf h.pend, ⟨upd_holds h.toHolds ht _ k4.ok hl4 (k4.failed.trans (k3.failed.trans (k2.failed.trans (k1.failed.trans h.live)))) hp4 (fun i hi => ph4_out h.ok he i hi), ?_⟩, k4.fen.trans (k3.fen.trans (k2.fen.trans k1.fen)), k4.fuse.trans (k3.fuse.trans (k2.fuse.trans (k1.fuse.trans hf)))⟩
  rw [ph4_at h.ok he, if_pos rfl]
end Go.Proofs.Ytbddelefglhaaaa
namespace Go.Proofs.Ytbddelefglhaaaa
set_option linter.unusedVariables false
set_option linter.unusedSimpArgs false
set_option linter.unusedSectionVars false
open Go.RowKit
/-- The byte with a number, zero behind the end. -/
def byteD (s : ByteArray) (j : Nat) : UInt8 := s.data.toList.getD j 0
theorem byteD_ext (s : ByteArray) (i j k : Nat) (h : k < j - i) : byteD (s.extract i j) k = byteD s (i + k) := by
  unfold byteD
  rw [ext_list, List.getD_eq_getElem?_getD, List.getElem?_take, if_pos h, List.getElem?_drop, List.getD_eq_getElem?_getD]
theorem byte_ext {a b : ByteArray} (hs : a.size = b.size) (h : ∀ j, j < a.size → byteD a j = byteD b j) : a = b := by
  apply bytes_ext
  apply List.ext_getElem (by simpa using hs)
  intro j h1 h2
  have := h j (by simpa using h1)
  unfold byteD at this
  rwa [List.getD_eq_getElem?_getD, List.getD_eq_getElem?_getD, List.getElem?_eq_getElem h1, List.getElem?_eq_getElem h2] at this
theorem cutB_size {s t : ByteArray} {n : Nat} (h1 : s.size = 140) (h2 : t.size = 140) (hn : n ≤ 140) : (cutB s n t).size = 140 := by
  unfold cutB
  rw [ByteArray.size_append, ByteArray.size_extract, ByteArray.size_extract]
  omega
theorem cutB_byte {s t : ByteArray} {n : Nat} (h1 : s.size = 140) (h2 : t.size = 140) (hn : n ≤ 140) (j : Nat) (hj : j < 140) : byteD (cutB s n t) j = if j < n then byteD s j else byteD t j := by
  have hl : (s.extract 0 n).data.toList.length = n := by
    have : (s.extract 0 n).size = n := by rw [ByteArray.size_extract]; omega
    simpa using this
  have e : (cutB s n t).data.toList = (s.extract 0 n).data.toList ++ (t.extract n t.size).data.toList := by
    unfold cutB
    rw [ByteArray.data_append, Array.toList_append]
  unfold byteD
  rw [e, List.getD_eq_getElem?_getD]
  by_cases h : j < n
  · rw [if_pos h, List.getElem?_append_left (by omega), ext_list, List.getElem?_take, if_pos (by omega), List.getElem?_drop, Nat.zero_add, List.getD_eq_getElem?_getD]
  · rw [if_neg h, List.getElem?_append_right (by omega), hl, ext_list, List.getElem?_take, if_pos (by omega), List.getElem?_drop, show n + (j - n) = j from by omega, List.getD_eq_getElem?_getD]
theorem num_bytes4 (s : ByteArray) (h : s.size = 4) (x : U32) (hx : numS s = x) : s = bytesS x := by rw [← hx, bytes_num s h]
theorem blank_byte (j : Nat) (hj : j < 140) : byteD blankR j = 0 := by
  unfold byteD
  show (List.replicate 140 (0 : UInt8)).toArray.toList.getD j 0 = 0
  rw [List.getD_eq_getElem?_getD]
  show ((List.replicate 140 (0 : UInt8))[j]?).getD 0 = 0
  rw [List.getElem?_replicate, if_pos hj]
  rfl
/-- A head that is torn over a cleared one is whole, or not readable. -/
theorem torn_head (d : ByteArray) (v : U32) (n : Nat) (hn : n ≤ 140) (h : okR (cutB (packS d v 33) n blankR) 33) : cutB (packS d v 33) n blankR = packS d v 33 := by
  have hs := packS_size d v 33
  obtain ⟨g1, g2, g3⟩ := h
  obtain ⟨p1, p2, p3, p4, p5⟩ := pack_parts d v 33
  have hb := cutB_byte hs blankR_size hn
  have hi := num_bytes4 _ (by rw [ByteArray.size_extract]; omega) _ g3
  have hi0 : byteD (cutB (packS d v 33) n blankR) 132 = 33 := by
    have := byteD_ext (cutB (packS d v 33) n blankR) 132 136 0 (by omega)
    rw [hi] at this
    rw [show 132 + 0 = 132 from rfl] at this
    rw [← this]
    decide
  have hn133 : 133 ≤ n := by
    rcases Nat.lt_or_ge n 133 with hlt | hge
    · rw [hb 132 (by omega), if_neg (by omega), blank_byte 132 (by omega)] at hi0
      exact absurd hi0 (by decide)
    · exact hge
  have hz : ∀ j, 133 ≤ j → j < 136 → byteD (packS d v 33) j = 0 := fun j h1 h2 => by
    have := byteD_ext (packS d v 33) 132 136 (j - 132) (by omega)
    rw [p5, show 132 + (j - 132) = j from by omega] at this
    rw [← this]
    have : ∀ k : Fin 4, 1 ≤ k.1 → byteD (bytesS (idx32 33)) k.1 = 0 := by decide
    exact this ⟨j - 132, by omega⟩ (by show 1 ≤ j - 132; omega)
  have hbody : (cutB (packS d v 33) n blankR).extract 0 136 = (packS d v 33).extract 0 136 := by
    apply byte_ext
    · rw [ByteArray.size_extract, ByteArray.size_extract, g1, hs]
    · intro j hj
      rw [ByteArray.size_extract, g1] at hj
      rw [byteD_ext _ 0 136 j (by omega), byteD_ext _ 0 136 j (by omega), Nat.zero_add, hb j (by omega)]
      split
      · rfl
      · rw [blank_byte j (by omega), hz j (by omega) (by omega)]
  have hcrc : (cutB (packS d v 33) n blankR).extract 136 140 = (packS d v 33).extract 136 140 := by
    rw [num_bytes4 _ (by rw [ByteArray.size_extract]; omega) _ g2, hbody, p1, p2]
  apply byte_ext (g1.trans hs.symm)
  intro j hj
  rw [g1] at hj
  by_cases h136 : j < 136
  · have e1 := byteD_ext (cutB (packS d v 33) n blankR) 0 136 j (by omega)
    have e2 := byteD_ext (packS d v 33) 0 136 j (by omega)
    rw [Nat.zero_add] at e1 e2
    rw [← e1, ← e2, hbody]
  · have e1 := byteD_ext (cutB (packS d v 33) n blankR) 136 140 (j - 136) (by omega)
    have e2 := byteD_ext (packS d v 33) 136 140 (j - 136) (by omega)
    rw [show 136 + (j - 136) = j from by omega] at e1 e2
    rw [← e1, ← e2, hcrc]
theorem byte4 (a b c d : UInt8) : byteD ⟨#[a, b, c, d]⟩ 0 = a ∧ byteD ⟨#[a, b, c, d]⟩ 1 = b ∧ byteD ⟨#[a, b, c, d]⟩ 2 = c ∧ byteD ⟨#[a, b, c, d]⟩ 3 = d := ⟨rfl, rfl, rfl, rfl⟩
theorem b8_zero {m k : Nat} (h : m < 256) (hk : 256 ≤ k) : b8 (m / k) = 0 := by
  rw [Nat.div_eq_of_lt (by omega)]
  decide
theorem small_bytes (m : Nat) (h : m < 256) : byteD (bytesS (nv m)) 0 = b8 m ∧ byteD (bytesS (nv m)) 1 = 0 ∧ byteD (bytesS (nv m)) 2 = 0 ∧ byteD (bytesS (nv m)) 3 = 0 := by
  have e := nv_toNat m (by omega)
  obtain ⟨h0, h1, h2, h3⟩ := byte4 (b8 m) (b8 (m / 256)) (b8 (m / 65536)) (b8 (m / 16777216))
  unfold bytesS
  rw [e, h0, h1, h2, h3]
  refine ⟨rfl, b8_zero h (by omega), b8_zero h (by omega), b8_zero h (by omega)⟩
/-- The version of a torn top is the old one or the new one. -/
theorem torn_ver (d d' : ByteArray) (m i : Nat) (hm : m + 1 < 256) (n : Nat) (hn : n ≤ 140) :
    numS ((cutB (packS d (nv (m + 1)) i) n (packS d' (nv m) i)).extract 128 132) = nv (m + 1) ∨ numS ((cutB (packS d (nv (m + 1)) i) n (packS d' (nv m) i)).extract 128 132) = nv m := by
  have h1 := packS_size d (nv (m + 1)) i
  have h2 := packS_size d' (nv m) i
  have hsz := cutB_size h1 h2 hn
  have hb := cutB_byte h1 h2 hn
  obtain ⟨_, _, _, p4, _⟩ := pack_parts d (nv (m + 1)) i
  obtain ⟨_, _, _, q4, _⟩ := pack_parts d' (nv m) i
  obtain ⟨_, a1, a2, a3⟩ := small_bytes (m + 1) hm
  obtain ⟨_, c1, c2, c3⟩ := small_bytes m (by omega)
  have key : ∀ (x : Nat) (t : ByteArray), t.extract 128 132 = bytesS (nv x) → t.size = 140 → (∀ k, k < 4 → byteD (cutB (packS d (nv (m + 1)) i) n (packS d' (nv m) i)) (128 + k) = byteD (bytesS (nv x)) k) → numS ((cutB (packS d (nv (m + 1)) i) n (packS d' (nv m) i)).extract 128 132) = nv x := by
    intro x t _ _ hk
    have e : (cutB (packS d (nv (m + 1)) i) n (packS d' (nv m) i)).extract 128 132 = bytesS (nv x) := by
      apply byte_ext
      · rw [ByteArray.size_extract, hsz, bytesS_size]; decide
      · intro k hk4
        rw [ByteArray.size_extract, hsz] at hk4
        rw [byteD_ext _ 128 132 k (by omega)]
        exact hk k (by omega)
    rw [e, num_bytes]
  have e1 : ∀ k, k < 4 → byteD (packS d (nv (m + 1)) i) (128 + k) = byteD (bytesS (nv (m + 1))) k := fun k hk => by rw [← p4, byteD_ext _ 128 132 k (by omega)]
  have e2 : ∀ k, k < 4 → byteD (packS d' (nv m) i) (128 + k) = byteD (bytesS (nv m)) k := fun k hk => by rw [← q4, byteD_ext _ 128 132 k (by omega)]
  by_cases h128 : n ≤ 128
  · right
    refine key m _ q4 h2 (fun k hk => ?_)
    rw [hb _ (by omega), if_neg (by omega), e2 k hk]
  · left
    refine key (m + 1) _ p4 h1 (fun k hk => ?_)
    rw [hb _ (by omega)]
    split
    · exact e1 k hk
    · rw [e2 k hk]
      have hk0 : k ≠ 0 := by omega
      match k, hk, hk0 with
      | 1, _, _ => rw [a1, c1]
      | 2, _, _ => rw [a2, c2]
      | 3, _, _ => rw [a3, c3]
end Go.Proofs.Ytbddelefglhaaaa
namespace Go.Proofs.Ytbddelefglhaaaa
set_option linter.unusedVariables false
set_option linter.unusedSimpArgs false
set_option linter.unusedSectionVars false
open Go.RowKit
/-- A device that holds a store and has no unfinished intent. -/
structure Idle (D : Dev) (I : Img) : Prop extends Holds D I where
  noint : intentL D = []
theorem Clean.idle {D : Dev} {I : Img} (h : Clean D I) : Idle D I := ⟨h.toHolds, h.noint⟩
/-- What any system finds on a device. -/
def After (E : Dev) (J : Img) : Prop := ∀ sy ep, Calm E sy ep → ∃ F b, finD E sy ep = (F, b, 0) ∧ Idle F J ∧ F.fuse = none ∧ F.fen = E.fen
theorem Idle.after {E : Dev} {J : Img} (h : Idle E J) (hf : E.fuse = none) : After E J := fun sy ep _ => ⟨E, false, by
  unfold finD
  rw [if_neg (by rw [h.live]; simp), if_pos h.noint], h, hf, rfl⟩
/-- A cleared head that is torn over an old one is the old one, or says nothing. -/
theorem torn_clear (l : Wl) (m : Nat) (hm : 1 ≤ m ∧ m < 256) (n : Nat) (h1 : 1 ≤ n) (hn : n ≤ 140) (E : Dev) (hc : E.content 33 = cutB blankR n (headR l (nv m))) : intentL E = [] := by
  have hs := packS_size (headDat l (nv m)) (nv m) 33
  have hb := cutB_byte blankR_size hs hn
  have hsz := cutB_size blankR_size hs hn
  obtain ⟨_, _, p3, p4, _⟩ := pack_parts (headDat l (nv m)) (nv m) 33
  obtain ⟨f0, _⟩ := head_flds l (nv m)
  obtain ⟨a0, a1, a2, a3⟩ := small_bytes m hm.2
  suffices hB : headB' E = false by
    unfold intentL intentB
    rw [hB]
    rfl
  unfold headB'
  have hH : headI E = rawOf (cutB blankR n (headR l (nv m))) 33 := by unfold headI; rw [hc]
  unfold rawOf at hH
  split at hH
  rotate_left
  · rw [hH]; rfl
  -- the first number is zero
  have hd4 : ∀ k, k < 4 → byteD (headR l (nv m)) k = byteD (bytesS (nv m)) k := fun k hk => by
    have e1 : bytesS (nv m) = (dataS (headDat l (nv m))).extract 0 4 := by
      have h9 : numS ((dataS (headDat l (nv m))).extract 0 4) = nv m := f0
      exact (num_bytes4 _ (by rw [ByteArray.size_extract, dataS_size]; decide) _ h9).symm
    have e2 := byteD_ext (headR l (nv m)) 0 128 k (by omega)
    unfold headR at e2 ⊢
    rw [p3, Nat.zero_add] at e2
    rw [← e2, e1, byteD_ext _ 0 4 k (by omega), Nat.zero_add]
  have hz4 : ∀ k, k < 4 → byteD (cutB blankR n (headR l (nv m))) k = 0 := fun k hk => by
    rw [show cutB blankR n (headR l (nv m)) = cutB blankR n (packS (headDat l (nv m)) (nv m) 33) from rfl, hb k (by omega)]
    split
    · exact blank_byte k (by omega)
    · have := hd4 k hk
      unfold headR at this
      rw [this]
      have h123 : k = 1 ∨ k = 2 ∨ k = 3 := by omega
      rcases h123 with h | h | h
      · rw [h]; exact a1
      · rw [h]; exact a2
      · rw [h]; exact a3
  have hf0 : fld ((cutB blankR n (headR l (nv m))).extract 0 128) 0 = 0#32 := by
    unfold fld
    have e : (((cutB blankR n (headR l (nv m))).extract 0 128).extract (4 * 0) (4 * 0 + 4)) = bytesS 0#32 := by
      have hsz' : (cutB blankR n (headR l (nv m))).size = 140 := hsz
      apply byte_ext
      · rw [ByteArray.size_extract, ByteArray.size_extract, hsz', bytesS_size]; decide
      · intro k hk
        rw [ByteArray.size_extract, ByteArray.size_extract, hsz'] at hk
        have hk4 : k < 4 := by omega
        rw [byteD_ext _ _ _ k (by omega), byteD_ext _ 0 128 _ (by omega), show 0 + (4 * 0 + k) = k from by omega, hz4 k hk4]
        have : ∀ k : Fin 4, (0 : UInt8) = byteD (bytesS 0#32) k.1 := by decide
        exact this ⟨k, hk4⟩
    rw [e, num_bytes]
  by_cases h128 : n ≤ 128
  · have hv : numS ((cutB blankR n (headR l (nv m))).extract 128 132) = nv m := by
      have hsz' : (cutB blankR n (headR l (nv m))).size = 140 := hsz
      have e : (cutB blankR n (headR l (nv m))).extract 128 132 = bytesS (nv m) := by
        apply byte_ext
        · rw [ByteArray.size_extract, hsz', bytesS_size]; decide
        · intro k hk
          rw [ByteArray.size_extract, hsz'] at hk
          rw [byteD_ext _ 128 132 k (by omega), ← p4, byteD_ext _ 128 132 k (by omega)]
          exact (hb (128 + k) (by omega)).trans (if_neg (by omega))
      rw [e, num_bytes]
    rw [hH]
    simp only [hf0, hv]
    have hne : ((0#32 : U32) == nv m) = false := beq_eq_false_iff_ne.2 (fun e => by
      have := congrArg BitVec.toNat e
      rw [nv_toNat m (by omega)] at this
      simp at this
      omega)
    rw [hne]
    rfl
  · have hcnt : cntI E = 0 := by
      unfold cntI
      rw [hH]
      show (fld ((cutB blankR n (headR l (nv m))).extract 0 128) 1).toNat = 0
      have hsz' : (cutB blankR n (headR l (nv m))).size = 140 := hsz
      have e : (((cutB blankR n (headR l (nv m))).extract 0 128).extract (4 * 1) (4 * 1 + 4)) = bytesS 0#32 := by
        apply byte_ext
        · rw [ByteArray.size_extract, ByteArray.size_extract, hsz', bytesS_size]; decide
        · intro k hk
          rw [ByteArray.size_extract, ByteArray.size_extract, hsz'] at hk
          have hk4 : k < 4 := by omega
          rw [byteD_ext _ _ _ k (by omega), byteD_ext _ 0 128 _ (by omega), show 0 + (4 * 1 + k) = 4 + k from by omega]
          rw [show byteD (cutB blankR n (headR l (nv m))) (4 + k) = 0 from (hb (4 + k) (by omega)).trans ((if_pos (by omega)).trans (blank_byte _ (by omega)))]
          have : ∀ k : Fin 4, (0 : UInt8) = byteD (bytesS 0#32) k.1 := by decide
          exact this ⟨k, hk4⟩
      unfold fld
      rw [e, num_bytes]
      rfl
    rw [hcnt]
    simp
/-- A device whose intent is that of a commit is finished to what the commit makes. -/
theorem finish_after {D E : Dev} {I : Img} {ws : Wl} (h : Holds D I) (ht : Takes I ws) (hE : E.Ok) (hlen : E.st.length = D.st.length) (hlive : E.failed = false) (hp : E.pend = []) (hf : E.fuse = none)
    (hi : intentL E = wlI (entL (I.upd ws) ws)) (hat : ∀ i, (i ≤ 32 ∨ 131 ≤ i) → lastE (entL (I.upd ws) ws) i = none → E.at i = D.at i) : After E (I.upd ws) := by
  intro sy ep hc
  have he := entL_ok h.img ht
  rw [← h.len, ← hlen] at he
  have hlow := he.low
  have r1 := runS_list sy ep (entL (I.upd ws) ws) E hc hf hp he.lt
  have k1 := applyW_kept (entL (I.upd ws) ws) E hE he.lt
  have c1 := hc.kept k1
  have ho : okW (applyW E (entL (I.upd ws) ws)) [(33, blankR)] := okW_one (by rw [k1.len]; omega) _ blankR_size
  have r2 := runS_list sy ep [(33, blankR)] _ c1 (k1.fuse.trans hf) (k1.pend.trans hp) ho
  have k2 := applyW_kept [(33, blankR)] _ k1.ok ho
  have hrun : runS sy ep (complS (intentL E)) E = (applyW (applyW E (entL (I.upd ws) ws)) [(33, blankR)], 0) := by
    rw [hi, complS_is, runS_app, r1, if_pos rfl, r2]
  refine ⟨applyW (applyW E (entL (I.upd ws) ws)) [(33, blankR)], true, ?_, ?_, k2.fuse.trans (k1.fuse.trans hf), k2.fen.trans k1.fen⟩
  · unfold finD
    rw [if_neg (by rw [hlive]; simp), if_neg (by rw [hi]; unfold wlI entL; simp), hrun]
    rfl
  · have hh : Holds (applyW (applyW E (entL (I.upd ws) ws)) [(33, blankR)]) (I.upd ws) := upd_holds h ht _ k2.ok (k2.len.trans (k1.len.trans hlen)) (k2.failed.trans (k1.failed.trans hlive)) (k2.pend.trans (k1.pend.trans hp)) (fun i hi2 => by
      rw [one_at _ _ _ ho, if_neg (by omega), applyW_at _ _ he.lt]
      cases hl : lastE (entL (I.upd ws) ws) i with
      | some s => rfl
      | none => exact hat i hi2 hl)
    refine (Clean.mk hh ?_).idle
    rw [one_at _ _ _ ho, if_pos rfl]
theorem calm_of_pend {D : Dev} (h : D.pend = []) (i : Nat) : D.content i = D.at i := by unfold Dev.content; rw [h]; rfl
end Go.Proofs.Ytbddelefglhaaaa
namespace Go.Proofs.Ytbddelefglhaaaa
set_option linter.unusedVariables false
set_option linter.unusedSimpArgs false
set_option linter.unusedSectionVars false
open Go.RowKit
theorem applyW_setP (l : Wl) (P : List Wr) (fu : Option (Nat × List Int)) : ∀ D : Dev, applyW (setP D P fu) l = setP (applyW D l) P fu := by
  induction l with
  | nil => intro D; rfl
  | cons e l ih =>
    intro D
    show applyW (changeD (setP D P fu) e.1 e.2) l = setP (applyW (changeD D e.1 e.2) l) P fu
    rw [← ih]
    congr 1
    unfold changeD
    show (if D.at e.1 = e.2 then _ else _) = setP (if D.at e.1 = e.2 then _ else _) P fu
    split <;> rfl
theorem Calm.setE {D : Dev} {sy ep : Int} (h : Calm D sy ep) (fu : Option (Nat × List Int)) : Calm (setP D [] fu) sy ep :=
  ⟨⟨h.ok.len, h.ok.pos, h.ok.lim, h.ok.st, h.ok.old, fun r hr => (by cases hr), h.ok.fen⟩, h.live, h.plain, h.free⟩
theorem Holds.same {D E : Dev} {I : Img} (h : Holds D I) (hE : E.Ok) (hlen : E.st.length = D.st.length) (hl : E.failed = false) (hp : E.pend = []) (hat : ∀ i, (i ≤ 32 ∨ 131 ≤ i) → E.at i = D.at i) : Holds E I :=
  ⟨hE, h.img, hlen.trans h.len, hl, hp, (hat 0 (by omega)).trans h.top, fun k hk => (hat (1 + k) (by omega)).trans (h.map k hk), fun i hi => (hat (131 + i) (by omega)).trans (h.dat i hi)⟩
theorem repair_ok {E : Dev} (h : E.Ok) : (repairD E).Ok := ⟨h.len, h.pos, h.lim, h.st, h.old, h.pend, h.fen⟩
theorem lastE_out {l : Wl} (hn : (l.map (·.1)).Nodup) {i : Nat} (h : lastE l i = none) : ∀ e ∈ l, e.1 ≠ i := fun e he hq => by
  have := lastE_one l hn e he
  rw [hq, h] at this
  cases this
theorem take_keys {l : Wl} (f : Nat) (hn : (l.map (·.1)).Nodup) : ((l.take f).map (·.1)).Nodup := by
  rw [List.map_take]
  exact hn.sublist (List.take_sublist _ _)
theorem runS_stop {sy ep : Int} {a b : List St} {D E : Dev} (h : runS sy ep a D = (E, 10)) : runS sy ep (a ++ b) D = (E, 10) := by
  rw [runS_app, h, if_neg (by simp)]
theorem runS_go {sy ep : Int} {a b : List St} {D E : Dev} (h : runS sy ep a D = (E, 0)) : runS sy ep (a ++ b) D = runS sy ep b E := by
  rw [runS_app, h, if_pos rfl]
theorem ver_next (N : Nat) (h : N + 1 < 256) : (nv (N + 1)).toNat = (nv N).toNat + 1 := by rw [nv_toNat _ (by omega), nv_toNat _ (by omega)]
set_option maxHeartbeats 1000000 in
theorem commit_fused {D : Dev} {I : Img} {ws : Wl} {sy ep : Int} {f : Nat} {sv : List Int} (h : Clean D I) (ht : Takes I ws) (hN : I.N + 1 < 256) (hc : Calm D sy ep) (hf : D.fuse = some (f, sv)) :
    (∃ E, runS sy ep (commitS (entL (I.upd ws) ws) (nv (I.N + 1))) D = (E, 0) ∧ Clean (repairD E) (I.upd ws) ∧ E.fen = D.fen ∧ E.Ok ∧ E.st.length = D.st.length) ∨
    (∃ E, runS sy ep (commitS (entL (I.upd ws) ws) (nv (I.N + 1))) D = (E, 10) ∧ E.fen = D.fen ∧ E.Ok ∧ E.st.length = D.st.length ∧ E.failed = true ∧ (After (repairD E) I ∨ After (repairD E) (I.upd ws))) := by
  have he := entL_ok h.img ht
  rw [← h.len] at he
  obtain ⟨l, hl⟩ : ∃ l, entL (I.upd ws) ws = l := ⟨_, rfl⟩
  obtain ⟨v, hv⟩ : ∃ v, nv (I.N + 1) = v := ⟨_, rfl⟩
  have htop0 : l[0]? = some (0, (I.upd ws).topR) := by rw [← hl]; rfl
  have hfin := fun (E : Dev) a b c d e f g => finish_after (D := D) (E := E) (I := I) (ws := ws) h.toHolds ht a b c d e f g
  have hupd := fun (E : Dev) a b c d e => upd_holds (E := E) h.toHolds ht a b c d e
  rw [hl] at he hfin hupd ⊢
  rw [hv] at he ⊢
  obtain ⟨k1, k2, k3, k4⟩ := ph_kept (v := v) h.ok he
  obtain ⟨l1, l2, l3, l4⟩ := ph_len (v := v) h.ok he
  have hlow := he.low
  have hlim := he.lim
  have hnd := he.nodup
  have hout : ∀ e ∈ l, e.1 ≤ 32 ∨ 131 ≤ e.1 := fun e hm => (he.place e hm).imp id (fun h => h.1)
  have hlen0 : 131 ≤ D.st.length := hlow
  -- the sectors behind each phase
  have a1 : ∀ i, (i ≤ 33 ∨ 131 ≤ i) → (ph1 D l).at i = D.at i := fun i hi => by rw [ph1_at he, dif_neg (by omega)]
  have s1 : ∀ j (hj : j < l.length), (ph1 D l).at (34 + j) = l[j].2 := fun j hj => by
    rw [ph1_at he, dif_pos ⟨by omega, by omega⟩]
    congr 2
    omega
  have a2 : ∀ i, i ≠ 33 → (ph2 D l v).at i = (ph1 D l).at i := fun i hi => by rw [ph2_at h.ok he, if_neg hi]
  have b2 : (ph2 D l v).at 33 = headR l v := by rw [ph2_at h.ok he, if_pos rfl]
  have no33 : lastE l 33 = none := lastE_none _ _ (fun e hm hq => by have := hout e hm; omega)
  have noslot : ∀ j, j < l.length → lastE l (34 + j) = none := fun j hj => lastE_none _ _ (fun e hm hq => by have := hout e hm; omega)
  have c1 := hc.kept k1
  have c2 := c1.kept k2
  have c3 := c2.kept k3
  have hph3 : ∀ i, (i ≤ 32 ∨ 131 ≤ i) → (ph3 D l v).at i = (lastE l i).getD (D.at i) := fun i hi => by
    rw [ph3_at h.ok he, a2 i (by omega), a1 i (by omega)]
  -- phase 1
  rcases list_use sy ep sv (slotsW l) D f hc hf h.pend (slotsW_ok he) with ⟨_, r1⟩ | ⟨_, r1⟩
  rotate_left
  · right
    have ot : okW D ((slotsW l).take f) := fun e hm => slotsW_ok he e (List.mem_of_mem_take hm)
    obtain ⟨o1, o2⟩ := broke_ok D sy ((slotsW l).take f) sv hc ot
    have hat := (broke_at D sy ((slotsW l).take f) sv h.ok ot (take_keys f (slotsW_nodup l))).1
    have hkey : ∀ i, (i ≤ 33 ∨ 131 ≤ i) → (broke D (wrs sy ((slotsW l).take f)) sv).at i = D.at i := fun i hi => hat i (fun e hm hq => by
      obtain ⟨j, hj, rfl⟩ := slotsW_mem l e (List.mem_of_mem_take hm)
      simp only [] at hq
      omega)
    refine ⟨_, runS_stop r1, rfl, o1, o2, rfl, .inl ?_⟩
    have hh : Holds (repairD (broke D (wrs sy ((slotsW l).take f)) sv)) I := h.toHolds.same (repair_ok o1) o2 rfl rfl (fun i hi => hkey i (by omega))
    exact (Clean.mk hh ((hkey 33 (by omega)).trans h.head)).idle.after rfl
  have e1 : setP (applyW D (slotsW l)) [] (some (f - ((slotsW l).length + 1), sv)) = setP (ph1 D l) [] (some (f - ((slotsW l).length + 1), sv)) := rfl
  rw [e1] at r1
  generalize f - ((slotsW l).length + 1) = f1 at r1
  have d1 := c1.setE (some (f1, sv))
  have hlen1 : (setP (ph1 D l) [] (some (f1, sv))).st.length = D.st.length := l1
  have ok33 : ∀ s : ByteArray, s.size = 140 → okW (setP (ph1 D l) [] (some (f1, sv))) [(33, s)] := fun s hs => okW_one (by rw [hlen1]; exact hlen0) s hs
  -- phase 2
  rcases list_use sy ep sv [(33, headR l v)] (setP (ph1 D l) [] (some (f1, sv))) f1 d1 rfl rfl (ok33 _ (packS_size ..)) with ⟨_, r2⟩ | ⟨_, r2⟩
  rotate_left
  · right
    have ot : okW (setP (ph1 D l) [] (some (f1, sv))) ([(33, headR l v)].take f1) := fun e hm => ok33 _ (packS_size ..) e (List.mem_of_mem_take hm)
    obtain ⟨o1, o2⟩ := broke_ok _ sy ([(33, headR l v)].take f1) sv d1 ot
    obtain ⟨hat, hcut⟩ := broke_at _ sy ([(33, headR l v)].take f1) sv d1.ok ot (take_keys f1 (by simp))
    obtain ⟨E, hE⟩ : ∃ E, broke (setP (ph1 D l) [] (some (f1, sv))) (wrs sy ([(33, headR l v)].take f1)) sv = E := ⟨_, rfl⟩
    rw [hE] at r2 o1 o2 hat hcut
    have hkey : ∀ i, i ≠ 33 → E.at i = (ph1 D l).at i := fun i hi => hat i (fun e hm hq => by
      have := List.mem_of_mem_take hm
      rw [List.mem_singleton.1 this] at hq
      exact hi hq.symm)
    have hlenE : E.st.length = D.st.length := o2.trans hlen1
    have hpE : E.pend = [] := by rw [← hE]; rfl
    have hfE : E.fen = D.fen := by rw [← hE]; exact k1.fen
    have hfa : E.failed = true := by rw [← hE]; rfl
    have hh : Holds (repairD E) I := h.toHolds.same (repair_ok o1) hlenE rfl hpE (fun i hi => (hkey i (by omega)).trans (a1 i (by omega)))
    refine ⟨E, by unfold commitS; rw [runS_go r1]; exact runS_stop r2, hfE, o1, hlenE, hfa, ?_⟩
    have h33 : E.at 33 = blankR ∨ ∃ n, n ≤ 140 ∧ E.at 33 = cutB (headR l v) n blankR := by
      cases f1 with
      | zero => exact .inl ((hat 33 (fun e hm => by cases hm)).trans ((a1 33 (by omega)).trans h.head))
      | succ g =>
        obtain ⟨n, hn, e⟩ := hcut (33, headR l v) (by simp)
        have e' : E.at 33 = cutB (headR l v) n ((ph1 D l).at 33) := e
        rw [a1 33 (by omega), h.head] at e'
        exact .inr ⟨n, hn, e'⟩
    rcases h33 with h33 | ⟨n, hn, h33⟩
    · exact .inl ((Clean.mk hh h33).idle.after rfl)
    · by_cases hok : okR (cutB (headR l v) n blankR) 33
      · right
        have hw := torn_head _ _ n hn hok
        have h33' : E.at 33 = headR l v := h33.trans hw
        refine hfin (repairD E) (repair_ok o1) hlenE rfl hpE rfl (intent_of (repairD E) l v (by rw [show (repairD E).st.length = D.st.length from hlenE]; exact he) hpE h33' (fun j hj => (hkey (34 + j) (by omega)).trans (s1 j hj)) (fun _ => .inr ?_)) (fun i hi _ => (hkey i (by omega)).trans (a1 i (by omega)))
        rw [hh.topI, ← hv]
        exact ver_next I.N hN
      · left
        refine (Idle.mk hh (noint_head _ ?_)).after rfl
        unfold headI rawOf
        rw [calm_of_pend (D := repairD E) hpE 33, show (repairD E).at 33 = cutB (headR l v) n blankR from h33, if_neg hok]
        rfl
  have e2 : applyW (setP (ph1 D l) [] (some (f1, sv))) [(33, headR l v)] = setP (ph2 D l v) [] (some (f1, sv)) := applyW_setP _ _ _ _
  rw [e2, setP_setP] at r2
  generalize f1 - ([(33, headR l v)].length + 1) = f2 at r2
  have d2 := c2.setE (some (f2, sv))
  have hlen2 : (setP (ph2 D l v) [] (some (f2, sv))).st.length = D.st.length := l2
  have okl : okW (setP (ph2 D l v) [] (some (f2, sv))) l := fun e hm => by rw [hlen2]; exact he.lt e hm
  -- phase 3
  rcases list_use sy ep sv l (setP (ph2 D l v) [] (some (f2, sv))) f2 d2 rfl rfl okl with ⟨_, r3⟩ | ⟨_, r3⟩
  rotate_left
  · right
    have ot : okW (setP (ph2 D l v) [] (some (f2, sv))) (l.take f2) := fun e hm => okl e (List.mem_of_mem_take hm)
    obtain ⟨o1, o2⟩ := broke_ok _ sy (l.take f2) sv d2 ot
    obtain ⟨hat, hcut⟩ := broke_at _ sy (l.take f2) sv d2.ok ot (take_keys f2 hnd)
    obtain ⟨E, hE⟩ : ∃ E, broke (setP (ph2 D l v) [] (some (f2, sv))) (wrs sy (l.take f2)) sv = E := ⟨_, rfl⟩
    rw [hE] at r3 o1 o2 hat hcut
    have hlenE : E.st.length = D.st.length := o2.trans hlen2
    have hpE : E.pend = [] := by rw [← hE]; rfl
    have hfE : E.fen = D.fen := by rw [← hE]; exact k2.fen.trans k1.fen
    have hfa : E.failed = true := by rw [← hE]; rfl
    have hno : ∀ i, (∀ e ∈ l, e.1 ≠ i) → E.at i = (ph2 D l v).at i := fun i hi => hat i (fun e hm => hi e (List.mem_of_mem_take hm))
    have h33 : E.at 33 = headR l v := (hno 33 (lastE_out hnd no33)).trans b2
    refine ⟨E, by unfold commitS; rw [runS_go r1, runS_go r2]; exact runS_stop r3, hfE, o1, hlenE, hfa, .inr ?_⟩
    refine hfin (repairD E) (repair_ok o1) hlenE rfl hpE rfl (intent_of (repairD E) l v (by rw [show (repairD E).st.length = D.st.length from hlenE]; exact he) hpE h33 (fun j hj => ?_) (fun hok => ?_)) (fun i hi hq => ?_)
    · exact (hno (34 + j) (lastE_out hnd (noslot j hj))).trans ((a2 _ (by omega)).trans (s1 j hj))
    · have htop : E.at 0 = I.topR ∨ ∃ n, n ≤ 140 ∧ E.at 0 = cutB (I.upd ws).topR n I.topR := by
        have hD0 : (ph2 D l v).at 0 = I.topR := (a2 0 (by omega)).trans ((a1 0 (by omega)).trans h.top)
        cases f2 with
        | zero => exact .inl ((hat 0 (fun e hm => by cases hm)).trans hD0)
        | succ g =>
          have hm : (0, (I.upd ws).topR) ∈ l.take (g + 1) := by
            refine List.mem_of_getElem? (i := 0) ?_
            rw [List.getElem?_take, if_pos (by omega)]
            exact htop0
          obtain ⟨n, hn, e⟩ := hcut _ hm
          have e' : E.at 0 = cutB (I.upd ws).topR n ((ph2 D l v).at 0) := e
          rw [hD0] at e'
          exact .inr ⟨n, hn, e'⟩
      have hct : topI (repairD E) = rawOf (E.at 0) 0 := by unfold topI; rw [calm_of_pend (D := repairD E) hpE 0]; rfl
      rw [hct] at hok ⊢
      rcases htop with h0 | ⟨n, hn, h0⟩
      · right
        rw [h0]
        unfold Img.topR
        rw [rawOf_pack, ← hv]
        exact ver_next I.N hN
      · rw [h0] at hok ⊢
        have hver := torn_ver (vbytes (I.upd ws).tops) (vbytes I.tops) I.N 0 hN n hn
        have e9 : cutB (packS (vbytes (I.upd ws).tops) (nv (I.N + 1)) ((0 : Nat) : Int)) n (packS (vbytes I.tops) (nv I.N) ((0 : Nat) : Int)) = cutB (I.upd ws).topR n I.topR := rfl
        rw [e9] at hver
        unfold rawOf at hok ⊢
        by_cases hk : okR (cutB (I.upd ws).topR n I.topR) 0
        · rw [if_pos hk]
          show v = numS _ ∨ v.toNat = (numS _).toNat + 1
          rcases hver with h9 | h9
          · left; rw [h9, hv]
          · right; rw [h9, ← hv]; exact ver_next I.N hN
        · rw [if_neg hk] at hok; cases hok
    · exact (hno i (lastE_out hnd hq)).trans ((a2 i (by omega)).trans (a1 i (by omega)))
  have e3 : applyW (setP (ph2 D l v) [] (some (f2, sv))) l = setP (ph3 D l v) [] (some (f2, sv)) := applyW_setP _ _ _ _
  rw [e3, setP_setP] at r3
  generalize f2 - (l.length + 1) = f3 at r3
  have d3 := c3.setE (some (f3, sv))
  have hlen3 : (setP (ph3 D l v) [] (some (f3, sv))).st.length = D.st.length := l3
  have okb : okW (setP (ph3 D l v) [] (some (f3, sv))) [(33, blankR)] := okW_one (by rw [hlen3]; exact hlen0) _ blankR_size
  -- phase 4
  rcases list_use sy ep sv [(33, blankR)] (setP (ph3 D l v) [] (some (f3, sv))) f3 d3 rfl rfl okb with ⟨_, r4⟩ | ⟨_, r4⟩
  · left
    have e4 : applyW (setP (ph3 D l v) [] (some (f3, sv))) [(33, blankR)] = setP (ph4 D l v) [] (some (f3, sv)) := applyW_setP _ _ _ _
    rw [e4, setP_setP] at r4
    generalize f3 - ([(33, blankR)].length + 1) = f4 at r4
    refine ⟨setP (ph4 D l v) [] (some (f4, sv)), by unfold commitS; rw [runS_go r1, runS_go r2, runS_go r3, r4], ?_, k4.fen.trans (k3.fen.trans (k2.fen.trans k1.fen)), (c3.kept k4).setE (some (f4, sv)) |>.ok, l4⟩
    refine Clean.mk (hupd _ (repair_ok ((c3.kept k4).setE (some (f4, sv))).ok) l4 rfl rfl (fun i hi => ?_)) ?_
    · exact ph4_out h.ok he i hi
    · show (ph4 D l v).at 33 = _
      rw [ph4_at h.ok he, if_pos rfl]
  · right
    have ot : okW (setP (ph3 D l v) [] (some (f3, sv))) ([(33, blankR)].take f3) := fun e hm => okb e (List.mem_of_mem_take hm)
    obtain ⟨o1, o2⟩ := broke_ok _ sy ([(33, blankR)].take f3) sv d3 ot
    obtain ⟨hat, hcut⟩ := broke_at _ sy ([(33, blankR)].take f3) sv d3.ok ot (take_keys f3 (by simp))
    obtain ⟨E, hE⟩ : ∃ E, broke (setP (ph3 D l v) [] (some (f3, sv))) (wrs sy ([(33, blankR)].take f3)) sv = E := ⟨_, rfl⟩
    rw [hE] at r4 o1 o2 hat hcut
    have hkey : ∀ i, i ≠ 33 → E.at i = (ph3 D l v).at i := fun i hi => hat i (fun e hm hq => by
      have := List.mem_of_mem_take hm
      rw [List.mem_singleton.1 this] at hq
      exact hi hq.symm)
    have hlenE : E.st.length = D.st.length := o2.trans hlen3
    have hpE : E.pend = [] := by rw [← hE]; rfl
    have hfE : E.fen = D.fen := by rw [← hE]; exact k3.fen.trans (k2.fen.trans k1.fen)
    have hfa : E.failed = true := by rw [← hE]; rfl
    have hh : Holds (repairD E) (I.upd ws) := hupd _ (repair_ok o1) hlenE rfl hpE (fun i hi => (hkey i (by omega)).trans (hph3 i hi))
    have b3 : (ph3 D l v).at 33 = headR l v := by rw [ph3_at h.ok he, no33]; exact b2
    refine ⟨E, by unfold commitS; rw [runS_go r1, runS_go r2, runS_go r3, r4], hfE, o1, hlenE, hfa, .inr ?_⟩
    have hwhole : E.at 33 = headR l v → After (repairD E) (I.upd ws) := fun h33 => by
      refine hfin (repairD E) (repair_ok o1) hlenE rfl hpE rfl (intent_of (repairD E) l v (by rw [show (repairD E).st.length = D.st.length from hlenE]; exact he) hpE h33 (fun j hj => ?_) (fun _ => .inl ?_)) (fun i hi hq => ?_)
      · refine (hkey (34 + j) (by omega)).trans ?_
        rw [ph3_at h.ok he, noslot j hj]
        exact (a2 _ (by omega)).trans (s1 j hj)
      · rw [hh.topI]
        exact hv.symm
      · rw [show (repairD E).at i = E.at i from rfl, hkey i (by omega), hph3 i hi, hq]
        rfl
    have h33 : E.at 33 = headR l v ∨ ∃ n, n ≤ 140 ∧ E.at 33 = cutB blankR n (headR l v) := by
      cases f3 with
      | zero => exact .inl ((hat 33 (fun e hm => by cases hm)).trans b3)
      | succ g =>
        obtain ⟨n, hn, e⟩ := hcut (33, blankR) (by simp)
        have e' : E.at 33 = cutB blankR n ((ph3 D l v).at 33) := e
        rw [b3] at e'
        exact .inr ⟨n, hn, e'⟩
    rcases h33 with h33 | ⟨n, hn, h33⟩
    · exact hwhole h33
    · by_cases h0 : n = 0
      · subst h0
        apply hwhole
        rw [h33]
        have hsH : (headR l v).size = 140 := packS_size ..
        apply byte_ext ((cutB_size blankR_size hsH (by omega)).trans hsH.symm)
        intro j hj
        rw [cutB_size blankR_size hsH (by omega)] at hj
        rw [cutB_byte blankR_size hsH (by omega) j hj, if_neg (by omega)]
      · refine (Idle.mk hh (torn_clear l (I.N + 1) ⟨by omega, hN⟩ n (by omega) hn _ ?_)).after rfl
        rw [calm_of_pend (D := repairD E) hpE 33, hv]
        exact h33
end Go.Proofs.Ytbddelefglhaaaa
namespace Go.Proofs.Ytbddelefglhaaaa
set_option linter.unusedVariables false
set_option linter.unusedSimpArgs false
set_option linter.unusedSectionVars false
open Go.RowKit
def fitsP (D : Dev) (sy ep : Int) : Bool := decide (132 ≤ D.st.length ∧ D.st.length ≤ 1155) && plainW sy ep
/-- The store without writes. -/
def img0 (n : Nat) : Img := ⟨n, 1, fun _ => 1, fun _ => 1, fun _ => zeroS 128⟩
def emptyS : ByteArray := ⟨#[]⟩
def fmtMap (n k : Nat) : List U32 := (List.range 32).map fun j => if 32 * k + j < n then nv 1 else nv 0
def fmtW (n : Nat) : Wl := ((List.range n).map fun i => (131 + i, packS emptyS (nv 1) (131 + i : Nat))) ++ (((List.range 32).map fun k => (1 + k, packS (vbytes (fmtMap n k)) (nv 1) (1 + k : Nat))) ++ [(0, packS (vbytes ((List.range 32).map fun _ => nv 1)) (nv 1) 0), (33, blankR)])
def formatP (D : Dev) (sy ep : Int) : Dev × Int := if fitsP D sy ep = false then (D, 1) else runS sy ep (puts (fmtW (D.st.length - 131)) ++ [.sync]) D
def openP (D : Dev) (sy ep : Int) : Dev × Int :=
  if fitsP D sy ep = false then (D, 1) else if (finD D sy ep).2.2 ≠ 0 then ((finD D sy ep).1, (finD D sy ep).2.2) else if (topI (finD D sy ep).1).ok = false then ((finD D sy ep).1, 11) else ((finD D sy ep).1, 0)
def numberP (D : Dev) (sy ep : Int) : Dev × Int × Int :=
  if (finD D sy ep).2.2 ≠ 0 then ((finD D sy ep).1, 0, (finD D sy ep).2.2) else if (topI (finD D sy ep).1).ok = false then ((finD D sy ep).1, 0, 11) else ((finD D sy ep).1, u32 (topI (finD D sy ep).1).ver, 0)
def readP (D : Dev) (sy ep : Int) (i : Int) : Dev × ByteArray × Int :=
  if (finD D sy ep).2.2 ≠ 0 then ((finD D sy ep).1, emptyS, (finD D sy ep).2.2)
  else if i < 0 ∨ (D.st.length : Int) - 131 ≤ i then ((finD D sy ep).1, emptyS, 2)
  else ((finD D sy ep).1, if (lookI (finD D sy ep).1 i.toNat).2 = 0 then (lookI (finD D sy ep).1 i.toNat).1 else emptyS, (lookI (finD D sy ep).1 i.toNat).2)
/-- The error of writes by themselves. -/
def checkP (n : Nat) (ws : List (Int × ByteArray)) : Int :=
  if (ws.any fun e => decide (e.2.size ≠ 128)) = true ∨ ¬ (ws.map (·.1)).Nodup then 1 else if (ws.any fun e => decide (e.1 < 0 ∨ (n : Int) ≤ e.1)) = true then 2 else if 64 < ws.length then 8 else 0
/-- Writes of a store with n sectors, in increasing order. -/
def sortW (n : Nat) (ws : List (Int × ByteArray)) : Wl := (List.range n).filterMap fun (i : Nat) => (ws.find? fun e => e.1 == (i : Int)).map fun e => (i, e.2)
/-- The first error of the map sectors of some writes. -/
def mapsE (E : Dev) : List Nat → Int
  | [] => 0
  | k :: l => if (mapI E k).ok = false then 11 else if (mapI E k).ver ≠ fld (topI E).data k then 12 else mapsE E l
def newTop (E : Dev) (S : Wl) (v : U32) : List U32 := (List.range 32).map fun k => if (S.any fun e => e.1 / 32 == k) = true then v else fld (topI E).data k
def newMap (E : Dev) (S : Wl) (v : U32) (k : Nat) : List U32 := (List.range 32).map fun j => if (lastE S (32 * k + j)).isSome = true then v else fld (mapI E k).data j
def entG (E : Dev) (S : Wl) (v : U32) : Wl := (0, packS (vbytes (newTop E S v)) v 0) :: ((ksW S).map (fun k => (1 + k, packS (vbytes (newMap E S v k)) v (1 + k : Nat))) ++ S.map fun e => (131 + e.1, packS e.2 v (131 + e.1 : Nat)))
def commitP (D : Dev) (sy ep : Int) (ws : List (Int × ByteArray)) : Dev × Int :=
  if (finD D sy ep).2.2 ≠ 0 then ((finD D sy ep).1, (finD D sy ep).2.2)
  else if checkP (D.st.length - 131) ws ≠ 0 ∨ ws = [] then ((finD D sy ep).1, checkP (D.st.length - 131) ws)
  else if (topI (finD D sy ep).1).ok = false then ((finD D sy ep).1, 11)
  else if mapsE (finD D sy ep).1 (ksW (sortW (D.st.length - 131) ws)) ≠ 0 then ((finD D sy ep).1, mapsE (finD D sy ep).1 (ksW (sortW (D.st.length - 131) ws)))
  else if (topI (finD D sy ep).1).ver = 4294967295#32 then ((finD D sy ep).1, 8)
  else runS sy ep (commitS (entG (finD D sy ep).1 (sortW (D.st.length - 131) ws) ((topI (finD D sy ep).1).ver + 1#32)) ((topI (finD D sy ep).1).ver + 1#32)) (finD D sy ep).1
theorem dataS_empty : dataS emptyS = zeroS 128 := by decide +kernel
theorem pack_data {d d' : ByteArray} (h : dataS d = dataS d') (v : U32) (i : Int) : packS d v i = packS d' v i := by unfold packS bodyR; rw [h]
theorem nv_succ (N : Nat) : nv N + 1#32 = nv (N + 1) := by
  unfold nv
  rw [← BitVec.ofNat_add]
theorem fmt_keys (n : Nat) : ((fmtW n).map (·.1)).Nodup := by
  unfold fmtW
  rw [List.map_append, List.map_append, List.map_map, List.map_map]
  refine List.nodup_append.2 ⟨?_, List.nodup_append.2 ⟨?_, by simp, ?_⟩, ?_⟩
  · rw [List.Nodup, List.pairwise_map]
    exact List.nodup_range.imp (fun {a b} hab he => hab (by simp only [Function.comp] at he; omega))
  · rw [List.Nodup, List.pairwise_map]
    exact List.nodup_range.imp (fun {a b} hab he => hab (by simp only [Function.comp] at he; omega))
  · intro a ha b hb e
    obtain ⟨k, hk, rfl⟩ := List.mem_map.1 ha
    have := List.mem_range.1 hk
    simp only [Function.comp] at e
    simp at hb
    omega
  · intro a ha b hb e
    obtain ⟨k, hk, rfl⟩ := List.mem_map.1 ha
    simp only [Function.comp] at e
    rcases List.mem_append.1 hb with hb | hb
    · obtain ⟨j, hj, rfl⟩ := List.mem_map.1 hb
      have := List.mem_range.1 hj
      simp only [Function.comp] at e
      omega
    · simp at hb
      omega
theorem fmt_ok {D : Dev} {n : Nat} (h : D.st.length = 131 + n) : okW D (fmtW n) := by
  intro e he
  unfold fmtW at he
  rcases List.mem_append.1 he with he | he
  · obtain ⟨i, hi, rfl⟩ := List.mem_map.1 he
    have := List.mem_range.1 hi
    exact ⟨by show 131 + i < _; omega, packS_size ..⟩
  rcases List.mem_append.1 he with he | he
  · obtain ⟨k, hk, rfl⟩ := List.mem_map.1 he
    have := List.mem_range.1 hk
    exact ⟨by show 1 + k < _; omega, packS_size ..⟩
  · simp only [List.mem_cons, List.not_mem_nil, or_false] at he
    rcases he with rfl | rfl
    · exact ⟨by show 0 < _; omega, packS_size ..⟩
    · exact ⟨by show 33 < _; omega, blankR_size⟩
/-- A formatted device. -/
theorem format_clean {D : Dev} {sy ep : Int} {n : Nat} (hc : Calm D sy ep) (hf : D.fuse = none) (hp : D.pend = []) (hl : D.st.length = 131 + n) (h1 : 1 ≤ n) (h2 : n ≤ 1024) :
    ∃ E, formatP D sy ep = (E, 0) ∧ Clean E (img0 n) ∧ E.fen = D.fen ∧ E.fuse = none := by
  have ho := fmt_ok hl
  have k := applyW_kept (fmtW n) D hc.ok ho
  have hm : ∀ e ∈ fmtW n, (applyW D (fmtW n)).at e.1 = e.2 := fun e he => by
    rw [applyW_at _ _ ho, lastE_one _ (fmt_keys n) e he]
    rfl
  refine ⟨applyW D (fmtW n), ?_, ⟨⟨k.ok, ⟨h1, h2, by show 1 < _; omega, fun _ => Nat.le_refl _, fun _ => Nat.le_refl _, fun _ _ => zeroS_size 128⟩, k.len.trans hl, k.failed.trans hc.live, k.pend.trans hp, ?_, fun j hj => ?_, fun i hi => ?_⟩, ?_⟩, k.fen, k.fuse.trans hf⟩
  · unfold formatP fitsP
    rw [hc.plain, decide_eq_true ⟨by omega, by omega⟩, if_neg (by simp), hl, show 131 + n - 131 = n from by omega]
    exact runS_list sy ep _ D hc hf hp ho
  · have e0 : (img0 n).topR = packS (vbytes ((List.range 32).map fun _ => nv 1)) (nv 1) 0 := by
      unfold Img.topR Img.tops
      rfl
    rw [e0]
    exact hm (0, packS (vbytes ((List.range 32).map fun _ => nv 1)) (nv 1) 0) (List.mem_append_right _ (List.mem_append_right _ (List.mem_cons_self ..)))
  · refine (hm (1 + j, packS (vbytes (fmtMap n j)) (nv 1) (1 + j : Nat)) (List.mem_append_right _ (List.mem_append_left _ (List.mem_map.2 ⟨j, List.mem_range.2 hj, rfl⟩)))).trans ?_
    have e1 : (img0 n).mapL j = fmtMap n j := by
      unfold Img.mapL fmtMap
      apply List.map_congr_left
      intro x _
      unfold Img.mv
      show nv (if 32 * j + x < n then 1 else 0) = (if 32 * j + x < n then nv 1 else nv 0)
      split <;> rfl
    unfold Img.mapR
    rw [e1]
    rfl
  · refine (hm (131 + i, packS emptyS (nv 1) (131 + i : Nat)) (List.mem_append_left _ (List.mem_map.2 ⟨i, List.mem_range.2 hi, rfl⟩))).trans ?_
    unfold Img.datR
    have e2 : dataS emptyS = dataS ((img0 n).cs i) := dataS_empty.trans (dataS_full _ (zeroS_size 128)).symm
    rw [pack_data e2]
    rfl
  · exact hm (33, blankR) (List.mem_append_right _ (List.mem_append_right _ (List.mem_cons_of_mem _ (List.mem_cons_self ..))))
theorem newTop_is {E : Dev} {I : Img} (h : Holds E I) (S : Wl) : newTop E S (nv (I.N + 1)) = (I.upd S).tops := by
  unfold newTop Img.tops
  apply List.map_congr_left
  intro k hk
  have hk' := List.mem_range.1 hk
  rw [h.topI]
  show (if _ then _ else fld (vbytes I.tops) k) = nv (if _ then I.N + 1 else I.ms k)
  unfold Img.tops
  rw [fld32 _ _ hk']
  split <;> rfl
theorem newMap_is {E : Dev} {I : Img} {S : Wl} (h : Holds E I) (ht : Takes I S) (k : Nat) (hk : k < 32) : newMap E S (nv (I.N + 1)) k = (I.upd S).mapL k := by
  unfold newMap Img.mapL
  apply List.map_congr_left
  intro j hj
  have hj' := List.mem_range.1 hj
  rw [h.mapI k hk]
  show (if _ then _ else fld (vbytes (I.mapL k)) j) = _
  unfold Img.mapL
  rw [fld32 _ _ hj']
  unfold Img.mv
  show _ = nv (if 32 * k + j < I.n then (if (lastE S (32 * k + j)).isSome = true then I.N + 1 else I.vs (32 * k + j)) else 0)
  by_cases hs : (lastE S (32 * k + j)).isSome = true
  · rw [if_pos hs, if_pos hs]
    have hlt : 32 * k + j < I.n := by
      rcases Nat.lt_or_ge (32 * k + j) I.n with h9 | h9
      · exact h9
      · rw [lastE_none S _ (fun e he hq => by have := (ht.lt e he).1; omega)] at hs
        cases hs
    rw [if_pos hlt]
  · rw [if_neg hs, if_neg hs]
/-- At a device that holds a store the entries are those of the next one. -/
theorem entG_is {E : Dev} {I : Img} {S : Wl} (h : Holds E I) (ht : Takes I S) : entG E S (nv (I.N + 1)) = entL (I.upd S) S := by
  unfold entG entL
  rw [newTop_is h S]
  have e1 : (ksW S).map (fun k => (1 + k, packS (vbytes (newMap E S (nv (I.N + 1)) k)) (nv (I.N + 1)) (1 + k : Nat))) = (ksW S).map (fun k => (1 + k, (I.upd S).mapR k)) := by
    apply List.map_congr_left
    intro k hk
    obtain ⟨hk', x, hx, hxk⟩ := (ksW_mem S k).1 hk
    have hm : (I.upd S).ms k = I.N + 1 := if_pos (List.any_eq_true.2 ⟨x, hx, by simpa using hxk⟩)
    unfold Img.mapR
    rw [newMap_is h ht k hk', hm]
  have e2 : S.map (fun e => (131 + e.1, packS e.2 (nv (I.N + 1)) (131 + e.1 : Nat))) = S.map (fun e => (131 + e.1, (I.upd S).datR e.1)) := by
    apply List.map_congr_left
    intro e he
    have hl := lastE_one S (takes_nodup ht) e he
    have hc : (I.upd S).cs e.1 = e.2 := by show (lastE S e.1).getD _ = _; rw [hl]; rfl
    have hv : (I.upd S).vs e.1 = I.N + 1 := if_pos (by rw [hl]; rfl)
    unfold Img.datR
    rw [hc, hv]
  rw [e1, e2]
  rfl
theorem mapsE_ok {E : Dev} {I : Img} (h : Holds E I) : ∀ l : List Nat, (∀ k ∈ l, k < 32) → mapsE E l = 0 := by
  intro l
  induction l with
  | nil => intro _; rfl
  | cons k l ih =>
    intro hl
    have hk := hl k (List.mem_cons_self ..)
    unfold mapsE
    rw [h.mapI k hk, h.topI, if_neg (by simp), if_neg, ih (fun x hx => hl x (List.mem_cons_of_mem _ hx))]
    intro hc
    apply hc
    show nv (I.ms k) = fld (vbytes I.tops) k
    unfold Img.tops
    rw [fld32 _ _ hk]
end Go.Proofs.Ytbddelefglhaaaa
namespace Go.Proofs.Ytbddelefglhaaaa
set_option linter.unusedVariables false
set_option linter.unusedSimpArgs false
set_option linter.unusedSectionVars false
open Go.RowKit
open Go.Maps (Keyed)
attribute [local go_sem ↓] Go.wp_at_zero Go.wp_at_succ
theorem ret_str {a b : ByteArray} (h : a = b) : Ending.returned (.string a) = .returned (.string b) := by rw [h]
def padS (n : Nat) (s : ByteArray) : ByteArray := s ++ zeros (n - s.size)
theorem padS_full (n : Nat) (s : ByteArray) (h : n ≤ s.size) : padS n s = s := by
  unfold padS
  rw [show n - s.size = 0 by omega]
  show s ++ ⟨#[]⟩ = s
  exact ByteArray.append_empty
theorem padS_step (n : Nat) (s : ByteArray) (h : s.size < n) : padS n s = padS n (s ++ ⟨#[0]⟩) := by
  unfold padS
  have hs : (s ++ (⟨#[0]⟩ : ByteArray)).size = s.size + 1 := by simp [ByteArray.size_append]; rfl
  rw [hs, show n - s.size = (n - (s.size + 1)) + 1 by omega]
  rw [ByteArray.append_assoc]
  congr 1
set_option maxRecDepth 100000 in
set_option maxHeartbeats 1000000 in
theorem padded_any (s : ByteArray) (n : Nat) (w : World) (hn : n ≤ 2000) (hs : s.size ≤ 1000000) :
    Calls Try.prog 45 #[.string s, .int .i64 (n : Int)] w fun e w' => e = .returned (.string (padS n s)) ∧ w = w' := by
  go_enter Try.func45, Try.ntmps45
  go_wp2_with fail
  go_loopg [0] (n + 1 - s.size) (fun gk v wr => w = wr ∧ ∃ u : ByteArray, v = .string u ∧ gk = n + 1 - u.size ∧ u.size ≤ 1000000 ∧ padS n u = padS n s)
  case atStart => exact ⟨rfl, s, rfl, rfl, hs, rfl⟩
  case round =>
    obtain ⟨rfl, u, rfl, hgk, hu, hp⟩ := hrel
    have HGK := Lib.hid hgk
    have HP := Lib.hid hp
    clear hgk hp
    have hsz : (u ++ (⟨#[0]⟩ : ByteArray)).size = u.size + 1 := by simp [ByteArray.size_append]; rfl
    have HSZ := Lib.hid hsz
    clear hsz
    by_cases hlt : u.size < n
    · have hlti : (u.size : Int) < (n : Int) := by omega
      have HPS := Lib.hid (padS_step n u hlt)
      go_wp2_with fail
      go_roundg (n + 1 - (u.size + 1))
      case measure => rw [HGK.out]; omega
      case rel => exact ⟨rfl, _, rfl, by rw [HSZ.out], by rw [HSZ.out]; omega, by rw [← HPS.out]; exact HP.out⟩
    · have hlti : ¬ (u.size : Int) < (n : Int) := by omega
      have HPF := Lib.hid (padS_full n u (by omega))
      go_wp2_with fail
      go_ret
      exact ⟨ret_str (by rw [← HP.out, HPF.out]), rfl⟩
end Go.Proofs.Ytbddelefglhaaaa
namespace Go.Proofs.Ytbddelefglhaaaa
set_option linter.unusedVariables false
set_option linter.unusedSimpArgs false
set_option linter.unusedSectionVars false
open Go.RowKit
open Go.Maps (Keyed)
attribute [local go_sem ↓] Go.wp_at_zero Go.wp_at_succ
/-- A device made behind w0; the blocks 'out' are none of its own. -/
def Live (w0 : World) (x : Nat) (D : Dev) (out : Nat → Prop) (ws : World) : Prop :=
  ∃ q : DevP, q.x = x ∧ DevM ws q D ∧ Grew w0 ws ∧ (∀ k, q.feet k → w0.heap.size ≤ k) ∧ (∀ k, out k → k < ws.heap.size ∧ ¬ q.feet k)
/-- What a call on a device of a law turns. -/
abbrev Beside (w0 : World) (out : Nat → Prop) (ws ws' : World) : Prop := Turned (fun k => w0.heap.size ≤ k ∧ ¬ out k) ws ws'
theorem Live.did {w0 ws : World} {x : Nat} {D D' : Dev} {out : Nat → Prop} {f : Nat} {args : Array Value} {E : Ending → Prop} (h : Live w0 x D out ws) (hc : ∀ q : DevP, q.x = x → DevM ws q D → Calls Try.prog f args ws fun e w' => E e ∧ Did ws w' q D') :
    Calls Try.prog f args ws fun e w' => E e ∧ Live w0 x D' out w' ∧ Beside w0 out ws w' := by
  obtain ⟨q, hx, hd, hg, hf, ho⟩ := h
  refine (hc q hx hd).mono ?_
  rintro e w' ⟨he, q', hd', hf', ht'⟩
  refine ⟨he, ⟨q', hf'.x.trans hx, hd', hg.turn ht' hf, fun k hk => (hf'.feet k hk).elim (hf k) (fun h => Nat.le_trans hg.size h), fun k hk => ⟨Nat.lt_of_lt_of_le (ho k hk).1 ht'.size, fun h => (hf'.feet k h).elim (ho k hk).2 (fun h9 => absurd (ho k hk).1 (by omega))⟩⟩, ht'.mono (fun k _ hk => ⟨hf k hk, fun h => (ho k h).2 hk⟩)⟩
theorem Live.look {w0 ws : World} {x : Nat} {D : Dev} {out : Nat → Prop} {f : Nat} {args : Array Value} {E : Ending → Prop} (h : Live w0 x D out ws) (hc : ∀ q : DevP, q.x = x → DevM ws q D → Calls Try.prog f args ws fun e w' => E e ∧ ws = w') :
    Calls Try.prog f args ws fun e w' => E e ∧ ws = w' := by
  obtain ⟨q, hx, hd, _⟩ := h
  exact hc q hx hd
theorem Live.grew {w0 ws ws' : World} {x : Nat} {D : Dev} {out : Nat → Prop} (h : Live w0 x D out ws) (hg : Grew ws ws') : Live w0 x D out ws' := by
  obtain ⟨q, hx, hd, hg0, hf, ho⟩ := h
  exact ⟨q, hx, hd.grew hg, hg0.trans hg, hf, fun k hk => ⟨Nat.lt_of_lt_of_le (ho k hk).1 hg.size, (ho k hk).2⟩⟩
/-- A block that is new is none of the device's. -/
theorem Live.more {w0 ws ws' : World} {x : Nat} {D : Dev} {out : Nat → Prop} (h : Live w0 x D out ws) (hg : Grew ws ws') : Live w0 x D (fun k => out k ∨ (ws.heap.size ≤ k ∧ k < ws'.heap.size)) ws' := by
  obtain ⟨q, hx, hd, hg0, hf, ho⟩ := h
  refine ⟨q, hx, hd.grew hg, hg0.trans hg, hf, fun k hk => ?_⟩
  rcases hk with hk | hk
  · exact ⟨Nat.lt_of_lt_of_le (ho k hk).1 hg.size, (ho k hk).2⟩
  · exact ⟨hk.2, fun h => absurd (hd.feet_lt k h) (by omega)⟩
/-- What is outside may turn. -/
theorem Live.turn {w0 ws ws' : World} {x : Nat} {D : Dev} {out : Nat → Prop} (h : Live w0 x D out ws) (ht : Turned out ws ws') (ho : ∀ k, out k → w0.heap.size ≤ k) : Live w0 x D out ws' := by
  obtain ⟨q, hx, hd, hg0, hf, hn⟩ := h
  exact ⟨q, hx, hd.kept ht (fun k hk h => (hn k h).2 hk), hg0.turn ht ho, hf, fun k hk => ⟨Nat.lt_of_lt_of_le (hn k hk).1 ht.size, (hn k hk).2⟩⟩
theorem Live.base {w0 ws : World} {x : Nat} {D : Dev} {out : Nat → Prop} (h : Live w0 x D out ws) : Grew w0 ws := by obtain ⟨_, _, _, h, _⟩ := h; exact h
theorem Live.ok {w0 ws : World} {x : Nat} {D : Dev} {out : Nat → Prop} (h : Live w0 x D out ws) : D.Ok := by obtain ⟨_, _, h, _⟩ := h; exact h.ok
theorem Live.few {w0 ws : World} {x : Nat} {D : Dev} {out out' : Nat → Prop} (h : Live w0 x D out ws) (ho : ∀ k, out' k → out k) : Live w0 x D out' ws := by
  obtain ⟨q, hx, hd, hg0, hf, hn⟩ := h
  exact ⟨q, hx, hd, hg0, hf, fun k hk => hn k (ho k hk)⟩
section
variable {w0 ws : World} {x : Nat} {D : Dev} {out : Nat → Prop} (h : Live w0 x D out ws)
include h
theorem write_live (s e sec : Int) (data : ByteArray) (hsmall : D.pend.length ≤ 999999) (hsz : data.size ≤ 9223372036854775807) :
    Calls Try.prog 82 #[.pointer (some ⟨x, 0, none⟩), .agg #[.int .i64 s, .int .i64 e], .int .i64 sec, .string data] ws fun er w' => er = .returned (.int .i64 (writeD D s e sec data).2) ∧ Live w0 x (writeD D s e sec data).1 out w' ∧ Beside w0 out ws w' :=
  h.did (fun q hx hd => by rw [← hx]; exact write_any hd s e sec data hsmall hsz)
theorem sync_live (s e : Int) (hsmall : D.pend.length ≤ 1000000) :
    Calls Try.prog 84 #[.pointer (some ⟨x, 0, none⟩), .agg #[.int .i64 s, .int .i64 e]] ws fun er w' => er = .returned (.int .i64 (syncD D s e).2) ∧ Live w0 x (syncD D s e).1 out w' ∧ Beside w0 out ws w' :=
  h.did (fun q hx hd => by rw [← hx]; exact sync_any hd s e hsmall)
theorem fence_live (s e : Int) (hs : okI s) (he : okI e) :
    Calls Try.prog 30 #[.pointer (some ⟨x, 0, none⟩), .int .i64 s, .int .i64 e] ws fun er w' => er = .returned (.tuple #[]) ∧ Live w0 x (fenceD D s e) out w' ∧ Beside w0 out ws w' :=
  h.did (fun q hx hd => by rw [← hx]; exact fence_any hd s e hs he)
theorem repair_live : Calls Try.prog 29 #[.pointer (some ⟨x, 0, none⟩)] ws fun er w' => er = .returned (.tuple #[]) ∧ Live w0 x (repairD D) out w' ∧ Beside w0 out ws w' :=
  h.did (fun q hx hd => by rw [← hx]; exact repair_any hd)
theorem fail_live (n : Int) (hn : okI n) (A2 : Option Addr) (c2 : Nat) (l : List Int) (hl : ListAt ws ws.heap.size 1 A2 (l.map intC)) (hlen : l.length ≤ 1000000) (hlok : ∀ n ∈ l, okI n) :
    Calls Try.prog 28 #[.pointer (some ⟨x, 0, none⟩), .int .i64 n, .slice A2 l.length c2] ws fun er w' => er = .returned (.tuple #[]) ∧ Live w0 x (failD D n l) out w' ∧ Beside w0 out ws w' :=
  h.did (fun q hx hd => by rw [← hx]; exact fail_any hd n hn A2 c2 l hl hlen hlok)
theorem read_live (i : Int) (s : ByteArray) (er : Int) (hr : readD D i = (s, er)) : Calls Try.prog 38 #[.pointer (some ⟨x, 0, none⟩), .int .i64 i] ws fun e w' => e = .returned (.tuple #[.string s, .int .i64 er]) ∧ ws = w' :=
  h.look (fun q hx hd => by rw [← hx]; exact read_any hd i s er hr)
theorem sectors_live : Calls Try.prog 33 #[.pointer (some ⟨x, 0, none⟩)] ws fun e w' => e = .returned (.int .i64 (D.st.length : Int)) ∧ ws = w' :=
  h.look (fun q hx hd => by rw [← hx]; exact sectors_any hd)
end
end Go.Proofs.Ytbddelefglhaaaa
namespace Go.Proofs.Ytbddelefglhaaaa
set_option linter.unusedVariables false
set_option linter.unusedSimpArgs false
set_option linter.unusedSectionVars false
open Go.RowKit
attribute [local go_sem ↓] Go.wp_at_zero Go.wp_at_succ
/-- What is remembered of a sector. -/
def memoV (t : ByteArray) (i : Int) : Value := .agg #[.string t, .string (rawOf t i).data, .int .u32 (u32 (rawOf t i).ver), .bool (rawOf t i).ok]
abbrev ptrV (s : Nat) : Value := .pointer (some ⟨s, 0, none⟩)
def storeC (x : Nat) (sy ep : Int) (m : Nat) : Array Value := #[ptrV x, .int .i64 sy, .int .i64 ep, .map (some m)]
/-- A store in memory. -/
structure StoreM (W : World) (s m x : Nat) (sy ep : Int) : Prop where
  blk : Blk W s 110 (storeC x sy ep m)
  seen : ∃ F, MapI W m F ∧ ∀ i v, F i = some v → ∃ t : ByteArray, t.size ≤ 200 ∧ v = memoV t i
theorem StoreM.ne {W : World} {s m x : Nat} {sy ep : Int} (h : StoreM W s m x sy ep) : ¬ s = m := by
  obtain ⟨F, hF, _⟩ := h.seen
  exact blk_map_ne h.blk hF
theorem StoreM.lt {W : World} {s m x : Nat} {sy ep : Int} (h : StoreM W s m x sy ep) : s < W.heap.size ∧ m < W.heap.size := by
  obtain ⟨F, hF, _⟩ := h.seen
  exact ⟨h.blk.lt, hF.lt⟩
theorem StoreM.kept {W W' : World} {s m x : Nat} {sy ep : Int} (h : StoreM W s m x sy ep) {S : Nat → Prop} (ht : Turned S W W') (h1 : ¬ S s) (h2 : ¬ S m) : StoreM W' s m x sy ep := by
  obtain ⟨F, hF, hv⟩ := h.seen
  exact ⟨h.blk.turned ht h1, F, hF.turned ht h2, hv⟩
theorem StoreM.grew {W W' : World} {s m x : Nat} {sy ep : Int} (h : StoreM W s m x sy ep) (hg : Grew W W') : StoreM W' s m x sy ep := h.kept (hg.turned (fun _ => False)) (fun h => h) (fun h => h)
/-- The closure of 'put'. -/
def PutAt (W : World) (lo s : Nat) (i : Int) (raw : ByteArray) (v : Value) : Prop :=
  ∃ a b c, v = .func (.func 81) #[] #[ptrV a, ptrV b, ptrV c] ∧ lo ≤ a ∧ lo ≤ b ∧ lo ≤ c ∧ Blk W a 34 #[ptrV s] ∧ Blk W b 3 #[.int .i64 i] ∧ Blk W c 9 #[.string raw]
set_option maxRecDepth 100000 in
theorem put_any (s : Nat) (i : Int) (raw : ByteArray) (w : World) : Calls Try.prog 59 #[ptrV s, .int .i64 i, .string raw] w fun e w' => ∃ v, e = .returned v ∧ PutAt w' w.heap.size s i raw v ∧ Grew w w' := by
  have hb1 := ((Blk.new w 34 #[ptrV s] rfl).alloc (.cells #[.int .i64 i] 3)).alloc (.cells #[.string raw] 9)
  have hb2 := (Blk.new (w.alloc (.cells #[ptrV s] 34)) 3 #[.int .i64 i] (n := w.heap.size + 1) (by simp)).alloc (.cells #[.string raw] 9)
  have hb3 := Blk.new ((w.alloc (.cells #[ptrV s] 34)).alloc (.cells #[.int .i64 i] 3)) 9 #[.string raw] (n := w.heap.size + 1 + 1) (by simp)
  have HB := Lib.hid (⟨hb1, hb2, hb3⟩ : _ ∧ _ ∧ _)
  have HG := Lib.hid ((((Grew.refl w).alloc (.cells #[ptrV s] 34)).alloc (.cells #[.int .i64 i] 3)).alloc (.cells #[.string raw] 9))
  clear hb1 hb2 hb3
  go_enter Try.func59, Try.ntmps59
  go_wp2_with fail
  go_ret
  exact ⟨_, rfl, ⟨_, _, _, rfl, by omega, by omega, by omega, HB.out.1, HB.out.2.1, HB.out.2.2⟩, HG.out⟩
section
variable {w0 : World} {x s m : Nat} {sy ep : Int} {D : Dev} {out : Nat → Prop} {W : World} (hL : Live w0 x D out W) (hb : Blk W s 110 (storeC x sy ep m)) (hp : D.pend.length ≤ 999999)
include hL hb hp
set_option maxRecDepth 100000 in
set_option maxHeartbeats 1000000 in
theorem put1_any (i : Int) (raw : ByteArray) (hr : raw.size ≤ 9223372036854775807) (a b c : Nat) (ha : Blk W a 34 #[ptrV s]) (hbb : Blk W b 3 #[.int .i64 i]) (hc : Blk W c 9 #[.string raw]) :
    Calls Try.prog 81 #[ptrV a, ptrV b, ptrV c] W fun e w' => e = .returned (.int .i64 (writeD D sy ep i raw).2) ∧ Live w0 x (writeD D sy ep i raw).1 out w' ∧ Beside w0 out W w' := by
  have HW := Lib.hid (write_live (hL.grew (Grew.refl W).drew) sy ep i raw hp hr)
  clear hL hp
  go_enter Try.func81, Try.ntmps81
  go_wp2_with fail
  refine wp_region_still_tail 10 (by kernel_rfl) (by kernel_rfl) ?_
  simp only [List.take_succ_cons, List.take_zero, List.drop_succ_cons, List.drop_zero]
  change wpStill _ _ (World.drew W) (fun a' => wpList _ _ _ _ a' (World.drew W)) _ _
  obtain ⟨w2, hw_w2⟩ : ∃ w', w' = World.drew W := ⟨_, rfl⟩
  rw [← hw_w2]
  have hs2 : Blk w2 s 110 (storeC x sy ep m) := by rw [hw_w2]; exact hb.drew
  rw [← hw_w2] at HW
  have h1 := hs2.lt
  have s0 := hs2.cell 0
  have s1 := hs2.cell 1
  have s2 := hs2.cell 2
  have hB : Beside w0 out W w2 := by rw [hw_w2]; exact ((Grew.refl W).drew).turned _
  have a0 : w2.cell? ⟨a, 0, none⟩ = some (ptrV s) := by rw [hw_w2]; exact ha.drew.cell 0
  have b0 : w2.cell? ⟨b, 0, none⟩ = some (.int .i64 i) := by rw [hw_w2]; exact hbb.drew.cell 0
  have c0 : w2.cell? ⟨c, 0, none⟩ = some (.string raw) := by rw [hw_w2]; exact hc.drew.cell 0
  have la : a < w2.heap.size := by rw [hw_w2]; exact ha.drew.lt
  have lb : b < w2.heap.size := by rw [hw_w2]; exact hbb.drew.lt
  have lc : c < w2.heap.size := by rw [hw_w2]; exact hc.drew.lt
  have HB := Lib.hid hB
  clear hw_w2 hs2 ha hbb hc hb hB
  unfold storeC at s0 s1 s2
  repeat still_step
  refine wpStill_nil ?_
  go_wp2_with fail
  refine HW.out.mono ?_
  rintro e w3 ⟨rfl, hL3, hB3⟩
  go_wp2_with fail
  go_ret
  exact ⟨rfl, hL3, HB.out.trans hB3⟩
set_option maxRecDepth 100000 in
set_option maxHeartbeats 1000000 in
theorem sync_any' : Calls Try.prog 61 #[ptrV s] W fun e w' => e = .returned (.int .i64 (syncD D sy ep).2) ∧ Live w0 x (syncD D sy ep).1 out w' ∧ Beside w0 out W w' := by
  have HW := Lib.hid (sync_live (hL.grew (Grew.refl W).drew) sy ep (by omega))
  clear hL hp
  go_enter Try.func61, Try.ntmps61
  go_wp2_with fail
  refine wp_region_still_tail 8 (by kernel_rfl) (by kernel_rfl) ?_
  simp only [List.take_succ_cons, List.take_zero, List.drop_succ_cons, List.drop_zero]
  change wpStill _ _ (World.drew W) (fun a' => wpList _ _ _ _ a' (World.drew W)) _ _
  obtain ⟨w2, hw_w2⟩ : ∃ w', w' = World.drew W := ⟨_, rfl⟩
  rw [← hw_w2]
  have hs2 : Blk w2 s 110 (storeC x sy ep m) := by rw [hw_w2]; exact hb.drew
  rw [← hw_w2] at HW
  have h1 := hs2.lt
  have s0 := hs2.cell 0
  have s1 := hs2.cell 1
  have s2 := hs2.cell 2
  have hB : Beside w0 out W w2 := by rw [hw_w2]; exact ((Grew.refl W).drew).turned _
  have HB := Lib.hid hB
  clear hw_w2 hs2 hb hB
  unfold storeC at s0 s1 s2
  repeat still_step
  refine wpStill_nil ?_
  go_wp2_with fail
  refine HW.out.mono ?_
  rintro e w3 ⟨rfl, hL3, hB3⟩
  go_wp2_with fail
  go_ret
  exact ⟨rfl, hL3, HB.out.trans hB3⟩
set_option maxRecDepth 100000 in
set_option maxHeartbeats 1000000 in
theorem clear_any : Calls Try.prog 77 #[ptrV s] W fun e w' => e = .returned (.int .i64 (writeD D sy ep 33 blankR).2) ∧ Live w0 x (writeD D sy ep 33 blankR).1 out w' ∧ Beside w0 out W w' := by
  have HW := Lib.hid (fun w9 (hg : Grew W w9) => write_live (hL.grew hg) sy ep 33 blankR hp (by rw [blankR_size]; omega))
  clear hL hp
  go_enter Try.func77, Try.ntmps77
  go_wp2_with fail
  refine wp_region_R [10] (fun w' : World => w'.cell? ⟨s, 0, none⟩ = some (ptrV x) ∧ w'.cell? ⟨s, 1, none⟩ = some (.int .i64 sy) ∧ w'.cell? ⟨s, 2, none⟩ = some (.int .i64 ep) ∧ s < w'.heap.size) (by kernel_rfl) ?_
  have hS := (show (fun w' : World => w'.cell? ⟨s, 0, none⟩ = some (ptrV x) ∧ w'.cell? ⟨s, 1, none⟩ = some (.int .i64 sy) ∧ w'.cell? ⟨s, 2, none⟩ = some (.int .i64 ep) ∧ s < w'.heap.size) W.drew from ⟨hb.drew.cell 0, hb.drew.cell 1, hb.drew.cell 2, hb.drew.lt⟩)
  refine wpAnyR_takeQ (i := 0) (v := ?_) (some 3) rfl rfl (by kernel_rfl) (by kernel_rfl) (by kernel_rfl) (by kernel_rfl) (fun _ _ _ h => h) (Or.inl ⟨by rfl, ?_⟩) ?_
  rotate_left
  focus (intro wS hSw; (try dsimp only at hSw); go_simp; (try with_reducible rfl); (try (first | (rw [if_pos (by omega)]; (try go_simp); (try with_reducible rfl)) | (rw [if_neg (by omega)]; (try go_simp); (try with_reducible rfl)))))
  try simp only [Act.put, List.setIfInBounds_toArray, List.set_cons_zero, List.set_cons_succ]
  refine wpAnyR_take (i := 1) (v := ?_) [2, 3, 10, 11] (some 4) rfl rfl (by kernel_rfl) (by kernel_rfl) (by kernel_rfl) (by kernel_rfl) (by kernel_rfl) (by kernel_rfl) (by kernel_rfl) (fun _ _ _ h => h) (Or.inl ⟨by rfl, ?_⟩) hS ?_
  rotate_left
  focus (intro wS hSw; (try dsimp only at hSw); go_simp; (try with_reducible rfl); (try (first | (rw [if_pos (by omega)]; (try go_simp); (try with_reducible rfl)) | (rw [if_neg (by omega)]; (try go_simp); (try with_reducible rfl)))))
  try simp only [Act.put, List.setIfInBounds_toArray, List.set_cons_zero, List.set_cons_succ]
  refine wpAnyR_takeQ (i := 2) (v := ?_) (some 5) rfl rfl (by kernel_rfl) (by kernel_rfl) (by kernel_rfl) (by kernel_rfl) (fun _ _ _ h => h) (Or.inl ⟨by rfl, ?_⟩) ?_
  rotate_left
  focus (intro wS hSw; (try dsimp only at hSw); go_simp; (try with_reducible rfl); (try (first | (rw [if_pos (by omega)]; (try go_simp); (try with_reducible rfl)) | (rw [if_neg (by omega)]; (try go_simp); (try with_reducible rfl)))))
  try simp only [Act.put, List.setIfInBounds_toArray, List.set_cons_zero, List.set_cons_succ]
  refine wpAnyR_take (i := 3) (v := ?_) [10, 11] (some 6) rfl rfl (by kernel_rfl) (by kernel_rfl) (by kernel_rfl) (by kernel_rfl) (by kernel_rfl) (by kernel_rfl) (by kernel_rfl) (fun _ _ _ h => h) (Or.inl ⟨by rfl, ?_⟩) hS ?_
  rotate_left
  focus (intro wS hSw; (try dsimp only at hSw); go_simp; (try with_reducible rfl); (try (first | (rw [if_pos (by omega)]; (try go_simp); (try with_reducible rfl)) | (rw [if_neg (by omega)]; (try go_simp); (try with_reducible rfl)))))
  try simp only [Act.put, List.setIfInBounds_toArray, List.set_cons_zero, List.set_cons_succ]
  refine wpAnyR_takeQ (i := 4) (v := ?_) (some 7) rfl rfl (by kernel_rfl) (by kernel_rfl) (by kernel_rfl) (by kernel_rfl) (fun _ _ _ h => h) (Or.inl ⟨by rfl, ?_⟩) ?_
  rotate_left
  focus (intro wS hSw; (try dsimp only at hSw); go_simp; (try with_reducible rfl); (try (first | (rw [if_pos (by omega)]; (try go_simp); (try with_reducible rfl)) | (rw [if_neg (by omega)]; (try go_simp); (try with_reducible rfl)))))
  try simp only [Act.put, List.setIfInBounds_toArray, List.set_cons_zero, List.set_cons_succ]
  refine wpAnyR_take (i := 5) (v := ?_) [6, 7, 10, 11] (some 8) rfl rfl (by kernel_rfl) (by kernel_rfl) (by kernel_rfl) (by kernel_rfl) (by kernel_rfl) (by kernel_rfl) (by kernel_rfl) (fun _ _ _ h => h) (Or.inl ⟨by rfl, ?_⟩) hS ?_
  rotate_left
  focus (intro wS hSw; (try dsimp only at hSw); go_simp; (try with_reducible rfl); (try (first | (rw [if_pos (by omega)]; (try go_simp); (try with_reducible rfl)) | (rw [if_neg (by omega)]; (try go_simp); (try with_reducible rfl)))))
  try simp only [Act.put, List.setIfInBounds_toArray, List.set_cons_zero, List.set_cons_succ]
  refine wpAnyR_takeQ (i := 6) (v := ?_) (some 9) rfl rfl (by kernel_rfl) (by kernel_rfl) (by kernel_rfl) (by kernel_rfl) (fun _ _ _ h => h) (Or.inl ⟨by rfl, ?_⟩) ?_
  rotate_left
  focus (intro wS hSw; (try dsimp only at hSw); go_simp; (try with_reducible rfl); (try (first | (rw [if_pos (by omega)]; (try go_simp); (try with_reducible rfl)) | (rw [if_neg (by omega)]; (try go_simp); (try with_reducible rfl)))))
  try simp only [Act.put, List.setIfInBounds_toArray, List.set_cons_zero, List.set_cons_succ]
  refine wpAnyR_take (i := 7) (v := ?_) [10, 11] (some 10) rfl rfl (by kernel_rfl) (by kernel_rfl) (by kernel_rfl) (by kernel_rfl) (by kernel_rfl) (by kernel_rfl) (by kernel_rfl) (fun _ _ _ h => h) (Or.inl ⟨by rfl, ?_⟩) hS ?_
  rotate_left
  focus (intro wS hSw; (try dsimp only at hSw); go_simp; (try with_reducible rfl); (try (first | (rw [if_pos (by omega)]; (try go_simp); (try with_reducible rfl)) | (rw [if_neg (by omega)]; (try go_simp); (try with_reducible rfl)))))
  try simp only [Act.put, List.setIfInBounds_toArray, List.set_cons_zero, List.set_cons_succ]
  clear hS
  have hmk : (Instr.makeSlice 75 (.int .i64 140) (.int .i64 140)).run Try.prog W.drew = _ := made_bytes W.drew 140 (by omega)
  have hb2 : Blk (W.alloc (.cells (cellsB (zeroS 140)) 5)).drew W.heap.size 5 (cellsB (zeroS 140)) := (Blk.new W _ _ rfl).drew
  have hg2 : Grew W (W.alloc (.cells (cellsB (zeroS 140)) 5)).drew := ((Grew.refl W).alloc _).drew
  have hcv : (convert 75 9 (.slice (some ⟨W.heap.size, 0, none⟩) 140 140)).run Try.prog (W.alloc (.cells (cellsB (zeroS 140)) 5)).drew = .ok (.string blankR) (W.alloc (.cells (cellsB (zeroS 140)) 5)).drew := conv_cells _ _ 140 (zeroS 140) (zeroS_size 140) hb2
  have hb3 := hb.grew hg2
  have HW2 := Lib.hid (HW.out _ hg2)
  have HG := Lib.hid hg2
  clear hb2 hg2
  refine wpAnyR_n1 (i := 8) rfl (by kernel_rfl) ?_
  intro K' hK
  rw [if_pos (by rfl)]
  simp only [List.getElem_toArray, List.getElem_cons_succ, List.getElem_cons_zero]
  go_wp2_with fail
  refine hK.out _ _ (.inr (fun _ => ⟨hb3.cell 0, hb3.cell 1, hb3.cell 2, hb3.lt⟩)) ?_
  clear hK
  refine wpAnyR_n1 (i := 9) rfl (by kernel_rfl) ?_
  intro K' hK
  rw [if_pos (by rfl)]
  simp only [List.getElem_toArray, List.getElem_cons_succ, List.getElem_cons_zero]
  go_wp2_with fail
  refine hK.out _ _ (.inr (fun _ => ⟨hb3.cell 0, hb3.cell 1, hb3.cell 2, hb3.lt⟩)) ?_
  clear hK hcv hmk
  refine wpAnyR_n1 (i := 10) rfl (by kernel_rfl) ?_
  intro K' hK
  rw [if_pos (by rfl)]
  simp only [List.getElem_toArray, List.getElem_cons_succ, List.getElem_cons_zero]
  go_wp2_with fail
  refine HW2.out.mono ?_
  rintro e w3 ⟨rfl, hL3, hB3⟩
  go_wp2_with fail
  refine hK.out _ _ (.inl (by rfl)) ?_
  clear hK
  refine wpAnyR_takeQ (i := 11) (v := ?_) (some 2) rfl rfl (by kernel_rfl) (by kernel_rfl) (by kernel_rfl) (by kernel_rfl) (fun _ _ _ h => h) (Or.inl ⟨by rfl, ?_⟩) ?_
  rotate_left
  focus (intro wS hSw; (try dsimp only at hSw); go_simp; (try with_reducible rfl); (try (first | (rw [if_pos (by omega)]; (try go_simp); (try with_reducible rfl)) | (rw [if_neg (by omega)]; (try go_simp); (try with_reducible rfl)))))
  try simp only [Act.put, List.setIfInBounds_toArray, List.set_cons_zero, List.set_cons_succ]
  refine wpAnyR_done (by kernel_rfl) ?_ _
  go_wp2_with fail
  go_ret
  exact ⟨rfl, hL3, (HG.out.turned _).trans hB3⟩
end
end Go.Proofs.Ytbddelefglhaaaa
namespace Go.Proofs.Ytbddelefglhaaaa
set_option linter.unusedVariables false
set_option linter.unusedSimpArgs false
set_option linter.unusedSectionVars false
open Go.RowKit
attribute [local go_sem ↓] Go.wp_at_zero Go.wp_at_succ
/-- Effects, until one fails. -/
def runF : List (Dev → Dev × Int) → Dev → Dev × Int
  | [], D => (D, 0)
  | f :: l, D => if (f D).2 = 0 then runF l (f D).1 else f D
theorem runF_app (a b : List (Dev → Dev × Int)) : ∀ D, runF (a ++ b) D = if (runF a D).2 = 0 then runF b (runF a D).1 else runF a D := by
  induction a with
  | nil => intro D; rfl
  | cons t a ih =>
    intro D
    show (if (t D).2 = 0 then runF (a ++ b) (t D).1 else t D) = _
    by_cases h : (t D).2 = 0
    · rw [if_pos h, ih]
      show _ = if (if (t D).2 = 0 then runF a (t D).1 else t D).2 = 0 then runF b (if (t D).2 = 0 then runF a (t D).1 else t D).1 else (if (t D).2 = 0 then runF a (t D).1 else t D)
      rw [if_pos h]
    · rw [if_neg h]
      show _ = if (if (t D).2 = 0 then runF a (t D).1 else t D).2 = 0 then runF b (if (t D).2 = 0 then runF a (t D).1 else t D).1 else (if (t D).2 = 0 then runF a (t D).1 else t D)
      rw [if_neg h, if_neg h]
theorem runF_S (sy ep : Int) (l : List St) : ∀ D, runF (l.map fun t D => stD D sy ep t) D = runS sy ep l D := by
  induction l with
  | nil => intro D; rfl
  | cons t l ih =>
    intro D
    show (if (stD D sy ep t).2 = 0 then runF (l.map fun t D => stD D sy ep t) (stD D sy ep t).1 else stD D sy ep t) = (if (stD D sy ep t).2 = 0 then runS sy ep l (stD D sy ep t).1 else stD D sy ep t)
    rw [ih]
theorem runF_drop (fs : List (Dev → Dev × Int)) (k : Nat) (hk : k < fs.length) (D : Dev) : runF (fs.drop k) D = if (fs[k] D).2 = 0 then runF (fs.drop (k + 1)) (fs[k] D).1 else fs[k] D := by
  rw [List.drop_eq_getElem_cons hk]
  rfl
/-- Any device in any world. -/
def CallI (I : Nat → Dev → World → Prop) (k : Nat) (f : Dev → Dev × Int) (v : Value) : Prop :=
  ∃ fn first caps, v = .func (.func fn) first caps ∧ Enters Try.prog fn ∧ ∀ D w, I k D w → Calls Try.prog fn (first ++ caps) w fun e w' => e = .returned (.int .i64 (f D).2) ∧ I (k + 1) (f D).1 w'
set_option maxRecDepth 100000 in
set_option maxHeartbeats 1000000 in
theorem do_any (I : Nat → Dev → World → Prop) (fs : List (Dev → Dev × Int)) (vs : List Value) (hlen : vs.length = fs.length) (hmax : vs.length ≤ 9223372036854775807) (A : Option Addr) (c : Nat)
    (hat : ∀ k D w, I k D w → ListAt w w.heap.size 1 A (vs.map fun v => [v])) (hstep : ∀ k (h1 : k < fs.length) (h2 : k < vs.length), CallI I k fs[k] vs[k]) (D0 : Dev) (w : World) (hI : I 0 D0 w) :
    Calls Try.prog 64 #[.slice A vs.length c] w fun e w' => e = .returned (.int .i64 (runF fs D0).2) ∧ ∃ j, j ≤ vs.length ∧ I j (runF fs D0).1 w' := by
  have HAT := Lib.hid hat
  have HST := Lib.hid hstep
  have HI := Lib.hid hI
  have HLN := Lib.hid hlen
  clear hat hstep hI hlen
  go_enter Try.func64, Try.ntmps64
  go_wp2_with fail
  go_loopg [8] vs.length (fun gk i wr => ∃ (k : Nat) (D : Dev), k ≤ vs.length ∧ gk = vs.length - k ∧ i = .int .i64 k ∧ I k D wr ∧ runF (fs.drop k) D = runF fs D0)
  case atStart => exact ⟨0, D0, by omega, by omega, rfl, HI.out, rfl⟩
  case round =>
    obtain ⟨k, D, hk, hgk, rfl, hIk, hrun⟩ := hrel
    have HGK := Lib.hid hgk
    have HR := Lib.hid hrun
    have HIK := Lib.hid hIk
    clear hgk hrun hIk
    by_cases hlt : k < vs.length
    · have hk2 : k < fs.length := by rw [← HLN.out]; exact hlt
      obtain ⟨b, off, rfl, hb, hcell⟩ := HAT.out k D wr HIK.out (by rw [List.length_map]; omega)
      have hc0 := hcell k [vs[k]] (by rw [List.getElem?_map, List.getElem?_eq_getElem hlt]; rfl) 0 vs[k] rfl
      rw [Nat.mul_one, Nat.add_zero] at hc0
      obtain ⟨fn, first, caps, hv, hE, hcall⟩ := HST.out k hk2 hlt
      rw [hv] at hc0
      have HC := Lib.hid (hcall D wr HIK.out)
      have HE := Lib.hid hE
      have HRD := Lib.hid (runF_drop fs k hk2 D)
      clear hcell hv hE hcall
      obtain ⟨⟨D1, er⟩, hr⟩ : ∃ r, fs[k] D = r := ⟨_, rfl⟩
      rw [hr] at HC HRD
      clear hr
      unfold Enters at HE
      have hE := HE.out
      by_cases h0 : er = 0
      · subst h0
        go_wp2_with fail
        refine HC.out.mono ?_
        rintro e w1 ⟨rfl, hI1⟩
        have HI1 := Lib.hid hI1
        clear hI1 hE
        go_wp2_with fail
        go_roundg (vs.length - (k + 1))
        case measure => rw [HGK.out]; omega
        case rel => exact ⟨k + 1, D1, by omega, by omega, by go_num, HI1.out, by rw [← HR.out, HRD.out]; rfl⟩
      · have hne : (er != 0) = true := by rw [bne_iff_ne]; exact h0
        have HF : Hid (runF fs D0 = (D1, er)) := Lib.hid (by rw [← HR.out, HRD.out]; exact if_neg h0)
        clear h0
        go_wp2_with fail
        refine HC.out.mono ?_
        rintro e w1 ⟨rfl, hI1⟩
        have HI1 := Lib.hid hI1
        clear hI1 hE
        go_wp2_with fail
        go_ret
        rw [HF.out]
        exact ⟨rfl, k + 1, by omega, HI1.out⟩
    · obtain rfl : k = vs.length := by omega
      have HF : Hid (runF fs D0 = (D, 0)) := Lib.hid (by rw [← HR.out, List.drop_of_length_le (by rw [← HLN.out]; omega)]; rfl)
      go_wp2_with fail
      go_ret
      rw [HF.out]
      exact ⟨rfl, vs.length, by omega, HIK.out⟩
end Go.Proofs.Ytbddelefglhaaaa
namespace Go.Proofs.Ytbddelefglhaaaa
set_option linter.unusedVariables false
set_option linter.unusedSimpArgs false
set_option linter.unusedSectionVars false
open Go.RowKit
theorem useD_pend (D : Dev) : (useD D).1.pend.length ≤ D.pend.length := by
  unfold useD
  split
  · exact Nat.le_refl _
  · exact Nat.le_refl _
  · show ((D.pend.filter fun r => !(fun _ => true) r)).length ≤ _
    exact List.length_filter_le _ _
theorem admitD_pend (D : Dev) (sy ep : Int) : (admitD D sy ep).1.pend.length ≤ D.pend.length := by
  unfold admitD
  split
  · exact Nat.le_refl _
  split
  · exact Nat.le_refl _
  split
  · exact useD_pend D
  · exact useD_pend D
theorem writeD_pend (D : Dev) (sy ep i : Int) (s : ByteArray) : (writeD D sy ep i s).1.pend.length ≤ D.pend.length + 1 := by
  have h := admitD_pend D sy ep
  unfold writeD
  split
  · show D.pend.length ≤ _; omega
  split
  · show D.pend.length ≤ _; omega
  split
  · omega
  · show ((admitD D sy ep).1.pend ++ [_]).length ≤ _
    rw [List.length_append, List.length_singleton]; omega
theorem syncD_pend (D : Dev) (sy ep : Int) : (syncD D sy ep).1.pend.length ≤ D.pend.length := by
  have h := admitD_pend D sy ep
  unfold syncD
  split
  · exact Nat.le_refl _
  split
  · exact h
  · show ((admitD D sy ep).1.pend.filter _).length ≤ _
    exact Nat.le_trans (List.length_filter_le _ _) h
theorem stD_pend (D : Dev) (sy ep : Int) (t : St) : (stD D sy ep t).1.pend.length ≤ D.pend.length + 1 := by
  cases t with
  | put i s => exact writeD_pend D sy ep i s
  | sync => exact Nat.le_succ_of_le (syncD_pend D sy ep)
theorem runS_pend (sy ep : Int) (l : List St) : ∀ D, (runS sy ep l D).1.pend.length ≤ D.pend.length + l.length := by
  induction l with
  | nil => intro D; exact Nat.le_refl _
  | cons t l ih =>
    intro D
    have h := stD_pend D sy ep t
    show (if (stD D sy ep t).2 = 0 then runS sy ep l (stD D sy ep t).1 else stD D sy ep t).1.pend.length ≤ _
    rw [List.length_cons]
    split
    · have := ih (stD D sy ep t).1; omega
    · omega
/-- A function value that does f to the device, on whatever the device has become; n writes at most. -/
def Works (w0 : World) (x : Nat) (out : Nat → Prop) (W : World) (n : Nat) (v : Value) (f : Dev → Dev × Int) : Prop :=
  ∃ fn first caps, v = .func (.func fn) first caps ∧ Enters Try.prog fn ∧ ∀ D' w', Live w0 x D' out w' → Beside w0 out W w' → D'.pend.length ≤ 990000 → Calls Try.prog fn (first ++ caps) w' fun e w'' =>
    e = .returned (.int .i64 (f D').2) ∧ Live w0 x (f D').1 out w'' ∧ Beside w0 out w' w'' ∧ (f D').1.pend.length ≤ D'.pend.length + n
theorem enters_put1 : Enters Try.prog 81 := enters_of Try.func81 (by kernel_rfl) (by kernel_rfl)
theorem enters_sync : Enters Try.prog 61 := enters_of Try.func61 (by kernel_rfl) (by kernel_rfl)
theorem enters_clear : Enters Try.prog 77 := enters_of Try.func77 (by kernel_rfl) (by kernel_rfl)
/-- What lies outside a device stays. -/
theorem Blk.beside {w0 W w' : World} {out : Nat → Prop} {g : Nat} {t : TypeId} {cs : Array Value} (h : Blk W g t cs) (hB : Beside w0 out W w') (ho : out g) : Blk w' g t cs := h.turned hB (fun hh => hh.2 ho)
section
variable {w0 : World} {x s m : Nat} {sy ep : Int} {out : Nat → Prop} {W : World} (hb : Blk W s 110 (storeC x sy ep m)) (hs : out s)
include hb hs
theorem works_put {lo : Nat} (hlo : ∀ k, lo ≤ k → k < W.heap.size → out k) {i : Int} {raw : ByteArray} (hr : raw.size ≤ 9223372036854775807) {v : Value} (h : PutAt W lo s i raw v) : Works w0 x out W 1 v (fun D => writeD D sy ep i raw) := by
  obtain ⟨a, b, c, rfl, la, lb, lc, ha, hbb, hc⟩ := h
  refine ⟨_, _, _, rfl, enters_put1, fun D' w' hL hB hp => ?_⟩
  refine (put1_any hL (hb.beside hB hs) (by omega) i raw hr a b c (ha.beside hB (hlo a la ha.lt)) (hbb.beside hB (hlo b lb hbb.lt)) (hc.beside hB (hlo c lc hc.lt))).mono ?_
  rintro e w'' ⟨he, h1, h2⟩
  exact ⟨he, h1, h2, writeD_pend ..⟩
theorem works_sync : Works w0 x out W 0 (.func (.func 61) #[ptrV s] #[]) (fun D => syncD D sy ep) := by
  refine ⟨_, _, _, rfl, enters_sync, fun D' w' hL hB hp => ?_⟩
  refine (sync_any' hL (hb.beside hB hs) (by omega)).mono ?_
  rintro e w'' ⟨he, h1, h2⟩
  exact ⟨he, h1, h2, syncD_pend ..⟩
theorem works_clear : Works w0 x out W 1 (.func (.func 77) #[ptrV s] #[]) (fun D => writeD D sy ep 33 blankR) := by
  refine ⟨_, _, _, rfl, enters_clear, fun D' w' hL hB hp => ?_⟩
  refine (clear_any hL (hb.beside hB hs) (by omega)).mono ?_
  rintro e w'' ⟨he, h1, h2⟩
  exact ⟨he, h1, h2, writeD_pend ..⟩
end
/-- The list's block lies outside the device. -/
def AsideL (w0 : World) (out : Nat → Prop) (A : Option Addr) : Prop := ∀ b off, A = some ⟨b, off, none⟩ → b < w0.heap.size ∨ out b
theorem ListAt.beside {w0 W w' : World} {out : Nat → Prop} {sz : Nat} {A : Option Addr} {rows : List (List Value)} (h : ListAt W W.heap.size sz A rows) (hB : Beside w0 out W w') (hA : AsideL w0 out A) : ListAt w' w'.heap.size sz A rows := fun hl => by
  obtain ⟨b, off, e, hb, hc⟩ := h hl
  refine ⟨b, off, e, Nat.lt_of_lt_of_le hb hB.size, fun j cs hj i v hi => ?_⟩
  rw [hB.cellEq b _ hb (fun hh => by rcases hA b off e with h9 | h9; exact absurd hh.1 (by omega); exact hh.2 h9)]
  exact hc j cs hj i v hi
theorem Works.more {w0 : World} {x : Nat} {out : Nat → Prop} {W : World} {n n' : Nat} {v : Value} {f : Dev → Dev × Int} (h : Works w0 x out W n v f) (hn : n ≤ n') : Works w0 x out W n' v f := by
  obtain ⟨fn, first, caps, h1, h2, h3⟩ := h
  exact ⟨fn, first, caps, h1, h2, fun D' w' a b c => (h3 D' w' a b c).mono fun e w'' h => ⟨h.1, h.2.1, h.2.2.1, by omega⟩⟩
/-- A list of function values and what they do. -/
def WorksL (w0 : World) (x : Nat) (out : Nat → Prop) (W : World) (n : Nat) (fs : List (Dev → Dev × Int)) (vs : List Value) : Prop :=
  vs.length = fs.length ∧ ∀ (k : Nat) (f : Dev → Dev × Int) (v : Value), fs[k]? = some f → vs[k]? = some v → Works w0 x out W n v f
theorem WorksL.nil (w0 : World) (x : Nat) (out : Nat → Prop) (W : World) (n : Nat) : WorksL w0 x out W n [] [] := ⟨rfl, fun k f v h => by simp at h⟩
theorem WorksL.app {w0 : World} {x : Nat} {out : Nat → Prop} {W : World} {n : Nat} {fs gs : List (Dev → Dev × Int)} {vs us : List Value} (h : WorksL w0 x out W n fs vs) (k : WorksL w0 x out W n gs us) : WorksL w0 x out W n (fs ++ gs) (vs ++ us) := by
  refine ⟨by rw [List.length_append, List.length_append, h.1, k.1], fun j f v h1 h2 => ?_⟩
  rcases Nat.lt_or_ge j fs.length with hj | hj
  · rw [List.getElem?_append_left hj] at h1
    rw [List.getElem?_append_left (by rw [h.1]; exact hj)] at h2
    exact h.2 j f v h1 h2
  · rw [List.getElem?_append_right hj] at h1
    rw [List.getElem?_append_right (by rw [h.1]; exact hj), h.1] at h2
    exact k.2 _ f v h1 h2
theorem WorksL.cons {w0 : World} {x : Nat} {out : Nat → Prop} {W : World} {n : Nat} {fs : List (Dev → Dev × Int)} {vs : List Value} {f : Dev → Dev × Int} {v : Value} (h : Works w0 x out W n v f) (k : WorksL w0 x out W n fs vs) : WorksL w0 x out W n (f :: fs) (v :: vs) := by
  refine ⟨by rw [List.length_cons, List.length_cons, k.1], fun j f' v' h1 h2 => ?_⟩
  cases j with
  | zero =>
    obtain rfl : f = f' := by simpa using h1
    obtain rfl : v = v' := by simpa using h2
    exact h
  | succ j => exact k.2 j f' v' (by simpa using h1) (by simpa using h2)
/-- 'do' over such functions. -/
theorem do_works {w0 : World} {x : Nat} {D : Dev} {out : Nat → Prop} {W : World} (hL : Live w0 x D out W) (n : Nat) (fs : List (Dev → Dev × Int)) (vs : List Value) (hW : WorksL w0 x out W n fs vs)
    (hmax : D.pend.length + n * vs.length ≤ 990000) (hv : vs.length ≤ 990000) (A : Option Addr) (c : Nat) (hat : ListAt W W.heap.size 1 A (vs.map fun v => [v])) (hA : AsideL w0 out A) :
    Calls Try.prog 64 #[.slice A vs.length c] W fun e w' => e = .returned (.int .i64 (runF fs D).2) ∧ Live w0 x (runF fs D).1 out w' ∧ Beside w0 out W w' ∧ (runF fs D).1.pend.length ≤ D.pend.length + n * vs.length := by
  refine (do_any (fun k D' w' => (k ≤ vs.length → D'.pend.length ≤ D.pend.length + n * k) ∧ Live w0 x D' out w' ∧ Beside w0 out W w') fs vs hW.1 (by omega) A c (fun k D' w' h => hat.beside h.2.2 hA) (fun k h1 h2 => ?_) D W ⟨fun _ => by omega, hL, Turned.refl _ _⟩).mono ?_
  · obtain ⟨fn, first, caps, hv, hE, hc⟩ := hW.2 k _ _ (List.getElem?_eq_getElem h1) (List.getElem?_eq_getElem h2)
    refine ⟨fn, first, caps, hv, hE, fun D' w' ⟨hp, hL', hB⟩ => ?_⟩
    have h9 := hp (by omega)
    have h8 : n * k ≤ n * vs.length := Nat.mul_le_mul_left n (by omega)
    refine (hc D' w' hL' hB (by omega)).mono ?_
    rintro e w'' ⟨he, hL2, hB2, hp2⟩
    exact ⟨he, fun _ => by rw [Nat.mul_succ]; omega, hL2, hB.trans hB2⟩
  · rintro e w' ⟨he, j, hj, hp, hL', hB⟩
    have h8 : n * j ≤ n * vs.length := Nat.mul_le_mul_left n hj
    exact ⟨he, hL', hB, by have := hp hj; omega⟩
end Go.Proofs.Ytbddelefglhaaaa
