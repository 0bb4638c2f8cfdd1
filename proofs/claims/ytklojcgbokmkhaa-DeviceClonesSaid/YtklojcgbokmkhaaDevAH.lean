/- Chapter 3, plain: devices without failures and fences. -/
import Derived.Test.YtklojcgbokmkhaaDevAG
namespace Go.Proofs.Ytklojcgbokmkhaa
set_option linter.unusedVariables false
set_option linter.unusedSimpArgs false
set_option linter.unusedSectionVars false
open Go.RowKit
/-- No failure, no fuse, no fence. -/
structure CalmD (D : Dev) : Prop where
  failed : D.failed = false
  fuse : D.fuse = none
  fen : ∀ s, D.fen s = 0
theorem calm_new (n : Nat) : CalmD (newD n) := ⟨rfl, rfl, fun _ => rfl⟩
theorem useD_calm {D : Dev} (h : CalmD D) : useD D = (D, false) := by unfold useD; rw [h.fuse]
theorem admitD_calm {D : Dev} (h : CalmD D) (s e : Int) : (admitD D s e).1 = D := by
  unfold admitD
  rw [if_neg (by rw [h.failed]; decide), useD_calm h]
  split <;> rfl
theorem finishD_kept {D : Dev} (h : D.Ok) (p : Wr → Bool) (sv : Nat → Nat) (hsv : ∀ k, sv k ≤ 140) : (finishD D p sv).failed = D.failed ∧ (finishD D p sv).fuse = D.fuse ∧ (finishD D p sv).fen = D.fen ∧ (finishD D p sv).st.length = D.st.length := by
  have hk := runEnd_kept h p sv hsv D.pend (fun _ h => h)
  exact ⟨hk.failed, hk.fuse, hk.fen, hk.len⟩
theorem finishD_calm {D : Dev} (h : D.Ok) (hc : CalmD D) (p : Wr → Bool) (sv : Nat → Nat) (hsv : ∀ k, sv k ≤ 140) : CalmD (finishD D p sv) := by
  obtain ⟨h1, h2, h3, _⟩ := finishD_kept h p sv hsv
  exact ⟨by rw [h1, hc.failed], by rw [h2, hc.fuse], fun s => by rw [h3, hc.fen]⟩
theorem calm_do {D : Dev} (h : D.Ok) (hc : CalmD D) (o : OpD) (h3 : ¬ o.kind % 8 = 3) (h4 : ¬ o.kind % 8 = 4) : CalmD (doD D o).1 ∧ (doD D o).1.st.length = D.st.length := by
  have ha := admitD_calm hc o.sys o.ep
  have hs : ∀ S : List ByteArray, CalmD { D with st := S } := fun S => ⟨hc.failed, hc.fuse, hc.fen⟩
  rcases mod8 o.kind with hm | hm | hm | hm | hm | hm | hm | hm
  · rw [show doD D o = writeD D o.sys o.ep o.sec o.data from by unfold doD; rw [hm]; rfl]
    unfold writeD
    split
    · exact ⟨hc, rfl⟩
    · split
      · exact ⟨hc, rfl⟩
      · split
        · rw [ha]; exact ⟨hc, rfl⟩
        · rw [ha]; exact ⟨⟨hc.failed, hc.fuse, hc.fen⟩, rfl⟩
  · rw [show doD D o = syncD D o.sys o.ep from by unfold doD; rw [hm]; rfl]
    unfold syncD
    split
    · exact ⟨hc, rfl⟩
    · split
      · rw [ha]; exact ⟨hc, rfl⟩
      · rw [ha]; exact ⟨finishD_calm h hc _ _ (fun _ => Nat.le_refl _), (finishD_kept h _ _ (fun _ => Nat.le_refl _)).2.2.2⟩
  · rw [show doD D o = (crashD D o.sys o.sv, 0) from by unfold doD; rw [hm]; rfl]
    exact ⟨finishD_calm h hc _ _ (svN_le _), (finishD_kept h _ _ (svN_le _)).2.2.2⟩
  · exact absurd hm h3
  · exact absurd hm h4
  · rw [show doD D o = (repairD D, 0) from by unfold doD; rw [hm]; rfl]
    exact ⟨⟨rfl, rfl, hc.fen⟩, rfl⟩
  · rw [show doD D o = damageD D o.sec o.n o.mask from by unfold doD; rw [hm]; rfl]
    unfold damageD
    split
    · exact ⟨hc, rfl⟩
    · split
      · exact ⟨hc, rfl⟩
      · exact ⟨hs _, List.length_set ..⟩
  · rw [show doD D o = returnD D o.sec o.n from by unfold doD; rw [hm]; rfl]
    unfold returnD
    split
    · exact ⟨hc, rfl⟩
    · exact ⟨hs _, List.length_set ..⟩
theorem crashD_calm {D : Dev} (h : D.Ok) (hc : CalmD D) (s : Int) (l : List Int) : CalmD (crashD D s l) ∧ (crashD D s l).st.length = D.st.length := ⟨finishD_calm h hc _ _ (svN_le _), (finishD_kept h _ _ (svN_le _)).2.2.2⟩
theorem crashD_pend (D : Dev) (s : Int) (l : List Int) : (crashD D s l).pend = D.pend.filter fun r => !ofSys s r := rfl
theorem crashD_ok {D : Dev} (h : D.Ok) (s : Int) (l : List Int) : (crashD D s l).Ok := finishD_ok h _ _ (svN_le _)
theorem Dev.pend_nil {D : Dev} (h : D.pend = []) : { D with pend := [] } = D := by
  cases D
  simp only at h
  subst h
  rfl
theorem finishD_empty {D : Dev} (h : D.pend = []) (p : Wr → Bool) (sv : Nat → Nat) : finishD D p sv = D := by
  unfold finishD runEnd
  rw [h]
  exact Dev.pend_nil h
theorem cutW_all {r : Wr} {was : ByteArray} (h1 : r.data.size = 140) (h2 : was.size = 140) : cutW r 140 was = r.data := by
  unfold cutW
  rw [h2]
  have e1 : was.extract 140 140 = ByteArray.empty := by
    apply ByteArray.ext
    rw [ByteArray.data_extract]
    simp
    exact Nat.min_le_left _ _
  rw [e1, ByteArray.append_empty]
  apply ByteArray.ext
  rw [ByteArray.data_extract]
  exact Array.extract_eq_self_of_le (by show r.data.data.size ≤ 140; have : r.data.data.size = 140 := h1; omega)
/-- A write that is synced alone. -/
theorem finishD_one {D : Dev} (h : D.Ok) {r : Wr} (hp : D.pend = [r]) (p : Wr → Bool) (hr : p r = true) : finishD D p (fun _ => 140) = { changeD D r.sec r.data with pend := [] } := by
  have hr1 := h.pend r (by rw [hp]; exact List.mem_cons_self ..)
  have h1 : cutW r 140 (D.at r.sec) = r.data := cutW_all hr1.2.1 (at_size h hr1.1)
  unfold finishD runEnd
  rw [hp]
  simp only [List.foldl_cons, List.foldl_nil, List.filter_cons, List.filter_nil]
  rw [show endStep p (fun _ => 140) (D, 0) r = (changeD D r.sec r.data, 1) from by unfold endStep; rw [if_pos hr, h1]]
  rw [hr]
  rfl
theorem changeD_at {D : Dev} {i : Nat} (hi : i < D.st.length) (s : ByteArray) : (changeD D i s).at i = s := by
  unfold changeD
  split
  · assumption
  · show ({ D with st := D.st.set i s, old := _ } : Dev).at i = s
    unfold Dev.at
    simp only
    rw [List.getD_eq_getElem?_getD, List.getElem?_set_self hi]; rfl
theorem changeD_at_ne {D : Dev} {i j : Nat} (hij : i ≠ j) (s : ByteArray) : (changeD D i s).at j = D.at j := by
  unfold changeD
  split
  · rfl
  · unfold Dev.at
    simp only
    rw [List.getD_eq_getElem?_getD, List.getElem?_set_ne hij, List.getD_eq_getElem?_getD]
theorem readD_at {D : Dev} (h : D.failed = false) (hp : D.pend = []) {i : Nat} (hi : i < D.st.length) : readD D i = (D.at i, 0) := by
  unfold readD
  rw [if_neg (by unfold thereD; simp; omega), if_neg (by rw [h]; decide), Int.toNat_natCast]
  unfold Dev.content
  rw [hp]
  rfl
theorem changeD_calm {D : Dev} (hc : CalmD D) (i : Nat) (s : ByteArray) : CalmD { changeD D i s with pend := [] } :=
  ⟨by show (changeD D i s).failed = _; rw [changeD_failed, hc.failed], by show (changeD D i s).fuse = _; rw [changeD_fuse, hc.fuse], fun k => by show (changeD D i s).fen k = _; rw [changeD_fen, hc.fen]⟩
theorem thereD_nat {D : Dev} {i : Nat} (hi : i < D.st.length) : thereD D i = true := decide_eq_true ⟨by omega, by omega⟩
theorem plainW_of {s e : Int} (h1 : 1 ≤ s) (h2 : s ≤ 4) (h3 : 0 ≤ e) (h4 : e ≤ 1099511627776) : plainW s e = true := decide_eq_true ⟨h1, h2, h3, h4⟩
/-- Written and synced alone: the sector has that content. -/
theorem put_calm {D : Dev} (h : D.Ok) (hc : CalmD D) (hp : D.pend = []) {s e : Int} (hw : plainW s e = true) {i : Nat} (hi : i < D.st.length) {data : ByteArray} (hd : data.size = 140) :
    writeD D s e i data = ({ D with pend := [⟨s, i, data⟩] }, 0) ∧ syncD { D with pend := [⟨s, i, data⟩] } s e = ({ changeD D i data with pend := [] }, 0) := by
  have hwd := of_decide_eq_true hw
  have he : ¬ e < D.fen s := by rw [hc.fen]; omega
  refine ⟨?_, ?_⟩
  · rw [write_calm hc.failed hc.fuse hw hd (thereD_nat hi) he, hp, Int.toNat_natCast]; rfl
  · have hok : ({ D with pend := [⟨s, i, data⟩] } : Dev).Ok := ⟨h.len, h.pos, h.lim, h.st, h.old, fun r hr => by rw [List.mem_singleton.1 hr]; exact ⟨hi, hd, hwd.1, hwd.2.1⟩, h.fen⟩
    rw [sync_calm (D := { D with pend := [⟨s, i, data⟩] }) hc.failed hc.fuse hw he, finishD_one hok rfl (ofSys s) (decide_eq_true rfl)]
    congr 1
    unfold changeD
    split
    · rename_i h9
      rw [if_pos (show D.at i = data from h9)]
    · rename_i h9
      rw [if_neg (show ¬ D.at i = data from h9)]; rfl
end Go.Proofs.Ytklojcgbokmkhaa
