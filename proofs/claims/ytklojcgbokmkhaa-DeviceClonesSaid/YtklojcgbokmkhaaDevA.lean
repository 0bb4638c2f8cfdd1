/- Chapter 3, plain: a device. -/
import Derived.Test.YtklojcgbokmkhaaFrame
import Derived.Lib.Hide
namespace Go.Proofs.Ytklojcgbokmkhaa
set_option linter.unusedVariables false
set_option linter.unusedSimpArgs false
set_option linter.unusedSectionVars false
open Go.RowKit
/-- A pending write. -/
structure Wr where
  sys : Int
  sec : Nat
  data : ByteArray
instance : Inhabited Wr := ⟨⟨0, 0, ⟨#[]⟩⟩⟩
def okI (n : Int) : Prop := -9223372036854775808 ≤ n ∧ n ≤ 9223372036854775807
structure Dev where
  st : List ByteArray
  old : List (List ByteArray)
  pend : List Wr
  fen : Int → Int
  fuse : Option (Nat × List Int)
  failed : Bool
def emp : ByteArray := ⟨#[]⟩
structure Dev.Ok (D : Dev) : Prop where
  len : D.old.length = D.st.length
  pos : 1 ≤ D.st.length
  lim : D.st.length ≤ 1155
  st : ∀ s ∈ D.st, s.size = 140
  old : ∀ l ∈ D.old, l.length ≤ 8 ∧ ∀ s ∈ l, s.size = 140
  pend : ∀ r ∈ D.pend, r.sec < D.st.length ∧ r.data.size = 140 ∧ (1 ≤ r.sys ∧ r.sys ≤ 4)
  fen : ∀ s, 0 ≤ D.fen s ∧ D.fen s ≤ 1099511627777
/-- The data of the last write of a sector. -/
def lastW : List Wr → Nat → Option ByteArray
  | [], _ => none
  | r :: l, i => match lastW l i with
    | some s => some s
    | none => if r.sec = i then some r.data else none
theorem lastW_snoc (l : List Wr) (r : Wr) (i : Nat) : lastW (l ++ [r]) i = if r.sec = i then some r.data else lastW l i := by
  induction l with
  | nil => simp [lastW]
  | cons x l ih =>
    rw [List.cons_append, lastW, ih]
    by_cases h : r.sec = i
    · rw [if_pos h, if_pos h]
    · rw [if_neg h, if_neg h, lastW]
def Dev.at (D : Dev) (i : Nat) : ByteArray := D.st.getD i emp
def Dev.olds (D : Dev) (i : Nat) : List ByteArray := D.old.getD i []
def Dev.content (D : Dev) (i : Nat) : ByteArray := (lastW D.pend i).getD (D.at i)
def changeD (D : Dev) (i : Nat) (s : ByteArray) : Dev :=
  if D.at i = s then D else { D with st := D.st.set i s, old := D.old.set i ((D.at i :: D.olds i).take 8) }
def cutW (r : Wr) (n : Nat) (was : ByteArray) : ByteArray := r.data.extract 0 n ++ was.extract n was.size
def endStep (p : Wr → Bool) (sv : Nat → Nat) (s : Dev × Nat) (r : Wr) : Dev × Nat :=
  if p r then (changeD s.1 r.sec (cutW r (sv s.2) (s.1.at r.sec)), s.2 + 1) else s
def runEnd (D : Dev) (p : Wr → Bool) (sv : Nat → Nat) (l : List Wr) : Dev × Nat := l.foldl (endStep p sv) (D, 0)
def finishD (D : Dev) (p : Wr → Bool) (sv : Nat → Nat) : Dev := { (runEnd D p sv D.pend).1 with pend := D.pend.filter fun r => !p r }
def svN (l : List Int) (k : Nat) : Nat := (min (max 0 (l.getD k 0)) 140).toNat
theorem svN_le (l : List Int) (k : Nat) : svN l k ≤ 140 := by unfold svN; omega
theorem at_size {D : Dev} (h : D.Ok) {i : Nat} (hi : i < D.st.length) : (D.at i).size = 140 := by
  unfold Dev.at
  rw [List.getD_eq_getElem?_getD, List.getElem?_eq_getElem hi]
  exact h.st _ (List.getElem_mem hi)
theorem olds_len {D : Dev} (h : D.Ok) (i : Nat) : (D.olds i).length ≤ 8 := by
  unfold Dev.olds
  rw [List.getD_eq_getElem?_getD]
  cases hh : D.old[i]? with
  | none => simp
  | some l => exact (h.old l (List.mem_of_getElem? hh)).1
theorem olds_size {D : Dev} (h : D.Ok) (i : Nat) : ∀ s ∈ D.olds i, s.size = 140 := by
  unfold Dev.olds
  rw [List.getD_eq_getElem?_getD]
  cases hh : D.old[i]? with
  | none => simp
  | some l => exact (h.old l (List.mem_of_getElem? hh)).2
theorem cutW_size {r : Wr} {n : Nat} {was : ByteArray} (h1 : r.data.size = 140) (h2 : was.size = 140) (hn : n ≤ 140) : (cutW r n was).size = 140 := by
  unfold cutW
  rw [ByteArray.size_append, ByteArray.size_extract, ByteArray.size_extract]
  omega
theorem changeD_ok {D : Dev} (h : D.Ok) {i : Nat} {s : ByteArray} (hi : i < D.st.length) (hs : s.size = 140) : (changeD D i s).Ok := by
  unfold changeD
  split
  · exact h
  · refine ⟨by simp [h.len], by simp [h.pos], by simpa using h.lim, ?_, ?_, fun r hr => by simpa using h.pend r hr, h.fen⟩
    · intro t ht
      rcases List.mem_or_eq_of_mem_set ht with ht | rfl
      · exact h.st t ht
      · exact hs
    · intro l hl
      rcases List.mem_or_eq_of_mem_set hl with hl | rfl
      · exact h.old l hl
      · refine ⟨by simp; omega, fun t ht => ?_⟩
        have := List.mem_of_mem_take ht
        rcases List.mem_cons.1 this with rfl | h9
        · exact at_size h hi
        · exact olds_size h i t h9
theorem changeD_len (D : Dev) (i : Nat) (s : ByteArray) : (changeD D i s).st.length = D.st.length := by unfold changeD; split <;> simp
theorem changeD_pend (D : Dev) (i : Nat) (s : ByteArray) : (changeD D i s).pend = D.pend := by unfold changeD; split <;> rfl
theorem changeD_fen (D : Dev) (i : Nat) (s : ByteArray) : (changeD D i s).fen = D.fen := by unfold changeD; split <;> rfl
theorem changeD_fuse (D : Dev) (i : Nat) (s : ByteArray) : (changeD D i s).fuse = D.fuse := by unfold changeD; split <;> rfl
theorem changeD_failed (D : Dev) (i : Nat) (s : ByteArray) : (changeD D i s).failed = D.failed := by unfold changeD; split <;> rfl
/-- What the ends of writes keep. -/
structure EndKept (D E : Dev) : Prop where
  ok : E.Ok
  len : E.st.length = D.st.length
  pend : E.pend = D.pend
  fen : E.fen = D.fen
  fuse : E.fuse = D.fuse
  failed : E.failed = D.failed
theorem endStep_kept {D : Dev} (p : Wr → Bool) (sv : Nat → Nat) (hsv : ∀ k, sv k ≤ 140) {E : Dev} {k : Nat} (h : EndKept D E) (r : Wr) (hr : r.sec < D.st.length ∧ r.data.size = 140) : EndKept D (endStep p sv (E, k) r).1 := by
  unfold endStep
  split
  · have h1 : r.sec < E.st.length := by rw [h.len]; exact hr.1
    exact ⟨changeD_ok h.ok h1 (cutW_size hr.2 (at_size h.ok h1) (hsv _)), by rw [changeD_len, h.len], by rw [changeD_pend, h.pend], by rw [changeD_fen, h.fen], by rw [changeD_fuse, h.fuse], by rw [changeD_failed, h.failed]⟩
  · exact h
theorem run_kept {D : Dev} (h : D.Ok) (p : Wr → Bool) (sv : Nat → Nat) (hsv : ∀ k, sv k ≤ 140) : ∀ (l : List Wr) (s : Dev × Nat), EndKept D s.1 → (∀ r ∈ l, r.sec < D.st.length ∧ r.data.size = 140) → EndKept D (l.foldl (endStep p sv) s).1
  | [], _, hs, _ => hs
  | r :: l, s, hs, hl => run_kept h p sv hsv l _ (endStep_kept p sv hsv (k := s.2) hs r (hl r (List.mem_cons_self ..))) (fun x hx => hl x (List.mem_cons_of_mem _ hx))
theorem runEnd_kept {D : Dev} (h : D.Ok) (p : Wr → Bool) (sv : Nat → Nat) (hsv : ∀ k, sv k ≤ 140) (l : List Wr) (hl : ∀ r ∈ l, r ∈ D.pend) : EndKept D (runEnd D p sv l).1 :=
  run_kept h p sv hsv l (D, 0) ⟨h, rfl, rfl, rfl, rfl, rfl⟩ (fun r hr => ⟨(h.pend r (hl r hr)).1, (h.pend r (hl r hr)).2.1⟩)
theorem runEnd_snoc (D : Dev) (p : Wr → Bool) (sv : Nat → Nat) (l : List Wr) (k : Nat) (hk : k < l.length) : runEnd D p sv (l.take (k + 1)) = endStep p sv (runEnd D p sv (l.take k)) l[k] := by
  unfold runEnd
  rw [List.take_succ_eq_append_getElem hk, List.foldl_append]; rfl
theorem runEnd_cnt (D : Dev) (p : Wr → Bool) (sv : Nat → Nat) (l : List Wr) : (runEnd D p sv l).2 = (l.filter p).length := by
  have key : ∀ (l : List Wr) (s : Dev × Nat), (l.foldl (endStep p sv) s).2 = s.2 + (l.filter p).length := by
    intro l
    induction l with
    | nil => intro s; simp
    | cons r l ih =>
      intro s
      rw [List.foldl_cons, ih, List.filter_cons]
      unfold endStep
      cases p r <;> simp <;> omega
  unfold runEnd
  rw [key]; simp
theorem finishD_ok {D : Dev} (h : D.Ok) (p : Wr → Bool) (sv : Nat → Nat) (hsv : ∀ k, sv k ≤ 140) : (finishD D p sv).Ok := by
  have hk := runEnd_kept h p sv hsv D.pend (fun _ h => h)
  refine ⟨hk.ok.len, hk.ok.pos, hk.ok.lim, hk.ok.st, hk.ok.old, fun r hr => ?_, hk.ok.fen⟩
  have := h.pend r (List.mem_filter.1 hr).1
  show r.sec < (runEnd D p sv D.pend).1.st.length ∧ _
  rw [hk.len]; exact this
/-- The number of writes and syncs goes down, or the device fails. -/
def useD (D : Dev) : Dev × Bool :=
  match D.fuse with
  | none => (D, false)
  | some (n + 1, l) => ({ D with fuse := some (n, l) }, false)
  | some (0, l) => ({ finishD D (fun _ => true) (svN l) with failed := true, fuse := none }, true)
def admitD (D : Dev) (sys ep : Int) : Dev × Int :=
  if D.failed then (D, 10) else if ep < D.fen sys then (D, 13) else if (useD D).2 then ((useD D).1, 10) else ((useD D).1, 0)
def plainW (sys ep : Int) : Bool := decide (1 ≤ sys ∧ sys ≤ 4 ∧ 0 ≤ ep ∧ ep ≤ 1099511627776)
def thereD (D : Dev) (i : Int) : Bool := decide (0 ≤ i ∧ i < D.st.length)
def writeD (D : Dev) (sys ep sec : Int) (data : ByteArray) : Dev × Int :=
  if plainW sys ep = false ∨ data.size ≠ 140 then (D, 1) else if thereD D sec = false then (D, 2)
  else if (admitD D sys ep).2 ≠ 0 then admitD D sys ep
  else ({ (admitD D sys ep).1 with pend := (admitD D sys ep).1.pend ++ [⟨sys, sec.toNat, data⟩] }, 0)
def ofSys (s : Int) (r : Wr) : Bool := decide (r.sys = s)
def syncD (D : Dev) (sys ep : Int) : Dev × Int :=
  if plainW sys ep = false then (D, 1) else if (admitD D sys ep).2 ≠ 0 then admitD D sys ep
  else (finishD (admitD D sys ep).1 (ofSys sys) (fun _ => 140), 0)
def crashD (D : Dev) (sys : Int) (l : List Int) : Dev := finishD D (ofSys sys) (svN l)
def clipE (e : Int) : Int := if e < 0 then 0 else min e 1099511627776 + 1
def fenceD (D : Dev) (sys ep : Int) : Dev := if sys < 1 ∨ 4 < sys then D else { D with fen := fun s => if s = sys then max (D.fen sys) (clipE ep) else D.fen s }
def failD (D : Dev) (n : Int) (l : List Int) : Dev := if D.failed then D else { D with fuse := some ((max 0 n).toNat, l) }
def repairD (D : Dev) : Dev := { D with failed := false, fuse := none }
def xorB (s : ByteArray) (i : Nat) (m : UInt8) : ByteArray := ⟨s.data.modify i (fun b => b ^^^ m)⟩
def damageD (D : Dev) (sec i : Int) (m : UInt8) : Dev × Int :=
  if thereD D sec = false ∨ i < 0 ∨ 140 ≤ i then (D, 2) else if m = 0 then (D, 1) else ({ D with st := D.st.set sec.toNat (xorB (D.at sec.toNat) i.toNat m) }, 0)
def earlierD (D : Dev) (i : Int) : Nat := if thereD D i then (D.olds i.toNat).length else 0
def returnD (D : Dev) (sec back : Int) : Dev × Int :=
  if thereD D sec = false ∨ back < 1 ∨ (D.olds sec.toNat).length < back then (D, 2) else ({ D with st := D.st.set sec.toNat ((D.olds sec.toNat).getD (back.toNat - 1) emp) }, 0)
def readD (D : Dev) (i : Int) : ByteArray × Int :=
  if thereD D i = false then (emp, 2) else if D.failed then (emp, 10) else (D.content i.toNat, 0)
def waitD (D : Dev) (s : Int) : Nat := (D.pend.filter (ofSys s)).length
end Go.Proofs.Ytklojcgbokmkhaa
