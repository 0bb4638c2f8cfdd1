/- Chapter 3: DeviceReturns. -/
import Derived.Test.YtklojcgbokmkhaaDevAI
namespace Go.Proofs.Ytklojcgbokmkhaa
set_option linter.unusedVariables false
set_option linter.unusedSimpArgs false
set_option linter.unusedSectionVars false
open Go.RowKit Go.ChangeShapes Go.WideShapes Go.ChangeAt Go.Deep
open Go.Maps (Keyed)
attribute [local go_sem ↓] Go.wp_at_zero Go.wp_at_succ
def StrsAt (w : World) (B : Nat) (A : Option Addr) (l : List ByteArray) : Prop := (∀ s ∈ l, s.size ≤ 9223372036854775807) ∧ ListAt w B 1 A (l.map strC)
theorem StrsAt.keep {w w' : World} {B : Nat} {A : Option Addr} {l : List ByteArray} (h : StrsAt w B A l) (hB : B ≤ w.heap.size) (hg : Grew w w') : StrsAt w' B A l := ⟨h.1, h.2.keep hB hg⟩
set_option maxRecDepth 100000 in
theorem open_strs {H : Type} {enc : TypeId × Value → H} {w : World} {r : Reach} {b0 : Nat} {v : Value} {d : DataW H} {ps : List MemPlace} (hv : Value.okWide Try.prog w r b0 27 v) (hd : DataW.Trod enc Try.prog w 0 (fun _ => true) true 27 v d ps) :
    ∃ A c, ∃ l : List ByteArray, v = .slice A l.length c ∧ l.length ≤ c ∧ c ≤ 9223372036854775807 ∧ StrsAt w w.heap.size A l := by
  obtain ⟨A, c, l, rfl, h1, h2, h3, h4⟩ := open_list (α := ByteArray) (sz := 1) Try.underlying27 (by kernel_rfl) (by omega) strC (fun s => s.size ≤ 9223372036854775807) (fun n cs y hlen h => by
      match cs, hlen with
      | [v], _ =>
        obtain ⟨n0, hn0, _, w0⟩ := DataW.trod_string Try.underlying9 h
        injection hn0 with hn0 _
        subst hn0
        unfold maxLen at w0
        exact ⟨n0, by simpa using w0, rfl⟩) hv hd
  exact ⟨A, c, l, rfl, h1, h2, h3, h4⟩
theorem fullS_empty : fullS ⟨#[]⟩ = blank := by kernel_rfl
/-- What a device of one sector holds behind texts that were written. -/
structure HadD (D : Dev) (pre : List ByteArray) (cur : ByteArray) : Prop where
  calm : CalmD D
  pend : D.pend = []
  len : D.st.length = 1
  top : D.at 0 = cur
  olds : D.olds 0 = pre.reverse.take 8
  size : cur.size = 140
theorem olds_set {D : Dev} (h : D.Ok) (hl : D.st.length = 1) (l : List ByteArray) (S : List ByteArray) : ({ D with st := S, old := D.old.set 0 l } : Dev).olds 0 = l := by
  unfold Dev.olds
  simp only
  rw [List.getD_eq_getElem?_getD, List.getElem?_set_self (by rw [h.len, hl]; decide)]; rfl
theorem HadD.put {D : Dev} {pre : List ByteArray} {cur s : ByteArray} (hd : HadD D pre cur) (h : D.Ok) (hs : s.size = 140) :
    HadD ({ changeD D 0 s with pend := [] } : Dev) (if s = cur then pre else pre ++ [cur]) s := by
  have hi : 0 < D.st.length := by rw [hd.len]; decide
  refine ⟨changeD_calm hd.calm 0 s, rfl, (changeD_len D 0 s).trans hd.len, changeD_at hi s, ?_, hs⟩
  show (changeD D 0 s).olds 0 = _
  by_cases hc : s = cur
  · rw [if_pos hc]
    unfold changeD
    rw [if_pos (by rw [hd.top, hc]), hd.olds]
  · rw [if_neg hc]
    unfold changeD
    rw [if_neg (by rw [hd.top]; exact fun e => hc e.symm), olds_set h hd.len, hd.top, hd.olds, List.reverse_append]
    show (cur :: (pre.reverse.take 8)).take 8 = (cur :: pre.reverse).take 8
    rw [List.take_succ_cons, List.take_succ_cons, List.take_take]
    rfl
theorem HadD.new : HadD (newD 1) [] blank := ⟨calm_new 1, rfl, by simp [newD], by unfold Dev.at newD; simp, by unfold Dev.olds newD; simp, blank_size⟩
theorem thereD_zero {D : Dev} (h : 0 < D.st.length) : thereD D 0 = true := decide_eq_true ⟨by omega, by omega⟩
theorem HadD.earlier {D : Dev} {pre : List ByteArray} {cur : ByteArray} (hd : HadD D pre cur) : earlierD D 0 = min 8 pre.length := by
  unfold earlierD
  rw [if_pos (thereD_zero (by rw [hd.len]; decide))]
  show (D.olds 0).length = _
  rw [hd.olds, List.length_take, List.length_reverse]
theorem HadD.back {D : Dev} {pre : List ByteArray} {cur : ByteArray} (hd : HadD D pre cur) (h : D.Ok) {k : Nat} (h1 : 1 ≤ k) (h2 : k ≤ min 8 pre.length) :
    ∃ E, returnD D 0 (k : Int) = (E, 0) ∧ earlierD E 0 = min 8 pre.length ∧ readD E 0 = (pre[pre.length - k]'(by omega), 0) ∧ E.pend = [] := by
  have hlen : (D.olds 0).length = min 8 pre.length := by rw [hd.olds, List.length_take, List.length_reverse]
  have hk1 : (k : Int).toNat - 1 < (D.olds 0).length := by rw [hlen]; omega
  have hval : (D.olds 0).getD ((k : Int).toNat - 1) emp = pre[pre.length - k]'(by omega) := by
    rw [List.getD_eq_getElem?_getD, List.getElem?_eq_getElem hk1]
    show (D.olds 0)[_] = _
    have e1 : (D.olds 0)[(k : Int).toNat - 1]? = some (pre[pre.length - k]'(by omega)) := by
      rw [hd.olds, List.getElem?_take_of_lt (by omega), List.getElem?_reverse (by omega), List.getElem?_eq_getElem (by omega)]
      congr 2
      omega
    rw [List.getElem?_eq_getElem hk1] at e1
    injection e1
  refine ⟨_, show returnD D 0 (k : Int) = ({ D with st := D.st.set (0 : Int).toNat ((D.olds (0 : Int).toNat).getD ((k : Int).toNat - 1) emp) }, 0) from by
    unfold returnD
    rw [if_neg]
    intro h9
    rcases h9 with h9 | h9 | h9
    · rw [show thereD D 0 = true from thereD_zero (by rw [hd.len]; decide)] at h9; cases h9
    · omega
    · have : ((D.olds 0).length : Int) < k := h9
      omega, ?_, ?_, hd.pend⟩
  · have := hd.earlier
    unfold earlierD at this ⊢
    rw [if_pos (thereD_zero (D := { D with st := D.st.set (0 : Int).toNat ((D.olds (0 : Int).toNat).getD ((k : Int).toNat - 1) emp) }) (by show 0 < (D.st.set _ _).length; rw [List.length_set, hd.len]; decide))]
    rw [if_pos (thereD_zero (by rw [hd.len]; decide))] at this
    exact this
  · have hl : 0 < ({ D with st := D.st.set (0 : Int).toNat ((D.olds (0 : Int).toNat).getD ((k : Int).toNat - 1) emp) } : Dev).st.length := by show 0 < (D.st.set _ _).length; rw [List.length_set, hd.len]; decide
    have := readD_at (D := { D with st := D.st.set (0 : Int).toNat ((D.olds (0 : Int).toNat).getD ((k : Int).toNat - 1) emp) }) hd.calm.failed hd.pend hl
    refine this.trans ?_
    congr 1
    unfold Dev.at
    simp only
    rw [List.getD_eq_getElem?_getD]
    show ((D.st.set 0 _)[0]?).getD emp = _
    rw [List.getElem?_set_self (by rw [hd.len]; decide)]
    exact hval
end Go.Proofs.Ytklojcgbokmkhaa
