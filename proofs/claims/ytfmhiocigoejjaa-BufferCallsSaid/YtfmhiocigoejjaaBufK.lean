/- The list of calls as it comes in; Few's walk. -/
import Derived.Test.YtfmhiocigoejjaaBufJ
import Derived.Test.YtfmhiocigoejjaaLaw
import Derived.Deep.LoopGhost
namespace Go.Proofs.Ytfmhiocigoejjaa
set_option linter.unusedVariables false
set_option linter.unusedSimpArgs false
set_option linter.unusedSectionVars false
open Go.ChangeShapes Go.WideShapes Go.ChangeAt Go.RowKit Go.Deep
theorem lit_i64 {n : Int} (h : (Lit.int .i64 n).wf = true) : okInt n := by
  unfold okInt
  simp [Lit.wf, IntKind.min, IntKind.max, IntKind.signed, IntKind.bits] at h; omega
theorem open_ops {H : Type} {enc : TypeId × Value → H} {w : World} {r : Reach} {b0 : Nat} {v : Value} {d : DataW H} {ps : List MemPlace}
    (hv : Value.okWide Try.prog w r b0 33 v) (hd : DataW.Trod enc Try.prog w 0 (fun _ => true) true 33 v d ps) :
    ∃ A c, ∃ l : List Opn, v = .slice A l.length c ∧ l.length ≤ c ∧ c ≤ 9223372036854775807 ∧ OpsAt w w.heap.size A l := by
  obtain ⟨A, c, l, rfl, h1, h2, h3, h4⟩ := open_list (α := Opn) (sz := 5) Try.underlying33 (by kernel_rfl) (by omega) opC okOp (fun n cs y hlen h => by
      have hf := struct_fields Try.underlying38 (by kernel_rfl) h
      obtain ⟨v0, _, _, e0, f0⟩ := hf 0 _ rfl (by omega)
      obtain ⟨v1, _, _, e1, f1⟩ := hf 1 _ rfl (by omega)
      obtain ⟨v2, _, _, e2, f2⟩ := hf 2 _ rfl (by omega)
      obtain ⟨v3, _, _, e3, f3⟩ := hf 3 _ rfl (by omega)
      obtain ⟨v4, _, _, e4, f4⟩ := hf 4 _ rfl (by omega)
      obtain ⟨n0, hn0, _, w0⟩ := DataW.trod_int Try.underlying3 f0
      obtain ⟨n1, hn1, _, w1⟩ := DataW.trod_int Try.underlying3 f1
      obtain ⟨n2, hn2, _, w2⟩ := DataW.trod_int Try.underlying3 f2
      obtain ⟨n3, hn3, _, w3⟩ := DataW.trod_int Try.underlying3 f3
      obtain ⟨n4, hn4, _, w4⟩ := DataW.trod_string Try.underlying9 f4
      injection hn0 with hn0 _
      injection hn1 with hn1 _
      injection hn2 with hn2 _
      injection hn3 with hn3 _
      injection hn4 with hn4 _
      subst hn0; subst hn1; subst hn2; subst hn3; subst hn4
      refine ⟨⟨n0, n1, n2, n3, n4⟩, ⟨lit_i64 w0, lit_i64 w1, lit_i64 w2, lit_i64 w3, ?_⟩, ?_⟩
      · unfold maxLen at w4; show n4.size ≤ _; simpa using w4
      · match cs, hlen with
        | [x0, x1, x2, x3, x4], _ =>
          simp at e0 e1 e2 e3 e4
          rw [e0, e1, e2, e3, e4]
          rfl) hv hd
  exact ⟨A, c, l, rfl, h1, h2, h3, h4⟩
def fewO (l : List Opn) : Bool := l.all (fun v => decide (v.data.size ≤ 100)) && decide (l.length ≤ 60)
set_option maxRecDepth 100000 in
set_option maxHeartbeats 2000000 in
theorem few_any (A : Option Addr) (c : Nat) (l : List Opn) (w : World) (B : Nat) (hv : OpsAt w B A l) (hl : l.length ≤ 9223372036854775807) :
    Calls Try.prog 15 #[.slice A l.length c, .int .i64 60] w fun e w' => e = .returned (.bool (fewO l)) ∧ w = w' := by
  have HV := Lib.hid hv
  clear hv
  go_enter Try.func15, Try.ntmps15
  go_wp2
  go_loopg [5] l.length (fun gk i wr => w = wr ∧ ∃ k : Nat, k ≤ l.length ∧ gk = l.length - k ∧ i = .int .i64 k ∧ ∀ j (hj : j < l.length), j < k → l[j].data.size ≤ 100)
  case atStart => exact ⟨rfl, 0, by omega, by omega, rfl, fun j hj h => by omega⟩
  case round =>
    obtain ⟨rfl, k, hk, hgk, rfl, hall⟩ := hrel
    have HGK := Lib.hid hgk
    have HA := Lib.hid hall
    clear hgk hall
    by_cases hlt : k < l.length
    · obtain ⟨b, off, rfl, hb, hok, c0, c1, c2, c3, c4⟩ := HV.out.at_ hlt
      obtain ⟨t, ht⟩ : ∃ t, t = l[k] := ⟨_, rfl⟩
      have HL := Lib.hid ht
      rw [← ht] at c0 c1 c2 c3 c4 hok
      clear ht
      obtain ⟨o1, o2, o3, o4, o5⟩ := hok
      by_cases h2 : 100 < t.data.size
      · go_wp2
        go_ret
        refine ⟨ret_bool ?_, rfl⟩
        unfold fewO
        symm
        rw [Bool.and_eq_false_iff]
        left
        rw [List.all_eq_false]
        refine ⟨l[k], List.getElem_mem hlt, ?_⟩
        rw [← HL.out]
        simp
        omega
      · go_wp2
        go_roundg (l.length - (k + 1))
        case measure => rw [HGK.out]; omega
        case rel =>
          refine ⟨rfl, k + 1, by omega, by omega, by go_num, fun j hj h => ?_⟩
          by_cases hjk : j = k
          · subst hjk; rw [← HL.out]; omega
          · exact HA.out j hj (by omega)
    · have hall : l.all (fun v => decide (v.data.size ≤ 100)) = true := by
        rw [List.all_eq_true]
        intro v hv
        obtain ⟨j, hj, rfl⟩ := List.getElem_of_mem hv
        simpa using HA.out j hj (by omega)
      have HF := Lib.hid hall
      clear hall
      go_wp2
      go_ret
      refine ⟨ret_bool ?_, rfl⟩
      unfold fewO
      rw [HF.out, Bool.true_and]
      rw [Bool.eq_iff_iff]; simp; omega
end Go.Proofs.Ytfmhiocigoejjaa
