/- A slice of values in memory; Few's walk. -/
import Derived.Test.YtfoklokflooapaaWireArgs
import Derived.Test.YtfoklokflooapaaWireVal
import Derived.Deep.LoopGhost
namespace Go.Proofs.Ytfoklokflooapaa
open Go.ChangeShapes Go.WideShapes Go.ChangeAt Go.RowKit Go.Deep
structure Val where
  kd : Nat
  n : Nat
  i : Int
  b : Bool
  t : ByteArray
def Val.ok (v : Val) : Prop := v.kd < 256 ∧ v.n < 18446744073709551616 ∧ -9223372036854775808 ≤ v.i ∧ v.i ≤ 9223372036854775807 ∧ v.t.size ≤ 9223372036854775807
def Val.cells (v : Val) : List Value := [.int .u8 (v.kd : Int), .int .u64 (v.n : Int), .int .i64 v.i, .bool v.b, .string v.t]
instance : Inhabited Val := ⟨⟨0, 0, 0, false, ⟨#[]⟩⟩⟩
def ValsAt (w : World) (B : Nat) (A : Option Addr) (l : List Val) : Prop := (∀ v ∈ l, v.ok) ∧ ListAt w B 5 A (l.map Val.cells)
theorem ValsAt.keep {w w' : World} {B : Nat} {A : Option Addr} {l : List Val} (h : ValsAt w B A l) (hB : B ≤ w.heap.size) (hk : Grew w w') : ValsAt w' B A l := ⟨h.1, h.2.keep hB hk⟩
theorem ValsAt.at_ {w : World} {B : Nat} {A : Option Addr} {l : List Val} (h : ValsAt w B A l) {k : Nat} (hk : k < l.length) :
    ∃ b off kd n i bb t, A = some ⟨b, off, none⟩ ∧ b < B ∧ l[k] = ⟨kd, n, i, bb, t⟩ ∧ Val.ok ⟨kd, n, i, bb, t⟩ ∧
      w.cell? ⟨b, off + k * 5, none⟩ = some (.int .u8 (kd : Int)) ∧ w.cell? ⟨b, off + k * 5 + 1, none⟩ = some (.int .u64 (n : Int)) ∧ w.cell? ⟨b, off + k * 5 + 2, none⟩ = some (.int .i64 i) ∧
      w.cell? ⟨b, off + k * 5 + 3, none⟩ = some (.bool bb) ∧ w.cell? ⟨b, off + k * 5 + 4, none⟩ = some (.string t) := by
  obtain ⟨b, off, e, hb, hc⟩ := h.2 (by simp; omega)
  have hl : (l.map Val.cells)[k]? = some l[k].cells := by rw [List.getElem?_map, List.getElem?_eq_getElem hk]; rfl
  have hcc := hc k _ hl
  have hok := h.1 l[k] (List.getElem_mem hk)
  rcases hv : l[k] with ⟨kd, n, i, bb, t⟩
  rw [hv] at hcc hok
  exact ⟨b, off, kd, n, i, bb, t, e, hb, rfl, hok, hcc 0 _ rfl, hcc 1 _ rfl, hcc 2 _ rfl, hcc 3 _ rfl, hcc 4 _ rfl⟩
theorem open_vals {H : Type} {enc : TypeId × Value → H} {w : World} {r : Reach} {b0 : Nat} {v : Value} {d : DataW H} {ps : List MemPlace}
    (hv : Value.okWide Try.prog w r b0 60 v) (hd : DataW.Trod enc Try.prog w 0 (fun _ => true) true 60 v d ps) :
    ∃ A c, ∃ l : List Val, v = .slice A l.length c ∧ l.length ≤ c ∧ c ≤ 9223372036854775807 ∧ ValsAt w w.heap.size A l := by
  obtain ⟨A, c, l, rfl, h1, h2, h3, h4⟩ := open_list (α := Val) (sz := 5) Try.underlying60 (by kernel_rfl) (by omega) Val.cells Val.ok (fun n cs y hlen h => by
      have hf := struct_fields Try.underlying63 (by kernel_rfl) h
      obtain ⟨v0, _, _, e0, f0⟩ := hf 0 _ rfl (by omega)
      obtain ⟨v1, _, _, e1, f1⟩ := hf 1 _ rfl (by omega)
      obtain ⟨v2, _, _, e2, f2⟩ := hf 2 _ rfl (by omega)
      obtain ⟨v3, _, _, e3, f3⟩ := hf 3 _ rfl (by omega)
      obtain ⟨v4, _, _, e4, f4⟩ := hf 4 _ rfl (by omega)
      obtain ⟨n0, hn0, _, w0⟩ := DataW.trod_int Try.underlying5 f0
      obtain ⟨n1, hn1, _, w1⟩ := DataW.trod_int Try.underlying22 f1
      obtain ⟨n2, hn2, _, w2⟩ := DataW.trod_int Try.underlying3 f2
      obtain ⟨n3, hn3, _⟩ := DataW.trod_bool Try.underlying4 f3
      obtain ⟨n4, hn4, _, w4⟩ := DataW.trod_string Try.underlying9 f4
      injection hn0 with hn0 _
      injection hn1 with hn1 _
      injection hn2 with hn2 _
      injection hn3 with hn3 _
      injection hn4 with hn4 _
      subst hn0; subst hn1; subst hn2; subst hn3; subst hn4
      have b0 := wf_u8 w0
      have b1 := wf_u64 w1
      have b2 := wf_i64 w2
      refine ⟨⟨n0.toNat, n1.toNat, n2, n3, n4⟩, ⟨?_, ?_, b2.1, b2.2, ?_⟩, ?_⟩
      · show n0.toNat < 256; omega
      · show n1.toNat < 18446744073709551616; omega
      · unfold maxLen at w4; show n4.size ≤ _; simpa using w4
      · match cs, hlen with
        | [x0, x1, x2, x3, x4], _ =>
          simp at e0 e1 e2 e3 e4
          rw [e0, e1, e2, e3, e4]
          show _ = [Value.int .u8 (n0.toNat : Int), .int .u64 (n1.toNat : Int), .int .i64 n2, .bool n3, .string n4]
          rw [Int.toNat_of_nonneg b0.1, Int.toNat_of_nonneg b1.1]) hv hd
  exact ⟨A, c, l, rfl, h1, h2, h3, h4⟩
def fewB (l : List Val) : Bool := l.all (fun v => decide (v.t.size ≤ 200)) && decide (l.length ≤ 30)
set_option maxRecDepth 100000 in
set_option maxHeartbeats 2000000 in
theorem few_any (A : Option Addr) (c : Nat) (l : List Val) (w : World) (B : Nat) (hv : ValsAt w B A l) (hl : l.length ≤ 9223372036854775807) :
    Calls Try.prog 35 #[.slice A l.length c] w fun e w' => e = .returned (.bool (fewB l)) ∧ w = w' := by
  have HV := Lib.hid hv
  clear hv
  go_enter Try.func35, Try.ntmps35
  go_wp2
  go_loopg [3] l.length (fun gk i wr => w = wr ∧ ∃ k : Nat, k ≤ l.length ∧ gk = l.length - k ∧ i = .int .i64 k ∧ ∀ j (hj : j < l.length), j < k → l[j].t.size ≤ 200)
  case atStart => exact ⟨rfl, 0, by omega, by omega, rfl, fun j hj h => by omega⟩
  case round =>
    obtain ⟨rfl, k, hk, hgk, rfl, hall⟩ := hrel
    have HGK := Lib.hid hgk
    have HA := Lib.hid hall
    clear hgk hall
    by_cases hlt : k < l.length
    · obtain ⟨b, off, kd, n, i, bb, t, rfl, hb, hlk, hok, c0, c1, c2, c3, c4⟩ := HV.out.at_ hlt
      have HL := Lib.hid hlk
      obtain ⟨o1, o2, o3, o4, o5⟩ := hok
      simp only at o5
      clear hlk
      by_cases h2 : 200 < t.size
      · go_wp2
        go_ret
        refine ⟨ret_bool ?_, rfl⟩
        unfold fewB
        symm
        rw [Bool.and_eq_false_iff]
        left
        rw [List.all_eq_false]
        refine ⟨l[k], List.getElem_mem hlt, ?_⟩
        rw [HL.out]
        simp
        omega
      · go_wp2
        go_roundg (l.length - (k + 1))
        case measure => rw [HGK.out]; omega
        case rel =>
          refine ⟨rfl, k + 1, by omega, by omega, by go_num, fun j hj h => ?_⟩
          by_cases hjk : j = k
          · subst hjk; rw [HL.out]; show t.size ≤ 200; omega
          · exact HA.out j hj (by omega)
    · have hall : l.all (fun v => decide (v.t.size ≤ 200)) = true := by
        rw [List.all_eq_true]
        intro v hv
        obtain ⟨j, hj, rfl⟩ := List.getElem_of_mem hv
        simpa using HA.out j hj (by omega)
      have HF := Lib.hid hall
      clear hall
      go_wp2
      go_ret
      refine ⟨ret_bool ?_, rfl⟩
      unfold fewB
      rw [HF.out, Bool.true_and]
      rw [Bool.eq_iff_iff]; simp; omega
end Go.Proofs.Ytfoklokflooapaa
