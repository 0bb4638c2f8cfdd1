/- The slices of operations and of values that the laws take. -/
import Derived.Test.YtfoklokflooapaaWireOps
import Derived.Test.YtfoklokflooapaaOpen
namespace Go.Proofs.Ytfoklokflooapaa
open Go.ChangeShapes Go.WideShapes Go.ChangeAt Go.RowKit Go.Deep
theorem wf_u8 {n : Int} (h : (Lit.int .u8 n).wf = true) : 0 ≤ n ∧ n < 256 := by
  simp [Lit.wf, IntKind.min, IntKind.max, IntKind.signed, IntKind.bits] at h; omega
theorem wf_u64 {n : Int} (h : (Lit.int .u64 n).wf = true) : 0 ≤ n ∧ n < 18446744073709551616 := by
  simp [Lit.wf, IntKind.min, IntKind.max, IntKind.signed, IntKind.bits] at h; omega
theorem wf_i64 {n : Int} (h : (Lit.int .i64 n).wf = true) : -9223372036854775808 ≤ n ∧ n ≤ 9223372036854775807 := by
  simp [Lit.wf, IntKind.min, IntKind.max, IntKind.signed, IntKind.bits] at h; omega
theorem open_ops {H : Type} {enc : TypeId × Value → H} {w : World} {r : Reach} {b0 : Nat} {v : Value} {d : DataW H} {ps : List MemPlace}
    (hv : Value.okWide Try.prog w r b0 41 v) (hd : DataW.Trod enc Try.prog w 0 (fun _ => true) true 41 v d ps) :
    ∃ A c, ∃ l : List (Nat × Int), v = .slice A l.length c ∧ l.length ≤ c ∧ c ≤ 9223372036854775807 ∧ OpsAt w w.heap.size A l := by
  obtain ⟨A, c, l, rfl, h1, h2, h3, h4⟩ := open_list (α := Nat × Int) (sz := 2) Try.underlying41 (by kernel_rfl) (by omega) (fun o => [.int .u8 (o.1 : Int), .int .i64 o.2])
    (fun o => o.1 < 256 ∧ -9223372036854775808 ≤ o.2 ∧ o.2 ≤ 9223372036854775807) (fun n cs y hlen h => by
      have hf := struct_fields Try.underlying45 (by kernel_rfl) h
      obtain ⟨v0, _, _, e0, f0⟩ := hf 0 _ rfl (by omega)
      obtain ⟨v1, _, _, e1, f1⟩ := hf 1 _ rfl (by omega)
      obtain ⟨n0, hn0, _, w0⟩ := DataW.trod_int Try.underlying5 f0
      obtain ⟨n1, hn1, _, w1⟩ := DataW.trod_int Try.underlying3 f1
      injection hn0 with hn0 _
      injection hn1 with hn1 _
      subst hn0; subst hn1
      have b0 := wf_u8 w0
      have b1 := wf_i64 w1
      refine ⟨(n0.toNat, n1), ⟨by show n0.toNat < 256; omega, b1.1, b1.2⟩, ?_⟩
      match cs, hlen with
      | [x0, x1], _ =>
        simp at e0 e1
        rw [e0, e1]
        show _ = [Value.int .u8 (n0.toNat : Int), .int .i64 n1]
        rw [Int.toNat_of_nonneg b0.1]) hv hd
  refine ⟨A, c, l, rfl, h1, h2, h3, fun hl => ?_⟩
  obtain ⟨b, off, e, hb, hc⟩ := h4 (by simpa using hl)
  refine ⟨b, off, e, hb, fun j o ho => ?_⟩
  have hj : (l.map fun o => [Value.int .u8 (o.1 : Int), .int .i64 o.2])[j]? = some [Value.int .u8 (o.1 : Int), .int .i64 o.2] := by rw [List.getElem?_map, ho]; rfl
  exact ⟨hc j _ hj 0 _ rfl, hc j _ hj 1 _ rfl⟩
end Go.Proofs.Ytfoklokflooapaa
