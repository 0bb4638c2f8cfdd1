/- A slice of operations in memory. -/
import Derived.Test.YtfoklokflooapaaWireJ
import Derived.Test.YtfoklokflooapaaWireP
import Derived.Lib.Strings
namespace Go.Proofs.Ytfoklokflooapaa
open Go.RowKit
/-- A slice of operations (a kind, a most) in memory, below block B. -/
def OpsAt (w : World) (B : Nat) (A : Option Addr) (l : List (Nat × Int)) : Prop :=
  (∀ o ∈ l, o.1 < 256 ∧ -9223372036854775808 ≤ o.2 ∧ o.2 ≤ 9223372036854775807) ∧
  (0 < l.length → ∃ b off, A = some ⟨b, off, none⟩ ∧ b < B ∧ ∀ j o, l[j]? = some o → w.cell? ⟨b, off + j * 2, none⟩ = some (.int .u8 o.1) ∧ w.cell? ⟨b, off + j * 2 + 1, none⟩ = some (.int .i64 o.2))
theorem OpsAt.keep {w w' : World} {B : Nat} {A : Option Addr} {l : List (Nat × Int)} (h : OpsAt w B A l) (hB : B ≤ w.heap.size) (hk : Grew w w') : OpsAt w' B A l :=
  ⟨h.1, fun hl => by
    obtain ⟨b, off, e, hb, hc⟩ := h.2 hl
    exact ⟨b, off, e, hb, fun j o ho => by rw [hk.cellEq _ _ (by omega), hk.cellEq _ _ (by omega)]; exact hc j o ho⟩⟩
theorem OpsAt.at_ {w : World} {B : Nat} {A : Option Addr} {l : List (Nat × Int)} (h : OpsAt w B A l) {k : Nat} (hk : k < l.length) :
    ∃ b off kd most, A = some ⟨b, off, none⟩ ∧ b < B ∧ l[k]? = some (kd, most) ∧ kd < 256 ∧ -9223372036854775808 ≤ most ∧ most ≤ 9223372036854775807 ∧
      w.cell? ⟨b, off + k * 2, none⟩ = some (.int .u8 (kd : Int)) ∧ w.cell? ⟨b, off + k * 2 + 1, none⟩ = some (.int .i64 most) := by
  obtain ⟨b, off, e, hb, hc⟩ := h.2 (by omega)
  have hl : l[k]? = some l[k] := List.getElem?_eq_getElem hk
  obtain ⟨c0, c1⟩ := hc k _ hl
  have hr := h.1 l[k] (List.getElem_mem hk)
  exact ⟨b, off, l[k].1, l[k].2, e, hb, hl, hr.1, hr.2.1, hr.2.2, c0, c1⟩
end Go.Proofs.Ytfoklokflooapaa
