/- The row's last step, for every law: the call returns true and turns nothing that was there. -/
import Derived.Test.YtklojcgbokmkhaaFrame
import Derived.ProofKit
import Derived.OpenShut
namespace Go.Proofs.Ytklojcgbokmkhaa
set_option linter.unusedVariables false
set_option linter.unusedSimpArgs false
set_option linter.unusedSectionVars false
open Go.ChangeShapes Go.WideShapes Go.ChangeAt Go.RowKit
section
variable {H : Type} {enc : TypeId × Value → H} {P : Program}
theorem trodAll_stays (hl : laidOutB P = true) {W W' : World} {sp' : Nat → Bool} : ∀ {ts : List TypeId} {vs : List Value} {ds : List (DataW H)} {ps : List MemPlace},
    ts.all (fun t => P.readableRec t && decide (t < P.types.size)) = true →
    DataW.TrodAll enc P W 0 (fun _ => true) true ts vs ds ps → (∀ p ∈ ps, W.sameAt W' p) → (∀ p ∈ ps, sp' p.block = true) → DataW.TrodAll enc P W' 0 sp' true ts vs ds ps := by
  intro ts
  induction ts with
  | nil =>
    intro vs ds ps _ h _ _
    obtain ⟨rfl, rfl, rfl⟩ := trodAll_nil h
    exact rfl
  | cons t ts ih =>
    intro vs ds ps hts h hsame hs
    obtain ⟨v, vs', d, ds', p, q, rfl, rfl, rfl, h1, h2⟩ := trodAll_cons h
    rw [List.all_cons, Bool.and_eq_true, Bool.and_eq_true] at hts
    obtain ⟨⟨ht1, ht2⟩, ht3⟩ := hts
    exact trodAll_cons_mk (WideElems.Trod_stays hl ht1 (by simpa using ht2) h1 (fun x hx => hsame x (List.mem_append_left _ hx)) (fun x hx => hs x (List.mem_append_left _ hx)))
      (ih ht3 h2 (fun x hx => hsame x (List.mem_append_right _ hx)) (fun x hx => hs x (List.mem_append_right _ hx)))

theorem law_post {f : Func} {s : ChangeSpec} {apart fresh handsOn : Bool} {W W' : World} {args : Array Value} {ds gs : List (DataW H)} {before : List MemPlace} {tb : TypeId}
    (hl : laidOutB P = true) (hread : f.params.toList.all (fun t => P.readableRec t && decide (t < P.types.size)) = true) (hrt : f.resultTypes = #[tb]) (htb : P.underlying tb = some .bool) (hvars : s.vars = [])
    (hW : DataW.Whole enc P f.params.toList s.vars apart W args.toList ds gs before) (hfn : s.fn H (ds ++ gs) = { results := [.lit (.bool true)], args := ds }) (hg : Grew W W') :
    s.post enc P f apart fresh handsOn false W args (.bool true) W' := by
  have hlt : ∀ p ∈ before, p.block < W.heap.size := fun p hp => hW.lt p hp
  have hW0 := hW
  obtain ⟨p, q, hA, hV, rfl, hfz, hnd⟩ := hW
  rw [hvars] at hV
  obtain ⟨rfl, rfl⟩ := trodVars_none hV
  rw [List.append_nil] at hlt hW0
  have hA' := trodAll_stays hl (W' := W') (sp' := fun b => decide (b < W.heap.size)) hread hA (fun x hx => hg.same (hlt x hx)) (fun x hx => by simpa using hlt x hx)
  refine ⟨ds, [], p, [], p, [], hW0, ?_, ?_, ?_, ?_, fun h => by cases h⟩
  · rw [hfn, hrt]
    show DataW.TrodAll enc P W' _ (fun _ => false) handsOn [tb] [.bool true] [.lit (.bool true)] []
    exact trodAll_mk1 (shut_bool htb true)
  · rw [hfn]
    exact hA'
  · rw [hfn, hvars]
    exact rfl
  · exact hg.frame _
end
end Go.Proofs.Ytklojcgbokmkhaa
