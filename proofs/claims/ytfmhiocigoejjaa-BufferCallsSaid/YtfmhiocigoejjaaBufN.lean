/- BufferInvalidates: the plain laws. -/
import Derived.Test.YtfmhiocigoejjaaBufM
namespace Go.Proofs.Ytfmhiocigoejjaa
set_option linter.unusedVariables false
set_option linter.unusedSimpArgs false
set_option linter.unusedSectionVars false
open Go.RowKit
theorem look_rmv (L : List Pg) (p : Place) : look (rmv L p) p = none := by
  refine look_none _ _ fun h => ?_
  obtain ⟨y, hy, e⟩ := List.mem_map.1 h
  unfold rmv at hy
  have := (List.mem_filter.1 hy).2
  simp at this
  exact this e
theorem look_last (L : List Pg) (p : Place) (c : ByteArray × Int) : look (rmv L p ++ [(p, c)]) p = some c := by
  have h := look_rmv L p
  unfold look at h ⊢
  rw [List.find?_append]
  cases hf : (rmv L p).find? (fun x => decide (x.1 = p)) with
  | none => simp
  | some y => rw [hf] at h; cases h
theorem invS_none (L : List Pg) (p : Place) (ver : Int) (h : look L p = none) : invS L p ver = L := by
  unfold invS
  refine List.filter_eq_self.2 fun y _ => ?_
  unfold invQ
  rw [h]
  simp
theorem invS_kept (L : List Pg) (p : Place) (c : ByteArray × Int) (ver : Int) (h : look L p = some c) (hc : ¬ c.2 < ver) : invS L p ver = L := by
  unfold invS
  refine List.filter_eq_self.2 fun y _ => ?_
  unfold invQ
  rw [h]
  simp [hc]
theorem invS_gone (L : List Pg) (p : Place) (c : ByteArray × Int) (ver : Int) (h : look L p = some c) (hc : c.2 < ver) : invS L p ver = rmv L p := by
  unfold invS rmv
  refine List.filter_congr fun y _ => ?_
  unfold invQ
  rw [h]
  simp [hc]
theorem rmv_snoc (L : List Pg) (p : Place) (c : ByteArray × Int) : rmv (rmv L p ++ [(p, c)]) p = rmv L p := by
  unfold rmv
  rw [List.filter_append, List.filter_filter]
  simp
end Go.Proofs.Ytfmhiocigoejjaa
