/- BufferKeeps: the plain laws. -/
import Derived.Test.YtfmhiocigoejjaaBufP
namespace Go.Proofs.Ytfmhiocigoejjaa
set_option linter.unusedVariables false
set_option linter.unusedSimpArgs false
set_option linter.unusedSectionVars false
open Go.RowKit
def Keeps (L : List Pg) (F : Place → Option Value) : Prop := ∀ p c, look L p = some c → F p = some (contentV c.1 c.2)
def stepF (F : Place → Option Value) (o : Opn) : Place → Option Value := if o.kind = 1 then upd F (o.id, o.page) (some (contentV o.data o.ver)) else F
theorem look_drop1 (L : List Pg) (hnd : (keys L).Nodup) (p : Place) (c : ByteArray × Int) (h : look (L.drop 1) p = some c) : look L p = some c := by
  cases L with
  | nil => exact h
  | cons x L =>
    have h1 : look L p = some c := h
    have hm := look_some_mem L p c h1
    have hx : x.1 ∉ keys L := (List.nodup_cons.1 hnd).1
    unfold look at h1 ⊢
    rw [List.find?_cons_of_neg]
    · exact h1
    · rw [decide_eq_true_eq]
      rintro rfl
      exact hx hm
theorem Keeps.filter {L : List Pg} {F : Place → Option Value} (h : Keeps L F) (q : Place → Bool) : Keeps (L.filter fun x => !q x.1) F := by
  intro p c hl
  rw [look_filter] at hl
  split at hl
  · cases hl
  · exact h p c hl
theorem look_rmv_other (L : List Pg) (p a : Place) (ha : a ≠ p) : look (rmv L p) a = look L a := by
  have := look_filter L (fun q => decide (q = p)) a
  rw [if_neg (by simpa using ha)] at this
  exact this
theorem Keeps.snoc {L : List Pg} {F : Place → Option Value} (h : Keeps L F) (p : Place) (c : ByteArray × Int) : Keeps (rmv L p ++ [(p, c)]) (upd F p (some (contentV c.1 c.2))) := by
  intro a d hl
  rw [look_snoc _ _ _ (rmv_mem L p)] at hl
  by_cases ha : a = p
  · subst ha
    rw [if_pos rfl] at hl
    rw [upd_same]
    injection hl with hl
    rw [hl]
  · rw [if_neg ha, look_rmv_other _ _ _ ha] at hl
    rw [upd_other _ _ ha]
    exact h a d hl
theorem keys_rmv_nodup (L : List Pg) (p : Place) (c : ByteArray × Int) (h : (keys L).Nodup) : (keys (rmv L p ++ [(p, c)])).Nodup := by
  rw [keys_snoc, keys_rmv]
  exact rmvP_nodup _ _ h
theorem Keeps.step {s : St} {F : Place → Option Value} (h : Keeps s.pages F) (hnd : (keys s.pages).Nodup) (cap : Int) (o : Opn) : Keeps (stepO cap s o).pages (stepF F o) := by
  unfold stepO stepF
  by_cases h0 : o.kind = 0
  · rw [if_pos h0, if_neg (by omega)]
    cases hk : look s.pages (o.id, o.page) with
    | none => exact h
    | some c =>
      have h1 := h.snoc (o.id, o.page) c
      intro p d hl
      have h2 := h1 p d hl
      by_cases hp : p = (o.id, o.page)
      · subst hp
        rw [upd_same] at h2
        rw [← h2]
        exact h _ _ hk
      · rw [upd_other _ _ hp] at h2
        exact h2
  · rw [if_neg h0]
    by_cases h1 : o.kind = 1
    · rw [if_pos h1, if_pos h1]
      have hs := h.snoc (o.id, o.page) (o.data, o.ver)
      show Keeps (putS cap s.pages (o.id, o.page) (o.data, o.ver)) _
      unfold putS
      split
      · intro p c hl
        exact hs p c (look_drop1 _ (keys_rmv_nodup _ _ _ hnd) p c hl)
      · exact hs
    · rw [if_neg h1, if_neg h1]
      split
      · exact h.filter _
      · split
        · exact h.filter (fun q => decide (q.1 = o.id))
        · exact h
def runF (l : List Opn) : Nat → Place → Option Value
  | 0 => fun _ => none
  | k + 1 => stepF (runF l k) (l[k]?.getD default)
theorem runF_succ (l : List Opn) (k : Nat) (hk : k < l.length) : runF l (k + 1) = stepF (runF l k) l[k] := by
  rw [runF, List.getElem?_eq_getElem hk]; rfl
theorem PoolM.kept {w w' : World} {base x m : Nat} {v : Value} {cap h ms : Int} {L : List Pg} (hp : PoolM w base x m v cap L h ms) {S : Nat → Prop} (ht : Turned S w w') (h1 : ¬ S x) (h2 : ¬ S m) (h3 : ∀ g, v.ownBlock = some g → ¬ S g) : PoolM w' base x m v cap L h ms :=
  ⟨hp.blk.turned ht h1, hp.map.turned ht h2, hp.own.kept ht h3, hp.bx, hp.bm, hp.nd, hp.ok⟩
theorem zero_content2 (w : World) : (zeroValue 49).run Try.prog w = .ok (.agg #[.string ⟨#[]⟩, .int .i64 0]) w := by kernel_rfl
end Go.Proofs.Ytfmhiocigoejjaa
