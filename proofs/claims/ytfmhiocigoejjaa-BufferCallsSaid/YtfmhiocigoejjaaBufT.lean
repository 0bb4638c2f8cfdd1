/- The reference's pool: what it looks like in memory; find. -/
import Derived.Test.YtfmhiocigoejjaaBufP
namespace Go.Proofs.Ytfmhiocigoejjaa
set_option linter.unusedVariables false
set_option linter.unusedSimpArgs false
set_option linter.unusedSectionVars false
open Go.RowKit
def pgC (x : Pg) : List Value := [.int .i64 x.1.1, .int .i64 x.1.2, .string x.2.1, .int .i64 x.2.2]
def PgsAt (w : World) (B : Nat) (A : Option Addr) (L : List Pg) : Prop := ListAt w B 4 A (L.map pgC)
theorem PgsAt.hold {w w' : World} {B : Nat} {A : Option Addr} {L : List Pg} (h : PgsAt w B A L) (hB : B ≤ w.heap.size) (hg : Grew w w') : PgsAt w' B A L := ListAt.keep h hB hg
theorem PgsAt.at_ {w : World} {B : Nat} {A : Option Addr} {L : List Pg} (h : PgsAt w B A L) {k : Nat} (hk : k < L.length) :
    ∃ b off, A = some ⟨b, off, none⟩ ∧ b < B ∧ w.cell? ⟨b, off + k * 4, none⟩ = some (.int .i64 L[k].1.1) ∧ w.cell? ⟨b, off + k * 4 + 1, none⟩ = some (.int .i64 L[k].1.2) ∧ w.cell? ⟨b, off + k * 4 + 2, none⟩ = some (.string L[k].2.1) ∧ w.cell? ⟨b, off + k * 4 + 3, none⟩ = some (.int .i64 L[k].2.2) := by
  obtain ⟨b, off, e, hb, hc⟩ := h (by simp; omega)
  have hl : (L.map pgC)[k]? = some (pgC L[k]) := by rw [List.getElem?_map, List.getElem?_eq_getElem hk]; rfl
  have hcc := hc k _ hl
  exact ⟨b, off, e, hb, hcc 0 _ rfl, hcc 1 _ rfl, hcc 2 _ rfl, hcc 3 _ rfl⟩
def FindR (L : List Pg) (p : Place) (e : Ending) : Prop := (∃ (i : Nat) (hi : i < L.length), e = .returned (.int .i64 (i : Int)) ∧ L[i].1 = p) ∨ (e = .returned (.int .i64 (-1)) ∧ p ∉ keys L)
section
variable (cap : Int) (A : Option Addr) (c : Nat) (h ms : Int) (L : List Pg) (a b : Int)
set_option maxRecDepth 100000 in
set_option maxHeartbeats 2000000 in
theorem find_any (w : World) (B : Nat) (hB : B ≤ w.heap.size) (hp : PgsAt w B A L) (hl : L.length ≤ 100000) :
    Calls Try.prog 37 #[.agg #[.int .i64 cap, .slice A L.length c, .int .i64 h, .int .i64 ms], .int .i64 a, .int .i64 b] w fun e w' => FindR L (a, b) e ∧ Grew w w' := by
  have HP := Lib.hid (hp.hold hB ((Grew.refl w).alloc (.cells #[.int .i64 cap, .slice A L.length c, .int .i64 h, .int .i64 ms] 54)))
  clear hp
  go_enter Try.func37, Try.ntmps37
  go_wp2_with fail
  go_loopg [7] L.length (fun gk i wr => wr = w.alloc (.cells #[.int .i64 cap, .slice A L.length c, .int .i64 h, .int .i64 ms] 54) ∧ ∃ k : Nat, k ≤ L.length ∧ gk = L.length - k ∧ i = .int .i64 k ∧ ∀ j (hj : j < L.length), j < k → L[j].1 ≠ (a, b))
  case atStart => exact ⟨rfl, 0, by omega, by omega, rfl, fun j hj h => by omega⟩
  case round =>
    obtain ⟨rfl, k, hk, hgk, rfl, hall⟩ := hrel
    have HGK := Lib.hid hgk
    have HA := Lib.hid hall
    clear hgk hall
    by_cases hlt : k < L.length
    · obtain ⟨bb, off, rfl, hb, c0, c1, c2, c3⟩ := HP.out.at_ hlt
      obtain ⟨t, ht⟩ : ∃ t, t = L[k] := ⟨_, rfl⟩
      have HL := Lib.hid ht
      rw [← ht] at c0 c1 c2 c3
      clear ht
      obtain ⟨⟨ta, tb⟩, td, tv⟩ := t
      simp only at c0 c1 c2 c3
      have HNX := Lib.hid (show ((ta, tb) : Place) ≠ (a, b) → ∀ j (hj : j < L.length), j < k + 1 → L[j].1 ≠ (a, b) from fun hne j hj hjk => by
        by_cases hjk' : j = k
        · subst hjk'; rw [← HL.out]; exact hne
        · exact HA.out j hj (by omega))
      by_cases hpa : ta = a
      · by_cases hpb : tb = b
        · have HLK := Lib.hid (show L[k].1 = (a, b) from by rw [← HL.out]; show (ta, tb) = (a, b); rw [hpa, hpb])
          subst hpa; subst hpb
          clear HNX
          go_wp2_with fail
          go_ret
          exact ⟨.inl ⟨k, hlt, rfl, HLK.out⟩, (Grew.refl w).alloc _⟩
        · have hb' : (tb == b) = false := beq_eq_false_iff_ne.2 hpb
          have HN := Lib.hid (HNX.out (fun e => hpb (congrArg Prod.snd e)))
          subst hpa
          clear hpb HNX
          go_wp2_with fail
          go_roundg (L.length - (k + 1))
          case measure => rw [HGK.out]; omega
          case rel => exact ⟨rfl, k + 1, by omega, by omega, by go_num, HN.out⟩
      · have hb' : (ta == a) = false := beq_eq_false_iff_ne.2 hpa
        have HN := Lib.hid (HNX.out (fun e => hpa (congrArg Prod.fst e)))
        clear hpa HNX
        go_wp2_with fail
        go_roundg (L.length - (k + 1))
        case measure => rw [HGK.out]; omega
        case rel => exact ⟨rfl, k + 1, by omega, by omega, by go_num, HN.out⟩
    · have HN := Lib.hid (show (a, b) ∉ keys L from fun hm => by
        obtain ⟨x, hx, he⟩ := List.mem_map.1 hm
        obtain ⟨j, hj, rfl⟩ := List.getElem_of_mem hx
        exact HA.out j hj (by omega) he)
      go_wp2_with fail
      go_ret
      exact ⟨.inr ⟨rfl, HN.out⟩, (Grew.refl w).alloc _⟩
end
end Go.Proofs.Ytfmhiocigoejjaa
