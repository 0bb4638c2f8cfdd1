/- Chapter 6: Release and Consolidate, on both sides. -/
import Derived.Test.YtenbcjlikoajdaaSpcJ
namespace Go.Proofs.Ytenbcjlikoajdaa
set_option linter.unusedVariables false
set_option linter.unusedSimpArgs false
set_option linter.unusedSectionVars false
open Go.RowKit
section
variable {A1 A2 : Option Addr} {c1 c2 n1 n2 : Nat} {l1 l2 : List (Int × Int)} {w : World}
set_option maxRecDepth 100000 in
set_option maxHeartbeats 1000000 in
theorem rminus_val (hn1 : n1 = l1.length) (hn2 : n2 = l2.length) (hl1 : l1.length ≤ 1000000) (hl2 : l2.length ≤ 1000000) (hr1 : RunsAt w w.heap.size A1 l1) (hr2 : RunsAt w w.heap.size A2 l2) (k : List (Int × Int)) (hk : ints (normS fun i => memS l1 i && !memS l2 i) = k) :
    Calls Try.prog 46 #[.slice A1 n1 c1, .slice A2 n2 c2] w fun e w' => ∃ A c, e = .returned (.slice A k.length c) ∧ RunsAt w' w'.heap.size A k ∧ Grew w w' := by
  have HC := Lib.hid (setone_val (c1 := c1) (c2 := c2) hn1 hn2 hl1 hl2 hr1 hr2 k hk)
  clear hk hr1 hr2 hn1 hn2 hl1 hl2
  go_enter Try.func46, Try.ntmps46
  go_wp2_with fail
  refine HC.out.mono ?_
  rintro e w1 ⟨A', c', rfl, r, g⟩
  go_wp2_with fail
  go_ret
  exact ⟨_, _, rfl, r, g⟩
end
def relA (l : List (Int × Int)) (keep : Int) : List (Int × Int) := if keep < 1 ∨ (sizeS l : Int) < keep then [] else ints (joinS (ints (cutA l keep.toNat)))
def relB (l : List (Int × Int)) (keep : Int) : List (Int × Int) := if keep < 1 ∨ (sizeS l : Int) < keep then [] else ints (normS fun i => memS (ints (joinS (ints (cutB l keep.toNat)))) i && !memS (ints (joinS (ints (cutA l keep.toNat)))) i)
def relE (l : List (Int × Int)) (keep : Int) : Int := if keep < 1 ∨ (sizeS l : Int) < keep then 2 else 0
def conS (e f : List (Int × Int)) : (Int × Int) × Bool :=
  if (joinS e).length < 2 then ((0, 0), false) else bestS (memS (ints (normS fun i => memS f i && !memS e i))) (sizeS e : Int)
theorem nil_runs (w : World) : RunsAt w w.heap.size none [] := ⟨fun r hr => (List.not_mem_nil hr).elim, fun h => absurd h (by decide)⟩
section
variable {A : Option Addr} {c m : Nat} {l : List (Int × Int)} {w : World}
set_option maxRecDepth 100000 in
set_option maxHeartbeats 4000000 in
theorem release_val (hn : m = l.length) (hl : l.length ≤ 1000) (hr : RunsAt w w.heap.size A l) (keep : Int) (n0 : -9223372036854775808 ≤ keep) (n1 : keep ≤ 9223372036854775807) (ka kb : List (Int × Int)) (er : Int) (ha : relA l keep = ka) (hb : relB l keep = kb) (he : relE l keep = er) :
    Calls Try.prog 36 #[.slice A m c, .int .i64 keep] w fun e w' => ∃ A1 c1 A2 c2, e = .returned (.tuple #[.slice A1 ka.length c1, .slice A2 kb.length c2, .int .i64 er]) ∧ RunsAt w' w'.heap.size A1 ka ∧ RunsAt w' w'.heap.size A2 kb ∧ Grew w w' := by
  subst hn
  have hG := Grew.refl w
  have hsl := sizeS_le l
  by_cases h1 : keep < 1
  · have e1 : ka = [] := by rw [← ha]; unfold relA; rw [if_pos (.inl h1)]
    have e2 : kb = [] := by rw [← hb]; unfold relB; rw [if_pos (.inl h1)]
    have e3 : er = 2 := by rw [← he]; unfold relE; rw [if_pos (.inl h1)]
    clear ha hb he
    subst e1; subst e2; subst e3
    go_enter Try.func36, Try.ntmps36
    go_wp2_with fail
    go_returns
    exact ⟨none, 0, none, 0, rfl, nil_runs _, nil_runs _, hG⟩
  by_cases h2 : (sizeS l : Int) < keep
  · have e1 : ka = [] := by rw [← ha]; unfold relA; rw [if_pos (.inr h2)]
    have e2 : kb = [] := by rw [← hb]; unfold relB; rw [if_pos (.inr h2)]
    have e3 : er = 2 := by rw [← he]; unfold relE; rw [if_pos (.inr h2)]
    clear ha hb he
    subst e1; subst e2; subst e3
    go_enter Try.func36, Try.ntmps36
    go_wp2_with fail
    refine (size_val rfl (by omega) hr (sizeS l) rfl).mono ?_
    rintro e ws ⟨rfl, gs⟩
    replace hr := hr.hold gs
    replace hG := hG.trans gs
    clear gs
    go_wp2_with fail
    go_returns
    exact ⟨none, 0, none, 0, rfl, nil_runs _, nil_runs _, hG⟩
  have h3 : ¬ (keep < 1 ∨ (sizeS l : Int) < keep) := fun h => h.elim h1 h2
  have e3 : er = 0 := by rw [← he]; unfold relE; rw [if_neg h3]
  obtain ⟨k2, hk2⟩ : ∃ k, ints (joinS (ints (cutB l keep.toNat))) = k := ⟨_, rfl⟩
  have hk1 : ints (joinS (ints (cutA l keep.toNat))) = ka := by rw [← ha]; unfold relA; rw [if_neg h3]
  have hkm : ints (normS fun i => memS k2 i && !memS ka i) = kb := by rw [← hb, ← hk2, ← hk1]; unfold relB; rw [if_neg h3]
  have hl1 : ka.length ≤ l.length := by have := joinS_len (ints (cutA l keep.toNat)); rw [← hk1, ints_len]; rw [ints_len, cutA_len] at this; exact this
  have hl2 : k2.length ≤ l.length := by have := joinS_len (ints (cutB l keep.toNat)); rw [← hk2, ints_len]; rw [ints_len, cutB_len] at this; exact this
  have HK1 := Lib.hid hk1
  have HK2 := Lib.hid hk2
  have HKM := Lib.hid hkm
  clear ha hb he hk1 hk2 hkm h3
  subst e3
  go_enter Try.func36, Try.ntmps36
  go_wp2_with fail
  refine (size_val rfl (by omega) hr (sizeS l) rfl).mono ?_
  rintro e ws ⟨rfl, gs⟩
  replace hr := hr.hold gs
  replace hG := hG.trans gs
  clear gs
  go_wp2_with fail
  refine (cut_val rfl (by omega) hr keep n0 n1 ka k2 HK1.out HK2.out).mono ?_
  rintro e ws ⟨A1, c1, A2, c2, rfl, r1, r2, gs⟩
  replace hG := hG.trans gs
  clear gs
  go_wp2_with fail
  refine (minus_val rfl rfl (by omega) (by omega) r2 r1 kb HKM.out).mono ?_
  rintro e ws ⟨A3, c3, rfl, r3, gs⟩
  replace r1 := r1.hold gs
  replace hG := hG.trans gs
  clear gs
  go_wp2_with fail
  go_returns
  exact ⟨_, _, _, _, rfl, r1, r3, hG⟩
set_option maxRecDepth 100000 in
set_option maxHeartbeats 4000000 in
theorem rrelease_val (hn : m = l.length) (hl : l.length ≤ 1000) (hr : RunsAt w w.heap.size A l) (keep : Int) (n0 : -9223372036854775808 ≤ keep) (n1 : keep ≤ 9223372036854775807) (ka kb : List (Int × Int)) (er : Int) (ha : relA l keep = ka) (hb : relB l keep = kb) (he : relE l keep = er) :
    Calls Try.prog 38 #[.slice A m c, .int .i64 keep] w fun e w' => ∃ A1 c1 A2 c2, e = .returned (.tuple #[.slice A1 ka.length c1, .slice A2 kb.length c2, .int .i64 er]) ∧ RunsAt w' w'.heap.size A1 ka ∧ RunsAt w' w'.heap.size A2 kb ∧ Grew w w' := by
  subst hn
  have hG := Grew.refl w
  have hsl := sizeS_le l
  by_cases h1 : keep < 1
  · have e1 : ka = [] := by rw [← ha]; unfold relA; rw [if_pos (.inl h1)]
    have e2 : kb = [] := by rw [← hb]; unfold relB; rw [if_pos (.inl h1)]
    have e3 : er = 2 := by rw [← he]; unfold relE; rw [if_pos (.inl h1)]
    clear ha hb he
    subst e1; subst e2; subst e3
    go_enter Try.func38, Try.ntmps38
    go_wp2_with fail
    go_returns
    exact ⟨none, 0, none, 0, rfl, nil_runs _, nil_runs _, hG⟩
  by_cases h2 : (sizeS l : Int) < keep
  · have e1 : ka = [] := by rw [← ha]; unfold relA; rw [if_pos (.inr h2)]
    have e2 : kb = [] := by rw [← hb]; unfold relB; rw [if_pos (.inr h2)]
    have e3 : er = 2 := by rw [← he]; unfold relE; rw [if_pos (.inr h2)]
    clear ha hb he
    subst e1; subst e2; subst e3
    go_enter Try.func38, Try.ntmps38
    go_wp2_with fail
    refine (seq_val rfl (by omega) hr (sizeS l) rfl).mono ?_
    rintro e ws ⟨As, cs, rfl, gs⟩
    replace hr := hr.hold gs
    replace hG := hG.trans gs
    clear gs
    go_wp2_with fail
    go_returns
    exact ⟨none, 0, none, 0, rfl, nil_runs _, nil_runs _, hG⟩
  have h3 : ¬ (keep < 1 ∨ (sizeS l : Int) < keep) := fun h => h.elim h1 h2
  have e3 : er = 0 := by rw [← he]; unfold relE; rw [if_neg h3]
  obtain ⟨k2, hk2⟩ : ∃ k, ints (joinS (ints (cutB l keep.toNat))) = k := ⟨_, rfl⟩
  have hk1 : ints (joinS (ints (cutA l keep.toNat))) = ka := by rw [← ha]; unfold relA; rw [if_neg h3]
  have hkm : ints (normS fun i => memS k2 i && !memS ka i) = kb := by rw [← hb, ← hk2, ← hk1]; unfold relB; rw [if_neg h3]
  have hl1 : ka.length ≤ l.length := by have := joinS_len (ints (cutA l keep.toNat)); rw [← hk1, ints_len]; rw [ints_len, cutA_len] at this; exact this
  have hl2 : k2.length ≤ l.length := by have := joinS_len (ints (cutB l keep.toNat)); rw [← hk2, ints_len]; rw [ints_len, cutB_len] at this; exact this
  have HK1 := Lib.hid hk1
  have HK2 := Lib.hid hk2
  have HKM := Lib.hid hkm
  clear ha hb he hk1 hk2 hkm h3
  subst e3
  go_enter Try.func38, Try.ntmps38
  go_wp2_with fail
  refine (seq_val rfl (by omega) hr (sizeS l) rfl).mono ?_
  rintro e ws ⟨As, cs, rfl, gs⟩
  replace hr := hr.hold gs
  replace hG := hG.trans gs
  clear gs
  go_wp2_with fail
  refine (refcut_val rfl (by omega) hr keep n0 n1 ka k2 HK1.out HK2.out).mono ?_
  rintro e ws ⟨A1, c1, A2, c2, rfl, r1, r2, gs⟩
  replace hG := hG.trans gs
  clear gs
  go_wp2_with fail
  refine (rminus_val rfl rfl (by omega) (by omega) r2 r1 kb HKM.out).mono ?_
  rintro e ws ⟨A3, c3, rfl, r3, gs⟩
  replace r1 := r1.hold gs
  replace hG := hG.trans gs
  clear gs
  go_wp2_with fail
  go_returns
  exact ⟨_, _, _, _, rfl, r1, r3, hG⟩
end
section
variable {A1 A2 : Option Addr} {c1 c2 m1 m2 : Nat} {l1 l2 : List (Int × Int)} {w : World}
set_option maxRecDepth 100000 in
set_option maxHeartbeats 4000000 in
theorem consol_val (hn1 : m1 = l1.length) (hn2 : m2 = l2.length) (hl1 : l1.length ≤ 1000) (hl2 : l2.length ≤ 1000) (hr1 : RunsAt w w.heap.size A1 l1) (hr2 : RunsAt w w.heap.size A2 l2) (a b : Int) (ok : Bool) (h : conS l1 l2 = ((a, b), ok)) :
    Calls Try.prog 26 #[.slice A1 m1 c1, .slice A2 m2 c2] w fun e w' => e = .returned (.tuple #[.agg #[.int .i64 a, .int .i64 b], .bool ok]) ∧ Grew w w' := by
  subst hn1; subst hn2
  have hsl := sizeS_le l1
  obtain ⟨kj, hkj⟩ : ∃ k, ints (joinS l1) = k := ⟨_, rfl⟩
  obtain ⟨km, hkm⟩ : ∃ k, ints (normS fun i => memS l2 i && !memS l1 i) = k := ⟨_, rfl⟩
  have hjl : (joinS l1).length = kj.length := by rw [← hkj, ints_len]
  have hjl2 := joinS_len l1
  have hkml : km.length ≤ 128 := by rw [← hkm, ints_len]; exact normS_len _
  unfold conS at h
  rw [hjl, hkm] at h
  have HKJ := Lib.hid hkj
  have HKM := Lib.hid hkm
  have hb0 := Blk.new w 25 #[.int .i64 0, .int .i64 0] rfl
  have hG := (Grew.refl w).alloc (.cells #[.int .i64 0, .int .i64 0] 25)
  replace hr1 := hr1.hold hG
  replace hr2 := hr2.hold hG
  by_cases h2 : kj.length < 2
  · rw [if_pos h2] at h
    injection h with h h3
    injection h with h4 h5
    subst h3; subst h4; subst h5
    clear hkj hkm
    go_enter Try.func26, Try.ntmps26
    go_wp2_with fail
    refine (join_val _ _ _ _ _ rfl (by omega) hr1 kj HKJ.out).mono ?_
    rintro e ws ⟨Aj, cj, rfl, rj, gs⟩
    replace hb0 := hb0.hold gs
    replace hG := hG.trans gs
    clear gs
    have z0 := hb0.cell 0
    have z1 := hb0.cell 1
    have f0 := hb0.frozen 0
    have f1 := hb0.frozen 1
    have hlb := hb0.lt
    go_wp2_with fail
    refine bodyPost_ret (by first | (simp [*, results, Try.results26, go_sem]; rfl) | simp [*, results, Try.results26, go_sem]) rfl ?_
    exact ⟨rfl, by (repeat' first | (with_reducible exact Grew.refl _) | (with_reducible assumption) | (with_reducible refine Grew.alloc ?_ _) | (with_reducible refine Grew.drew ?_) | (with_reducible refine Grew.drewN ?_ _) | (with_reducible refine Grew.setRow ?_ (by first | (simp; done) | (simp; omega) | omega) _) | (with_reducible refine Grew.setCell ?_ (by first | (simp; done) | (simp; omega) | omega) _) | ((with_reducible apply Grew.trans); rotate_left; (with_reducible assumption)) | ((with_reducible apply Grew.turn); rotate_left; (with_reducible assumption); (focus (intro i hi; first | omega | (simp at hi; omega)))) | fail)⟩
  · rw [if_neg h2] at h
    have H := Lib.hid h
    clear h hkj hkm
    go_enter Try.func26, Try.ntmps26
    go_wp2_with fail
    refine (join_val _ _ _ _ _ rfl (by omega) hr1 kj HKJ.out).mono ?_
    rintro e ws ⟨Aj, cj, rfl, rj, gs⟩
    replace hb0 := hb0.hold gs
    replace hr1 := hr1.hold gs
    replace hr2 := hr2.hold gs
    replace hG := hG.trans gs
    clear gs
    go_wp2_with fail
    refine (minus_val rfl rfl (by omega) (by omega) hr2 hr1 km HKM.out).mono ?_
    rintro e ws ⟨Am, cm, rfl, rm, gs⟩
    replace hb0 := hb0.hold gs
    replace hr1 := hr1.hold gs
    replace hG := hG.trans gs
    clear gs
    go_wp2_with fail
    refine (size_val rfl (by omega) hr1 (sizeS l1) rfl).mono ?_
    rintro e ws ⟨rfl, gs⟩
    replace hb0 := hb0.hold gs
    replace rm := rm.hold gs
    replace hG := hG.trans gs
    clear gs
    go_wp2_with fail
    refine (best_val rfl (by omega) rm (sizeS l1 : Int) (by omega) (by omega) a b ok H.out).mono ?_
    rintro e ws ⟨rfl, gs⟩
    replace hb0 := hb0.hold gs
    replace hG := hG.trans gs
    clear gs
    have z0 := hb0.cell 0
    have z1 := hb0.cell 1
    have f0 := hb0.frozen 0
    have f1 := hb0.frozen 1
    have hlb := hb0.lt
    go_wp2_with fail
    refine bodyPost_ret (by first | (simp [*, results, Try.results26, go_sem]; rfl) | simp [*, results, Try.results26, go_sem]) rfl ?_
    exact ⟨rfl, by (repeat' first | (with_reducible exact Grew.refl _) | (with_reducible assumption) | (with_reducible refine Grew.alloc ?_ _) | (with_reducible refine Grew.drew ?_) | (with_reducible refine Grew.drewN ?_ _) | (with_reducible refine Grew.setRow ?_ (by first | (simp; done) | (simp; omega) | omega) _) | (with_reducible refine Grew.setCell ?_ (by first | (simp; done) | (simp; omega) | omega) _) | ((with_reducible apply Grew.trans); rotate_left; (with_reducible assumption)) | ((with_reducible apply Grew.turn); rotate_left; (with_reducible assumption); (focus (intro i hi; first | omega | (simp at hi; omega)))) | fail)⟩
set_option maxRecDepth 100000 in
set_option maxHeartbeats 4000000 in
theorem rconsol_val (hn1 : m1 = l1.length) (hn2 : m2 = l2.length) (hl1 : l1.length ≤ 1000) (hl2 : l2.length ≤ 1000) (hr1 : RunsAt w w.heap.size A1 l1) (hr2 : RunsAt w w.heap.size A2 l2) (a b : Int) (ok : Bool) (h : conS l1 l2 = ((a, b), ok)) :
    Calls Try.prog 39 #[.slice A1 m1 c1, .slice A2 m2 c2] w fun e w' => e = .returned (.tuple #[.agg #[.int .i64 a, .int .i64 b], .bool ok]) ∧ Grew w w' := by
  subst hn1; subst hn2
  have hsl := sizeS_le l1
  obtain ⟨kj, hkj⟩ : ∃ k, ints (joinS l1) = k := ⟨_, rfl⟩
  obtain ⟨km, hkm⟩ : ∃ k, ints (normS fun i => memS l2 i && !memS l1 i) = k := ⟨_, rfl⟩
  have hjl : (joinS l1).length = kj.length := by rw [← hkj, ints_len]
  have hjl2 := joinS_len l1
  have hkml : km.length ≤ 128 := by rw [← hkm, ints_len]; exact normS_len _
  unfold conS at h
  rw [hjl, hkm] at h
  have HKJ := Lib.hid hkj
  have HKM := Lib.hid hkm
  have hb0 := Blk.new w 25 #[.int .i64 0, .int .i64 0] rfl
  have hG := (Grew.refl w).alloc (.cells #[.int .i64 0, .int .i64 0] 25)
  replace hr1 := hr1.hold hG
  replace hr2 := hr2.hold hG
  by_cases h2 : kj.length < 2
  · rw [if_pos h2] at h
    injection h with h h3
    injection h with h4 h5
    subst h3; subst h4; subst h5
    clear hkj hkm
    go_enter Try.func39, Try.ntmps39
    go_wp2_with fail
    refine (refjoin_val rfl (by omega) hr1 kj HKJ.out).mono ?_
    rintro e ws ⟨Aj, cj, rfl, rj, gs⟩
    replace hb0 := hb0.hold gs
    replace hG := hG.trans gs
    clear gs
    have z0 := hb0.cell 0
    have z1 := hb0.cell 1
    have f0 := hb0.frozen 0
    have f1 := hb0.frozen 1
    have hlb := hb0.lt
    go_wp2_with fail
    refine bodyPost_ret (by first | (simp [*, results, Try.results39, go_sem]; rfl) | simp [*, results, Try.results39, go_sem]) rfl ?_
    exact ⟨rfl, by (repeat' first | (with_reducible exact Grew.refl _) | (with_reducible assumption) | (with_reducible refine Grew.alloc ?_ _) | (with_reducible refine Grew.drew ?_) | (with_reducible refine Grew.drewN ?_ _) | (with_reducible refine Grew.setRow ?_ (by first | (simp; done) | (simp; omega) | omega) _) | (with_reducible refine Grew.setCell ?_ (by first | (simp; done) | (simp; omega) | omega) _) | ((with_reducible apply Grew.trans); rotate_left; (with_reducible assumption)) | ((with_reducible apply Grew.turn); rotate_left; (with_reducible assumption); (focus (intro i hi; first | omega | (simp at hi; omega)))) | fail)⟩
  · rw [if_neg h2] at h
    have H := Lib.hid h
    clear h hkj hkm
    go_enter Try.func39, Try.ntmps39
    go_wp2_with fail
    refine (refjoin_val rfl (by omega) hr1 kj HKJ.out).mono ?_
    rintro e ws ⟨Aj, cj, rfl, rj, gs⟩
    replace hb0 := hb0.hold gs
    replace hr1 := hr1.hold gs
    replace hr2 := hr2.hold gs
    replace hG := hG.trans gs
    clear gs
    go_wp2_with fail
    refine (rminus_val rfl rfl (by omega) (by omega) hr2 hr1 km HKM.out).mono ?_
    rintro e ws ⟨Am, cm, rfl, rm, gs⟩
    replace hb0 := hb0.hold gs
    replace hr1 := hr1.hold gs
    replace hG := hG.trans gs
    clear gs
    go_wp2_with fail
    refine (seq_val rfl (by omega) hr1 (sizeS l1) rfl).mono ?_
    rintro e ws ⟨As, cs, rfl, gs⟩
    replace hb0 := hb0.hold gs
    replace rm := rm.hold gs
    replace hG := hG.trans gs
    clear gs
    go_wp2_with fail
    refine (rbest_val rfl (by omega) rm (sizeS l1 : Int) (by omega) (by omega) a b ok H.out).mono ?_
    rintro e ws ⟨rfl, gs⟩
    replace hb0 := hb0.hold gs
    replace hG := hG.trans gs
    clear gs
    have z0 := hb0.cell 0
    have z1 := hb0.cell 1
    have f0 := hb0.frozen 0
    have f1 := hb0.frozen 1
    have hlb := hb0.lt
    go_wp2_with fail
    refine bodyPost_ret (by first | (simp [*, results, Try.results39, go_sem]; rfl) | simp [*, results, Try.results39, go_sem]) rfl ?_
    exact ⟨rfl, by (repeat' first | (with_reducible exact Grew.refl _) | (with_reducible assumption) | (with_reducible refine Grew.alloc ?_ _) | (with_reducible refine Grew.drew ?_) | (with_reducible refine Grew.drewN ?_ _) | (with_reducible refine Grew.setRow ?_ (by first | (simp; done) | (simp; omega) | omega) _) | (with_reducible refine Grew.setCell ?_ (by first | (simp; done) | (simp; omega) | omega) _) | ((with_reducible apply Grew.trans); rotate_left; (with_reducible assumption)) | ((with_reducible apply Grew.turn); rotate_left; (with_reducible assumption); (focus (intro i hi; first | omega | (simp at hi; omega)))) | fail)⟩
end
end Go.Proofs.Ytenbcjlikoajdaa
