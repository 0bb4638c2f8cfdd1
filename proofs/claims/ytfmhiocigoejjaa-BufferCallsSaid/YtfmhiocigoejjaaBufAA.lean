/- BufferCalls' walk. -/
import Derived.Test.YtfmhiocigoejjaaBufZ
namespace Go.Proofs.Ytfmhiocigoejjaa
set_option linter.unusedVariables false
set_option linter.unusedSimpArgs false
set_option linter.unusedSectionVars false
open Go.RowKit
set_option maxRecDepth 100000 in
set_option maxHeartbeats 8000000 in
theorem bufferCalls_any (c : Nat) (hc : c < 256) (A : Option Addr) (cc : Nat) (l : List Opn) (w : World) (hl : l.length ≤ 9223372036854775807) (hv : OpsAt w w.heap.size A l) :
    Calls Try.prog 9 #[.int .u8 (c : Int), .slice A l.length cc] w fun e w' => e = .returned (.bool true) ∧ Grew w w' := by
  have HV := Lib.hid hv
  clear hv
  cases hf : fewO l with
  | false =>
    have HFW := Lib.hid hf
    clear hf
    go_enter Try.func9, Try.ntmps9
    go_wp2_with fail
    refine (awake_any _).mono ?_
    rintro e w1 ⟨rfl, g1⟩
    go_wp2_with fail
    refine (few_any A cc l w1 _ (HV.out.hold (Nat.le_refl _) g1) hl).mono ?_
    rintro e w2 ⟨rfl, rfl⟩
    rw [HFW.out]
    go_wp2_with fail
    go_ret
    exact ⟨rfl, g1⟩
  | true =>
    have hl60 := fewO_len hf
    have HFW := Lib.hid hf
    clear hf
    go_enter Try.func9, Try.ntmps9
    go_wp2_with fail
    refine (awake_any _).mono ?_
    rintro e w1 ⟨rfl, g1⟩
    go_wp2_with fail
    refine (few_any A cc l w1 _ (HV.out.hold (Nat.le_refl _) g1) hl).mono ?_
    rintro e w2 ⟨rfl, rfl⟩
    rw [HFW.out]
    go_wp2_with fail
    refine (start_any c hc w1).mono ?_
    rintro e w2 ⟨x, m, n, hn, rfl, hp, g2⟩
    have hF := Foot.base hp g2.size
    have hn1 : 1 ≤ n ∧ n ≤ 8 := by omega
    obtain ⟨hn1, hn8⟩ := hn1
    have hT := g2.turned (fun k => w1.heap.size ≤ k)
    have HP := Lib.hid hp
    have HF := Lib.hid hF
    have HT := Lib.hid hT
    have HSD := Lib.hid (runO_sound (n : Int) l (by omega))
    clear hp hF hT g2 hn
    go_wp2_with fail
    have hx2 := HP.out.blk.lt
    have hm2 := HP.out.map.lt
    have gB := (Grew.refl w2).alloc (.cells #[.int .i64 (n : Int), .slice none 0 0, .int .i64 0, .int .i64 0] 54)
    have HSM := Lib.hid (same_any x m w1.heap.size _ n n 0 0 [] none 0 _ (HP.out.grew gB) (by simp) (ListAt.none _))
    have hbw := Blk.new w2 54 #[.int .i64 (n : Int), .slice none 0 0, .int .i64 0, .int .i64 0] rfl
    refine HSM.out.mono ?_
    rintro e w3 ⟨rfl, g3⟩
    have HP3 := Lib.hid ((HP.out.grew gB).grew g3)
    have HB3 := Lib.hid (hbw.grew g3)
    have HT3 := Lib.hid ((HT.out.andGrew gB).andGrew g3)
    have hb3 : w1.heap.size ≤ w2.heap.size := HT.out.size
    clear gB hbw HSM g3
    go_wp2_with fail
    go_loopg [34] l.length (fun gk i wr => ∃ v A3 c3, ∃ k : Nat, k ≤ l.length ∧ gk = l.length - k ∧ i = .int .i64 k ∧ Blk wr w2.heap.size 54 #[.int .i64 (n : Int), .slice A3 (runO n l k).pages.length c3, .int .i64 (runO n l k).hits, .int .i64 (runO n l k).misses] ∧ PgsAt wr wr.heap.size A3 (runO n l k).pages ∧ (runO n l k).pages.length ≤ c3 ∧ c3 ≤ 9223372036854775807 ∧ ApA wr A3 x m v ∧ (∀ off sp, A3 ≠ some ⟨w2.heap.size, off, sp⟩) ∧ v.ownBlock ≠ some w2.heap.size ∧ PoolM wr w1.heap.size x m v n (runO n l k).pages (runO n l k).hits (runO n l k).misses ∧ Turned (fun j => w1.heap.size ≤ j) w1 wr)
    case atStart => exact ⟨_, none, 0, 0, by omega, by omega, rfl, HB3.out, ListAt.none _, by simp [runO], by omega, (fun b off sp e => by cases e), (fun off sp e => by cases e), by simp [Value.ownBlock], HP3.out, HT3.out⟩
    case round =>
      obtain ⟨v, A3, c3, k, hk, hgk, rfl, hB, hR, hc3, hc39, hap, hab, hvb, hp, hT⟩ := hrel
      have HGK := Lib.hid hgk
      have HTk := Lib.hid hT
      have hsd := HSD.out k
      obtain ⟨s, hs⟩ : ∃ s, runO n l k = s := ⟨_, rfl⟩
      rw [hs] at hsd hp hB hR hc3
      have HS := Lib.hid hs
      have HSDs := Lib.hid hsd
      have HPk := Lib.hid hp
      have hsz := hT.size
      have hxl := hp.blk.lt
      have hml := hp.map.lt
      have hvl := fun j (hj : v.ownBlock = some j) => (hp.own.own_ge hj).2
      have hbl := hB.lt
      clear hgk hp hT hs hsd
      by_cases hlt : k < l.length
      · obtain ⟨b, off, rfl, hb, hok, o0, o1, o2, o3, o4⟩ := (HV.out.hold (Nat.le_refl _) (g1.trans HTk.out.toGrew)).at_ hlt
        obtain ⟨t, ht⟩ : ∃ t, t = l[k] := ⟨_, rfl⟩
        have HRS := Lib.hid (show runO n l (k + 1) = stepO n s t from by rw [runO_succ _ _ _ hlt, ← ht, HS.out])
        rw [← ht] at o0 o1 o2 o3 o4 hok
        have HSD1 := Lib.hid (HSDs.out.step (show (1 : Int) ≤ n by omega) t)
        have gA := ((Grew.refl wr).alloc (.cells #[.int .i64 t.kind, .int .i64 t.id, .int .i64 t.page, .int .i64 t.ver, .string t.data] 38))
        have hFA := ((((Foot.base HPk.out hsz).grew gA).sub (Q := fun j => j ≠ w2.heap.size ∧ j ≠ wr.heap.size) ⟨by omega, by omega⟩ ⟨by omega, by omega⟩ (fun j hj => ⟨fun e => hvb (by rw [hj, e]), by have := hvl j hj; omega⟩) (fun j hj => by simp at hj; exact ⟨by omega, by omega⟩)))
        have HG := Lib.hid (step_any x m w1.heap.size v n s k t A3 c3 _ _ (HPk.out.grew gA) hFA HSDs.out (by omega) ⟨by omega, by omega⟩ (by simp; omega) hok (hR.to (Nat.le_refl _) gA) hc3 hc39 (fun b off sp e => by obtain ⟨a1, a2⟩ := hap b off sp e; exact ⟨by simp; omega, a2⟩))
        have HBA := Lib.hid (hB.grew gA)
        have HAB := Lib.hid hab
        have HTA := Lib.hid (HTk.out.andGrew gA)
        have y0 := hB.cell 0
        have y1 := hB.cell 1
        have y2 := hB.cell 2
        have y3 := hB.cell 3
        clear ht hok hFA gA hR hap hB hab
        go_wp2_with fail
        refine HG.out.mono ?_
        rintro e w4 ⟨v4, A4, c4, rfl, hp4, hR4, hc4, hc49, hap4, hA4, hF4, hT4⟩
        obtain ⟨s4, hs4⟩ : ∃ s4, stepO n s t = s4 := ⟨_, rfl⟩
        have HS4 := Lib.hid (HRS.out.trans hs4)
        have hd4 := HSD1.out
        rw [hs4] at hp4 hR4 hc4 hd4 ⊢
        have hB4 := HBA.out.turned hT4 (fun hs => hs.2.1 rfl)
        have hz4 : wr.heap.size + 1 ≤ w4.heap.size := by have := hT4.size; simpa using this
        have hab4 : ∀ off sp, A4 ≠ some ⟨w2.heap.size, off, sp⟩ := fun off sp e => by
          rcases hA4 with h' | h'
          · exact HAB.out off sp (by rw [← h', e])
          · have := (h' _ off sp e).1; simp at this; omega
        have hvb4 : v4.ownBlock ≠ some w2.heap.size := fun e => (hF4.own _ e).2.1 rfl
        have hx4 : x ≠ w2.heap.size := by omega
        have hm4 : m ≠ w2.heap.size := by omega
        have HT4 := Lib.hid (HTA.out.trans (hT4.mono (fun j _ hj => hj.1)))
        have HAB4 := Lib.hid hab4
        have HVB4 := Lib.hid hvb4
        have HAP4 := Lib.hid hap4
        have hd8 : s4.pages.length ≤ 8 := by have := hd4.1; omega
        obtain ⟨w5, hw5⟩ : ∃ w5, w5 = (((((w4.setCell ⟨w2.heap.size, 0, none⟩ (.int .i64 (n : Int))).setCell ⟨w2.heap.size, 1, none⟩ (.slice A4 s4.pages.length c4)).setCell ⟨w2.heap.size, 2, none⟩ (.int .i64 s4.hits)).setCell ⟨w2.heap.size, 3, none⟩ (.int .i64 s4.misses)).alloc (.cells #[.int .i64 (n : Int), .slice A4 s4.pages.length c4, .int .i64 s4.hits, .int .i64 s4.misses] 54)) := ⟨_, rfl⟩
        have hT5 : Turned (fun j => j = w2.heap.size) w4 w5 := by
          rw [hw5]
          exact (((((Turned.refl (fun j => j = w2.heap.size) w4).setCell (p := ⟨w2.heap.size, 0, none⟩) (fun _ => rfl) _).setCell (p := ⟨w2.heap.size, 1, none⟩) (fun _ => rfl) _).setCell (p := ⟨w2.heap.size, 2, none⟩) (fun _ => rfl) _).setCell (p := ⟨w2.heap.size, 3, none⟩) (fun _ => rfl) _).alloc _
        have hB5 : Blk w5 w2.heap.size 54 #[.int .i64 (n : Int), .slice A4 s4.pages.length c4, .int .i64 s4.hits, .int .i64 s4.misses] := by
          rw [hw5]
          exact ((((hB4.set_ 0 _).set_ 1 _).set_ 2 _).set_ 3 _).alloc _
        have hp5 := hp4.kept hT5 hx4 hm4 (fun g hg e => hvb4 (by rw [hg, e]))
        have hR5 : PgsAt w5 w5.heap.size A4 s4.pages := ListAt.mono (ListAt.turned hR4 hT5 (Nat.le_refl _) (fun b off sp e hs => hab4 off sp (by rw [e, hs]))) hT5.size
        have HSM := Lib.hid (same_any x m w1.heap.size v4 n n s4.hits s4.misses s4.pages A4 c4 w5 hp5 (by omega) hR5)
        have HP5 := Lib.hid hp5
        have HR5 := Lib.hid hR5
        have HB5 := Lib.hid hB5
        have HT5 := Lib.hid (HT4.out.next hT5 (fun j hj e => by omega))
        have hz5 := hT5.size
        have y0 := hB4.cell 0
        have y1 := hB4.cell 1
        have y2 := hB4.cell 2
        have y3 := hB4.cell 3
        have f0 := hB4.frozen 0
        have f1 := hB4.frozen 1
        have f2 := hB4.frozen 2
        have f3 := hB4.frozen 3
        have hb4 := hB4.lt
        have HW5 := Lib.hid hw5
        clear hs4 hp4 hR4 hd4 hB4 hab4 hvb4 hA4 hF4 hT4 hap4 hT5 hB5 hp5 hR5 hw5
        go_wp2_with fail
        rw [← HW5.out]
        refine HSM.out.mono ?_
        rintro e w6 ⟨rfl, g6⟩
        have hz6 := g6.size
        go_wp2_with fail
        go_roundg (l.length - (k + 1))
        case measure => rw [HGK.out]; omega
        case rel => exact ⟨v4, A4, c4, k + 1, by omega, by omega, by go_num, by rw [HS4.out]; exact HB5.out.grew g6, by rw [HS4.out]; exact HR5.out.to (Nat.le_refl _) g6, by rw [HS4.out]; exact hc4, hc49, (fun b off sp e => by obtain ⟨a1, a2⟩ := HAP4.out b off sp e; exact ⟨by omega, a2⟩), HAB4.out, HVB4.out, by rw [HS4.out]; exact HP5.out.grew g6, HT5.out.andGrew g6⟩
      · obtain rfl : k = l.length := by omega
        go_wp2_with fail
        go_ret
        exact ⟨rfl, g1.trans HTk.out.toGrew⟩
end Go.Proofs.Ytfmhiocigoejjaa
