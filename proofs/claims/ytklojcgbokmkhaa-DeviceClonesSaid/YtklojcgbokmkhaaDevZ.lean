/- Chapter 3: operations; few; do. -/
import Derived.Test.YtklojcgbokmkhaaDevP
import Derived.Test.YtklojcgbokmkhaaOpenF
namespace Go.Proofs.Ytklojcgbokmkhaa
set_option linter.unusedVariables false
set_option linter.unusedSimpArgs false
set_option linter.unusedSectionVars false
open Go.RowKit Go.ChangeShapes Go.WideShapes Go.ChangeAt Go.Deep
open Go.Maps (Keyed)
attribute [local go_sem ↓] Go.wp_at_zero Go.wp_at_succ
/-- An operation on a device. -/
structure OpD where
  kind : Nat
  sys : Int
  ep : Int
  sec : Int
  data : ByteArray
  n : Int
  mask : UInt8
  A : Option Addr
  c : Nat
  sv : List Int
instance : Inhabited OpD := ⟨⟨0, 0, 0, 0, ⟨#[]⟩, 0, 0, none, 0, []⟩⟩
def opV (o : OpD) : Array Value := #[.int .u8 (o.kind : Int), .int .i64 o.sys, .int .i64 o.ep, .int .i64 o.sec, .string o.data, .int .i64 o.n, .int .u8 (o.mask.toNat : Int), .slice o.A o.sv.length o.c]
def opC (o : OpD) : List Value := [.int .u8 (o.kind : Int), .int .i64 o.sys, .int .i64 o.ep, .int .i64 o.sec, .string o.data, .int .i64 o.n, .int .u8 (o.mask.toNat : Int), .slice o.A o.sv.length o.c]
structure okOp (w : World) (o : OpD) : Prop where
  kind : o.kind < 256
  sys : okI o.sys
  ep : okI o.ep
  sec : okI o.sec
  n : okI o.n
  data : o.data.size ≤ 9223372036854775807
  sv : ∀ n ∈ o.sv, okI n
  len : o.sv.length ≤ o.c
  cap : o.c ≤ 9223372036854775807
  list : ListAt w w.heap.size 1 o.A (o.sv.map intC)
def OpsAt (w : World) (B : Nat) (A : Option Addr) (l : List OpD) : Prop := (∀ o ∈ l, okOp w o) ∧ ListAt w B 8 A (l.map opC)
theorem okOp.keep {w w' : World} {o : OpD} (h : okOp w o) (hg : Grew w w') : okOp w' o := ⟨h.kind, h.sys, h.ep, h.sec, h.n, h.data, h.sv, h.len, h.cap, (h.list.keep (Nat.le_refl _) hg).mono hg.size⟩
theorem OpsAt.keep {w w' : World} {B : Nat} {A : Option Addr} {l : List OpD} (h : OpsAt w B A l) (hB : B ≤ w.heap.size) (hg : Grew w w') : OpsAt w' B A l := ⟨fun o ho => (h.1 o ho).keep hg, h.2.keep hB hg⟩
theorem OpsAt.at_ {w : World} {B : Nat} {A : Option Addr} {l : List OpD} (h : OpsAt w B A l) {k : Nat} (hk : k < l.length) : ∃ b off, A = some ⟨b, off, none⟩ ∧ b < B ∧ okOp w l[k] ∧ ∀ i v, (opC l[k])[i]? = some v → w.cell? ⟨b, off + k * 8 + i, none⟩ = some v := by
  obtain ⟨b, off, e, hb, hc⟩ := h.2 (by simp; omega)
  exact ⟨b, off, e, hb, h.1 _ (List.getElem_mem hk), hc k (opC l[k]) (by rw [List.getElem?_map, List.getElem?_eq_getElem hk]; rfl)⟩
section
variable {H : Type} {enc : TypeId × Value → H} {w : World}
set_option maxRecDepth 100000 in
theorem open_ints {fuel : Nat} {v : Value} {x0 : DataW H × List MemPlace} (hf : DataW.trod enc Try.prog w 0 (fun _ => true) true fuel 30 [v] = some x0) :
    ∃ A c, ∃ l : List Int, v = .slice A l.length c ∧ l.length ≤ c ∧ c ≤ 9223372036854775807 ∧ (∀ n ∈ l, okI n) ∧ ListAt w w.heap.size 1 A (l.map intC) :=
  open_listF (α := Int) (sz := 1) Try.underlying30 (by kernel_rfl) (by omega) intC okI (fun n cs y hlen h => by
      match cs, hlen with
      | [v], _ =>
        obtain ⟨n0, hn0, _, w0⟩ := DataW.trod_int Try.underlying3 h
        injection hn0 with hn0 _
        subst hn0
        exact ⟨n0, wf_i64' w0, rfl⟩) hf
set_option maxRecDepth 100000 in
theorem open_opC {n : Nat} {cs : List Value} {y : DataW H × List MemPlace} (hlen : cs.length = 8) (h : DataW.trod enc Try.prog w 0 (fun _ => true) true n 57 cs = some y) : ∃ o : OpD, okOp w o ∧ cs = opC o := by
  match cs, hlen with
  | [x0, x1, x2, x3, x4, x5, x6, x7], _ =>
    have hf := struct_field_at Try.underlying57 h
    obtain ⟨_, _, f0⟩ := hf 0 _ rfl
    obtain ⟨_, _, f1⟩ := hf 1 _ rfl
    obtain ⟨_, _, f2⟩ := hf 2 _ rfl
    obtain ⟨_, _, f3⟩ := hf 3 _ rfl
    obtain ⟨_, _, f4⟩ := hf 4 _ rfl
    obtain ⟨_, _, f5⟩ := hf 5 _ rfl
    obtain ⟨_, _, f6⟩ := hf 6 _ rfl
    simp only [List.getElem_toArray, List.getElem_cons_zero, List.getElem_cons_succ] at f0 f1 f2 f3 f4 f5 f6
    rw [show Try.prog.cellsOf 5 = 1 from by kernel_rfl] at f0 f5
    rw [show Try.prog.cellsOf 40 = 2 from by kernel_rfl] at f1
    rw [show Try.prog.cellsOf 3 = 1 from by kernel_rfl] at f2 f4
    rw [show Try.prog.cellsOf 9 = 1 from by kernel_rfl] at f3
    rw [show Try.prog.cellsOf 30 = 1 from by kernel_rfl] at f6
    simp only [List.drop_succ_cons, List.drop_zero, List.take_succ_cons, List.take_zero] at f0 f1 f2 f3 f4 f5 f6
    have hg := struct_fields Try.underlying40 (by kernel_rfl) f1
    obtain ⟨v1, _, _, e1, g1⟩ := hg 0 _ rfl (by show 0 < 2; omega)
    obtain ⟨v2, _, _, e2, g2⟩ := hg 1 _ rfl (by show 1 < 2; omega)
    simp only [List.getElem?_cons_zero, List.getElem?_cons_succ, Option.some.injEq] at e1 e2
    subst e1; subst e2
    obtain ⟨n0, hn0, _, w0⟩ := DataW.trod_int Try.underlying5 f0
    obtain ⟨n1, hn1, _, w1⟩ := DataW.trod_int Try.underlying3 g1
    obtain ⟨n2, hn2, _, w2⟩ := DataW.trod_int Try.underlying3 g2
    obtain ⟨n3, hn3, _, w3⟩ := DataW.trod_int Try.underlying3 f2
    obtain ⟨n4, hn4, _, w4⟩ := DataW.trod_string Try.underlying9 f3
    obtain ⟨n5, hn5, _, w5⟩ := DataW.trod_int Try.underlying3 f4
    obtain ⟨n6, hn6, _, w6⟩ := DataW.trod_int Try.underlying5 f5
    obtain ⟨A, c, l, rfl, h1, h2, h3, h4⟩ := open_ints f6
    injection hn0 with hn0 _
    injection hn1 with hn1 _
    injection hn2 with hn2 _
    injection hn3 with hn3 _
    injection hn4 with hn4 _
    injection hn5 with hn5 _
    injection hn6 with hn6 _
    subst hn0; subst hn1; subst hn2; subst hn3; subst hn4; subst hn5; subst hn6
    have b0 := wf_u8' w0
    have b6 := wf_u8' w6
    unfold maxLen at w4
    refine ⟨⟨n0.toNat, n1, n2, n3, n4, n5, UInt8.ofNat n6.toNat, A, c, l⟩, ⟨by show n0.toNat < 256; omega, wf_i64' w1, wf_i64' w2, wf_i64' w3, wf_i64' w5, by simpa using w4, h3, h1, h2, h4⟩, ?_⟩
    have e6 : ((UInt8.ofNat n6.toNat).toNat : Int) = n6 := by
      have : n6.toNat < 256 := by omega
      rw [UInt8.toNat_ofNat']
      omega
    unfold opC
    simp only [e6, Int.toNat_of_nonneg b0.1]
set_option maxRecDepth 100000 in
theorem open_ops {r : Reach} {b0 : Nat} {v : Value} {d : DataW H} {ps : List MemPlace} (hv : Value.okWide Try.prog w r b0 52 v) (hd : DataW.Trod enc Try.prog w 0 (fun _ => true) true 52 v d ps) :
    ∃ A c, ∃ l : List OpD, v = .slice A l.length c ∧ l.length ≤ c ∧ c ≤ 9223372036854775807 ∧ OpsAt w w.heap.size A l := by
  obtain ⟨A, c, l, rfl, h1, h2, h3, h4⟩ := open_list (α := OpD) (sz := 8) Try.underlying52 (by kernel_rfl) (by omega) opC (okOp w) (fun n cs y hlen h => open_opC hlen h) hv hd
  exact ⟨A, c, l, rfl, h1, h2, h3, h4⟩
end
def fewD (l : List OpD) (n : Nat) : Bool := l.all (fun o => decide (o.data.size ≤ 300) && decide (o.sv.length ≤ 100)) && decide (l.length ≤ n)
set_option maxRecDepth 100000 in
set_option maxHeartbeats 2000000 in
theorem few_any (A : Option Addr) (c : Nat) (l : List OpD) (n : Nat) (w : World) (B : Nat) (hv : OpsAt w B A l) (hB : B ≤ w.heap.size) (hl : l.length ≤ 9223372036854775807) (hn : n ≤ 1000) :
    Calls Try.prog 23 #[.slice A l.length c, .int .i64 (n : Int)] w fun e w' => e = .returned (.bool (fewD l n)) ∧ w = w' := by
  have HV := Lib.hid hv
  have HF := Lib.hid (show fewD l n = (l.all (fun o => decide (o.data.size ≤ 300) && decide (o.sv.length ≤ 100)) && decide (l.length ≤ n)) from rfl)
  generalize fewD l n = bb at *
  clear hv
  go_enter Try.func23, Try.ntmps23
  go_wp2_with fail
  go_loopg [5] l.length (fun gk iv wr => w = wr ∧ ∃ j : Nat, j ≤ l.length ∧ gk = l.length - j ∧ iv = .int .i64 (j : Int) ∧ ∀ k (hk : k < l.length), k < j → l[k].data.size ≤ 300 ∧ l[k].sv.length ≤ 100)
  case atStart => exact ⟨rfl, 0, Nat.zero_le _, rfl, rfl, fun k hk h => by omega⟩
  case round =>
    obtain ⟨rfl, j, hj, hgk, rfl, hall⟩ := hrel
    have HGK := Lib.hid hgk
    have HA := Lib.hid hall
    clear hgk hall
    by_cases hlt : j < l.length
    · obtain ⟨b, off, rfl, hbb, hok, hc⟩ := HV.out.at_ hlt
      have z4 := hc 4 _ rfl
      have z7 := hc 7 _ rfl
      have hd9 := hok.data
      have hs9 := hok.len
      have hs8 := hok.cap
      have HOP := Lib.hid (show ∀ k (hk : k < l.length), k < j + 1 → k ≠ j → l[k].data.size ≤ 300 ∧ l[k].sv.length ≤ 100 from fun k hk h1 h2 => HA.out k hk (by omega))
      have hbw : b < w.heap.size := by omega
      clear hc hok
      obtain ⟨o, ho⟩ : ∃ o, l[j] = o := ⟨_, rfl⟩
      have HO := Lib.hid ho
      rw [ho] at z4 z7 hd9 hs9 hs8
      clear ho
      by_cases h1 : 300 < o.data.size
      · have h1i : (300 : Int) < (o.data.size : Int) := by omega
        have HE := Lib.hid (show (l.all (fun o => decide (o.data.size ≤ 300) && decide (o.sv.length ≤ 100)) && decide (l.length ≤ n)) = false from by
          rw [Bool.and_eq_false_iff]
          refine .inl (List.all_eq_false.2 ⟨o, by rw [← HO.out]; exact List.getElem_mem hlt, ?_⟩)
          rw [decide_eq_false (by omega)]; simp)
        go_wp2_with fail
        go_ret
        exact ⟨ret_bool (by rw [HF.out, HE.out]), rfl⟩
      · by_cases h2 : 100 < o.sv.length
        · have h2i : (100 : Int) < (o.sv.length : Int) := by omega
          have HE := Lib.hid (show (l.all (fun o => decide (o.data.size ≤ 300) && decide (o.sv.length ≤ 100)) && decide (l.length ≤ n)) = false from by
            rw [Bool.and_eq_false_iff]
            refine .inl (List.all_eq_false.2 ⟨o, by rw [← HO.out]; exact List.getElem_mem hlt, ?_⟩)
            rw [decide_eq_false (show ¬ o.sv.length ≤ 100 by omega)]; simp)
          have h1i : (o.data.size : Int) ≤ 300 := by omega
          go_wp2_with fail
          go_ret
          exact ⟨ret_bool (by rw [HF.out, HE.out]), rfl⟩
        · have h1i : (o.data.size : Int) ≤ 300 := by omega
          have h2i : (o.sv.length : Int) ≤ 100 := by omega
          go_wp2_with fail
          go_roundg (l.length - (j + 1))
          case measure => rw [HGK.out]; omega
          case rel =>
            refine ⟨rfl, j + 1, by omega, by omega, by go_num, fun k hk h9 => ?_⟩
            by_cases hkj : k = j
            · subst hkj
              rw [HO.out]
              exact ⟨by omega, by omega⟩
            · exact HOP.out k hk h9 hkj
    · obtain rfl : j = l.length := by omega
      have HE := Lib.hid (show l.all (fun o => decide (o.data.size ≤ 300) && decide (o.sv.length ≤ 100)) = true from by
        rw [List.all_eq_true]
        intro o ho
        obtain ⟨k, hk, rfl⟩ := List.mem_iff_getElem.1 ho
        have := HA.out k hk hk
        rw [decide_eq_true this.1, decide_eq_true this.2]; rfl)
      by_cases hn9 : l.length ≤ n
      · have hni : (l.length : Int) ≤ (n : Int) := by omega
        go_wp2_with fail
        go_ret
        exact ⟨ret_bool (by rw [HF.out, HE.out, decide_eq_true hn9]; rfl), rfl⟩
      · have hni : ¬ (l.length : Int) ≤ (n : Int) := by omega
        go_wp2_with fail
        go_ret
        exact ⟨ret_bool (by rw [HF.out, HE.out, decide_eq_false hn9]; rfl), rfl⟩
end Go.Proofs.Ytklojcgbokmkhaa
