/- Chapter 8: Extend, Release, Replace, Confirm, Note, Remove. Chapter 8: the reference's put and find. Chapter 6: what the reference's Extend has left. Chapter 6: the reference's Extend. Chapter 6: SpaceExtends. Chapter 8: the reference's Allocate, Extend and Release of chapter 6, once more: what they return is new. -/
import Derived.Test.YtnlaogneceanoaaGreatCuF
import Derived.Test.YtnlaogneceanoaaGreatCuG
import Derived.Test.YtnlaogneceanoaaGreatCuI
import Derived.Test.YtnlaogneceanoaaGreatCuJ
namespace Go.Proofs.YtnlaogneceanoaaGreat
set_option linter.unusedVariables false
set_option linter.unusedSimpArgs false
set_option linter.unusedSectionVars false
open Go.RowKit
attribute [local go_sem ↓] Go.wp_at_zero Go.wp_at_succ
theorem TabAt.turned {S : Nat → Prop} {w w' : World} {A : Option Addr} {c : Nat} {xs : List LabE} {T : Tab} (h : TabAt w A c xs T) (ht : Turned S w w') (h1 : 0 < xs.length → ∀ b off, A = some ⟨b, off, none⟩ → ¬ S b) (h2 : ∀ x ∈ xs, 0 < x.l.ext.length → ∀ b off, x.A = some ⟨b, off, none⟩ → ¬ S b) : TabAt w' A c xs T :=
  ⟨fun x hx => (h.lab x hx).turned ht (h2 x hx), fun h0 => by
    obtain ⟨b, off, e, hb, hc⟩ := h.rows h0
    exact ⟨b, off, e, Nat.lt_of_lt_of_le hb ht.size, fun j cs hj i v hi => by rw [ht.cellEq _ _ hb (h1 (by simpa using h0) b off e)]; exact hc j cs hj i v hi⟩, h.len, h.cap, h.eq, h.tr0, h.tr1, h.name⟩
/-- A table is apart from a variable that holds one. -/
theorem TabAt.apart {w w' : World} {A : Option Addr} {c : Nat} {xs : List LabE} {T : Tab} (h : TabAt w A c xs T) {g : Nat} {t : TypeId} {s : ByteArray} {i : Int} {a : Option Addr} {n d : Nat} (hb : Blk w g t #[.string s, .int .i64 i, .slice a n d]) (ht : Turned (fun x => x = g) w w') : TabAt w' A c xs T := by
  refine h.turned ht (fun h0 b off e => ?_) (fun x hx h0 b off e => runs_ne_tab (h.lab x hx).runs h0 hb b off e)
  rintro rfl
  obtain ⟨b', off', e', hb', hc⟩ := h.rows (by simpa using h0)
  rw [e] at e'
  injection e' with e'
  injection e' with e1 e2 _
  subst e1; subst e2
  have hr : (xs.map labC)[0]? = some (labC xs[0]) := by rw [List.getElem?_map, List.getElem?_eq_getElem h0]; rfl
  have c0 := hc 0 _ hr 0 _ rfl
  have c1 := hc 0 _ hr 1 _ rfl
  rw [Nat.zero_mul, Nat.add_zero, hb.cell] at c0 c1
  match off with
  | 0 => simp at c0
  | 1 => simp at c1
  | 2 => simp at c0
  | off + 3 => simp at c0
section
variable (A : Option Addr) (c : Nat) (xs : List LabE) (T : Tab) (id unit : Int) (w : World)
set_option maxRecDepth 100000 in
set_option maxHeartbeats 4000000 in
theorem extend_tab (h : TabAt w A c xs T) (hs : SmallT T) (n : Int) (n0 : -9223372036854775808 ≤ n) (n1 : n ≤ 9223372036854775807) (T' : Tab) (er : Int) (hr : chgT T id unit (chExt T n) = (T', er)) :
    Calls Tryz.prog 63 #[.agg #[.string T.name, .int .i64 T.tracks, .slice A T.labels.length c], .agg #[.int .i64 id, .int .i64 unit], .int .i64 n] w (TabR w T' er) := by
  have hg0 := ((((Grew.refl w).alloc (.cells #[.string T.name, .int .i64 T.tracks, .slice A T.labels.length c] 24)).alloc (.cells #[.int .i64 id, .int .i64 unit] 26)).alloc (.cells #[.int .i64 n] 3)).alloc (.cells #[.string ⟨#[]⟩, .int .i64 0, .slice none 0 0] 24)
  have hb0 := (((Blk.new w 24 #[.string T.name, .int .i64 T.tracks, .slice A T.labels.length c] rfl).alloc (.cells #[.int .i64 id, .int .i64 unit] 26)).alloc (.cells #[.int .i64 n] 3)).alloc (.cells #[.string ⟨#[]⟩, .int .i64 0, .slice none 0 0] 24)
  have hr0 := ((Blk.new (w.alloc (.cells #[.string T.name, .int .i64 T.tracks, .slice A T.labels.length c] 24)) 26 #[.int .i64 id, .int .i64 unit] (n := w.heap.size + 1) (by simp)).alloc (.cells #[.int .i64 n] 3)).alloc (.cells #[.string ⟨#[]⟩, .int .i64 0, .slice none 0 0] 24)
  have hn0 := (Blk.new ((w.alloc (.cells #[.string T.name, .int .i64 T.tracks, .slice A T.labels.length c] 24)).alloc (.cells #[.int .i64 id, .int .i64 unit] 26)) 3 #[.int .i64 n] (n := w.heap.size + 2) (by simp)).alloc (.cells #[.string ⟨#[]⟩, .int .i64 0, .slice none 0 0] 24)
  have hz0 := Blk.new (((w.alloc (.cells #[.string T.name, .int .i64 T.tracks, .slice A T.labels.length c] 24)).alloc (.cells #[.int .i64 id, .int .i64 unit] 26)).alloc (.cells #[.int .i64 n] 3)) 24 #[.string ⟨#[]⟩, .int .i64 0, .slice none 0 0] (n := w.heap.size + 3) (by simp)
  have h0 := h.hold hg0
  have HC := Lib.hid (change_ext A c xs T id unit _ w.heap.size (w.heap.size + 2) h0 hs (chExt T n) (fun w1 base g cap xo ys k hk _ ho => extend1_any _ w1 base g cap xo ys T k hk ho A c xs h0 hs n n0 n1 _ _ hb0 hn0) T' er hr)
  have HG0 := Lib.hid hg0
  have HZ0 := Lib.hid hz0
  clear h hs hg0 hb0 hr0 hn0 hz0 h0 
  go_enter Tryz.func63, Tryz.ntmps63
  go_wp2_with fail
  refine HC.out.mono ?_
  rintro e w1 ⟨A1, c1, xs1, rfl, ht1, g1⟩
  have hz1 := HZ0.out.grew g1
  have z0 := hz1.cell 0
  have z1 := hz1.cell 1
  have z2 := hz1.cell 2
  have f0 := hz1.frozen 0
  have f1 := hz1.frozen 1
  have f2 := hz1.frozen 2
  have hzl := hz1.lt
  have hg1 := HG0.out.trans g1
  have HT1 := Lib.hid (fun w2 (ht : Turned (fun x => x = w.heap.size + 3) w1 w2) => ht1.apart hz1 ht)
  clear hz1 g1 ht1
  go_wp2_with fail
  refine bodyPost_ret (by first | (simp [*, results, Tryz.results63, go_sem]; rfl) | simp [*, results, Tryz.results63, go_sem]) rfl ?_
  exact ⟨A1, c1, xs1, rfl, HT1.out _ (by (repeat' first | (with_reducible exact Turned.refl _ _) | (with_reducible assumption) | (with_reducible refine Turned.alloc ?_ _) | (with_reducible refine Turned.drew ?_) | (with_reducible refine Turned.drewN ?_ _) | (with_reducible refine Turned.setRow ?_ (by first | (simp; done) | (simp; omega) | omega) _) | (with_reducible refine Turned.setCell ?_ (by first | (simp; done) | (simp; omega) | omega) _) | ((with_reducible apply Turned.andGrew); rotate_left; (with_reducible assumption)) | ((with_reducible apply Turned.trans); rotate_left; (with_reducible assumption)) | fail)), by (repeat' first | (with_reducible exact Grew.refl _) | (with_reducible assumption) | (with_reducible refine Grew.alloc ?_ _) | (with_reducible refine Grew.drew ?_) | (with_reducible refine Grew.drewN ?_ _) | (with_reducible refine Grew.setRow ?_ (by first | (simp; done) | (simp; omega) | omega) _) | (with_reducible refine Grew.setCell ?_ (by first | (simp; done) | (simp; omega) | omega) _) | ((with_reducible apply Grew.trans); rotate_left; (with_reducible assumption)) | ((with_reducible apply Grew.turn); rotate_left; (with_reducible assumption); (focus (intro i hi; first | omega | (simp at hi; omega)))) | fail)⟩
set_option maxRecDepth 100000 in
set_option maxHeartbeats 4000000 in
theorem release_tab (h : TabAt w A c xs T) (hs : SmallT T) (n : Int) (n0 : -9223372036854775808 ≤ n) (n1 : n ≤ 9223372036854775807) (T' : Tab) (er : Int) (hr : chgT T id unit (chRel T n) = (T', er)) :
    Calls Tryz.prog 64 #[.agg #[.string T.name, .int .i64 T.tracks, .slice A T.labels.length c], .agg #[.int .i64 id, .int .i64 unit], .int .i64 n] w (TabR w T' er) := by
  have hg0 := ((((Grew.refl w).alloc (.cells #[.string T.name, .int .i64 T.tracks, .slice A T.labels.length c] 24)).alloc (.cells #[.int .i64 id, .int .i64 unit] 26)).alloc (.cells #[.int .i64 n] 3)).alloc (.cells #[.string ⟨#[]⟩, .int .i64 0, .slice none 0 0] 24)
  have hb0 := (((Blk.new w 24 #[.string T.name, .int .i64 T.tracks, .slice A T.labels.length c] rfl).alloc (.cells #[.int .i64 id, .int .i64 unit] 26)).alloc (.cells #[.int .i64 n] 3)).alloc (.cells #[.string ⟨#[]⟩, .int .i64 0, .slice none 0 0] 24)
  have hr0 := ((Blk.new (w.alloc (.cells #[.string T.name, .int .i64 T.tracks, .slice A T.labels.length c] 24)) 26 #[.int .i64 id, .int .i64 unit] (n := w.heap.size + 1) (by simp)).alloc (.cells #[.int .i64 n] 3)).alloc (.cells #[.string ⟨#[]⟩, .int .i64 0, .slice none 0 0] 24)
  have hn0 := (Blk.new ((w.alloc (.cells #[.string T.name, .int .i64 T.tracks, .slice A T.labels.length c] 24)).alloc (.cells #[.int .i64 id, .int .i64 unit] 26)) 3 #[.int .i64 n] (n := w.heap.size + 2) (by simp)).alloc (.cells #[.string ⟨#[]⟩, .int .i64 0, .slice none 0 0] 24)
  have hz0 := Blk.new (((w.alloc (.cells #[.string T.name, .int .i64 T.tracks, .slice A T.labels.length c] 24)).alloc (.cells #[.int .i64 id, .int .i64 unit] 26)).alloc (.cells #[.int .i64 n] 3)) 24 #[.string ⟨#[]⟩, .int .i64 0, .slice none 0 0] (n := w.heap.size + 3) (by simp)
  have h0 := h.hold hg0
  have HC := Lib.hid (change_rel A c xs T id unit _ (w.heap.size + 2)  h0 hs (chRel T n) (fun w1 base g cap xo ys k hk _ ho => release1_any _ w1 base g cap xo ys T k hk ho hs n n0 n1 _ hn0) T' er hr)
  have HG0 := Lib.hid hg0
  have HZ0 := Lib.hid hz0
  clear h hs hg0 hb0 hr0 hn0 hz0 h0 
  go_enter Tryz.func64, Tryz.ntmps64
  go_wp2_with fail
  refine HC.out.mono ?_
  rintro e w1 ⟨A1, c1, xs1, rfl, ht1, g1⟩
  have hz1 := HZ0.out.grew g1
  have z0 := hz1.cell 0
  have z1 := hz1.cell 1
  have z2 := hz1.cell 2
  have f0 := hz1.frozen 0
  have f1 := hz1.frozen 1
  have f2 := hz1.frozen 2
  have hzl := hz1.lt
  have hg1 := HG0.out.trans g1
  have HT1 := Lib.hid (fun w2 (ht : Turned (fun x => x = w.heap.size + 3) w1 w2) => ht1.apart hz1 ht)
  clear hz1 g1 ht1
  go_wp2_with fail
  refine bodyPost_ret (by first | (simp [*, results, Tryz.results64, go_sem]; rfl) | simp [*, results, Tryz.results64, go_sem]) rfl ?_
  exact ⟨A1, c1, xs1, rfl, HT1.out _ (by (repeat' first | (with_reducible exact Turned.refl _ _) | (with_reducible assumption) | (with_reducible refine Turned.alloc ?_ _) | (with_reducible refine Turned.drew ?_) | (with_reducible refine Turned.drewN ?_ _) | (with_reducible refine Turned.setRow ?_ (by first | (simp; done) | (simp; omega) | omega) _) | (with_reducible refine Turned.setCell ?_ (by first | (simp; done) | (simp; omega) | omega) _) | ((with_reducible apply Turned.andGrew); rotate_left; (with_reducible assumption)) | ((with_reducible apply Turned.trans); rotate_left; (with_reducible assumption)) | fail)), by (repeat' first | (with_reducible exact Grew.refl _) | (with_reducible assumption) | (with_reducible refine Grew.alloc ?_ _) | (with_reducible refine Grew.drew ?_) | (with_reducible refine Grew.drewN ?_ _) | (with_reducible refine Grew.setRow ?_ (by first | (simp; done) | (simp; omega) | omega) _) | (with_reducible refine Grew.setCell ?_ (by first | (simp; done) | (simp; omega) | omega) _) | ((with_reducible apply Grew.trans); rotate_left; (with_reducible assumption)) | ((with_reducible apply Grew.turn); rotate_left; (with_reducible assumption); (focus (intro i hi; first | omega | (simp at hi; omega)))) | fail)⟩
set_option maxRecDepth 100000 in
set_option maxHeartbeats 4000000 in
theorem replace_tab (h : TabAt w A c xs T) (hs : SmallT T) (Ax : Option Addr) (cx : Nat) (ex : List (Int × Int)) (hx : RunsAt w w.heap.size Ax ex) (hxl : ex.length ≤ 1000) (T' : Tab) (er : Int) (hr : chgT T id unit (chRep T ex) = (T', er)) :
    Calls Tryz.prog 65 #[.agg #[.string T.name, .int .i64 T.tracks, .slice A T.labels.length c], .agg #[.int .i64 id, .int .i64 unit], .slice Ax ex.length cx] w (TabR w T' er) := by
  have hg0 := ((((Grew.refl w).alloc (.cells #[.string T.name, .int .i64 T.tracks, .slice A T.labels.length c] 24)).alloc (.cells #[.int .i64 id, .int .i64 unit] 26)).alloc (.cells #[.slice Ax ex.length cx] 29)).alloc (.cells #[.string ⟨#[]⟩, .int .i64 0, .slice none 0 0] 24)
  have hb0 := (((Blk.new w 24 #[.string T.name, .int .i64 T.tracks, .slice A T.labels.length c] rfl).alloc (.cells #[.int .i64 id, .int .i64 unit] 26)).alloc (.cells #[.slice Ax ex.length cx] 29)).alloc (.cells #[.string ⟨#[]⟩, .int .i64 0, .slice none 0 0] 24)
  have hr0 := ((Blk.new (w.alloc (.cells #[.string T.name, .int .i64 T.tracks, .slice A T.labels.length c] 24)) 26 #[.int .i64 id, .int .i64 unit] (n := w.heap.size + 1) (by simp)).alloc (.cells #[.slice Ax ex.length cx] 29)).alloc (.cells #[.string ⟨#[]⟩, .int .i64 0, .slice none 0 0] 24)
  have hn0 := (Blk.new ((w.alloc (.cells #[.string T.name, .int .i64 T.tracks, .slice A T.labels.length c] 24)).alloc (.cells #[.int .i64 id, .int .i64 unit] 26)) 29 #[.slice Ax ex.length cx] (n := w.heap.size + 2) (by simp)).alloc (.cells #[.string ⟨#[]⟩, .int .i64 0, .slice none 0 0] 24)
  have hz0 := Blk.new (((w.alloc (.cells #[.string T.name, .int .i64 T.tracks, .slice A T.labels.length c] 24)).alloc (.cells #[.int .i64 id, .int .i64 unit] 26)).alloc (.cells #[.slice Ax ex.length cx] 29)) 24 #[.string ⟨#[]⟩, .int .i64 0, .slice none 0 0] (n := w.heap.size + 3) (by simp)
  have h0 := h.hold hg0
  have HC := Lib.hid (change_rep A c xs T id unit _ (w.heap.size + 2)  h0 hs (chRep T ex) (fun w1 base g cap xo ys k hk _ ho => replace1_any _ w1 base g cap xo ys T k hk ho hs h.name h.tr0 h.tr1 Ax cx ex (hx.hold hg0) hxl _ hn0) T' er hr)
  have HG0 := Lib.hid hg0
  have HZ0 := Lib.hid hz0
  clear h hs hg0 hb0 hr0 hn0 hz0 h0 hx
  go_enter Tryz.func65, Tryz.ntmps65
  go_wp2_with fail
  refine HC.out.mono ?_
  rintro e w1 ⟨A1, c1, xs1, rfl, ht1, g1⟩
  have hz1 := HZ0.out.grew g1
  have z0 := hz1.cell 0
  have z1 := hz1.cell 1
  have z2 := hz1.cell 2
  have f0 := hz1.frozen 0
  have f1 := hz1.frozen 1
  have f2 := hz1.frozen 2
  have hzl := hz1.lt
  have hg1 := HG0.out.trans g1
  have HT1 := Lib.hid (fun w2 (ht : Turned (fun x => x = w.heap.size + 3) w1 w2) => ht1.apart hz1 ht)
  clear hz1 g1 ht1
  go_wp2_with fail
  refine bodyPost_ret (by first | (simp [*, results, Tryz.results65, go_sem]; rfl) | simp [*, results, Tryz.results65, go_sem]) rfl ?_
  exact ⟨A1, c1, xs1, rfl, HT1.out _ (by (repeat' first | (with_reducible exact Turned.refl _ _) | (with_reducible assumption) | (with_reducible refine Turned.alloc ?_ _) | (with_reducible refine Turned.drew ?_) | (with_reducible refine Turned.drewN ?_ _) | (with_reducible refine Turned.setRow ?_ (by first | (simp; done) | (simp; omega) | omega) _) | (with_reducible refine Turned.setCell ?_ (by first | (simp; done) | (simp; omega) | omega) _) | ((with_reducible apply Turned.andGrew); rotate_left; (with_reducible assumption)) | ((with_reducible apply Turned.trans); rotate_left; (with_reducible assumption)) | fail)), by (repeat' first | (with_reducible exact Grew.refl _) | (with_reducible assumption) | (with_reducible refine Grew.alloc ?_ _) | (with_reducible refine Grew.drew ?_) | (with_reducible refine Grew.drewN ?_ _) | (with_reducible refine Grew.setRow ?_ (by first | (simp; done) | (simp; omega) | omega) _) | (with_reducible refine Grew.setCell ?_ (by first | (simp; done) | (simp; omega) | omega) _) | ((with_reducible apply Grew.trans); rotate_left; (with_reducible assumption)) | ((with_reducible apply Grew.turn); rotate_left; (with_reducible assumption); (focus (intro i hi; first | omega | (simp at hi; omega)))) | fail)⟩
set_option maxRecDepth 100000 in
set_option maxHeartbeats 4000000 in
theorem confirm_tab (h : TabAt w A c xs T) (hs : SmallT T) (note : ByteArray) (hns : note.size ≤ 9223372036854775807) (T' : Tab) (er : Int) (hr : chgT T id unit (chCon T id note) = (T', er)) :
    Calls Tryz.prog 35 #[.agg #[.string T.name, .int .i64 T.tracks, .slice A T.labels.length c], .agg #[.int .i64 id, .int .i64 unit], .string note] w (TabR w T' er) := by
  have hg0 := ((((Grew.refl w).alloc (.cells #[.string T.name, .int .i64 T.tracks, .slice A T.labels.length c] 24)).alloc (.cells #[.int .i64 id, .int .i64 unit] 26)).alloc (.cells #[.string note] 9)).alloc (.cells #[.string ⟨#[]⟩, .int .i64 0, .slice none 0 0] 24)
  have hb0 := (((Blk.new w 24 #[.string T.name, .int .i64 T.tracks, .slice A T.labels.length c] rfl).alloc (.cells #[.int .i64 id, .int .i64 unit] 26)).alloc (.cells #[.string note] 9)).alloc (.cells #[.string ⟨#[]⟩, .int .i64 0, .slice none 0 0] 24)
  have hr0 := ((Blk.new (w.alloc (.cells #[.string T.name, .int .i64 T.tracks, .slice A T.labels.length c] 24)) 26 #[.int .i64 id, .int .i64 unit] (n := w.heap.size + 1) (by simp)).alloc (.cells #[.string note] 9)).alloc (.cells #[.string ⟨#[]⟩, .int .i64 0, .slice none 0 0] 24)
  have hn0 := (Blk.new ((w.alloc (.cells #[.string T.name, .int .i64 T.tracks, .slice A T.labels.length c] 24)).alloc (.cells #[.int .i64 id, .int .i64 unit] 26)) 9 #[.string note] (n := w.heap.size + 2) (by simp)).alloc (.cells #[.string ⟨#[]⟩, .int .i64 0, .slice none 0 0] 24)
  have hz0 := Blk.new (((w.alloc (.cells #[.string T.name, .int .i64 T.tracks, .slice A T.labels.length c] 24)).alloc (.cells #[.int .i64 id, .int .i64 unit] 26)).alloc (.cells #[.string note] 9)) 24 #[.string ⟨#[]⟩, .int .i64 0, .slice none 0 0] (n := w.heap.size + 3) (by simp)
  have h0 := h.hold hg0
  have HC := Lib.hid (change_con A c xs T id unit _ (w.heap.size + 2) (w.heap.size + 1) h0 hs (chCon T id note) (fun w1 base g cap xo ys k hk _ ho => confirm1_any _ w1 base g cap xo ys T k hk ho hs h.name h.tr0 h.tr1 note hns id unit _ _ hn0 hr0) T' er hr)
  have HG0 := Lib.hid hg0
  have HZ0 := Lib.hid hz0
  clear h hs hg0 hb0 hr0 hn0 hz0 h0 
  go_enter Tryz.func35, Tryz.ntmps35
  go_wp2_with fail
  refine HC.out.mono ?_
  rintro e w1 ⟨A1, c1, xs1, rfl, ht1, g1⟩
  have hz1 := HZ0.out.grew g1
  have z0 := hz1.cell 0
  have z1 := hz1.cell 1
  have z2 := hz1.cell 2
  have f0 := hz1.frozen 0
  have f1 := hz1.frozen 1
  have f2 := hz1.frozen 2
  have hzl := hz1.lt
  have hg1 := HG0.out.trans g1
  have HT1 := Lib.hid (fun w2 (ht : Turned (fun x => x = w.heap.size + 3) w1 w2) => ht1.apart hz1 ht)
  clear hz1 g1 ht1
  go_wp2_with fail
  refine bodyPost_ret (by first | (simp [*, results, Tryz.results35, go_sem]; rfl) | simp [*, results, Tryz.results35, go_sem]) rfl ?_
  exact ⟨A1, c1, xs1, rfl, HT1.out _ (by (repeat' first | (with_reducible exact Turned.refl _ _) | (with_reducible assumption) | (with_reducible refine Turned.alloc ?_ _) | (with_reducible refine Turned.drew ?_) | (with_reducible refine Turned.drewN ?_ _) | (with_reducible refine Turned.setRow ?_ (by first | (simp; done) | (simp; omega) | omega) _) | (with_reducible refine Turned.setCell ?_ (by first | (simp; done) | (simp; omega) | omega) _) | ((with_reducible apply Turned.andGrew); rotate_left; (with_reducible assumption)) | ((with_reducible apply Turned.trans); rotate_left; (with_reducible assumption)) | fail)), by (repeat' first | (with_reducible exact Grew.refl _) | (with_reducible assumption) | (with_reducible refine Grew.alloc ?_ _) | (with_reducible refine Grew.drew ?_) | (with_reducible refine Grew.drewN ?_ _) | (with_reducible refine Grew.setRow ?_ (by first | (simp; done) | (simp; omega) | omega) _) | (with_reducible refine Grew.setCell ?_ (by first | (simp; done) | (simp; omega) | omega) _) | ((with_reducible apply Grew.trans); rotate_left; (with_reducible assumption)) | ((with_reducible apply Grew.turn); rotate_left; (with_reducible assumption); (focus (intro i hi; first | omega | (simp at hi; omega)))) | fail)⟩
set_option maxRecDepth 100000 in
set_option maxHeartbeats 4000000 in
theorem note_tab (h : TabAt w A c xs T) (hs : SmallT T) (note : ByteArray) (hns : note.size ≤ 9223372036854775807) (T' : Tab) (er : Int) (hr : chgT T id unit (chNote T note) = (T', er)) :
    Calls Tryz.prog 66 #[.agg #[.string T.name, .int .i64 T.tracks, .slice A T.labels.length c], .agg #[.int .i64 id, .int .i64 unit], .string note] w (TabR w T' er) := by
  have hg0 := ((((Grew.refl w).alloc (.cells #[.string T.name, .int .i64 T.tracks, .slice A T.labels.length c] 24)).alloc (.cells #[.int .i64 id, .int .i64 unit] 26)).alloc (.cells #[.string note] 9)).alloc (.cells #[.string ⟨#[]⟩, .int .i64 0, .slice none 0 0] 24)
  have hb0 := (((Blk.new w 24 #[.string T.name, .int .i64 T.tracks, .slice A T.labels.length c] rfl).alloc (.cells #[.int .i64 id, .int .i64 unit] 26)).alloc (.cells #[.string note] 9)).alloc (.cells #[.string ⟨#[]⟩, .int .i64 0, .slice none 0 0] 24)
  have hr0 := ((Blk.new (w.alloc (.cells #[.string T.name, .int .i64 T.tracks, .slice A T.labels.length c] 24)) 26 #[.int .i64 id, .int .i64 unit] (n := w.heap.size + 1) (by simp)).alloc (.cells #[.string note] 9)).alloc (.cells #[.string ⟨#[]⟩, .int .i64 0, .slice none 0 0] 24)
  have hn0 := (Blk.new ((w.alloc (.cells #[.string T.name, .int .i64 T.tracks, .slice A T.labels.length c] 24)).alloc (.cells #[.int .i64 id, .int .i64 unit] 26)) 9 #[.string note] (n := w.heap.size + 2) (by simp)).alloc (.cells #[.string ⟨#[]⟩, .int .i64 0, .slice none 0 0] 24)
  have hz0 := Blk.new (((w.alloc (.cells #[.string T.name, .int .i64 T.tracks, .slice A T.labels.length c] 24)).alloc (.cells #[.int .i64 id, .int .i64 unit] 26)).alloc (.cells #[.string note] 9)) 24 #[.string ⟨#[]⟩, .int .i64 0, .slice none 0 0] (n := w.heap.size + 3) (by simp)
  have h0 := h.hold hg0
  have HC := Lib.hid (change_note A c xs T id unit _ (w.heap.size + 2)  h0 hs (chNote T note) (fun w1 base g cap xo ys k hk _ ho => note1_any _ w1 base g cap xo ys T k hk ho note hns _ hn0) T' er hr)
  have HG0 := Lib.hid hg0
  have HZ0 := Lib.hid hz0
  clear h hs hg0 hb0 hr0 hn0 hz0 h0 
  go_enter Tryz.func66, Tryz.ntmps66
  go_wp2_with fail
  refine HC.out.mono ?_
  rintro e w1 ⟨A1, c1, xs1, rfl, ht1, g1⟩
  have hz1 := HZ0.out.grew g1
  have z0 := hz1.cell 0
  have z1 := hz1.cell 1
  have z2 := hz1.cell 2
  have f0 := hz1.frozen 0
  have f1 := hz1.frozen 1
  have f2 := hz1.frozen 2
  have hzl := hz1.lt
  have hg1 := HG0.out.trans g1
  have HT1 := Lib.hid (fun w2 (ht : Turned (fun x => x = w.heap.size + 3) w1 w2) => ht1.apart hz1 ht)
  clear hz1 g1 ht1
  go_wp2_with fail
  refine bodyPost_ret (by first | (simp [*, results, Tryz.results66, go_sem]; rfl) | simp [*, results, Tryz.results66, go_sem]) rfl ?_
  exact ⟨A1, c1, xs1, rfl, HT1.out _ (by (repeat' first | (with_reducible exact Turned.refl _ _) | (with_reducible assumption) | (with_reducible refine Turned.alloc ?_ _) | (with_reducible refine Turned.drew ?_) | (with_reducible refine Turned.drewN ?_ _) | (with_reducible refine Turned.setRow ?_ (by first | (simp; done) | (simp; omega) | omega) _) | (with_reducible refine Turned.setCell ?_ (by first | (simp; done) | (simp; omega) | omega) _) | ((with_reducible apply Turned.andGrew); rotate_left; (with_reducible assumption)) | ((with_reducible apply Turned.trans); rotate_left; (with_reducible assumption)) | fail)), by (repeat' first | (with_reducible exact Grew.refl _) | (with_reducible assumption) | (with_reducible refine Grew.alloc ?_ _) | (with_reducible refine Grew.drew ?_) | (with_reducible refine Grew.drewN ?_ _) | (with_reducible refine Grew.setRow ?_ (by first | (simp; done) | (simp; omega) | omega) _) | (with_reducible refine Grew.setCell ?_ (by first | (simp; done) | (simp; omega) | omega) _) | ((with_reducible apply Grew.trans); rotate_left; (with_reducible assumption)) | ((with_reducible apply Grew.turn); rotate_left; (with_reducible assumption); (focus (intro i hi; first | omega | (simp at hi; omega)))) | fail)⟩
set_option maxRecDepth 100000 in
set_option maxHeartbeats 4000000 in
theorem remove_tab (h : TabAt w A c xs T) (hs : SmallT T)  (T' : Tab) (er : Int) (hr : chgT T id unit (chRem T) = (T', er)) :
    Calls Tryz.prog 67 #[.agg #[.string T.name, .int .i64 T.tracks, .slice A T.labels.length c], .agg #[.int .i64 id, .int .i64 unit]] w (TabR w T' er) := by
  have hg0 := (((Grew.refl w).alloc (.cells #[.string T.name, .int .i64 T.tracks, .slice A T.labels.length c] 24)).alloc (.cells #[.int .i64 id, .int .i64 unit] 26)).alloc (.cells #[.string ⟨#[]⟩, .int .i64 0, .slice none 0 0] 24)
  have hb0 := ((Blk.new w 24 #[.string T.name, .int .i64 T.tracks, .slice A T.labels.length c] rfl).alloc (.cells #[.int .i64 id, .int .i64 unit] 26)).alloc (.cells #[.string ⟨#[]⟩, .int .i64 0, .slice none 0 0] 24)
  have hr0 := (Blk.new (w.alloc (.cells #[.string T.name, .int .i64 T.tracks, .slice A T.labels.length c] 24)) 26 #[.int .i64 id, .int .i64 unit] (n := w.heap.size + 1) (by simp)).alloc (.cells #[.string ⟨#[]⟩, .int .i64 0, .slice none 0 0] 24)
  have hz0 := Blk.new ((w.alloc (.cells #[.string T.name, .int .i64 T.tracks, .slice A T.labels.length c] 24)).alloc (.cells #[.int .i64 id, .int .i64 unit] 26)) 24 #[.string ⟨#[]⟩, .int .i64 0, .slice none 0 0] (n := w.heap.size + 2) (by simp)
  have h0 := h.hold hg0
  have HC := Lib.hid (change_rem A c xs T id unit _   h0 hs (chRem T) (fun w1 base g cap xo ys k hk _ ho => remove1_any _ w1 base g cap xo ys T k hk ho) T' er hr)
  have HG0 := Lib.hid hg0
  have HZ0 := Lib.hid hz0
  clear h hs hg0 hb0 hr0 hz0 h0 
  go_enter Tryz.func67, Tryz.ntmps67
  go_wp2_with fail
  refine HC.out.mono ?_
  rintro e w1 ⟨A1, c1, xs1, rfl, ht1, g1⟩
  have hz1 := HZ0.out.grew g1
  have z0 := hz1.cell 0
  have z1 := hz1.cell 1
  have z2 := hz1.cell 2
  have f0 := hz1.frozen 0
  have f1 := hz1.frozen 1
  have f2 := hz1.frozen 2
  have hzl := hz1.lt
  have hg1 := HG0.out.trans g1
  have HT1 := Lib.hid (fun w2 (ht : Turned (fun x => x = w.heap.size + 2) w1 w2) => ht1.apart hz1 ht)
  clear hz1 g1 ht1
  go_wp2_with fail
  refine bodyPost_ret (by first | (simp [*, results, Tryz.results67, go_sem]; rfl) | simp [*, results, Tryz.results67, go_sem]) rfl ?_
  exact ⟨A1, c1, xs1, rfl, HT1.out _ (by (repeat' first | (with_reducible exact Turned.refl _ _) | (with_reducible assumption) | (with_reducible refine Turned.alloc ?_ _) | (with_reducible refine Turned.drew ?_) | (with_reducible refine Turned.drewN ?_ _) | (with_reducible refine Turned.setRow ?_ (by first | (simp; done) | (simp; omega) | omega) _) | (with_reducible refine Turned.setCell ?_ (by first | (simp; done) | (simp; omega) | omega) _) | ((with_reducible apply Turned.andGrew); rotate_left; (with_reducible assumption)) | ((with_reducible apply Turned.trans); rotate_left; (with_reducible assumption)) | fail)), by (repeat' first | (with_reducible exact Grew.refl _) | (with_reducible assumption) | (with_reducible refine Grew.alloc ?_ _) | (with_reducible refine Grew.drew ?_) | (with_reducible refine Grew.drewN ?_ _) | (with_reducible refine Grew.setRow ?_ (by first | (simp; done) | (simp; omega) | omega) _) | (with_reducible refine Grew.setCell ?_ (by first | (simp; done) | (simp; omega) | omega) _) | ((with_reducible apply Grew.trans); rotate_left; (with_reducible assumption)) | ((with_reducible apply Grew.turn); rotate_left; (with_reducible assumption); (focus (intro i hi; first | omega | (simp at hi; omega)))) | fail)⟩
end
end Go.Proofs.YtnlaogneceanoaaGreat
namespace Go.Proofs.YtnlaogneceanoaaGreat
set_option linter.unusedVariables false
set_option linter.unusedSimpArgs false
set_option linter.unusedSectionVars false
open Go.RowKit
attribute [local go_sem ↓] Go.wp_at_zero Go.wp_at_succ
theorem labC_len {xs : List LabE} : ∀ r ∈ xs.map labC, r.length = 5 := fun r hr => by obtain ⟨x, _, rfl⟩ := List.mem_map.1 hr; rfl
theorem labC_one {xs : List LabE} : ∀ r ∈ xs.map labC, r.all (·.oneCell') = true := fun r hr => by obtain ⟨x, _, rfl⟩ := List.mem_map.1 hr; rfl
theorem own_label {w : World} {base : Nat} {v : Value} {xs : List LabE} (h : OwnL w base 31 5 v (xs.map labC)) {k n : Nat} (hk : k < xs.length) (hn : xs.length = n) :
    ∃ g cap, v = .slice (some ⟨g, 0, none⟩) n cap ∧ base ≤ g ∧ g < w.heap.size ∧ k < cap ∧ w.cell? ⟨g, k * 5, none⟩ = some (.int .i64 xs[k].l.id) ∧ w.cell? ⟨g, k * 5 + 1, none⟩ = some (.int .i64 xs[k].l.unit) ∧ w.cell? ⟨g, k * 5 + 2, none⟩ = some (.string xs[k].l.name) ∧ w.cell? ⟨g, k * 5 + 3, none⟩ = some (.string xs[k].l.note) ∧ w.cell? ⟨g, k * 5 + 4, none⟩ = some (.slice xs[k].A xs[k].l.ext.length xs[k].c) ∧
      w.frozen? ⟨g, k * 5, none⟩ = false ∧ w.frozen? ⟨g, k * 5 + 1, none⟩ = false ∧ w.frozen? ⟨g, k * 5 + 2, none⟩ = false ∧ w.frozen? ⟨g, k * 5 + 3, none⟩ = false ∧ w.frozen? ⟨g, k * 5 + 4, none⟩ = false := by
  subst hn
  rcases h.form with ⟨_, h0⟩ | ⟨g, cap, rfl, h1, h2, h3, _⟩
  · have := congrArg List.length h0; rw [List.length_map, List.length_nil] at this; omega
  · rw [List.length_map] at h h3
    have hr : (xs.map labC)[k]? = some (labC xs[k]) := by rw [List.getElem?_map, List.getElem?_eq_getElem hk]; rfl
    exact ⟨g, cap, by rw [List.length_map], h1, h2, by omega, h.cell0 hr rfl, h.cell hr (i := 1) rfl, h.cell hr (i := 2) rfl, h.cell hr (i := 3) rfl, h.cell hr (i := 4) rfl, h.frozen _, h.frozen _, h.frozen _, h.frozen _, h.frozen _⟩
section
variable (A : Option Addr) (c : Nat) (xs : List LabE) (T : Tab) (w : World)
set_option maxRecDepth 100000 in
set_option maxHeartbeats 8000000 in
theorem rput_tab (h : TabAt w A c xs T) (hlen : T.labels.length ≤ 1000) (k : Nat) (hk : k < T.labels.length) (B : Option Addr) (d : Nat) (l : Lab) (hl : LabAt w B d l) (T' : Tab) (hT : { T with labels := T.labels.set k l } = T') :
    Calls Tryz.prog 123 #[.agg #[.string T.name, .int .i64 T.tracks, .slice A T.labels.length c], .int .i64 (k : Int), .agg #[.int .i64 l.id, .int .i64 l.unit, .string l.name, .string l.note, .slice B l.ext.length d]] w fun e w' => ∃ A1 c1 ys, e = .returned (.agg #[.string T'.name, .int .i64 T'.tracks, .slice A1 T'.labels.length c1]) ∧ TabAt w' A1 c1 ys T' ∧ Grew w w' := by
  have hx := h.xlen
  have hg0 := ((((Grew.refl w).alloc (.cells #[.string T.name, .int .i64 T.tracks, .slice A T.labels.length c] 24)).alloc (.cells #[.int .i64 l.id, .int .i64 l.unit, .string l.name, .string l.note, .slice B l.ext.length d] 31)).alloc (.cells #[.string ⟨#[]⟩, .int .i64 0, .slice none 0 0] 24)).alloc (.cells #[] 31)
  have HB0 := Lib.hid ((((Blk.new w 24 #[.string T.name, .int .i64 T.tracks, .slice A T.labels.length c] rfl).alloc (.cells #[.int .i64 l.id, .int .i64 l.unit, .string l.name, .string l.note, .slice B l.ext.length d] 31)).alloc (.cells #[.string ⟨#[]⟩, .int .i64 0, .slice none 0 0] 24)).alloc (.cells #[] 31))
  have HLB0 := Lib.hid (((Blk.new (w.alloc (.cells #[.string T.name, .int .i64 T.tracks, .slice A T.labels.length c] 24)) 31 #[.int .i64 l.id, .int .i64 l.unit, .string l.name, .string l.note, .slice B l.ext.length d] (n := w.heap.size + 1) (by simp)).alloc (.cells #[.string ⟨#[]⟩, .int .i64 0, .slice none 0 0] 24)).alloc (.cells #[] 31))
  have HZ0 := Lib.hid ((Blk.new ((w.alloc (.cells #[.string T.name, .int .i64 T.tracks, .slice A T.labels.length c] 24)).alloc (.cells #[.int .i64 l.id, .int .i64 l.unit, .string l.name, .string l.note, .slice B l.ext.length d] 31)) 24 #[.string ⟨#[]⟩, .int .i64 0, .slice none 0 0] (n := w.heap.size + 2) (by simp)).alloc (.cells #[] 31))
  have HOE := Lib.hid (show OwnL ((((w.alloc (.cells #[.string T.name, .int .i64 T.tracks, .slice A T.labels.length c] 24)).alloc (.cells #[.int .i64 l.id, .int .i64 l.unit, .string l.name, .string l.note, .slice B l.ext.length d] 31)).alloc (.cells #[.string ⟨#[]⟩, .int .i64 0, .slice none 0 0] 24)).alloc (.cells #[] 31)) (w.heap.size + 3) 31 5 (.slice (some ⟨w.heap.size + 3, 0, none⟩) 0 0) [] from OwnL.empty _ _ _ _ (by simp) (by simp))
  have HROWS := Lib.hid ((h.hold hg0).rows)
  have HTB := Lib.hid h
  have HL := Lib.hid hl
  have HG0 := Lib.hid hg0
  have hkn : (k : Int) < (T.labels.length : Int) := by omega
  have HTT := Lib.hid hT
  clear h hl hg0 hT
  go_enter Tryz.func123, Tryz.ntmps123
  go_upto_region 2 with (at_builtin; refine wpList_pushAll (by rfl) _ _ 22 rfl (w.heap.size + 3) 31 5 72 _ Tryz.underlying22 info_lab rfl (by decide) _ [] (xs.map labC) (by rfl) HOE.out A T.labels.length _ (by rfl) (by rw [List.length_map, hx]) labC_len HROWS.out labC_one (by simp; omega) (by simp; omega) (by simp) ?_; intro v1 w3 hown1 hgr1 hat1; rw [List.nil_append] at hown1; obtain ⟨g, cap, rfl, hgb, hgs, hkc, y0, y1, y2, y3, y4, yf0, yf1, yf2, yf3, yf4⟩ := own_label hown1 (by rw [hx]; exact hk) hx; have hg3 := HG0.out.own hgr1 (own_one _ _ _) (by simp); have hb3 := HB0.out.own hgr1 (own_ne _ _ (by omega)); have hl3 := HLB0.out.own hgr1 (own_ne _ _ (by omega)); have hz3 := HZ0.out.own hgr1 (own_ne _ _ (by omega)); have x2 := hb3.cell 2; have xf := hb3.frozen 2; have hxl := hb3.lt; have l0 := hl3.cell 0; have l1 := hl3.cell 1; have l2 := hl3.cell 2; have l3 := hl3.cell 3; have l4 := hl3.cell 4; have hll := hl3.lt)
  obtain ⟨W2, hW2⟩ : ∃ W, W = (w3.setCell ⟨w.heap.size, 2, none⟩ (.slice (some ⟨g, 0, none⟩) T.labels.length cap)) := ⟨_, rfl⟩
  rw [← hW2]
  have hg2 : Grew w W2 := by rw [hW2]; exact hg3.setCell (p := ⟨w.heap.size, 2, none⟩) (Nat.le_refl _) _
  have hb2 : Blk W2 w.heap.size 24 #[.string T.name, .int .i64 T.tracks, .slice (some ⟨g, 0, none⟩) T.labels.length cap] := by rw [hW2]; exact hb3.set_ 2 _
  have hl2 : Blk W2 (w.heap.size + 1) 31 #[.int .i64 l.id, .int .i64 l.unit, .string l.name, .string l.note, .slice B l.ext.length d] := by rw [hW2]; exact hl3.far (p := ⟨w.heap.size, 2, none⟩) (by simp) _
  have hz2 : Blk W2 (w.heap.size + 2) 24 #[.string ⟨#[]⟩, .int .i64 0, .slice none 0 0] := by rw [hW2]; exact hz3.far (p := ⟨w.heap.size, 2, none⟩) (by simp) _
  have ho2 : OwnL W2 (w.heap.size + 3) 31 5 (.slice (some ⟨g, 0, none⟩) T.labels.length cap) (xs.map labC) := by rw [hW2]; exact hown1.far (own_ne _ _ (by simp; omega)) _
  have hto : TabO W2 (w.heap.size + 3) (.slice (some ⟨g, 0, none⟩) T.labels.length cap) xs T.labels := ⟨ho2, fun y hy => (HTB.out.lab y hy).hold hg2, fun y hy h0 b off e hk => by
    obtain ⟨b', off', e', hb', _⟩ := (HTB.out.lab y hy).runs.2 (by simpa using h0)
    rw [e] at e'
    injection e' with e'
    injection e' with e'
    have e9 : g = b := Option.some.inj hk
    omega, HTB.out.eq⟩
  have hla := HL.out.hold hg2
  have hfar : 0 < l.ext.length → ∀ b off, B = some ⟨b, off, none⟩ → b ≠ g := fun h0 b off e => by
    obtain ⟨b', off', e', hb', _⟩ := HL.out.runs.2 (by simpa using h0)
    rw [e] at e'
    injection e' with e'
    injection e' with e'
    omega
  have HTO := Lib.hid hto
  have HLA := Lib.hid hla
  have HFAR := Lib.hid hfar
  have HG2 := Lib.hid hg2
  have HB2 := Lib.hid hb2
  have HZ2 := Lib.hid hz2
  obtain ⟨B9, d9, hrow, -, -, -⟩ := hto.row hk
  clear x2 xf hxl l0 l1 l2 l3 l4 hll y0 y1 y2 y3 y4 yf0 yf1 yf2 yf3 yf4 hW2 hg3 hb3 hl3 hz3 hown1 hgr1 hat1 ho2 hla hfar hg2
  have x2 := hb2.cell 2
  have hxl := hb2.lt
  have l0 := hl2.cell 0
  have l1 := hl2.cell 1
  have l2 := hl2.cell 2
  have l3 := hl2.cell 3
  have l4 := hl2.cell 4
  have hll := hl2.lt
  have y0 := hto.own.cell0 hrow rfl
  have y1 := hto.own.cell hrow (i := 1) rfl
  have y2 := hto.own.cell hrow (i := 2) rfl
  have y3 := hto.own.cell hrow (i := 3) rfl
  have y4 := hto.own.cell hrow (i := 4) rfl
  have yf0 := hto.own.frozen (k * 5)
  have yf1 := hto.own.frozen (k * 5 + 1)
  have yf2 := hto.own.frozen (k * 5 + 2)
  have yf3 := hto.own.frozen (k * 5 + 3)
  have yf4 := hto.own.frozen (k * 5 + 4)
  have hgw2 := hto.own.block_lt.2
  clear hto hrow hb2 hl2 hz2
  go_upto_region 3 with fail
  have tu := set5_turned W2 g (k * 5) (.int .i64 l.id) (.int .i64 l.unit) (.string l.name) (.string l.note) (.slice B l.ext.length d)
  have ht3 := HTO.out.set5 hk ⟨B, d, l⟩ HLA.out HFAR.out
  have hz3 := HZ2.out.turned tu (by omega)
  have hb3 := HB2.out.turned tu (by omega)
  have hg3 := HG2.out.turn tu (fun i e => by omega)
  obtain ⟨W3, hW3⟩ : ∃ W, W = ((((W2.setCell ⟨g, k * 5, none⟩ (.int .i64 l.id)).setCell ⟨g, k * 5 + 1, none⟩ (.int .i64 l.unit)).setCell ⟨g, k * 5 + 2, none⟩ (.string l.name)).setCell ⟨g, k * 5 + 3, none⟩ (.string l.note)).setCell ⟨g, k * 5 + 4, none⟩ (.slice B l.ext.length d) := ⟨_, rfl⟩
  rw [← hW3]
  rw [← hW3] at ht3 hz3 hb3 hg3
  have HT3 := Lib.hid ht3
  have HAP := Lib.hid (ht3.apart hz3)
  have HN3 := Lib.hid ht3.nlen
  have HG3 := Lib.hid hg3
  have HNM := Lib.hid (show T.name.size ≤ 9223372036854775807 ∧ -9223372036854775808 ≤ T.tracks ∧ T.tracks ≤ 9223372036854775807 from ⟨HTB.out.name, HTB.out.tr0, HTB.out.tr1⟩)
  clear tu hW3 ht3 hg3 x2 hxl l0 l1 l2 l3 l4 hll y0 y1 y2 y3 y4 yf0 yf1 yf2 yf3 yf4
  have z0 := hz3.cell 0
  have z1 := hz3.cell 1
  have z2 := hz3.cell 2
  have f0 := hz3.frozen 0
  have f1 := hz3.frozen 1
  have f2 := hz3.frozen 2
  have hzl := hz3.lt
  have x0 := hb3.cell 0
  have x1 := hb3.cell 1
  have x2 := hb3.cell 2
  have hxl := hb3.lt
  clear hz3 hb3
  go_wp2_with fail
  refine bodyPost_ret (by first | (simp [*, results, Tryz.results123, go_sem]; rfl) | simp [*, results, Tryz.results123, go_sem]) rfl ?_
  refine ⟨some ⟨g, 0, none⟩, cap, by rw [← HTT.out]; simp only [HN3.out], ⟨xs.set k ⟨B, d, l⟩, ?_⟩, by have hg := HG3.out; (repeat' first | (with_reducible exact Grew.refl _) | (with_reducible assumption) | (with_reducible refine Grew.alloc ?_ _) | (with_reducible refine Grew.drew ?_) | (with_reducible refine Grew.drewN ?_ _) | (with_reducible refine Grew.setRow ?_ (by first | (simp; done) | (simp; omega) | omega) _) | (with_reducible refine Grew.setCell ?_ (by first | (simp; done) | (simp; omega) | omega) _) | ((with_reducible apply Grew.trans); rotate_left; (with_reducible assumption)) | ((with_reducible apply Grew.turn); rotate_left; (with_reducible assumption); (focus (intro i hi; first | omega | (simp at hi; omega)))) | fail)⟩
  rw [← HTT.out]
  exact (HT3.out.turned (S := fun k => k = w.heap.size + 2) (by (repeat' first | (with_reducible exact Turned.refl _ _) | (with_reducible assumption) | (with_reducible refine Turned.alloc ?_ _) | (with_reducible refine Turned.drew ?_) | (with_reducible refine Turned.drewN ?_ _) | (with_reducible refine Turned.setRow ?_ (by first | (simp; done) | (simp; omega) | omega) _) | (with_reducible refine Turned.setCell ?_ (by first | (simp; done) | (simp; omega) | omega) _) | ((with_reducible apply Turned.andGrew); rotate_left; (with_reducible assumption)) | ((with_reducible apply Turned.trans); rotate_left; (with_reducible assumption)) | fail)) (fun g' e => by have e' : g = g' := Option.some.inj e; omega) (fun y hy h0 b off e => HAP.out y hy h0 b off e)).tabAt _ _ HNM.out.1 HNM.out.2.1 HNM.out.2.2
end
end Go.Proofs.YtnlaogneceanoaaGreat
namespace Go.Proofs.YtnlaogneceanoaaGreat
set_option linter.unusedVariables false
set_option linter.unusedSimpArgs false
set_option linter.unusedSectionVars false
open Go.RowKit
/-- The free tracks without the k ones from p on. -/
def leftK (F : List (Nat × Nat)) (p k : Nat) : List (Nat × Nat) := normS fun i => memS (ints F) i && !decide (p ≤ i ∧ i < p + k)
theorem leftK_zero (S : Nat → Bool) (p : Nat) : leftK (normS S) p 0 = normS S := by
  unfold leftK
  conv => rhs; rw [← normS_norm S]
  refine normS_congr (fun i _ => ?_)
  rw [decide_eq_false (by omega)]
  simp
theorem mem_single (p : Nat) (hp : p < 128) (i : Nat) : memS [((p : Int), (1 : Int))] i = decide (p ≤ i ∧ i < p + 1) := by
  show (inS (clipS ((p : Int), ((1 : Nat) : Int))) i || false) = _
  rw [clipS_nat p 1 (by omega) (by omega), Bool.or_false]
  rfl
theorem leftK_succ (F : List (Nat × Nat)) (p k : Nat) (h : p + k < 128) : (normS fun i => memS (ints (leftK F p k)) i && !memS [(((p + k : Nat) : Int), (1 : Int))] i) = leftK F p (k + 1) := by
  refine normS_congr (fun i hi => ?_)
  show (memS (ints (normS fun i => memS (ints F) i && !decide (p ≤ i ∧ i < p + k))) i && !memS [(((p + k : Nat) : Int), (1 : Int))] i) = (memS (ints F) i && !decide (p ≤ i ∧ i < p + (k + 1)))
  rw [memS_normS _ i hi, mem_single (p + k) h]
  by_cases h1 : p ≤ i ∧ i < p + k
  · rw [decide_eq_true h1, decide_eq_true (show p ≤ i ∧ i < p + (k + 1) by omega)]; simp
  · by_cases h2 : i = p + k
    · rw [decide_eq_false h1, decide_eq_true (show p + k ≤ i ∧ i < p + k + 1 by omega), decide_eq_true (show p ≤ i ∧ i < p + (k + 1) by omega)]; simp
    · rw [decide_eq_false h1, decide_eq_false (show ¬ (p + k ≤ i ∧ i < p + k + 1) by omega), decide_eq_false (show ¬ (p ≤ i ∧ i < p + (k + 1)) by omega)]; simp
theorem leftK_at (F : List (Nat × Nat)) (p k : Nat) : memS (ints (leftK F p k)) (p + k) = memS (ints F) (p + k) := by
  by_cases h : p + k < 128
  · unfold leftK
    rw [memS_normS _ _ h, decide_eq_false (by omega)]
    simp
  · cases h1 : memS (ints (leftK F p k)) (p + k) with
    | true => exact absurd (memS_lt _ _ h1) h
    | false =>
      cases h2 : memS (ints F) (p + k) with
      | true => exact absurd (memS_lt _ _ h2) h
      | false => rfl
theorem mem_nat (a b : Nat) (h : a + b ≤ 128) (i : Nat) : memS [((a : Int), (b : Int))] i = decide (a ≤ i ∧ i < a + b) := by
  cases b with
  | zero =>
    rw [decide_eq_false (by omega)]
    show (inS (clipS ((a : Int), 0)) i || false) = false
    unfold clipS
    rw [if_pos (by simp)]
    simp [inS]
  | succ b =>
    show (inS (clipS ((a : Int), ((b + 1 : Nat) : Int))) i || false) = _
    rw [clipS_nat a (b + 1) h (by omega), Bool.or_false]
    rfl
theorem memS_append2 (a b : List (Int × Int)) (i : Nat) : memS (a ++ b) i = (memS a i || memS b i) := by simp [memS]
theorem leftK_ext (I : List (Nat × Nat)) (x : Nat × Nat) (f : List (Int × Int)) (k : Nat) (hb : x.1 + (x.2 + k) ≤ 128) :
    leftK (extF (I ++ [x]) f) (x.1 + x.2) k = extF (extL I x k) (ints (extF (I ++ [x]) f)) := by
  unfold leftK
  show _ = normS fun i => memS (ints (extF (I ++ [x]) f)) i && !memS (ints (extL I x k)) i
  refine normS_congr (fun i hi => ?_)
  cases hF : memS (ints (extF (I ++ [x]) f)) i with
  | false => rfl
  | true =>
    have h1 : memS (ints (I ++ [x])) i = false := by
      unfold extF at hF
      rw [memS_normS _ i hi] at hF
      cases h : memS (ints (I ++ [x])) i with
      | false => rfl
      | true => rw [h] at hF; simp at hF
    rw [ints_append, memS_append2] at h1
    have h2 : memS (ints I) i = false := by cases h : memS (ints I) i with | false => rfl | true => rw [h] at h1; simp at h1
    have h3 : memS (ints [x]) i = false := by cases h : memS (ints [x]) i with | false => rfl | true => rw [h] at h1; simp at h1
    obtain ⟨a, b⟩ := x
    have h3' : memS [((a : Int), (b : Int))] i = false := h3
    simp only at hb
    rw [mem_nat a b (by omega)] at h3'
    have h4 := of_decide_eq_false h3'
    unfold extL
    rw [ints_append, memS_append2, h2, Bool.false_or]
    show (true && !decide (a + b ≤ i ∧ i < a + b + k)) = (true && !memS [((a : Int), ((b + k : Nat) : Int))] i)
    rw [mem_nat a (b + k) (by omega)]
    congr 2
    rw [decide_eq_decide]
    omega
set_option maxRecDepth 100000 in
set_option maxHeartbeats 1000000 in
theorem rminus_any (A1 A2 : Option Addr) (c1 c2 : Nat) (l1 l2 : List (Int × Int)) (w : World) (B : Nat) (hB : B ≤ w.heap.size) (hl1 : l1.length ≤ 1000000) (hl2 : l2.length ≤ 1000000) (hr1 : RunsAt w B A1 l1) (hr2 : RunsAt w B A2 l2) :
    Calls Tryz.prog 114 #[.slice A1 l1.length c1, .slice A2 l2.length c2] w fun e w' => ∃ v, e = .returned v ∧ OwnL w' w.heap.size 65 2 v ((normS fun i => memS l1 i && !memS l2 i).map rowN) ∧ Grew w w' := by
  have HC := Lib.hid (set_one A1 A2 c1 c2 l1 l2 w B hB hl1 hl2 hr1 hr2)
  clear hr1 hr2 hl1 hl2
  go_enter Tryz.func114, Tryz.ntmps114
  go_wp2_with fail
  refine HC.out.mono ?_
  rintro e w1 ⟨v, rfl, hown, g⟩
  go_wp2_with fail
  go_ret
  exact ⟨_, rfl, hown, g⟩
end Go.Proofs.YtnlaogneceanoaaGreat
namespace Go.Proofs.YtnlaogneceanoaaGreat
set_option linter.unusedVariables false
set_option linter.unusedSimpArgs false
set_option linter.unusedSectionVars false
open Go.RowKit
section
variable (A1 A2 : Option Addr) (c1 c2 : Nat) (l1 l2 : List (Int × Int)) (w : World) (B : Nat) (hB : B ≤ w.heap.size) (hl1 : l1.length ≤ 1000) (hl2 : l2.length ≤ 1000000) (hr1 : RunsAt w B A1 l1) (hr2 : RunsAt w B A2 l2) (n : Int) (n0 : -9223372036854775808 ≤ n) (n1 : n ≤ 9223372036854775807)
include hB hl1 hl2 hr1 hr2 n0 n1
set_option maxRecDepth 100000 in
set_option maxHeartbeats 4000000 in
theorem rextend_any : Calls Tryz.prog 125 #[.slice A1 l1.length c1, .slice A2 l2.length c2, .int .i64 n] w (AllocR w (extS l1 l2 n)) := by
  have HJ := Lib.hid (refjoin_any A1 c1 l1 w B hB (by omega) hr1)
  have hjl := joinS_len l1
  have hjb := joinS_bd l1
  by_cases h1 : n < 1
  · have HE := Lib.hid (show extS l1 l2 n = ([], 1) from by unfold extS; rw [if_pos (.inl h1)])
    go_enter Tryz.func125, Tryz.ntmps125
    go_wp2_with fail
    refine HJ.out.mono ?_
    rintro e w1 ⟨v, rfl, hown, g1⟩
    go_wp2_with fail
    go_returns
    rw [HE.out]
    exact ⟨_, rfl, OwnL.nil _ _ _ _, g1⟩
  obtain ⟨nn, rfl⟩ : ∃ nn : Nat, n = (nn : Int) := ⟨n.toNat, by omega⟩
  rcases last_cases (joinS l1) with h0 | ⟨I, x, hL⟩
  · have HE := Lib.hid (show extS l1 l2 (nn : Int) = ([], 1) from by unfold extS; rw [if_pos (.inr h0)])
    go_enter Tryz.func125, Tryz.ntmps125
    go_wp2_with fail
    refine HJ.out.mono ?_
    rintro e w1 ⟨v, rfl, hown, g1⟩
    rw [h0] at hown
    obtain ⟨A', c', hv, -⟩ := hown.listAt
    subst hv
    go_wp2_with fail
    go_returns
    rw [HE.out]
    exact ⟨_, rfl, OwnL.nil _ _ _ _, g1⟩
  have HEQ := Lib.hid (fun k h2 h3 h4 => extS_eq l1 l2 nn I x k hL (by omega) h2 h3 h4)
  have HBD := Lib.hid (fun k h => ext_bd I x (ints (extF (I ++ [x]) l2)) k (by rw [← hL]; exact hjb) h)
  rw [hL] at hjl hjb HJ
  have HJB := Lib.hid hjb
  have hIl : I.length + 1 ≤ 1000 := by simp at hjl; omega
  have HMIN := Lib.hid (fun (w1 : World) (g1 : Grew w w1) A c (h : RunsAt w1 w1.heap.size A (ints (I ++ [x]))) => rminus_any A2 A c2 c l2 (ints (I ++ [x])) w1 w1.heap.size (Nat.le_refl _) hl2 (by rw [ints_len]; simp; omega) (RunsAt.wide (hr2.keep hB g1) (Nat.le_trans hB g1.size)) h)
  clear hr1 hr2 hjl hjb hL
  go_enter Tryz.func125, Tryz.ntmps125
  go_wp2_with fail
  refine HJ.out.mono ?_
  rintro e w1 ⟨v, rfl, hown, g1⟩
  obtain ⟨A', c', hv', hrL, _, _, hA'⟩ := own_runs2 hown (fun r hr => Nat.le_trans (HJB.out r hr) (by omega))
  rcases hown.form with ⟨_, hn0⟩ | ⟨g, cap, hv, hg1, hg2, _, _⟩
  · exfalso; have := congrArg List.length hn0; simp at this
  rw [List.length_map, List.length_append, List.length_singleton] at hv
  rw [List.length_append, List.length_singleton, hv] at hv'
  injection hv' with e1 e2 e3
  subst e1; subst e3; subst hv
  have HM2 := Lib.hid (HMIN.out w1 g1 _ cap hrL)
  rw [ints_len, List.length_append, List.length_singleton] at HM2
  clear HMIN HJ hA' e2
  have hz0 : ((I.length : Int) + 1 == 0) = false := beq_eq_false_iff_ne.2 (by omega)
  have hnd : decide ((nn : Int) < 1) = false := decide_eq_false (by omega)
  have h1p : 1 ≤ nn := by omega
  go_wp2_with fail
  refine HM2.out.mono ?_
  rintro e w2 ⟨v2, rfl, hown2, g2⟩
  rw [show (normS fun i => memS l2 i && !memS (ints (I ++ [x])) i) = extF (I ++ [x]) l2 from rfl] at hown2
  obtain ⟨F, hF⟩ : ∃ F, extF (I ++ [x]) l2 = F := ⟨_, rfl⟩
  have hFb : ∀ r ∈ extF (I ++ [x]) l2, r.1 + r.2 ≤ 128 := normS_bd _
  have hFl : (extF (I ++ [x]) l2).length ≤ 128 := normS_len _
  rw [hF] at hown2 hFb hFl
  rw [hF] at HBD HEQ
  have HF := Lib.hid hF
  obtain ⟨AF, cF, hvF, hrF, _, _, hAF⟩ := own_runs2 hown2 (fun r hr => Nat.le_trans (hFb r hr) (by omega))
  subst hvF
  have hAF2 : ∀ b off, AF = some ⟨b, off, none⟩ → ¬ b = g := fun b off e => by have := (hAF b off e).1; omega
  have hownL := hown.grew g2
  have hG := g1.trans g2
  have hg2' : g < w2.heap.size := by have := g2.size; omega
  obtain ⟨xf, xc⟩ := x
  have hz : leftK F (xf + xc) 0 = F := by rw [← hF]; exact leftK_zero _ _
  have HX := Lib.hid (fun k (h : xf + (xc + k) ≤ 128) => leftK_ext I (xf, xc) l2 k h)
  rw [hF] at HX
  clear HM2 hF hown2 hAF hown hrL g1 g2
  go_wp2_with fail
  go_loopg [2, 9] nn (fun gk nv lv wr => ∃ k : Nat, k ≤ nn ∧ gk = nn - k ∧ nv = .int .i64 ((nn - k : Nat) : Int) ∧ (∀ j, j < k → memS (ints F) (xf + xc + j) = true) ∧ OwnL wr w.heap.size 65 2 (.slice (some ⟨g, 0, none⟩) (I.length + 1) cap) ((I ++ [(xf, xc + k)]).map rowN) ∧ (∃ A c, lv = .slice A (leftK F (xf + xc) k).length c ∧ RunsAt wr wr.heap.size A (ints (leftK F (xf + xc) k)) ∧ ∀ b off, A = some ⟨b, off, none⟩ → ¬ b = g) ∧ Turned (fun i => i = g) w2 wr)
  case atStart => exact ⟨0, by omega, by omega, by simp, fun j hj => by omega, hownL, ⟨AF, cF, by rw [hz], by rw [hz]; exact hrF, hAF2⟩, Turned.refl _ _⟩
  case round =>
    obtain ⟨k, hk, hgk, rfl, hall, hownk, ⟨AK, cK, rfl, hrK, hAK⟩, ht⟩ := hrel
    have HGK := Lib.hid hgk
    clear hgk
    have hrow : ((I ++ [(xf, xc + k)]).map rowN)[I.length]? = some (rowN (xf, xc + k)) := by simp
    have y0 : wr.cell? ⟨g, I.length * 2, none⟩ = some (.int .i64 (xf : Int)) := hownk.cell (i := 0) hrow rfl
    have y1 : wr.cell? ⟨g, I.length * 2 + 1, none⟩ = some (.int .i64 ((xc : Int) + (k : Int))) := by have := hownk.cell (i := 1) hrow rfl; rw [this]; rfl
    have yf1 := hownk.frozen (I.length * 2 + 1)
    have hbk : xf + (xc + k) ≤ 128 := HBD.out k hall (xf, xc + k) (by simp [extL])
    have hts := ht.size
    have hgw : g < wr.heap.size := by omega
    have hKl : (leftK F (xf + xc) k).length ≤ 128 := normS_len _
    have hIN : inT (ints (leftK F (xf + xc) k)) ((xf : Int) + ((xc : Int) + (k : Int))) = memS (ints F) (xf + xc + k) := by rw [show (xf : Int) + ((xc : Int) + (k : Int)) = ((xf + xc + k : Nat) : Int) by omega, inT_nat, leftK_at]
    have HSUC := Lib.hid (fun h => leftK_succ F (xf + xc) k h)
    have HXK := Lib.hid (HX.out k hbk)
    generalize leftK F (xf + xc) k = LK at *
    have hw : IntKind.i64.wrap ((xf : Int) + ((xc : Int) + (k : Int))) = (xf : Int) + ((xc : Int) + (k : Int)) := by rw [IntKind.wrap_i64]; omega
    obtain ⟨m, hm⟩ : ∃ m, nn - k = m := ⟨_, rfl⟩
    rw [hm]
    have HALL := Lib.hid hall
    have HOWN := Lib.hid hownk
    have HT := Lib.hid ht
    have HRK := Lib.hid hrK
    have HAK := Lib.hid hAK
    have HROW := Lib.hid hrow
    have HINX := Lib.hid hIN
    clear hall hownk ht hrK hAK hrow hIN
    by_cases hm0 : m = 0
    · have hkn : k = nn := by omega
      subst hm0
      have HE := Lib.hid (show extS l1 l2 (nn : Int) = (extL I (xf, xc) k, 0) from by rw [HEQ.out k hk HALL.out (.inl hkn)]; unfold extG; rw [if_pos hm])
      have hGx : Grew w wr := hG.turn HT.out (fun i hi => by omega)
      have HGX := Lib.hid hGx
      clear hm hkn hGx
      go_wp2_with fail
      refine wp_region_R [] (fun w' : World => w'.cell? ⟨g, I.length * 2, none⟩ = some (.int .i64 (xf : Int)) ∧ w'.cell? ⟨g, I.length * 2 + 1, none⟩ = some (.int .i64 ((xc : Int) + (k : Int)))) (by kernel_rfl) ?_
      have hS := (show (fun w' : World => w'.cell? ⟨g, I.length * 2, none⟩ = some (.int .i64 (xf : Int)) ∧ w'.cell? ⟨g, I.length * 2 + 1, none⟩ = some (.int .i64 ((xc : Int) + (k : Int)))) wr.drew from ⟨y0, y1⟩)
      refine wpAnyR_takeQ (i := 0) (v := ?_) (some 28) rfl rfl (by kernel_rfl) (by kernel_rfl) (by kernel_rfl) (by kernel_rfl) (fun _ _ _ h => h) (Or.inl ⟨by rfl, ?_⟩) ?_
      rotate_left
      focus (intro wS hSw; (try dsimp only at hSw); go_simp; (try with_reducible rfl); (try (first | (rw [if_pos (by omega)]; (try go_simp); (try with_reducible rfl)) | (rw [if_neg (by omega)]; (try go_simp); (try with_reducible rfl)))))
      try simp only [Act.put, zA, zB, zC]
      refine wpAnyR_takeQ (i := 1) (v := ?_) (some 29) rfl rfl (by kernel_rfl) (by kernel_rfl) (by kernel_rfl) (by kernel_rfl) (fun _ _ _ h => h) (Or.inl ⟨by rfl, ?_⟩) ?_
      rotate_left
      focus (intro wS hSw; (try dsimp only at hSw); go_simp; (try with_reducible rfl); (try (first | (rw [if_pos (by omega)]; (try go_simp); (try with_reducible rfl)) | (rw [if_neg (by omega)]; (try go_simp); (try with_reducible rfl)))))
      try simp only [Act.put, zA, zB, zC]
      refine wpAnyR_takeQ (i := 2) (v := ?_) (some 30) rfl rfl (by kernel_rfl) (by kernel_rfl) (by kernel_rfl) (by kernel_rfl) (fun _ _ _ h => h) (Or.inl ⟨by rfl, ?_⟩) ?_
      rotate_left
      focus (intro wS hSw; (try dsimp only at hSw); go_simp; (try with_reducible rfl); (try (first | (rw [if_pos (by omega)]; (try go_simp); (try with_reducible rfl)) | (rw [if_neg (by omega)]; (try go_simp); (try with_reducible rfl)))))
      try simp only [Act.put, zA, zB, zC]
      refine wpAnyR_takeQ (i := 3) (v := undef) (some 31) rfl rfl (by kernel_rfl) (by kernel_rfl) (by kernel_rfl) (by kernel_rfl) (fun _ _ _ h => h) (Or.inr ⟨by rfl, rfl⟩) ?_
      try simp only [Act.put, zA, zB, zC]
      refine wpAnyR_takeQ (i := 4) (v := undef) (some 32) rfl rfl (by kernel_rfl) (by kernel_rfl) (by kernel_rfl) (by kernel_rfl) (fun _ _ _ h => h) (Or.inr ⟨by rfl, rfl⟩) ?_
      try simp only [Act.put, zA, zB, zC]
      refine wpAnyR_takeQ (i := 5) (v := undef) (some 33) rfl rfl (by kernel_rfl) (by kernel_rfl) (by kernel_rfl) (by kernel_rfl) (fun _ _ _ h => h) (Or.inr ⟨by rfl, rfl⟩) ?_
      try simp only [Act.put, zA, zB, zC]
      refine wpAnyR_takeQ (i := 6) (v := undef) (some 34) rfl rfl (by kernel_rfl) (by kernel_rfl) (by kernel_rfl) (by kernel_rfl) (fun _ _ _ h => h) (Or.inr ⟨by rfl, rfl⟩) ?_
      try simp only [Act.put, zA, zB, zC]
      refine wpAnyR_takeQ (i := 7) (v := undef) (some 35) rfl rfl (by kernel_rfl) (by kernel_rfl) (by kernel_rfl) (by kernel_rfl) (fun _ _ _ h => h) (Or.inr ⟨by rfl, rfl⟩) ?_
      try simp only [Act.put, zA, zB, zC]
      refine wpAnyR_takeQ (i := 8) (v := undef) (some 36) rfl rfl (by kernel_rfl) (by kernel_rfl) (by kernel_rfl) (by kernel_rfl) (fun _ _ _ h => h) (Or.inr ⟨by rfl, rfl⟩) ?_
      try simp only [Act.put, zA, zB, zC]
      refine wpAnyR_takeQ (i := 9) (v := undef) (some 37) rfl rfl (by kernel_rfl) (by kernel_rfl) (by kernel_rfl) (by kernel_rfl) (fun _ _ _ h => h) (Or.inr ⟨by rfl, rfl⟩) ?_
      try simp only [Act.put, zA, zB, zC]
      refine wpAnyR_takeQ (i := 10) (v := undef) (some 38) rfl rfl (by kernel_rfl) (by kernel_rfl) (by kernel_rfl) (by kernel_rfl) (fun _ _ _ h => h) (Or.inr ⟨by rfl, rfl⟩) ?_
      try simp only [Act.put, zA, zB, zC]
      refine wpAnyR_takeQ (i := 11) (v := undef) (some 39) rfl rfl (by kernel_rfl) (by kernel_rfl) (by kernel_rfl) (by kernel_rfl) (fun _ _ _ h => h) (Or.inr ⟨by rfl, rfl⟩) ?_
      try simp only [Act.put, zA, zB, zC]
      refine wpAnyR_takeQ (i := 12) (v := undef) (some 40) rfl rfl (by kernel_rfl) (by kernel_rfl) (by kernel_rfl) (by kernel_rfl) (fun _ _ _ h => h) (Or.inr ⟨by rfl, rfl⟩) ?_
      try simp only [Act.put, zA, zB, zC]
      refine wpAnyR_takeQ (i := 13) (v := undef) (some 41) rfl rfl (by kernel_rfl) (by kernel_rfl) (by kernel_rfl) (by kernel_rfl) (fun _ _ _ h => h) (Or.inr ⟨by rfl, rfl⟩) ?_
      try simp only [Act.put, zA, zB, zC]
      refine wpAnyR_takeQ (i := 14) (v := undef) (some 42) rfl rfl (by kernel_rfl) (by kernel_rfl) (by kernel_rfl) (by kernel_rfl) (fun _ _ _ h => h) (Or.inr ⟨by rfl, rfl⟩) ?_
      try simp only [Act.put, zA, zB, zC]
      refine wpAnyR_takeQ (i := 15) (v := undef) (some 43) rfl rfl (by kernel_rfl) (by kernel_rfl) (by kernel_rfl) (by kernel_rfl) (fun _ _ _ h => h) (Or.inr ⟨by rfl, rfl⟩) ?_
      try simp only [Act.put, zA, zB, zC]
      refine wpAnyR_takeQ (i := 16) (v := ?_) (some 44) rfl rfl (by kernel_rfl) (by kernel_rfl) (by kernel_rfl) (by kernel_rfl) (fun _ _ _ h => h) (Or.inl ⟨by rfl, ?_⟩) ?_
      rotate_left
      focus (intro wS hSw; (try dsimp only at hSw); go_simp; (try with_reducible rfl); (try (first | (rw [if_pos (by omega)]; (try go_simp); (try with_reducible rfl)) | (rw [if_neg (by omega)]; (try go_simp); (try with_reducible rfl)))))
      try simp only [Act.put, zA, zB, zC]
      refine wpAnyR_done (by kernel_rfl) ?_ _
      go_wp2_with fail
      go_returns
      rw [HE.out]
      exact ⟨_, rfl, HOWN.out.drew, HGX.out.drew⟩
    have hmp : 0 < m := by omega
    cases hbb : memS (ints F) (xf + xc + k) with
    | true =>
      go_wp2_with fail
      refine wp_region_R [] (fun w' : World => w'.cell? ⟨g, I.length * 2, none⟩ = some (.int .i64 (xf : Int)) ∧ w'.cell? ⟨g, I.length * 2 + 1, none⟩ = some (.int .i64 ((xc : Int) + (k : Int)))) (by kernel_rfl) ?_
      have hS := (show (fun w' : World => w'.cell? ⟨g, I.length * 2, none⟩ = some (.int .i64 (xf : Int)) ∧ w'.cell? ⟨g, I.length * 2 + 1, none⟩ = some (.int .i64 ((xc : Int) + (k : Int)))) wr.drew from ⟨y0, y1⟩)
      refine wpAnyR_takeQ (i := 0) (v := ?_) (some 28) rfl rfl (by kernel_rfl) (by kernel_rfl) (by kernel_rfl) (by kernel_rfl) (fun _ _ _ h => h) (Or.inl ⟨by rfl, ?_⟩) ?_
      rotate_left
      focus (intro wS hSw; (try dsimp only at hSw); go_simp; (try with_reducible rfl); (try (first | (rw [if_pos (by omega)]; (try go_simp); (try with_reducible rfl)) | (rw [if_neg (by omega)]; (try go_simp); (try with_reducible rfl)))))
      try simp only [Act.put, zA, zB, zC]
      refine wpAnyR_takeQ (i := 1) (v := ?_) (some 29) rfl rfl (by kernel_rfl) (by kernel_rfl) (by kernel_rfl) (by kernel_rfl) (fun _ _ _ h => h) (Or.inl ⟨by rfl, ?_⟩) ?_
      rotate_left
      focus (intro wS hSw; (try dsimp only at hSw); go_simp; (try with_reducible rfl); (try (first | (rw [if_pos (by omega)]; (try go_simp); (try with_reducible rfl)) | (rw [if_neg (by omega)]; (try go_simp); (try with_reducible rfl)))))
      try simp only [Act.put, zA, zB, zC]
      refine wpAnyR_takeQ (i := 2) (v := ?_) (some 30) rfl rfl (by kernel_rfl) (by kernel_rfl) (by kernel_rfl) (by kernel_rfl) (fun _ _ _ h => h) (Or.inl ⟨by rfl, ?_⟩) ?_
      rotate_left
      focus (intro wS hSw; (try dsimp only at hSw); go_simp; (try with_reducible rfl); (try (first | (rw [if_pos (by omega)]; (try go_simp); (try with_reducible rfl)) | (rw [if_neg (by omega)]; (try go_simp); (try with_reducible rfl)))))
      try simp only [Act.put, zA, zB, zC]
      try rw [show decide ((m : Int) > 0) = true from decide_eq_true (by omega)]
      refine wpAnyR_takeQ (i := 3) (v := ?_) (some 31) rfl rfl (by kernel_rfl) (by kernel_rfl) (by kernel_rfl) (by kernel_rfl) (fun _ _ _ h => h) (Or.inl ⟨by rfl, ?_⟩) ?_
      rotate_left
      focus (intro wS hSw; (try dsimp only at hSw); go_simp; (try with_reducible rfl); (try (first | (rw [if_pos (by omega)]; (try go_simp); (try with_reducible rfl)) | (rw [if_neg (by omega)]; (try go_simp); (try with_reducible rfl)))))
      try simp only [Act.put, zA, zB, zC]
      refine wpAnyR_takeQ (i := 4) (v := ?_) (some 32) rfl rfl (by kernel_rfl) (by kernel_rfl) (by kernel_rfl) (by kernel_rfl) (fun _ _ _ h => h) (Or.inl ⟨by rfl, ?_⟩) ?_
      rotate_left
      focus (intro wS hSw; (try dsimp only at hSw); go_simp; (try with_reducible rfl); (try (first | (rw [if_pos (by omega)]; (try go_simp); (try with_reducible rfl)) | (rw [if_neg (by omega)]; (try go_simp); (try with_reducible rfl)))))
      try simp only [Act.put, zA, zB, zC]
      refine wpAnyR_takeQ (i := 5) (v := ?_) (some 33) rfl rfl (by kernel_rfl) (by kernel_rfl) (by kernel_rfl) (by kernel_rfl) (fun _ _ _ h => h) (Or.inl ⟨by rfl, ?_⟩) ?_
      rotate_left
      focus (intro wS hSw; (try dsimp only at hSw); go_simp; (try with_reducible rfl); (try (first | (rw [if_pos (by omega)]; (try go_simp); (try with_reducible rfl)) | (rw [if_neg (by omega)]; (try go_simp); (try with_reducible rfl)))))
      try simp only [Act.put, zA, zB, zC]
      refine wpAnyR_takeQ (i := 6) (v := ?_) (some 34) rfl rfl (by kernel_rfl) (by kernel_rfl) (by kernel_rfl) (by kernel_rfl) (fun _ _ _ h => h) (Or.inl ⟨by rfl, ?_⟩) ?_
      rotate_left
      focus (intro wS hSw; (try dsimp only at hSw); go_simp; (try with_reducible rfl); (try (first | (rw [if_pos (by omega)]; (try go_simp); (try with_reducible rfl)) | (rw [if_neg (by omega)]; (try go_simp); (try with_reducible rfl)))))
      try simp only [Act.put, zA, zB, zC]
      refine wpAnyR_takeQ (i := 7) (v := ?_) (some 35) rfl rfl (by kernel_rfl) (by kernel_rfl) (by kernel_rfl) (by kernel_rfl) (fun _ _ _ h => h) (Or.inl ⟨by rfl, ?_⟩) ?_
      rotate_left
      focus (intro wS hSw; (try dsimp only at hSw); go_simp; (try with_reducible rfl); (try (first | (rw [if_pos (by omega)]; (try go_simp); (try with_reducible rfl)) | (rw [if_neg (by omega)]; (try go_simp); (try with_reducible rfl)))))
      try simp only [Act.put, zA, zB, zC]
      refine wpAnyR_take (i := 8) (v := ?_) [14, 15, 16] (some 36) rfl rfl (by kernel_rfl) (by kernel_rfl) (by kernel_rfl) (by kernel_rfl) (by kernel_rfl) (by kernel_rfl) (by kernel_rfl) (fun _ _ _ h => h) (Or.inl ⟨by rfl, ?_⟩) hS ?_
      rotate_left
      focus (intro wS hSw; (try dsimp only at hSw); go_simp; (try with_reducible rfl); (try (first | (rw [if_pos (by omega)]; (try go_simp); (try with_reducible rfl)) | (rw [if_neg (by omega)]; (try go_simp); (try with_reducible rfl)))))
      try simp only [Act.put, zA, zB, zC]
      refine wpAnyR_takeQ (i := 9) (v := ?_) (some 37) rfl rfl (by kernel_rfl) (by kernel_rfl) (by kernel_rfl) (by kernel_rfl) (fun _ _ _ h => h) (Or.inl ⟨by rfl, ?_⟩) ?_
      rotate_left
      focus (intro wS hSw; (try dsimp only at hSw); go_simp; (try with_reducible rfl); (try (first | (rw [if_pos (by omega)]; (try go_simp); (try with_reducible rfl)) | (rw [if_neg (by omega)]; (try go_simp); (try with_reducible rfl)))))
      try simp only [Act.put, zA, zB, zC]
      refine wpAnyR_takeQ (i := 10) (v := ?_) (some 38) rfl rfl (by kernel_rfl) (by kernel_rfl) (by kernel_rfl) (by kernel_rfl) (fun _ _ _ h => h) (Or.inl ⟨by rfl, ?_⟩) ?_
      rotate_left
      focus (intro wS hSw; (try dsimp only at hSw); go_simp; (try with_reducible rfl); (try (first | (rw [if_pos (by omega)]; (try go_simp); (try with_reducible rfl)) | (rw [if_neg (by omega)]; (try go_simp); (try with_reducible rfl)))))
      try simp only [Act.put, zA, zB, zC]
      refine wpAnyR_takeQ (i := 11) (v := ?_) (some 39) rfl rfl (by kernel_rfl) (by kernel_rfl) (by kernel_rfl) (by kernel_rfl) (fun _ _ _ h => h) (Or.inl ⟨by rfl, ?_⟩) ?_
      rotate_left
      focus (intro wS hSw; (try dsimp only at hSw); go_simp; (try with_reducible rfl); (try (first | (rw [if_pos (by omega)]; (try go_simp); (try with_reducible rfl)) | (rw [if_neg (by omega)]; (try go_simp); (try with_reducible rfl)))))
      try simp only [Act.put, zA, zB, zC]
      refine wpAnyR_takeQ (i := 12) (v := ?_) (some 40) rfl rfl (by kernel_rfl) (by kernel_rfl) (by kernel_rfl) (by kernel_rfl) (fun _ _ _ h => h) (Or.inl ⟨by rfl, ?_⟩) ?_
      rotate_left
      focus (intro wS hSw; (try dsimp only at hSw); go_simp; (try with_reducible rfl); (try (first | (rw [if_pos (by omega)]; (try go_simp); (try with_reducible rfl)) | (rw [if_neg (by omega)]; (try go_simp); (try with_reducible rfl)))))
      try simp only [Act.put, zA, zB, zC]
      refine wpAnyR_take (i := 13) (v := ?_) [14, 15, 16] (some 41) rfl rfl (by kernel_rfl) (by kernel_rfl) (by kernel_rfl) (by kernel_rfl) (by kernel_rfl) (by kernel_rfl) (by kernel_rfl) (fun _ _ _ h => h) (Or.inl ⟨by rfl, ?_⟩) hS ?_
      rotate_left
      focus (intro wS hSw; (try dsimp only at hSw); go_simp; (try with_reducible rfl); (try (first | (rw [if_pos (by omega)]; (try go_simp); (try with_reducible rfl)) | (rw [if_neg (by omega)]; (try go_simp); (try with_reducible rfl)))))
      try simp only [Act.put, zA, zB, zC]
      refine wpAnyR_takeQ (i := 14) (v := ?_) (some 42) rfl rfl (by kernel_rfl) (by kernel_rfl) (by kernel_rfl) (by kernel_rfl) (fun _ _ _ h => h) (Or.inl ⟨by rfl, ?_⟩) ?_
      rotate_left
      focus (intro wS hSw; (try dsimp only at hSw); go_simp; (try with_reducible rfl); (try (first | (rw [if_pos (by omega)]; (try go_simp); (try with_reducible rfl)) | (rw [if_neg (by omega)]; (try go_simp); (try with_reducible rfl)))))
      try simp only [Act.put, zA, zB, zC]
      try rw [hw]
      refine wpAnyR_n1 (i := 15) rfl (by kernel_rfl) ?_
      intro K' hK
      rw [if_pos (by rfl)]
      simp only [List.getElem_toArray, List.getElem_cons_succ, List.getElem_cons_zero]
      go_wp2_with fail
      refine (in_val (w := wr.drew) (l := ints LK) (ints_len LK).symm (by rw [ints_len]; omega) HRK.out _ (by omega) (by omega) true (by rw [HINX.out, hbb])).mono ?_
      rintro e wb ⟨rfl, gb⟩
      go_wp2_with fail
      have q0 := (gb.cellEq _ _ hgw).trans y0
      have q1 := (gb.cellEq _ _ hgw).trans y1
      have qf := (gb.frozenEq _ _ hgw).trans yf1
      have hgwb : g < wb.heap.size := Nat.lt_of_lt_of_le hgw gb.size
      have gb' : Grew wr wb := (Grew.refl wr).drew.trans gb
      have hownb := HOWN.out.grew gb'
      have htb := HT.out.andGrew gb'
      refine hK.out _ _ (.inr (fun _ => ⟨q0, q1⟩)) ?_
      clear hK hS
      refine wpAnyR_takeQ (i := 16) (v := ?_) (some 44) rfl rfl (by kernel_rfl) (by kernel_rfl) (by kernel_rfl) (by kernel_rfl) (fun _ _ _ h => h) (Or.inl ⟨by rfl, ?_⟩) ?_
      rotate_left
      focus (intro wS hSw; (try dsimp only at hSw); go_simp; (try with_reducible rfl); (try (first | (rw [if_pos (by omega)]; (try go_simp); (try with_reducible rfl)) | (rw [if_neg (by omega)]; (try go_simp); (try with_reducible rfl)))))
      try simp only [Act.put, zA, zB, zC]
      refine wpAnyR_done (by kernel_rfl) ?_ _
      clear y0 y1 yf1
      have HBB := Lib.hid hbb
      have h128 : xf + xc + k < 128 := memS_lt _ _ hbb
      have HSU := Lib.hid (HSUC.out h128)
      clear hbb HSUC
      go_wp2_with fail
      refine wp_region_R [] (fun w' : World => w'.cell? ⟨g, I.length * 2, none⟩ = some (.int .i64 (xf : Int)) ∧ w'.cell? ⟨g, I.length * 2 + 1, none⟩ = some (.int .i64 ((xc : Int) + (k : Int)))) (by kernel_rfl) ?_
      have hS := (show (fun w' : World => w'.cell? ⟨g, I.length * 2, none⟩ = some (.int .i64 (xf : Int)) ∧ w'.cell? ⟨g, I.length * 2 + 1, none⟩ = some (.int .i64 ((xc : Int) + (k : Int)))) wb.drew from ⟨q0, q1⟩)
      refine wpAnyR_takeQ (i := 0) (v := ?_) (some 45) rfl rfl (by kernel_rfl) (by kernel_rfl) (by kernel_rfl) (by kernel_rfl) (fun _ _ _ h => h) (Or.inl ⟨by rfl, ?_⟩) ?_
      rotate_left
      focus (intro wS hSw; (try dsimp only at hSw); go_simp; (try with_reducible rfl); (try (first | (rw [if_pos (by omega)]; (try go_simp); (try with_reducible rfl)) | (rw [if_neg (by omega)]; (try go_simp); (try with_reducible rfl)))))
      try simp only [Act.put, zA, zB, zC]
      refine wpAnyR_takeQ (i := 1) (v := ?_) (some 46) rfl rfl (by kernel_rfl) (by kernel_rfl) (by kernel_rfl) (by kernel_rfl) (fun _ _ _ h => h) (Or.inl ⟨by rfl, ?_⟩) ?_
      rotate_left
      focus (intro wS hSw; (try dsimp only at hSw); go_simp; (try with_reducible rfl); (try (first | (rw [if_pos (by omega)]; (try go_simp); (try with_reducible rfl)) | (rw [if_neg (by omega)]; (try go_simp); (try with_reducible rfl)))))
      try simp only [Act.put, zA, zB, zC]
      refine wpAnyR_takeQ (i := 2) (v := ?_) (some 47) rfl rfl (by kernel_rfl) (by kernel_rfl) (by kernel_rfl) (by kernel_rfl) (fun _ _ _ h => h) (Or.inl ⟨by rfl, ?_⟩) ?_
      rotate_left
      focus (intro wS hSw; (try dsimp only at hSw); go_simp; (try with_reducible rfl); (try (first | (rw [if_pos (by omega)]; (try go_simp); (try with_reducible rfl)) | (rw [if_neg (by omega)]; (try go_simp); (try with_reducible rfl)))))
      try simp only [Act.put, zA, zB, zC]
      refine wpAnyR_takeQ (i := 3) (v := ?_) (some 48) rfl rfl (by kernel_rfl) (by kernel_rfl) (by kernel_rfl) (by kernel_rfl) (fun _ _ _ h => h) (Or.inl ⟨by rfl, ?_⟩) ?_
      rotate_left
      focus (intro wS hSw; (try dsimp only at hSw); go_simp; (try with_reducible rfl); (try (first | (rw [if_pos (by omega)]; (try go_simp); (try with_reducible rfl)) | (rw [if_neg (by omega)]; (try go_simp); (try with_reducible rfl)))))
      try simp only [Act.put, zA, zB, zC]
      refine wpAnyR_takeQ (i := 4) (v := ?_) (some 49) rfl rfl (by kernel_rfl) (by kernel_rfl) (by kernel_rfl) (by kernel_rfl) (fun _ _ _ h => h) (Or.inl ⟨by rfl, ?_⟩) ?_
      rotate_left
      focus (intro wS hSw; (try dsimp only at hSw); go_simp; (try with_reducible rfl); (try (first | (rw [if_pos (by omega)]; (try go_simp); (try with_reducible rfl)) | (rw [if_neg (by omega)]; (try go_simp); (try with_reducible rfl)))))
      try simp only [Act.put, zA, zB, zC]
      refine wpAnyR_take (i := 5) (v := ?_) [11, 12, 13, 14, 15] (some 50) rfl rfl (by kernel_rfl) (by kernel_rfl) (by kernel_rfl) (by kernel_rfl) (by kernel_rfl) (by kernel_rfl) (by kernel_rfl) (fun _ _ _ h => h) (Or.inl ⟨by rfl, ?_⟩) hS ?_
      rotate_left
      focus (intro wS hSw; (try dsimp only at hSw); go_simp; (try with_reducible rfl); (try (first | (rw [if_pos (by omega)]; (try go_simp); (try with_reducible rfl)) | (rw [if_neg (by omega)]; (try go_simp); (try with_reducible rfl)))))
      try simp only [Act.put, zA, zB, zC]
      refine wpAnyR_takeQ (i := 6) (v := ?_) (some 51) rfl rfl (by kernel_rfl) (by kernel_rfl) (by kernel_rfl) (by kernel_rfl) (fun _ _ _ h => h) (Or.inl ⟨by rfl, ?_⟩) ?_
      rotate_left
      focus (intro wS hSw; (try dsimp only at hSw); go_simp; (try with_reducible rfl); (try (first | (rw [if_pos (by omega)]; (try go_simp); (try with_reducible rfl)) | (rw [if_neg (by omega)]; (try go_simp); (try with_reducible rfl)))))
      try simp only [Act.put, zA, zB, zC]
      refine wpAnyR_takeQ (i := 7) (v := ?_) (some 52) rfl rfl (by kernel_rfl) (by kernel_rfl) (by kernel_rfl) (by kernel_rfl) (fun _ _ _ h => h) (Or.inl ⟨by rfl, ?_⟩) ?_
      rotate_left
      focus (intro wS hSw; (try dsimp only at hSw); go_simp; (try with_reducible rfl); (try (first | (rw [if_pos (by omega)]; (try go_simp); (try with_reducible rfl)) | (rw [if_neg (by omega)]; (try go_simp); (try with_reducible rfl)))))
      try simp only [Act.put, zA, zB, zC]
      refine wpAnyR_takeQ (i := 8) (v := ?_) (some 53) rfl rfl (by kernel_rfl) (by kernel_rfl) (by kernel_rfl) (by kernel_rfl) (fun _ _ _ h => h) (Or.inl ⟨by rfl, ?_⟩) ?_
      rotate_left
      focus (intro wS hSw; (try dsimp only at hSw); go_simp; (try with_reducible rfl); (try (first | (rw [if_pos (by omega)]; (try go_simp); (try with_reducible rfl)) | (rw [if_neg (by omega)]; (try go_simp); (try with_reducible rfl)))))
      try simp only [Act.put, zA, zB, zC]
      refine wpAnyR_takeQ (i := 9) (v := ?_) (some 54) rfl rfl (by kernel_rfl) (by kernel_rfl) (by kernel_rfl) (by kernel_rfl) (fun _ _ _ h => h) (Or.inl ⟨by rfl, ?_⟩) ?_
      rotate_left
      focus (intro wS hSw; (try dsimp only at hSw); go_simp; (try with_reducible rfl); (try (first | (rw [if_pos (by omega)]; (try go_simp); (try with_reducible rfl)) | (rw [if_neg (by omega)]; (try go_simp); (try with_reducible rfl)))))
      try simp only [Act.put, zA, zB, zC]
      refine wpAnyR_take (i := 10) (v := ?_) [11, 12, 13, 14, 15] (some 55) rfl rfl (by kernel_rfl) (by kernel_rfl) (by kernel_rfl) (by kernel_rfl) (by kernel_rfl) (by kernel_rfl) (by kernel_rfl) (fun _ _ _ h => h) (Or.inl ⟨by rfl, ?_⟩) hS ?_
      rotate_left
      focus (intro wS hSw; (try dsimp only at hSw); go_simp; (try with_reducible rfl); (try (first | (rw [if_pos (by omega)]; (try go_simp); (try with_reducible rfl)) | (rw [if_neg (by omega)]; (try go_simp); (try with_reducible rfl)))))
      try simp only [Act.put, zA, zB, zC]
      refine wpAnyR_takeQ (i := 11) (v := ?_) (some 56) rfl rfl (by kernel_rfl) (by kernel_rfl) (by kernel_rfl) (by kernel_rfl) (fun _ _ _ h => h) (Or.inl ⟨by rfl, ?_⟩) ?_
      rotate_left
      focus (intro wS hSw; (try dsimp only at hSw); go_simp; (try with_reducible rfl); (try (first | (rw [if_pos (by omega)]; (try go_simp); (try with_reducible rfl)) | (rw [if_neg (by omega)]; (try go_simp); (try with_reducible rfl)))))
      try simp only [Act.put, zA, zB, zC]
      refine wpAnyR_takeQ (i := 12) (v := ?_) (some 57) rfl rfl (by kernel_rfl) (by kernel_rfl) (by kernel_rfl) (by kernel_rfl) (fun _ _ _ h => h) (Or.inl ⟨by rfl, ?_⟩) ?_
      rotate_left
      focus (intro wS hSw; (try dsimp only at hSw); go_simp; (try with_reducible rfl); (try (first | (rw [if_pos (by omega)]; (try go_simp); (try with_reducible rfl)) | (rw [if_neg (by omega)]; (try go_simp); (try with_reducible rfl)))))
      try simp only [Act.put, zA, zB, zC]
      try rw [hw]
      refine wpAnyR_n1 (i := 13) rfl (by kernel_rfl) ?_
      intro K' hK
      rw [if_pos (by rfl)]
      simp only [List.getElem_toArray, List.getElem_cons_succ, List.getElem_cons_zero]
      go_wp2_with fail
      have gal := (Grew.refl wb).drew.alloc (.cells #[.int .i64 ((xf : Int) + ((xc : Int) + (k : Int))), .int .i64 1] 65)
      have hwq : wb.drew.heap.size = wb.heap.size := rfl
      have r8 : RunsAt (wb.drew.alloc (.cells #[.int .i64 ((xf : Int) + ((xc : Int) + (k : Int))), .int .i64 1] 65)) (wb.drew.alloc (.cells #[.int .i64 ((xf : Int) + ((xc : Int) + (k : Int))), .int .i64 1] 65)).heap.size (some ⟨wb.heap.size, 0, none⟩) [(((xf + xc + k : Nat) : Int), (1 : Int))] := by
        rw [show (xf : Int) + ((xc : Int) + (k : Int)) = ((xf + xc + k : Nat) : Int) by omega]
        exact blk_runs (Blk.new wb.drew _ _ rfl) rfl (by intro r hr; rw [List.mem_singleton.1 hr]; unfold okRun; simp only; omega)
      have rK := RunsAt.hold (HRK.out.hold gb') gal
      have hM := rminus_any AK (some ⟨wb.heap.size, 0, none⟩) cK 1 (ints LK) [(((xf + xc + k : Nat) : Int), (1 : Int))] _ _ (Nat.le_refl _) (by rw [ints_len]; omega) (by simp) rK r8
      rw [ints_len, HSU.out] at hM
      have HMI := Lib.hid hM
      have c0 := (gal.cellEq _ _ hgwb).trans q0
      have c1 := (gal.cellEq _ _ hgwb).trans q1
      have cf := (gal.frozenEq _ _ hgwb).trans qf
      have hgal := gal.size
      refine hK.out _ _ (.inr (fun _ => ⟨c0, c1⟩)) ?_
      clear hK hS hM
      refine wpAnyR_n1 (i := 14) rfl (by kernel_rfl) ?_
      intro K' hK
      rw [if_pos (by rfl)]
      simp only [List.getElem_toArray, List.getElem_cons_succ, List.getElem_cons_zero]
      go_wp2_with fail
      refine HMI.out.mono ?_
      rintro e wm ⟨v7, rfl, hown7, gm⟩
      obtain ⟨A7, c7, hv7, hr7, _, _, hA7⟩ := own_runs2 hown7 (fun r hr => Nat.le_trans (normS_bd _ r hr) (by omega))
      subst hv7
      have hgw7 : g < (wb.drew.alloc (.cells #[.int .i64 ((xf : Int) + ((xc : Int) + (k : Int))), .int .i64 1] 65)).heap.size := Nat.lt_of_lt_of_le hgwb gal.size
      have d0 := (gm.cellEq _ _ hgw7).trans c0
      have d1 := (gm.cellEq _ _ hgw7).trans c1
      have df := (gm.frozenEq _ _ hgw7).trans cf
      have hgwm : g < wm.heap.size := Nat.lt_of_lt_of_le hgw7 gm.size
      have hA8 : ∀ b off, A7 = some ⟨b, off, none⟩ → ¬ b = g := fun b off e => by have := (hA7 b off e).1; omega
      have hownm := (hownb.grew gal).grew gm
      have htm := (htb.andGrew gal).andGrew gm
      go_wp2_with fail
      refine hK.out _ _ (.inr (fun _ => ⟨d0, d1⟩)) ?_
      clear hK
      have hS := (show (fun w' : World => w'.cell? ⟨g, I.length * 2, none⟩ = some (.int .i64 (xf : Int)) ∧ w'.cell? ⟨g, I.length * 2 + 1, none⟩ = some (.int .i64 ((xc : Int) + (k : Int)))) wm from ⟨d0, d1⟩)
      refine wpAnyR_takeQ (i := 15) (v := ?_) (some 9) rfl rfl (by kernel_rfl) (by kernel_rfl) (by kernel_rfl) (by kernel_rfl) (fun _ _ _ h => h) (Or.inl ⟨by rfl, ?_⟩) ?_
      rotate_left
      focus (intro wS hSw; (try dsimp only at hSw); go_simp; (try with_reducible rfl); (try (first | (rw [if_pos (by omega)]; (try go_simp); (try with_reducible rfl)) | (rw [if_neg (by omega)]; (try go_simp); (try with_reducible rfl)))))
      try simp only [Act.put, zA, zB, zC]
      refine wpAnyR_done (by kernel_rfl) ?_ _
      clear q0 q1 qf c0 c1 cf hS hown7
      have HR7 := Lib.hid hr7
      have HA8 := Lib.hid hA8
      clear hr7 hA8 hA7
      have hsetown := hownm.set_ (i := 1) (o := I.length * 2 + 1) HROW.out (by omega) rfl (.int .i64 ((xc + (k + 1) : Nat) : Int))
      rw [rows_set', show (I ++ [(xf, xc + k)]).set I.length (xf, xc + (k + 1)) = I ++ [(xf, xc + (k + 1))] from by rw [List.set_append_right _ _ (Nat.le_refl _)]; simp] at hsetown
      have HST := Lib.hid hsetown
      have hq1' : (xc : Int) + (k : Int) + 1 = ((xc + (k + 1) : Nat) : Int) := by omega
      clear hsetown
      go_wp2_with fail
      go_roundg (nn - (k + 1))
      case measure => rw [HGK.out]; omega
      case rel => exact ⟨k + 1, by omega, by omega, by go_num, fun j hj => by (by_cases hjk : j = k); (· subst hjk; exact HBB.out); (· exact HALL.out j (by omega)), by have := HST.out; (first | exact this | (rw [hq1'] at *; exact this)), ⟨A7, c7, rfl, RunsAt.wide (HR7.out.turned (Nat.le_refl _) ((Turned.refl (fun i => i = g) wm).setCell (p := ⟨g, I.length * 2 + 1, none⟩) (fun _ => rfl) _) HA8.out) (by simp [World.setCell]), HA8.out⟩, by have := htm; (repeat' first | (with_reducible exact Turned.refl _ _) | (with_reducible assumption) | (with_reducible refine Turned.alloc ?_ _) | (with_reducible refine Turned.drew ?_) | (with_reducible refine Turned.drewN ?_ _) | (with_reducible refine Turned.setRow ?_ (by first | (simp; done) | (simp; omega) | omega) _) | (with_reducible refine Turned.setCell ?_ (by first | (simp; done) | (simp; omega) | omega) _) | ((with_reducible apply Turned.andGrew); rotate_left; (with_reducible assumption)) | ((with_reducible apply Turned.trans); rotate_left; (with_reducible assumption)) | fail)⟩
    | false =>
      go_wp2_with fail
      refine wp_region_R [] (fun w' : World => w'.cell? ⟨g, I.length * 2, none⟩ = some (.int .i64 (xf : Int)) ∧ w'.cell? ⟨g, I.length * 2 + 1, none⟩ = some (.int .i64 ((xc : Int) + (k : Int)))) (by kernel_rfl) ?_
      have hS := (show (fun w' : World => w'.cell? ⟨g, I.length * 2, none⟩ = some (.int .i64 (xf : Int)) ∧ w'.cell? ⟨g, I.length * 2 + 1, none⟩ = some (.int .i64 ((xc : Int) + (k : Int)))) wr.drew from ⟨y0, y1⟩)
      refine wpAnyR_takeQ (i := 0) (v := ?_) (some 28) rfl rfl (by kernel_rfl) (by kernel_rfl) (by kernel_rfl) (by kernel_rfl) (fun _ _ _ h => h) (Or.inl ⟨by rfl, ?_⟩) ?_
      rotate_left
      focus (intro wS hSw; (try dsimp only at hSw); go_simp; (try with_reducible rfl); (try (first | (rw [if_pos (by omega)]; (try go_simp); (try with_reducible rfl)) | (rw [if_neg (by omega)]; (try go_simp); (try with_reducible rfl)))))
      try simp only [Act.put, zA, zB, zC]
      refine wpAnyR_takeQ (i := 1) (v := ?_) (some 29) rfl rfl (by kernel_rfl) (by kernel_rfl) (by kernel_rfl) (by kernel_rfl) (fun _ _ _ h => h) (Or.inl ⟨by rfl, ?_⟩) ?_
      rotate_left
      focus (intro wS hSw; (try dsimp only at hSw); go_simp; (try with_reducible rfl); (try (first | (rw [if_pos (by omega)]; (try go_simp); (try with_reducible rfl)) | (rw [if_neg (by omega)]; (try go_simp); (try with_reducible rfl)))))
      try simp only [Act.put, zA, zB, zC]
      refine wpAnyR_takeQ (i := 2) (v := ?_) (some 30) rfl rfl (by kernel_rfl) (by kernel_rfl) (by kernel_rfl) (by kernel_rfl) (fun _ _ _ h => h) (Or.inl ⟨by rfl, ?_⟩) ?_
      rotate_left
      focus (intro wS hSw; (try dsimp only at hSw); go_simp; (try with_reducible rfl); (try (first | (rw [if_pos (by omega)]; (try go_simp); (try with_reducible rfl)) | (rw [if_neg (by omega)]; (try go_simp); (try with_reducible rfl)))))
      try simp only [Act.put, zA, zB, zC]
      try rw [show decide ((m : Int) > 0) = true from decide_eq_true (by omega)]
      refine wpAnyR_takeQ (i := 3) (v := ?_) (some 31) rfl rfl (by kernel_rfl) (by kernel_rfl) (by kernel_rfl) (by kernel_rfl) (fun _ _ _ h => h) (Or.inl ⟨by rfl, ?_⟩) ?_
      rotate_left
      focus (intro wS hSw; (try dsimp only at hSw); go_simp; (try with_reducible rfl); (try (first | (rw [if_pos (by omega)]; (try go_simp); (try with_reducible rfl)) | (rw [if_neg (by omega)]; (try go_simp); (try with_reducible rfl)))))
      try simp only [Act.put, zA, zB, zC]
      refine wpAnyR_takeQ (i := 4) (v := ?_) (some 32) rfl rfl (by kernel_rfl) (by kernel_rfl) (by kernel_rfl) (by kernel_rfl) (fun _ _ _ h => h) (Or.inl ⟨by rfl, ?_⟩) ?_
      rotate_left
      focus (intro wS hSw; (try dsimp only at hSw); go_simp; (try with_reducible rfl); (try (first | (rw [if_pos (by omega)]; (try go_simp); (try with_reducible rfl)) | (rw [if_neg (by omega)]; (try go_simp); (try with_reducible rfl)))))
      try simp only [Act.put, zA, zB, zC]
      refine wpAnyR_takeQ (i := 5) (v := ?_) (some 33) rfl rfl (by kernel_rfl) (by kernel_rfl) (by kernel_rfl) (by kernel_rfl) (fun _ _ _ h => h) (Or.inl ⟨by rfl, ?_⟩) ?_
      rotate_left
      focus (intro wS hSw; (try dsimp only at hSw); go_simp; (try with_reducible rfl); (try (first | (rw [if_pos (by omega)]; (try go_simp); (try with_reducible rfl)) | (rw [if_neg (by omega)]; (try go_simp); (try with_reducible rfl)))))
      try simp only [Act.put, zA, zB, zC]
      refine wpAnyR_takeQ (i := 6) (v := ?_) (some 34) rfl rfl (by kernel_rfl) (by kernel_rfl) (by kernel_rfl) (by kernel_rfl) (fun _ _ _ h => h) (Or.inl ⟨by rfl, ?_⟩) ?_
      rotate_left
      focus (intro wS hSw; (try dsimp only at hSw); go_simp; (try with_reducible rfl); (try (first | (rw [if_pos (by omega)]; (try go_simp); (try with_reducible rfl)) | (rw [if_neg (by omega)]; (try go_simp); (try with_reducible rfl)))))
      try simp only [Act.put, zA, zB, zC]
      refine wpAnyR_takeQ (i := 7) (v := ?_) (some 35) rfl rfl (by kernel_rfl) (by kernel_rfl) (by kernel_rfl) (by kernel_rfl) (fun _ _ _ h => h) (Or.inl ⟨by rfl, ?_⟩) ?_
      rotate_left
      focus (intro wS hSw; (try dsimp only at hSw); go_simp; (try with_reducible rfl); (try (first | (rw [if_pos (by omega)]; (try go_simp); (try with_reducible rfl)) | (rw [if_neg (by omega)]; (try go_simp); (try with_reducible rfl)))))
      try simp only [Act.put, zA, zB, zC]
      refine wpAnyR_take (i := 8) (v := ?_) [14, 15, 16] (some 36) rfl rfl (by kernel_rfl) (by kernel_rfl) (by kernel_rfl) (by kernel_rfl) (by kernel_rfl) (by kernel_rfl) (by kernel_rfl) (fun _ _ _ h => h) (Or.inl ⟨by rfl, ?_⟩) hS ?_
      rotate_left
      focus (intro wS hSw; (try dsimp only at hSw); go_simp; (try with_reducible rfl); (try (first | (rw [if_pos (by omega)]; (try go_simp); (try with_reducible rfl)) | (rw [if_neg (by omega)]; (try go_simp); (try with_reducible rfl)))))
      try simp only [Act.put, zA, zB, zC]
      refine wpAnyR_takeQ (i := 9) (v := ?_) (some 37) rfl rfl (by kernel_rfl) (by kernel_rfl) (by kernel_rfl) (by kernel_rfl) (fun _ _ _ h => h) (Or.inl ⟨by rfl, ?_⟩) ?_
      rotate_left
      focus (intro wS hSw; (try dsimp only at hSw); go_simp; (try with_reducible rfl); (try (first | (rw [if_pos (by omega)]; (try go_simp); (try with_reducible rfl)) | (rw [if_neg (by omega)]; (try go_simp); (try with_reducible rfl)))))
      try simp only [Act.put, zA, zB, zC]
      refine wpAnyR_takeQ (i := 10) (v := ?_) (some 38) rfl rfl (by kernel_rfl) (by kernel_rfl) (by kernel_rfl) (by kernel_rfl) (fun _ _ _ h => h) (Or.inl ⟨by rfl, ?_⟩) ?_
      rotate_left
      focus (intro wS hSw; (try dsimp only at hSw); go_simp; (try with_reducible rfl); (try (first | (rw [if_pos (by omega)]; (try go_simp); (try with_reducible rfl)) | (rw [if_neg (by omega)]; (try go_simp); (try with_reducible rfl)))))
      try simp only [Act.put, zA, zB, zC]
      refine wpAnyR_takeQ (i := 11) (v := ?_) (some 39) rfl rfl (by kernel_rfl) (by kernel_rfl) (by kernel_rfl) (by kernel_rfl) (fun _ _ _ h => h) (Or.inl ⟨by rfl, ?_⟩) ?_
      rotate_left
      focus (intro wS hSw; (try dsimp only at hSw); go_simp; (try with_reducible rfl); (try (first | (rw [if_pos (by omega)]; (try go_simp); (try with_reducible rfl)) | (rw [if_neg (by omega)]; (try go_simp); (try with_reducible rfl)))))
      try simp only [Act.put, zA, zB, zC]
      refine wpAnyR_takeQ (i := 12) (v := ?_) (some 40) rfl rfl (by kernel_rfl) (by kernel_rfl) (by kernel_rfl) (by kernel_rfl) (fun _ _ _ h => h) (Or.inl ⟨by rfl, ?_⟩) ?_
      rotate_left
      focus (intro wS hSw; (try dsimp only at hSw); go_simp; (try with_reducible rfl); (try (first | (rw [if_pos (by omega)]; (try go_simp); (try with_reducible rfl)) | (rw [if_neg (by omega)]; (try go_simp); (try with_reducible rfl)))))
      try simp only [Act.put, zA, zB, zC]
      refine wpAnyR_take (i := 13) (v := ?_) [14, 15, 16] (some 41) rfl rfl (by kernel_rfl) (by kernel_rfl) (by kernel_rfl) (by kernel_rfl) (by kernel_rfl) (by kernel_rfl) (by kernel_rfl) (fun _ _ _ h => h) (Or.inl ⟨by rfl, ?_⟩) hS ?_
      rotate_left
      focus (intro wS hSw; (try dsimp only at hSw); go_simp; (try with_reducible rfl); (try (first | (rw [if_pos (by omega)]; (try go_simp); (try with_reducible rfl)) | (rw [if_neg (by omega)]; (try go_simp); (try with_reducible rfl)))))
      try simp only [Act.put, zA, zB, zC]
      refine wpAnyR_takeQ (i := 14) (v := ?_) (some 42) rfl rfl (by kernel_rfl) (by kernel_rfl) (by kernel_rfl) (by kernel_rfl) (fun _ _ _ h => h) (Or.inl ⟨by rfl, ?_⟩) ?_
      rotate_left
      focus (intro wS hSw; (try dsimp only at hSw); go_simp; (try with_reducible rfl); (try (first | (rw [if_pos (by omega)]; (try go_simp); (try with_reducible rfl)) | (rw [if_neg (by omega)]; (try go_simp); (try with_reducible rfl)))))
      try simp only [Act.put, zA, zB, zC]
      try rw [hw]
      refine wpAnyR_n1 (i := 15) rfl (by kernel_rfl) ?_
      intro K' hK
      rw [if_pos (by rfl)]
      simp only [List.getElem_toArray, List.getElem_cons_succ, List.getElem_cons_zero]
      go_wp2_with fail
      refine (in_val (w := wr.drew) (l := ints LK) (ints_len LK).symm (by rw [ints_len]; omega) HRK.out _ (by omega) (by omega) false (by rw [HINX.out, hbb])).mono ?_
      rintro e wb ⟨rfl, gb⟩
      go_wp2_with fail
      have q0 := (gb.cellEq _ _ hgw).trans y0
      have q1 := (gb.cellEq _ _ hgw).trans y1
      have qf := (gb.frozenEq _ _ hgw).trans yf1
      have hgwb : g < wb.heap.size := Nat.lt_of_lt_of_le hgw gb.size
      have gb' : Grew wr wb := (Grew.refl wr).drew.trans gb
      have hownb := HOWN.out.grew gb'
      have htb := HT.out.andGrew gb'
      refine hK.out _ _ (.inr (fun _ => ⟨q0, q1⟩)) ?_
      clear hK hS
      refine wpAnyR_takeQ (i := 16) (v := ?_) (some 44) rfl rfl (by kernel_rfl) (by kernel_rfl) (by kernel_rfl) (by kernel_rfl) (fun _ _ _ h => h) (Or.inl ⟨by rfl, ?_⟩) ?_
      rotate_left
      focus (intro wS hSw; (try dsimp only at hSw); go_simp; (try with_reducible rfl); (try (first | (rw [if_pos (by omega)]; (try go_simp); (try with_reducible rfl)) | (rw [if_neg (by omega)]; (try go_simp); (try with_reducible rfl)))))
      try simp only [Act.put, zA, zB, zC]
      refine wpAnyR_done (by kernel_rfl) ?_ _
      clear y0 y1 yf1
      have hkn : k < nn := by omega
      have HEK := Lib.hid (HEQ.out k hk HALL.out (.inr hbb))
      have hGb : Grew w wb := hG.turn htb (fun i hi => by omega)
      have hb0 : ((m : Int) == 0) = false := beq_eq_false_iff_ne.2 (by omega)
      clear hbb q0 q1 qf
      have hA0 : extA I (xf, xc) l2 nn k = allocS (memS (ints LK)) (m : Int) (16 - ((I.length : Int) + 1)) := by unfold extA; rw [HF.out, hm, ← HXK.out]
      have H14 := Lib.hid (show (extA I (xf, xc) l2 nn k).2 ≠ 0 → extS l1 l2 (nn : Int) = ([], 14) from fun h => by
        rw [HEK.out]; unfold extG; rw [if_neg (by omega)]
        by_cases hmo : 16 - ((I.length : Int) + 1) < 1
        · rw [if_pos hmo]
        · rw [if_neg hmo, if_pos h]
          rcases alloc_ok (ints LK) (m : Int) (16 - ((I.length : Int) + 1)) (by omega) (by omega) with ⟨x, hx, _⟩ | ⟨hx, _⟩
          · rw [hA0, hx] at h; exact absurd rfl h
          · rw [hA0, hx])
      have H0 := Lib.hid (show (extA I (xf, xc) l2 nn k).2 = 0 → extS l1 l2 (nn : Int) = (joinS (ints (I ++ [(xf, xc + k)] ++ (extA I (xf, xc) l2 nn k).1)), 0) from fun h => by
        by_cases hmo : 16 - ((I.length : Int) + 1) < 1
        · rw [hA0] at h; unfold allocS at h; rw [if_pos (.inr hmo)] at h; exact absurd h (by decide)
        · rw [HEK.out]; unfold extG; rw [if_neg (by omega), if_neg hmo, if_neg (fun h' => h' h)]; rfl)
      have hbL : ∀ r ∈ I ++ [(xf, xc + k)], r.1 + r.2 ≤ 128 := HBD.out k HALL.out
      have hab := alloc_bd (memS (ints LK)) (m : Int) (16 - ((I.length : Int) + 1))
      have hal := alloc_len (memS (ints LK)) (m : Int) (16 - ((I.length : Int) + 1))
      rw [← hA0] at hab hal
      have hAL := ralloc_any AK cK (ints LK) wb wb.heap.size (Nat.le_refl _) (by rw [ints_len]; omega) (HRK.out.hold gb') (m : Int) (by omega) (by omega) (16 - ((I.length : Int) + 1))
      rw [← hA0, ints_len] at hAL
      have HALX := Lib.hid hAL
      have HAB := Lib.hid hab
      clear hAL hA0 hab
      go_wp2_with fail
      refine HALX.out.mono ?_
      rintro e wd ⟨v4, rfl, hown4, gd⟩
      have hownd := hownb.grew gd
      have hGd := hGb.trans gd
      have hgsz := hGd.size
      obtain ⟨A4, c4, hv4, _, _, hl4⟩ := hown4.listAt
      rw [List.length_map] at hv4
      subst hv4
      clear HALX gd
      generalize extA I (xf, xc) l2 nn k = a at *
      obtain ⟨al, ae⟩ := a
      simp only at hal HAB hl4
      by_cases hae : ae = 0
      rotate_left
      · have HE := Lib.hid (H14.out hae)
        have hne : (ae != 0) = true := bne_iff_ne.2 hae
        have HGX := Lib.hid hGd
        clear hGd hae
        go_wp2_with fail
        go_returns
        rw [HE.out]
        exact ⟨_, rfl, OwnL.nil _ _ _ _, HGX.out⟩
      · have HE := Lib.hid (H0.out hae)
        subst hae
        have hLl : ((I ++ [(xf, xc + k)]).map rowN).length = I.length + 1 := by simp
        go_wp2_with (at_builtin; refine wpList_pushAll (by rfl) _ _ 29 rfl w.heap.size 65 2 16 _ Tryz.underlying29 info_run rfl (by decide) _ ((I ++ [(xf, xc + k)]).map rowN) (al.map rowN) (by rfl) hownd _ al.length _ (by rfl) (by rw [List.length_map]) (rowN_len al) hl4 (rowN_one al) (by rw [hLl]; omega) (by rw [hLl]; omega) hgsz ?_; intro v5 w5 hown5 hgr5 hat5)
        have g5 : Grew w w5 := Grew.own hGd hgr5 hownd.row_ge (Nat.le_refl _)
        rw [← List.map_append] at hown5
        have hb5 : ∀ r ∈ I ++ [(xf, xc + k)] ++ al, r.1 + r.2 ≤ 128 := fun r hr => (List.mem_append.1 hr).elim (hbL r) (HAB.out r)
        obtain ⟨A6, c6, hv6, hr6, _, _, _⟩ := own_runs2 hown5 (fun r hr => Nat.le_trans (hb5 r hr) (by omega))
        subst hv6
        have hjn := refjoin_any A6 c6 (ints (I ++ [(xf, xc + k)] ++ al)) w5 w5.heap.size (Nat.le_refl _) (by rw [ints_len, List.length_append, List.length_append, List.length_singleton]; omega) hr6
        rw [ints_len] at hjn
        have HJN := Lib.hid hjn
        clear hjn hgr5 hat5 hown5 hownd hGd hl4 hown4 hr6
        go_wp2_with fail
        refine HJN.out.mono ?_
        rintro e w6 ⟨v6, rfl, hown6, g6⟩
        go_wp2_with fail
        go_returns
        rw [HE.out]
        exact ⟨_, rfl, hown6.mono g5.size, g5.trans g6⟩
end
end Go.Proofs.YtnlaogneceanoaaGreat
namespace Go.Proofs.YtnlaogneceanoaaGreat
set_option linter.unusedVariables false
set_option linter.unusedSimpArgs false
set_option linter.unusedSectionVars false
open Go.RowKit
theorem extS_len (e f : List (Int × Int)) (n : Int) (h : e.length ≤ 500) : (extS e f n).1.length ≤ 1000 := by
  rcases extS_cases e f n with h0 | ⟨I, x, k, hL, _, _, _, _, h0⟩
  · rw [h0]; exact Nat.zero_le _
  · have hl := joinS_len e
    rw [hL, List.length_append, List.length_singleton] at hl
    rw [h0]
    unfold extG
    split
    · show (I ++ [(x.1, x.2 + k)]).length ≤ 1000
      rw [List.length_append, List.length_singleton]; omega
    · split
      · exact Nat.zero_le _
      · split
        · exact Nat.zero_le _
        · refine Nat.le_trans (joinS_len _) ?_
          rw [ints_len, List.length_append]
          have h1 : (extL I x k).length = I.length + 1 := by unfold extL; rw [List.length_append, List.length_singleton]
          have h2 : (extA I x f n.toNat k).1.length ≤ 128 := alloc_len _ _ _
          omega
end Go.Proofs.YtnlaogneceanoaaGreat
namespace Go.Proofs.YtnlaogneceanoaaGreat
set_option linter.unusedVariables false
set_option linter.unusedSimpArgs false
set_option linter.unusedSectionVars false
open Go.RowKit
section
variable {A : Option Addr} {c m : Nat} {l : List (Int × Int)} {w : World}
theorem rextend_new {A2 : Option Addr} {c2 m2 : Nat} {l2 : List (Int × Int)} (hn1 : m = l.length) (hn2 : m2 = l2.length) (hl1 : l.length ≤ 1000) (hl2 : l2.length ≤ 1000000) (hr1 : RunsAt w w.heap.size A l) (hr2 : RunsAt w w.heap.size A2 l2) (n : Int) (n0 : -9223372036854775808 ≤ n) (n1 : n ≤ 9223372036854775807) (k : List (Int × Int)) (er : Int) (hk : ints (extS l l2 n).1 = k) (he : (extS l l2 n).2 = er) :
    Calls Tryz.prog 125 #[.slice A m c, .slice A2 m2 c2, .int .i64 n] w fun e w' => ∃ A c, e = .returned (.tuple #[.slice A k.length c, .int .i64 er]) ∧ NewRuns w w' A c k ∧ Grew w w' := by
  subst hn1; subst hn2; subst he
  refine (rextend_any A A2 c c2 l l2 w w.heap.size (Nat.le_refl _) hl1 hl2 hr1 hr2 n n0 n1).mono ?_
  rintro e w1 ⟨v, rfl, hown, g1⟩
  obtain ⟨A', c', hv, hr'⟩ := NewRuns.of_own hown (extS_bd _ _ _) hk
  exact ⟨A', c', by rw [hv], hr', g1⟩
theorem ralloc_new (hn : m = l.length) (hl : l.length ≤ 1000000) (hr : RunsAt w w.heap.size A l) (n : Int) (n0 : -9223372036854775808 ≤ n) (n1 : n ≤ 9223372036854775807) (most : Int) (k : List (Int × Int)) (er : Int) (hk : ints (allocS (memS l) n most).1 = k) (he : (allocS (memS l) n most).2 = er) :
    Calls Tryz.prog 122 #[.slice A m c, .int .i64 n, .int .i64 most] w fun e w' => ∃ A c, e = .returned (.tuple #[.slice A k.length c, .int .i64 er]) ∧ NewRuns w w' A c k ∧ Grew w w' := by
  subst hn; subst he
  refine (ralloc_any A c l w w.heap.size (Nat.le_refl _) hl hr n n0 n1 most).mono ?_
  rintro e w1 ⟨v, rfl, hown, g1⟩
  obtain ⟨A', c', hv, hr'⟩ := NewRuns.of_own hown (alloc_bd _ _ _) hk
  exact ⟨A', c', by rw [hv], hr', g1⟩
set_option maxRecDepth 100000 in
set_option maxHeartbeats 4000000 in
theorem rrelease_new (hn : m = l.length) (hl : l.length ≤ 1000) (hr : RunsAt w w.heap.size A l) (keep : Int) (n0 : -9223372036854775808 ≤ keep) (n1 : keep ≤ 9223372036854775807) (ka : List (Int × Int)) (er : Int) (ha : relA l keep = ka) (he : relE l keep = er) :
    Calls Tryz.prog 126 #[.slice A m c, .int .i64 keep] w fun e w' => ∃ A1 c1 A2 n2 c2, e = .returned (.tuple #[.slice A1 ka.length c1, .slice A2 n2 c2, .int .i64 er]) ∧ NewRuns w w' A1 c1 ka ∧ Grew w w' := by
  subst hn
  have hG := Grew.refl w
  have hsl := sizeS_le l
  by_cases h1 : keep < 1
  · have e1 : ka = [] := by rw [← ha]; unfold relA; rw [if_pos (.inl h1)]
    have e3 : er = 2 := by rw [← he]; unfold relE; rw [if_pos (.inl h1)]
    clear ha he
    subst e1; subst e3
    go_enter Tryz.func126, Tryz.ntmps126
    go_wp2_with fail
    go_returns
    exact ⟨none, 0, none, 0, 0, rfl, NewRuns.nil _ _, hG⟩
  by_cases h2 : (sizeS l : Int) < keep
  · have e1 : ka = [] := by rw [← ha]; unfold relA; rw [if_pos (.inr h2)]
    have e3 : er = 2 := by rw [← he]; unfold relE; rw [if_pos (.inr h2)]
    clear ha he
    subst e1; subst e3
    go_enter Tryz.func126, Tryz.ntmps126
    go_wp2_with fail
    refine (seq_val rfl (by omega) hr (sizeS l) rfl).mono ?_
    rintro e ws ⟨As, cs, rfl, gs⟩
    replace hr := hr.hold gs
    replace hG := hG.trans gs
    clear gs
    go_wp2_with fail
    go_returns
    exact ⟨none, 0, none, 0, 0, rfl, NewRuns.nil _ _, hG⟩
  have h3 : ¬ (keep < 1 ∨ (sizeS l : Int) < keep) := fun h => h.elim h1 h2
  have e3 : er = 0 := by rw [← he]; unfold relE; rw [if_neg h3]
  have hk1 : ints (joinS (ints (cutA l keep.toNat))) = ka := by rw [← ha]; unfold relA; rw [if_neg h3]
  have hl1 : ka.length ≤ l.length := by have := joinS_len (ints (cutA l keep.toNat)); rw [← hk1, ints_len]; rw [ints_len, cutA_len] at this; exact this
  obtain ⟨k2, hk2⟩ : ∃ k, ints (joinS (ints (cutB l keep.toNat))) = k := ⟨_, rfl⟩
  have hl2 : k2.length ≤ l.length := by have := joinS_len (ints (cutB l keep.toNat)); rw [← hk2, ints_len]; rw [ints_len, cutB_len] at this; exact this
  have HK1 := Lib.hid hk1
  have HK2 := Lib.hid hk2
  clear ha he hk1 hk2 h3
  subst e3
  go_enter Tryz.func126, Tryz.ntmps126
  go_wp2_with fail
  refine (seq_val rfl (by omega) hr (sizeS l) rfl).mono ?_
  rintro e ws ⟨As, cs, rfl, gs⟩
  replace hr := hr.hold gs
  replace hG := hG.trans gs
  clear gs
  have HS0 := Lib.hid hG.size
  go_wp2_with fail
  refine (refcut_any A c l ws ws.heap.size (Nat.le_refl _) (by omega) hr keep keep.toNat n0 n1 rfl).mono ?_
  rintro e w3 ⟨v1, v2, rfl, ho1, ho2, g3⟩
  obtain ⟨A1, c1, hv1, hnr1⟩ := NewRuns.of_own ho1 (joinS_bd _) HK1.out
  obtain ⟨A2, c2, hv2, hnr2⟩ := NewRuns.of_own ho2 (joinS_bd _) HK2.out
  subst hv1; subst hv2
  have r1 := hnr1.1
  have r2 := hnr2.1
  have HN1 := Lib.hid (show NewRuns w w3 A1 c1 ka from ⟨hnr1.1, hnr1.2.1, hnr1.2.2.1, fun b off e => Nat.le_trans HS0.out (hnr1.2.2.2 b off e)⟩)
  replace hG := hG.trans g3
  clear ho1 ho2 hnr1 hnr2 g3 hr
  go_wp2_with fail
  refine (rminus_val rfl rfl (by omega) (by omega) r2 r1 _ rfl).mono ?_
  rintro e w4 ⟨A3, c3, rfl, r3, g4⟩
  go_wp2_with fail
  go_returns
  exact ⟨_, _, _, _, _, rfl, HN1.out.hold g4, hG.trans g4⟩
end
end Go.Proofs.YtnlaogneceanoaaGreat
