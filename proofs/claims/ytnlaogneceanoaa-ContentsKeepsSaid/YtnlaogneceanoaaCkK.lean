/- Chapter 8: Extend, Release, Replace, Confirm, Note, Remove. Chapter 8: Create. Chapter 8: Sector, on both sides; awake's tables. Chapter 8: awake. Chapter 8: the reference's Create. Chapter 8: a change by its number, on both sides. Chapter 8: the references of a table: their comparison, the sort by it. Chapter 8, plain: what Confirm does to the labels of a valid table. -/
import Derived.IntWalk
import Derived.Shelf.SlSortCmp.NoneTotal
import Derived.Shelf.SlSortCmp.WholeK
import Derived.Test.YtnlaogneceanoaaCkA
import Derived.Test.YtnlaogneceanoaaCkB
import Derived.Test.YtnlaogneceanoaaCkD
import Derived.Test.YtnlaogneceanoaaCkF
import Derived.Test.YtnlaogneceanoaaCkG
import Derived.Test.YtnlaogneceanoaaCkH
import Derived.Test.YtnlaogneceanoaaCkJ
namespace Go.Proofs.Ytnlaogneceanoaa
set_option linter.unusedVariables false
set_option linter.unusedSimpArgs false
set_option linter.unusedSectionVars false
open Go.RowKit
attribute [local go_sem ↓] Go.wp_at_zero Go.wp_at_succ
theorem TabAt.turned {S : Nat → Prop} {w w' : World} {A : Option Addr} {c : Nat} {xs : List LabE} {T : Tab} (h : TabAt w A c xs T) (ht : Turned S w w') (h1 : 0 < xs.length → ∀ b off, A = some ⟨b, off, none⟩ → ¬ S b) (h2 : ∀ x ∈ xs, 0 < x.l.ext.length → ∀ b off, x.A = some ⟨b, off, none⟩ → ¬ S b) : TabAt w' A c xs T :=
  ⟨fun x hx => (h.lab x hx).turned ht (h2 x hx), fun h0 => by
    obtain ⟨b, off, e, hb, hc⟩ := h.rows h0
    exact ⟨b, off, e, Nat.lt_of_lt_of_le hb ht.size, fun j cs hj i v hi => by rw [ht.cellEq _ _ hb (h1 (by simpa using h0) b off e)]; exact hc j cs hj i v hi⟩, h.len, h.cap, h.eq, h.tr0, h.tr1, h.name⟩
/-- A table is apart from a variable that holds one. -/
theorem TabAt.apart {w w' : World} {A : Option Addr} {c : Nat} {xs : List LabE} {T : Tab} (h : TabAt w A c xs T) {g : Nat} {t : TypeId} {s : ByteArray} {i : Int} {a : Option Addr} {n d : Nat} (hb : Blk w g t #[.string s, .int .i64 i, .slice a n d]) (ht : Turned (fun x => x = g) w w') : TabAt w' A c xs T := by
  refine h.turned ht (fun h0 b off e => ?_) (fun x hx h0 b off e => runs_ne_tab (h.lab x hx).runs h0 hb b off e)
  rintro rfl
  obtain ⟨b', off', e', hb', hc⟩ := h.rows (by simpa using h0)
  rw [e] at e'
  injection e' with e'
  injection e' with e1 e2 _
  subst e1; subst e2
  have hr : (xs.map labC)[0]? = some (labC xs[0]) := by rw [List.getElem?_map, List.getElem?_eq_getElem h0]; rfl
  have c0 := hc 0 _ hr 0 _ rfl
  have c1 := hc 0 _ hr 1 _ rfl
  rw [Nat.zero_mul, Nat.add_zero, hb.cell] at c0 c1
  match off with
  | 0 => simp at c0
  | 1 => simp at c1
  | 2 => simp at c0
  | off + 3 => simp at c0
section
variable (A : Option Addr) (c : Nat) (xs : List LabE) (T : Tab) (id unit : Int) (w : World)
set_option maxRecDepth 100000 in
set_option maxHeartbeats 4000000 in
theorem extend_tab (h : TabAt w A c xs T) (hs : SmallT T) (n : Int) (n0 : -9223372036854775808 ≤ n) (n1 : n ≤ 9223372036854775807) (T' : Tab) (er : Int) (hr : chgT T id unit (chExt T n) = (T', er)) :
    Calls Try.prog 48 #[.agg #[.string T.name, .int .i64 T.tracks, .slice A T.labels.length c], .agg #[.int .i64 id, .int .i64 unit], .int .i64 n] w (TabR w T' er) := by
  have hg0 := ((((Grew.refl w).alloc (.cells #[.string T.name, .int .i64 T.tracks, .slice A T.labels.length c] 34)).alloc (.cells #[.int .i64 id, .int .i64 unit] 37)).alloc (.cells #[.int .i64 n] 3)).alloc (.cells #[.string ⟨#[]⟩, .int .i64 0, .slice none 0 0] 34)
  have hb0 := (((Blk.new w 34 #[.string T.name, .int .i64 T.tracks, .slice A T.labels.length c] rfl).alloc (.cells #[.int .i64 id, .int .i64 unit] 37)).alloc (.cells #[.int .i64 n] 3)).alloc (.cells #[.string ⟨#[]⟩, .int .i64 0, .slice none 0 0] 34)
  have hr0 := ((Blk.new (w.alloc (.cells #[.string T.name, .int .i64 T.tracks, .slice A T.labels.length c] 34)) 37 #[.int .i64 id, .int .i64 unit] (n := w.heap.size + 1) (by simp)).alloc (.cells #[.int .i64 n] 3)).alloc (.cells #[.string ⟨#[]⟩, .int .i64 0, .slice none 0 0] 34)
  have hn0 := (Blk.new ((w.alloc (.cells #[.string T.name, .int .i64 T.tracks, .slice A T.labels.length c] 34)).alloc (.cells #[.int .i64 id, .int .i64 unit] 37)) 3 #[.int .i64 n] (n := w.heap.size + 2) (by simp)).alloc (.cells #[.string ⟨#[]⟩, .int .i64 0, .slice none 0 0] 34)
  have hz0 := Blk.new (((w.alloc (.cells #[.string T.name, .int .i64 T.tracks, .slice A T.labels.length c] 34)).alloc (.cells #[.int .i64 id, .int .i64 unit] 37)).alloc (.cells #[.int .i64 n] 3)) 34 #[.string ⟨#[]⟩, .int .i64 0, .slice none 0 0] (n := w.heap.size + 3) (by simp)
  have h0 := h.hold hg0
  have HC := Lib.hid (change_ext A c xs T id unit _ w.heap.size (w.heap.size + 2) h0 hs (chExt T n) (fun w1 base g cap xo ys k hk _ ho => extend1_any _ w1 base g cap xo ys T k hk ho A c xs h0 hs n n0 n1 _ _ hb0 hn0) T' er hr)
  have HG0 := Lib.hid hg0
  have HZ0 := Lib.hid hz0
  clear h hs hg0 hb0 hr0 hn0 hz0 h0 
  go_enter Try.func48, Try.ntmps48
  go_wp2_with fail
  refine HC.out.mono ?_
  rintro e w1 ⟨A1, c1, xs1, rfl, ht1, g1⟩
  have hz1 := HZ0.out.grew g1
  have z0 := hz1.cell 0
  have z1 := hz1.cell 1
  have z2 := hz1.cell 2
  have f0 := hz1.frozen 0
  have f1 := hz1.frozen 1
  have f2 := hz1.frozen 2
  have hzl := hz1.lt
  have hg1 := HG0.out.trans g1
  have HT1 := Lib.hid (fun w2 (ht : Turned (fun x => x = w.heap.size + 3) w1 w2) => ht1.apart hz1 ht)
  clear hz1 g1 ht1
  go_wp2_with fail
  refine bodyPost_ret (by first | (simp [*, results, Try.results48, go_sem]; rfl) | simp [*, results, Try.results48, go_sem]) rfl ?_
  exact ⟨A1, c1, xs1, rfl, HT1.out _ (by (repeat' first | (with_reducible exact Turned.refl _ _) | (with_reducible assumption) | (with_reducible refine Turned.alloc ?_ _) | (with_reducible refine Turned.drew ?_) | (with_reducible refine Turned.drewN ?_ _) | (with_reducible refine Turned.setRow ?_ (by first | (simp; done) | (simp; omega) | omega) _) | (with_reducible refine Turned.setCell ?_ (by first | (simp; done) | (simp; omega) | omega) _) | ((with_reducible apply Turned.andGrew); rotate_left; (with_reducible assumption)) | ((with_reducible apply Turned.trans); rotate_left; (with_reducible assumption)) | fail)), by (repeat' first | (with_reducible exact Grew.refl _) | (with_reducible assumption) | (with_reducible refine Grew.alloc ?_ _) | (with_reducible refine Grew.drew ?_) | (with_reducible refine Grew.drewN ?_ _) | (with_reducible refine Grew.setRow ?_ (by first | (simp; done) | (simp; omega) | omega) _) | (with_reducible refine Grew.setCell ?_ (by first | (simp; done) | (simp; omega) | omega) _) | ((with_reducible apply Grew.trans); rotate_left; (with_reducible assumption)) | ((with_reducible apply Grew.turn); rotate_left; (with_reducible assumption); (focus (intro i hi; first | omega | (simp at hi; omega)))) | fail)⟩
set_option maxRecDepth 100000 in
set_option maxHeartbeats 4000000 in
theorem release_tab (h : TabAt w A c xs T) (hs : SmallT T) (n : Int) (n0 : -9223372036854775808 ≤ n) (n1 : n ≤ 9223372036854775807) (T' : Tab) (er : Int) (hr : chgT T id unit (chRel T n) = (T', er)) :
    Calls Try.prog 49 #[.agg #[.string T.name, .int .i64 T.tracks, .slice A T.labels.length c], .agg #[.int .i64 id, .int .i64 unit], .int .i64 n] w (TabR w T' er) := by
  have hg0 := ((((Grew.refl w).alloc (.cells #[.string T.name, .int .i64 T.tracks, .slice A T.labels.length c] 34)).alloc (.cells #[.int .i64 id, .int .i64 unit] 37)).alloc (.cells #[.int .i64 n] 3)).alloc (.cells #[.string ⟨#[]⟩, .int .i64 0, .slice none 0 0] 34)
  have hb0 := (((Blk.new w 34 #[.string T.name, .int .i64 T.tracks, .slice A T.labels.length c] rfl).alloc (.cells #[.int .i64 id, .int .i64 unit] 37)).alloc (.cells #[.int .i64 n] 3)).alloc (.cells #[.string ⟨#[]⟩, .int .i64 0, .slice none 0 0] 34)
  have hr0 := ((Blk.new (w.alloc (.cells #[.string T.name, .int .i64 T.tracks, .slice A T.labels.length c] 34)) 37 #[.int .i64 id, .int .i64 unit] (n := w.heap.size + 1) (by simp)).alloc (.cells #[.int .i64 n] 3)).alloc (.cells #[.string ⟨#[]⟩, .int .i64 0, .slice none 0 0] 34)
  have hn0 := (Blk.new ((w.alloc (.cells #[.string T.name, .int .i64 T.tracks, .slice A T.labels.length c] 34)).alloc (.cells #[.int .i64 id, .int .i64 unit] 37)) 3 #[.int .i64 n] (n := w.heap.size + 2) (by simp)).alloc (.cells #[.string ⟨#[]⟩, .int .i64 0, .slice none 0 0] 34)
  have hz0 := Blk.new (((w.alloc (.cells #[.string T.name, .int .i64 T.tracks, .slice A T.labels.length c] 34)).alloc (.cells #[.int .i64 id, .int .i64 unit] 37)).alloc (.cells #[.int .i64 n] 3)) 34 #[.string ⟨#[]⟩, .int .i64 0, .slice none 0 0] (n := w.heap.size + 3) (by simp)
  have h0 := h.hold hg0
  have HC := Lib.hid (change_rel A c xs T id unit _ (w.heap.size + 2)  h0 hs (chRel T n) (fun w1 base g cap xo ys k hk _ ho => release1_any _ w1 base g cap xo ys T k hk ho hs n n0 n1 _ hn0) T' er hr)
  have HG0 := Lib.hid hg0
  have HZ0 := Lib.hid hz0
  clear h hs hg0 hb0 hr0 hn0 hz0 h0 
  go_enter Try.func49, Try.ntmps49
  go_wp2_with fail
  refine HC.out.mono ?_
  rintro e w1 ⟨A1, c1, xs1, rfl, ht1, g1⟩
  have hz1 := HZ0.out.grew g1
  have z0 := hz1.cell 0
  have z1 := hz1.cell 1
  have z2 := hz1.cell 2
  have f0 := hz1.frozen 0
  have f1 := hz1.frozen 1
  have f2 := hz1.frozen 2
  have hzl := hz1.lt
  have hg1 := HG0.out.trans g1
  have HT1 := Lib.hid (fun w2 (ht : Turned (fun x => x = w.heap.size + 3) w1 w2) => ht1.apart hz1 ht)
  clear hz1 g1 ht1
  go_wp2_with fail
  refine bodyPost_ret (by first | (simp [*, results, Try.results49, go_sem]; rfl) | simp [*, results, Try.results49, go_sem]) rfl ?_
  exact ⟨A1, c1, xs1, rfl, HT1.out _ (by (repeat' first | (with_reducible exact Turned.refl _ _) | (with_reducible assumption) | (with_reducible refine Turned.alloc ?_ _) | (with_reducible refine Turned.drew ?_) | (with_reducible refine Turned.drewN ?_ _) | (with_reducible refine Turned.setRow ?_ (by first | (simp; done) | (simp; omega) | omega) _) | (with_reducible refine Turned.setCell ?_ (by first | (simp; done) | (simp; omega) | omega) _) | ((with_reducible apply Turned.andGrew); rotate_left; (with_reducible assumption)) | ((with_reducible apply Turned.trans); rotate_left; (with_reducible assumption)) | fail)), by (repeat' first | (with_reducible exact Grew.refl _) | (with_reducible assumption) | (with_reducible refine Grew.alloc ?_ _) | (with_reducible refine Grew.drew ?_) | (with_reducible refine Grew.drewN ?_ _) | (with_reducible refine Grew.setRow ?_ (by first | (simp; done) | (simp; omega) | omega) _) | (with_reducible refine Grew.setCell ?_ (by first | (simp; done) | (simp; omega) | omega) _) | ((with_reducible apply Grew.trans); rotate_left; (with_reducible assumption)) | ((with_reducible apply Grew.turn); rotate_left; (with_reducible assumption); (focus (intro i hi; first | omega | (simp at hi; omega)))) | fail)⟩
set_option maxRecDepth 100000 in
set_option maxHeartbeats 4000000 in
theorem replace_tab (h : TabAt w A c xs T) (hs : SmallT T) (Ax : Option Addr) (cx : Nat) (ex : List (Int × Int)) (hx : RunsAt w w.heap.size Ax ex) (hxl : ex.length ≤ 1000) (T' : Tab) (er : Int) (hr : chgT T id unit (chRep T ex) = (T', er)) :
    Calls Try.prog 50 #[.agg #[.string T.name, .int .i64 T.tracks, .slice A T.labels.length c], .agg #[.int .i64 id, .int .i64 unit], .slice Ax ex.length cx] w (TabR w T' er) := by
  have hg0 := ((((Grew.refl w).alloc (.cells #[.string T.name, .int .i64 T.tracks, .slice A T.labels.length c] 34)).alloc (.cells #[.int .i64 id, .int .i64 unit] 37)).alloc (.cells #[.slice Ax ex.length cx] 22)).alloc (.cells #[.string ⟨#[]⟩, .int .i64 0, .slice none 0 0] 34)
  have hb0 := (((Blk.new w 34 #[.string T.name, .int .i64 T.tracks, .slice A T.labels.length c] rfl).alloc (.cells #[.int .i64 id, .int .i64 unit] 37)).alloc (.cells #[.slice Ax ex.length cx] 22)).alloc (.cells #[.string ⟨#[]⟩, .int .i64 0, .slice none 0 0] 34)
  have hr0 := ((Blk.new (w.alloc (.cells #[.string T.name, .int .i64 T.tracks, .slice A T.labels.length c] 34)) 37 #[.int .i64 id, .int .i64 unit] (n := w.heap.size + 1) (by simp)).alloc (.cells #[.slice Ax ex.length cx] 22)).alloc (.cells #[.string ⟨#[]⟩, .int .i64 0, .slice none 0 0] 34)
  have hn0 := (Blk.new ((w.alloc (.cells #[.string T.name, .int .i64 T.tracks, .slice A T.labels.length c] 34)).alloc (.cells #[.int .i64 id, .int .i64 unit] 37)) 22 #[.slice Ax ex.length cx] (n := w.heap.size + 2) (by simp)).alloc (.cells #[.string ⟨#[]⟩, .int .i64 0, .slice none 0 0] 34)
  have hz0 := Blk.new (((w.alloc (.cells #[.string T.name, .int .i64 T.tracks, .slice A T.labels.length c] 34)).alloc (.cells #[.int .i64 id, .int .i64 unit] 37)).alloc (.cells #[.slice Ax ex.length cx] 22)) 34 #[.string ⟨#[]⟩, .int .i64 0, .slice none 0 0] (n := w.heap.size + 3) (by simp)
  have h0 := h.hold hg0
  have HC := Lib.hid (change_rep A c xs T id unit _ (w.heap.size + 2)  h0 hs (chRep T ex) (fun w1 base g cap xo ys k hk _ ho => replace1_any _ w1 base g cap xo ys T k hk ho hs h.name h.tr0 h.tr1 Ax cx ex (hx.hold hg0) hxl _ hn0) T' er hr)
  have HG0 := Lib.hid hg0
  have HZ0 := Lib.hid hz0
  clear h hs hg0 hb0 hr0 hn0 hz0 h0 hx
  go_enter Try.func50, Try.ntmps50
  go_wp2_with fail
  refine HC.out.mono ?_
  rintro e w1 ⟨A1, c1, xs1, rfl, ht1, g1⟩
  have hz1 := HZ0.out.grew g1
  have z0 := hz1.cell 0
  have z1 := hz1.cell 1
  have z2 := hz1.cell 2
  have f0 := hz1.frozen 0
  have f1 := hz1.frozen 1
  have f2 := hz1.frozen 2
  have hzl := hz1.lt
  have hg1 := HG0.out.trans g1
  have HT1 := Lib.hid (fun w2 (ht : Turned (fun x => x = w.heap.size + 3) w1 w2) => ht1.apart hz1 ht)
  clear hz1 g1 ht1
  go_wp2_with fail
  refine bodyPost_ret (by first | (simp [*, results, Try.results50, go_sem]; rfl) | simp [*, results, Try.results50, go_sem]) rfl ?_
  exact ⟨A1, c1, xs1, rfl, HT1.out _ (by (repeat' first | (with_reducible exact Turned.refl _ _) | (with_reducible assumption) | (with_reducible refine Turned.alloc ?_ _) | (with_reducible refine Turned.drew ?_) | (with_reducible refine Turned.drewN ?_ _) | (with_reducible refine Turned.setRow ?_ (by first | (simp; done) | (simp; omega) | omega) _) | (with_reducible refine Turned.setCell ?_ (by first | (simp; done) | (simp; omega) | omega) _) | ((with_reducible apply Turned.andGrew); rotate_left; (with_reducible assumption)) | ((with_reducible apply Turned.trans); rotate_left; (with_reducible assumption)) | fail)), by (repeat' first | (with_reducible exact Grew.refl _) | (with_reducible assumption) | (with_reducible refine Grew.alloc ?_ _) | (with_reducible refine Grew.drew ?_) | (with_reducible refine Grew.drewN ?_ _) | (with_reducible refine Grew.setRow ?_ (by first | (simp; done) | (simp; omega) | omega) _) | (with_reducible refine Grew.setCell ?_ (by first | (simp; done) | (simp; omega) | omega) _) | ((with_reducible apply Grew.trans); rotate_left; (with_reducible assumption)) | ((with_reducible apply Grew.turn); rotate_left; (with_reducible assumption); (focus (intro i hi; first | omega | (simp at hi; omega)))) | fail)⟩
set_option maxRecDepth 100000 in
set_option maxHeartbeats 4000000 in
theorem confirm_tab (h : TabAt w A c xs T) (hs : SmallT T) (note : ByteArray) (hns : note.size ≤ 9223372036854775807) (T' : Tab) (er : Int) (hr : chgT T id unit (chCon T id note) = (T', er)) :
    Calls Try.prog 15 #[.agg #[.string T.name, .int .i64 T.tracks, .slice A T.labels.length c], .agg #[.int .i64 id, .int .i64 unit], .string note] w (TabR w T' er) := by
  have hg0 := ((((Grew.refl w).alloc (.cells #[.string T.name, .int .i64 T.tracks, .slice A T.labels.length c] 34)).alloc (.cells #[.int .i64 id, .int .i64 unit] 37)).alloc (.cells #[.string note] 9)).alloc (.cells #[.string ⟨#[]⟩, .int .i64 0, .slice none 0 0] 34)
  have hb0 := (((Blk.new w 34 #[.string T.name, .int .i64 T.tracks, .slice A T.labels.length c] rfl).alloc (.cells #[.int .i64 id, .int .i64 unit] 37)).alloc (.cells #[.string note] 9)).alloc (.cells #[.string ⟨#[]⟩, .int .i64 0, .slice none 0 0] 34)
  have hr0 := ((Blk.new (w.alloc (.cells #[.string T.name, .int .i64 T.tracks, .slice A T.labels.length c] 34)) 37 #[.int .i64 id, .int .i64 unit] (n := w.heap.size + 1) (by simp)).alloc (.cells #[.string note] 9)).alloc (.cells #[.string ⟨#[]⟩, .int .i64 0, .slice none 0 0] 34)
  have hn0 := (Blk.new ((w.alloc (.cells #[.string T.name, .int .i64 T.tracks, .slice A T.labels.length c] 34)).alloc (.cells #[.int .i64 id, .int .i64 unit] 37)) 9 #[.string note] (n := w.heap.size + 2) (by simp)).alloc (.cells #[.string ⟨#[]⟩, .int .i64 0, .slice none 0 0] 34)
  have hz0 := Blk.new (((w.alloc (.cells #[.string T.name, .int .i64 T.tracks, .slice A T.labels.length c] 34)).alloc (.cells #[.int .i64 id, .int .i64 unit] 37)).alloc (.cells #[.string note] 9)) 34 #[.string ⟨#[]⟩, .int .i64 0, .slice none 0 0] (n := w.heap.size + 3) (by simp)
  have h0 := h.hold hg0
  have HC := Lib.hid (change_con A c xs T id unit _ (w.heap.size + 2) (w.heap.size + 1) h0 hs (chCon T id note) (fun w1 base g cap xo ys k hk _ ho => confirm1_any _ w1 base g cap xo ys T k hk ho hs h.name h.tr0 h.tr1 note hns id unit _ _ hn0 hr0) T' er hr)
  have HG0 := Lib.hid hg0
  have HZ0 := Lib.hid hz0
  clear h hs hg0 hb0 hr0 hn0 hz0 h0 
  go_enter Try.func15, Try.ntmps15
  go_wp2_with fail
  refine HC.out.mono ?_
  rintro e w1 ⟨A1, c1, xs1, rfl, ht1, g1⟩
  have hz1 := HZ0.out.grew g1
  have z0 := hz1.cell 0
  have z1 := hz1.cell 1
  have z2 := hz1.cell 2
  have f0 := hz1.frozen 0
  have f1 := hz1.frozen 1
  have f2 := hz1.frozen 2
  have hzl := hz1.lt
  have hg1 := HG0.out.trans g1
  have HT1 := Lib.hid (fun w2 (ht : Turned (fun x => x = w.heap.size + 3) w1 w2) => ht1.apart hz1 ht)
  clear hz1 g1 ht1
  go_wp2_with fail
  refine bodyPost_ret (by first | (simp [*, results, Try.results15, go_sem]; rfl) | simp [*, results, Try.results15, go_sem]) rfl ?_
  exact ⟨A1, c1, xs1, rfl, HT1.out _ (by (repeat' first | (with_reducible exact Turned.refl _ _) | (with_reducible assumption) | (with_reducible refine Turned.alloc ?_ _) | (with_reducible refine Turned.drew ?_) | (with_reducible refine Turned.drewN ?_ _) | (with_reducible refine Turned.setRow ?_ (by first | (simp; done) | (simp; omega) | omega) _) | (with_reducible refine Turned.setCell ?_ (by first | (simp; done) | (simp; omega) | omega) _) | ((with_reducible apply Turned.andGrew); rotate_left; (with_reducible assumption)) | ((with_reducible apply Turned.trans); rotate_left; (with_reducible assumption)) | fail)), by (repeat' first | (with_reducible exact Grew.refl _) | (with_reducible assumption) | (with_reducible refine Grew.alloc ?_ _) | (with_reducible refine Grew.drew ?_) | (with_reducible refine Grew.drewN ?_ _) | (with_reducible refine Grew.setRow ?_ (by first | (simp; done) | (simp; omega) | omega) _) | (with_reducible refine Grew.setCell ?_ (by first | (simp; done) | (simp; omega) | omega) _) | ((with_reducible apply Grew.trans); rotate_left; (with_reducible assumption)) | ((with_reducible apply Grew.turn); rotate_left; (with_reducible assumption); (focus (intro i hi; first | omega | (simp at hi; omega)))) | fail)⟩
set_option maxRecDepth 100000 in
set_option maxHeartbeats 4000000 in
theorem note_tab (h : TabAt w A c xs T) (hs : SmallT T) (note : ByteArray) (hns : note.size ≤ 9223372036854775807) (T' : Tab) (er : Int) (hr : chgT T id unit (chNote T note) = (T', er)) :
    Calls Try.prog 51 #[.agg #[.string T.name, .int .i64 T.tracks, .slice A T.labels.length c], .agg #[.int .i64 id, .int .i64 unit], .string note] w (TabR w T' er) := by
  have hg0 := ((((Grew.refl w).alloc (.cells #[.string T.name, .int .i64 T.tracks, .slice A T.labels.length c] 34)).alloc (.cells #[.int .i64 id, .int .i64 unit] 37)).alloc (.cells #[.string note] 9)).alloc (.cells #[.string ⟨#[]⟩, .int .i64 0, .slice none 0 0] 34)
  have hb0 := (((Blk.new w 34 #[.string T.name, .int .i64 T.tracks, .slice A T.labels.length c] rfl).alloc (.cells #[.int .i64 id, .int .i64 unit] 37)).alloc (.cells #[.string note] 9)).alloc (.cells #[.string ⟨#[]⟩, .int .i64 0, .slice none 0 0] 34)
  have hr0 := ((Blk.new (w.alloc (.cells #[.string T.name, .int .i64 T.tracks, .slice A T.labels.length c] 34)) 37 #[.int .i64 id, .int .i64 unit] (n := w.heap.size + 1) (by simp)).alloc (.cells #[.string note] 9)).alloc (.cells #[.string ⟨#[]⟩, .int .i64 0, .slice none 0 0] 34)
  have hn0 := (Blk.new ((w.alloc (.cells #[.string T.name, .int .i64 T.tracks, .slice A T.labels.length c] 34)).alloc (.cells #[.int .i64 id, .int .i64 unit] 37)) 9 #[.string note] (n := w.heap.size + 2) (by simp)).alloc (.cells #[.string ⟨#[]⟩, .int .i64 0, .slice none 0 0] 34)
  have hz0 := Blk.new (((w.alloc (.cells #[.string T.name, .int .i64 T.tracks, .slice A T.labels.length c] 34)).alloc (.cells #[.int .i64 id, .int .i64 unit] 37)).alloc (.cells #[.string note] 9)) 34 #[.string ⟨#[]⟩, .int .i64 0, .slice none 0 0] (n := w.heap.size + 3) (by simp)
  have h0 := h.hold hg0
  have HC := Lib.hid (change_note A c xs T id unit _ (w.heap.size + 2)  h0 hs (chNote T note) (fun w1 base g cap xo ys k hk _ ho => note1_any _ w1 base g cap xo ys T k hk ho note hns _ hn0) T' er hr)
  have HG0 := Lib.hid hg0
  have HZ0 := Lib.hid hz0
  clear h hs hg0 hb0 hr0 hn0 hz0 h0 
  go_enter Try.func51, Try.ntmps51
  go_wp2_with fail
  refine HC.out.mono ?_
  rintro e w1 ⟨A1, c1, xs1, rfl, ht1, g1⟩
  have hz1 := HZ0.out.grew g1
  have z0 := hz1.cell 0
  have z1 := hz1.cell 1
  have z2 := hz1.cell 2
  have f0 := hz1.frozen 0
  have f1 := hz1.frozen 1
  have f2 := hz1.frozen 2
  have hzl := hz1.lt
  have hg1 := HG0.out.trans g1
  have HT1 := Lib.hid (fun w2 (ht : Turned (fun x => x = w.heap.size + 3) w1 w2) => ht1.apart hz1 ht)
  clear hz1 g1 ht1
  go_wp2_with fail
  refine bodyPost_ret (by first | (simp [*, results, Try.results51, go_sem]; rfl) | simp [*, results, Try.results51, go_sem]) rfl ?_
  exact ⟨A1, c1, xs1, rfl, HT1.out _ (by (repeat' first | (with_reducible exact Turned.refl _ _) | (with_reducible assumption) | (with_reducible refine Turned.alloc ?_ _) | (with_reducible refine Turned.drew ?_) | (with_reducible refine Turned.drewN ?_ _) | (with_reducible refine Turned.setRow ?_ (by first | (simp; done) | (simp; omega) | omega) _) | (with_reducible refine Turned.setCell ?_ (by first | (simp; done) | (simp; omega) | omega) _) | ((with_reducible apply Turned.andGrew); rotate_left; (with_reducible assumption)) | ((with_reducible apply Turned.trans); rotate_left; (with_reducible assumption)) | fail)), by (repeat' first | (with_reducible exact Grew.refl _) | (with_reducible assumption) | (with_reducible refine Grew.alloc ?_ _) | (with_reducible refine Grew.drew ?_) | (with_reducible refine Grew.drewN ?_ _) | (with_reducible refine Grew.setRow ?_ (by first | (simp; done) | (simp; omega) | omega) _) | (with_reducible refine Grew.setCell ?_ (by first | (simp; done) | (simp; omega) | omega) _) | ((with_reducible apply Grew.trans); rotate_left; (with_reducible assumption)) | ((with_reducible apply Grew.turn); rotate_left; (with_reducible assumption); (focus (intro i hi; first | omega | (simp at hi; omega)))) | fail)⟩
set_option maxRecDepth 100000 in
set_option maxHeartbeats 4000000 in
theorem remove_tab (h : TabAt w A c xs T) (hs : SmallT T)  (T' : Tab) (er : Int) (hr : chgT T id unit (chRem T) = (T', er)) :
    Calls Try.prog 52 #[.agg #[.string T.name, .int .i64 T.tracks, .slice A T.labels.length c], .agg #[.int .i64 id, .int .i64 unit]] w (TabR w T' er) := by
  have hg0 := (((Grew.refl w).alloc (.cells #[.string T.name, .int .i64 T.tracks, .slice A T.labels.length c] 34)).alloc (.cells #[.int .i64 id, .int .i64 unit] 37)).alloc (.cells #[.string ⟨#[]⟩, .int .i64 0, .slice none 0 0] 34)
  have hb0 := ((Blk.new w 34 #[.string T.name, .int .i64 T.tracks, .slice A T.labels.length c] rfl).alloc (.cells #[.int .i64 id, .int .i64 unit] 37)).alloc (.cells #[.string ⟨#[]⟩, .int .i64 0, .slice none 0 0] 34)
  have hr0 := (Blk.new (w.alloc (.cells #[.string T.name, .int .i64 T.tracks, .slice A T.labels.length c] 34)) 37 #[.int .i64 id, .int .i64 unit] (n := w.heap.size + 1) (by simp)).alloc (.cells #[.string ⟨#[]⟩, .int .i64 0, .slice none 0 0] 34)
  have hz0 := Blk.new ((w.alloc (.cells #[.string T.name, .int .i64 T.tracks, .slice A T.labels.length c] 34)).alloc (.cells #[.int .i64 id, .int .i64 unit] 37)) 34 #[.string ⟨#[]⟩, .int .i64 0, .slice none 0 0] (n := w.heap.size + 2) (by simp)
  have h0 := h.hold hg0
  have HC := Lib.hid (change_rem A c xs T id unit _   h0 hs (chRem T) (fun w1 base g cap xo ys k hk _ ho => remove1_any _ w1 base g cap xo ys T k hk ho) T' er hr)
  have HG0 := Lib.hid hg0
  have HZ0 := Lib.hid hz0
  clear h hs hg0 hb0 hr0 hz0 h0 
  go_enter Try.func52, Try.ntmps52
  go_wp2_with fail
  refine HC.out.mono ?_
  rintro e w1 ⟨A1, c1, xs1, rfl, ht1, g1⟩
  have hz1 := HZ0.out.grew g1
  have z0 := hz1.cell 0
  have z1 := hz1.cell 1
  have z2 := hz1.cell 2
  have f0 := hz1.frozen 0
  have f1 := hz1.frozen 1
  have f2 := hz1.frozen 2
  have hzl := hz1.lt
  have hg1 := HG0.out.trans g1
  have HT1 := Lib.hid (fun w2 (ht : Turned (fun x => x = w.heap.size + 2) w1 w2) => ht1.apart hz1 ht)
  clear hz1 g1 ht1
  go_wp2_with fail
  refine bodyPost_ret (by first | (simp [*, results, Try.results52, go_sem]; rfl) | simp [*, results, Try.results52, go_sem]) rfl ?_
  exact ⟨A1, c1, xs1, rfl, HT1.out _ (by (repeat' first | (with_reducible exact Turned.refl _ _) | (with_reducible assumption) | (with_reducible refine Turned.alloc ?_ _) | (with_reducible refine Turned.drew ?_) | (with_reducible refine Turned.drewN ?_ _) | (with_reducible refine Turned.setRow ?_ (by first | (simp; done) | (simp; omega) | omega) _) | (with_reducible refine Turned.setCell ?_ (by first | (simp; done) | (simp; omega) | omega) _) | ((with_reducible apply Turned.andGrew); rotate_left; (with_reducible assumption)) | ((with_reducible apply Turned.trans); rotate_left; (with_reducible assumption)) | fail)), by (repeat' first | (with_reducible exact Grew.refl _) | (with_reducible assumption) | (with_reducible refine Grew.alloc ?_ _) | (with_reducible refine Grew.drew ?_) | (with_reducible refine Grew.drewN ?_ _) | (with_reducible refine Grew.setRow ?_ (by first | (simp; done) | (simp; omega) | omega) _) | (with_reducible refine Grew.setCell ?_ (by first | (simp; done) | (simp; omega) | omega) _) | ((with_reducible apply Grew.trans); rotate_left; (with_reducible assumption)) | ((with_reducible apply Grew.turn); rotate_left; (with_reducible assumption); (focus (intro i hi; first | omega | (simp at hi; omega)))) | fail)⟩
end
end Go.Proofs.Ytnlaogneceanoaa
namespace Go.Proofs.Ytnlaogneceanoaa
set_option linter.unusedVariables false
set_option linter.unusedSimpArgs false
set_option linter.unusedSectionVars false
open Go.RowKit
attribute [local go_sem ↓] Go.wp_at_zero Go.wp_at_succ
def okNew (id unit : Int) (nm nt : ByteArray) (n : Int) : Prop := 1 ≤ id ∧ id ≤ 1099511627776 ∧ 1 ≤ unit ∧ unit ≤ 1099511627776 ∧ nm.size ≤ 31 ∧ nt.size ≤ 400 ∧ 1 ≤ n
instance (id unit : Int) (nm nt : ByteArray) (n : Int) : Decidable (okNew id unit nm nt n) := by unfold okNew; exact inferInstance
def createT (T : Tab) (id unit : Int) (nm nt : ByteArray) (n : Int) : Tab × Int :=
  if validT T = true ∧ okNew id unit nm nt n then
    if T.labels.any (tentL id) = true then (tabZ, 5)
    else if idxP emL T.labels < 0 then (tabZ, 8)
    else if (allocS (memS (freeT T)) n 16).2 = 0 then ({ T with labels := T.labels.set (idxP emL T.labels).toNat ⟨id, unit, nm, nt, ints (allocS (memS (freeT T)) n 16).1⟩ }, 0)
    else (tabZ, 14)
  else (tabZ, 1)
section
variable (A : Option Addr) (c : Nat) (xs : List LabE) (T : Tab) (id unit : Int) (w : World)
set_option maxRecDepth 100000 in
set_option maxHeartbeats 16000000 in
theorem create_tab (h : TabAt w A c xs T) (hs : SmallT T) (nm nt : ByteArray) (hns : nm.size ≤ 9223372036854775807) (hts : nt.size ≤ 9223372036854775807) (n : Int) (n0 : -9223372036854775808 ≤ n) (n1 : n ≤ 9223372036854775807) (T' : Tab) (er : Int) (hr : createT T id unit nm nt n = (T', er)) :
    Calls Try.prog 30 #[.agg #[.string T.name, .int .i64 T.tracks, .slice A T.labels.length c], .agg #[.int .i64 id, .int .i64 unit], .string nm, .string nt, .int .i64 n] w (TabR w T' er) := by
  have hg0 := ((((Grew.refl w).alloc (.cells #[.string T.name, .int .i64 T.tracks, .slice A T.labels.length c] 34)).alloc (.cells #[.int .i64 id, .int .i64 unit] 37))).alloc (.cells #[.string ⟨#[]⟩, .int .i64 0, .slice none 0 0] 34)
  have hb0 := ((Blk.new w 34 #[.string T.name, .int .i64 T.tracks, .slice A T.labels.length c] rfl).alloc (.cells #[.int .i64 id, .int .i64 unit] 37)).alloc (.cells #[.string ⟨#[]⟩, .int .i64 0, .slice none 0 0] 34)
  have hr0 := (Blk.new (w.alloc (.cells #[.string T.name, .int .i64 T.tracks, .slice A T.labels.length c] 34)) 37 #[.int .i64 id, .int .i64 unit] (n := w.heap.size + 1) (by simp)).alloc (.cells #[.string ⟨#[]⟩, .int .i64 0, .slice none 0 0] 34)
  have hz0 := Blk.new ((w.alloc (.cells #[.string T.name, .int .i64 T.tracks, .slice A T.labels.length c] 34)).alloc (.cells #[.int .i64 id, .int .i64 unit] 37)) 34 #[.string ⟨#[]⟩, .int .i64 0, .slice none 0 0] (n := w.heap.size + 1 + 1) (by simp)
  have HV := Lib.hid (valid_tab A c xs T _ (h.hold hg0) hs _ rfl)
  have HTB := Lib.hid h
  have HS := Lib.hid hs
  have HG0 := Lib.hid hg0
  have HB0 := Lib.hid hb0
  have HRF := Lib.hid hr0
  have HZ0 := Lib.hid hz0
  clear h hs hg0 hb0 hr0 hz0
  cases hv : validT T with
  | false =>
    have hx : createT T id unit nm nt n = (tabZ, 1) := by unfold createT; rw [if_neg (fun h => by rw [hv] at h; cases h.1)]
    rw [hx] at hr
    injection hr with e1 e2
    subst e1; subst e2
    have HVF := Lib.hid hv
    clear hv hx
    go_enter Try.func30, Try.ntmps30
    go_wp2_with fail
    refine HV.out.mono ?_
    rintro e w1 ⟨rfl, g1⟩
    rw [HVF.out]
    have hr1 := HRF.out.grew g1
    have r0 := hr1.cell 0
    have r1 := hr1.cell 1
    have hrl := hr1.lt
    have hz1 := HZ0.out.grew g1
    have hzl := hz1.lt
    have z0 := hz1.cell 0
    have z1 := hz1.cell 1
    have z2 := hz1.cell 2
    have f0 := hz1.frozen 0
    have f1 := hz1.frozen 1
    have f2 := hz1.frozen 2
    have hg1 := HG0.out.trans g1
    clear hz1 hr1 g1
    go_wp2_with fail
    refine bodyPost_ret (by first | (simp [*, results, Try.results30, go_sem]; rfl) | simp [*, results, Try.results30, go_sem]) rfl ?_
    exact ⟨none, 0, [], rfl, TabAt.zero _, by (repeat' first | (with_reducible exact Grew.refl _) | (with_reducible assumption) | (with_reducible refine Grew.alloc ?_ _) | (with_reducible refine Grew.drew ?_) | (with_reducible refine Grew.drewN ?_ _) | (with_reducible refine Grew.setRow ?_ (by first | (simp; done) | (simp; omega) | omega) _) | (with_reducible refine Grew.setCell ?_ (by first | (simp; done) | (simp; omega) | omega) _) | ((with_reducible apply Grew.trans); rotate_left; (with_reducible assumption)) | ((with_reducible apply Grew.turn); rotate_left; (with_reducible assumption); (focus (intro i hi; first | omega | (simp at hi; omega)))) | fail)⟩
  | true =>
  have HX1 := Lib.hid (show ¬ okNew id unit nm nt n → createT T id unit nm nt n = (tabZ, 1) from fun hn => by unfold createT; rw [if_neg (fun h => hn h.2)])
  have HX2 := Lib.hid (show okNew id unit nm nt n → createT T id unit nm nt n = (if T.labels.any (tentL id) = true then (tabZ, 5) else if idxP emL T.labels < 0 then (tabZ, 8) else if (allocS (memS (freeT T)) n 16).2 = 0 then ({ T with labels := T.labels.set (idxP emL T.labels).toNat ⟨id, unit, nm, nt, ints (allocS (memS (freeT T)) n 16).1⟩ }, 0) else (tabZ, 14)) from fun hn => by unfold createT; rw [if_pos ⟨hv, hn⟩])
  have HVF := Lib.hid hv
  clear hv
  by_cases a1 : 1 ≤ id
  rotate_left
  · have HE := Lib.hid (HX1.out (fun hc => a1 hc.1))
    rw [HE.out] at hr
    injection hr with e1 e2
    subst e1; subst e2
    go_enter Try.func30, Try.ntmps30
    go_wp2_with fail
    refine HV.out.mono ?_
    rintro e w1 ⟨rfl, g1⟩
    rw [HVF.out]
    have hr1 := HRF.out.grew g1
    have r0 := hr1.cell 0
    have r1 := hr1.cell 1
    have hrl := hr1.lt
    have hz1 := HZ0.out.grew g1
    have hzl := hz1.lt
    have z0 := hz1.cell 0
    have z1 := hz1.cell 1
    have z2 := hz1.cell 2
    have f0 := hz1.frozen 0
    have f1 := hz1.frozen 1
    have f2 := hz1.frozen 2
    have hg1 := HG0.out.trans g1
    clear hz1 hr1 g1
    go_wp2_with fail
    refine bodyPost_ret (by first | (simp [*, results, Try.results30, go_sem]; rfl) | simp [*, results, Try.results30, go_sem]) rfl ?_
    exact ⟨none, 0, [], rfl, TabAt.zero _, by (repeat' first | (with_reducible exact Grew.refl _) | (with_reducible assumption) | (with_reducible refine Grew.alloc ?_ _) | (with_reducible refine Grew.drew ?_) | (with_reducible refine Grew.drewN ?_ _) | (with_reducible refine Grew.setRow ?_ (by first | (simp; done) | (simp; omega) | omega) _) | (with_reducible refine Grew.setCell ?_ (by first | (simp; done) | (simp; omega) | omega) _) | ((with_reducible apply Grew.trans); rotate_left; (with_reducible assumption)) | ((with_reducible apply Grew.turn); rotate_left; (with_reducible assumption); (focus (intro i hi; first | omega | (simp at hi; omega)))) | fail)⟩
  by_cases a2 : id ≤ 1099511627776
  rotate_left
  · have HE := Lib.hid (HX1.out (fun hc => a2 hc.2.1))
    rw [HE.out] at hr
    injection hr with e1 e2
    subst e1; subst e2
    go_enter Try.func30, Try.ntmps30
    go_wp2_with fail
    refine HV.out.mono ?_
    rintro e w1 ⟨rfl, g1⟩
    rw [HVF.out]
    have hr1 := HRF.out.grew g1
    have r0 := hr1.cell 0
    have r1 := hr1.cell 1
    have hrl := hr1.lt
    have hz1 := HZ0.out.grew g1
    have hzl := hz1.lt
    have z0 := hz1.cell 0
    have z1 := hz1.cell 1
    have z2 := hz1.cell 2
    have f0 := hz1.frozen 0
    have f1 := hz1.frozen 1
    have f2 := hz1.frozen 2
    have hg1 := HG0.out.trans g1
    clear hz1 hr1 g1
    go_wp2_with fail
    refine bodyPost_ret (by first | (simp [*, results, Try.results30, go_sem]; rfl) | simp [*, results, Try.results30, go_sem]) rfl ?_
    exact ⟨none, 0, [], rfl, TabAt.zero _, by (repeat' first | (with_reducible exact Grew.refl _) | (with_reducible assumption) | (with_reducible refine Grew.alloc ?_ _) | (with_reducible refine Grew.drew ?_) | (with_reducible refine Grew.drewN ?_ _) | (with_reducible refine Grew.setRow ?_ (by first | (simp; done) | (simp; omega) | omega) _) | (with_reducible refine Grew.setCell ?_ (by first | (simp; done) | (simp; omega) | omega) _) | ((with_reducible apply Grew.trans); rotate_left; (with_reducible assumption)) | ((with_reducible apply Grew.turn); rotate_left; (with_reducible assumption); (focus (intro i hi; first | omega | (simp at hi; omega)))) | fail)⟩
  by_cases a3 : 1 ≤ unit
  rotate_left
  · have HE := Lib.hid (HX1.out (fun hc => a3 hc.2.2.1))
    rw [HE.out] at hr
    injection hr with e1 e2
    subst e1; subst e2
    go_enter Try.func30, Try.ntmps30
    go_wp2_with fail
    refine HV.out.mono ?_
    rintro e w1 ⟨rfl, g1⟩
    rw [HVF.out]
    have hr1 := HRF.out.grew g1
    have r0 := hr1.cell 0
    have r1 := hr1.cell 1
    have hrl := hr1.lt
    have hz1 := HZ0.out.grew g1
    have hzl := hz1.lt
    have z0 := hz1.cell 0
    have z1 := hz1.cell 1
    have z2 := hz1.cell 2
    have f0 := hz1.frozen 0
    have f1 := hz1.frozen 1
    have f2 := hz1.frozen 2
    have hg1 := HG0.out.trans g1
    clear hz1 hr1 g1
    go_wp2_with fail
    refine bodyPost_ret (by first | (simp [*, results, Try.results30, go_sem]; rfl) | simp [*, results, Try.results30, go_sem]) rfl ?_
    exact ⟨none, 0, [], rfl, TabAt.zero _, by (repeat' first | (with_reducible exact Grew.refl _) | (with_reducible assumption) | (with_reducible refine Grew.alloc ?_ _) | (with_reducible refine Grew.drew ?_) | (with_reducible refine Grew.drewN ?_ _) | (with_reducible refine Grew.setRow ?_ (by first | (simp; done) | (simp; omega) | omega) _) | (with_reducible refine Grew.setCell ?_ (by first | (simp; done) | (simp; omega) | omega) _) | ((with_reducible apply Grew.trans); rotate_left; (with_reducible assumption)) | ((with_reducible apply Grew.turn); rotate_left; (with_reducible assumption); (focus (intro i hi; first | omega | (simp at hi; omega)))) | fail)⟩
  by_cases a4 : unit ≤ 1099511627776
  rotate_left
  · have HE := Lib.hid (HX1.out (fun hc => a4 hc.2.2.2.1))
    rw [HE.out] at hr
    injection hr with e1 e2
    subst e1; subst e2
    go_enter Try.func30, Try.ntmps30
    go_wp2_with fail
    refine HV.out.mono ?_
    rintro e w1 ⟨rfl, g1⟩
    rw [HVF.out]
    have hr1 := HRF.out.grew g1
    have r0 := hr1.cell 0
    have r1 := hr1.cell 1
    have hrl := hr1.lt
    have hz1 := HZ0.out.grew g1
    have hzl := hz1.lt
    have z0 := hz1.cell 0
    have z1 := hz1.cell 1
    have z2 := hz1.cell 2
    have f0 := hz1.frozen 0
    have f1 := hz1.frozen 1
    have f2 := hz1.frozen 2
    have hg1 := HG0.out.trans g1
    clear hz1 hr1 g1
    go_wp2_with fail
    refine bodyPost_ret (by first | (simp [*, results, Try.results30, go_sem]; rfl) | simp [*, results, Try.results30, go_sem]) rfl ?_
    exact ⟨none, 0, [], rfl, TabAt.zero _, by (repeat' first | (with_reducible exact Grew.refl _) | (with_reducible assumption) | (with_reducible refine Grew.alloc ?_ _) | (with_reducible refine Grew.drew ?_) | (with_reducible refine Grew.drewN ?_ _) | (with_reducible refine Grew.setRow ?_ (by first | (simp; done) | (simp; omega) | omega) _) | (with_reducible refine Grew.setCell ?_ (by first | (simp; done) | (simp; omega) | omega) _) | ((with_reducible apply Grew.trans); rotate_left; (with_reducible assumption)) | ((with_reducible apply Grew.turn); rotate_left; (with_reducible assumption); (focus (intro i hi; first | omega | (simp at hi; omega)))) | fail)⟩
  by_cases a5 : nm.size ≤ 31
  rotate_left
  · have HE := Lib.hid (HX1.out (fun hc => a5 hc.2.2.2.2.1))
    have a5i : ¬ (nm.size : Int) ≤ 31 := by omega
    rw [HE.out] at hr
    injection hr with e1 e2
    subst e1; subst e2
    go_enter Try.func30, Try.ntmps30
    go_wp2_with fail
    refine HV.out.mono ?_
    rintro e w1 ⟨rfl, g1⟩
    rw [HVF.out]
    have hr1 := HRF.out.grew g1
    have r0 := hr1.cell 0
    have r1 := hr1.cell 1
    have hrl := hr1.lt
    have hz1 := HZ0.out.grew g1
    have hzl := hz1.lt
    have z0 := hz1.cell 0
    have z1 := hz1.cell 1
    have z2 := hz1.cell 2
    have f0 := hz1.frozen 0
    have f1 := hz1.frozen 1
    have f2 := hz1.frozen 2
    have hg1 := HG0.out.trans g1
    clear hz1 hr1 g1
    go_wp2_with fail
    refine bodyPost_ret (by first | (simp [*, results, Try.results30, go_sem]; rfl) | simp [*, results, Try.results30, go_sem]) rfl ?_
    exact ⟨none, 0, [], rfl, TabAt.zero _, by (repeat' first | (with_reducible exact Grew.refl _) | (with_reducible assumption) | (with_reducible refine Grew.alloc ?_ _) | (with_reducible refine Grew.drew ?_) | (with_reducible refine Grew.drewN ?_ _) | (with_reducible refine Grew.setRow ?_ (by first | (simp; done) | (simp; omega) | omega) _) | (with_reducible refine Grew.setCell ?_ (by first | (simp; done) | (simp; omega) | omega) _) | ((with_reducible apply Grew.trans); rotate_left; (with_reducible assumption)) | ((with_reducible apply Grew.turn); rotate_left; (with_reducible assumption); (focus (intro i hi; first | omega | (simp at hi; omega)))) | fail)⟩
  have a5i : (nm.size : Int) ≤ 31 := by omega
  by_cases a6 : nt.size ≤ 400
  rotate_left
  · have HE := Lib.hid (HX1.out (fun hc => a6 hc.2.2.2.2.2.1))
    have a6i : ¬ (nt.size : Int) ≤ 400 := by omega
    rw [HE.out] at hr
    injection hr with e1 e2
    subst e1; subst e2
    go_enter Try.func30, Try.ntmps30
    go_wp2_with fail
    refine HV.out.mono ?_
    rintro e w1 ⟨rfl, g1⟩
    rw [HVF.out]
    have hr1 := HRF.out.grew g1
    have r0 := hr1.cell 0
    have r1 := hr1.cell 1
    have hrl := hr1.lt
    have hz1 := HZ0.out.grew g1
    have hzl := hz1.lt
    have z0 := hz1.cell 0
    have z1 := hz1.cell 1
    have z2 := hz1.cell 2
    have f0 := hz1.frozen 0
    have f1 := hz1.frozen 1
    have f2 := hz1.frozen 2
    have hg1 := HG0.out.trans g1
    clear hz1 hr1 g1
    go_wp2_with fail
    refine bodyPost_ret (by first | (simp [*, results, Try.results30, go_sem]; rfl) | simp [*, results, Try.results30, go_sem]) rfl ?_
    exact ⟨none, 0, [], rfl, TabAt.zero _, by (repeat' first | (with_reducible exact Grew.refl _) | (with_reducible assumption) | (with_reducible refine Grew.alloc ?_ _) | (with_reducible refine Grew.drew ?_) | (with_reducible refine Grew.drewN ?_ _) | (with_reducible refine Grew.setRow ?_ (by first | (simp; done) | (simp; omega) | omega) _) | (with_reducible refine Grew.setCell ?_ (by first | (simp; done) | (simp; omega) | omega) _) | ((with_reducible apply Grew.trans); rotate_left; (with_reducible assumption)) | ((with_reducible apply Grew.turn); rotate_left; (with_reducible assumption); (focus (intro i hi; first | omega | (simp at hi; omega)))) | fail)⟩
  have a6i : (nt.size : Int) ≤ 400 := by omega
  by_cases a7 : 1 ≤ n
  rotate_left
  · have HE := Lib.hid (HX1.out (fun hc => a7 hc.2.2.2.2.2.2))
    rw [HE.out] at hr
    injection hr with e1 e2
    subst e1; subst e2
    go_enter Try.func30, Try.ntmps30
    go_wp2_with fail
    refine HV.out.mono ?_
    rintro e w1 ⟨rfl, g1⟩
    rw [HVF.out]
    have hr1 := HRF.out.grew g1
    have r0 := hr1.cell 0
    have r1 := hr1.cell 1
    have hrl := hr1.lt
    have hz1 := HZ0.out.grew g1
    have hzl := hz1.lt
    have z0 := hz1.cell 0
    have z1 := hz1.cell 1
    have z2 := hz1.cell 2
    have f0 := hz1.frozen 0
    have f1 := hz1.frozen 1
    have f2 := hz1.frozen 2
    have hg1 := HG0.out.trans g1
    clear hz1 hr1 g1
    go_wp2_with fail
    refine bodyPost_ret (by first | (simp [*, results, Try.results30, go_sem]; rfl) | simp [*, results, Try.results30, go_sem]) rfl ?_
    exact ⟨none, 0, [], rfl, TabAt.zero _, by (repeat' first | (with_reducible exact Grew.refl _) | (with_reducible assumption) | (with_reducible refine Grew.alloc ?_ _) | (with_reducible refine Grew.drew ?_) | (with_reducible refine Grew.drewN ?_ _) | (with_reducible refine Grew.setRow ?_ (by first | (simp; done) | (simp; omega) | omega) _) | (with_reducible refine Grew.setCell ?_ (by first | (simp; done) | (simp; omega) | omega) _) | ((with_reducible apply Grew.trans); rotate_left; (with_reducible assumption)) | ((with_reducible apply Grew.turn); rotate_left; (with_reducible assumption); (focus (intro i hi; first | omega | (simp at hi; omega)))) | fail)⟩
  have d1 : decide (id < 1) = false := decide_eq_false (by omega)
  have d2 : decide (1099511627776 < id) = false := decide_eq_false (by omega)
  have d3 : decide (unit < 1) = false := decide_eq_false (by omega)
  have d4 : decide (1099511627776 < unit) = false := decide_eq_false (by omega)
  have d5 : decide (31 < (nm.size : Int)) = false := decide_eq_false (by omega)
  have d6 : decide (400 < (nt.size : Int)) = false := decide_eq_false (by omega)
  have d7 : decide (n < 1) = false := decide_eq_false (by omega)
  rw [HX2.out ⟨a1, a2, a3, a4, a5, a6, a7⟩] at hr
  obtain ⟨te, hte⟩ : ∃ te, T.labels.any (tentL id) = te := ⟨_, rfl⟩
  rw [hte] at hr
  have HTE := Lib.hid hte
  clear hte
  cases te with
  | true =>
    rw [if_pos rfl] at hr
    injection hr with e1 e2
    subst e1; subst e2
    go_enter Try.func30, Try.ntmps30
    go_wp2_with fail
    refine HV.out.mono ?_
    rintro e w1 ⟨rfl, g1⟩
    rw [HVF.out]
    have hr1 := HRF.out.grew g1
    have r0 := hr1.cell 0
    have r1 := hr1.cell 1
    have hrl := hr1.lt
    have hz1 := HZ0.out.grew g1
    have hzl := hz1.lt
    have HG1 := Lib.hid (HG0.out.trans g1)
    have HB1 := Lib.hid (HB0.out.grew g1)
    have HR1 := Lib.hid hr1
    have HZ1 := Lib.hid hz1
    have b2 := HB1.out.cell 2
    have hbl := HB1.out.lt
    clear hz1 hr1 g1
    go_wp2_with fail
    refine (hasTent_any A c xs T (w.heap.size + 1) id unit w1 (HTB.out.hold HG1.out) HS.out HR1.out _ rfl).mono ?_
    rintro e w2 ⟨rfl, g2⟩
    rw [HTE.out]
    have hz1 := HZ1.out.grew g2
    have hzl2 := hz1.lt
    have z0 := hz1.cell 0
    have z1 := hz1.cell 1
    have z2 := hz1.cell 2
    have f0 := hz1.frozen 0
    have f1 := hz1.frozen 1
    have f2 := hz1.frozen 2
    have hg1 := HG1.out.trans g2
    clear hz1 g2
    go_wp2_with fail
    refine bodyPost_ret (by first | (simp [*, results, Try.results30, go_sem]; rfl) | simp [*, results, Try.results30, go_sem]) rfl ?_
    exact ⟨none, 0, [], rfl, TabAt.zero _, by (repeat' first | (with_reducible exact Grew.refl _) | (with_reducible assumption) | (with_reducible refine Grew.alloc ?_ _) | (with_reducible refine Grew.drew ?_) | (with_reducible refine Grew.drewN ?_ _) | (with_reducible refine Grew.setRow ?_ (by first | (simp; done) | (simp; omega) | omega) _) | (with_reducible refine Grew.setCell ?_ (by first | (simp; done) | (simp; omega) | omega) _) | ((with_reducible apply Grew.trans); rotate_left; (with_reducible assumption)) | ((with_reducible apply Grew.turn); rotate_left; (with_reducible assumption); (focus (intro i hi; first | omega | (simp at hi; omega)))) | fail)⟩
  | false =>
  rw [if_neg (by simp)] at hr
  rcases idxP_cases emL T.labels with ⟨k, hk, hi, -, -⟩ | ⟨hi, -⟩
  rotate_left
  · rw [hi, if_pos (by omega)] at hr
    injection hr with e1 e2
    subst e1; subst e2
    have HIE := Lib.hid hi
    clear hi
    go_enter Try.func30, Try.ntmps30
    go_wp2_with fail
    refine HV.out.mono ?_
    rintro e w1 ⟨rfl, g1⟩
    rw [HVF.out]
    have hr1 := HRF.out.grew g1
    have r0 := hr1.cell 0
    have r1 := hr1.cell 1
    have hrl := hr1.lt
    have hz1 := HZ0.out.grew g1
    have hzl := hz1.lt
    have HG1 := Lib.hid (HG0.out.trans g1)
    have HB1 := Lib.hid (HB0.out.grew g1)
    have HR1 := Lib.hid hr1
    have HZ1 := Lib.hid hz1
    have b2 := HB1.out.cell 2
    have hbl := HB1.out.lt
    clear hz1 hr1 g1
    go_wp2_with fail
    refine (hasTent_any A c xs T (w.heap.size + 1) id unit w1 (HTB.out.hold HG1.out) HS.out HR1.out _ rfl).mono ?_
    rintro e w2 ⟨rfl, g2⟩
    rw [HTE.out]
    have HG2 := Lib.hid (HG1.out.trans g2)
    have HB2 := Lib.hid (HB1.out.grew g2)
    have HR2 := Lib.hid (HR1.out.grew g2)
    have HZ2 := Lib.hid (HZ1.out.grew g2)
    clear b2 hbl r0 r1 hrl hzl g2
    have b2 := HB2.out.cell 2
    have hbl := HB2.out.lt
    go_wp2_with fail
    refine (find_empty A c xs T (w.heap.size + 1) id unit w2 (HTB.out.hold HG2.out) HS.out HR2.out _ rfl).mono ?_
    rintro e w3 ⟨rfl, g3⟩
    rw [HIE.out]
    have hz1 := HZ2.out.grew g3
    have hzl2 := hz1.lt
    have z0 := hz1.cell 0
    have z1 := hz1.cell 1
    have z2 := hz1.cell 2
    have f0 := hz1.frozen 0
    have f1 := hz1.frozen 1
    have f2 := hz1.frozen 2
    have hg1 := HG2.out.trans g3
    clear hz1 g3
    go_wp2_with fail
    refine bodyPost_ret (by first | (simp [*, results, Try.results30, go_sem]; rfl) | simp [*, results, Try.results30, go_sem]) rfl ?_
    exact ⟨none, 0, [], rfl, TabAt.zero _, by (repeat' first | (with_reducible exact Grew.refl _) | (with_reducible assumption) | (with_reducible refine Grew.alloc ?_ _) | (with_reducible refine Grew.drew ?_) | (with_reducible refine Grew.drewN ?_ _) | (with_reducible refine Grew.setRow ?_ (by first | (simp; done) | (simp; omega) | omega) _) | (with_reducible refine Grew.setCell ?_ (by first | (simp; done) | (simp; omega) | omega) _) | ((with_reducible apply Grew.trans); rotate_left; (with_reducible assumption)) | ((with_reducible apply Grew.turn); rotate_left; (with_reducible assumption); (focus (intro i hi; first | omega | (simp at hi; omega)))) | fail)⟩
  rw [hi, if_neg (by omega), Int.toNat_natCast] at hr
  have HIE := Lib.hid hi
  have hkn : (k : Int) < (T.labels.length : Int) := by omega
  obtain ⟨kf, hkf⟩ : ∃ kf, freeT T = kf := ⟨_, rfl⟩
  have hkl : kf.length ≤ 128 := by rw [← hkf]; exact freeT_len T
  rw [hkf] at hr
  obtain ⟨ka, hka⟩ : ∃ ka, ints (allocS (memS kf) n 16).1 = ka := ⟨_, rfl⟩
  obtain ⟨er2, her⟩ : ∃ er2, (allocS (memS kf) n 16).2 = er2 := ⟨_, rfl⟩
  rw [hka, her] at hr
  have HKF := Lib.hid hkf
  have HKA := Lib.hid hka
  have HER := Lib.hid her
  clear hi hkf hka her
  by_cases h0 : er2 = 0
  rotate_left
  · rw [if_neg h0] at hr
    injection hr with e1 e2
    subst e1; subst e2
    have hne : (er2 != 0) = true := by rw [bne_iff_ne]; exact h0
    clear h0
    go_enter Try.func30, Try.ntmps30
    go_wp2_with fail
    refine HV.out.mono ?_
    rintro e w1 ⟨rfl, g1⟩
    rw [HVF.out]
    have hr1 := HRF.out.grew g1
    have r0 := hr1.cell 0
    have r1 := hr1.cell 1
    have hrl := hr1.lt
    have hz1 := HZ0.out.grew g1
    have hzl := hz1.lt
    have HG1 := Lib.hid (HG0.out.trans g1)
    have HB1 := Lib.hid (HB0.out.grew g1)
    have HR1 := Lib.hid hr1
    have HZ1 := Lib.hid hz1
    have b2 := HB1.out.cell 2
    have hbl := HB1.out.lt
    clear hz1 hr1 g1
    go_wp2_with fail
    refine (hasTent_any A c xs T (w.heap.size + 1) id unit w1 (HTB.out.hold HG1.out) HS.out HR1.out _ rfl).mono ?_
    rintro e w2 ⟨rfl, g2⟩
    rw [HTE.out]
    have HG2 := Lib.hid (HG1.out.trans g2)
    have HB2 := Lib.hid (HB1.out.grew g2)
    have HR2 := Lib.hid (HR1.out.grew g2)
    have HZ2 := Lib.hid (HZ1.out.grew g2)
    clear b2 hbl r0 r1 hrl hzl g2
    have b2 := HB2.out.cell 2
    have hbl := HB2.out.lt
    go_wp2_with fail
    refine (find_empty A c xs T (w.heap.size + 1) id unit w2 (HTB.out.hold HG2.out) HS.out HR2.out _ rfl).mono ?_
    rintro e w3 ⟨rfl, g3⟩
    rw [HIE.out]
    have HG3 := Lib.hid (HG2.out.trans g3)
    have HB3 := Lib.hid (HB2.out.grew g3)
    have HR3 := Lib.hid (HR2.out.grew g3)
    have HZ3 := Lib.hid (HZ2.out.grew g3)
    clear b2 hbl g3
    have b0 := HB3.out.cell 0
    have b1 := HB3.out.cell 1
    have b2 := HB3.out.cell 2
    have hbl := HB3.out.lt
    go_wp2_with fail
    refine (free_tab A c xs T w3 (HTB.out.hold HG3.out) HS.out _ rfl kf HKF.out).mono ?_
    rintro e w4 ⟨A4, c4, rfl, hr4, g4⟩
    have HG4 := Lib.hid (HG3.out.trans g4)
    have HB4 := Lib.hid (HB3.out.grew g4)
    have HR4 := Lib.hid (HR3.out.grew g4)
    have HZ4 := Lib.hid (HZ3.out.grew g4)
    clear b0 b1 b2 hbl g4
    go_wp2_with fail
    refine (alloc_new rfl (by omega) hr4 n n0 n1 16 ka er2 HKA.out HER.out).mono ?_
    rintro e w5 ⟨A5, c5, rfl, hn5, g5⟩
    clear hr4
    have hz1 := HZ4.out.grew g5
    have hzl5 := hz1.lt
    have z0 := hz1.cell 0
    have z1 := hz1.cell 1
    have z2 := hz1.cell 2
    have f0 := hz1.frozen 0
    have f1 := hz1.frozen 1
    have f2 := hz1.frozen 2
    have hg1 := HG4.out.trans g5
    clear hz1 g5 hn5
    go_wp2_with fail
    refine bodyPost_ret (by first | (simp [*, results, Try.results30, go_sem]; rfl) | simp [*, results, Try.results30, go_sem]) rfl ?_
    exact ⟨none, 0, [], rfl, TabAt.zero _, by (repeat' first | (with_reducible exact Grew.refl _) | (with_reducible assumption) | (with_reducible refine Grew.alloc ?_ _) | (with_reducible refine Grew.drew ?_) | (with_reducible refine Grew.drewN ?_ _) | (with_reducible refine Grew.setRow ?_ (by first | (simp; done) | (simp; omega) | omega) _) | (with_reducible refine Grew.setCell ?_ (by first | (simp; done) | (simp; omega) | omega) _) | ((with_reducible apply Grew.trans); rotate_left; (with_reducible assumption)) | ((with_reducible apply Grew.turn); rotate_left; (with_reducible assumption); (focus (intro i hi; first | omega | (simp at hi; omega)))) | fail)⟩
  subst h0
  rw [if_pos rfl] at hr
  injection hr with e1 e2
  subst e2
  have HT' := Lib.hid e1
  clear e1
  go_enter Try.func30, Try.ntmps30
  go_wp2_with fail
  refine HV.out.mono ?_
  rintro e w1 ⟨rfl, g1⟩
  rw [HVF.out]
  have hr1 := HRF.out.grew g1
  have r0 := hr1.cell 0
  have r1 := hr1.cell 1
  have hrl := hr1.lt
  have hz1 := HZ0.out.grew g1
  have hzl := hz1.lt
  have HG1 := Lib.hid (HG0.out.trans g1)
  have HB1 := Lib.hid (HB0.out.grew g1)
  have HR1 := Lib.hid hr1
  have HZ1 := Lib.hid hz1
  have b2 := HB1.out.cell 2
  have hbl := HB1.out.lt
  clear hz1 hr1 g1
  go_wp2_with fail
  refine (hasTent_any A c xs T (w.heap.size + 1) id unit w1 (HTB.out.hold HG1.out) HS.out HR1.out _ rfl).mono ?_
  rintro e w2 ⟨rfl, g2⟩
  rw [HTE.out]
  have HG2 := Lib.hid (HG1.out.trans g2)
  have HB2 := Lib.hid (HB1.out.grew g2)
  have HR2 := Lib.hid (HR1.out.grew g2)
  have HZ2 := Lib.hid (HZ1.out.grew g2)
  clear b2 hbl r0 r1 hrl hzl g2
  have b2 := HB2.out.cell 2
  have hbl := HB2.out.lt
  go_wp2_with fail
  refine (find_empty A c xs T (w.heap.size + 1) id unit w2 (HTB.out.hold HG2.out) HS.out HR2.out _ rfl).mono ?_
  rintro e w3 ⟨rfl, g3⟩
  rw [HIE.out]
  have HG3 := Lib.hid (HG2.out.trans g3)
  have HB3 := Lib.hid (HB2.out.grew g3)
  have HR3 := Lib.hid (HR2.out.grew g3)
  have HZ3 := Lib.hid (HZ2.out.grew g3)
  clear b2 hbl g3
  have b0 := HB3.out.cell 0
  have b1 := HB3.out.cell 1
  have b2 := HB3.out.cell 2
  have hbl := HB3.out.lt
  go_wp2_with fail
  refine (free_tab A c xs T w3 (HTB.out.hold HG3.out) HS.out _ rfl kf HKF.out).mono ?_
  rintro e w4 ⟨A4, c4, rfl, hr4, g4⟩
  have HG4 := Lib.hid (HG3.out.trans g4)
  have HB4 := Lib.hid (HB3.out.grew g4)
  have HR4 := Lib.hid (HR3.out.grew g4)
  have HZ4 := Lib.hid (HZ3.out.grew g4)
  clear b0 b1 b2 hbl g4
  go_wp2_with fail
  refine (alloc_new rfl (by omega) hr4 n n0 n1 16 ka 0 HKA.out HER.out).mono ?_
  rintro e w5 ⟨A5, c5, rfl, hn5, g5⟩
  clear hr4
  have HG5 := Lib.hid (HG4.out.trans g5)
  have HB5 := Lib.hid (HB4.out.grew g5)
  have HR5 := Lib.hid (HR4.out.grew g5)
  have HZ5 := Lib.hid (HZ4.out.grew g5)
  have HN5 := Lib.hid hn5
  clear g5 hn5
  have b0 := HB5.out.cell 0
  have b1 := HB5.out.cell 1
  have b2 := HB5.out.cell 2
  have hbl := HB5.out.lt
  go_wp2_with fail
  refine (clone_tab A c xs T w5 (HTB.out.hold HG5.out) HS.out _ rfl).mono ?_
  rintro e w6 ⟨v, ys, rfl, hto, g6⟩
  obtain ⟨g, cap, rfl, hgb, hgs⟩ : ∃ g cap, v = .slice (some ⟨g, 0, none⟩) T.labels.length cap ∧ w5.heap.size ≤ g ∧ g < w6.heap.size := by
    rcases hto.own.form with ⟨_, h0⟩ | ⟨g, cap, hv, h1, h2, -⟩
    · have := congrArg List.length h0; rw [List.length_map, hto.len, List.length_nil] at this; omega
    · rw [List.length_map, hto.len] at hv; exact ⟨g, cap, hv, h1, h2⟩
  have hl1 : k < cap := by have := hto.own.len.2.1; omega
  obtain ⟨B, d, hrow, -, -, -⟩ := hto.row hk
  have y0 : w6.cell? ⟨g, k * 5, none⟩ = some (.int .i64 T.labels[k].id) := hto.own.cell0 hrow rfl
  have y1 : w6.cell? ⟨g, k * 5 + 1, none⟩ = some (.int .i64 T.labels[k].unit) := hto.own.cell hrow (i := 1) rfl
  have y2 : w6.cell? ⟨g, k * 5 + 2, none⟩ = some (.string T.labels[k].name) := hto.own.cell hrow (i := 2) rfl
  have y3 : w6.cell? ⟨g, k * 5 + 3, none⟩ = some (.string T.labels[k].note) := hto.own.cell hrow (i := 3) rfl
  have y4 : w6.cell? ⟨g, k * 5 + 4, none⟩ = some (.slice B T.labels[k].ext.length d) := hto.own.cell hrow (i := 4) rfl
  have yf0 := hto.own.frozen (k * 5)
  have yf1 := hto.own.frozen (k * 5 + 1)
  have yf2 := hto.own.frozen (k * 5 + 2)
  have yf3 := hto.own.frozen (k * 5 + 3)
  have yf4 := hto.own.frozen (k * 5 + 4)
  have hr6 := HR5.out.grew g6
  have r60 := hr6.cell 0
  have r61 := hr6.cell 1
  have hrl6 := hr6.lt
  have hz6 := HZ5.out.grew g6
  have z0 := hz6.cell 0
  have z1 := hz6.cell 1
  have z2 := hz6.cell 2
  have f0 := hz6.frozen 0
  have f1 := hz6.frozen 1
  have f2 := hz6.frozen 2
  have hzl6 := hz6.lt
  have hz5 := HZ5.out.lt
  have hla : LabAt w6 A5 c5 ⟨id, unit, nm, nt, ka⟩ := ⟨by simp only; omega, by simp only; omega, by simp only; omega, by simp only; omega, hns, hts, (HN5.out.hold g6).1, HN5.out.2.1, HN5.out.2.2.1⟩
  have hfar : 0 < ka.length → ∀ b off, A5 = some ⟨b, off, none⟩ → b ≠ g := fun h0 b off e => by
    obtain ⟨b', off', e', hb', _⟩ := HN5.out.1.2 (by simpa using h0)
    rw [e] at e'
    injection e' with e'
    injection e' with e'
    omega
  have ht7 := (hto.set5 hk ⟨A5, c5, ⟨id, unit, nm, nt, ka⟩⟩ hla hfar).hold ((Grew.refl _).alloc (.cells #[.string T.name, .int .i64 T.tracks, .slice (some ⟨g, 0, none⟩) T.labels.length cap] 34))
  have tu7 := set5_turned w6 g (k * 5) (.int .i64 id) (.int .i64 unit) (.string nm) (.string nt) (.slice A5 ka.length c5)
  have hz7 := (hz6.turned tu7 (by omega)).alloc (.cells #[.string T.name, .int .i64 T.tracks, .slice (some ⟨g, 0, none⟩) T.labels.length cap] 34)
  have hx7 := Blk.new (((((w6.setCell ⟨g, k * 5, none⟩ (.int .i64 id)).setCell ⟨g, k * 5 + 1, none⟩ (.int .i64 unit)).setCell ⟨g, k * 5 + 2, none⟩ (.string nm)).setCell ⟨g, k * 5 + 3, none⟩ (.string nt)).setCell ⟨g, k * 5 + 4, none⟩ (.slice A5 ka.length c5)) 34 #[.string T.name, .int .i64 T.tracks, .slice (some ⟨g, 0, none⟩) T.labels.length cap] (n := w6.heap.size) (by simp [World.setCell])
  have hg7 := (((HG5.out.trans g6)).turn tu7 (fun i e => by have := HG5.out.size; omega)).alloc (.cells #[.string T.name, .int .i64 T.tracks, .slice (some ⟨g, 0, none⟩) T.labels.length cap] 34)
  have HAP := Lib.hid (ht7.apart hz7)
  have HT7 := Lib.hid ht7
  have HZ7 := Lib.hid hz7
  have HX7 := Lib.hid hx7
  have HN7 := Lib.hid ht7.nlen
  have HNM := Lib.hid (show T.name.size ≤ 9223372036854775807 ∧ -9223372036854775808 ≤ T.tracks ∧ T.tracks ≤ 9223372036854775807 from ⟨HTB.out.name, HTB.out.tr0, HTB.out.tr1⟩)
  have hww : w.heap.size + 1 + 1 < w5.heap.size := hz5
  have HG7 := Lib.hid hg7
  have hq1 : w.heap.size + 1 + 1 < g := by omega
  have hq2 : w.heap.size + 1 < g := by omega
  clear hg7 a1 a2 a3 a4 a5 a6 a7 a5i a6i hkl n0 n1 hns hts hww hgb hz5 hto hrow hr6 hz6 hla hfar ht7 tu7 hz7 hx7 g6 b0 b1 b2 hbl
  go_upto_region 13 with fail
  obtain ⟨W, hW⟩ : ∃ W, W = (((((w6.setCell ⟨g, k * 5, none⟩ (.int .i64 id)).setCell ⟨g, k * 5 + 1, none⟩ (.int .i64 unit)).setCell ⟨g, k * 5 + 2, none⟩ (.string nm)).setCell ⟨g, k * 5 + 3, none⟩ (.string nt)).setCell ⟨g, k * 5 + 4, none⟩ (.slice A5 ka.length c5)).alloc (.cells #[.string T.name, .int .i64 T.tracks, .slice (some ⟨g, 0, none⟩) T.labels.length cap] 34) := ⟨_, rfl⟩
  rw [← hW]
  rw [← hW] at HT7 HZ7 HX7 HG7
  clear hW z0 z1 z2 f0 f1 f2 y0 y1 y2 y3 y4 yf0 yf1 yf2 yf3 yf4 r60 r61
  have z0 := HZ7.out.cell 0
  have z1 := HZ7.out.cell 1
  have z2 := HZ7.out.cell 2
  have f0 := HZ7.out.frozen 0
  have f1 := HZ7.out.frozen 1
  have f2 := HZ7.out.frozen 2
  have hzl7 := HZ7.out.lt
  have x0 := HX7.out.cell 0
  have x1 := HX7.out.cell 1
  have x2 := HX7.out.cell 2
  have hxl7 := HX7.out.lt
  go_wp2_with fail
  refine bodyPost_ret (by first | (simp [*, results, Try.results30, go_sem]; rfl) | simp [*, results, Try.results30, go_sem]) rfl ?_
  refine ⟨some ⟨g, 0, none⟩, cap, ys.set k ⟨A5, c5, ⟨id, unit, nm, nt, ka⟩⟩, by rw [← HT'.out]; simp only [HN7.out], ?_, by have hg := HG7.out; (repeat' first | (with_reducible exact Grew.refl _) | (with_reducible assumption) | (with_reducible refine Grew.alloc ?_ _) | (with_reducible refine Grew.drew ?_) | (with_reducible refine Grew.drewN ?_ _) | (with_reducible refine Grew.setRow ?_ (by first | (simp; done) | (simp; omega) | omega) _) | (with_reducible refine Grew.setCell ?_ (by first | (simp; done) | (simp; omega) | omega) _) | ((with_reducible apply Grew.trans); rotate_left; (with_reducible assumption)) | ((with_reducible apply Grew.turn); rotate_left; (with_reducible assumption); (focus (intro i hi; first | omega | (simp at hi; omega)))) | fail)⟩
  rw [← HT'.out]
  exact (HT7.out.turned (S := fun k => k = w.heap.size + 1 + 1) (by (repeat' first | (with_reducible exact Turned.refl _ _) | (with_reducible assumption) | (with_reducible refine Turned.alloc ?_ _) | (with_reducible refine Turned.drew ?_) | (with_reducible refine Turned.drewN ?_ _) | (with_reducible refine Turned.setRow ?_ (by first | (simp; done) | (simp; omega) | omega) _) | (with_reducible refine Turned.setCell ?_ (by first | (simp; done) | (simp; omega) | omega) _) | ((with_reducible apply Turned.andGrew); rotate_left; (with_reducible assumption)) | ((with_reducible apply Turned.trans); rotate_left; (with_reducible assumption)) | fail)) (fun g' e => by have e' : g = g' := Option.some.inj e; omega) (fun y hy h0 b off e => HAP.out y hy h0 b off e)).tabAt _ _ HNM.out.1 HNM.out.2.1 HNM.out.2.2
end
end Go.Proofs.Ytnlaogneceanoaa
namespace Go.Proofs.Ytnlaogneceanoaa
set_option linter.unusedVariables false
set_option linter.unusedSimpArgs false
set_option linter.unusedSectionVars false
open Go.RowKit
def sectorS (l : List (Int × Int)) (s : Int) : Int × Bool := if s < 0 then (0, false) else if (atS l (s / 8)).2 = true then ((atS l (s / 8)).1 * 8 + s % 8, true) else (0, false)
theorem at_bd (l : List (Int × Int)) (t : Int) (h0 : 0 ≤ t) (h : (atS l t).2 = true) : ∃ k : Nat, (atS l t).1 = (k : Int) ∧ k < 128 ∧ inT l (k : Int) = true ∧ (seqS l)[t.toNat]? = some k := by
  obtain ⟨n, rfl⟩ : ∃ n : Nat, t = (n : Int) := ⟨t.toNat, by omega⟩
  rw [atS_pick] at h ⊢
  unfold pickT at h ⊢
  by_cases hn : n < (seqS l).length
  · rw [if_pos hn]
    have hm : (seqS l)[n] ∈ seqS l := List.getElem_mem hn
    refine ⟨(seqS l)[n], by simp [hn], seqS_lt l _ hm, by rw [inT_nat]; exact (mem_seqS l _).1 hm, by rw [Int.toNat_natCast, List.getElem?_eq_getElem hn]⟩
  · rw [if_neg hn] at h; cases h
theorem sectorS_neg (l : List (Int × Int)) (s : Int) (h : s < 0) : sectorS l s = (0, false) := if_pos h
theorem sectorS_cases (l : List (Int × Int)) (s : Int) (h : 0 ≤ s) : ((atS l (s / 8)).2 = false ∧ sectorS l s = (0, false)) ∨ ∃ k : Nat, atS l (s / 8) = ((k : Int), true) ∧ k < 128 ∧ inT l (k : Int) = true ∧ (seqS l)[(s / 8).toNat]? = some k ∧ sectorS l s = ((k : Int) * 8 + s % 8, true) := by
  cases hc : (atS l (s / 8)).2 with
  | false => exact .inl ⟨rfl, by unfold sectorS; rw [if_neg (by omega), if_neg (by rw [hc]; simp)]⟩
  | true =>
    obtain ⟨k, h1, h2, h3, h4⟩ := at_bd l (s / 8) (by omega) hc
    exact .inr ⟨k, Prod.ext h1 hc, h2, h3, h4, by unfold sectorS; rw [if_neg (by omega), if_pos hc, h1]⟩
section
variable (A : Option Addr) (c : Nat) (l : Lab) (w : World)
set_option maxRecDepth 100000 in
set_option maxHeartbeats 2000000 in
theorem sector_lab (hla : LabAt w A c l) (hs : l.ext.length ≤ 1000) (s : Int) (s0 : -9223372036854775808 ≤ s) (s1 : s ≤ 9223372036854775807) (a : Int) (b : Bool) (hab : sectorS l.ext s = (a, b)) :
    Calls Try.prog 9 #[.agg #[.int .i64 l.id, .int .i64 l.unit, .string l.name, .string l.note, .slice A l.ext.length c], .int .i64 s] w fun e w' => e = .returned (.tuple #[.int .i64 a, .bool b]) ∧ Grew w w' := by
  have hg0 := (Grew.refl w).alloc (.cells #[.int .i64 l.id, .int .i64 l.unit, .string l.name, .string l.note, .slice A l.ext.length c] 24)
  by_cases hn : s < 0
  · rw [sectorS_neg _ _ hn] at hab
    injection hab with e1 e2
    subst e1; subst e2
    go_enter Try.func9, Try.ntmps9
    go_wp2_with fail
    go_returns
    exact ⟨rfl, by (repeat' first | (with_reducible exact Grew.refl _) | (with_reducible assumption) | (with_reducible refine Grew.alloc ?_ _) | (with_reducible refine Grew.drew ?_) | (with_reducible refine Grew.drewN ?_ _) | (with_reducible refine Grew.setRow ?_ (by first | (simp; done) | (simp; omega) | omega) _) | (with_reducible refine Grew.setCell ?_ (by first | (simp; done) | (simp; omega) | omega) _) | ((with_reducible apply Grew.trans); rotate_left; (with_reducible assumption)) | ((with_reducible apply Grew.turn); rotate_left; (with_reducible assumption); (focus (intro i hi; first | omega | (simp at hi; omega)))) | fail)⟩
  have hs0 : 0 ≤ s := by omega
  have HC := Lib.hid (fun w1 (hg : Grew w w1) => at_val A c _ l.ext _ rfl (by omega) (hla.hold hg).runs (s / 8) (by omega) (by omega))
  have hd : s.tdiv 8 = s / 8 := Int.tdiv_eq_ediv_of_nonneg hs0
  have hm : s.tmod 8 = s % 8 := Int.tmod_eq_emod_of_nonneg hs0
  rcases sectorS_cases l.ext s hs0 with ⟨h2, hx⟩ | ⟨k, h1, h2, _, _, hx⟩
  · rw [hx] at hab
    injection hab with e1 e2
    subst e1; subst e2
    obtain ⟨⟨x, y⟩, hxy⟩ : ∃ p, atS l.ext (s / 8) = p := ⟨_, rfl⟩
    rw [hxy] at h2
    simp only at h2
    subst h2
    have HX := Lib.hid (show (if s / 8 < 0 then ((0, false) : Int × Bool) else atS l.ext (s / 8)) = (x, false) from by rw [if_neg (by omega), hxy])
    clear hx hxy hla
    go_enter Try.func9, Try.ntmps9
    go_wp2_with fail
    refine (HC.out _ hg0 _ _ HX.out).mono ?_
    rintro e w2 ⟨rfl, g2⟩
    go_wp2_with fail
    go_returns
    exact ⟨rfl, hg0.trans g2⟩
  · rw [hx] at hab
    injection hab with e1 e2
    subst e2
    have HX := Lib.hid (show (if s / 8 < 0 then ((0, false) : Int × Bool) else atS l.ext (s / 8)) = ((k : Int), true) from by rw [if_neg (by omega), h1])
    have hmb : 0 ≤ s % 8 ∧ s % 8 < 8 := by omega
    have HA := Lib.hid e1
    clear hx h1 hla e1
    go_enter Try.func9, Try.ntmps9
    go_wp2_with fail
    refine (HC.out _ hg0 _ _ HX.out).mono ?_
    rintro e w2 ⟨rfl, g2⟩
    go_wp2_with fail
    go_returns
    exact ⟨ret_ib (by rw [← HA.out] <;> omega) rfl, hg0.trans g2⟩
end
def awS : ByteArray := ⟨#[86, 79, 76]⟩
def awN : ByteArray := ⟨#[110, 111, 116, 101]⟩
def awT1 : Tab := ⟨awS, 16, [labZ, labZ, labZ]⟩
def awT2 : Tab := ⟨awS, 16, [⟨5, 2, ⟨#[65]⟩, ⟨#[]⟩, [(4, 3)]⟩, labZ, labZ]⟩
def awT3 : Tab := ⟨awS, 16, [⟨5, 0, ⟨#[65]⟩, awN, [(4, 3)]⟩, labZ, labZ]⟩
theorem aw_new : newT awS 16 = (awT1, 0) := by kernel_rfl
theorem aw_create : createT awT1 5 2 ⟨#[65]⟩ ⟨#[]⟩ 3 = (awT2, 0) := by kernel_rfl
theorem aw_confirm : chgT awT2 5 2 (chCon awT2 5 awN) = (awT3, 0) := by kernel_rfl
theorem aw_find : fndT awT3 5 0 = (⟨5, 0, ⟨#[65]⟩, awN, [(4, 3)]⟩, true) := by kernel_rfl
theorem aw_sector : sectorS [(4, 3)] 9 = (41, true) := by decide +kernel
end Go.Proofs.Ytnlaogneceanoaa
namespace Go.Proofs.Ytnlaogneceanoaa
set_option linter.unusedVariables false
set_option linter.unusedSimpArgs false
set_option linter.unusedSectionVars false
open Go.RowKit
theorem small_of (T : Tab) (h1 : T.labels.length ≤ 1000) (h2 : T.labels.all (fun l => decide (l.ext.length ≤ 1000)) = true) : SmallT T :=
  ⟨h1, fun l hl => by have := List.all_eq_true.1 h2 l hl; simpa using this⟩
/-- A variable that holds a table gets another one. -/
theorem Blk.tab {w : World} {g : Nat} {t : TypeId} {s0 s1 : ByteArray} {i0 i1 : Int} {a0 a1 : Option Addr} {n0 c0 n1 c1 : Nat} (h : Blk w g t #[.string s0, .int .i64 i0, .slice a0 n0 c0]) : Blk (((w.setCell ⟨g, 0, none⟩ (.string s1)).setCell ⟨g, 1, none⟩ (.int .i64 i1)).setCell ⟨g, 2, none⟩ (.slice a1 n1 c1)) g t #[.string s1, .int .i64 i1, .slice a1 n1 c1] :=
  ((h.set_ 0 _).set_ 1 _).set_ 2 _
theorem tab3_turned (w : World) (g : Nat) (a b c : Value) : Turned (fun x => x = g) w (((w.setCell ⟨g, 0, none⟩ a).setCell ⟨g, 1, none⟩ b).setCell ⟨g, 2, none⟩ c) :=
  ((set_turned w g 0 a).trans (set_turned _ g 1 b)).trans (set_turned _ g 2 c)
theorem Grew.tab3 {a w : World} (h : Grew a w) {g : Nat} (hg : a.heap.size ≤ g) (x y z : Value) : Grew a (((w.setCell ⟨g, 0, none⟩ x).setCell ⟨g, 1, none⟩ y).setCell ⟨g, 2, none⟩ z) := ((h.setCell (p := ⟨g, 0, none⟩) hg x).setCell (p := ⟨g, 1, none⟩) hg y).setCell (p := ⟨g, 2, none⟩) hg z
set_option maxRecDepth 100000 in
set_option maxHeartbeats 8000000 in
theorem awake_con (w : World) : Calls Try.prog 7 #[] w fun e w' => e = .returned (.bool true) ∧ Grew w w' := by
  have HNEW := Lib.hid (fun w => new_tab awS 16 w (by decide) (by omega) (by omega) awT1 0 aw_new)
  have HCR := Lib.hid (fun A c xs w (h : TabAt w A c xs awT1) => create_tab A c xs awT1 5 2 w h (small_of _ (by decide) (by decide)) ⟨#[65]⟩ ⟨#[]⟩ (by decide) (by decide) 3 (by omega) (by omega) awT2 0 aw_create)
  have HCF := Lib.hid (fun A c xs w (h : TabAt w A c xs awT2) => confirm_tab A c xs awT2 5 2 w h (small_of _ (by decide) (by decide)) awN (by decide) awT3 0 aw_confirm)
  have HFD := Lib.hid (fun A c xs w (h : TabAt w A c xs awT3) => find_tab A c xs awT3 w h (small_of _ (by decide) (by decide)) _ rfl 5 0 ⟨5, 0, ⟨#[65]⟩, awN, [(4, 3)]⟩ true aw_find)
  have hn3 : awT3.labels.length = 3 := rfl
  have hnl : awN.toList = [110, 111, 116, 101] := by kernel_rfl
  go_enter Try.func7, Try.ntmps7
  go_wp2_with fail
  refine (HNEW.out _).mono ?_
  rintro e w1 ⟨A1, c1, xs1, rfl, ht1, g1⟩
  have ga : Grew w1 (w1.alloc (.cells #[.string awT1.name, .int .i64 awT1.tracks, .slice A1 awT1.labels.length c1] 34)) := (Grew.refl w1).alloc _
  have HT1 := Lib.hid (ht1.hold ga)
  have HB1 := Lib.hid (Blk.new w1 34 #[.string awT1.name, .int .i64 awT1.tracks, .slice A1 awT1.labels.length c1] rfl)
  have HG1 := Lib.hid (g1.trans ga)
  have HW1 := Lib.hid g1.size
  clear ht1 ga g1
  go_wp2_with fail
  refine (HCR.out A1 c1 xs1 _ HT1.out).mono ?_
  rintro e w2 ⟨A2, c2, xs2, rfl, ht2, g2⟩
  have hb2 := HB1.out.grew g2
  have z0 := hb2.cell 0
  have z1 := hb2.cell 1
  have z2 := hb2.cell 2
  have f0 := hb2.frozen 0
  have f1 := hb2.frozen 1
  have f2 := hb2.frozen 2
  have hzl := hb2.lt
  have HT2 := Lib.hid (ht2.apart hb2 (tab3_turned w2 w1.heap.size (.string awT2.name) (.int .i64 awT2.tracks) (.slice A2 awT2.labels.length c2)))
  have HB2 := Lib.hid (hb2.tab (s1 := awT2.name) (i1 := awT2.tracks) (a1 := A2) (n1 := awT2.labels.length) (c1 := c2))
  have HG2 := Lib.hid ((HG1.out.trans g2).tab3 HW1.out (.string awT2.name) (.int .i64 awT2.tracks) (.slice A2 awT2.labels.length c2))
  clear ht2 g2 hb2
  go_wp2_with fail
  refine (HCF.out A2 c2 xs2 _ HT2.out).mono ?_
  rintro e w3 ⟨A3, c3, xs3, rfl, ht3, g3⟩
  clear z0 z1 z2 f0 f1 f2 hzl
  have hb3 := HB2.out.grew g3
  have z0 := hb3.cell 0
  have z1 := hb3.cell 1
  have z2 := hb3.cell 2
  have f0 := hb3.frozen 0
  have f1 := hb3.frozen 1
  have f2 := hb3.frozen 2
  have hzl := hb3.lt
  have HT3 := Lib.hid (ht3.apart hb3 (tab3_turned w3 w1.heap.size (.string awT3.name) (.int .i64 awT3.tracks) (.slice A3 awT3.labels.length c3)))
  have HB3 := Lib.hid (hb3.tab (s1 := awT3.name) (i1 := awT3.tracks) (a1 := A3) (n1 := awT3.labels.length) (c1 := c3))
  have HG3 := Lib.hid ((HG2.out.trans g3).tab3 HW1.out (.string awT3.name) (.int .i64 awT3.tracks) (.slice A3 awT3.labels.length c3))
  clear ht3 g3 hb3
  go_wp2_with fail
  refine (HFD.out A3 c3 xs3 _ HT3.out).mono ?_
  rintro e w4 ⟨B4, d4, rfl, hl4, g4⟩
  clear z0 z1 z2 f0 f1 f2 hzl
  have gb : Grew w4 (w4.alloc (.cells #[.int .i64 5, .int .i64 0, .string ⟨#[65]⟩, .string awN, .slice B4 1 d4] 24)) := (Grew.refl w4).alloc _
  have HL4 := Lib.hid (hl4.hold gb)
  have HN4 := Lib.hid (Blk.new w4 24 #[.int .i64 5, .int .i64 0, .string ⟨#[65]⟩, .string awN, .slice B4 1 d4] rfl)
  have HB4 := Lib.hid ((HB3.out.grew g4).grew gb)
  have HG4 := Lib.hid ((HG3.out.trans g4).trans gb)
  clear hl4 gb g4
  go_wp2_with fail
  refine (sector_lab B4 d4 _ _ HL4.out (by decide) 9 (by omega) (by omega) 41 true aw_sector).mono ?_
  rintro e w5 ⟨rfl, g5⟩
  have hn5 := HN4.out.grew g5
  have y3 := hn5.cell 3
  have y4 := hn5.cell 4
  have hyl := hn5.lt
  have hb5 := HB4.out.grew g5
  have z2 := hb5.cell 2
  have hzl := hb5.lt
  have ga5 : Grew w5 (w5.alloc (.cells #[.int .i64 4, .int .i64 3] 58)) := (Grew.refl w5).alloc _
  have r5 : RunsAt (w5.alloc (.cells #[.int .i64 4, .int .i64 3] 58)) (w5.alloc (.cells #[.int .i64 4, .int .i64 3] 58)).heap.size (some ⟨w5.heap.size, 0, none⟩) [(4, 3)] := blk_runs (Blk.new w5 _ _ rfl) rfl (by simp [okRun])
  have HS := Lib.hid (same_val B4 (some ⟨w5.heap.size, 0, none⟩) d4 1 1 1 [(4, 3)] [(4, 3)] _ rfl rfl (by decide) (by decide) ((HL4.out.hold g5).hold ga5).runs r5 true (by decide))
  have HB6 := Lib.hid (hb5.grew ga5)
  have HG5 := Lib.hid ((HG4.out.trans g5).trans ga5)
  clear r5 ga5 hn5 hb5 g5
  go_wp2_with fail
  refine HS.out.mono ?_
  rintro e w6 ⟨rfl, g6⟩
  clear z2 hzl
  have hb6 := HB6.out.grew g6
  have z2 := hb6.cell 2
  have hzl := hb6.lt
  go_wp2_with fail
  go_ret
  exact ⟨rfl, HG5.out.trans g6⟩
end Go.Proofs.Ytnlaogneceanoaa
namespace Go.Proofs.Ytnlaogneceanoaa
set_option linter.unusedVariables false
set_option linter.unusedSimpArgs false
set_option linter.unusedSectionVars false
open Go.RowKit
attribute [local go_sem ↓] Go.wp_at_zero Go.wp_at_succ
/-- The first empty slot from p on, or -1. -/
def SlotR (ls : List Lab) (p : Nat) (s : Int) : Prop :=
  (s = -1 ∧ ∀ j (hj : j < ls.length), p ≤ j → emL ls[j] = false) ∨ (∃ q : Nat, s = (q : Int) ∧ p ≤ q ∧ ∃ hq : q < ls.length, emL ls[q] = true ∧ ∀ j (hj : j < ls.length), p ≤ j → j < q → emL ls[j] = false)
theorem SlotR.keep {ls : List Lab} {q : Nat} {s : Int} (h : SlotR ls (q + 1) s) (hq : q < ls.length) (he : emL ls[q] = false) : SlotR ls q s := by
  rcases h with ⟨h1, h2⟩ | ⟨k, h1, h2, h3, h4, h5⟩
  · refine .inl ⟨h1, fun j hj hjq => ?_⟩
    by_cases e : j = q
    · subst e; exact he
    · exact h2 j hj (by omega)
  · refine .inr ⟨k, h1, by omega, h3, h4, fun j hj hjq hjk => ?_⟩
    by_cases e : j = q
    · subst e; exact he
    · exact h5 j hj (by omega) hjk
theorem SlotR.done {ls : List Lab} {s : Int} (h : SlotR ls 0 s) : idxP emL ls = s := by
  rcases h with ⟨h1, h2⟩ | ⟨k, h1, h2, h3, h4, h5⟩
  · rw [h1]; exact idxP_none _ _ (fun j hj => h2 j hj (by omega))
  · rw [h1]; exact idxP_hit _ _ k h3 h4 (fun j hj hjk => h5 j hj (by omega) hjk)
section
variable (A : Option Addr) (c : Nat) (xs : List LabE) (T : Tab) (id unit : Int) (w : World)
end
end Go.Proofs.Ytnlaogneceanoaa
namespace Go.Proofs.Ytnlaogneceanoaa
set_option linter.unusedVariables false
set_option linter.unusedSimpArgs false
set_option linter.unusedSectionVars false
open Go.RowKit
attribute [local go_sem ↓] Go.wp_at_zero Go.wp_at_succ
def doT (T : Tab) (id unit : Int) (nm nt : ByteArray) (n : Int) (ex : List (Int × Int)) (r : Int) : Tab × Int :=
  if r = 0 then createT T id unit nm nt n else if r = 1 then chgT T id unit (chExt T n) else if r = 2 then chgT T id unit (chRel T n) else if r = 3 then chgT T id unit (chRep T ex) else if r = 4 then chgT T id unit (chCon T id nt) else if r = 5 then chgT T id unit (chNote T nt) else chgT T id unit (chRem T)
section
variable (A : Option Addr) (c : Nat) (xs : List LabE) (T : Tab) (id unit : Int) (w : World) (B : Option Addr) (d : Nat) (k : Nat) (nm nt : ByteArray) (n : Int) (ex : List (Int × Int))
set_option maxRecDepth 100000 in
set_option maxHeartbeats 16000000 in
theorem do_tab (h : TabAt w A c xs T) (hs : SmallT T) (hk : k < 256) (hns : nm.size ≤ 9223372036854775807) (hts : nt.size ≤ 9223372036854775807) (n0 : -9223372036854775808 ≤ n) (n1 : n ≤ 9223372036854775807) (hx : RunsAt w w.heap.size B ex) (hxl : ex.length ≤ 1000) (T' : Tab) (er : Int) (hr : doT T id unit nm nt n ex ((k : Int) % 7) = (T', er)) :
    Calls Try.prog 22 #[.agg #[.string T.name, .int .i64 T.tracks, .slice A T.labels.length c], .agg #[.int .u8 (k : Int), .int .i64 id, .int .i64 unit, .string nm, .string nt, .int .i64 n, .slice B ex.length d]] w (TabR w T' er) := by
  have hg0 := (((Grew.refl w).alloc (.cells #[.string T.name, .int .i64 T.tracks, .slice A T.labels.length c] 34)).alloc (.cells #[.int .u8 (k : Int), .int .i64 id, .int .i64 unit, .string nm, .string nt, .int .i64 n, .slice B ex.length d] 52)).alloc (.cells #[.string ⟨#[]⟩, .int .i64 0, .slice none 0 0] 34)
  have HB0 := Lib.hid (((Blk.new w 34 #[.string T.name, .int .i64 T.tracks, .slice A T.labels.length c] rfl).alloc (.cells #[.int .u8 (k : Int), .int .i64 id, .int .i64 unit, .string nm, .string nt, .int .i64 n, .slice B ex.length d] 52)).alloc (.cells #[.string ⟨#[]⟩, .int .i64 0, .slice none 0 0] 34))
  have HO0 := Lib.hid ((Blk.new (w.alloc (.cells #[.string T.name, .int .i64 T.tracks, .slice A T.labels.length c] 34)) 52 #[.int .u8 (k : Int), .int .i64 id, .int .i64 unit, .string nm, .string nt, .int .i64 n, .slice B ex.length d] (n := w.heap.size + 1) (by simp)).alloc (.cells #[.string ⟨#[]⟩, .int .i64 0, .slice none 0 0] 34))
  have HZ0 := Lib.hid (Blk.new ((w.alloc (.cells #[.string T.name, .int .i64 T.tracks, .slice A T.labels.length c] 34)).alloc (.cells #[.int .u8 (k : Int), .int .i64 id, .int .i64 unit, .string nm, .string nt, .int .i64 n, .slice B ex.length d] 52)) 34 #[.string ⟨#[]⟩, .int .i64 0, .slice none 0 0] (n := w.heap.size + 1 + 1) (by simp))
  have HTB := Lib.hid (h.hold hg0)
  have HX := Lib.hid (RunsAt.hold (w := w) hx hg0)
  have HG0 := Lib.hid hg0
  obtain ⟨r, hrr⟩ : ∃ r : Int, (k : Int) % 7 = r := ⟨_, rfl⟩
  have hr0 : 0 ≤ r := by omega
  have hr6 : r ≤ 6 := by omega
  rw [hrr] at hr
  unfold doT at hr
  clear h hx hg0
  by_cases e0 : r = 0
  · rw [if_pos e0] at hr
    subst e0
    have HC := Lib.hid (create_tab A c xs T id unit _ HTB.out hs nm nt hns hts n n0 n1 T' er hr)
    clear hr hs hr0 hr6
    go_enter Try.func22, Try.ntmps22
    go_wp2_with fail
    refine HC.out.mono ?_
    rintro e w1 ⟨A1, c1, ys, rfl, ht1, g1⟩
    have HZ1 := Lib.hid (HZ0.out.grew g1)
    have HG1 := Lib.hid (HG0.out.trans g1)
    have HT1 := Lib.hid (fun w2 (ht : Turned (fun x => x = w.heap.size + 1 + 1) w1 w2) => ht1.apart HZ1.out ht)
    clear ht1 g1 HC HTB HX HB0 HO0
    have z0 := HZ1.out.cell 0
    have z1 := HZ1.out.cell 1
    have z2 := HZ1.out.cell 2
    have f0 := HZ1.out.frozen 0
    have f1 := HZ1.out.frozen 1
    have f2 := HZ1.out.frozen 2
    have hzl := HZ1.out.lt
    go_wp2_with fail
    refine bodyPost_ret (by first | (simp [*, results, Try.results22, go_sem]; rfl) | simp [*, results, Try.results22, go_sem]) rfl ?_
    exact ⟨A1, c1, ys, rfl, HT1.out _ (by (repeat' first | (with_reducible exact Turned.refl _ _) | (with_reducible assumption) | (with_reducible refine Turned.alloc ?_ _) | (with_reducible refine Turned.drew ?_) | (with_reducible refine Turned.drewN ?_ _) | (with_reducible refine Turned.setRow ?_ (by first | (simp; done) | (simp; omega) | omega) _) | (with_reducible refine Turned.setCell ?_ (by first | (simp; done) | (simp; omega) | omega) _) | ((with_reducible apply Turned.andGrew); rotate_left; (with_reducible assumption)) | ((with_reducible apply Turned.trans); rotate_left; (with_reducible assumption)) | fail)), by have hg := HG1.out; (repeat' first | (with_reducible exact Grew.refl _) | (with_reducible assumption) | (with_reducible refine Grew.alloc ?_ _) | (with_reducible refine Grew.drew ?_) | (with_reducible refine Grew.drewN ?_ _) | (with_reducible refine Grew.setRow ?_ (by first | (simp; done) | (simp; omega) | omega) _) | (with_reducible refine Grew.setCell ?_ (by first | (simp; done) | (simp; omega) | omega) _) | ((with_reducible apply Grew.trans); rotate_left; (with_reducible assumption)) | ((with_reducible apply Grew.turn); rotate_left; (with_reducible assumption); (focus (intro i hi; first | omega | (simp at hi; omega)))) | fail)⟩
  rw [if_neg e0] at hr
  by_cases e1 : r = 1
  · rw [if_pos e1] at hr
    subst e1
    have HC := Lib.hid (extend_tab A c xs T id unit _ HTB.out hs n n0 n1 T' er hr)
    clear hr hs hr0 hr6
    go_enter Try.func22, Try.ntmps22
    go_wp2_with fail
    refine HC.out.mono ?_
    rintro e w1 ⟨A1, c1, ys, rfl, ht1, g1⟩
    have HZ1 := Lib.hid (HZ0.out.grew g1)
    have HG1 := Lib.hid (HG0.out.trans g1)
    have HT1 := Lib.hid (fun w2 (ht : Turned (fun x => x = w.heap.size + 1 + 1) w1 w2) => ht1.apart HZ1.out ht)
    clear ht1 g1 HC HTB HX HB0 HO0
    have z0 := HZ1.out.cell 0
    have z1 := HZ1.out.cell 1
    have z2 := HZ1.out.cell 2
    have f0 := HZ1.out.frozen 0
    have f1 := HZ1.out.frozen 1
    have f2 := HZ1.out.frozen 2
    have hzl := HZ1.out.lt
    go_wp2_with fail
    refine bodyPost_ret (by first | (simp [*, results, Try.results22, go_sem]; rfl) | simp [*, results, Try.results22, go_sem]) rfl ?_
    exact ⟨A1, c1, ys, rfl, HT1.out _ (by (repeat' first | (with_reducible exact Turned.refl _ _) | (with_reducible assumption) | (with_reducible refine Turned.alloc ?_ _) | (with_reducible refine Turned.drew ?_) | (with_reducible refine Turned.drewN ?_ _) | (with_reducible refine Turned.setRow ?_ (by first | (simp; done) | (simp; omega) | omega) _) | (with_reducible refine Turned.setCell ?_ (by first | (simp; done) | (simp; omega) | omega) _) | ((with_reducible apply Turned.andGrew); rotate_left; (with_reducible assumption)) | ((with_reducible apply Turned.trans); rotate_left; (with_reducible assumption)) | fail)), by have hg := HG1.out; (repeat' first | (with_reducible exact Grew.refl _) | (with_reducible assumption) | (with_reducible refine Grew.alloc ?_ _) | (with_reducible refine Grew.drew ?_) | (with_reducible refine Grew.drewN ?_ _) | (with_reducible refine Grew.setRow ?_ (by first | (simp; done) | (simp; omega) | omega) _) | (with_reducible refine Grew.setCell ?_ (by first | (simp; done) | (simp; omega) | omega) _) | ((with_reducible apply Grew.trans); rotate_left; (with_reducible assumption)) | ((with_reducible apply Grew.turn); rotate_left; (with_reducible assumption); (focus (intro i hi; first | omega | (simp at hi; omega)))) | fail)⟩
  rw [if_neg e1] at hr
  by_cases e2 : r = 2
  · rw [if_pos e2] at hr
    subst e2
    have HC := Lib.hid (release_tab A c xs T id unit _ HTB.out hs n n0 n1 T' er hr)
    clear hr hs hr0 hr6
    go_enter Try.func22, Try.ntmps22
    go_wp2_with fail
    refine HC.out.mono ?_
    rintro e w1 ⟨A1, c1, ys, rfl, ht1, g1⟩
    have HZ1 := Lib.hid (HZ0.out.grew g1)
    have HG1 := Lib.hid (HG0.out.trans g1)
    have HT1 := Lib.hid (fun w2 (ht : Turned (fun x => x = w.heap.size + 1 + 1) w1 w2) => ht1.apart HZ1.out ht)
    clear ht1 g1 HC HTB HX HB0 HO0
    have z0 := HZ1.out.cell 0
    have z1 := HZ1.out.cell 1
    have z2 := HZ1.out.cell 2
    have f0 := HZ1.out.frozen 0
    have f1 := HZ1.out.frozen 1
    have f2 := HZ1.out.frozen 2
    have hzl := HZ1.out.lt
    go_wp2_with fail
    refine bodyPost_ret (by first | (simp [*, results, Try.results22, go_sem]; rfl) | simp [*, results, Try.results22, go_sem]) rfl ?_
    exact ⟨A1, c1, ys, rfl, HT1.out _ (by (repeat' first | (with_reducible exact Turned.refl _ _) | (with_reducible assumption) | (with_reducible refine Turned.alloc ?_ _) | (with_reducible refine Turned.drew ?_) | (with_reducible refine Turned.drewN ?_ _) | (with_reducible refine Turned.setRow ?_ (by first | (simp; done) | (simp; omega) | omega) _) | (with_reducible refine Turned.setCell ?_ (by first | (simp; done) | (simp; omega) | omega) _) | ((with_reducible apply Turned.andGrew); rotate_left; (with_reducible assumption)) | ((with_reducible apply Turned.trans); rotate_left; (with_reducible assumption)) | fail)), by have hg := HG1.out; (repeat' first | (with_reducible exact Grew.refl _) | (with_reducible assumption) | (with_reducible refine Grew.alloc ?_ _) | (with_reducible refine Grew.drew ?_) | (with_reducible refine Grew.drewN ?_ _) | (with_reducible refine Grew.setRow ?_ (by first | (simp; done) | (simp; omega) | omega) _) | (with_reducible refine Grew.setCell ?_ (by first | (simp; done) | (simp; omega) | omega) _) | ((with_reducible apply Grew.trans); rotate_left; (with_reducible assumption)) | ((with_reducible apply Grew.turn); rotate_left; (with_reducible assumption); (focus (intro i hi; first | omega | (simp at hi; omega)))) | fail)⟩
  rw [if_neg e2] at hr
  by_cases e3 : r = 3
  · rw [if_pos e3] at hr
    subst e3
    have HC := Lib.hid (replace_tab A c xs T id unit _ HTB.out hs B d ex HX.out hxl T' er hr)
    clear hr hs hr0 hr6
    go_enter Try.func22, Try.ntmps22
    go_wp2_with fail
    refine HC.out.mono ?_
    rintro e w1 ⟨A1, c1, ys, rfl, ht1, g1⟩
    have HZ1 := Lib.hid (HZ0.out.grew g1)
    have HG1 := Lib.hid (HG0.out.trans g1)
    have HT1 := Lib.hid (fun w2 (ht : Turned (fun x => x = w.heap.size + 1 + 1) w1 w2) => ht1.apart HZ1.out ht)
    clear ht1 g1 HC HTB HX HB0 HO0
    have z0 := HZ1.out.cell 0
    have z1 := HZ1.out.cell 1
    have z2 := HZ1.out.cell 2
    have f0 := HZ1.out.frozen 0
    have f1 := HZ1.out.frozen 1
    have f2 := HZ1.out.frozen 2
    have hzl := HZ1.out.lt
    go_wp2_with fail
    refine bodyPost_ret (by first | (simp [*, results, Try.results22, go_sem]; rfl) | simp [*, results, Try.results22, go_sem]) rfl ?_
    exact ⟨A1, c1, ys, rfl, HT1.out _ (by (repeat' first | (with_reducible exact Turned.refl _ _) | (with_reducible assumption) | (with_reducible refine Turned.alloc ?_ _) | (with_reducible refine Turned.drew ?_) | (with_reducible refine Turned.drewN ?_ _) | (with_reducible refine Turned.setRow ?_ (by first | (simp; done) | (simp; omega) | omega) _) | (with_reducible refine Turned.setCell ?_ (by first | (simp; done) | (simp; omega) | omega) _) | ((with_reducible apply Turned.andGrew); rotate_left; (with_reducible assumption)) | ((with_reducible apply Turned.trans); rotate_left; (with_reducible assumption)) | fail)), by have hg := HG1.out; (repeat' first | (with_reducible exact Grew.refl _) | (with_reducible assumption) | (with_reducible refine Grew.alloc ?_ _) | (with_reducible refine Grew.drew ?_) | (with_reducible refine Grew.drewN ?_ _) | (with_reducible refine Grew.setRow ?_ (by first | (simp; done) | (simp; omega) | omega) _) | (with_reducible refine Grew.setCell ?_ (by first | (simp; done) | (simp; omega) | omega) _) | ((with_reducible apply Grew.trans); rotate_left; (with_reducible assumption)) | ((with_reducible apply Grew.turn); rotate_left; (with_reducible assumption); (focus (intro i hi; first | omega | (simp at hi; omega)))) | fail)⟩
  rw [if_neg e3] at hr
  by_cases e4 : r = 4
  · rw [if_pos e4] at hr
    subst e4
    have HC := Lib.hid (confirm_tab A c xs T id unit _ HTB.out hs nt hts T' er hr)
    clear hr hs hr0 hr6
    go_enter Try.func22, Try.ntmps22
    go_wp2_with fail
    refine HC.out.mono ?_
    rintro e w1 ⟨A1, c1, ys, rfl, ht1, g1⟩
    have HZ1 := Lib.hid (HZ0.out.grew g1)
    have HG1 := Lib.hid (HG0.out.trans g1)
    have HT1 := Lib.hid (fun w2 (ht : Turned (fun x => x = w.heap.size + 1 + 1) w1 w2) => ht1.apart HZ1.out ht)
    clear ht1 g1 HC HTB HX HB0 HO0
    have z0 := HZ1.out.cell 0
    have z1 := HZ1.out.cell 1
    have z2 := HZ1.out.cell 2
    have f0 := HZ1.out.frozen 0
    have f1 := HZ1.out.frozen 1
    have f2 := HZ1.out.frozen 2
    have hzl := HZ1.out.lt
    go_wp2_with fail
    refine bodyPost_ret (by first | (simp [*, results, Try.results22, go_sem]; rfl) | simp [*, results, Try.results22, go_sem]) rfl ?_
    exact ⟨A1, c1, ys, rfl, HT1.out _ (by (repeat' first | (with_reducible exact Turned.refl _ _) | (with_reducible assumption) | (with_reducible refine Turned.alloc ?_ _) | (with_reducible refine Turned.drew ?_) | (with_reducible refine Turned.drewN ?_ _) | (with_reducible refine Turned.setRow ?_ (by first | (simp; done) | (simp; omega) | omega) _) | (with_reducible refine Turned.setCell ?_ (by first | (simp; done) | (simp; omega) | omega) _) | ((with_reducible apply Turned.andGrew); rotate_left; (with_reducible assumption)) | ((with_reducible apply Turned.trans); rotate_left; (with_reducible assumption)) | fail)), by have hg := HG1.out; (repeat' first | (with_reducible exact Grew.refl _) | (with_reducible assumption) | (with_reducible refine Grew.alloc ?_ _) | (with_reducible refine Grew.drew ?_) | (with_reducible refine Grew.drewN ?_ _) | (with_reducible refine Grew.setRow ?_ (by first | (simp; done) | (simp; omega) | omega) _) | (with_reducible refine Grew.setCell ?_ (by first | (simp; done) | (simp; omega) | omega) _) | ((with_reducible apply Grew.trans); rotate_left; (with_reducible assumption)) | ((with_reducible apply Grew.turn); rotate_left; (with_reducible assumption); (focus (intro i hi; first | omega | (simp at hi; omega)))) | fail)⟩
  rw [if_neg e4] at hr
  by_cases e5 : r = 5
  · rw [if_pos e5] at hr
    subst e5
    have HC := Lib.hid (note_tab A c xs T id unit _ HTB.out hs nt hts T' er hr)
    clear hr hs hr0 hr6
    go_enter Try.func22, Try.ntmps22
    go_wp2_with fail
    refine HC.out.mono ?_
    rintro e w1 ⟨A1, c1, ys, rfl, ht1, g1⟩
    have HZ1 := Lib.hid (HZ0.out.grew g1)
    have HG1 := Lib.hid (HG0.out.trans g1)
    have HT1 := Lib.hid (fun w2 (ht : Turned (fun x => x = w.heap.size + 1 + 1) w1 w2) => ht1.apart HZ1.out ht)
    clear ht1 g1 HC HTB HX HB0 HO0
    have z0 := HZ1.out.cell 0
    have z1 := HZ1.out.cell 1
    have z2 := HZ1.out.cell 2
    have f0 := HZ1.out.frozen 0
    have f1 := HZ1.out.frozen 1
    have f2 := HZ1.out.frozen 2
    have hzl := HZ1.out.lt
    go_wp2_with fail
    refine bodyPost_ret (by first | (simp [*, results, Try.results22, go_sem]; rfl) | simp [*, results, Try.results22, go_sem]) rfl ?_
    exact ⟨A1, c1, ys, rfl, HT1.out _ (by (repeat' first | (with_reducible exact Turned.refl _ _) | (with_reducible assumption) | (with_reducible refine Turned.alloc ?_ _) | (with_reducible refine Turned.drew ?_) | (with_reducible refine Turned.drewN ?_ _) | (with_reducible refine Turned.setRow ?_ (by first | (simp; done) | (simp; omega) | omega) _) | (with_reducible refine Turned.setCell ?_ (by first | (simp; done) | (simp; omega) | omega) _) | ((with_reducible apply Turned.andGrew); rotate_left; (with_reducible assumption)) | ((with_reducible apply Turned.trans); rotate_left; (with_reducible assumption)) | fail)), by have hg := HG1.out; (repeat' first | (with_reducible exact Grew.refl _) | (with_reducible assumption) | (with_reducible refine Grew.alloc ?_ _) | (with_reducible refine Grew.drew ?_) | (with_reducible refine Grew.drewN ?_ _) | (with_reducible refine Grew.setRow ?_ (by first | (simp; done) | (simp; omega) | omega) _) | (with_reducible refine Grew.setCell ?_ (by first | (simp; done) | (simp; omega) | omega) _) | ((with_reducible apply Grew.trans); rotate_left; (with_reducible assumption)) | ((with_reducible apply Grew.turn); rotate_left; (with_reducible assumption); (focus (intro i hi; first | omega | (simp at hi; omega)))) | fail)⟩
  rw [if_neg e5] at hr
  have e6 : r = 6 := by omega
  subst e6
  have HC := Lib.hid (remove_tab A c xs T id unit _ HTB.out hs T' er hr)
  clear hr hs hr0 hr6
  go_enter Try.func22, Try.ntmps22
  go_wp2_with fail
  refine HC.out.mono ?_
  rintro e w1 ⟨A1, c1, ys, rfl, ht1, g1⟩
  have HZ1 := Lib.hid (HZ0.out.grew g1)
  have HG1 := Lib.hid (HG0.out.trans g1)
  have HT1 := Lib.hid (fun w2 (ht : Turned (fun x => x = w.heap.size + 1 + 1) w1 w2) => ht1.apart HZ1.out ht)
  clear ht1 g1 HC HTB HX HB0 HO0
  have z0 := HZ1.out.cell 0
  have z1 := HZ1.out.cell 1
  have z2 := HZ1.out.cell 2
  have f0 := HZ1.out.frozen 0
  have f1 := HZ1.out.frozen 1
  have f2 := HZ1.out.frozen 2
  have hzl := HZ1.out.lt
  go_wp2_with fail
  refine bodyPost_ret (by first | (simp [*, results, Try.results22, go_sem]; rfl) | simp [*, results, Try.results22, go_sem]) rfl ?_
  exact ⟨A1, c1, ys, rfl, HT1.out _ (by (repeat' first | (with_reducible exact Turned.refl _ _) | (with_reducible assumption) | (with_reducible refine Turned.alloc ?_ _) | (with_reducible refine Turned.drew ?_) | (with_reducible refine Turned.drewN ?_ _) | (with_reducible refine Turned.setRow ?_ (by first | (simp; done) | (simp; omega) | omega) _) | (with_reducible refine Turned.setCell ?_ (by first | (simp; done) | (simp; omega) | omega) _) | ((with_reducible apply Turned.andGrew); rotate_left; (with_reducible assumption)) | ((with_reducible apply Turned.trans); rotate_left; (with_reducible assumption)) | fail)), by have hg := HG1.out; (repeat' first | (with_reducible exact Grew.refl _) | (with_reducible assumption) | (with_reducible refine Grew.alloc ?_ _) | (with_reducible refine Grew.drew ?_) | (with_reducible refine Grew.drewN ?_ _) | (with_reducible refine Grew.setRow ?_ (by first | (simp; done) | (simp; omega) | omega) _) | (with_reducible refine Grew.setCell ?_ (by first | (simp; done) | (simp; omega) | omega) _) | ((with_reducible apply Grew.trans); rotate_left; (with_reducible assumption)) | ((with_reducible apply Grew.turn); rotate_left; (with_reducible assumption); (focus (intro i hi; first | omega | (simp at hi; omega)))) | fail)⟩
end
end Go.Proofs.Ytnlaogneceanoaa
namespace Go.Proofs.Ytnlaogneceanoaa
set_option linter.unusedVariables false
set_option linter.unusedSimpArgs false
set_option linter.unusedSectionVars false
open Go.RowKit Go.Shelf Go.Lib
attribute [local go_sem ↓] Go.wp_at_zero Go.wp_at_succ
def ltP (a b : Int × Int) : Prop := a.1 < b.1 ∨ a.1 = b.1 ∧ a.2 < b.2
instance (a b : Int × Int) : Decidable (ltP a b) := by unfold ltP; exact inferInstance
end Go.Proofs.Ytnlaogneceanoaa
namespace Go.Proofs.Ytnlaogneceanoaa
set_option linter.unusedVariables false
set_option linter.unusedSimpArgs false
set_option linter.unusedSectionVars false
open Go.RowKit
/-- In a valid table two labels of one kind are one. -/
theorem good_one (T : Tab) (h : GoodT T) (i j : Nat) (hi : i < T.labels.length) (hj : j < T.labels.length) (h1 : emL T.labels[i] = false) (h2 : emL T.labels[j] = false) (he : keyL T.labels[i] = keyL T.labels[j]) : i = j := by
  have hk := h.keys
  unfold keysL at hk
  rw [List.Nodup, List.pairwise_map, List.pairwise_filter, List.pairwise_iff_getElem] at hk
  rcases Nat.lt_trichotomy i j with hlt | heq | hgt
  · exact absurd he (hk i j hi hj hlt (by rw [h1]; rfl) (by rw [h2]; rfl))
  · exact heq
  · exact absurd he.symm (hk j i hj hi hgt (by rw [h2]; rfl) (by rw [h1]; rfl))
theorem emL_of_id (l : Lab) (h : l.id ≠ 0) : emL l = false := by
  cases he : emL l with
  | false => rfl
  | true => rw [(emL_iff l).1 he] at h; exact absurd rfl h
theorem good_hit (T : Tab) (h : GoodT T) (id unit : Int) (i j : Nat) (hi : i < T.labels.length) (hj : j < T.labels.length) (h1 : T.labels[i].id = id) (h2 : T.labels[j].id = id) (h0 : id ≠ 0) (hu : (decide (0 < T.labels[i].unit)) = decide (0 < T.labels[j].unit)) : i = j :=
  good_one T h i j hi hj (emL_of_id _ (by rw [h1]; exact h0)) (emL_of_id _ (by rw [h2]; exact h0)) (by unfold keyL; rw [h1, h2, hu])
end Go.Proofs.Ytnlaogneceanoaa
