/- Parts of the proof (packed), 1. -/
import Derived.Test.YtmcgbdemcknkaaaGreatDoorRows
import Derived.WalkKit
import Derived.Laws.Tables
import Derived.Deep.QuietTactic
import Derived.ProofKit
import Derived.OpenShut
import Derived.Deep.Slices
import Derived.Deep.Fields
import Derived.ChangeSame
import Derived.Laws.Rows
import Derived.Deep.MidRow
import Derived.Laws.AppendOwn
import Derived.Laws.OwnMore
import Derived.Deep.AppendLies
import Derived.Deep.RegionHeld3
import Derived.Maps.AppendAt
import Derived.OwnWalk
import Derived.OrdersHeld
import Derived.Deep.DrawnRows
import Derived.Maps.Own
import Derived.Maps.OwnSet
import Derived.Maps.RangeWalk
import Derived.Laws.CopyRow
namespace Go.Proofs.YtmcgbdemcknkaaaGreatDoor
set_option linter.all false
set_option maxRecDepth 100000
set_option maxHeartbeats 16000000
open List
section
open Go.RowKit
abbrev iV:=@List.getElem?_eq_getElem
abbrev iX:=@Nat.le_refl
abbrev iY:=@List.length_map
abbrev iZ:=@List.getElem?_map
abbrev ia:=@List.mem_singleton
abbrev ib:=@List.getElem_mem
abbrev ic:=@List.take_succ_eq_append_getElem
abbrev ie:=@List.mem_map
abbrev ig:=@Nat.lt_of_lt_of_le
abbrev ij:=@Nat.le_trans
abbrev il:=@List.map_append
abbrev im:=@Go.bodyPost_ret
abbrev io:=@ByteArray.size_append
abbrev ip:=@List.mem_append
abbrev iq:=@decide_eq_true
abbrev ir:=@decide_eq_false
abbrev it:=@beq_eq_false_iff_ne
abbrev iu:=@List.getD_eq_getElem?_getD
abbrev iw:=@List.getElem?_eq_some_iff
abbrev ix:=@congrArg
abbrev iy:=@List.length_append
abbrev iz:=@List.mem_cons_of_mem
abbrev i0:=@ByteArray.size_extract
abbrev i8:=@List.take_of_length_le
abbrev i9:=@Int.toNat_natCast
abbrev jA:=@List.mem_cons_self
abbrev jB:=@List.mem_range
abbrev jC:=@of_decide_eq_true
abbrev jE:=@List.mem_or_eq_of_mem_set
abbrev jF:=@Bool.and_eq_true
abbrev jG:=@decide_eq_true_eq
abbrev jH:=@bne_iff_ne
abbrev jI:=@List.mem_append_right
abbrev jJ:=@Go.IntWalk.i64_in
abbrev jK:=@List.append_assoc
abbrev jL:=@Nat.zero_le
abbrev jM:=@Array.getElem?_eq_some_iff
abbrev jN:=@List.all_eq_true
abbrev jO:=@List.map_congr_left
abbrev jP:=@Array.length_toList
abbrev jQ:=@List.mem_append_left
abbrev jR:=@Array.getElem?_eq_getElem
abbrev jS:=@List.getElem_cons_succ
abbrev jT:=@List.any_eq_false
abbrev jU:=@Decidable.not_not
abbrev jV:=@List.mem_filter
abbrev jW:=@List.getElem?_append_right
abbrev jX:=@Go.MapKept.run_getObj_map
abbrev jY:=@Nat.lt_or_ge
abbrev jZ:=@Nat.mod_eq_of_lt
abbrev ja:=@List.getElem_cons_zero
abbrev jb:=@List.getElem?_eq_none
abbrev jc:=@List.foldl_append
abbrev jd:=@Go.DataW.trod_int
abbrev je:=@List.length_take
abbrev jf:=@List.length_cons
abbrev jg:=@List.nodup_append
abbrev jh:=@List.mem_cons
abbrev ji:=@BitVec.toNat_ofNat
abbrev jk:=@List.getElem?_range
abbrev jl:=@Bool.not_eq_true
abbrev jm:=@List.getElem?_append_left
abbrev jn:=@List.getElem_toArray
abbrev jo:=@Nat.add_zero
abbrev jp:=@List.getElem?_set_self
abbrev jq:=@ByteArray.append_assoc
abbrev jr:=@List.length_range
abbrev js:=@List.mem_of_getElem?
abbrev jt:=@List.map_map
abbrev ju:=@List.length_singleton
abbrev jv:=@Option.getD_some
abbrev jw:=@List.mem_of_mem_take
abbrev jx:=@List.pairwise_cons
abbrev jy:=@beq_iff_eq
abbrev jz:=@List.drop_eq_getElem_cons
abbrev j0:=@List.length_replicate
abbrev j1:=@List.take_length
abbrev j2:=@Go.MapKept.run_setObj_map
abbrev j3:=@ByteArray.append_empty
abbrev j4:=@List.mem_iff_getElem
abbrev j5:=@List.length_filter_le
abbrev j6:=@List.any_eq_true
abbrev j7:=@Go.run_underlying
abbrev j8:=@List.filter_append
abbrev j9:=@Array.getElem?_toList
abbrev kA:=@Array.getElem?_modify
abbrev kB:=@Int.tmod_eq_emod_of_nonneg
abbrev kC:=@Int.toNat_of_nonneg
abbrev kD:=@List.getElem?_set
abbrev kE:=@List.pairwise_map
abbrev kF:=@Nat.zero_add
abbrev kG:=@Option.map_eq_some_iff
abbrev kH:=@Array.getElem?_eq_none
abbrev kI:=@List.length_eq_zero_iff
abbrev kJ:=@List.mem_replicate
abbrev kK:=@List.take_append_drop
abbrev kL:=@List.getElem?_replicate
abbrev kM:=@Bool.not_eq_true'
abbrev kN:=@List.pairwise_iff_getElem
abbrev kO:=@ByteArray.empty_append
abbrev kP:=@List.range_succ
abbrev kQ:=@List.getElem_map
abbrev kR:=@List.ext_getElem
abbrev kS:=@bne_eq_false_iff_eq
abbrev kT:=@Nat.mod_lt
abbrev kU:=@List.ext_getElem?
theorem oo {p:Prop} (h:p:=by omega):p:=h
theorem qs {p:Prop} (h:p:=by simp):p:=h
theorem qd {p:Prop} (h:p:=by decide):p:=h
theorem qk {p:Prop} (h:p:=by kernel_rfl):p:=h
theorem zA {α:Type _} {l:List α} {i:Nat} {a:α}:l.toArray.setIfInBounds i a=(l.set i a).toArray:=qs
theorem zB {α:Type _} {x:α} {xs:List α} {a:α}:(x::xs).set 0 a=a::xs:=rfl
theorem zC {α:Type _} {x:α} {xs:List α} {n:Nat} {a:α}:(x::xs).set (n+1) a=x::xs.set n a:=rfl
theorem zh {p:Prop} (h:p):Go.RowKit.Hid p:=h
def Grew (w w':World):Prop:=Below w.heap.size w w'
theorem Grew.refl (w:World):Grew w w:=Below.refl _ _
theorem Grew.trans {a b c:World} (h:Grew a b) (k:Grew b c):Grew a c:=Below.trans h (Below.mono k h.size)
theorem Grew.trans' {a b c:World} (h:Grew a b) (k:Below a.heap.size b c):Grew a c:=Below.trans h k
theorem Grew.alloc {a w:World} (h:Grew a w) (o:Obj):Grew a (w.alloc o):=Below.alloc h h.size o
theorem Grew.drew {a w:World} (h:Grew a w):Grew a w.drew:=Below.drew h
theorem Grew.drewN {a w:World} (h:Grew a w) (n:Nat):Grew a (w.drewN n):=⟨h.os,h.tape,h.output,h.size,h.block⟩
theorem Grew.setCell {a w:World} (h:Grew a w) {p:Addr} (hp:a.heap.size<=p.block) (u:Value):Grew a (w.setCell p u):=Below.setCell h hp u
theorem Grew.cellEq {a w:World} (h:Grew a w):∀b o,b<a.heap.size->w.cell? ⟨b,o,none⟩=a.cell? ⟨b,o,none⟩:=λb o hb=>h.cell (p:=⟨b,o,none⟩) hb
theorem Grew.frozenEq {a w:World} (h:Grew a w):∀b o,b<a.heap.size->w.frozen? ⟨b,o,none⟩=a.frozen? ⟨b,o,none⟩:=λb o hb=>h.frozen (p:=⟨b,o,none⟩) hb
structure Turned (S:Nat->Prop) (w w':World):Prop where
 os:w'.os=w.os
 tape:w'.tape=w.tape
 output:w'.output=w.output
 size:w.heap.size<=w'.heap.size
 block:∀k,k<w.heap.size->¬S k->w'.heap[k]? =w.heap[k]?
theorem Turned.refl (S:Nat->Prop) (w:World):Turned S w w:=⟨rfl,rfl,rfl,iX _,λ_ _ _=>rfl⟩
theorem Grew.turned {a w:World} (h:Grew a w) (S:Nat->Prop):Turned S a w:=⟨h.os,h.tape,h.output,h.size,λk hk _=>h.block k hk⟩
theorem Turned.trans {S:Nat->Prop} {a b c:World} (h:Turned S a b) (k:Turned S b c):Turned S a c:=
 ⟨k.os.trans h.os,k.tape.trans h.tape,k.output.trans h.output,ij h.size k.size,λi hi hs=>(k.block i (ig hi h.size) hs).trans (h.block i hi hs)⟩
theorem Turned.mono {S T:Nat->Prop} {a b:World} (h:Turned S a b) (hST:∀k,k<a.heap.size->S k->T k):Turned T a b:=
 ⟨h.os,h.tape,h.output,h.size,λi hi hs=>h.block i hi (λhS=>hs (hST i hi hS))⟩
theorem Turned.grew {S:Nat->Prop} {a b:World} (h:Turned S a b) (hS:∀k,k<a.heap.size->¬S k):Grew a b:=
 ⟨h.os,h.tape,h.output,h.size,λi hi=>h.block i hi (hS i hi)⟩
theorem Turned.next {S T:Nat->Prop} {a b c:World} (h:Turned S a b) (k:Turned T b c) (hT:∀i,i<a.heap.size->T i->S i):Turned S a c:=
 ⟨k.os.trans h.os,k.tape.trans h.tape,k.output.trans h.output,ij h.size k.size,λi hi hs=>(k.block i (ig hi h.size) (λhT'=>hs (hT i hi hT'))).trans (h.block i hi hs)⟩
theorem Turned.alloc {S:Nat->Prop} {a w:World} (h:Turned S a w) (o:Obj):Turned S a (w.alloc o):=h.next (T:=λ_=>False) ((Grew.refl w).alloc o |>.turned _) (λ_ _ hf=>hf.elim)
theorem Turned.drew {S:Nat->Prop} {a w:World} (h:Turned S a w):Turned S a w.drew:=⟨h.os,h.tape,h.output,h.size,h.block⟩
theorem Turned.setCell {S:Nat->Prop} {a w:World} (h:Turned S a w) {p:Addr} (hp:p.block<a.heap.size->S p.block) (u:Value):Turned S a (w.setCell p u):=
 ⟨h.os,h.tape,h.output,by simpa [World.setCell] using h.size,λi hi hs=>(Below.heap_setCell w p u i (by rintro rfl;exact hs (hp hi))).trans (h.block i hi hs)⟩
theorem Turned.andGrew {S:Nat->Prop} {a b c:World} (h:Turned S a b) (k:Grew b c):Turned S a c:=h.next (k.turned (λ_=>False)) (λ_ _ hf=>hf.elim)
theorem Turned.cellEq {S:Nat->Prop} {a w:World} (h:Turned S a w):∀b o,b<a.heap.size->¬S b->w.cell? ⟨b,o,none⟩=a.cell? ⟨b,o,none⟩:=λb o hb hs=>World.cell?_of_block (h.block b hb hs)
theorem Grew.turn {S:Nat->Prop} {a b c:World} (h:Grew a b) (k:Turned S b c) (hS:∀i,S i->a.heap.size<=i):Grew a c:=
 ((h.turned S).trans k).grew λi hi hs=>absurd (hS i hs) oo
def Blk (w:World) (g:Nat) (t:TypeId) (cs:Array Value):Prop:=w.heap[g]? =some (.cells cs t (0,0))
section
variable {w w':World} {g:Nat} {t:TypeId} {cs:Array Value}
theorem Blk.lt (h:Blk w g t cs):g<w.heap.size:=by
 rcases jY g w.heap.size with a | b
 . exact a
 . unfold Blk at h;rw [kH b] at h;cases h
theorem Blk.cell (h:Blk w g t cs) (i:Nat):w.cell? ⟨g,i,none⟩=cs[i]? :=cell_of_row w g i cs t (0,0) h
theorem Blk.frozen (h:Blk w g t cs) (i:Nat):w.frozen? ⟨g,i,none⟩=false:=by
 unfold Blk at h;simp [World.frozen?,h]
theorem Blk.new (w:World) (t:TypeId) (cs:Array Value) {n:Nat} (hn:n=w.heap.size):Blk (w.alloc (.cells cs t)) n t cs:=by subst hn;exact heap_alloc_new w _
theorem Blk.drew (h:Blk w g t cs):Blk w.drew g t cs:=h
theorem Blk.alloc (h:Blk w g t cs) (o:Obj):Blk (w.alloc o) g t cs:=(Below.heap_alloc w o g h.lt).trans h
theorem Blk.conv {ds:Array Value} (h:Blk w g t cs) (hd:cs=ds):Blk w g t ds:=hd▸h
theorem Blk.set_ (h:Blk w g t cs) (i:Nat) (u:Value):Blk (w.setCell ⟨g,i,none⟩ u) g t (cs.setIfInBounds i u):=by
 unfold Blk at h ⊢;simp [World.setCell,kA,h]
theorem Blk.far (h:Blk w g t cs) {p:Addr} (hp:g≠p.block) (u:Value):Blk (w.setCell p u) g t cs:=(Below.heap_setCell w p u g hp).trans h
theorem Blk.turned {S:Nat->Prop} (h:Blk w g t cs) (hb:Turned S w w') (hs:¬S g):Blk w' g t cs:=(hb.block g h.lt hs).trans h
theorem Blk.grew (h:Blk w g t cs) (hb:Grew w w'):Blk w' g t cs:=(hb.block g h.lt).trans h
theorem Blk.ne_ {g':Nat} {t':TypeId} {cs':Array Value} (h:Blk w g t cs) (h':Blk w g' t' cs') (a:t≠t'):g≠g':=by
 rintro rfl;unfold Blk at h h';rw [h] at h';injection h' with h';injection h' with _ ht;exact a ht
end
theorem Grew.setRow {a w:World} (h:Grew a w) {g:Nat} (hg:a.heap.size<=g) (cs:Array Value):Grew a (w.setRow g cs):=
 h.trans' ⟨rfl,rfl,rfl,by simp [World.setRow],λk hk=>by simp only [World.setRow,kA];rw [if_neg oo]⟩
theorem Turned.setRow {S:Nat->Prop} {a w:World} (h:Turned S a w) {g:Nat} (hg:g<a.heap.size->S g) (cs:Array Value):Turned S a (w.setRow g cs):=
 ⟨h.os,h.tape,h.output,by simpa [World.setRow] using h.size,λi hi hs=>(by simp only [World.setRow,kA];rw [if_neg (by rintro rfl;exact hs (hg hi))]:(w.setRow g cs).heap[i]? =w.heap[i]?).trans (h.block i hi hs)⟩
section
variable {w w':World} {g:Nat} {t:TypeId} {cs:Array Value}
theorem Blk.setRow (h:Blk w g t cs) (ds:Array Value):Blk (w.setRow g ds) g t ds:=setRow_heap w g cs ds t (0,0) h
theorem Blk.farRow (h:Blk w g t cs) {g':Nat} (hp:g≠g') (ds:Array Value):Blk (w.setRow g' ds) g t cs:=by
 unfold Blk at h ⊢;simp only [World.setRow,kA];rw [if_neg oo];exact h
end
theorem gG {a w:World} (h:Grew a w:=by (repeat' first | (with_reducible exact Grew.refl _) | (with_reducible assumption) | (with_reducible refine Grew.alloc ?_ _) | (with_reducible refine Grew.drew ?_) | (with_reducible refine Grew.drewN ?_ _) | (with_reducible refine Grew.setRow ?_ (by first | (simp;done) | (simp;omega) | omega) _) | (with_reducible refine Grew.setCell ?_ (by first | (simp;done) | (simp;omega) | omega) _) | ((with_reducible apply Grew.trans);rotate_left;(with_reducible assumption)) | ((with_reducible apply Grew.turn);rotate_left;(with_reducible assumption);(focus (intro i hi;first | omega | (simp at hi;omega)))) | fail)):Grew a w:=h
theorem gT {S:Nat->Prop} {a w:World} (h:Turned S a w:=by (repeat' first | (with_reducible exact Turned.refl _ _) | (with_reducible assumption) | (with_reducible refine Turned.alloc ?_ _) | (with_reducible refine Turned.drew ?_) | (with_reducible refine Turned.drewN ?_ _) | (with_reducible refine Turned.setRow ?_ (by first | (simp;done) | (simp;omega) | omega) _) | (with_reducible refine Turned.setCell ?_ (by first | (simp;done) | (simp;omega) | omega) _) | ((with_reducible apply Turned.andGrew);rotate_left;(with_reducible assumption)) | ((with_reducible apply Turned.trans);rotate_left;(with_reducible assumption)) | fail)):Turned S a w:=h
theorem gB {w:World} {g:Nat} {t:TypeId} {cs:Array Value} (h:Blk w g t cs:=by (apply Blk.conv;(· (repeat' first | (with_reducible assumption) | (with_reducible apply Blk.setRow) | ((with_reducible apply Blk.farRow);rotate_left;(focus (first | (simp;done) | (simp;omega) | omega))) | (with_reducible apply Blk.drew) | (with_reducible apply Blk.drewN) | (with_reducible apply Blk.set_) | (with_reducible exact Blk.new _ _ _ (by first | rfl | (simp;done) | (simp;omega))) | (with_reducible apply Blk.alloc) | ((with_reducible apply Blk.far);rotate_left;(focus (first | (simp;done) | (simp;omega) | omega))) | ((with_reducible apply Blk.grew);rotate_left;(with_reducible assumption)) | ((with_reducible apply Blk.turned);rotate_left;(with_reducible assumption);(focus (first | (simp;done) | (simp;omega) | omega))) | fail));(· rfl))):Blk w g t cs:=h
abbrev iW:=@Go.Proofs.YtmcgbdemcknkaaaGreatDoor.Grew.refl
abbrev ik:=@Go.Proofs.YtmcgbdemcknkaaaGreatDoor.Blk.new
abbrev jD:=@Go.Proofs.YtmcgbdemcknkaaaGreatDoor.Turned.refl

end
section
open Go.ChangeShapes Go.WideShapes Go.ChangeAt Go.RowKit Go.Deep
def ListAt (w:World) (B sz:Nat) (A:Option Addr) (cells:List (List Value)):Prop:=
 0<cells.length->∃b off,A=some ⟨b,off,none⟩/\b<B/\∀j cs,cells[j]? =some cs->∀i v,cs[i]? =some v->w.cell? ⟨b,off+j*sz+i,none⟩=some v
theorem ListAt.keep {w w':World} {B sz:Nat} {A:Option Addr} {cells:List (List Value)} (h:ListAt w B sz A cells) (hB:B<=w.heap.size) (hk:Grew w w'):ListAt w' B sz A cells:=
 λhl=>by
  obtain ⟨b,off,e,hb,hc⟩:=h hl;exact ⟨b,off,e,hb,λj cs hj i v hi=>by rw [hk.cellEq _ _ oo];exact hc j cs hj i v hi⟩
theorem ListAt.mono {w:World} {B B' sz:Nat} {A:Option Addr} {cells:List (List Value)} (h:ListAt w B sz A cells) (hB:B<=B'):ListAt w B' sz A cells:=
 λhl=>by
  obtain ⟨b,off,e,hb,hc⟩:=h hl;exact ⟨b,off,e,oo,hc⟩
theorem ME {w:World} {a:Addr} {v:Value} (h:w.cell? a=some v):a.block<w.heap.size/\a.spot=none:=by
 unfold World.cell? at h;constructor
 . rcases jY a.block w.heap.size with c | d
   . exact c
   . rw [kH d] at h;cases h
 . split at h
   . split at h
     . cases h
     . rename_i hs;cases b:a.spot with
       | none=>rfl
       | some x=>rw [b] at hs;exact absurd rfl hs
   . cases h
theorem Es (b a n:Nat):(⟨b,a,none⟩:Addr).add n=⟨b,a+n,none⟩:=by unfold Addr.add;split<;>simp_all
section
variable {H:Type} {enc:TypeId × Value->H} {P:Program} {w:World}
theorem XO {α:Type} [Inhabited α] {r:Reach} {b0 t e:Nat} {sz:Nat} {v:Value} {d:DataW H} {ps:List MemPlace} (ht:P.underlying t=some (.slice e)) (E:P.cellsOf e=sz) (B:0<sz) (f:α->List Value) (Pr:α->Prop)
 (C:∀n cs y,cs.length=sz->DataW.trod enc P w 0 (λ_=>true) true n e cs=some y->∃a,Pr a/\cs=f a)
 (hv:Value.okWide P w r b0 t v) (hd:DataW.Trod enc P w 0 (λ_=>true) true t v d ps):
 ∃A c,∃l:List α,v=.slice A l.length c/\l.length<=c/\c<=9223372036854775807/\(∀a∈l,Pr a)/\ListAt w w.heap.size sz A (l.map f):=by
 obtain ⟨A,n,c,rfl⟩:=okWide_slice ht hv;obtain ⟨fuel,hf⟩:=hd;rcases open_slice ht hf with ⟨h0,_⟩ | ⟨a,len,cap,m,n',D,Pl,k,hb,hl,hm,R,hx,hi⟩
 . simp only [Value.cells,cons.injEq,and_true] at h0;injection h0 with h1 h2 h3;subst h1;subst h2;subst h3;exact ⟨none,0,[],rfl,qs,qs,qs,λh=>absurd h qs⟩
 . simp only [Value.cells,cons.injEq,and_true] at k;injection k with h1 h2 h3;subst h1;subst h2;subst h3;rw [if_pos rfl] at R;have S:n<=m:=oo
   have F:∀i,i<n->∃x:α,Pr x/\∃cs,cs=f x/\cs.length=sz/\w.cells? 0 (a.add (i*sz)) sz=some cs:=λi hin=>by
    obtain ⟨q,hc,J⟩:=hi i oo;rw [E] at hc;have o:=(World.cells?_some hc).2.1;obtain ⟨x,hp,k⟩:=C n' q _ o J;exact ⟨x,hp,q,k,o,hc⟩
   obtain ⟨g,hg⟩:=choose_lt F;refine ⟨some a,c,(List.range n).map g,qs,by simpa using hl,by unfold maxLen at hm;simpa using hm,?_,λh0=>?_⟩
   . intro x hx;rw [ie] at hx;obtain ⟨i,K,rfl⟩:=hx;exact (hg i (jB.1 K)).1
   . have hn:0<n:=by simpa using h0
     obtain ⟨_,s,T,U,L⟩:=hg 0 hn;have h1:=(World.cells?_some L).2.2 0 B;rw [Nat.zero_mul] at h1;have G:s[0]? =some s[0]:=iV oo;have ha:(a.add 0).add 0=a:=by simp [Addr.add]
     rw [ha,G] at h1;obtain ⟨u,z⟩:=ME h1;obtain ⟨b,M,sp⟩:=a;simp only at z u;subst z;refine ⟨b,M,rfl,u,λj cs hj i v hiv=>?_⟩
     have p:j<n:=by
      rcases jY j n with h | h
      . exact h
      . rw [jb (by simpa using h)] at hj;cases hj
     obtain ⟨_,N,O,V,Q⟩:=hg j p
     have k:cs=N:=by
      simp [iZ,jk,p] at hj;rw [<-hj,O]
     subst k
     have I:i<sz:=by
      rcases jY i cs.length with h | h
      . omega
      . rw [jb h] at hiv;cases hiv
     have h2:=(World.cells?_some Q).2.2 i I;rw [Es,Es] at h2;rw [h2,hiv]
theorem Oh {fs:Array Field} {e n:Nat} {cs:List Value} {y:DataW H × List MemPlace} {base:Nat} {sp:Nat->Bool} {hd:Bool} (he:P.underlying e=some (.struct fs)) (b:oneCellFields P fs=true) (h:DataW.trod enc P w base sp hd n e cs=some y):
 ∀(j:Nat) (f:Field),fs[j]? =some f->j<cs.length->∃v n' y',cs[j]? =some v/\DataW.trod enc P w base sp hd n' f.type [v]=some y':=by
 intro j f hj a;obtain ⟨ys,n',i,hy,k,l,hf⟩:=DataW.trod_struct he h;obtain ⟨ho,hk⟩:=hone_of b j f hj;have g:j<fs.size:=(jM.1 hj).1;have h1:=hf j f hj;rw [ho,hk] at h1
 have c:(cs.drop j).take 1=[cs[j]'a]:=by
  rw [jz a];rfl
 rw [c] at h1;have d:ys[j]? =some (ys[j]'oo):=iV oo;exact ⟨_,_,_,iV a,h1.trans d⟩
end

end
section
open Go.RowKit
theorem AJ {P:Program} {ops:Array Oper} {rest:List Oper} {op:Oper} {a:Act} {w:World} {Q:Exit->Act->World->Prop} (hgd:op.guard=none) (ty:TypeId) (x:Operand) (ho:op.op=.load ty x)
 (g:Nat) (hx:a.eval x=.pointer (some ⟨g,0,none⟩)) (t:TypeId) (cs:Array Value) (d:TypeDesc) (hb:Blk w g t cs)
 (hu:P.underlying ty=some d) (hd:(match d with | .struct _ | .array _ _=>true | _=>false)=true) (hi:(P.info? ty).map (·.size)=some cs.size)
 (h:wpList P ops Q rest (a.put op.dst (.agg cs)) w):wpList P ops Q (op::rest) a w:=
 wpList_load_row hgd ty x ho g hx t cs (0,0) d hb hu hd hi h
theorem AF {P:Program} {ops:Array Oper} {rest:List Oper} {op:Oper} {a:Act} {w:World} {Q:Exit->Act->World->Prop} (hgd:op.guard=none) (ty:TypeId) (x y:Operand) (ho:op.op=.store ty x y)
 (g:Nat) (cells:Array Value) (hx:a.eval x=.pointer (some ⟨g,0,none⟩)) (hy:a.eval y=.agg cells) (t:TypeId) (old:Array Value) (hb:Blk w g t old) (hs:old.size=cells.size)
 (hi:(P.info? ty).map (·.size)=some cells.size) (h1:cells.all (·.oneCell')=true)
 (h:wpList P ops Q rest (a.put op.dst undef) (w.setRow g cells)):wpList P ops Q (op::rest) a w:=
 wpList_plain hgd λ_ hK=>by
  unfold Oper.wp execOp;simp only [ho,hx,hy,Instr.storeAt,Instr.sureAddr,Sem.run_bind,Sem.run_pure,Result.andThen_ok,run_storeVar_row w g t ty old cells hb hi hs h1];exact hK _ _ h
def AX (S:Nat->Bool):Array Value:=((List.range 128).map λi=>Value.bool (S i)).toArray
theorem BN (S:Nat->Bool):(AX S).size=128:=by simp [AX]
theorem DW (S:Nat->Bool) (k:Nat) (h:k<128):(AX S)[k]? =some (.bool (S k)):=by
 simp [AX,iZ,jk,h]
theorem FA (S:Nat->Bool) (k:Nat) (b:Bool):(AX S).setIfInBounds k (.bool b)=AX (λi=>if i=k then b else S i):=by
 simp only [AX,setIfInBounds_toArray];congr 1;apply kU;intro i;rw [kD];by_cases h:k=i
 . subst h;by_cases hk:k<128
   . simp [hk]
   . simp [hk]
 . rw [if_neg h];by_cases hi:i<128
   . simp [hi,Ne.symm h]
   . simp [hi]
theorem Cc {S T:Nat->Bool} (h:∀i,i<128->S i=T i):AX S=AX T:=by
 unfold AX;congr 1;apply jO;intro i hi;rw [h i (jB.1 hi)]
theorem GQ (S:Nat->Bool):(AX S).all (·.oneCell')=true:=by
 rw [AX,all_toArray,jN];intro v hv;obtain ⟨i,_,rfl⟩:=ie.1 hv;rfl
def G1 (r:Int × Int):List Value:=[.int .i64 r.1,.int .i64 r.2]
def GR (r:Int × Int):Prop:=-9223372036854775808<=r.1/\r.1<=9223372036854775807/\-9223372036854775808<=r.2/\r.2<=9223372036854775807
def RunsAt (w:World) (B:Nat) (A:Option Addr) (l:List (Int × Int)):Prop:=(∀r∈l,GR r)/\ListAt w B 2 A (l.map G1)
theorem RunsAt.keep {w w':World} {B:Nat} {A:Option Addr} {l:List (Int × Int)} (h:RunsAt w B A l) (hB:B<=w.heap.size) (hk:Grew w w'):RunsAt w' B A l:=⟨h.1,h.2.keep hB hk⟩
theorem RunsAt.at_ {w:World} {B:Nat} {A:Option Addr} {l:List (Int × Int)} (h:RunsAt w B A l) {k:Nat} (hk:k<l.length):
 ∃b off f c,A=some ⟨b,off,none⟩/\b<B/\l[k]=(f,c)/\GR (f,c)/\w.cell? ⟨b,off+k*2,none⟩=some (.int .i64 f)/\w.cell? ⟨b,off+k*2+1,none⟩=some (.int .i64 c):=by
 obtain ⟨b,off,e,hb,hc⟩:=h.2 (by simp;omega);have hl:(l.map G1)[k]? =some (G1 l[k]):=by rw [iZ,iV hk];rfl
 have a:=hc k _ hl;have d:=h.1 l[k] (ib hk);rcases hv:l[k] with ⟨f,c⟩;rw [hv] at a d;exact ⟨b,off,f,c,e,hb,rfl,d,a 0 _ rfl,a 1 _ rfl⟩

def OwnL (w:World) (base e sz:Nat) (v:Value) (rows:List (List Value)):Prop:=(∀r∈rows,r.length=sz)/\w.ownsRow base e sz v rows.length rows.flatten
theorem GN {rows:List (List Value)} {sz:Nat} (h:∀r∈rows,r.length=sz):rows.flatten.length=rows.length*sz:=by
 induction rows with
 | nil=>simp
 | cons r rows ih=>
   have h1:=h r qs;have h2:=ih (λx hx=>h x (iz _ hx));simp only [flatten_cons,iy,jf];rw [h1,h2,Nat.succ_mul];omega
theorem OwnL.nil (w:World) (base e sz:Nat):OwnL w base e sz (.slice none 0 0) []:=⟨qs,World.ownsRow_nil w base e sz⟩
theorem OwnL.alloc {w:World} {base e sz:Nat} {v:Value} {rows:List (List Value)} (h:OwnL w base e sz v rows) (o:Obj):OwnL (w.alloc o) base e sz v rows:=⟨h.1,h.2.alloc o⟩
theorem OwnL.drew {w:World} {base e sz:Nat} {v:Value} {rows:List (List Value)} (h:OwnL w base e sz v rows):OwnL w.drew base e sz v rows:=h
theorem OwnL.drewN {w:World} {base e sz:Nat} {v:Value} {rows:List (List Value)} (h:OwnL w base e sz v rows) (n:Nat):OwnL (w.drewN n) base e sz v rows:=h
theorem OwnL.kept {w w':World} {base e sz:Nat} {v:Value} {rows:List (List Value)} (h:OwnL w base e sz v rows) {S:Nat->Prop} (ht:Turned S w w') (hS:∀g,v.ownBlock=some g->¬S g):OwnL w' base e sz v rows:=by
 refine ⟨h.1,h.2.1,?_⟩;rcases h.2.2 with h0 | ⟨g,cap,a,hv,hb,hh,hr⟩
 . exact .inl h0
 . refine .inr ⟨g,cap,a,hv,hb,?_,hr⟩;have b:g<w.heap.size:=Blk.lt (t:=e) (cs:=a) hh;rw [ht.block g b (hS g (by rw [hv];rfl)),hh]
theorem OwnL.grew {w w':World} {base e sz:Nat} {v:Value} {rows:List (List Value)} (h:OwnL w base e sz v rows) (ht:Grew w w'):OwnL w' base e sz v rows:=h.kept (ht.turned (λ_=>False)) (λ_ _ hf=>hf)
theorem OwnL.far {w:World} {base e sz:Nat} {v:Value} {rows:List (List Value)} (h:OwnL w base e sz v rows) {p:Addr} (hp:v.ownBlock≠some p.block) (u:Value):OwnL (w.setCell p u) base e sz v rows:=
 h.kept (S:=λx=>x=p.block) ((jD (λx=>x=p.block) w).setCell (p:=p) (λ_=>rfl) u) (λg hg he=>hp (by rw [hg,he]))
theorem OwnL.farRow {w:World} {base e sz:Nat} {v:Value} {rows:List (List Value)} (h:OwnL w base e sz v rows) {g':Nat} (hp:v.ownBlock≠some g') (cs:Array Value):OwnL (w.setRow g' cs) base e sz v rows:=
 h.kept (S:=λx=>x=g') ((jD (λx=>x=g') w).setRow (g:=g') (λ_=>rfl) cs) (λg hg he=>hp (by rw [hg,he]))
theorem OwnL.ne_blk {w:World} {base e sz g:Nat} {t:TypeId} {cs:Array Value} {v:Value} {rows:List (List Value)} (h:OwnL w base e sz v rows) (hb:Blk w g t cs) (a:e≠t):v.ownBlock≠some g:=by
 rcases h.2.2 with ⟨rfl,_⟩ | ⟨g',cap,b,rfl,_,hh,_⟩
 . simp [Value.ownBlock]
 . intro he;have:g'=g:=by simpa [Value.ownBlock] using he
   subst this;exact Blk.ne_ (t:=e) hh hb a rfl
theorem OwnL.own_ge {w:World} {base e sz g:Nat} {v:Value} {rows:List (List Value)} (h:OwnL w base e sz v rows) (hg:v.ownBlock=some g):base<=g/\g<w.heap.size:=h.2.lt g hg
theorem OwnL.empty (w:World) (base e sz:Nat) (hb:base<=w.heap.size) {n:Nat} (hn:n=w.heap.size):OwnL (w.alloc (.cells #[] e)) base e sz (.slice (some ⟨n,0,none⟩) 0 0) []:=by
 subst hn;exact ⟨qs,World.ownsRow_lit w #[] 0 hb qs qs⟩
theorem OwnL.form {w:World} {base e sz:Nat} {v:Value} {rows:List (List Value)} (h:OwnL w base e sz v rows):
 (v=.slice none 0 0/\rows=[])\/∃g cap,v=.slice (some ⟨g,0,none⟩) rows.length cap/\base<=g/\g<w.heap.size/\rows.length<=cap/\cap<=9223372036854775807:=by
 rcases h.2.2 with ⟨h0,hn⟩ | ⟨g,cap,a,hv,hb,hh,hn,hm,_⟩
 . exact .inl ⟨h0,kI.1 hn⟩
 . exact .inr ⟨g,cap,hv,hb,Blk.lt (t:=e) (cs:=a) hh,hn,by unfold maxLen at hm;simpa using hm⟩
theorem Jr {rows:List (List Value)} {sz:Nat} (h:∀r∈rows,r.length=sz):∀(j i:Nat) (r:List Value) (u:Value),rows[j]? =some r->r[i]? =some u->rows.flatten[j*sz+i]? =some u:=by
 induction rows with
 | nil=>intro j i r u hr;simp at hr
 | cons x rows ih=>
   intro j i r u hr hu;have hx:=h x qs;rw [flatten_cons];cases j with
   | zero=>
     simp at hr;subst hr;rw [Nat.zero_mul,kF,jm (iw.1 hu).1];exact hu
   | succ j=>
     simp at hr;rw [jW (by rw [hx,Nat.succ_mul];omega),hx,show (j+1)*sz+i - sz=j*sz+i from by rw [Nat.succ_mul];omega];exact ih (λy hy=>h y (iz _ hy)) j i r u hr hu
theorem OwnL.cell {w:World} {base e sz g n cap:Nat} {rows:List (List Value)} (h:OwnL w base e sz (.slice (some ⟨g,0,none⟩) n cap) rows) {j i:Nat} {r:List Value} {u:Value} (hj:rows[j]? =some r) (hi:r[i]? =some u):w.cell? ⟨g,j*sz+i,none⟩=some u:=by
 have:=h.2.cells (g:=g) rfl (j*sz+i) u (Jr h.1 j i r u hj hi);rwa [Es,kF] at this
theorem OwnL.frozen {w:World} {base e sz g n cap:Nat} {rows:List (List Value)} (h:OwnL w base e sz (.slice (some ⟨g,0,none⟩) n cap) rows) (j:Nat):w.frozen? ⟨g,j,none⟩=false:=by
 rcases h.2.2 with ⟨h0,_⟩ | ⟨g',b,a,hv,_,hh,_⟩
 . cases h0
 . injection hv with hv _ _;injection hv with hv;injection hv with hv _ _;subst hv;exact Blk.frozen (t:=e) (cs:=a) hh j
theorem OwnL.listAt {w:World} {base e sz:Nat} {v:Value} {rows:List (List Value)} (h:OwnL w base e sz v rows):∃A c,v=.slice A rows.length c/\rows.length<=c/\c<=9223372036854775807/\ListAt w w.heap.size sz A rows:=by
 rcases h.form with ⟨rfl,rfl⟩ | ⟨g,cap,rfl,hb,a,h1,h2⟩
 . exact ⟨none,0,rfl,qs,qs,λh=>absurd h qs⟩
 . refine ⟨_,cap,rfl,h1,h2,λ_=>⟨g,0,rfl,a,λj cs hj i u hi=>?_⟩⟩;rw [kF];exact h.cell hj hi
theorem Sz {rows:List (List Value)} {sz:Nat} (h:∀r∈rows,r.length=sz):∀(j i:Nat) (r:List Value) (u:Value),rows[j]? =some r->i<sz->rows.flatten.set (j*sz+i) u=(rows.set j (r.set i u)).flatten:=by
 induction rows with
 | nil=>intro j i r u hr;simp at hr
 | cons x rows ih=>
   intro j i r u hr hi;have hx:=h x qs;cases j with
   | zero=>
     simp at hr;subst hr;rw [Nat.zero_mul,kF,set_cons_zero,flatten_cons,flatten_cons,List.set_append_left _ _ oo]
   | succ j=>
     simp at hr;rw [set_cons_succ,flatten_cons,flatten_cons,List.set_append_right _ _ (by rw [hx,Nat.succ_mul];omega),hx,show (j+1)*sz+i - sz=j*sz+i from by rw [Nat.succ_mul];omega];rw [ih (λy hy=>h y (iz _ hy)) j i r u hr hi]
theorem OwnL.set_ {w:World} {base e sz g n cap:Nat} {rows:List (List Value)} (h:OwnL w base e sz (.slice (some ⟨g,0,none⟩) n cap) rows) {j i o:Nat} {r:List Value} (hj:rows[j]? =some r) (hi:i<sz) (ho:o=j*sz+i) (u:Value):
 OwnL (w.setCell ⟨g,o,none⟩ u) base e sz (.slice (some ⟨g,0,none⟩) n cap) (rows.set j (r.set i u)):=by
 subst ho;refine ⟨λx hx=>?_,?_⟩
 . rcases jE hx with hx | rfl
   . exact h.1 x hx
   . rw [length_set];exact h.1 r (js hj)
 . have hn:rows.length=n:=by
    rcases h.2.2 with ⟨h0,_⟩ | ⟨g',a,b,hv,_⟩
    . cases h0
    . injection hv with _ hv _;exact hv.symm
   have h2:=h.2;rw [hn] at h2;have:=h2.stored (j*sz+i) u;rw [Sz h.1 j i r u hj hi] at this;rw [length_set,hn];exact this.1
theorem Grew.own {a w w':World} {base:Nat} {row:Option Nat} (h:Grew a w) (hg:w.grownBy w' row) (hr:∀k,row=some k->base<=k) (hb:a.heap.size<=base):Grew a w':=
 h.trans' ⟨hg.os,hg.tape,hg.output,hg.size,λk hk=>hg.block k (ig hk h.size) (λe=>by have:=hr k e.symm;omega)⟩
theorem Blk.own {w w':World} {g:Nat} {t:TypeId} {cs:Array Value} {row:Option Nat} (h:Blk w g t cs) (hg:w.grownBy w' row) (hne:row≠some g):Blk w' g t cs:=(hg.block g h.lt (λe=>hne e.symm)).trans h
section
variable {P:Program}
theorem AY {W':World} {ops:Array Oper} {rest:List Oper} {o:Oper} {a:Act} {Q:Exit->Act->World->Prop} (l:o.guard=none) (s x:Operand) (t:TypeId)
 (ho:o.op=.call { callee:=.builtin .append,args:=#[s,x],argTypes:=#[t,t] })
 (base e size bytes:Nat) (z:Value) (ht:P.underlying t=some (.slice e)) (hi:(P.info? e).map (λi=>(i.zero,i.size,i.bytes))=some (some z,size,bytes)) (n:z.cells.size=size) (p:0<size)
 (W:World) (v:Value) (rows:List (List Value)) (row:List Value) (hW:W'=W.alloc (.cells row.toArray e)) (m:row.length=size) (hs:a.eval s=v) (d:OwnL W base e size v rows) {gN:Nat} (f:gN=W.heap.size) (hx:a.eval x=.slice (some ⟨gN,0,none⟩) 1 1) (h1:row.all (·.oneCell')=true)
 (q:(rows.length+1)*bytes<=140737488355328) (F:rows.length+1<=9223372036854775807) (E:base<=W.heap.size)
 (h:∀v' w',OwnL w' base e size v' (rows++[row])->(∀b,Grew b W->b.heap.size<=base->Grew b w')->(∀g t' cs,Blk W g t' cs->v.ownBlock≠some g->Blk w' g t' cs)->W.heap.size<w'.heap.size->wpList P ops Q rest (a.put o.dst v') w'):
 wpList P ops Q (o::rest) a W':=by
 subst hW;subst f
 obtain ⟨i,A,B,C,D⟩:∃i,P.info? e=some i/\i.zero=some z/\i.size=size/\i.bytes=bytes:=by
  cases hq:P.info? e with
  | none=>rw [hq] at hi;cases hi
  | some i=>rw [hq] at hi;simp at hi;exact ⟨i,rfl,hi.1,hi.2.1,hi.2.2⟩
 refine wpList_append_own (w:=W.alloc (.cells row.toArray e)) l s x t ho base e i z size bytes ht A B C D n p v rows.length rows.flatten hs (d.2.alloc _) ⟨W.heap.size,0,none⟩ 1 1 row hx oo
  (λj u hj=>by rw [Es,kF,cell_of_row _ _ _ _ _ _ (heap_alloc_new W _)];simpa using hj) (λu hu=>jN.1 h1 u hu) (by unfold maxLen;omega) q (by simp;omega) ?_
 intro v' w' y hg _;have hr:∀k,v.ownBlock=some k->base<=k:=λk hk=>(d.2.lt k hk).1;refine h v' w' ⟨?_,?_⟩ (λb hb hbb=>(hb.alloc _).own hg hr hbb) (λg t' cs hb hne=>(hb.alloc _).own hg hne) (by have:=hg.size;simp at this;omega)
 . intro r c;rcases ip.1 c with c | c
   . exact d.1 r c
   . rw [ia.1 c];exact m
 . rw [List.flatten_append,iy];simpa using y
end

section
variable {P:Program}
theorem JD {o:Oper} {a:Act} {K:Act->World->Prop} {Q:Exit->Act->World->Prop} (s x:Operand) (t:TypeId)
 (ho:o.op=.call { callee:=.builtin .append,args:=#[s,x],argTypes:=#[t,t] })
 (base e size bytes:Nat) (z:Value) (ht:P.underlying t=some (.slice e)) (hi:(P.info? e).map (λi=>(i.zero,i.size,i.bytes))=some (some z,size,bytes)) (j:z.cells.size=size) (l:0<size)
 (W:World) (v:Value) (rows:List (List Value)) (row:List Value) (f:row.length=size) (hs:a.eval s=v) (c:OwnL W base e size v rows) (gN:Nat) (hx:a.eval x=.slice (some ⟨gN,0,none⟩) 1 1) (hb:Blk W gN e row.toArray) (h1:row.all (·.oneCell')=true)
 (m:(rows.length+1)*bytes<=140737488355328) (D:rows.length+1<=9223372036854775807) (d:base<=W.heap.size) (n:Nat) (k:rows.length=n)
 (h:∀g cap w',OwnL w' base e size (.slice (some ⟨g,0,none⟩) (n+1) cap) (rows++[row])->W.grownBy w' v.ownBlock->(v.ownBlock=some g\/g=W.heap.size)->g<w'.heap.size->K (a.put o.dst (.slice (some ⟨g,0,none⟩) (n+1) cap)) w'):
 o.wp P a W K Q:=by
 subst k
 obtain ⟨i,y,A,B,C⟩:∃i,P.info? e=some i/\i.zero=some z/\i.size=size/\i.bytes=bytes:=by
  cases hq:P.info? e with
  | none=>rw [hq] at hi;cases hi
  | some i=>rw [hq] at hi;simp at hi;exact ⟨i,rfl,hi.1,hi.2.1,hi.2.2⟩
 refine wp_append_lies W s x t ho base e i z size bytes ht y A B C j l v rows.length rows.flatten hs c.2 ⟨gN,0,none⟩ 1 1 row hx oo
  (World.news_of_block (cs:=row.toArray) hb) (λu hu=>jN.1 h1 u hu) oo (by unfold maxLen;omega) m d _ rfl ?_
 intro g cap w' p hg q w;refine h g cap w' ⟨?_,?_⟩ hg q w
 . intro r b;rcases ip.1 b with b | b
   . exact c.1 r b
   . rw [ia.1 b];exact f
 . rw [List.flatten_append,iy];simpa using p
theorem Bh {ops:Array Oper} {rest:List Oper} {o:Oper} {a:Act} {Q:Exit->Act->World->Prop} (hgd:o.guard=none) (s x:Operand) (t:TypeId)
 (ho:o.op=.call { callee:=.builtin .append,args:=#[s,x],argTypes:=#[t,t] })
 (base e size bytes:Nat) (z:Value) (ht:P.underlying t=some (.slice e)) (hi:(P.info? e).map (λi=>(i.zero,i.size,i.bytes))=some (some z,size,bytes)) (hzs:z.cells.size=size) (hsz:0<size)
 (W:World) (v:Value) (rows:List (List Value)) (row:List Value) (hrow:row.length=size) (hs:a.eval s=v) (hown:OwnL W base e size v rows) (gN:Nat) (hx:a.eval x=.slice (some ⟨gN,0,none⟩) 1 1) (hb:Blk W gN e row.toArray) (h1:row.all (·.oneCell')=true)
 (hlen:(rows.length+1)*bytes<=140737488355328) (h63:rows.length+1<=9223372036854775807) (hbase:base<=W.heap.size) (n:Nat) (hnl:rows.length=n)
 (h:∀g cap w',OwnL w' base e size (.slice (some ⟨g,0,none⟩) (n+1) cap) (rows++[row])->W.grownBy w' v.ownBlock->(v.ownBlock=some g\/g=W.heap.size)->g<w'.heap.size->wpList P ops Q rest (a.put o.dst (.slice (some ⟨g,0,none⟩) (n+1) cap)) w'):
 wpList P ops Q (o::rest) a W:=
 wpList_plain hgd λ_ hK=>JD s x t ho base e size bytes z ht hi hzs hsz W v rows row hrow hs hown gN hx hb h1 hlen h63 hbase n hnl λg cap w' h1 h2 h3 h4=>hK _ _ (h g cap w' h1 h2 h3 h4)
end
theorem OwnL.own {w w':World} {base e sz:Nat} {v:Value} {rows:List (List Value)} {row:Option Nat} (h:OwnL w base e sz v rows) (hg:w.grownBy w' row) (b:∀g,v.ownBlock=some g->row≠some g):OwnL w' base e sz v rows:=by
 refine ⟨h.1,h.2.1,?_⟩;rcases h.2.2 with h0 | ⟨g,cap,a,hv,hb,hh,hr⟩
 . exact .inl h0
 . exact .inr ⟨g,cap,a,hv,hb,Blk.own (t:=e) (cs:=a) hh hg (b g (by rw [hv];rfl)),hr⟩
theorem OwnL.row_ge {w:World} {base e sz:Nat} {v:Value} {rows:List (List Value)} (h:OwnL w base e sz v rows):∀k,v.ownBlock=some k->base<=k:=λ_ hk=>(h.own_ge hk).1

theorem L3 {rows:List (List Value)} {sz:Nat} (h:∀r∈rows,r.length=sz):∀(q:Nat) (u:Value),rows.flatten[q]? =some u->∃j i r,rows[j]? =some r/\r[i]? =some u/\q=j*sz+i:=by
 induction rows with
 | nil=>intro q u hq;simp at hq
 | cons x rows ih=>
   intro q u hq;have hx:=h x qs;rw [flatten_cons] at hq;rcases jY q x.length with a | b
   . rw [jm a] at hq;exact ⟨0,q,x,rfl,hq,oo⟩
   . rw [jW b] at hq;obtain ⟨j,i,r,h1,h2,h3⟩:=ih (λy hy=>h y (iz _ hy)) _ u hq;exact ⟨j+1,i,r,h1,h2,by rw [Nat.succ_mul];omega⟩
section
variable {P:Program}
theorem Ha {w:World} (base:Nat) (t ty e:TypeId) (i:TypeInfo) (size:Nat) (ht:P.underlying t=some (.slice e)) (hi:P.info? e=some i)
 (v:Value) (n:Nat) (xs:List Value) (a:w.ownsRow base e size v n xs) (c:Nat):(Builtin.append_ #[t,t] ty #[v,.slice none 0 c]).run P w=.ok v w:=by
 rcases a.2 with ⟨rfl,rfl⟩ | ⟨g,cap,d,rfl,_,_,b,_⟩
 . simp [Builtin.append_,j7 ht,sizeOf,typeInfo,hi,Builtin.lenOf,Builtin.firstCells]
 . simp [Builtin.append_,j7 ht,sizeOf,typeInfo,hi,Builtin.lenOf,Builtin.firstCells,b,storeCells]
theorem Ab {W:World} {ops:Array Oper} {rest:List Oper} {o:Oper} {a:Act} {Q:Exit->Act->World->Prop} (w:Region.wanted o (yielded ops a.tmps)=true) (s x:Operand) (t:TypeId)
 (ho:o.op=.call { callee:=.builtin .append,args:=#[s,x],argTypes:=#[t,t] })
 (base e size bytes:Nat) (z:Value) (ht:P.underlying t=some (.slice e)) (hi:(P.info? e).map (λi=>(i.zero,i.size,i.bytes))=some (some z,size,bytes)) (p:z.cells.size=size) (y:0<size)
 (v:Value) (rows d:List (List Value)) (hs:a.eval s=v) (f:OwnL W base e size v rows) (A:Option Addr) (m c:Nat) (hx:a.eval x=.slice A m c) (hm:m=d.length) (g:∀r∈d,r.length=size) (hl:ListAt W W.heap.size size A d) (h1:∀r∈d,r.all (·.oneCell')=true)
 (B:(rows.length+m)*bytes<=140737488355328) (O:rows.length+m<=9223372036854775807) (n:base<=W.heap.size)
 (h:∀v' w',OwnL w' base e size v' (rows++d)->W.grownBy w' v.ownBlock->(v'.ownBlock=v.ownBlock\/v'.ownBlock=some W.heap.size)->wpList P ops Q rest (a.put o.dst v') w'):
 wpList P ops Q (o::rest) a W:=by
 subst hm
 obtain ⟨i,l,E,F,G⟩:∃i,P.info? e=some i/\i.zero=some z/\i.size=size/\i.bytes=bytes:=by
  cases hq:P.info? e with
  | none=>rw [hq] at hi;cases hi
  | some i=>rw [hq] at hi;simp at hi;exact ⟨i,rfl,hi.1,hi.2.1,hi.2.2⟩
 have C:=GN g;obtain ⟨v',w',k,H,hg,I⟩:∃v' w',(Builtin.append_ #[t,t] o.type #[v,.slice A d.length c]).run P W=.ok v' w'/\w'.ownsRow base e size v' (rows.length+d.length) (rows.flatten++d.flatten)/\W.grownBy w' v.ownBlock/\
  (v'.ownBlock=v.ownBlock\/v'.ownBlock=some W.heap.size):=by
  cases A with
  | none=>
    have h0:d=[]:=by
     rcases Nat.eq_zero_or_pos d.length with h0 | h0
     . exact kI.1 h0
     . obtain ⟨b,J,e,_⟩:=hl h0;cases e
    subst h0;exact ⟨v,W,Ha base t o.type e i size ht l v _ _ f.2 c,by simpa using f.2,World.grownBy.refl W _,.inl rfl⟩
  | some ad=>
    obtain ⟨v',w',k,h2,h3,_,h5⟩:=run_append_own_at (P:=P) W base t o.type e i z size bytes ht l E F G p y v rows.length rows.flatten f.2 ad d.length c d.flatten C
     (λq u hq=>by
       obtain ⟨j,i,r,hj,L,M⟩:=L3 g q u hq
       obtain ⟨b,J,e,_,hc⟩:=hl (by have:=(iw.1 hj).1;omega)
       injection e with e
       subst e
       rw [Es,M,<-Nat.add_assoc]
       exact hc j r hj i u L)
     (λu hu=>by
       obtain ⟨r,hr,N⟩:=List.mem_flatten.1 hu
       exact jN.1 (h1 r hr) u N) (by unfold maxLen;omega) B n
    exact ⟨v',w',k,h2,h3,h5⟩
 have hK:∀K:Act->World->Prop,K (a.put o.dst v') w'->o.wp P a W K Q:=by
  intro K hk;unfold Oper.wp execOp;simp only [ho,resolve,invoke,builtin,Sem.run_bind,Sem.run_pure,Result.andThen_ok,map_toArray,map_cons,map_nil,hs,hx,k];exact hk
 have D:=h v' w' ⟨λr hr=>(ip.1 hr).elim (f.1 r) (g r),by rw [List.flatten_append,iy];exact H⟩ hg I;exact wpList_step λK hk=>by rw [if_pos w];exact hK K (hk _ _ D)
end

section
variable {P:Program} {ops:Array Oper} {Q:Exit->Act->World->Prop} {md:Region.Mode} {A:Nat->Bool} {S:World->Prop}
def Down (md:Region.Mode) (ops:Array Oper) (listed:Array Bool):Prop:=
 ∀j oj,ops[j]? =some oj->listed.getD j true=true->∀e∈oj.after,Region.binds md e=true->listed.getD e.on false=true
theorem Down.step {listed:Array Bool} (h:Down md ops listed) {j:Nat} (hj:j∈Region.ready md ops listed):Down md ops (listed.setIfInBounds j true):=by
 intro k ok hk hl e he hb;by_cases a:j=k
 . subst a;obtain ⟨_,oj,b,c⟩:=mem_ready.1 hj;rw [b] at hk;injection hk with hk;subst hk;exact getD_set_true (c e he hb)
 . rw [getD_set_ne true a] at hl;exact getD_set_true (h k ok hk hl e he hb)
def Late (md:Region.Mode) (ops:Array Oper) (i:Nat) (late:Nat->Bool):Prop:=
 ∀j oj,ops[j]? =some oj->late j=true->∃e∈oj.after,Region.binds md e=true/\(e.on=i\/(late e.on=true/\e.on<j/\e.on<ops.size))
theorem Late.unlisted {i:Nat} {late:Nat->Bool} (h:Late md ops i late) {listed:Array Bool} (hd:Down md ops listed) (hi:listed.getD i false=false):∀j,j<ops.size->late j=true->listed.getD j true=false:=by
 intro j
 induction j using Nat.strongRecOn with
 | ind j ih=>
   intro hj hl;obtain ⟨e,he,hb,b⟩:=h j ops[j] (jR hj) hl;cases a:listed.getD j true with
   | false=>rfl
   | true=>
     have h1:=hd j ops[j] (jR hj) a e he hb;rcases b with h2 | ⟨h2,h3,h4⟩
     . rw [h2,hi] at h1;cases h1
     . have h5:=ih e.on h3 h4 h2;rcases jY e.on listed.size with h6 | h6
       . simp [h6] at h1 h5;rw [h1] at h5;cases h5
       . simp [kH h6] at h1
def O8 (md:Region.Mode) (ops:Array Oper) (listed:Array Bool):Bool:=
 (List.range ops.size).all λj=>!listed.getD j true || (match ops[j]? with | some o=>o.after.all (λe=>!Region.binds md e || listed.getD e.on false) | none=>true)
theorem Mt {listed:Array Bool} (h:O8 md ops listed=true):Down md ops listed:=by
 intro j oj hj hl e he hb;have a:=(jM.1 hj).1;have h1:=jN.1 h j (jB.2 a);simp only [hl,hj,Bool.not_true,Bool.false_or] at h1;have h2:=(Array.all_eq_true_iff_forall_mem.1 h1) e he;simpa [hb] using h2
def bo (md:Region.Mode) (ops:Array Oper) (i:Nat) (late:Nat->Bool):Bool:=
 (List.range ops.size).all λj=>!late j || (match ops[j]? with | some o=>o.after.any (λe=>Region.binds md e && (e.on==i || (late e.on && decide (e.on<j) && decide (e.on<ops.size)))) | none=>true)
theorem Tk {i:Nat} {late:Nat->Bool} (h:bo md ops i late=true):Late md ops i late:=by
 intro j oj hj hl;have a:=(jM.1 hj).1;have h1:=jN.1 h j (jB.2 a);simp only [hl,hj,Bool.not_true,Bool.false_or] at h1;obtain ⟨e,he,h2⟩:=Array.any_eq_true'.1 h1;simp only [jF,Bool.or_eq_true,jy,jG] at h2;exact ⟨e,he,h2.1,h2.2.imp id (λh=>⟨h.1.1,h.1.2,h.2⟩)⟩
end

section
variable {P:Program} {ops:Array Oper} {Q:Exit->Act->World->Prop} {md:Region.Mode} {A:Nat->Bool} {S:World->Prop}
def B5 (P:Program) (md:Region.Mode) (ops:Array Oper) (Q:Exit->Act->World->Prop) (A:Nat->Bool) (S:World->Prop):Nat->Array Bool->Act->World->Prop
 | 0,listed,a,w=>Region.ready md ops listed=[]/\Q .normal a w
 | fuel+1,listed,a,w=>
   (Region.ready md ops listed=[]->Q .normal a w)/\
   ∀i∈Region.ready md ops listed,wpOp P ops Q i (λa' w'=>(A i=true\/(S w->S w'))/\B5 P md ops Q A S fuel (listed.setIfInBounds i true) a' w') a w
theorem NN:∀(fuel:Nat) (listed:Array Bool) (a:Act) (w:World),B5 P md ops Q A S fuel listed a w->wpAny P md ops Q fuel listed a w
 | 0,_,_,_,h=>h
 | fuel+1,_,_,_,h=>⟨h.1,λi hi=>wpOp_mono (λa' w' h'=>NN fuel _ a' w' h'.2) (h.2 i hi)⟩
theorem Qu {i:Nat} {oi:Oper} {v:Value} {late:Nat->Bool} (hi:ops[i]? =some oi) (q:∀(j:Nat) (o:Oper) cs b,ops[j]? =some o->o.op≠.select cs b)
 (p:Late md ops i late) (hA:∀j,A j=true->late j=true) (C:A i=false)
 (hQ:∀c a w,Q (.panic c) (a.put oi.dst v) w->Q (.panic c) a w):
 ∀(fuel:Nat) (d:Array Bool) (a:Act) (w:World),Down md ops d->
  (∀j oj,ops[j]? =some oj->j≠i->d.getD j true=false->(∀e∈oj.after,Region.binds md e=true->e.on≠i)->oi.apart ops oj=true)->
  i∈Region.ready md ops d->YieldsIf P ops S oi v a->S w->
  B5 P md ops Q A S fuel (d.setIfInBounds i true) (a.put oi.dst v) w->B5 P md ops Q A S (fuel+1) d a w:=by
 intro fuel;have D:i<ops.size:=(jM.1 hi).1
 have u:∀(d:Array Bool),Down md ops d->i∈Region.ready md ops d->∀j,j∈Region.ready md ops d->j≠i->A j=false:=by
  intro d hd hr j hj f;cases l:A j with
  | false=>rfl
  | true=>
    exfalso;have hl:=hA j l;obtain ⟨m,oj,g,n⟩:=mem_ready.1 hj;obtain ⟨e,he,hb,B⟩:=p j oj g hl;have h1:=n e he hb;have h0:=(mem_ready.1 hr).1
    have r:d.getD i false=false:=by
     rcases jY i d.size with h' | h'
     . simp [h'] at h0 ⊢;exact h0
     . simp [kH h']
    rcases B with h2 | ⟨h2,h3,h4⟩
    . rw [h2,r] at h1;cases h1
    . have h5:=p.unlisted hd r e.on h4 h2;rcases jY e.on d.size with h6 | h6
      . simp [h6] at h1 h5;rw [h1] at h5;cases h5
      . simp [kH h6] at h1
 induction fuel with
 | zero=>
   intro d a w hd _ hr hy hS H;refine ⟨λh=>(by rw [h] at hr;cases hr),λj hj=>?_⟩;by_cases f:j=i
   . subst f;exact hy.wpOp hi hS ⟨.inr (λh=>h),H⟩
   . have:=ready_mono hj f;rw [H.1] at this;cases this
 | succ fuel ih=>
   intro d a w hd t hr hy hS H;refine ⟨λh=>(by rw [h] at hr;cases hr),λj hj=>?_⟩;by_cases f:j=i
   . subst f;exact hy.wpOp hi hS ⟨.inr (λh=>h),H⟩
   . have h1:=H.2 j (ready_mono hj f);have l:=u d hd hr j hj f;obtain ⟨m,oj,g,n⟩:=mem_ready.1 hj
     have x:∀e∈oj.after,Region.binds md e=true->e.on≠i:=λe he hb heq=>by
      have h1:=n e he hb;have h0:=(mem_ready.1 hr).1;rw [heq] at h1;rcases jY i d.size with h' | h'
      . simp [h'] at h0 h1;rw [h0] at h1;cases h1
      . simp [kH h'] at h1
     have h2:=wpOp_putIf g (t j oj g f m x) (λcs b=>q i oi cs b hi) (λcs b=>q j oj cs b g) hQ hy h1;have y:∀k ok,ops[k]? =some ok->k≠i->(d.setIfInBounds j true).getD k true=false->
      (∀e∈ok.after,Region.binds md e=true->e.on≠i)->oi.apart ops ok=true:=λk ok hk hki hun hno=>by
      refine t k ok hk hki ?_ hno;by_cases s:j=k
      . subst s;exact m
      . rw [getD_set_ne true s] at hun;exact hun
     refine wpOp_mono (λa' w' h3=>?_) h2;have z:S w':=h3.2.1.resolve_left (by rw [l];simp) hS;refine ⟨h3.2.1,ih (d.setIfInBounds j true) a' w' (hd.step hj) y (ready_mono hr (Ne.symm f)) h3.1 z ?_⟩;rw [Array.setIfInBounds_comm _ _ f];exact h3.2.2
theorem Of {i:Nat} {oi:Oper} {v:Value} (hi:ops[i]? =some oi) (l:∀(j:Nat) (o:Oper) cs b,ops[j]? =some o->o.op≠.select cs b)
 (hQ:∀c a w,Q (.panic c) (a.put oi.dst v) w->Q (.panic c) a w):
 ∀(fuel:Nat) (d:Array Bool) (a:Act) (w:World),Down md ops d->
  (∀j oj,ops[j]? =some oj->j≠i->d.getD j true=false->(∀e∈oj.after,Region.binds md e=true->e.on≠i)->oi.apart ops oj=true)->
  i∈Region.ready md ops d->YieldsIf P ops (λ_=>True) oi v a->
  B5 P md ops Q A S fuel (d.setIfInBounds i true) (a.put oi.dst v) w->B5 P md ops Q A S (fuel+1) d a w:=by
 intro fuel
 induction fuel with
 | zero=>
   intro d a w hd _ hr hy H;refine ⟨λh=>(by rw [h] at hr;cases hr),λj hj=>?_⟩;by_cases f:j=i
   . subst f;exact hy.wpOp hi trivial ⟨.inr (λh=>h),H⟩
   . have:=ready_mono hj f;rw [H.1] at this;cases this
 | succ fuel ih=>
   intro d a w hd n hr hy H;refine ⟨λh=>(by rw [h] at hr;cases hr),λj hj=>?_⟩;by_cases f:j=i
   . subst f;exact hy.wpOp hi trivial ⟨.inr (λh=>h),H⟩
   . have h1:=H.2 j (ready_mono hj f);obtain ⟨p,oj,g,s⟩:=mem_ready.1 hj
     have q:∀e∈oj.after,Region.binds md e=true->e.on≠i:=λe he hb heq=>by
      have h1:=s e he hb;have h0:=(mem_ready.1 hr).1;rw [heq] at h1;rcases jY i d.size with h' | h'
      . simp [h'] at h0 h1;rw [h0] at h1;cases h1
      . simp [kH h'] at h1
     have h2:=wpOp_putIf g (n j oj g f p q) (λcs b=>l i oi cs b hi) (λcs b=>l j oj cs b g) hQ hy h1;have r:∀k ok,ops[k]? =some ok->k≠i->(d.setIfInBounds j true).getD k true=false->
      (∀e∈ok.after,Region.binds md e=true->e.on≠i)->oi.apart ops ok=true:=λk ok hk hki hun hno=>by
      refine n k ok hk hki ?_ hno;by_cases m:j=k
      . subst m;exact p
      . rw [getD_set_ne true m] at hun;exact hun
     refine wpOp_mono (λa' w' h3=>?_) h2;refine ⟨h3.2.1,ih (d.setIfInBounds j true) a' w' (hd.step hj) r (ready_mono hr (Ne.symm f)) h3.1 ?_⟩;rw [Array.setIfInBounds_comm _ _ f];exact h3.2.2
theorem RU {i:Nat} {oi:Oper} {v:Value} {fuel:Nat} {listed:Array Bool} {a:Act} {w:World} {al:List Nat} (b:List Nat) (d:Option Tmp) (hi:ops[i]? =some oi) (e:oi.dst=d)
 (hs:Region.noSelect ops=true) (hd:O8 md ops listed=true) (hl:bo md ops i b.contains=true) (hA:al.all b.contains=true) (f:al.contains i=false)
 (hf:Region.free md ops listed i=true) (hr:(Region.ready md ops listed).contains i=true)
 (hQ:∀c a w,Q (.panic c) (a.put oi.dst v) w->Q (.panic c) a w) (hy:YieldsIf P ops S oi v a) (hS:S w)
 (h:B5 P md ops Q al.contains S fuel (listed.setIfInBounds i true) (a.put d v) w):B5 P md ops Q al.contains S (fuel+1) listed a w:=by
 subst e;exact Qu hi (Region.noSelect_spec hs) (Tk hl) (λj hj=>jN.1 hA j (by simpa using hj)) f hQ fuel listed a w (Mt hd) (Region.free_spec hi hf) (by simpa using hr) hy hS h
theorem Jz {i:Nat} {oi:Oper} {v:Value} {fuel:Nat} {listed:Array Bool} {a:Act} {w:World} {al:List Nat} (d:Option Tmp) (hi:ops[i]? =some oi) (b:oi.dst=d)
 (hs:Region.noSelect ops=true) (hd:O8 md ops listed=true)
 (hf:Region.free md ops listed i=true) (hr:(Region.ready md ops listed).contains i=true)
 (hQ:∀c a w,Q (.panic c) (a.put oi.dst v) w->Q (.panic c) a w) (hy:YieldsIf P ops (λ_=>True) oi v a)
 (h:B5 P md ops Q al.contains S fuel (listed.setIfInBounds i true) (a.put d v) w):B5 P md ops Q al.contains S (fuel+1) listed a w:=by
 subst b;exact Of hi (Region.noSelect_spec hs) hQ fuel listed a w (Mt hd) (Region.free_spec hi hf) (by simpa using hr) hy h
theorem YK {i:Nat} {oi:Oper} {fuel:Nat} {listed:Array Bool} {a:Act} {w:World} {al:List Nat} (hoi:ops[i]? =some oi) (hr:Region.ready md ops listed=[i])
 (gi:(∀K':Act->World->Prop,Shut (∀a' w',(al.contains i=true\/(S w->S w'))->B5 P md ops Q al.contains S fuel (listed.setIfInBounds i true) a' w'->K' a' w')->if Region.wanted oi (yielded ops a.tmps)=true then Oper.wp P oi a w K' Q else K' (a.put oi.dst undef) w))
 :B5 P md ops Q al.contains S (fuel+1) listed a w:=
 ⟨λh0=>absurd (hr▸h0) qs,λx hx=>(by
  rw [hr] at hx
  rw [ia.1 hx]
  exact wpOp_step hoi (λK' hK=>gi K' (λa' w' hS hW=>hK a' w' ⟨hS,hW⟩)))⟩
theorem Dk {i j:Nat} {oi oj:Oper} {fuel:Nat} {listed:Array Bool} {a:Act} {w:World} {al:List Nat} (hoi:ops[i]? =some oi) (hoj:ops[j]? =some oj) (hr:Region.ready md ops listed=[i,j])
 (gi:(∀K':Act->World->Prop,Shut (∀a' w',(al.contains i=true\/(S w->S w'))->B5 P md ops Q al.contains S fuel (listed.setIfInBounds i true) a' w'->K' a' w')->if Region.wanted oi (yielded ops a.tmps)=true then Oper.wp P oi a w K' Q else K' (a.put oi.dst undef) w))
 (gj:(∀K':Act->World->Prop,Shut (∀a' w',(al.contains j=true\/(S w->S w'))->B5 P md ops Q al.contains S fuel (listed.setIfInBounds j true) a' w'->K' a' w')->if Region.wanted oj (yielded ops a.tmps)=true then Oper.wp P oj a w K' Q else K' (a.put oj.dst undef) w))
 :B5 P md ops Q al.contains S (fuel+1) listed a w:=
 ⟨λh0=>absurd (hr▸h0) qs,λx hx=>(by
  rw [hr] at hx
  rcases jh.1 hx with rfl | hx
  . exact wpOp_step hoi (λK' hK=>gi K' (λa' w' hS hW=>hK a' w' ⟨hS,hW⟩))
  rw [ia.1 hx]
  exact wpOp_step hoj (λK' hK=>gj K' (λa' w' hS hW=>hK a' w' ⟨hS,hW⟩)))⟩
theorem AA {listed:Array Bool} {a:Act} {w:World} {al:List Nat} (hr:Region.ready md ops listed=[]) (h:Q .normal a w):∀fuel,B5 P md ops Q al.contains S fuel listed a w
 | 0=>⟨hr,h⟩
 | _+1=>⟨λ_=>h,by rw [hr];simp⟩
theorem AB {id:Nat} {a:Act} {w:World} (al:List Nat) (S:World->Prop) (hm:P.follows .mixedOrders=true)
 (h:B5 P .any ops Q al.contains S ops.size (Array.replicate ops.size false) a w.drew):(Code.region id ops true).wp P Q a w:=
 wp_region_any hm (NN _ _ _ _ h)
end
section
variable {P:Program} {ops:Array Oper} {Q:Exit->Act->World->Prop} {md:Region.Mode} {S:World->Prop} {oi oj:Oper} {v:Value} {fuel:Nat} {listed:Array Bool} {a b:Act} {w:World} {al:List Nat}
def Ux (md:Region.Mode) (ops:Array Oper) (i:Nat):List Nat:=
 (List.range ops.size).foldl (λl j=>if (ops[j]?.map λo=>o.after.any λe=>Region.binds md e && (e.on==i || l.contains e.on)).getD false then l++[j] else l) []
theorem tQ (i:Nat) (d:Nat) (h:B5 P md ops Q al.contains S fuel (listed.setIfInBounds i true) b w) (hi:ops[i]? =some oi:=by rfl) (hdst:oi.dst=some d:=by rfl)
 (hs:Region.noSelect ops=true:=by kernel_rfl) (hd:O8 md ops listed=true:=by kernel_rfl) (hf:Region.free md ops listed i=true:=by kernel_rfl) (hr:(Region.ready md ops listed).contains i=true:=by kernel_rfl)
 (hQ:∀c a w,Q (.panic c) (a.put oi.dst v) w->Q (.panic c) a w:=by exact λ_ _ _ h=>h)
 (hy:YieldsIf P ops (λ_=>True) oi v a:=by exact Or.inl ⟨by rfl,by (intro wS hSw;(try dsimp only at hSw);go_simp;(try with_reducible rfl);(try (first | (rw [if_pos oo];(try go_simp);(try with_reducible rfl)) | (rw [if_neg oo];(try go_simp);(try with_reducible rfl)))))⟩)
 (ha:a.put (some d) v=b:=by (try simp only [Act.put,zA,zB,zC])<;>rfl):B5 P md ops Q al.contains S (fuel+1) listed a w:=by
 subst ha;exact Jz (some d) hi hdst hs hd hf hr hQ hy h
theorem tT (i:Nat) (d:Option Nat) (hS:S w) (h:B5 P md ops Q al.contains S fuel (listed.setIfInBounds i true) b w) (hi:ops[i]? =some oi:=by rfl) (hdst:oi.dst=d:=by rfl)
 (hs:Region.noSelect ops=true:=by kernel_rfl) (hd:O8 md ops listed=true:=by kernel_rfl) (hl:bo md ops i (Ux md ops i).contains=true:=by kernel_rfl) (hA:al.all (Ux md ops i).contains=true:=by kernel_rfl) (hAi:al.contains i=false:=by kernel_rfl)
 (hf:Region.free md ops listed i=true:=by kernel_rfl) (hr:(Region.ready md ops listed).contains i=true:=by kernel_rfl)
 (hQ:∀c a w,Q (.panic c) (a.put oi.dst v) w->Q (.panic c) a w:=by exact λ_ _ _ h=>h)
 (hy:YieldsIf P ops S oi v a:=by exact Or.inl ⟨by rfl,by (intro wS hSw;(try dsimp only at hSw);go_simp;(try with_reducible rfl);(try (first | (rw [if_pos oo];(try go_simp);(try with_reducible rfl)) | (rw [if_neg oo];(try go_simp);(try with_reducible rfl)))))⟩)
 (ha:a.put d v=b:=by (try simp only [Act.put,zA,zB,zC])<;>rfl):B5 P md ops Q al.contains S (fuel+1) listed a w:=by
 subst ha;exact RU (Ux md ops i) d hi hdst hs hd hl hA hAi hf hr hQ hy hS h
theorem tU (i:Nat) (d:Option Nat) (h:B5 P md ops Q al.contains S fuel (listed.setIfInBounds i true) b w) (hi:ops[i]? =some oi:=by rfl) (hdst:oi.dst=d:=by rfl)
 (hs:Region.noSelect ops=true:=by kernel_rfl) (hd:O8 md ops listed=true:=by kernel_rfl) (hf:Region.free md ops listed i=true:=by kernel_rfl) (hr:(Region.ready md ops listed).contains i=true:=by kernel_rfl)
 (hQ:∀c a w,Q (.panic c) (a.put oi.dst undef) w->Q (.panic c) a w:=by exact λ_ _ _ h=>h)
 (hy:YieldsIf P ops (λ_=>True) oi undef a:=by exact Or.inr ⟨by rfl,rfl⟩)
 (ha:a.put d undef=b:=by (try simp only [Act.put,zA,zB,zC])<;>rfl):B5 P md ops Q al.contains S (fuel+1) listed a w:=by
 subst ha;exact Jz d hi hdst hs hd hf hr hQ hy h
theorem tO (i:Nat) (gi:∀K':Act->World->Prop,Shut (∀a' w',(al.contains i=true\/(S w->S w'))->B5 P md ops Q al.contains S fuel (listed.setIfInBounds i true) a' w'->K' a' w')->Oper.wp P oj a w K' Q)
 (hi:ops[i]? =some oi:=by rfl) (hr:Region.ready md ops listed=[i]:=by kernel_rfl) (hw:Region.wanted oi (yielded ops a.tmps)=true:=by rfl)
 (ho:oi=oj:=by (try simp only [jn,jS,ja])<;>rfl):B5 P md ops Q al.contains S (fuel+1) listed a w:=by
 subst ho;exact YK hi hr (λK' hK=>by rw [if_pos hw];exact gi K' hK)
end

end
section
open Go.Maps (Keyed)
open Go.RowKit Go.MapKept
def upd {α β:Type} [DecidableEq α] (F:α->β) (a:α) (b:β):α->β:=λx=>if x=a then b else F x
theorem ER {α β:Type} [DecidableEq α] (F:α->β) (a:α) (b:β):upd F a b a=b:=if_pos rfl
theorem Ep {α β:Type} [DecidableEq α] (F:α->β) {a x:α} (b:β) (h:x≠a):upd F a b x=F x:=if_neg h
theorem ZB {α:Type} {l:List α} (h:l.Nodup) {i j:Nat} {a:α} (hi:l[i]? =some a) (hj:l[j]? =some a):i=j:=by
 obtain ⟨b,e1⟩:=iw.1 hi;obtain ⟨c,e2⟩:=iw.1 hj;rcases Nat.lt_trichotomy i j with h1 | h1 | h1
 . exact absurd (e1.trans e2.symm) (kN.1 h i j b c h1)
 . exact h1
 . exact absurd (e2.trans e1.symm) (kN.1 h j i c b h1)
def MapIs {α:Type} (P:Program) (k:TypeId) (kv:α->Value) (w:World) (m:Nat) (F:α->Option Value):Prop:=
 ∃(es:Array MapEntry) (clock:Nat) (l:List (α × Value)),w.heap[m]? =some (.map es clock)/\es.toList.map (λe=>(e.key,e.val))=l.map (λp=>(kv p.1,p.2))/\(l.map (·.1)).Nodup/\(∀p∈l,∃x,keyOf P k (kv p.1)=some x)/\(∀a v,F a=some v↔(a,v)∈l)/\(∀x∈es.toList,x.born<clock)/\(es.toList.map (·.born)).Nodup
section
variable {α:Type} {P:Program} {k:TypeId} {kv:α->Value} {w w':World} {m:Nat} {F:α->Option Value}
theorem MapIs.lt (h:MapIs P k kv w m F):m<w.heap.size:=by
 obtain ⟨es,c,l,hb,_⟩:=h;rcases jY m w.heap.size with a | b
 . exact a
 . rw [kH b] at hb;cases hb
theorem MapIs.same (h:MapIs P k kv w m F) (e:w'.heap[m]? =w.heap[m]?):MapIs P k kv w' m F:=by
 obtain ⟨es,a,l,hb,hr⟩:=h;exact ⟨es,a,l,e.trans hb,hr⟩
theorem MapIs.alloc (h:MapIs P k kv w m F) (o:Obj):MapIs P k kv (w.alloc o) m F:=h.same (Below.heap_alloc w o m h.lt)
theorem MapIs.drew (h:MapIs P k kv w m F):MapIs P k kv w.drew m F:=h
theorem MapIs.far (h:MapIs P k kv w m F) {p:Addr} (hp:m≠p.block) (u:Value):MapIs P k kv (w.setCell p u) m F:=h.same (Below.heap_setCell w p u m hp)
theorem MapIs.turned (h:MapIs P k kv w m F) {S:Nat->Prop} (ht:Turned S w w') (hS:¬S m):MapIs P k kv w' m F:=h.same (ht.block m h.lt hS)
theorem MapIs.grew (h:MapIs P k kv w m F) (hg:Grew w w'):MapIs P k kv w' m F:=h.same (hg.block m h.lt)
theorem MapIs.grown (h:MapIs P k kv w m F) {row:Option Nat} (hg:w.grownBy w' row) (hne:row≠some m):MapIs P k kv w' m F:=h.same (hg.block m h.lt (λe=>hne e.symm))
theorem MapIs.congr (h:MapIs P k kv w m F) {G:α->Option Value} (e:∀a,F a=G a):MapIs P k kv w m G:=by
 have:F=G:=funext e;rwa [<-this]
theorem MapIs.made (w:World) {n:Nat} (hn:n=w.heap.size):MapIs P k kv (w.alloc (.map #[] 0)) n (λ_=>none):=by
 subst hn;exact ⟨#[],0,[],heap_alloc_new w _,rfl,qs,qs,qs,qs,qs⟩
theorem N5 (w:World) (m i:Nat) (o:Obj) (h:i≠m):(w.heap.setIfInBounds m o)[i]? =w.heap[i]? :=by
 rw [Array.getElem?_setIfInBounds];rw [if_neg (λe=>h e.symm)]
theorem JO (w:World) (m:Nat) (o:Obj) (h:m<w.heap.size):(w.heap.setIfInBounds m o)[m]? =some o:=by
 rw [Array.getElem?_setIfInBounds,if_pos rfl,if_pos h]
theorem JU (w:World) (m:Nat) (o:Obj):Turned (λx=>x=m) w { w with heap:=w.heap.setIfInBounds m o }:=
 ⟨rfl,rfl,rfl,qs,λi _ hi=>N5 w m i o hi⟩
variable (K:Keyed P k) (hinj:∀a b,kv a=kv b->a=b)
include K hinj
theorem Qb {es:Array MapEntry} {l:List (α × Value)} (he:es.toList.map (λe=>(e.key,e.val))=l.map (λp=>(kv p.1,p.2))) (n:(l.map (·.1)).Nodup) (f:∀p∈l,∃x,keyOf P k (kv p.1)=some x)
 (hF:∀a v,F a=some v↔(a,v)∈l) (w:World) (a:α) {x:Lit} (hx:keyOf P k (kv a)=some x):
 ((Instr.findKey k (kv a) es.toList).run P w=.ok none w/\F a=none)\/∃j v,(Instr.findKey k (kv a) es.toList).run P w=.ok (some (j,v)) w/\F a=some v/\l[j]? =some (a,v):=by
 have g:∀e∈es.toList,∃l,keyOf P k e.key=some l:=by
  intro e c;have hm:(e.key,e.val)∈es.toList.map (λe=>(e.key,e.val)):=List.mem_map_of_mem c;rw [he] at hm;obtain ⟨p,hp,i⟩:=ie.1 hm;injection i with h1 _;rw [<-h1];exact f p hp
 rcases K.find w hx es.toList g with ⟨h1,h2⟩ | ⟨j,e,h1,h2,h3⟩
 . refine .inl ⟨h1,?_⟩;cases h:F a with
   | none=>rfl
   | some v=>
     exfalso;have hm:=(hF a v).1 h;have d:(kv a,v)∈l.map (λp=>(kv p.1,p.2)):=ie.2 ⟨(a,v),hm,rfl⟩;rw [<-he] at d;obtain ⟨e,c,m⟩:=ie.1 d;injection m with hk1 _;exact h2 e c hk1
 . refine .inr ⟨j,e.val,h1,?_,?_⟩
   . have hj:(es.toList.map (λe=>(e.key,e.val)))[j]? =some (e.key,e.val):=by rw [iZ,h2];rfl
     rw [he,iZ] at hj;cases hq:l[j]? with
     | none=>rw [hq] at hj;cases hj
     | some p=>
       rw [hq] at hj;injection hj with hj;injection hj with hj1 hj2;have b:p.1=a:=hinj _ _ (hj1.trans h3);exact (hF a e.val).2 (by rw [<-b,<-hj2];exact js hq)
   . have hj:(es.toList.map (λe=>(e.key,e.val)))[j]? =some (e.key,e.val):=by rw [iZ,h2];rfl
     rw [he,iZ] at hj;cases hq:l[j]? with
     | none=>rw [hq] at hj;cases hj
     | some p=>
       rw [hq] at hj;injection hj with hj;injection hj with hj1 hj2;have b:p.1=a:=hinj _ _ (hj1.trans h3);rw [<-b,<-hj2]
theorem MapIs.lookup_ok (h:MapIs P k kv w m F) {t e:TypeId} {z:Value} (ht:P.underlying t=some (.map k e)) (hz:(zeroValue e).run P w=.ok z w) (a:α) {x:Lit} (hx:keyOf P k (kv a)=some x):
 (Instr.lookup t (.map (some m)) (kv a) true).run P w=.ok (.tuple #[(F a).getD z,.bool (F a).isSome]) w:=by
 obtain ⟨es,d,l,hb,he,b,c,hF,f,g⟩:=h;rcases Qb K hinj he b c hF w a hx with ⟨h1,h2⟩ | ⟨j,v,h1,h2,_⟩
 . simp [Instr.lookup,j7 ht,jX hb,K.check w _ hx,h1,h2,hz]
 . simp [Instr.lookup,j7 ht,jX hb,K.check w _ hx,h1,h2]
theorem MapIs.lookup_val (h:MapIs P k kv w m F) {t e:TypeId} {z:Value} (ht:P.underlying t=some (.map k e)) (hz:(zeroValue e).run P w=.ok z w) (a:α) {x:Lit} (hx:keyOf P k (kv a)=some x):
 (Instr.lookup t (.map (some m)) (kv a) false).run P w=.ok ((F a).getD z) w:=by
 obtain ⟨es,d,l,hb,he,b,c,hF,f,g⟩:=h;rcases Qb K hinj he b c hF w a hx with ⟨h1,h2⟩ | ⟨j,v,h1,h2,_⟩
 . simp [Instr.lookup,j7 ht,jX hb,K.check w _ hx,h1,h2,hz]
 . simp [Instr.lookup,j7 ht,jX hb,K.check w _ hx,h1,h2]
theorem MapIs.update [DecidableEq α] (h:MapIs P k kv w m F) {t e:TypeId} (ht:P.underlying t=some (.map k e)) (a:α) {x:Lit} (hx:keyOf P k (kv a)=some x) (v:Value):
 ∃w',(Instr.mapUpdate t (.map (some m)) (kv a) v).run P w=.ok () w'/\MapIs P k kv w' m (upd F a (some v))/\Turned (λx=>x=m) w w':=by
 obtain ⟨es,n,l,hb,he,g,o,hF,r,s⟩:=h;have A:m<w.heap.size:=MapIs.lt (P:=P) (k:=k) (kv:=kv) (F:=F) ⟨es,n,l,hb,he,g,o,hF,r,s⟩;rcases Qb K hinj he g o hF w a hx with ⟨h1,h2⟩ | ⟨j,v0,h1,h2,hj⟩
 . refine ⟨_,?_,?_,JU w m (.map (es.push { key:=kv a,val:=v,born:=n }) (n+1))⟩
   . simp [Instr.mapUpdate,j7 ht,jX hb,K.check w _ hx,h1,j2 _ hb]
   . have B:∀v,(a,v) ∉ l:=λv hv=>by have:=(hF a v).2 hv;rw [h2] at this;cases this
     refine ⟨_,_,l++[(a,v)],JO w m _ A,by simp [he],?_,?_,?_,?_,?_⟩
     . rw [il,jg];refine ⟨g,qs,λy hy z hz e=>?_⟩;simp at hz;subst hz;subst e;obtain ⟨p,hp,I⟩:=ie.1 hy;exact B p.2 (by rw [<-I];exact hp)
     . intro p hp;rcases ip.1 hp with hp | hp
       . exact o p hp
       . rw [ia.1 hp];exact ⟨x,hx⟩
     . intro b u;rw [ip];by_cases d:b=a
       . subst d;rw [ER];simp [B];exact eq_comm
       . rw [Ep _ _ d,hF b u];simp [d]
     . intro y hy;rw [Array.toList_push] at hy;rcases ip.1 hy with hy | hy
       . have:=r y hy;omega
       . rw [ia.1 hy];exact Nat.lt_succ_self _
     . rw [Array.toList_push,il,jg];refine ⟨s,qs,λy hy z hz e=>?_⟩;simp at hz;subst hz;subst e;obtain ⟨q,hq,J⟩:=ie.1 hy;have:=r q hq;omega
 . have f:j<es.size:=by
    have:=(iw.1 hj).1;have D:=ix length he;simp at D;omega
   have E:(es[j]'f).key=kv a:=by
    have hq:(es.toList.map (λe=>(e.key,e.val)))[j]? =(l.map (λp=>(kv p.1,p.2)))[j]? :=by rw [he]
    rw [iZ,iZ,hj] at hq;rw [j9,jR f] at hq;simp at hq;exact hq.1
   refine ⟨_,?_,?_,JU w m (.map (es.modify j λe=>{ e with key:=kv a,val:=v }) n)⟩
   . simp [Instr.mapUpdate,j7 ht,jX hb,K.check w _ hx,h1,j2 _ hb,f,E,K.stays w hx]
   . have C:(es.modify j λe=>{ e with key:=kv a,val:=v }).toList.map (·.born)=es.toList.map (·.born):=by
      apply kU;intro i;rw [iZ,iZ,j9,j9,kA];by_cases c:j=i
      . subst c;rw [if_pos rfl,jR f];rfl
      . rw [if_neg c]
     refine ⟨_,_,l.set j (a,v),JO w m _ A,?_,?_,?_,?_,?_,by rw [C];exact s⟩
     . apply kU;intro i;have hi:=ix (λz=>z[i]?) he;simp only [iZ,j9] at hi;rw [iZ,iZ,j9,kA,kD];by_cases c:j=i
       . subst c;rw [if_pos rfl,if_pos rfl,if_pos (iw.1 hj).1,jR f];rfl
       . rw [if_neg c,if_neg c];exact hi
     . rw [List.map_set]
       have:(l.map (·.1)).set j a=l.map (·.1):=by
        apply kU;intro i;rw [kD];by_cases c:j=i
        . subst c;rw [if_pos rfl,iZ,hj];have:j<(l.map (·.1)).length:=by rw [iY];exact (iw.1 hj).1
          rw [if_pos this];rfl
        . rw [if_neg c]
       rw [this];exact g
     . intro p hp;rcases jE hp with hp | rfl
       . exact o p hp
       . exact ⟨x,hx⟩
     . intro b u;have G:=(iw.1 hj).1
       have H:∀i q,l[i]? =some q->q.1=a->i=j:=by
        intro i q hi hq;have h1:(l.map (·.1))[i]? =some a:=by rw [iZ,hi];simp [hq]
        have h2:(l.map (·.1))[j]? =some a:=by rw [iZ,hj];rfl
        exact ZB g h1 h2
       by_cases d:b=a
       . subst d;rw [ER,List.mem_iff_getElem?];constructor
         . intro e;injection e with e;subst e;exact ⟨j,by rw [jp G]⟩
         . rintro ⟨i,hi⟩;rw [kD] at hi;by_cases c:j=i
           . rw [if_pos c,if_pos oo] at hi;injection hi with hi;injection hi with _ hi;rw [hi]
           . rw [if_neg c] at hi;exact absurd (H i _ hi rfl).symm c
       . rw [Ep _ _ d,hF b u,List.mem_iff_getElem?,List.mem_iff_getElem?];constructor
         . rintro ⟨i,hi⟩;refine ⟨i,?_⟩;rw [kD,if_neg]
           . exact hi
           . rintro rfl;rw [hj] at hi;injection hi with hi;injection hi with hi _;exact d hi.symm
         . rintro ⟨i,hi⟩;rw [kD] at hi;by_cases c:j=i
           . rw [if_pos c,if_pos oo] at hi;injection hi with hi;injection hi with hi _;exact absurd hi.symm d
           . rw [if_neg c] at hi;exact ⟨i,hi⟩
     . intro y hy;have h9:y.born∈es.toList.map (·.born):=by rw [<-C];exact List.mem_map_of_mem hy
       obtain ⟨q,hq,J⟩:=ie.1 h9;have:=r q hq;omega
end
section
variable {α:Type} {P:Program} {k:TypeId} {kv:α->Value} {w:World} {m:Nat} {F:α->Option Value}
theorem D6 [DecidableEq α] {o:Oper} {a:Act} {Kp:Act->World->Prop} {Q:Exit->Act->World->Prop} (mo x v:Operand) (t:TypeId) (i:o.op=Op.mapUpdate t mo x v)
 (e:TypeId) (K:Keyed P k) (f:∀a b,kv a=kv b->a=b) (ht:P.underlying t=some (.map k e)) (hm:a.eval mo=.map (some m)) (h:MapIs P k kv w m F) (c:α) {kl:Lit} (g:keyOf P k (kv c)=some kl) (d:Value) (hx:a.eval x=kv c) (hv:a.eval v=d)
 (hK:∀w',MapIs P k kv w' m (upd F c (some d))->Turned (λx=>x=m) w w'->Kp (a.put o.dst undef) w'):o.wp P a w Kp Q:=by
 obtain ⟨w',j,r1,r2⟩:=h.update K f ht c g d;unfold Oper.wp;simp [execOp,i,hm,hx,hv,j,Result.andThen];exact hK w' r1 r2
theorem CY [DecidableEq α] {ops:Array Oper} {rest:List Oper} {o:Oper} {a:Act} {Q:Exit->Act->World->Prop} (hg:o.guard=none) (mo x v:Operand) (t:TypeId) (hop:o.op=Op.mapUpdate t mo x v)
 (e:TypeId) (K:Keyed P k) (hinj:∀a b,kv a=kv b->a=b) (ht:P.underlying t=some (.map k e)) (hm:a.eval mo=.map (some m)) (h:MapIs P k kv w m F) (key:α) {kl:Lit} (hkey:keyOf P k (kv key)=some kl) (val:Value) (hx:a.eval x=kv key) (hv:a.eval v=val)
 (hK:∀w',MapIs P k kv w' m (upd F key (some val))->Turned (λx=>x=m) w w'->wpList P ops Q rest (a.put o.dst undef) w'):wpList P ops Q (o::rest) a w:=
 wpList_plain hg λ_ hk=>D6 mo x v t hop e K hinj ht hm h key hkey val hx hv λw' h1 h2=>hk _ _ (hK w' h1 h2)
end

end
section
open Go.RowKit
theorem Kh {rows:List (List Value)} {sz:Nat} (h:∀r∈rows,r.length=sz):∀i,(rows.take i).flatten=rows.flatten.take (i*sz):=by
 induction rows with
 | nil=>intro i;simp
 | cons x rows ih=>
   intro i;have hx:=h x qs;cases i with
   | zero=>simp
   | succ i=>
     have hs:(i+1)*sz=x.length+i*sz:=by rw [hx,Nat.succ_mul];omega
     rw [take_succ_cons,flatten_cons,flatten_cons,ih (λy hy=>h y (iz _ hy)),hs,take_append,i8 (l:=x) oo,Nat.add_sub_cancel_left]
theorem OwnL.len {w:World} {base e sz g n cap:Nat} {rows:List (List Value)} (h:OwnL w base e sz (.slice (some ⟨g,0,none⟩) n cap) rows):rows.length=n/\n<=cap/\cap<=9223372036854775807:=by
 rcases h.2.2 with ⟨h0,_⟩ | ⟨g',a,b,hv,_,_,hn,hm,_⟩
 . cases h0
 . injection hv with _ h1 h2;unfold maxLen at hm;exact ⟨h1.symm,by rw [h1,h2];exact hn,by rw [h2];simpa using hm⟩
theorem OwnL.block {w:World} {base e sz g n cap:Nat} {rows:List (List Value)} (h:OwnL w base e sz (.slice (some ⟨g,0,none⟩) n cap) rows):
 ∃cur,base<=g/\w.heap[g]? =some (.cells cur e (0,0))/\cur.size=cap*sz/\cur.toList.take (n*sz)=rows.flatten:=by
 have a:=h.len.1;rcases h.2.2 with ⟨h0,_⟩ | ⟨g',b,cur,hv,hb,hh,hn,hm,hs,ht⟩
 . cases h0
 . injection hv with h0 h1 h2;injection h0 with h0;injection h0 with h0 _ _;subst h0;rw [a] at ht;exact ⟨cur,hb,hh,by rw [hs,h2],ht⟩
theorem OwnL.shrink {w:World} {base e sz g n cap:Nat} {rows:List (List Value)} (h:OwnL w base e sz (.slice (some ⟨g,0,none⟩) n cap) rows) {i:Nat} (hi:i<=n):
 OwnL w base e sz (.slice (some ⟨g,0,none⟩) i cap) (rows.take i):=by
 obtain ⟨hl,hc,hm⟩:=h.len;obtain ⟨c,hb,hh,hs,ht⟩:=h.block;have a:(rows.take i).length=i:=by rw [je];omega
 have b:∀r∈rows.take i,r.length=sz:=λr hr=>h.1 r (jw hr);refine ⟨b,by rw [GN b],.inr ⟨g,cap,c,by rw [a],hb,hh,oo,by unfold maxLen;omega,hs,?_⟩⟩;rw [a,Kh h.1,<-ht,take_take];congr 1;exact (Nat.min_eq_left (Nat.mul_le_mul_right sz hi)).symm
theorem Ob (z:Array Value) (n:Nat):(Builtin.zeroCells z n).toList.length=n*z.size:=by simp [Builtin.zeroCells]
theorem Oc (z:Array Value) (n:Nat) (h1:∀v∈z,v.oneCell'=true) (hz:0<z.size):∀v∈(Builtin.zeroCells z n).toList,v.oneCell'=true:=by
 intro v hv;simp [Builtin.zeroCells] at hv;obtain ⟨i,_,rfl⟩:=hv;have hi:i % z.size<z.size:=kT _ hz;rw [getElem!_pos z _ hi];exact h1 _ (Array.getElem_mem hi)
section
variable {P:Program}
theorem Hb {W:World} {ops:Array Oper} {rest:List Oper} {o:Oper} {a:Act} {Q:Exit->Act->World->Prop} (u:o.guard=none) (x:Operand) (t:TypeId)
 (ho:o.op=.call { callee:=.builtin .clear,args:=#[x],argTypes:=#[t] })
 (base e size:Nat) (z:Value) (ht:P.underlying t=some (.slice e)) (hz:∀w,(zeroValue e).run P w=.ok z w) (y:z.cells.size=size) (A:∀v∈z.cells,v.oneCell'=true) (D:0<size)
 (g n cap i:Nat) (rows:List (List Value)) (f:OwnL W base e size (.slice (some ⟨g,0,none⟩) n cap) rows) (hi:i<n) (m c:Nat) (hm:m=n - i) (hx:a.eval x=.slice (some ⟨g,i*size,none⟩) m c)
 (h:∀w',OwnL w' base e size (.slice (some ⟨g,0,none⟩) i cap) (rows.take i)->Turned (λb=>b=g) W w'->wpList P ops Q rest (a.put o.dst (.tuple #[])) w'):
 wpList P ops Q (o::rest) a W:=by
 subst hm;obtain ⟨hl,hc,G⟩:=f.len;obtain ⟨d,hb,hh,hs,C⟩:=f.block;have j:=Ob z.cells (n - i);rw [y] at j;have E:i*size+(n - i)*size=n*size:=by rw [<-Nat.add_mul];congr 1;omega
 have F:n*size<=cap*size:=Nat.mul_le_mul_right _ hc;have l:=run_storeCells_at (P:=P) g (i*size) e (Builtin.zeroCells z.cells (n - i)).toList 0 d W hh (by rw [j,hs];omega) (Oc _ _ A oo);simp only [jo] at l
 have B:(Builtin.clear_ #[t] o.type #[.slice (some ⟨g,i*size,none⟩) (n - i) c]).run P W=.ok (.tuple #[]) (W.setRow g (d.toList.take (i*size)++(Builtin.zeroCells z.cells (n - i)).toList++d.toList.drop (i*size+(Builtin.zeroCells z.cells (n - i)).toList.length)).toArray):=by
  obtain ⟨k,hk⟩:∃k,n - i=k+1:=⟨n - i - 1,oo⟩;rw [hk] at l ⊢;simp [Builtin.clear_,j7 ht,hz,l]
 refine wpList_plain u λK hK=>?_;unfold Oper.wp execOp;simp only [ho,resolve,invoke,builtin,Sem.run_bind,Sem.run_pure,Result.andThen_ok,map_toArray,map_cons,map_nil,hx,B];refine hK _ _ (h _ ?_ ((jD (λb=>b=g) W).setRow (λ_=>rfl) _));have p:(rows.take i).length=i:=by rw [je];omega
 have q:∀r∈rows.take i,r.length=size:=λr hr=>f.1 r (jw hr);have s:d.toList.length=cap*size:=by rw [jP,hs]
 refine ⟨q,by rw [GN q],.inr ⟨g,cap,_,by rw [p],hb,setRow_heap W g d _ e (0,0) hh,oo,by unfold maxLen;omega,?_,?_⟩⟩
 . simp only [size_toArray,iy,je,length_drop,j,s];omega
 . rw [p,Kh f.1,<-C,take_take,Nat.min_eq_left (Nat.mul_le_mul_right size (Nat.le_of_lt hi)),jK,take_append,i8 (by rw [je];omega)];have:(d.toList.take (i*size)).length=i*size:=by rw [je,s];omega
   rw [this,Nat.sub_self,take_zero,append_nil]
end

section
variable {P:Program}
theorem Hj {W:World} {o:Oper} {a:Act} {K:Act->World->Prop} {Q:Exit->Act->World->Prop} (s x:Operand) (t:TypeId)
 (ho:o.op=.call { callee:=.builtin .append,args:=#[s,x],argTypes:=#[t,t] })
 (base e size bytes:Nat) (z:Value) (ht:P.underlying t=some (.slice e)) (hi:(P.info? e).map (λi=>(i.zero,i.size,i.bytes))=some (some z,size,bytes)) (p:z.cells.size=size) (w:0<size)
 (v:Value) (rows d:List (List Value)) (hs:a.eval s=v) (f:OwnL W base e size v rows) (A:Option Addr) (m c:Nat) (hx:a.eval x=.slice A m c) (hm:m=d.length) (g:∀r∈d,r.length=size) (hl:ListAt W W.heap.size size A d) (h1:∀r∈d,r.all (·.oneCell')=true)
 (y:(rows.length+m)*bytes<=140737488355328) (N:rows.length+m<=9223372036854775807) (n:base<=W.heap.size)
 (h:∀v' w',OwnL w' base e size v' (rows++d)->W.grownBy w' v.ownBlock->(v'.ownBlock=v.ownBlock\/v'.ownBlock=some W.heap.size)->K (a.put o.dst v') w'):
 o.wp P a W K Q:=by
 subst hm
 obtain ⟨i,l,D,E,F⟩:∃i,P.info? e=some i/\i.zero=some z/\i.size=size/\i.bytes=bytes:=by
  cases hq:P.info? e with
  | none=>rw [hq] at hi;cases hi
  | some i=>rw [hq] at hi;simp at hi;exact ⟨i,rfl,hi.1,hi.2.1,hi.2.2⟩
 have B:=GN g;obtain ⟨v',w',k,G,hg,H⟩:∃v' w',(Builtin.append_ #[t,t] o.type #[v,.slice A d.length c]).run P W=.ok v' w'/\w'.ownsRow base e size v' (rows.length+d.length) (rows.flatten++d.flatten)/\W.grownBy w' v.ownBlock/\
  (v'.ownBlock=v.ownBlock\/v'.ownBlock=some W.heap.size):=by
  cases A with
  | none=>
    have h0:d=[]:=by
     rcases Nat.eq_zero_or_pos d.length with h0 | h0
     . exact kI.1 h0
     . obtain ⟨b,I,e,_⟩:=hl h0;cases e
    subst h0;exact ⟨v,W,Ha base t o.type e i size ht l v _ _ f.2 c,by simpa using f.2,World.grownBy.refl W _,.inl rfl⟩
  | some ad=>
    obtain ⟨v',w',k,h2,h3,_,h5⟩:=run_append_own_at (P:=P) W base t o.type e i z size bytes ht l D E F p w v rows.length rows.flatten f.2 ad d.length c d.flatten B
     (λq u hq=>by
       obtain ⟨j,i,r,hj,J,L⟩:=L3 g q u hq
       obtain ⟨b,I,e,_,hc⟩:=hl (by have:=(iw.1 hj).1;omega)
       injection e with e
       subst e
       rw [Es,L,<-Nat.add_assoc]
       exact hc j r hj i u J)
     (λu hu=>by
       obtain ⟨r,hr,M⟩:=List.mem_flatten.1 hu
       exact jN.1 (h1 r hr) u M) (by unfold maxLen;omega) y n
    exact ⟨v',w',k,h2,h3,h5⟩
 have C:=h v' w' ⟨λr hr=>(ip.1 hr).elim (f.1 r) (g r),by rw [List.flatten_append,iy];exact G⟩ hg H;unfold Oper.wp execOp;simp only [ho,resolve,invoke,builtin,Sem.run_bind,Sem.run_pure,Result.andThen_ok,map_toArray,map_cons,map_nil,hs,hx,k];exact C
end
theorem ListAt.take {w:World} {B sz:Nat} {A:Option Addr} {rows:List (List Value)} (h:ListAt w B sz A rows) (n:Nat):ListAt w B sz A (rows.take n):=λhl=>by
 obtain ⟨b,off,e,hb,hc⟩:=h (by rw [je] at hl;omega);refine ⟨b,off,e,hb,λj cs hj i v hi=>hc j cs ?_ i v hi⟩;rw [getElem?_take] at hj;split at hj
 . exact hj
 . cases hj
theorem ListAt.drop {w:World} {B sz b off off':Nat} {rows:List (List Value)} (h:ListAt w B sz (some ⟨b,off,none⟩) rows) (n:Nat) (ho:off'=off+n*sz):ListAt w B sz (some ⟨b,off',none⟩) (rows.drop n):=λhl=>by
 obtain ⟨b',off2,e,hb,hc⟩:=h (by rw [length_drop] at hl;omega);injection e with e;injection e with e1 e2 _;subst e1;subst e2;refine ⟨b,off',rfl,hb,λj cs hj i v hi=>?_⟩;rw [getElem?_drop] at hj;have:=hc (n+j) cs hj i v hi;rw [ho];rw [show off+n*sz+j*sz+i=off+(n+j)*sz+i by rw [Nat.add_mul];omega];exact this
theorem ListAt.none {w:World} {B sz:Nat} (A:Option Addr):ListAt w B sz A []:=λh=>absurd h qs
theorem OwnL.listA {w:World} {base e sz n c:Nat} {A:Option Addr} {rows:List (List Value)} (h:OwnL w base e sz (.slice A n c) rows):ListAt w w.heap.size sz A rows:=by
 obtain ⟨A',c',hv,_,_,hl⟩:=h.listAt;injection hv with h1 _ _;rw [h1];exact hl
theorem dH (n:Nat) (m c:Nat):∀k,(Value.slice (some ⟨n,0,none⟩) m c).ownBlock=some k->n<=k:=λ_ hk=>Nat.le_of_eq (Option.some.inj hk)

def Hk (vals:Nat->Value) (s:Nat->Bool):List (Nat × Nat)->Act->Act
 | [],a=>a
 | p::M,a=>Hk vals s M (if s p.1 then a.put (some p.2) (vals p.1) else a)
def IO (s:Nat->Bool):List (Nat × Nat)->Array Bool->Array Bool
 | [],l=>l
 | p::M,l=>IO s M (if s p.1 then l.setIfInBounds p.1 true else l)
theorem Yt (a:Act) (d d':Nat) (v v':Value) (h:d≠d'):(a.put (some d) v).put (some d') v'=(a.put (some d') v').put (some d) v:=by
 simp only [Act.put];congr 1;exact Array.setIfInBounds_comm _ _ h
theorem OC (vals:Nat->Value) (s:Nat->Bool):∀(M:List (Nat × Nat)) (a:Act) (d:Nat) (v:Value),d ∉ M.map (·.2)->Hk vals s M (a.put (some d) v)=(Hk vals s M a).put (some d) v
 | [],_,_,_,_=>rfl
 | p::M,a,d,v,h=>by
   rw [map_cons,jh,not_or] at h;unfold Hk;cases hs:s p.1 with
   | false=>simp only [Bool.false_eq_true,if_false];exact OC vals s M a d v h.2
   | true=>simp only [if_true];rw [Yt a d p.2 _ _ h.1];exact OC vals s M _ d v h.2
theorem Jh (vals vals':Nat->Value) (s s':Nat->Bool):∀(M:List (Nat × Nat)) (a:Act),(∀p∈M,s p.1=s' p.1/\(s p.1=true->vals p.1=vals' p.1))->Hk vals s M a=Hk vals' s' M a
 | [],_,_=>rfl
 | p::M,a,h=>by
   unfold Hk;have h1:=h p (jA ..);rw [Jh vals vals' s s' M _ (λq hq=>h q (iz _ hq)),<-h1.1];cases hs:s p.1 with
   | false=>rfl
   | true=>rw [h1.2 hs]
theorem So (vals:Nat->Value) (s:Nat->Bool) (i d:Nat) (v:Value):∀(M:List (Nat × Nat)) (a:Act),(i,d)∈M->(M.map (·.1)).Nodup->(M.map (·.2)).Nodup->s i=false->
 Hk (λj=>if j=i then v else vals j) (λj=>if j=i then true else s j) M a=(Hk vals s M a).put (some d) v
 | [],_,h,_,_,_=>by cases h
 | p::M,a,h,h1,h2,hs=>by
   rw [map_cons,nodup_cons] at h1 h2;rcases jh.1 h with h | h
   . subst h;unfold Hk;simp only [if_true,hs,Bool.false_eq_true,if_false];rw [Jh _ vals _ s M _ (λq hq=>?_),OC vals s M a d v h2.1];have:q.1≠i:=λe=>h1.1 (ie.2 ⟨q,hq,e⟩);simp [this]
   . have hne:p.1≠i:=λe=>h1.1 (by rw [e];exact ie.2 ⟨(i,d),h,rfl⟩);unfold Hk;rw [if_neg hne,if_neg hne];exact So vals s i d v M _ h h1.2 h2.2 hs
theorem Pp (vals:Nat->Value) (s:Nat->Bool) (t:Nat):∀(M:List (Nat × Nat)) (a:Act),t ∉ M.map (·.2)->(Hk vals s M a).tmps.getD t undef=a.tmps.getD t undef
 | [],_,_=>rfl
 | p::M,a,h=>by
   rw [map_cons,jh,not_or] at h;unfold Hk;rw [Pp vals s t M _ h.2];cases s p.1 with
   | false=>rfl
   | true=>
     simp only [if_true,Act.put];simp only [Array.getD_eq_getD_getElem?];rw [Array.getElem?_setIfInBounds_ne (λe=>h.1 e.symm)]
theorem KW (s:Nat->Bool):∀(M:List (Nat × Nat)) (l:Array Bool) (i:Nat),IO s M (l.setIfInBounds i true)=(IO s M l).setIfInBounds i true
 | [],_,_=>rfl
 | p::M,l,i=>by
   unfold IO;cases s p.1 with
   | false=>exact KW s M l i
   | true=>
     simp only [if_true];by_cases h:i=p.1
     . subst h;rw [KW s M (l.setIfInBounds p.1 true) p.1]
     . rw [Array.setIfInBounds_comm _ _ h];exact KW s M _ i
theorem Hg (s s':Nat->Bool):∀(M:List (Nat × Nat)) (l:Array Bool),(∀p∈M,s p.1=s' p.1)->IO s M l=IO s' M l
 | [],_,_=>rfl
 | p::M,l,h=>by
   unfold IO;rw [h p (jA ..)];exact Hg s s' M _ (λq hq=>h q (iz _ hq))
theorem R4 (s:Nat->Bool) (i d:Nat):∀(M:List (Nat × Nat)) (l:Array Bool),(i,d)∈M->(M.map (·.1)).Nodup->s i=false->IO (λj=>if j=i then true else s j) M l=(IO s M l).setIfInBounds i true
 | [],_,h,_,_=>by cases h
 | p::M,l,h,h1,hs=>by
   rw [map_cons,nodup_cons] at h1;rcases jh.1 h with h | h
   . subst h;unfold IO;simp only [if_true,hs,Bool.false_eq_true,if_false];rw [Hg _ s M _ (λq hq=>?_),KW];have:q.1≠i:=λe=>h1.1 (ie.2 ⟨q,hq,e⟩);simp [this]
   . have hne:p.1≠i:=λe=>h1.1 (by rw [e];exact ie.2 ⟨(i,d),h,rfl⟩);unfold IO;rw [if_neg hne];exact R4 s i d M _ h h1.2 hs
def SW:List (Nat × Nat)->List (List (Nat × Nat))
 | []=>[[]]
 | p::M=>SW M++(SW M).map (p::·)
theorem Ku (q:Nat × Nat->Bool):∀M,M.filter q∈SW M
 | []=>ia.2 rfl
 | p::M=>by
   unfold SW;rw [filter_cons];cases q p with
   | false=>exact jQ _ (Ku q M)
   | true=>exact jI _ (List.mem_map_of_mem (Ku q M))
def gd (md:Region.Mode) (ops:Array Oper) (listed:Array Bool) (M:List (Nat × Nat)):Bool:=
 decide (M.map (·.1)).Nodup && decide (M.map (·.2)).Nodup && (M.all λp=>(match ops[p.1]? with | some o=>o.dst==some p.2 | none=>false)) &&
 (SW M).all λt=>t.length==M.length || Region.ready md ops (IO (λi=>(t.map (·.1)).contains i) M listed)==(M.filter λp=>!(t.map (·.1)).contains p.1).map (·.1)
section
variable {P:Program} {ops:Array Oper} {Q:Exit->Act->World->Prop} {md:Region.Mode} {S:World->Prop}
theorem RJ {α:Type} (p:α->Bool) (l:List α) (h:(l.filter λx=>!p x)=[]):∀x∈l,p x=true:=by
 intro x hx;rw [filter_eq_nil_iff] at h;have:=h x hx;simpa using this
theorem KG {α:Type} (p:α->Bool):∀l:List α,(l.filter p).length+(l.filter λx=>!p x).length=l.length
 | []=>rfl
 | x::l=>by have:=KG p l;cases hp:p x<;>simp [filter_cons,hp]<;>omega
theorem UY {N fuel:Nat} {listed:Array Bool} {a:Act} {w:World} {al:List Nat} (M:List (Nat × Nat)) (R:Nat->Value->World->Prop) (hN:N=fuel+M.length) (hB:gd md ops listed M=true)
 (y:∀i v w1 w2,Grew w1 w2->R i v w1->R i v w2) (z:∀w1 w2,Grew w1 w2->S w1->S w2)
 (B:∀p∈M,∀(a':Act) (w':World),Grew w w'->(∀t,t ∉ M.map (·.2)->a'.tmps.getD t undef=a.tmps.getD t undef)->∀K':Act->World->Prop,Shut (∀v w'',Grew w' w''->R p.1 v w''->K' (a'.put (some p.2) v) w'')->
   ∃o,ops[p.1]? =some o/\if Region.wanted o (yielded ops a'.tmps)=true then Oper.wp P o a' w' K' Q else K' (a'.put o.dst undef) w')
 (A:∀(vals:Nat->Value) w',Grew w w'->(∀p∈M,R p.1 (vals p.1) w')->B5 P md ops Q al.contains S fuel (IO (λ_=>true) M listed) (Hk vals (λ_=>true) M a) w'):
 B5 P md ops Q al.contains S N listed a w:=by
 unfold gd at hB;simp only [jF,jG] at hB;obtain ⟨⟨⟨r,H⟩,hd⟩,I⟩:=hB
 have C:∀s:Nat->Bool,(M.filter λp=>!s p.1)≠[]->Region.ready md ops (IO s M listed)=(M.filter λp=>!s p.1).map (·.1):=by
  intro s b;have h1:=jN.1 I _ (Ku (λp=>s p.1) M)
  have u:∀p∈M,((M.filter λp=>s p.1).map (·.1)).contains p.1=s p.1:=by
   intro p hp;rw [Bool.eq_iff_iff,List.contains_iff_mem,ie];constructor
   . rintro ⟨q,hq,e⟩;rw [<-e];exact (jV.1 hq).2
   . intro h;exact ⟨p,jV.2 ⟨hp,h⟩,rfl⟩
  rw [Bool.or_eq_true] at h1;rcases h1 with h1 | h1
  . exfalso;have h2:=KG (λp:Nat × Nat=>s p.1) M;rw [jy] at h1;exact b (kI.1 oo)
  . rw [jy] at h1;rw [Hg s _ M listed (λp hp=>(u p hp).symm),h1];congr 1;exact List.filter_congr (λp hp=>by rw [u p hp])
 have D:∀(k:Nat) (s:Nat->Bool) (vals:Nat->Value) (w':World),(M.filter λp=>!s p.1).length=k->Grew w w'->(∀p∈M,s p.1=true->R p.1 (vals p.1) w')->
  B5 P md ops Q al.contains S (fuel+k) (IO s M listed) (Hk vals s M a) w':=by
  intro k
  induction k with
  | zero=>
    intro s vals w' hk hg hR;have n:=RJ (λp:Nat × Nat=>s p.1) M (kI.1 hk);rw [Hg s (λ_=>true) M listed (λp hp=>n p hp),Jh vals vals s (λ_=>true) M a (λp hp=>⟨n p hp,λ_=>rfl⟩)];exact A vals w' hg (λp hp=>hR p hp (n p hp))
  | succ k ih=>
    intro s vals w' hk hg hR;have b:(M.filter λp=>!s p.1)≠[]:=λe=>by rw [e] at hk;cases hk
    have hr:=C s b;refine ⟨λh=>absurd (hr▸h) (by simp at b ⊢;exact b),λi hi=>?_⟩;rw [hr] at hi;obtain ⟨p,hp,rfl⟩:=ie.1 hi;obtain ⟨c,g⟩:=jV.1 hp;rw [kM] at g;obtain ⟨i,d⟩:=p
    have E:∃o,ops[i]? =some o:=by
     have:=jN.1 hd _ c;cases h:ops[i]? with
     | none=>simp [h] at this
     | some o=>exact ⟨o,rfl⟩
    obtain ⟨o,ho⟩:=E;refine wpOp_step ho (λK' hK=>?_)
    have F:=B (i,d) c (Hk vals s M a) w' hg (λt ht=>Pp vals s t M a ht) K' (λv w'' hg2 hRv=>by
     refine hK _ _ ⟨.inr (λh=>z _ _ hg2 h),?_⟩
     have G:(M.filter λp=>!(if p.1=i then true else s p.1)).length=k:=by
      have e1:∀M':List (Nat × Nat),(i,d)∈M'->(M'.map (·.1)).Nodup->(M'.filter λp=>!(if p.1=i then true else s p.1)).length+1=(M'.filter λp=>!s p.1).length:=by
       intro M'
       induction M' with
       | nil=>intro h;cases h
       | cons q M' ihM=>
         intro h f
         rw [map_cons,nodup_cons] at f
         rcases jh.1 h with h | h
         . subst h
           have e2:(M'.filter λp=>!(if p.1=i then true else s p.1))=M'.filter λp=>!s p.1:=List.filter_congr (λq hq=>by
            have:q.1≠i:=λe=>f.1 (ie.2 ⟨q,hq,e⟩)
            rw [if_neg this])
           rw [filter_cons,filter_cons,e2]
           simp [g]
         . have b:q.1≠i:=λe=>f.1 (by rw [e];exact ie.2 ⟨(i,d),h,rfl⟩)
           have:=ihM h f.2
           rw [filter_cons,filter_cons]
           simp only [b,if_false]
           cases s q.1 with
           | false=>simp only [Bool.not_false,if_true,jf];omega
           | true=>simp only [Bool.not_true,Bool.false_eq_true,if_false];exact this
      have:=e1 M c r
      omega
     have:=ih (λj=>if j=i then true else s j) (λj=>if j=i then v else vals j) w'' G (hg.trans hg2) (λp hp hs=>by
      by_cases x:p.1=i
      . simp only [x,if_true];exact hRv
      . simp only [x,if_false] at hs ⊢;exact y _ _ _ _ hg2 (hR p hp hs))
     rw [R4 s i d M listed c r g,So vals s i d v M a c r H g] at this
     exact this)
    obtain ⟨o',m,h⟩:=F;rw [ho] at m;injection m with m;subst m;exact h
 subst hN;have h0:=D M.length (λ_=>false) (λ_=>undef) w (by rw [show (M.filter λp=>!false)=M from List.filter_eq_self.2 (λ_ _=>rfl)]) (iW w) (λ_ _ h=>by cases h)
 have e1:∀(M:List (Nat × Nat)) (l:Array Bool),IO (λ_=>false) M l=l:=by
  intro M
  induction M with
  | nil=>intro l;rfl
  | cons p M ih=>intro l;unfold IO;exact ih l
 have e2:∀(M:List (Nat × Nat)) (a:Act),Hk (λ_=>undef) (λ_=>false) M a=a:=by
  intro M
  induction M with
  | nil=>intro l;rfl
  | cons p M ih=>intro l;unfold Hk;exact ih l
 rwa [e1,e2] at h0
end

def CF (P:Program) (f:FuncId):Prop:=∀(args:Array Value) (w:World),(callFunc f args).run P w=.ok (.enter f args) w
theorem BD {P:Program} {f:FuncId} {fn:Func} (hf:P.funcs[f]? =some fn) (a:(fn.name== "runtime.NumGoroutine")=false) (hb:fn.body.isNone=false):CF P f:=by
 intro b w;have h1:¬fn.name= "runtime.NumGoroutine":=by simpa using a
 have h2:¬fn.body=none:=by intro e;rw [e] at hb;cases hb
 unfold callFunc;simp [hf,h1,h2,go_sem]
theorem run_call_fn {P:Program} {o:Oper} {f:FuncId} {xs:Array Operand} {ts:Array TypeId} (hE:CF P f) (ho:o.op=.call { callee:=.value (.func f),args:=xs,argTypes:=ts }) (a:Act) (w:World):(execOp a.eval o).run P w=.ok (.enter f (xs.map a.eval)) w:=by
 have h:a.eval (.func f)=.func (.func f) #[] #[]:=rfl;simp [execOp,ho,resolve,go_sem,h,hE];exact hE _ _

end
section
open Go.ChangeShapes Go.WideShapes Go.ChangeAt Go.RowKit
section
variable {H:Type} {enc:TypeId × Value->H} {P:Program}
theorem Ol (hl:laidOutB P=true) {W W':World} {sp':Nat->Bool}:∀{ts:List TypeId} {vs:List Value} {ds:List (DataW H)} {ps:List MemPlace},
 ts.all (λt=>P.readableRec t && decide (t<P.types.size))=true->
 DataW.TrodAll enc P W 0 (λ_=>true) true ts vs ds ps->(∀p∈ps,W.sameAt W' p)->(∀p∈ps,sp' p.block=true)->DataW.TrodAll enc P W' 0 sp' true ts vs ds ps:=by
 intro ts
 induction ts with
 | nil=>
   intro vs ds ps _ h _ _;obtain ⟨rfl,rfl,rfl⟩:=trodAll_nil h;exact rfl
 | cons t ts ih=>
   intro vs ds ps a h b hs;obtain ⟨v,g,d,i,p,q,rfl,rfl,rfl,h1,h2⟩:=trodAll_cons h;rw [all_cons,jF,jF] at a;obtain ⟨⟨c,e⟩,f⟩:=a;exact trodAll_cons_mk (WideElems.Trod_stays hl c (by simpa using e) h1 (λx hx=>b x (jQ _ hx)) (λx hx=>hs x (jQ _ hx)))
    (ih f h2 (λx hx=>b x (jI _ hx)) (λx hx=>hs x (jI _ hx)))
theorem Za {f:Func} {s:ChangeSpec} {apart fresh handsOn:Bool} {W W':World} {args:Array Value} {ds gs:List (DataW H)} {before:List MemPlace} {tb:TypeId}
 (hl:laidOutB P=true) (i:f.params.toList.all (λt=>P.readableRec t && decide (t<P.types.size))=true) (j:f.resultTypes=#[tb]) (g:P.underlying tb=some .bool) (d:s.vars=[])
 (hW:DataW.Whole enc P f.params.toList s.vars apart W args.toList ds gs before) (a:s.fn H (ds++gs)={ results:=[.lit (.bool true)],args:=ds }) (hg:Grew W W'):
 s.post enc P f apart fresh handsOn false W args (.bool true) W':=by
 have c:∀p∈before,p.block<W.heap.size:=λp hp=>hW.lt p hp;have e:=hW;obtain ⟨p,q,hA,hV,rfl,l,m⟩:=hW;rw [d] at hV;obtain ⟨rfl,rfl⟩:=trodVars_none hV;rw [append_nil] at c e;have k:=Ol hl (W':=W') (sp':=λb=>decide (b<W.heap.size)) i hA (λx hx=>hg.same (c x hx)) (λx hx=>by simpa using c x hx);refine ⟨ds,[],p,[],p,[],e,?_,?_,?_,?_,λh=>by cases h⟩
 . rw [a,j];show DataW.TrodAll enc P W' _ (λ_=>false) handsOn [tb] [.bool true] [.lit (.bool true)] [];exact trodAll_mk1 (shut_bool g true)
 . rw [a];exact k
 . rw [a,d];exact rfl
 . exact hg.frame _
end

end
end Go.Proofs.YtmcgbdemcknkaaaGreatDoor
