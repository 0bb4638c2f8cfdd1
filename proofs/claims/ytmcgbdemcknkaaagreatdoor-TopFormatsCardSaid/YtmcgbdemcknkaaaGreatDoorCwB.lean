/- Parts of the proof (packed), 2. -/
import Derived.Lib.Hide
import Derived.WalkSpells
import Derived.WalkLawsBesides
import Derived.Handy
import Derived.Deep.LoopGhost
import Derived.BigQuiet
import Derived.Deep.DeepCutAuto
import Derived.Laws.EntriesVeiled
import Derived.Test.YtmcgbdemcknkaaaGreatDoorCwA
namespace Go.Proofs.YtmcgbdemcknkaaaGreatDoor
set_option linter.all false
set_option maxRecDepth 100000
set_option maxHeartbeats 16000000
open List
section
open Go.RowKit
structure Wr where
 sys:Int
 sec:Nat
 data:ByteArray
instance:Inhabited Wr:=⟨⟨0,0,⟨#[]⟩⟩⟩
def okI (n:Int):Prop:=-9223372036854775808<=n/\n<=9223372036854775807
structure Dev where
 st:List ByteArray
 old:List (List ByteArray)
 pend:List Wr
 fen:Int->Int
 fuse:Option (Nat × List Int)
 failed:Bool
def emp:ByteArray:=⟨#[]⟩
structure Dev.Ok (D:Dev):Prop where
 len:D.old.length=D.st.length
 pos:1<=D.st.length
 lim:D.st.length<=1155
 st:∀s∈D.st,s.size=140
 old:∀l∈D.old,l.length<=8/\∀s∈l,s.size=140
 pend:∀r∈D.pend,r.sec<D.st.length/\r.data.size=140/\(1<=r.sys/\r.sys<=4)
 fen:∀s,0<=D.fen s/\D.fen s<=1099511627777
def E8:List Wr->Nat->Option ByteArray
 | [],_=>none
 | r::l,i=>match E8 l i with
   | some s=>some s
   | none=>if r.sec=i then some r.data else none
theorem Tb (l:List Wr) (r:Wr) (i:Nat):E8 (l++[r]) i=if r.sec=i then some r.data else E8 l i:=by
 induction l with
 | nil=>simp [E8]
 | cons x l ih=>
   rw [cons_append,E8,ih];by_cases h:r.sec=i
   . rw [if_pos h,if_pos h]
   . rw [if_neg h,if_neg h,E8]
def Dev.at (D:Dev) (i:Nat):ByteArray:=D.st.getD i emp
def Dev.olds (D:Dev) (i:Nat):List ByteArray:=D.old.getD i []
def Dev.content (D:Dev) (i:Nat):ByteArray:=(E8 D.pend i).getD (D.at i)
def AR (D:Dev) (i:Nat) (s:ByteArray):Dev:=
 if D.at i=s then D else { D with st:=D.st.set i s,old:=D.old.set i ((D.at i::D.olds i).take 8) }
def L8 (r:Wr) (n:Nat) (was:ByteArray):ByteArray:=r.data.extract 0 n++was.extract n was.size
def AV (p:Wr->Bool) (sv:Nat->Nat) (s:Dev × Nat) (r:Wr):Dev × Nat:=
 if p r then (AR s.1 r.sec (L8 r (sv s.2) (s.1.at r.sec)),s.2+1) else s
def Co (D:Dev) (p:Wr->Bool) (sv:Nat->Nat) (l:List Wr):Dev × Nat:=l.foldl (AV p sv) (D,0)
def Bs (D:Dev) (p:Wr->Bool) (sv:Nat->Nat):Dev:={ (Co D p sv D.pend).1 with pend:=D.pend.filter λr=>!p r }
def svN (l:List Int) (k:Nat):Nat:=(min (max 0 (l.getD k 0)) 140).toNat
theorem Qk (l:List Int) (k:Nat):svN l k<=140:=by unfold svN;omega
theorem IG {D:Dev} (h:D.Ok) {i:Nat} (hi:i<D.st.length):(D.at i).size=140:=by
 unfold Dev.at;rw [iu,iV hi];exact h.st _ (ib hi)
theorem ah {D:Dev} (h:D.Ok) (i:Nat):(D.olds i).length<=8:=by
 unfold Dev.olds;rw [iu];cases hh:D.old[i]? with
 | none=>simp
 | some l=>exact (h.old l (js hh)).1
theorem Pu {D:Dev} (h:D.Ok) (i:Nat):∀s∈D.olds i,s.size=140:=by
 unfold Dev.olds;rw [iu];cases hh:D.old[i]? with
 | none=>simp
 | some l=>exact (h.old l (js hh)).2
theorem LU {r:Wr} {n:Nat} {was:ByteArray} (h1:r.data.size=140) (h2:was.size=140) (hn:n<=140):(L8 r n was).size=140:=by
 unfold L8;rw [io,i0,i0];omega
theorem JY {D:Dev} (h:D.Ok) {i:Nat} {s:ByteArray} (hi:i<D.st.length) (hs:s.size=140):(AR D i s).Ok:=by
 unfold AR;split
 . exact h
 . refine ⟨by simp [h.len],by simp [h.pos],by simpa using h.lim,?_,?_,λr hr=>by simpa using h.pend r hr,h.fen⟩
   . intro t ht;rcases jE ht with ht | rfl
     . exact h.st t ht
     . exact hs
   . intro l hl;rcases jE hl with hl | rfl
     . exact h.old l hl
     . refine ⟨by simp;omega,λt ht=>?_⟩;have:=jw ht;rcases jh.1 this with rfl | h9
       . exact IG h hi
       . exact Pu h i t h9
theorem C9 (D:Dev) (i:Nat) (s:ByteArray):(AR D i s).st.length=D.st.length:=by unfold AR;split<;>simp
theorem Kg (D:Dev) (i:Nat) (s:ByteArray):(AR D i s).pend=D.pend:=by unfold AR;split<;>rfl
theorem Ld (D:Dev) (i:Nat) (s:ByteArray):(AR D i s).fen=D.fen:=by unfold AR;split<;>rfl
theorem KH (D:Dev) (i:Nat) (s:ByteArray):(AR D i s).fuse=D.fuse:=by unfold AR;split<;>rfl
theorem F7 (D:Dev) (i:Nat) (s:ByteArray):(AR D i s).failed=D.failed:=by unfold AR;split<;>rfl
structure EndKept (D E:Dev):Prop where
 ok:E.Ok
 len:E.st.length=D.st.length
 pend:E.pend=D.pend
 fen:E.fen=D.fen
 fuse:E.fuse=D.fuse
 failed:E.failed=D.failed
theorem Ql {D:Dev} (p:Wr->Bool) (sv:Nat->Nat) (a:∀k,sv k<=140) {E:Dev} {k:Nat} (h:EndKept D E) (r:Wr) (hr:r.sec<D.st.length/\r.data.size=140):EndKept D (AV p sv (E,k) r).1:=by
 unfold AV;split
 . have h1:r.sec<E.st.length:=by rw [h.len];exact hr.1
   exact ⟨JY h.ok h1 (LU hr.2 (IG h.ok h1) (a _)),by rw [C9,h.len],by rw [Kg,h.pend],by rw [Ld,h.fen],by rw [KH,h.fuse],by rw [F7,h.failed]⟩
 . exact h
theorem SA {D:Dev} (h:D.Ok) (p:Wr->Bool) (sv:Nat->Nat) (hsv:∀k,sv k<=140):∀(l:List Wr) (s:Dev × Nat),EndKept D s.1->(∀r∈l,r.sec<D.st.length/\r.data.size=140)->EndKept D (l.foldl (AV p sv) s).1
 | [],_,hs,_=>hs
 | r::l,s,hs,hl=>SA h p sv hsv l _ (Ql p sv hsv (k:=s.2) hs r (hl r (jA ..))) (λx hx=>hl x (iz _ hx))
theorem Lz {D:Dev} (h:D.Ok) (p:Wr->Bool) (sv:Nat->Nat) (hsv:∀k,sv k<=140) (l:List Wr) (hl:∀r∈l,r∈D.pend):EndKept D (Co D p sv l).1:=
 SA h p sv hsv l (D,0) ⟨h,rfl,rfl,rfl,rfl,rfl⟩ (λr hr=>⟨(h.pend r (hl r hr)).1,(h.pend r (hl r hr)).2.1⟩)
theorem L4 (D:Dev) (p:Wr->Bool) (sv:Nat->Nat) (l:List Wr) (k:Nat) (hk:k<l.length):Co D p sv (l.take (k+1))=AV p sv (Co D p sv (l.take k)) l[k]:=by
 unfold Co;rw [ic hk,jc];rfl
theorem NY (D:Dev) (p:Wr->Bool) (sv:Nat->Nat) (l:List Wr):(Co D p sv l).2=(l.filter p).length:=by
 have a:∀(l:List Wr) (s:Dev × Nat),(l.foldl (AV p sv) s).2=s.2+(l.filter p).length:=by
  intro l
  induction l with
  | nil=>intro s;simp
  | cons r l ih=>
    intro s;rw [foldl_cons,ih,filter_cons];unfold AV;cases p r<;>simp<;>omega
 unfold Co;rw [a];simp
def JZ (D:Dev):Dev × Bool:=
 match D.fuse with
 | none=>(D,false)
 | some (n+1,l)=>({ D with fuse:=some (n,l) },false)
 | some (0,l)=>({ Bs D (λ_=>true) (svN l) with failed:=true,fuse:=none },true)
def Ah (D:Dev) (sys ep:Int):Dev × Int:=
 if D.failed then (D,10) else if ep<D.fen sys then (D,13) else if (JZ D).2 then ((JZ D).1,10) else ((JZ D).1,0)
def DA (sys ep:Int):Bool:=decide (1<=sys/\sys<=4/\0<=ep/\ep<=1099511627776)
def FQ (D:Dev) (i:Int):Bool:=decide (0<=i/\i<D.st.length)
def BJ (D:Dev) (sys ep sec:Int) (data:ByteArray):Dev × Int:=
 if DA sys ep=false\/data.size≠140 then (D,1) else if FQ D sec=false then (D,2)
 else if (Ah D sys ep).2≠0 then Ah D sys ep
 else ({ (Ah D sys ep).1 with pend:=(Ah D sys ep).1.pend++[⟨sys,sec.toNat,data⟩] },0)
def Fv (s:Int) (r:Wr):Bool:=decide (r.sys=s)
def Cl (D:Dev) (sys ep:Int):Dev × Int:=
 if DA sys ep=false then (D,1) else if (Ah D sys ep).2≠0 then Ah D sys ep
 else (Bs (Ah D sys ep).1 (Fv sys) (λ_=>140),0)
def bw (e:Int):Int:=if e<0 then 0 else min e 1099511627776+1
def GJ (D:Dev) (i:Int):ByteArray × Int:=
 if FQ D i=false then (emp,2) else if D.failed then (emp,10) else (D.content i.toNat,0)

end
section
open Go.Maps (Keyed)
open Go.RowKit
theorem DB {a b:Bool} (h:a=b):Ending.returned (.bool a)=.returned (.bool b):=by rw [h]
theorem Yh {k:IntKind} {a b:Int} (h:a=b):Ending.returned (.int k a)=.returned (.int k b):=by rw [h]
theorem R1 {a b:ByteArray} {c d:Int} (h:a=b) (h':c=d):Ending.returned (.tuple #[.string a,.int .i64 c])=.returned (.tuple #[.string b,.int .i64 d]):=by rw [h,h']
def BP (s:ByteArray):List Value:=[.string s]
def DJ (n:Int):List Value:=[.int .i64 n]
def B2 (r:Wr):List Value:=[.int .i64 r.sys,.int .i64 (r.sec:Int),.string r.data]
abbrev intV (n:Int):Value:=.int .i64 n
abbrev MapI (w:World) (m:Nat) (F:Int->Option Value):Prop:=MapIs Tryz.prog 3 intV w m F
theorem Bx (a b:Int) (h:intV a=intV b):a=b:=by injection h
theorem BH:Keyed Tryz.prog 3:=Go.Maps.int_keyed Tryz.underlying3
theorem Fd (n:Int) (h:okI n):∃x,keyOf Tryz.prog 3 (intV n)=some x:=⟨_,Go.Maps.keyOf_int_mk Tryz.underlying3 (WalkArith.wf_i64 h)⟩
def iQ (v:Option Value) (f:Int):Prop:=(v=none/\f=0)\/∃e,okI e/\v=some (.int .i64 e)/\f=bw e
structure DevP where
 x:Nat
 m:Nat
 vs:Value
 vo:Value
 vp:Value
 vsv:Value
 os:List Value
 set:Bool
 left:Int
 svl:List Int
 E:Int->Option Value
structure DevM (w:World) (q:DevP) (D:Dev):Prop where
 blk:Blk w q.x 192 #[q.vs,q.vo,q.vp,.map (some q.m),.bool q.set,.int .i64 q.left,q.vsv,.bool D.failed]
 st:OwnL w 0 9 1 q.vs (D.st.map BP)
 old:OwnL w 0 24 1 q.vo (q.os.map λv=>[v])
 olen:q.os.length=D.old.length
 each:∀(i:Nat) (v:Value) (l:List ByteArray),q.os[i]? =some v->D.old[i]? =some l->OwnL w 0 9 1 v (l.map BP)/\∀g,v.ownBlock=some g->q.vs.ownBlock≠some g
 pend:OwnL w 0 285 3 q.vp (D.pend.map B2)
 sv:OwnL w 0 3 1 q.vsv (q.svl.map DJ)
 map:MapI w q.m q.E
 fen:∀s,1<=s->s<=4->iQ (q.E s) (D.fen s)
 fuse:D.fuse=if q.set then some (q.left.toNat,q.svl) else none
 left:0<=q.left/\q.left<=9223372036854775807
 svok:(∀n∈q.svl,okI n)/\q.svl.length<=1000000
 ok:D.Ok
def DevP.feet (q:DevP) (k:Nat):Prop:=k=q.x\/k=q.m\/q.vs.ownBlock=some k\/q.vo.ownBlock=some k\/q.vp.ownBlock=some k\/q.vsv.ownBlock=some k\/∃v∈q.os,v.ownBlock=some k
theorem Ch {w:World} {g m:Nat} {t:TypeId} {cs:Array Value} {F:Int->Option Value} (h:Blk w g t cs) (hm:MapI w m F):¬g=m:=by
 rintro rfl;obtain ⟨es,a,l,hb,_⟩:=hm;unfold Blk at h;rw [h] at hb;injection hb with hb;cases hb
theorem DP {w:World} {base e sz m:Nat} {v:Value} {rows:List (List Value)} {F:Int->Option Value} (h:OwnL w base e sz v rows) (hm:MapI w m F):v.ownBlock≠some m:=by
 rcases h.2.2 with ⟨rfl,_⟩ | ⟨g',cap,a,rfl,_,hh,_⟩
 . simp [Value.ownBlock]
 . intro he;have e':g'=m:=by simpa [Value.ownBlock] using he
   subst e';exact Ch (t:=e) (cs:=a) hh hm rfl
theorem Aj {w:World} {base e sz base' e' sz':Nat} {v v':Value} {rows rows':List (List Value)} (h:OwnL w base e sz v rows) (h':OwnL w base' e' sz' v' rows') (a:e≠e'):∀g,v.ownBlock=some g->v'.ownBlock≠some g:=by
 intro g hg;rcases h.2.2 with ⟨rfl,_⟩ | ⟨g',cap,b,rfl,_,hh,_⟩
 . simp [Value.ownBlock] at hg
 . have e1:g'=g:=by simpa [Value.ownBlock] using hg
   subst e1;exact h'.ne_blk (t:=e) (cs:=b) hh (λe=>a e.symm)
section
variable {w w':World} {q:DevP} {D:Dev}
theorem DevM.feet_lt (h:DevM w q D) (k:Nat) (hk:q.feet k):k<w.heap.size:=by
 rcases hk with rfl | rfl | hk | hk | hk | hk | ⟨v,hv,hk⟩
 . exact h.blk.lt
 . exact h.map.lt
 . exact (h.st.own_ge hk).2
 . exact (h.old.own_ge hk).2
 . exact (h.pend.own_ge hk).2
 . exact (h.sv.own_ge hk).2
 . obtain ⟨i,hi,rfl⟩:=j4.1 hv;have a:i<D.old.length:=by rw [<-h.olen];exact hi
   exact ((h.each i _ _ (iV hi) (iV a)).1.own_ge hk).2
theorem DevM.kept (h:DevM w q D) {S:Nat->Prop} (ht:Turned S w w') (hS:∀k,q.feet k->¬S k):DevM w' q D:=by
 refine ⟨h.blk.turned ht (hS _ (.inl rfl)),h.st.kept ht (λg hg=>hS _ (.inr (.inr (.inl hg)))),h.old.kept ht (λg hg=>hS _ (.inr (.inr (.inr (.inl hg))))),h.olen,λi v l hv hl=>?_,
  h.pend.kept ht (λg hg=>hS _ (.inr (.inr (.inr (.inr (.inl hg)))))),h.sv.kept ht (λg hg=>hS _ (.inr (.inr (.inr (.inr (.inr (.inl hg))))))),h.map.turned ht (hS _ (.inr (.inl rfl))),h.fen,h.fuse,h.left,h.svok,h.ok⟩
 obtain ⟨h1,h2⟩:=h.each i v l hv hl;exact ⟨h1.kept ht (λg hg=>hS _ (.inr (.inr (.inr (.inr (.inr (.inr ⟨v,js hv,hg⟩))))))),h2⟩
theorem DevM.grew (h:DevM w q D) (hg:Grew w w'):DevM w' q D:=h.kept (hg.turned (λ_=>False)) (λ_ _ hf=>hf)
theorem DevM.st_form (h:DevM w q D):∃g cap,q.vs=.slice (some ⟨g,0,none⟩) D.st.length cap/\g<w.heap.size/\D.st.length<=cap/\cap<=9223372036854775807/\¬g=q.x:=by
 rcases h.st.form with ⟨_,h0⟩ | ⟨g,cap,hv,_,a,h1,h2⟩
 . have:=ix length h0;have hp:=h.ok.pos;simp at this;rw [this] at hp;simp at hp
 . rw [iY] at hv h1;refine ⟨g,cap,hv,a,h1,h2,λe=>?_⟩;exact h.st.ne_blk h.blk qd (by rw [hv,e];rfl)
theorem DevM.old_form (h:DevM w q D):∃g cap,q.vo=.slice (some ⟨g,0,none⟩) D.st.length cap/\g<w.heap.size/\D.st.length<=cap/\cap<=9223372036854775807/\¬g=q.x:=by
 have a:q.os.length=D.st.length:=by rw [h.olen,h.ok.len]
 rcases h.old.form with ⟨_,h0⟩ | ⟨g,cap,hv,_,b,h1,h2⟩
 . have:=ix length h0;have hp:=h.ok.pos;simp at this;rw [this] at a;simp at a;omega
 . rw [iY,a] at hv h1;refine ⟨g,cap,hv,b,h1,h2,λe=>?_⟩;exact h.old.ne_blk h.blk qd (by rw [hv,e];rfl)
theorem DevM.st_cell (h:DevM w q D) {g cap:Nat} (hv:q.vs=.slice (some ⟨g,0,none⟩) D.st.length cap) {i:Nat} (hi:i<D.st.length):w.cell? ⟨g,i,none⟩=some (.string (D.at i)):=by
 have:=h.st;rw [hv] at this;have h2:=this.cell (j:=i) (i:=0) (r:=BP (D.at i)) (by rw [iZ,iV hi];unfold Dev.at;rw [iu,iV hi];rfl) rfl;rwa [Nat.mul_one,jo] at h2
theorem DevM.old_at (h:DevM w q D) {i:Nat} (hi:i<D.st.length):∃v,q.os[i]? =some v/\OwnL w 0 9 1 v ((D.olds i).map BP)/\∀g,v.ownBlock=some g->q.vs.ownBlock≠some g:=by
 have h1:i<D.old.length:=by rw [h.ok.len];exact hi
 have h2:i<q.os.length:=by rw [h.olen];exact h1
 refine ⟨q.os[i],iV h2,?_⟩;have:=h.each i _ _ (iV h2) (iV h1);unfold Dev.olds;rwa [iu,iV h1]
theorem DevM.old_cell (h:DevM w q D) {g cap:Nat} (hv:q.vo=.slice (some ⟨g,0,none⟩) D.st.length cap) {i:Nat} {v:Value} (hi:q.os[i]? =some v):w.cell? ⟨g,i,none⟩=some v:=by
 have:=h.old;rw [hv] at this;have h2:=this.cell (j:=i) (i:=0) (r:=[v]) (by rw [iZ,hi];rfl) rfl;rwa [Nat.mul_one,jo] at h2
end
section
variable {w:World} {q:DevP} {D:Dev} (h:DevM w q D)
include h
theorem Q4:Calls Tryz.prog 114 #[.pointer (some ⟨q.x,0,none⟩)] w λe w'=>e=.returned (.int .i64 (D.st.length:Int))/\w=w':=by
 obtain ⟨g,cap,hv,hg,h1,h2,h3⟩:=h.st_form;have hb:=h.blk;rw [hv] at hb;have a:=hb.lt;have x0:=hb.cell 0;clear h hv;go_enter Tryz.func114,Tryz.ntmps114;go_wp2_with fail;go_ret;exact ⟨rfl,rfl⟩
theorem LR (i:Int) (b:Bool) (hb:FQ D i=b):Calls Tryz.prog 193 #[.pointer (some ⟨q.x,0,none⟩),.int .i64 i] w λe w'=>e=.returned (.bool b)/\w=w':=by
 obtain ⟨g,cap,hv,hg,h1,h2,h3⟩:=h.st_form;have hk:=h.blk;rw [hv] at hk;have a:=hk.lt;have x0:=hk.cell 0;subst hb;have HB:=zh (show FQ D i=decide (0<=i/\i<(D.st.length:Int)) from rfl);generalize FQ D i=b at*
 clear h hv;by_cases h0:0<=i
 . by_cases h1:i<(D.st.length:Int)
   . go_enter Tryz.func193,Tryz.ntmps193;go_wp2_with fail;go_ret;exact ⟨DB (by rw [HB.out,iq ⟨h0,h1⟩]),rfl⟩
   . go_enter Tryz.func193,Tryz.ntmps193;go_wp2_with fail;go_ret;exact ⟨DB (by rw [HB.out,ir oo]),rfl⟩
 . go_enter Tryz.func193,Tryz.ntmps193;go_wp2_with fail;go_ret;exact ⟨DB (by rw [HB.out,ir oo]),rfl⟩
end

theorem JE (l:List Wr):(l.map B2).length=l.length:=iY ..
theorem ZY {w:World} {B:Nat} {A:Option Addr} {l:List Wr} (h:ListAt w B 3 A (l.map B2)) {k:Nat} (hk:k<l.length):
 ∃b off,A=some ⟨b,off,none⟩/\b<B/\w.cell? ⟨b,off+k*3,none⟩=some (.int .i64 l[k].sys)/\w.cell? ⟨b,off+k*3+1,none⟩=some (.int .i64 (l[k].sec:Int))/\w.cell? ⟨b,off+k*3+2,none⟩=some (.string l[k].data):=by
 obtain ⟨b,off,e,hb,hc⟩:=h (by simp;omega);have a:=hc k (B2 l[k]) (by rw [iZ,iV hk];rfl);exact ⟨b,off,e,hb,a 0 _ rfl,a 1 _ rfl,a 2 _ rfl⟩
theorem DevM.pend_list {w:World} {q:DevP} {D:Dev} (h:DevM w q D):∃A c,q.vp=.slice A D.pend.length c/\D.pend.length<=c/\c<=9223372036854775807/\ListAt w w.heap.size 3 A (D.pend.map B2):=by
 have:=h.pend.listAt;rwa [JE] at this
section
variable {w:World} {q:DevP} {D:Dev} (h:DevM w q D)
include h
theorem ae (i:Int) (s:ByteArray) (er:Int) (hr:GJ D i=(s,er)):Calls Tryz.prog 198 #[.pointer (some ⟨q.x,0,none⟩),.int .i64 i] w λe w'=>e=.returned (.tuple #[.string s,.int .i64 er])/\w=w':=by
 have HT:=zh (λb hb=>LR h i b hb);unfold GJ at hr;cases hb:FQ D i with
 | false=>
   rw [hb] at hr;simp only [if_true] at hr;injection hr with hr1 hr2;subst hr1;subst hr2;have HB:=zh hb;clear hb h;go_enter Tryz.func198,Tryz.ntmps198;go_wp2_with fail;refine (HT false HB).mono ?_;rintro e w1 ⟨rfl,rfl⟩;go_wp2_with fail;go_ret2;exact ⟨rfl,rfl⟩
 | true=>
   rw [hb] at hr;simp only [Bool.true_eq_false,if_false] at hr;have HB:=zh hb;have h0:=jC hb;obtain ⟨k,rfl⟩:∃k:Nat,i=(k:Int):=⟨i.toNat,oo⟩;have p:k<D.st.length:=oo;clear hb;cases hf:D.failed with
   | true=>
     have hk:=h.blk;rw [hf] at hk;have t:=hk.lt;have x5:=hk.cell 7;rw [hf] at hr;simp only [if_true] at hr;injection hr with hr1 hr2;subst hr1;subst hr2;clear h hf;go_enter Tryz.func198,Tryz.ntmps198;go_wp2_with fail;refine (HT true HB).mono ?_;rintro e w1 ⟨rfl,rfl⟩;go_wp2_with fail;go_ret2;exact ⟨rfl,rfl⟩
   | false=>
     rw [hf] at hr;simp only [Bool.false_eq_true,if_false,i9] at hr;injection hr with hr1 hr2;subst hr2;obtain ⟨gs,cs,f,B,C,E,F⟩:=h.st_form;obtain ⟨A,c,m,G,H,hl⟩:=h.pend_list;have y0:=h.st_cell f p;have hk:=h.blk;rw [hf,f,m] at hk;have t:=hk.lt;have x0:=hk.cell 0;have x2:=hk.cell 2;have x5:=hk.cell 7;have HL:=zh hl;have HR:=zh (show s=(E8 D.pend k).getD (D.at k) from hr1.symm);clear h f m hl hf hr1;generalize D.at k=a at*
     generalize D.pend=P at*
     go_enter Tryz.func198,Tryz.ntmps198;go_wp2_with fail;refine (HT true HB).mono ?_;rintro e w1 ⟨rfl,rfl⟩;go_wp2_with fail
     go_loopg [6] P.length (λgk iv wr=>w=wr/\∃j:Nat,j<=P.length/\gk=j/\iv=.int .i64 ((j:Int) - 1)/\E8 P k=E8 (P.take j) k)
     case atStart=>exact ⟨rfl,P.length,iX _,rfl,rfl,by rw [j1]⟩
     case round=>
      obtain ⟨rfl,j,hj,n,rfl,o⟩:=hrel;have u:=zh n;have d:=zh o;clear n o;cases j with
      | zero=>
        have HZ:=zh (show E8 P k=none from by rw [d.out];rfl);go_wp2_with fail;go_ret2;exact ⟨R1 (by rw [HR.out,HZ.out];rfl) rfl,rfl⟩
      | succ j=>
        have g:j<P.length:=hj;obtain ⟨b,I,rfl,J,z0,z1,z2⟩:=ZY HL g;have l:=zh (show E8 (P.take (j+1)) k=if P[j].sec=k then some P[j].data else E8 (P.take j) k from by rw [ic g,Tb]);have v:((j+1:Nat):Int) - 1=(j:Int):=oo;have z:(-1:Int)<=(j:Int):=oo;rw [v];clear z0;generalize P[j]=r at*
        by_cases hs:r.sec=k
        . have y:((r.sec:Int)==(k:Int))=true:=by rw [hs];exact beq_self_eq_true _
          have HS:=zh hs;clear hs;go_wp2_with fail;go_ret2;exact ⟨R1 (by rw [HR.out,d.out,l.out,if_pos HS.out];rfl) rfl,rfl⟩
        . have y:((r.sec:Int)==(k:Int))=false:=it.2 oo;have HS:=zh hs;clear hs;go_wp2_with fail
          go_roundg j
          case measure=>rw [u.out];omega
          case rel=>exact ⟨rfl,j,oo,rfl,by go_num,by rw [d.out,l.out,if_neg HS.out]⟩
omit h in
theorem ZQ (s:Int) (w:World):Calls Tryz.prog 196 #[.int .i64 s] w λe w'=>e=.returned (.func (.func 226) #[] #[.pointer (some ⟨w.heap.size,0,none⟩)])/\w'=w.alloc (.cells #[.int .i64 s] 3):=by
 go_enter Tryz.func196,Tryz.ntmps196;go_wp2_with fail;go_ret;exact ⟨rfl,rfl⟩
omit h in
theorem dw (s:Int) (r:Wr) (g:Nat) (W:World) (hb:Blk W g 3 #[.int .i64 s]):Calls Tryz.prog 226 #[.agg #[.int .i64 r.sys,.int .i64 (r.sec:Int),.string r.data],.pointer (some ⟨g,0,none⟩)] W λe w'=>e=.returned (.bool (Fv s r))/\Grew W w':=by
 have a:=hb.lt;have x0:=hb.cell 0;go_enter Tryz.func226,Tryz.ntmps226
 go_wp2
 all_goals
  go_ret;exact ⟨DB (by unfold Fv;first | rfl | (simp;done) | simp [*]),gG⟩
omit h in
theorem MZ (r:Wr) (W:World):Calls Tryz.prog 223 #[.agg #[.int .i64 r.sys,.int .i64 (r.sec:Int),.string r.data]] W λe w'=>e=.returned (.bool true)/\Grew W w':=by
 go_enter Tryz.func223,Tryz.ntmps223
 go_wp2
 go_ret;exact ⟨rfl,gG⟩
end

end
section
attribute [local go_sem ↓] Go.wp_at_zero Go.wp_at_succ
open Go.Maps (Keyed)
open Go.RowKit
theorem OwnL.lit (w:World) (base e sz:Nat) (row:List Value) (hr:row.length=sz) (hb:base<=w.heap.size) {n:Nat} (hn:n=w.heap.size):OwnL (w.alloc (.cells row.toArray e)) base e sz (.slice (some ⟨n,0,none⟩) 1 1) [row]:=by
 subst hn;refine ⟨λr h=>by rw [ia.1 h];exact hr,?_⟩;have:=World.ownsRow_lit (e:=e) (size:=sz) w row.toArray 1 hb qd (by simp;omega);simpa using this
theorem Nv:(Tryz.prog.info? 9).map (λi=>(i.zero,i.size,i.bytes))=some (some (.string ⟨#[]⟩),1,16):=qk
theorem Ue (l:List ByteArray):∀r∈l.map BP,r.length=1:=by intro r h;obtain ⟨x,_,rfl⟩:=ie.1 h;rfl
theorem U1 (l:List ByteArray):∀r∈l.map BP,r.all (·.oneCell')=true:=by intro r h;obtain ⟨x,_,rfl⟩:=ie.1 h;rfl
theorem Sf (l:List ByteArray):(l.map BP).length=l.length:=iY ..
theorem IE {a b:ByteArray} (h:a.toList=b.toList):a=b:=by
 rw [ByteArray.toList_eq,ByteArray.toList_eq] at h;cases a;cases b;congr 1;exact Array.toList_inj.1 h
theorem fe {a b:ByteArray} (h:a=b):(a.toList==b.toList)=true:=by rw [h];exact beq_self_eq_true _
theorem Mq {a b:ByteArray} (h:¬a=b):(a.toList==b.toList)=false:=it.2 (λe=>h (IE e))
section
variable {w:World} {q:DevP} {D:Dev}
theorem DevM.store_st (h:DevM w q D) {g cap:Nat} (hv:q.vs=.slice (some ⟨g,0,none⟩) D.st.length cap) {i:Nat} (hi:i<D.st.length) {s:ByteArray} (hs:s.size=140):
 DevM (w.setCell ⟨g,i,none⟩ (.string s)) q { D with st:=D.st.set i s }:=by
 have a:q.vs.ownBlock=some g:=by rw [hv];rfl
 have b:¬q.x=g:=λe=>h.st.ne_blk h.blk qd (by rw [a,e]);have c:q.m≠g:=λe=>DP h.st h.map (by rw [a,e])
 refine ⟨h.blk.far (p:=⟨g,i,none⟩) b _,?_,h.old.far (p:=⟨g,i,none⟩) (Aj h.st h.old qd g a) _,h.olen,λj v l hjv hjl=>?_,h.pend.far (p:=⟨g,i,none⟩) (Aj h.st h.pend qd g a) _,h.sv.far (p:=⟨g,i,none⟩) (Aj h.st h.sv qd g a) _,
  h.map.far (p:=⟨g,i,none⟩) c _,h.fen,h.fuse,h.left,h.svok,?_⟩
 . have h1:=h.st;rw [hv] at h1;have h2:=h1.set_ (j:=i) (i:=0) (o:=i) (r:=BP (D.at i)) (by rw [iZ,iV hi];unfold Dev.at;rw [iu,iV hi];rfl) oo oo (.string s);rw [<-hv] at h2;show OwnL _ _ _ _ _ ((D.st.set i s).map BP);rw [List.map_set];exact h2
 . obtain ⟨h1,h2⟩:=h.each j v l hjv hjl;exact ⟨h1.far (p:=⟨g,i,none⟩) (λe=>h2 g e a) _,h2⟩
 . refine ⟨by simp [h.ok.len],by simp [h.ok.pos],by simpa using h.ok.lim,?_,h.ok.old,λr hr=>by simpa using h.ok.pend r hr,h.ok.fen⟩;intro t ht;rcases jE ht with ht | rfl
   . exact h.ok.st t ht
   . exact hs
theorem DevM.store_old (h:DevM w q D) {g cap:Nat} (hv:q.vo=.slice (some ⟨g,0,none⟩) D.st.length cap) {i:Nat} (hi:i<D.st.length) {v:Value} {l:List ByteArray} (c:OwnL w 0 9 1 v (l.map BP)) (f:∀g,v.ownBlock=some g->q.vs.ownBlock≠some g) (hl:l.length<=8/\∀s∈l,s.size=140):
 DevM (w.setCell ⟨g,i,none⟩ v) { q with os:=q.os.set i v } { D with old:=D.old.set i l }:=by
 have a:q.vo.ownBlock=some g:=by rw [hv];rfl
 have k:¬q.x=g:=λe=>h.old.ne_blk h.blk qd (by rw [a,e]);have n:q.m≠g:=λe=>DP h.old h.map (by rw [a,e]);have b:i<q.os.length:=by rw [h.olen,h.ok.len];exact hi
 refine ⟨h.blk.far (p:=⟨g,i,none⟩) k _,h.st.far (p:=⟨g,i,none⟩) (Aj h.old h.st qd g a) _,?_,by simp [h.olen],λj v' l' hjv hjl=>?_,h.pend.far (p:=⟨g,i,none⟩) (Aj h.old h.pend qd g a) _,h.sv.far (p:=⟨g,i,none⟩) (Aj h.old h.sv qd g a) _,
  h.map.far (p:=⟨g,i,none⟩) n _,h.fen,h.fuse,h.left,h.svok,?_⟩
 . have h1:=h.old;rw [hv] at h1;have h2:=h1.set_ (j:=i) (i:=0) (o:=i) (r:=[q.os[i]]) (by rw [iZ,iV b];rfl) oo oo v;rw [<-hv] at h2;show OwnL _ _ _ _ _ ((q.os.set i v).map λv=>[v]);rw [List.map_set];exact h2
 . simp only at hjv hjl;by_cases d:i=j
   . subst d;rw [jp b] at hjv;rw [jp (by rw [<-h.olen];exact b)] at hjl;injection hjv with hjv;injection hjl with hjl;subst hjv;subst hjl;exact ⟨c.far (p:=⟨g,i,none⟩) (Aj h.old c qd g a) _,f⟩
   . rw [List.getElem?_set_ne d] at hjv hjl;obtain ⟨h1,h2⟩:=h.each j v' l' hjv hjl;exact ⟨h1.far (p:=⟨g,i,none⟩) (Aj h.old h1 qd g a) _,h2⟩
 . refine ⟨by simp [h.ok.len],h.ok.pos,h.ok.lim,h.ok.st,?_,h.ok.pend,h.ok.fen⟩;intro t ht;rcases jE ht with ht | rfl
   . exact h.ok.old t ht
   . exact hl
theorem NL (h:DevM w q D) {i:Nat} (hi:i<D.st.length) (s:ByteArray) (hs:s.size=140):
 Calls Tryz.prog 224 #[.pointer (some ⟨q.x,0,none⟩),.int .i64 (i:Int),.string s] w λe w'=>e=.returned (.tuple #[])/\∃os',DevM w' { q with os:=os' } (AR D i s)/\Turned (λk=>q.vs.ownBlock=some k\/q.vo.ownBlock=some k) w w'/\∀v∈os',v∈q.os\/∃g,v.ownBlock=some g/\w.heap.size<=g:=by
 obtain ⟨gs,cs,o,a6,a7,a8,a9⟩:=h.st_form;obtain ⟨go,co,u,U,bb,bc,an⟩:=h.old_form;have y0:=h.st_cell o hi;have hk:=h.blk;have HH:=zh h;rw [o,u] at hk;have G:=hk.lt;have x0:=hk.cell 0;by_cases f:D.at i=s
 . have HC:=zh (show AR D i s=D from by unfold AR;rw [if_pos f]);have Y:=fe f;generalize D.at i=a at*
   clear h o u f hk;go_enter Tryz.func224,Tryz.ntmps224;go_wp2_with fail;refine im (results_none rfl _ _ _) rfl ?_;exact ⟨rfl,q.os,by rw [HC.out];exact HH.out,jD _ _,λv hv=>.inl hv⟩
 . obtain ⟨vi,V,W,ap⟩:=h.old_at hi;have z0:=h.old_cell u V;have Y:=Mq f;have HC:=zh (show AR D i s={ D with st:=D.st.set i s,old:=D.old.set i ((D.at i::D.olds i).take 8) } from by unfold AR;rw [if_neg f]);have b:=zh o;have y:=zh u;have a0:=ah h.ok i
   have Z:=zh (show ∀t∈D.at i::D.olds i,t.size=140 from λt ht=>by
    rcases jh.1 ht with rfl | ht
    . exact IG h.ok hi
    . exact Pu h.ok i t ht)
   generalize D.at i=a at*
   generalize D.olds i=ol at*
   obtain ⟨Ai,ci,rfl,av,bf,X⟩:=W.listAt;rw [Sf] at z0 av;have m:=(iW w).alloc (.cells #[.string a] 9);have H:=OwnL.lit w 0 9 1 (BP a) rfl (jL _) rfl;have I:=(X.keep (iX _) m).mono m.size;have J:=hk.alloc (.cells #[.string a] 9);have HL:=zh I;have HG:=zh m;have ad:=zh hk;have z1:=(m.cellEq _ _ U).trans z0;have x1:=J.cell 1;clear h o u f hk V ap W X I m J;go_enter Tryz.func224,Tryz.ntmps224;go_wp2_with (at_builtin;refine Ab (by rfl) _ _ 24 rfl 0 9 1 16 _ Tryz.underlying24 Nv rfl qd _ [BP a] (ol.map BP) (by rfl) H _ ol.length _ (by rfl) (Sf _).symm (Ue _) HL (U1 _) (by simp;omega) (by simp;omega) (jL _) ?_;intro v1 w1 F S T);have K:∀k,(Value.slice (some ⟨w.heap.size,0,none⟩) 1 1).ownBlock=some k->w.heap.size<=k:=λk hk=>by simp [Value.ownBlock] at hk;omega
   have n:Grew w w1:=Grew.own HG S K (iX _)
   obtain ⟨g1,c1,rfl,_,bk,bl,bs⟩:∃g c,v1=.slice (some ⟨g,0,none⟩) (ol.length+1) c/\w.heap.size<=g/\g<w1.heap.size/\ol.length+1<=c/\c<=9223372036854775807:=by
    rcases F.form with ⟨_,h0⟩ | ⟨g,c,hv,_,aw,h1,h2⟩
    . exact absurd h0 qs
    . have af:([BP a]++ol.map BP).length=ol.length+1:=qs;rw [af] at hv h1;refine ⟨g,c,hv,?_,aw,h1,h2⟩;rcases T with h9 | h9
      . rw [hv] at h9;simp [Value.ownBlock] at h9;omega
      . rw [hv] at h9;simp [Value.ownBlock] at h9;omega
   have d:=zh n;have ag:=(n.cellEq _ _ G).trans (ad.cell 1);have al:=(n.cellEq _ _ G).trans x0;have z2:=(n.cellEq _ _ U).trans z0;have L:(min (8:Nat) (ol.length+1):Nat)<=ol.length+1:=Nat.min_le_right _ _;have M:=zh (F.shrink L);clear S T K n F H z1 x1;refine AB [11] (λw':World=>w'.cell? ⟨q.x,1,none⟩=some (.slice (some ⟨go,0,none⟩) D.st.length co)) qk ?_;have hS:=(show (λw':World=>w'.cell? ⟨q.x,1,none⟩=some (.slice (some ⟨go,0,none⟩) D.st.length co)) w1.drew from ag);refine tQ 0 28 ?_;refine tT 1 (some 29) hS ?_;refine tQ 2 30 ?_;refine tT 3 (some 31) hS ?_;refine tQ 4 32 ?_;refine tQ 5 33 ?_;refine tQ 6 34 ?_;refine tT 7 (some 35) hS ?_;refine tQ 8 36 ?_;refine tQ 9 37 ?_;refine tQ 10 38 ?_;obtain ⟨k,hk⟩:∃k:Nat,min 8 (ol.length+1)=k:=⟨_,rfl⟩;rw [hk] at M L;rw [show (if (8:Int)<(ol.length:Int)+1 then (8:Int) else (ol.length:Int)+1)=(k:Int) from by split<;>omega];simp only [i9];have a1:go<w1.heap.size:=by have:=d.size;omega
   have a2:gs<w1.heap.size:=by have:=d.size;omega
   have A:DevM w1.drew q D:=(HH.grew d).grew ((iW w1).drew)
   have N:([BP a]++ol.map BP).take k=((a::ol).take 8).map BP:=by
    rw [show [BP a]++ol.map BP=(a::ol).map BP from rfl,<-map_take];congr 1;rw [<-hk,Nat.min_def];split
    . rfl
    . rw [i8 qs,i8 (by simp;omega)]
   have B:=M.out;rw [N] at B;have O:=A.store_old y hi (v:=.slice (some ⟨g1,0,none⟩) k c1) (l:=(a::ol).take 8) B (λg hg=>by simp [Value.ownBlock] at hg;rw [b.out];simp [Value.ownBlock];omega) ⟨by simp;omega,λt ht=>Z t (jw ht)⟩;have P:=O.store_st (g:=gs) (cap:=cs) (i:=i) b hi hs;have Q:=zh P;have C:=A.old;rw [y.out] at C;have f0:w1.frozen? ⟨go,i,none⟩=false:=C.frozen i;have c0:w1.cell? ⟨go,i,none⟩=some (.slice Ai ol.length ci):=z2;have a3:w1.cell? ⟨q.x,0,none⟩=some (.slice (some ⟨gs,0,none⟩) D.st.length cs):=al;clear A O P B N C;refine tO 11 λK' hK=>?_;go_wp2_with fail;refine hK.out _ _ (.inl rfl) ?_;clear hK hS;refine AA qk ?_ _;have E:=HH.blk.grew d;rw [b.out] at E;have R:=E.far (p:=⟨go,i,none⟩) (λe=>an e.symm) (.slice (some ⟨g1,0,none⟩) k c1);have x9:=R.cell 0;have a4:¬gs=go:=λe=>Aj HH.st HH.old qd gs (by rw [b.out];rfl) (by rw [y.out,e];rfl);have y9:=Q.out;have z:=(HH.grew d).st.far (p:=⟨go,i,none⟩) (λe=>by rw [b.out] at e;simp [Value.ownBlock] at e;omega) (.slice (some ⟨g1,0,none⟩) k c1);rw [b.out] at z;have f1:(w1.setCell ⟨go,i,none⟩ (.slice (some ⟨g1,0,none⟩) k c1)).frozen? ⟨gs,i,none⟩=false:=z.frozen i
   have a5:(w1.setCell ⟨go,i,none⟩ (.slice (some ⟨g1,0,none⟩) k c1)).cell? ⟨gs,i,none⟩=some (.string (D.st[i])):=by
    have:=z.cell (j:=i) (i:=0) (r:=BP (D.st[i])) (by rw [iZ,iV hi];rfl) rfl;rwa [Nat.mul_one,jo] at this
   clear y9 E R z f0 c0;go_wp2_with fail;go_end0;refine ⟨rfl,q.os.set i (.slice (some ⟨g1,0,none⟩) k c1),by rw [HC.out];exact Q.out,?_,λv hv=>?_⟩
   . rw [b.out,y.out];exact ((d.turned _).setCell (p:=⟨go,i,none⟩) (λ_=>.inr rfl) _).drew.setCell (p:=⟨gs,i,none⟩) (λ_=>.inl rfl) _
   . rcases jE hv with hv | rfl
     . exact .inl hv
     . exact .inr ⟨g1,rfl,by assumption⟩
end

end
section
open Go.Maps (Keyed)
open Go.RowKit
theorem MH (w:World):(zeroValue 285).run Tryz.prog w=.ok (.agg #[.int .i64 0,.int .i64 0,.string ⟨#[]⟩]) w:=qk
theorem aX:∀v∈(Value.agg #[.int .i64 0,.int .i64 0,.string ⟨#[]⟩]).cells,v.oneCell'=true:=by
 intro v hv;simp [Value.cells] at hv;rcases hv with rfl | rfl<;>rfl
theorem Kv {w:World} {base g n cap:Nat} {L:List Wr} (h:OwnL w base 285 3 (.slice (some ⟨g,0,none⟩) n cap) (L.map B2)) {k:Nat} (hk:k<L.length):
 w.cell? ⟨g,k*3,none⟩=some (.int .i64 L[k].sys)/\w.cell? ⟨g,k*3+1,none⟩=some (.int .i64 (L[k].sec:Int))/\w.cell? ⟨g,k*3+2,none⟩=some (.string L[k].data):=by
 have hr:(L.map B2)[k]? =some (B2 L[k]):=by rw [iZ,iV hk];rfl
 exact ⟨h.cell (i:=0) hr rfl,h.cell (i:=1) hr rfl,h.cell (i:=2) hr rfl⟩
theorem JL (R:List Wr) (i:Nat) (hi:i<R.length) (p:Wr):(R.set i p).take (i+1)=R.take i++[p]:=by
 rw [ic (by rw [length_set];exact hi),List.getElem_set_self,take_set_of_le oo]
theorem ZL (R:List Wr) (i:Nat) (hi:i<R.length) (p:Wr):(((R.map B2).set i ((B2 R[i]).set 0 (.int .i64 p.sys))).set i (((B2 R[i]).set 0 (.int .i64 p.sys)).set 1 (.int .i64 (p.sec:Int)))).set i ((((B2 R[i]).set 0 (.int .i64 p.sys)).set 1 (.int .i64 (p.sec:Int))).set 2 (.string p.data))=(R.set i p).map B2:=by
 rw [List.set_set,List.set_set,List.map_set];rfl
theorem Dg (p:Wr->Bool) (L:List Wr) (j:Nat) (hj:j<L.length) (hq:p L[j]=true):(L.take (j+1)).filter (λx=>!p x)=(L.take j).filter (λx=>!p x):=by
 rw [ic hj,j8,filter_cons_of_neg (by simp [hq])];simp
theorem GI (p:Wr->Bool) (L:List Wr) (j:Nat) (hj:j<L.length) (hq:p L[j]=false):(L.take (j+1)).filter (λx=>!p x)=(L.take j).filter (λx=>!p x)++[L[j]]:=by
 rw [ic hj,j8,filter_cons_of_pos (by simp [hq])];simp
section
variable (bs:Nat) (p:Wr->Bool) (L:List Wr) (g n cap:Nat) (KP:World->Prop) (hn:n=L.length) (hsmall:n<=1000000)
 (hKP:∀W W',KP W->Turned (λk=>k=g) W W'->KP W') (hKG:∀W W',KP W->Grew W W'->KP W')
 (hcall:∀W (r:Wr),KP W->Calls Tryz.prog 226 #[.agg #[.int .i64 r.sys,.int .i64 (r.sec:Int),.string r.data],.pointer (some ⟨bs,0,none⟩)] W λe w'=>e=.returned (.bool (p r))/\Grew W w')
include hn hsmall hKP hKG hcall
theorem Qr (w:World) (f:OwnL w 0 285 3 (.slice (some ⟨g,0,none⟩) n cap) (L.map B2)) (l:KP w):
 Calls Tryz.prog 238 #[.slice (some ⟨g,0,none⟩) n cap,.func (.func 226) #[] #[.pointer (some ⟨bs,0,none⟩)]] w λe w'=>Grew w w'/\
  ((∃(i:Nat) (hi:i<L.length),e=.returned (.int .i64 (i:Int))/\p L[i]=true/\(∀j (hj:j<L.length),j<i->p L[j]=false))\/(e=.returned (.int .i64 (-1))/\(∀j (hj:j<L.length),p L[j]=false))):=by
 have HN:=zh hn;have m:=λW r hk=>zh (hcall W r hk);clear hn hcall hKP;go_enter Tryz.func238,Tryz.ntmps238;go_wp2_with fail
 go_loopg [8] n (λgk i wr=>∃k:Nat,k<=n/\gk=n - k/\i=.int .i64 k/\(∀j (hj:j<L.length),j<k->p L[j]=false)/\KP wr/\Grew w wr)
 case atStart=>exact ⟨0,oo,oo,rfl,λj _ h=>oo,l,iW _⟩
 case round=>
  obtain ⟨k,hk,c,rfl,d,hi,ht⟩:=hrel;have o:=zh c;have HA:=zh d;have HI:=zh hi;clear c d hi;by_cases t:k<n
  . have a:k<L.length:=by rw [<-HN.out];exact t
    obtain ⟨c0,c1,c2⟩:=Kv (f.grew ht) a;have HC:=zh (m wr L[k] HI).out;have q:=zh (show ∀j (hj:j<L.length),j<k+1->j≠k->p L[j]=false from λj hj h1 h2=>HA.out j hj oo);go_wp2_with fail;refine HC.mono ?_;rintro e w1 ⟨rfl,g1⟩;have s:=zh (hKG _ _ HI g1);have b:=ht.trans g1;clear g1 ht c0 c1 c2;cases hq:p L[k]
    . have HQ:=zh hq;clear hq;go_wp2_with fail
      go_roundg (n - (k+1))
      case measure=>rw [o.out];omega
      case rel=>exact ⟨k+1,oo,oo,by go_num,λj hj h=>by
       by_cases e:j=k
       . subst e;exact HQ.out
       . exact q.out j hj h e,s,b⟩
    . have HQ:=zh hq;clear hq;go_wp2_with fail;go_ret;exact ⟨b,.inl ⟨k,a,rfl,HQ,HA⟩⟩
  . obtain rfl:k=n:=oo;go_wp2_with fail;go_ret;exact ⟨ht,.inr ⟨rfl,λj hj=>HA j hj (by have:=HN.out;omega)⟩⟩
theorem Om (w:World) (b:OwnL w 0 285 3 (.slice (some ⟨g,0,none⟩) n cap) (L.map B2)) (v:KP w):
 Calls Tryz.prog 225 #[.slice (some ⟨g,0,none⟩) n cap,.func (.func 226) #[] #[.pointer (some ⟨bs,0,none⟩)]] w λe w'=>
  e=.returned (.slice (some ⟨g,0,none⟩) (L.filter λx=>!p x).length cap)/\OwnL w' 0 285 3 (.slice (some ⟨g,0,none⟩) (L.filter λx=>!p x).length cap) ((L.filter λx=>!p x).map B2)/\Turned (λk=>k=g) w w':=by
 obtain ⟨a9,b0,b1⟩:=b.len;have al:=zh (Qr bs p L g n cap KP hn hsmall hKP hKG hcall w b v);have HN:=zh hn;have an:=λW r hk=>zh (hcall W r hk);have bc:=(b.own_ge (g:=g) rfl).2;clear hn hcall a9;go_enter Tryz.func225,Tryz.ntmps225;go_wp2_with fail;refine al.mono ?_;rintro e w1 ⟨a,⟨i,hi,rfl,U,V⟩ | ⟨rfl,a7⟩⟩
 . have t:=b.grew a;have ap:i<n:=by have:=HN.out;omega
   have av:=zh (hKG _ _ v a);have aw:((i:Int)==-1)=false:=it.2 oo
   have a0:=zh (show L.take i=(L.take (i+1)).filter (λx=>!p x) from by
    rw [Dg p L i hi U]
    refine (List.filter_eq_self.2 λx hx=>?_).symm
    obtain ⟨j,hj,rfl⟩:=mem_take_iff_getElem.1 hx
    rw [V j oo oo];rfl)
   have bf:g<w1.heap.size:=by have:=a.size;omega
   have u:=a.turned (λk=>k=g);clear U V b a v;go_wp2_with fail
   go_loopg [5,6] (n - (i+1)) (λgk ii jj wr=>∃(i j:Nat) (R:List Wr),i<j/\j<=n/\gk=n - j/\ii=.int .i64 i/\jj=.int .i64 j/\R.length=n/\R.take i=(L.take j).filter (λx=>!p x)/\R.drop j=L.drop j/\OwnL wr 0 285 3 (.slice (some ⟨g,0,none⟩) n cap) (R.map B2)/\KP wr/\Turned (λk=>k=g) w wr)
   case atStart=>exact ⟨i,i+1,L,oo,oo,oo,rfl,by go_num,HN.out.symm,a0,rfl,t,av,u⟩
   case round=>
    clear t ap aw;obtain ⟨i,j,R,bb,hj,Y,rfl,rfl,Z,ad,af,s,ag,E⟩:=hrel;have F:=zh Y;have f:=zh Z;have y:=zh ad;have G:=zh af;have H:=zh ag;clear Y Z ad af ag u;have bk:=(s.own_ge (g:=g) rfl).2;by_cases T:j<n
    . have z:j<L.length:=by rw [<-HN.out];exact T
      have I:j<R.length:=by rw [f.out];exact T
      have c:i<R.length:=by rw [f.out];omega
      have J:R[j]=L[j]:=by
       have h1:=ix (λl=>l[0]?) G;simp only [getElem?_drop,jo] at h1;rw [iV I,iV z] at h1;injection h1
      obtain ⟨c0,c1,c2⟩:=Kv s I;rw [J] at c0 c1 c2
      have K:=zh (show R.drop (j+1)=L.drop (j+1) from by
       have h1:=ix (List.drop 1) G
       rwa [drop_drop,drop_drop] at h1)
      have A:=λh=>zh (Dg p L j z h);have B:=λh=>zh (GI p L j z h);have M:(R.map B2)[i]? =some (B2 R[i]):=by rw [iZ,iV c];rfl
      have a1:=zh M;have a2:=zh (λp=>ZL R i c p);clear J M;generalize L[j]=r at*
      have m:=(iW wr).alloc (.cells #[.int .i64 r.sys,.int .i64 (r.sec:Int),.string r.data] 285);have HC:=zh (an _ r (hKG _ _ H m)).out;go_wp2_with fail;refine HC.mono ?_;rintro e w2 ⟨rfl,g2⟩;have N:=zh (hKG _ _ (hKG _ _ H m) g2);have d:=(s.grew m).grew g2;have O:=(E.andGrew m).andGrew g2;have q:=(ik wr 285 #[.int .i64 r.sys,.int .i64 (r.sec:Int),.string r.data] rfl).grew g2;have bl:=q.lt;have v0:=q.cell 0;have v1:=q.cell 1;have v2:=q.cell 2;clear g2 s E c0 c1 c2 q m;cases hq:p r
      . have C:=B hq;have HQ:=zh hq;clear hq A B;have f0:=d.frozen (i*3);have f1:=d.frozen (i*3+1);have f2:=d.frozen (i*3+2);obtain ⟨d0,d1,d2⟩:=Kv d c;have P:=d.set_ (j:=i) (i:=0) (o:=i*3) a1 oo rfl (.int .i64 r.sys);have Q:=P.set_ (j:=i) (i:=1) (o:=i*3+1) (r:=(B2 R[i]).set 0 (.int .i64 r.sys)) (by rw [jp (by rw [iY];exact c)]) oo rfl (.int .i64 (r.sec:Int));have D:=Q.set_ (j:=i) (i:=2) (o:=i*3+2) (r:=((B2 R[i]).set 0 (.int .i64 r.sys)).set 1 (.int .i64 (r.sec:Int))) (by rw [jp (by rw [length_set,iY];exact c)]) oo rfl (.string r.data);rw [a2.out r] at D;have a3:=zh D;have a4:=zh (JL R i c r);clear P Q D;have bt:g<w2.heap.size:=oo;generalize R[i]=r0 at*
        go_wp2_with fail
        go_roundg (n - (j+1))
        case measure=>rw [F.out];omega
        case rel=>
         refine ⟨i+1,j+1,R.set i r,oo,oo,oo,by go_num,by go_num,by rw [length_set];exact f.out,by rw [a4.out,C.out,y.out],by rw [drop_set_of_lt oo];exact K.out,a3,hKP _ _ N ((((jD (λk=>k=g) w2).setCell (p:=⟨g,i*3,none⟩) (λ_=>rfl) _).setCell (p:=⟨g,i*3+1,none⟩) (λ_=>rfl) _).setCell (p:=⟨g,i*3+2,none⟩) (λ_=>rfl) _),(((O.setCell (p:=⟨g,i*3,none⟩) (λ_=>rfl) _).setCell (p:=⟨g,i*3+1,none⟩) (λ_=>rfl) _).setCell (p:=⟨g,i*3+2,none⟩) (λ_=>rfl) _)⟩
      . have C:=A hq;have HQ:=zh hq;clear hq A B;go_wp2_with fail
        go_roundg (n - (j+1))
        case measure=>rw [F.out];omega
        case rel=>exact ⟨i,j+1,R,oo,oo,oo,rfl,by go_num,f,by rw [C.out,y.out],K,d,N,O⟩
    . obtain rfl:j=n:=oo;have bv:¬cap=i:=oo;have bx:=MH;have S:=zh (show R.take i=L.filter (λx=>!p x) from by rw [y.out,HN.out,j1]);have a5:=zh (show (L.filter (λx=>!p x)).length=i from by rw [<-S.out,je,f.out];omega);go_wp2_with (refine Hb rfl (.tmp 38) 188 rfl 0 285 3 _ Tryz.underlying188 MH rfl aX qd g j cap i (R.map B2) s bb _ _ rfl rfl ?_;intro w3 X a8);go_ret;rw [a5.out];refine ⟨rfl,?_,E.trans a8⟩;rw [<-map_take,S.out] at X;exact X
 . have a6:=zh (show L.filter (λx=>!p x)=L from List.filter_eq_self.2 λx hx=>by
    obtain ⟨j,hj,rfl⟩:=j4.1 hx
    rw [a7 j hj];rfl)
   have t:=b.grew a;have u:=a.turned (λk=>k=g);clear a;go_wp2_with fail;go_ret;rw [a6.out,<-HN.out];exact ⟨rfl,t,u⟩
end
theorem Qz (bs:Nat) (w:World):Calls Tryz.prog 225 #[.slice none 0 0,.func (.func 226) #[] #[.pointer (some ⟨bs,0,none⟩)]] w λe w'=>e=.returned (.slice none 0 0)/\w=w':=by
 have hI:Calls Tryz.prog 238 #[.slice none 0 0,.func (.func 226) #[] #[.pointer (some ⟨bs,0,none⟩)]] w λe w'=>e=.returned (.int .i64 (-1))/\w=w':=by
  go_enter Tryz.func238,Tryz.ntmps238;go_wp2_with fail
  go_loopg [8] 0 (λgk i wr=>gk=0/\i=.int .i64 0/\w=wr)
  case atStart=>exact ⟨rfl,rfl,rfl⟩
  case round=>
   obtain ⟨_,rfl,rfl⟩:=hrel;go_wp2_with fail;go_ret;exact ⟨rfl,rfl⟩
 have HI:=zh hI;clear hI;go_enter Tryz.func225,Tryz.ntmps225;go_wp2_with fail;refine HI.mono ?_;rintro e w1 ⟨rfl,rfl⟩;go_wp2_with fail;go_ret;exact ⟨rfl,rfl⟩
section
variable (p:Wr->Bool) (L:List Wr) (g n cap:Nat) (KP:World->Prop) (hn:n=L.length) (hsmall:n<=1000000)
 (hKP:∀W W',KP W->Turned (λk=>k=g) W W'->KP W') (hKG:∀W W',KP W->Grew W W'->KP W')
 (hcall:∀W (r:Wr),KP W->Calls Tryz.prog 223 #[.agg #[.int .i64 r.sys,.int .i64 (r.sec:Int),.string r.data]] W λe w'=>e=.returned (.bool (p r))/\Grew W w')
include hn hsmall hKP hKG hcall
theorem OW (w:World) (f:OwnL w 0 285 3 (.slice (some ⟨g,0,none⟩) n cap) (L.map B2)) (l:KP w):
 Calls Tryz.prog 238 #[.slice (some ⟨g,0,none⟩) n cap,.func (.func 223) #[] #[]] w λe w'=>Grew w w'/\
  ((∃(i:Nat) (hi:i<L.length),e=.returned (.int .i64 (i:Int))/\p L[i]=true/\(∀j (hj:j<L.length),j<i->p L[j]=false))\/(e=.returned (.int .i64 (-1))/\(∀j (hj:j<L.length),p L[j]=false))):=by
 have HN:=zh hn;have m:=λW r hk=>zh (hcall W r hk);clear hn hcall hKP;go_enter Tryz.func238,Tryz.ntmps238;go_wp2_with fail
 go_loopg [8] n (λgk i wr=>∃k:Nat,k<=n/\gk=n - k/\i=.int .i64 k/\(∀j (hj:j<L.length),j<k->p L[j]=false)/\KP wr/\Grew w wr)
 case atStart=>exact ⟨0,oo,oo,rfl,λj _ h=>oo,l,iW _⟩
 case round=>
  obtain ⟨k,hk,c,rfl,d,hi,ht⟩:=hrel;have o:=zh c;have HA:=zh d;have HI:=zh hi;clear c d hi;by_cases t:k<n
  . have a:k<L.length:=by rw [<-HN.out];exact t
    obtain ⟨c0,c1,c2⟩:=Kv (f.grew ht) a;have HC:=zh (m wr L[k] HI).out;have q:=zh (show ∀j (hj:j<L.length),j<k+1->j≠k->p L[j]=false from λj hj h1 h2=>HA.out j hj oo);go_wp2_with fail;refine HC.mono ?_;rintro e w1 ⟨rfl,g1⟩;have s:=zh (hKG _ _ HI g1);have b:=ht.trans g1;clear g1 ht c0 c1 c2;cases hq:p L[k]
    . have HQ:=zh hq;clear hq;go_wp2_with fail
      go_roundg (n - (k+1))
      case measure=>rw [o.out];omega
      case rel=>exact ⟨k+1,oo,oo,by go_num,λj hj h=>by
       by_cases e:j=k
       . subst e;exact HQ.out
       . exact q.out j hj h e,s,b⟩
    . have HQ:=zh hq;clear hq;go_wp2_with fail;go_ret;exact ⟨b,.inl ⟨k,a,rfl,HQ,HA⟩⟩
  . obtain rfl:k=n:=oo;go_wp2_with fail;go_ret;exact ⟨ht,.inr ⟨rfl,λj hj=>HA j hj (by have:=HN.out;omega)⟩⟩
theorem OK (w:World) (b:OwnL w 0 285 3 (.slice (some ⟨g,0,none⟩) n cap) (L.map B2)) (v:KP w):
 Calls Tryz.prog 225 #[.slice (some ⟨g,0,none⟩) n cap,.func (.func 223) #[] #[]] w λe w'=>
  e=.returned (.slice (some ⟨g,0,none⟩) (L.filter λx=>!p x).length cap)/\OwnL w' 0 285 3 (.slice (some ⟨g,0,none⟩) (L.filter λx=>!p x).length cap) ((L.filter λx=>!p x).map B2)/\Turned (λk=>k=g) w w':=by
 obtain ⟨a9,bx,b0⟩:=b.len;have al:=zh (OW p L g n cap KP hn hsmall hKP hKG hcall w b v);have HN:=zh hn;have an:=λW r hk=>zh (hcall W r hk);have bc:=(b.own_ge (g:=g) rfl).2;clear hn hcall a9;go_enter Tryz.func225,Tryz.ntmps225;go_wp2_with fail;refine al.mono ?_;rintro e w1 ⟨a,⟨i,hi,rfl,U,V⟩ | ⟨rfl,a7⟩⟩
 . have t:=b.grew a;have ap:i<n:=by have:=HN.out;omega
   have av:=zh (hKG _ _ v a);have aw:((i:Int)==-1)=false:=it.2 oo
   have a0:=zh (show L.take i=(L.take (i+1)).filter (λx=>!p x) from by
    rw [Dg p L i hi U]
    refine (List.filter_eq_self.2 λx hx=>?_).symm
    obtain ⟨j,hj,rfl⟩:=mem_take_iff_getElem.1 hx
    rw [V j oo oo];rfl)
   have bf:g<w1.heap.size:=by have:=a.size;omega
   have u:=a.turned (λk=>k=g);clear U V b a v;go_wp2_with fail
   go_loopg [5,6] (n - (i+1)) (λgk ii jj wr=>∃(i j:Nat) (R:List Wr),i<j/\j<=n/\gk=n - j/\ii=.int .i64 i/\jj=.int .i64 j/\R.length=n/\R.take i=(L.take j).filter (λx=>!p x)/\R.drop j=L.drop j/\OwnL wr 0 285 3 (.slice (some ⟨g,0,none⟩) n cap) (R.map B2)/\KP wr/\Turned (λk=>k=g) w wr)
   case atStart=>exact ⟨i,i+1,L,oo,oo,oo,rfl,by go_num,HN.out.symm,a0,rfl,t,av,u⟩
   case round=>
    clear t ap aw;obtain ⟨i,j,R,bb,hj,Y,rfl,rfl,Z,ad,af,s,ag,E⟩:=hrel;have F:=zh Y;have f:=zh Z;have y:=zh ad;have G:=zh af;have H:=zh ag;clear Y Z ad af ag u;have bk:=(s.own_ge (g:=g) rfl).2;by_cases T:j<n
    . have z:j<L.length:=by rw [<-HN.out];exact T
      have I:j<R.length:=by rw [f.out];exact T
      have c:i<R.length:=by rw [f.out];omega
      have J:R[j]=L[j]:=by
       have h1:=ix (λl=>l[0]?) G;simp only [getElem?_drop,jo] at h1;rw [iV I,iV z] at h1;injection h1
      obtain ⟨c0,c1,c2⟩:=Kv s I;rw [J] at c0 c1 c2
      have K:=zh (show R.drop (j+1)=L.drop (j+1) from by
       have h1:=ix (List.drop 1) G
       rwa [drop_drop,drop_drop] at h1)
      have A:=λh=>zh (Dg p L j z h);have B:=λh=>zh (GI p L j z h);have M:(R.map B2)[i]? =some (B2 R[i]):=by rw [iZ,iV c];rfl
      have a1:=zh M;have a2:=zh (λp=>ZL R i c p);clear J M;generalize L[j]=r at*
      have m:=(iW wr).alloc (.cells #[.int .i64 r.sys,.int .i64 (r.sec:Int),.string r.data] 285);have HC:=zh (an _ r (hKG _ _ H m)).out;go_wp2_with fail;refine HC.mono ?_;rintro e w2 ⟨rfl,g2⟩;have N:=zh (hKG _ _ (hKG _ _ H m) g2);have d:=(s.grew m).grew g2;have O:=(E.andGrew m).andGrew g2;have q:=(ik wr 285 #[.int .i64 r.sys,.int .i64 (r.sec:Int),.string r.data] rfl).grew g2;have bl:=q.lt;have v0:=q.cell 0;have v1:=q.cell 1;have v2:=q.cell 2;clear g2 s E c0 c1 c2 q m;cases hq:p r
      . have C:=B hq;have HQ:=zh hq;clear hq A B;have f0:=d.frozen (i*3);have f1:=d.frozen (i*3+1);have f2:=d.frozen (i*3+2);obtain ⟨d0,d1,d2⟩:=Kv d c;have P:=d.set_ (j:=i) (i:=0) (o:=i*3) a1 oo rfl (.int .i64 r.sys);have Q:=P.set_ (j:=i) (i:=1) (o:=i*3+1) (r:=(B2 R[i]).set 0 (.int .i64 r.sys)) (by rw [jp (by rw [iY];exact c)]) oo rfl (.int .i64 (r.sec:Int));have D:=Q.set_ (j:=i) (i:=2) (o:=i*3+2) (r:=((B2 R[i]).set 0 (.int .i64 r.sys)).set 1 (.int .i64 (r.sec:Int))) (by rw [jp (by rw [length_set,iY];exact c)]) oo rfl (.string r.data);rw [a2.out r] at D;have a3:=zh D;have a4:=zh (JL R i c r);clear P Q D;have bs:g<w2.heap.size:=oo;generalize R[i]=r0 at*
        go_wp2_with fail
        go_roundg (n - (j+1))
        case measure=>rw [F.out];omega
        case rel=>
         refine ⟨i+1,j+1,R.set i r,oo,oo,oo,by go_num,by go_num,by rw [length_set];exact f.out,by rw [a4.out,C.out,y.out],by rw [drop_set_of_lt oo];exact K.out,a3,hKP _ _ N ((((jD (λk=>k=g) w2).setCell (p:=⟨g,i*3,none⟩) (λ_=>rfl) _).setCell (p:=⟨g,i*3+1,none⟩) (λ_=>rfl) _).setCell (p:=⟨g,i*3+2,none⟩) (λ_=>rfl) _),(((O.setCell (p:=⟨g,i*3,none⟩) (λ_=>rfl) _).setCell (p:=⟨g,i*3+1,none⟩) (λ_=>rfl) _).setCell (p:=⟨g,i*3+2,none⟩) (λ_=>rfl) _)⟩
      . have C:=A hq;have HQ:=zh hq;clear hq A B;go_wp2_with fail
        go_roundg (n - (j+1))
        case measure=>rw [F.out];omega
        case rel=>exact ⟨i,j+1,R,oo,oo,oo,rfl,by go_num,f,by rw [C.out,y.out],K,d,N,O⟩
    . obtain rfl:j=n:=oo;have bt:¬cap=i:=oo;have bv:=MH;have S:=zh (show R.take i=L.filter (λx=>!p x) from by rw [y.out,HN.out,j1]);have a5:=zh (show (L.filter (λx=>!p x)).length=i from by rw [<-S.out,je,f.out];omega);go_wp2_with (refine Hb rfl (.tmp 38) 188 rfl 0 285 3 _ Tryz.underlying188 MH rfl aX qd g j cap i (R.map B2) s bb _ _ rfl rfl ?_;intro w3 X a8);go_ret;rw [a5.out];refine ⟨rfl,?_,E.trans a8⟩;rw [<-map_take,S.out] at X;exact X
 . have a6:=zh (show L.filter (λx=>!p x)=L from List.filter_eq_self.2 λx hx=>by
    obtain ⟨j,hj,rfl⟩:=j4.1 hx
    rw [a7 j hj];rfl)
   have t:=b.grew a;have u:=a.turned (λk=>k=g);clear a;go_wp2_with fail;go_ret;rw [a6.out,<-HN.out];exact ⟨rfl,t,u⟩
end
theorem OZ (w:World):Calls Tryz.prog 225 #[.slice none 0 0,.func (.func 223) #[] #[]] w λe w'=>e=.returned (.slice none 0 0)/\w=w':=by
 have hI:Calls Tryz.prog 238 #[.slice none 0 0,.func (.func 223) #[] #[]] w λe w'=>e=.returned (.int .i64 (-1))/\w=w':=by
  go_enter Tryz.func238,Tryz.ntmps238;go_wp2_with fail
  go_loopg [8] 0 (λgk i wr=>gk=0/\i=.int .i64 0/\w=wr)
  case atStart=>exact ⟨rfl,rfl,rfl⟩
  case round=>
   obtain ⟨_,rfl,rfl⟩:=hrel;go_wp2_with fail;go_ret;exact ⟨rfl,rfl⟩
 have HI:=zh hI;clear hI;go_enter Tryz.func225,Tryz.ntmps225;go_wp2_with fail;refine HI.mono ?_;rintro e w1 ⟨rfl,rfl⟩;go_wp2_with fail;go_ret;exact ⟨rfl,rfl⟩

end
section
attribute [local go_sem ↓] Go.wp_at_zero Go.wp_at_succ
open Go.Maps (Keyed)
open Go.RowKit
theorem ZM {w:World} {B:Nat} {A:Option Addr} {l:List Int} (h:ListAt w B 1 A (l.map DJ)) {k:Nat} (hk:k<l.length):
 ∃b off,A=some ⟨b,off,none⟩/\b<B/\w.cell? ⟨b,off+k,none⟩=some (.int .i64 l[k]):=by
 obtain ⟨b,off,e,hb,hc⟩:=h (by simp;omega);have a:=hc k (DJ l[k]) (by rw [iZ,iV hk];rfl);have:=a 0 _ rfl;rw [Nat.mul_one,jo] at this;exact ⟨b,off,e,hb,this⟩
theorem ListAt.keptT {w w':World} {B sz:Nat} {A:Option Addr} {cells:List (List Value)} (h:ListAt w B sz A cells) (hB:B<=w.heap.size) {S:Nat->Prop} (ht:Turned S w w') (hS:0<cells.length->∀b (off:Nat),A=some ⟨b,off,Option.none⟩->¬S b):ListAt w' B sz A cells:=
 λhl=>by
  obtain ⟨b,off,e,hb,hc⟩:=h hl;exact ⟨b,off,e,hb,λj cs hj i v hi=>(ht.cellEq _ _ (ig hb hB) (hS hl b off e)).trans (hc j cs hj i v hi)⟩
def DevP.turns (q:DevP) (k:Nat):Prop:=k=q.x\/q.vs.ownBlock=some k\/q.vo.ownBlock=some k\/q.vp.ownBlock=some k
theorem DevP.turns_feet (q:DevP) (k:Nat) (h:q.turns k):q.feet k:=h.elim .inl (λh=>h.elim (λh=>.inr (.inr (.inl h))) (λh=>h.elim (λh=>.inr (.inr (.inr (.inl h)))) (λh=>.inr (.inr (.inr (.inr (.inl h)))))))
structure Foot' (w:World) (q q':DevP):Prop where
 x:q'.x=q.x
 m:q'.m=q.m
 feet:∀k,q'.feet k->q.feet k\/w.heap.size<=k
theorem Foot'.refl (w:World) (q:DevP):Foot' w q q:=⟨rfl,rfl,λ_ h=>.inl h⟩
theorem Foot'.trans {w w':World} {a b c:DevP} (h:Foot' w a b) (k:Foot' w' b c) (hs:w.heap.size<=w'.heap.size):Foot' w a c:=
 ⟨k.x.trans h.x,k.m.trans h.m,λi hi=>(k.feet i hi).elim (h.feet i) (λh9=>.inr (ij hs h9))⟩
section
variable {w w1:World} {q:DevP} {D:Dev}
theorem DevM.new_pend (h:DevM w q D) (ht:Turned (λk=>q.vp.ownBlock=some k) w w1) {vp':Value} {P':List Wr} (a:OwnL w1 0 285 3 vp' (P'.map B2)) (b:∀r∈P',r.sec<D.st.length/\r.data.size=140/\(1<=r.sys/\r.sys<=4)):
 DevM (w1.setCell ⟨q.x,2,none⟩ vp') { q with vp:=vp' } { D with pend:=P' }:=by
 have c:=h.pend.ne_blk h.blk qd;have hb:=(h.blk.turned ht c);have h1:=h.st.kept ht (Aj h.st h.pend qd);have h2:=h.old.kept ht (Aj h.old h.pend qd);have h3:=h.sv.kept ht (Aj h.sv h.pend qd);have hm:¬q.vp.ownBlock=some q.m:=DP h.pend h.map;have h4:=h.map.turned ht hm
 refine ⟨(hb.set_ 2 vp').conv rfl,h1.far (p:=⟨q.x,2,none⟩) (h1.ne_blk hb qd) _,h2.far (p:=⟨q.x,2,none⟩) (h2.ne_blk hb qd) _,h.olen,λj v l hv hl=>?_,a.far (p:=⟨q.x,2,none⟩) (a.ne_blk hb qd) _,
  h3.far (p:=⟨q.x,2,none⟩) (h3.ne_blk hb qd) _,h4.far (p:=⟨q.x,2,none⟩) (λe=>Ch hb h4 e.symm) _,h.fen,h.fuse,h.left,h.svok,⟨h.ok.len,h.ok.pos,h.ok.lim,h.ok.st,h.ok.old,b,h.ok.fen⟩⟩
 obtain ⟨h5,h6⟩:=h.each j v l hv hl;have h7:=h5.kept ht (Aj h5 h.pend qd);exact ⟨h7.far (p:=⟨q.x,2,none⟩) (h7.ne_blk hb qd) _,h6⟩
end
section
variable (bs:Nat) {w:World} {q:DevP} {D:Dev} (h:DevM w q D) (p:Wr->Bool) (A2:Option Addr) (c2:Nat) (l:List Int) (KP:World->Prop) (hl:ListAt w w.heap.size 1 A2 (l.map DJ)) (hlA:0<l.length->∀b off,A2=some ⟨b,off,none⟩->¬q.turns b) (hlen:l.length<=9223372036854775807) (hlok:∀n∈l,okI n) (hsmall:D.pend.length<=1000000)
 (hKP:∀W W',KP W->Turned q.turns W W'->KP W') (hKG:∀W W',KP W->Grew W W'->KP W') (hkp:KP w)
 (hcall:∀W (r:Wr),KP W->Calls Tryz.prog 226 #[.agg #[.int .i64 r.sys,.int .i64 (r.sec:Int),.string r.data],.pointer (some ⟨bs,0,none⟩)] W λe w'=>e=.returned (.bool (p r))/\Grew W w')
include h hl hlA hlen hlok hsmall hKP hKG hkp hcall
theorem YX:Calls Tryz.prog 195 #[.pointer (some ⟨q.x,0,none⟩),.func (.func 226) #[] #[.pointer (some ⟨bs,0,none⟩)],.slice A2 l.length c2] w λe w'=>e=.returned (.tuple #[])/\∃q',DevM w' q' (Bs D p (svN l))/\Foot' w q q'/\Turned q.turns w w':=by
 obtain ⟨gs,cs,ad,ea,eb,ee,eg⟩:=h.st_form;obtain ⟨A,c,C,eh,ej,bv⟩:=h.pend_list;have hk:=h.blk;rw [ad,C] at hk;have da:=hk.lt;have x2:=hk.cell 2;have HH:=zh h;have b9:=λW r hk=>zh (hcall W r hk);have af:=λj=>zh (Lz h.ok p (svN l) (Qk l) (D.pend.take j) (λr hr=>jw hr));have ag:=zh ad;have al:=zh C;have ca:=zh hl;have cb:=zh bv;have cc:=zh hkp;have ce:=zh hlok;have an:=zh h.ok.pend
 have cf:=zh (show ∀b y,A=some ⟨b,y,none⟩->¬(q.vs.ownBlock=some b\/q.vo.ownBlock=some b) from λb y e hh=>by
  have hb:q.vp.ownBlock=some b:=by
   rcases h.pend.form with ⟨hv,_⟩ | ⟨g,cap,hv,_⟩
   . rw [C] at hv;injection hv with hv _ _;rw [hv] at e;cases e
   . rw [C] at hv;injection hv with hv _ _;rw [hv] at e;injection e with e;injection e with e _ _;rw [C,hv,e];rfl
  rcases hh with hh | hh
  . exact Aj h.st h.pend qd b hh hb
  . exact Aj h.old h.pend qd b hh hb)
 have ap:=zh (show Bs D p (svN l)={ (Co D p (svN l) D.pend).1 with pend:=D.pend.filter λr=>!p r } from rfl)
 have ch:=zh (show ∀(W:World) g cap,KP W->q.vp=.slice (some ⟨g,0,none⟩) D.pend.length cap->OwnL W 0 285 3 (.slice (some ⟨g,0,none⟩) D.pend.length cap) (D.pend.map B2)->Calls Tryz.prog 225 #[.slice (some ⟨g,0,none⟩) D.pend.length cap,.func (.func 226) #[] #[.pointer (some ⟨bs,0,none⟩)]] W λe w'=>
  e=.returned (.slice (some ⟨g,0,none⟩) (D.pend.filter λx=>!p x).length cap)/\OwnL w' 0 285 3 (.slice (some ⟨g,0,none⟩) (D.pend.filter λx=>!p x).length cap) ((D.pend.filter λx=>!p x).map B2)/\Turned (λk=>k=g) W w' from λW g cap hk hv ho=>
  Om bs p D.pend g D.pend.length cap KP rfl hsmall (λW W' h1 h2=>hKP W W' h1 (h2.mono (λk _ hk=>.inr (.inr (.inr (by rw [hv,hk];rfl)))))) hKG hcall W ho hk)
 have ci:=zh h.pend.form;have dd:D.st.length<=1155:=h.ok.lim;clear h ad C hcall hl bv hkp hlok;go_enter Tryz.func195,Tryz.ntmps195;go_wp2_with fail
 go_loopg [6,15] D.pend.length (λgk nv iv wr=>∃(j:Nat) (f:List Value),j<=D.pend.length/\gk=D.pend.length - j/\iv=.int .i64 (j:Int)/\nv=.int .i64 ((Co D p (svN l) (D.pend.take j)).2:Int)/\DevM wr { q with os:=f } (Co D p (svN l) (D.pend.take j)).1/\Turned (λk=>q.vs.ownBlock=some k\/q.vo.ownBlock=some k) w wr/\KP wr/\(∀v∈f,v∈q.os\/∃g,v.ownBlock=some g/\w.heap.size<=g))
 case atStart=>exact ⟨0,q.os,jL _,rfl,rfl,rfl,HH,jD _ _,cc,λv hv=>.inl hv⟩
 case round=>
  obtain ⟨j,f,hj,bx,rfl,rfl,hd,ht,b0,b1⟩:=hrel;have av:=zh bx;have HD:=zh hd;have R:=zh b1;have S:=zh b0;have HT:=zh ht;have df:q.x<wr.heap.size:=by have:=ht.size;omega
  clear bx b1 b0;by_cases Y:j<D.pend.length
  . obtain ⟨b,y,rfl,ek,z0,z1,z2⟩:=ZY (cb.keptT (iX _) ht (λ_ b y e=>cf b y e)) Y;have cl:=zh (an D.pend[j] (ib Y));have H:=zh (L4 D p (svN l) D.pend j Y);have aw:=NY D p (svN l) (D.pend.take j);have cn:(Co D p (svN l) (D.pend.take j)).2<=j:=by rw [aw];exact ij (j5 _ _) (by rw [je];omega)
    have T:=(af j).out;have I:=T.len;clear aw hd ht;generalize D.pend[j]=r at*
    generalize hE:Co D p (svN l) (D.pend.take j)=E at*
    obtain ⟨E,d⟩:=E;simp only at cn T I;have HE:=zh hE;clear hE;have F:=(iW wr).alloc (.cells #[.int .i64 r.sys,.int .i64 (r.sec:Int),.string r.data] 285);have HC:=zh (b9 _ r (hKG _ _ S F)).out;have a0:=ik wr 285 #[.int .i64 r.sys,.int .i64 (r.sec:Int),.string r.data] rfl;have co:=zh (HD.grew F);have cp:=zh (HT.andGrew F);have cq:=zh (hKG _ _ S F);clear F;go_wp2_with fail;refine HC.mono ?_;rintro e w2 ⟨rfl,g2⟩;have J:=zh (co.grew g2);have z:=zh (cp.andGrew g2);have a1:=zh (hKG _ _ cq g2);have U:=a0.grew g2;have hz:=g2.size;simp at hz;clear g2 a0 z0 z1 z2;cases hq:p r with
    | false=>
      have HQ:=zh hq;have B:=zh (show AV p (svN l) (E,d) r=(E,d) from by unfold AV;rw [hq];rfl);clear hq;go_wp2_with fail
      go_roundg (D.pend.length - (j+1))
      case measure=>rw [av.out];omega
      case rel=>exact ⟨j+1,f,oo,oo,by go_num,by rw [H.out,B.out],by rw [H.out,B.out];exact J.out,z,a1,R⟩
    | true=>
      have HQ:=zh hq;have B:=zh (show AV p (svN l) (E,d) r=(AR E r.sec (L8 r (svN l d) (E.at r.sec)),d+1) from by unfold AV;rw [hq];rfl);clear hq;obtain ⟨b2,b4,_⟩:=cl.out;obtain ⟨n,hn⟩:∃n,svN l d=n:=⟨_,rfl⟩;have cr:n<=140:=by rw [<-hn];exact Qk l d
      rw [hn] at B;have a2:=IG T.ok (show r.sec<E.st.length by rw [I];exact b2);have ct:=zh (LU (r:=r) (n:=n) b4 a2 cr);have a3:r.sec<E.st.length:=by rw [I];exact b2
      have cu:=zh (NL (q:={ q with os:=f }) (D:=E) (w:=w2.drew) (J.grew ((iW w2).drew)) a3 (L8 r n (E.at r.sec)) ct);have i:=J.blk;have y0:=J.st_cell (g:=gs) (cap:=cs) (by rw [I];exact ag.out) a3;simp only [ag.out] at i;have dk:gs<w2.heap.size:=by have:=z.size;omega
      have dn:q.x<w2.heap.size:=by have:=z.size;omega
      have cv:=zh (show r.data.extract 0 n++(E.at r.sec).extract n (E.at r.sec).size=L8 r n (E.at r.sec) from rfl);have ds:n<=r.data.size:=oo;have d0:n<=(E.at r.sec).size:=oo;have d1:r.data.size<=140:=oo;have d2:(E.at r.sec).size<=140:=oo;have x0:=i.cell 0;have v0:=U.cell 0;have v1:=U.cell 1;have v2:=U.cell 2;clear i a2 b4;generalize hEA:E.at r.sec=a at*
      go_upto_if 26 with fail
      go_cut [9] (λm wx=>m=.int .i64 (n:Int)/\w2=wx)
      case first=>
       by_cases hc:d<l.length
       . obtain ⟨b3,em,rfl,ep,s0⟩:=ZM ((ca.keptT (iX _) z (λhp b y e=>λhh=>hlA (by simpa using hp) b y e (hh.elim (λh=>.inr (.inl h)) (λh=>.inr (.inr (.inl h))))))) hc;have V:n=(min (max 0 l[d]) 140).toNat:=by rw [<-hn];unfold svN;rw [iu,iV hc];rfl
         have cw:=ce.out l[d] (ib hc);unfold okI at cw;clear hn;generalize l[d]=u at*
         by_cases h1:u<=0
         . obtain rfl:n=0:=oo;clear V;rcases Int.lt_or_eq_of_le h1 with h2 | rfl
           . go_wp2_with fail;go_meet;exact ⟨rfl,rfl⟩
           . go_wp2_with fail;go_meet;exact ⟨rfl,rfl⟩
         . by_cases h2:u<140
           . obtain rfl:u=(n:Int):=oo;clear V;go_wp2_with fail;go_meet;exact ⟨rfl,rfl⟩
           . obtain rfl:n=140:=oo;clear V;rcases Int.lt_or_eq_of_le (show (140:Int)<=u by omega) with h3 | rfl
             . go_wp2_with fail;go_meet;exact ⟨rfl,rfl⟩
             . go_wp2_with fail;go_meet;exact ⟨rfl,rfl⟩
       . obtain rfl:n=0:=by rw [<-hn];unfold svN;rw [iu,jb oo];rfl
         clear hn;go_wp2_with fail;go_meet;exact ⟨rfl,rfl⟩
      case rest=>
       obtain ⟨rfl,rfl⟩:=hcut;clear hn;go_wp2_with fail;refine AB [18] (λw':World=>w'.cell? ⟨wr.heap.size,1,none⟩=some (.int .i64 (r.sec:Int))/\w'.cell? ⟨wr.heap.size,2,none⟩=some (.string r.data)/\w'.cell? ⟨q.x,0,none⟩=some (.slice (some ⟨gs,0,none⟩) D.st.length cs)/\w'.cell? ⟨gs,r.sec,none⟩=some (.string a)) qk ?_;have hS:=(show (λw':World=>w'.cell? ⟨wr.heap.size,1,none⟩=some (.int .i64 (r.sec:Int))/\w'.cell? ⟨wr.heap.size,2,none⟩=some (.string r.data)/\w'.cell? ⟨q.x,0,none⟩=some (.slice (some ⟨gs,0,none⟩) D.st.length cs)/\w'.cell? ⟨gs,r.sec,none⟩=some (.string a)) w2.drew from ⟨v1,v2,x0,y0⟩);refine tQ 0 35 ?_;refine tQ 1 36 ?_;refine tT 2 (some 37) hS ?_;refine tQ 3 38 ?_;refine tT 4 (some 39) hS ?_;refine tQ 5 40 ?_;refine tQ 6 41 ?_;refine tQ 7 42 ?_;refine tT 8 (some 43) hS ?_;refine tQ 9 44 ?_;refine tT 10 (some 45) hS ?_;refine tQ 11 46 ?_;refine tT 12 (some 47) hS ?_;refine tQ 13 48 ?_;refine tT 14 (some 49) hS ?_;refine tQ 15 50 ?_;refine tQ 16 51 ?_;refine tQ 17 52 ?_
       try rw [cv.out]
       refine tO 18 λK' hK=>?_;go_wp2_with fail;refine cu.mono ?_;rintro e w3 ⟨rfl,bf,bk,Z,bl⟩;go_wp2_with fail;refine hK.out _ _ (.inl rfl) ?_;clear hK hS;refine AA qk ?_ _;have cx:=zh bk;have cy:=zh ((z.drew).trans Z);have cz:=zh (hKP _ _ a1 ((jD q.turns w2).drew.trans (Z.mono (λk _ hk=>.inr (hk.elim .inl (λh=>.inr (.inl h)))))))
       have c0:=zh (show ∀v∈bf,v∈q.os\/∃g,v.ownBlock=some g/\w.heap.size<=g from λv hv=>(bl v hv).elim (λh9=>R.out v h9) (λ⟨g,h1,h2⟩=>.inr ⟨g,h1,by
        have h5:w2.drew.heap.size=w2.heap.size:=rfl
        have h6:=z.size
        omega⟩))
       clear bk Z bl x0 y0 v0 v1 v2;go_wp2_with fail
       go_roundg (D.pend.length - (j+1))
       case measure=>rw [av.out];omega
       case rel=>exact ⟨j+1,bf,oo,oo,by go_num,by rw [H.out,B.out];go_num,by rw [H.out,B.out];exact cx.out,cy,cz,c0⟩
  . obtain rfl:j=D.pend.length:=oo;have K:=(af D.pend.length).out;rw [j1] at hd K;have L:DevM wr { q with os:=f } (Co D p (svN l) D.pend).1:=hd;have a4:=HT.out;have c1:=zh K;have M:=zh L;have s:=L.blk;have t:=L.pend;rw [K.pend] at t;have a5:=zh t
    have a6:=zh (show ∀(k:Nat) (vp':Value),(vp'.ownBlock=some k->q.vp.ownBlock=some k)->({ q with os:=f,vp:=vp' }:DevP).feet k->q.feet k\/w.heap.size<=k from λk vp' hvp' hk=>by
     rcases hk with hk | hk | hk | hk | hk | hk | ⟨v,hv,hk⟩
     . exact .inl (.inl hk)
     . exact .inl (.inr (.inl hk))
     . exact .inl (.inr (.inr (.inl hk)))
     . exact .inl (.inr (.inr (.inr (.inl hk))))
     . exact .inl (.inr (.inr (.inr (.inr (.inl (hvp' hk))))))
     . exact .inl (.inr (.inr (.inr (.inr (.inr (.inl hk))))))
     . rcases R.out v hv with h9 | ⟨g,h9,c9⟩
       . exact .inl (.inr (.inr (.inr (.inr (.inr (.inr ⟨v,h9,hk⟩))))))
       . rw [h9] at hk;injection hk with hk;subst hk;exact .inr c9)
    have a7:=zh (show Turned q.turns w wr from a4.mono (λk _ hk=>.inr (hk.elim .inl (λh=>.inr (.inl h)))));clear HD HT L a4 hd ht K t;rcases ci.out with ⟨Q,b5⟩ | ⟨g,cap,o,_,_,_,_⟩
    . have a8:D.pend=[]:=map_eq_nil_iff.1 b5;have a9:D.pend.length=0:=by rw [a8];rfl
      have G:=al.out;rw [Q,a9] at G;injection G with hA _ hc;subst hA;subst hc;have X:=s.cell 2;have d3:=s.frozen 2;simp only [Q] at X;have bb:=zh s;have c3:=zh Q;have bc:=zh a8;rw [a9];clear x2 s Q b5;go_wp2_with fail;refine (Qz bs wr).mono ?_;rintro e wx ⟨rfl,rfl⟩;go_wp2_with fail;go_end0;have N:=M.new_pend (jD _ _) (vp':=.slice none 0 0) (P':=[]) (by have:=a5.out;rw [bc.out] at this;simp only [c3.out] at this;exact this) (λr hr=>by cases hr);refine ⟨rfl,{ q with os:=f,vp:=.slice none 0 0 },?_,⟨rfl,rfl,λk hk=>a6 k _ (λh=>by cases h) hk⟩,a7.setCell (p:=⟨q.x,2,none⟩) (λ_=>.inl rfl) _⟩;rw [ap.out];have c4:(D.pend.filter λr=>!p r)=[]:=by rw [bc.out];rfl
      rw [c4];exact N
    . rw [JE] at o;have G:=al.out;rw [o] at G;injection G with hA _ hc;subst hA;subst hc;have X:=s.cell 2;simp only [o] at X;have t:=a5.out;simp only [o] at t;have c5:=zh (ch wr g cap S o t);have bb:=zh s;have d4:=zh o;have O:q.vp.ownBlock=some g:=by rw [o];rfl
      have c6:¬q.x=g:=λe=>M.pend.ne_blk M.blk qd (by show q.vp.ownBlock=_;rw [O];exact ix some e.symm);clear x2 s o t;go_wp2_with fail;refine c5.mono ?_;rintro e wx ⟨rfl,bt,P⟩;have i:=bb.turned P c6;have d5:=i.lt;have d6:=i.cell 2;have d7:=i.frozen 2;have N:=M.new_pend (w1:=wx) (P.mono (λk _ hk=>by rw [hk];exact O)) bt (λr hr=>by have:=an.out r (jV.1 hr).1;rw [c1.out.len];exact this);have c7:=zh N;have c8:=zh (show Turned q.turns w wx from a7.out.trans (P.mono (λk _ hk=>.inr (.inr (.inr (by rw [hk];exact O))))));clear P bt i N;go_wp2_with fail;go_end0;refine ⟨rfl,{ q with os:=f,vp:=.slice (some ⟨g,0,none⟩) (D.pend.filter λx=>!p x).length cap },?_,⟨rfl,rfl,λk hk=>a6 k _ (λh=>by rw [O];exact h) hk⟩,c8.setCell (p:=⟨q.x,2,none⟩) (λ_=>.inl rfl) _⟩;rw [ap.out];exact c7.out
end
section
variable {w:World} {q:DevP} {D:Dev} (h:DevM w q D) (p:Wr->Bool) (A2:Option Addr) (c2:Nat) (l:List Int) (KP:World->Prop) (hl:ListAt w w.heap.size 1 A2 (l.map DJ)) (hlA:0<l.length->∀b off,A2=some ⟨b,off,none⟩->¬q.turns b) (hlen:l.length<=9223372036854775807) (hlok:∀n∈l,okI n) (hsmall:D.pend.length<=1000000)
 (hKP:∀W W',KP W->Turned q.turns W W'->KP W') (hKG:∀W W',KP W->Grew W W'->KP W') (hkp:KP w)
 (hcall:∀W (r:Wr),KP W->Calls Tryz.prog 223 #[.agg #[.int .i64 r.sys,.int .i64 (r.sec:Int),.string r.data]] W λe w'=>e=.returned (.bool (p r))/\Grew W w')
include h hl hlA hlen hlok hsmall hKP hKG hkp hcall
theorem Mf:Calls Tryz.prog 195 #[.pointer (some ⟨q.x,0,none⟩),.func (.func 223) #[] #[],.slice A2 l.length c2] w λe w'=>e=.returned (.tuple #[])/\∃q',DevM w' q' (Bs D p (svN l))/\Foot' w q q'/\Turned q.turns w w':=by
 obtain ⟨gs,cs,ad,d7,ea,eb,ee⟩:=h.st_form;obtain ⟨A,c,C,eg,eh,bt⟩:=h.pend_list;have hk:=h.blk;rw [ad,C] at hk;have c9:=hk.lt;have x2:=hk.cell 2;have HH:=zh h;have b5:=λW r hk=>zh (hcall W r hk);have af:=λj=>zh (Lz h.ok p (svN l) (Qk l) (D.pend.take j) (λr hr=>jw hr));have ag:=zh ad;have al:=zh C;have b9:=zh hl;have ca:=zh bt;have cb:=zh hkp;have cc:=zh hlok;have an:=zh h.ok.pend
 have ce:=zh (show ∀b y,A=some ⟨b,y,none⟩->¬(q.vs.ownBlock=some b\/q.vo.ownBlock=some b) from λb y e hh=>by
  have hb:q.vp.ownBlock=some b:=by
   rcases h.pend.form with ⟨hv,_⟩ | ⟨g,cap,hv,_⟩
   . rw [C] at hv;injection hv with hv _ _;rw [hv] at e;cases e
   . rw [C] at hv;injection hv with hv _ _;rw [hv] at e;injection e with e;injection e with e _ _;rw [C,hv,e];rfl
  rcases hh with hh | hh
  . exact Aj h.st h.pend qd b hh hb
  . exact Aj h.old h.pend qd b hh hb)
 have ap:=zh (show Bs D p (svN l)={ (Co D p (svN l) D.pend).1 with pend:=D.pend.filter λr=>!p r } from rfl)
 have cf:=zh (show ∀(W:World) g cap,KP W->q.vp=.slice (some ⟨g,0,none⟩) D.pend.length cap->OwnL W 0 285 3 (.slice (some ⟨g,0,none⟩) D.pend.length cap) (D.pend.map B2)->Calls Tryz.prog 225 #[.slice (some ⟨g,0,none⟩) D.pend.length cap,.func (.func 223) #[] #[]] W λe w'=>
  e=.returned (.slice (some ⟨g,0,none⟩) (D.pend.filter λx=>!p x).length cap)/\OwnL w' 0 285 3 (.slice (some ⟨g,0,none⟩) (D.pend.filter λx=>!p x).length cap) ((D.pend.filter λx=>!p x).map B2)/\Turned (λk=>k=g) W w' from λW g cap hk hv ho=>
  OK p D.pend g D.pend.length cap KP rfl hsmall (λW W' h1 h2=>hKP W W' h1 (h2.mono (λk _ hk=>.inr (.inr (.inr (by rw [hv,hk];rfl)))))) hKG hcall W ho hk)
 have ch:=zh h.pend.form;have da:D.st.length<=1155:=h.ok.lim;clear h ad C hcall hl bt hkp hlok;go_enter Tryz.func195,Tryz.ntmps195;go_wp2_with fail
 go_loopg [6,15] D.pend.length (λgk nv iv wr=>∃(j:Nat) (f:List Value),j<=D.pend.length/\gk=D.pend.length - j/\iv=.int .i64 (j:Int)/\nv=.int .i64 ((Co D p (svN l) (D.pend.take j)).2:Int)/\DevM wr { q with os:=f } (Co D p (svN l) (D.pend.take j)).1/\Turned (λk=>q.vs.ownBlock=some k\/q.vo.ownBlock=some k) w wr/\KP wr/\(∀v∈f,v∈q.os\/∃g,v.ownBlock=some g/\w.heap.size<=g))
 case atStart=>exact ⟨0,q.os,jL _,rfl,rfl,rfl,HH,jD _ _,cb,λv hv=>.inl hv⟩
 case round=>
  obtain ⟨j,f,hj,bv,rfl,rfl,hd,ht,bx,b0⟩:=hrel;have av:=zh bv;have HD:=zh hd;have R:=zh b0;have S:=zh bx;have HT:=zh ht;have dd:q.x<wr.heap.size:=by have:=ht.size;omega
  clear bv b0 bx;by_cases Y:j<D.pend.length
  . obtain ⟨b,y,rfl,ej,z0,z1,z2⟩:=ZY (ca.keptT (iX _) ht (λ_ b y e=>ce b y e)) Y;have ci:=zh (an D.pend[j] (ib Y));have H:=zh (L4 D p (svN l) D.pend j Y);have aw:=NY D p (svN l) (D.pend.take j);have cl:(Co D p (svN l) (D.pend.take j)).2<=j:=by rw [aw];exact ij (j5 _ _) (by rw [je];omega)
    have T:=(af j).out;have I:=T.len;clear aw hd ht;generalize D.pend[j]=r at*
    generalize hE:Co D p (svN l) (D.pend.take j)=E at*
    obtain ⟨E,d⟩:=E;simp only at cl T I;have HE:=zh hE;clear hE;have F:=(iW wr).alloc (.cells #[.int .i64 r.sys,.int .i64 (r.sec:Int),.string r.data] 285);have HC:=zh (b5 _ r (hKG _ _ S F)).out;have a0:=ik wr 285 #[.int .i64 r.sys,.int .i64 (r.sec:Int),.string r.data] rfl;have cn:=zh (HD.grew F);have co:=zh (HT.andGrew F);have cp:=zh (hKG _ _ S F);clear F;go_wp2_with fail;refine HC.mono ?_;rintro e w2 ⟨rfl,g2⟩;have J:=zh (cn.grew g2);have z:=zh (co.andGrew g2);have a1:=zh (hKG _ _ cp g2);have U:=a0.grew g2;have hz:=g2.size;simp at hz;clear g2 a0 z0 z1 z2;cases hq:p r with
    | false=>
      have HQ:=zh hq;have B:=zh (show AV p (svN l) (E,d) r=(E,d) from by unfold AV;rw [hq];rfl);clear hq;go_wp2_with fail
      go_roundg (D.pend.length - (j+1))
      case measure=>rw [av.out];omega
      case rel=>exact ⟨j+1,f,oo,oo,by go_num,by rw [H.out,B.out],by rw [H.out,B.out];exact J.out,z,a1,R⟩
    | true=>
      have HQ:=zh hq;have B:=zh (show AV p (svN l) (E,d) r=(AR E r.sec (L8 r (svN l d) (E.at r.sec)),d+1) from by unfold AV;rw [hq];rfl);clear hq;obtain ⟨b1,b2,_⟩:=ci.out;obtain ⟨n,hn⟩:∃n,svN l d=n:=⟨_,rfl⟩;have cq:n<=140:=by rw [<-hn];exact Qk l d
      rw [hn] at B;have a2:=IG T.ok (show r.sec<E.st.length by rw [I];exact b1);have cr:=zh (LU (r:=r) (n:=n) b2 a2 cq);have a3:r.sec<E.st.length:=by rw [I];exact b1
      have ct:=zh (NL (q:={ q with os:=f }) (D:=E) (w:=w2.drew) (J.grew ((iW w2).drew)) a3 (L8 r n (E.at r.sec)) cr);have i:=J.blk;have y0:=J.st_cell (g:=gs) (cap:=cs) (by rw [I];exact ag.out) a3;simp only [ag.out] at i;have df:gs<w2.heap.size:=by have:=z.size;omega
      have dk:q.x<w2.heap.size:=by have:=z.size;omega
      have cu:=zh (show r.data.extract 0 n++(E.at r.sec).extract n (E.at r.sec).size=L8 r n (E.at r.sec) from rfl);have dn:n<=r.data.size:=oo;have ds:n<=(E.at r.sec).size:=oo;have d0:r.data.size<=140:=oo;have d1:(E.at r.sec).size<=140:=oo;have x0:=i.cell 0;have v0:=U.cell 0;have v1:=U.cell 1;have v2:=U.cell 2;clear i a2 b2;generalize hEA:E.at r.sec=a at*
      go_upto_if 26 with fail
      go_cut [9] (λm wx=>m=.int .i64 (n:Int)/\w2=wx)
      case first=>
       by_cases hc:d<l.length
       . obtain ⟨b3,ek,rfl,em,s0⟩:=ZM ((b9.keptT (iX _) z (λhp b y e=>λhh=>hlA (by simpa using hp) b y e (hh.elim (λh=>.inr (.inl h)) (λh=>.inr (.inr (.inl h))))))) hc;have V:n=(min (max 0 l[d]) 140).toNat:=by rw [<-hn];unfold svN;rw [iu,iV hc];rfl
         have cv:=cc.out l[d] (ib hc);unfold okI at cv;clear hn;generalize l[d]=u at*
         by_cases h1:u<=0
         . obtain rfl:n=0:=oo;clear V;rcases Int.lt_or_eq_of_le h1 with h2 | rfl
           . go_wp2_with fail;go_meet;exact ⟨rfl,rfl⟩
           . go_wp2_with fail;go_meet;exact ⟨rfl,rfl⟩
         . by_cases h2:u<140
           . obtain rfl:u=(n:Int):=oo;clear V;go_wp2_with fail;go_meet;exact ⟨rfl,rfl⟩
           . obtain rfl:n=140:=oo;clear V;rcases Int.lt_or_eq_of_le (show (140:Int)<=u by omega) with h3 | rfl
             . go_wp2_with fail;go_meet;exact ⟨rfl,rfl⟩
             . go_wp2_with fail;go_meet;exact ⟨rfl,rfl⟩
       . obtain rfl:n=0:=by rw [<-hn];unfold svN;rw [iu,jb oo];rfl
         clear hn;go_wp2_with fail;go_meet;exact ⟨rfl,rfl⟩
      case rest=>
       obtain ⟨rfl,rfl⟩:=hcut;clear hn;go_wp2_with fail;refine AB [18] (λw':World=>w'.cell? ⟨wr.heap.size,1,none⟩=some (.int .i64 (r.sec:Int))/\w'.cell? ⟨wr.heap.size,2,none⟩=some (.string r.data)/\w'.cell? ⟨q.x,0,none⟩=some (.slice (some ⟨gs,0,none⟩) D.st.length cs)/\w'.cell? ⟨gs,r.sec,none⟩=some (.string a)) qk ?_;have hS:=(show (λw':World=>w'.cell? ⟨wr.heap.size,1,none⟩=some (.int .i64 (r.sec:Int))/\w'.cell? ⟨wr.heap.size,2,none⟩=some (.string r.data)/\w'.cell? ⟨q.x,0,none⟩=some (.slice (some ⟨gs,0,none⟩) D.st.length cs)/\w'.cell? ⟨gs,r.sec,none⟩=some (.string a)) w2.drew from ⟨v1,v2,x0,y0⟩);refine tQ 0 35 ?_;refine tQ 1 36 ?_;refine tT 2 (some 37) hS ?_;refine tQ 3 38 ?_;refine tT 4 (some 39) hS ?_;refine tQ 5 40 ?_;refine tQ 6 41 ?_;refine tQ 7 42 ?_;refine tT 8 (some 43) hS ?_;refine tQ 9 44 ?_;refine tT 10 (some 45) hS ?_;refine tQ 11 46 ?_;refine tT 12 (some 47) hS ?_;refine tQ 13 48 ?_;refine tT 14 (some 49) hS ?_;refine tQ 15 50 ?_;refine tQ 16 51 ?_;refine tQ 17 52 ?_
       try rw [cu.out]
       refine tO 18 λK' hK=>?_;go_wp2_with fail;refine ct.mono ?_;rintro e w3 ⟨rfl,bf,bk,Z,bl⟩;go_wp2_with fail;refine hK.out _ _ (.inl rfl) ?_;clear hK hS;refine AA qk ?_ _;have cw:=zh bk;have cx:=zh ((z.drew).trans Z);have cy:=zh (hKP _ _ a1 ((jD q.turns w2).drew.trans (Z.mono (λk _ hk=>.inr (hk.elim .inl (λh=>.inr (.inl h)))))))
       have cz:=zh (show ∀v∈bf,v∈q.os\/∃g,v.ownBlock=some g/\w.heap.size<=g from λv hv=>(bl v hv).elim (λh9=>R.out v h9) (λ⟨g,h1,h2⟩=>.inr ⟨g,h1,by
        have h5:w2.drew.heap.size=w2.heap.size:=rfl
        have h6:=z.size
        omega⟩))
       clear bk Z bl x0 y0 v0 v1 v2;go_wp2_with fail
       go_roundg (D.pend.length - (j+1))
       case measure=>rw [av.out];omega
       case rel=>exact ⟨j+1,bf,oo,oo,by go_num,by rw [H.out,B.out];go_num,by rw [H.out,B.out];exact cw.out,cx,cy,cz⟩
  . obtain rfl:j=D.pend.length:=oo;have K:=(af D.pend.length).out;rw [j1] at hd K;have L:DevM wr { q with os:=f } (Co D p (svN l) D.pend).1:=hd;have a4:=HT.out;have c0:=zh K;have M:=zh L;have s:=L.blk;have t:=L.pend;rw [K.pend] at t;have a5:=zh t
    have a6:=zh (show ∀(k:Nat) (vp':Value),(vp'.ownBlock=some k->q.vp.ownBlock=some k)->({ q with os:=f,vp:=vp' }:DevP).feet k->q.feet k\/w.heap.size<=k from λk vp' hvp' hk=>by
     rcases hk with hk | hk | hk | hk | hk | hk | ⟨v,hv,hk⟩
     . exact .inl (.inl hk)
     . exact .inl (.inr (.inl hk))
     . exact .inl (.inr (.inr (.inl hk)))
     . exact .inl (.inr (.inr (.inr (.inl hk))))
     . exact .inl (.inr (.inr (.inr (.inr (.inl (hvp' hk))))))
     . exact .inl (.inr (.inr (.inr (.inr (.inr (.inl hk))))))
     . rcases R.out v hv with h9 | ⟨g,h9,c8⟩
       . exact .inl (.inr (.inr (.inr (.inr (.inr (.inr ⟨v,h9,hk⟩))))))
       . rw [h9] at hk;injection hk with hk;subst hk;exact .inr c8)
    have a7:=zh (show Turned q.turns w wr from a4.mono (λk _ hk=>.inr (hk.elim .inl (λh=>.inr (.inl h)))));clear HD HT L a4 hd ht K t;rcases ch.out with ⟨Q,b4⟩ | ⟨g,cap,o,_,_,_,_⟩
    . have a8:D.pend=[]:=map_eq_nil_iff.1 b4;have a9:D.pend.length=0:=by rw [a8];rfl
      have G:=al.out;rw [Q,a9] at G;injection G with hA _ hc;subst hA;subst hc;have X:=s.cell 2;have d2:=s.frozen 2;simp only [Q] at X;have bb:=zh s;have c1:=zh Q;have bc:=zh a8;rw [a9];clear x2 s Q b4;go_wp2_with fail;refine (OZ wr).mono ?_;rintro e wx ⟨rfl,rfl⟩;go_wp2_with fail;go_end0;have N:=M.new_pend (jD _ _) (vp':=.slice none 0 0) (P':=[]) (by have:=a5.out;rw [bc.out] at this;simp only [c1.out] at this;exact this) (λr hr=>by cases hr);refine ⟨rfl,{ q with os:=f,vp:=.slice none 0 0 },?_,⟨rfl,rfl,λk hk=>a6 k _ (λh=>by cases h) hk⟩,a7.setCell (p:=⟨q.x,2,none⟩) (λ_=>.inl rfl) _⟩;rw [ap.out];have c3:(D.pend.filter λr=>!p r)=[]:=by rw [bc.out];rfl
      rw [c3];exact N
    . rw [JE] at o;have G:=al.out;rw [o] at G;injection G with hA _ hc;subst hA;subst hc;have X:=s.cell 2;simp only [o] at X;have t:=a5.out;simp only [o] at t;have c4:=zh (cf wr g cap S o t);have bb:=zh s;have d3:=zh o;have O:q.vp.ownBlock=some g:=by rw [o];rfl
      have c5:¬q.x=g:=λe=>M.pend.ne_blk M.blk qd (by show q.vp.ownBlock=_;rw [O];exact ix some e.symm);clear x2 s o t;go_wp2_with fail;refine c4.mono ?_;rintro e wx ⟨rfl,bs,P⟩;have i:=bb.turned P c5;have d4:=i.lt;have d5:=i.cell 2;have d6:=i.frozen 2;have N:=M.new_pend (w1:=wx) (P.mono (λk _ hk=>by rw [hk];exact O)) bs (λr hr=>by have:=an.out r (jV.1 hr).1;rw [c0.out.len];exact this);have c6:=zh N;have c7:=zh (show Turned q.turns w wx from a7.out.trans (P.mono (λk _ hk=>.inr (.inr (.inr (by rw [hk];exact O))))));clear P bs i N;go_wp2_with fail;go_end0;refine ⟨rfl,{ q with os:=f,vp:=.slice (some ⟨g,0,none⟩) (D.pend.filter λx=>!p x).length cap },?_,⟨rfl,rfl,λk hk=>a6 k _ (λh=>by rw [O];exact h) hk⟩,c7.setCell (p:=⟨q.x,2,none⟩) (λ_=>.inl rfl) _⟩;rw [ap.out];exact c6.out
end

def Did (w w':World) (q:DevP) (D:Dev):Prop:=∃q',DevM w' q' D/\Foot' w q q'/\Turned q.feet w w'
theorem Did.same {w w':World} {q:DevP} {D:Dev} (h:DevM w q D) (hg:Grew w w'):Did w w' q D:=⟨q,h.grew hg,Foot'.refl _ _,hg.turned _⟩
theorem Foot'.feetT {w w1 w2:World} {q q1:DevP} (f:Foot' w q q1) (ht:Turned q.feet w w1) (k:Turned q1.feet w1 w2):Turned q.feet w w2:=
 ht.next k (λi hi h=>(f.feet i h).elim id (λh9=>absurd hi oo))
theorem Did.trans {w w1 w2:World} {q q1:DevP} {D2:Dev} (f:Foot' w q q1) (ht:Turned q.feet w w1) (k:Did w1 w2 q1 D2):Did w w2 q D2:=by
 obtain ⟨q2,h2,f2,t2⟩:=k;exact ⟨q2,h2,f.trans f2 ht.size,f.feetT ht t2⟩
theorem DevM.rex {w w':World} {q:DevP} {D:Dev} (h:DevM w q D) (ht:Turned (λk=>k=q.x) w w') (se:Bool) (le:Int) (sl:List Int) (vsv:Value) (fa:Bool) (fu:Option (Nat × List Int))
 (hb:Blk w' q.x 192 #[q.vs,q.vo,q.vp,.map (some q.m),.bool se,.int .i64 le,vsv,.bool fa]) (c:OwnL w' 0 3 1 vsv (sl.map DJ)) (b:fu=if se then some (le.toNat,sl) else none)
 (d:0<=le/\le<=9223372036854775807) (a:(∀n∈sl,okI n)/\sl.length<=1000000):DevM w' { q with set:=se,left:=le,svl:=sl,vsv:=vsv } { D with failed:=fa,fuse:=fu }:=by
 have hx:=h.blk
 refine ⟨hb,h.st.kept ht (λg hg e=>h.st.ne_blk hx qd (by rw [hg,e])),h.old.kept ht (λg hg e=>h.old.ne_blk hx qd (by rw [hg,e])),h.olen,λj v l hv hl=>?_,h.pend.kept ht (λg hg e=>h.pend.ne_blk hx qd (by rw [hg,e])),c,
  h.map.turned ht (λe=>Ch hx h.map e.symm),h.fen,b,d,a,⟨h.ok.len,h.ok.pos,h.ok.lim,h.ok.st,h.ok.old,h.ok.pend,h.ok.fen⟩⟩
 obtain ⟨h5,h6⟩:=h.each j v l hv hl;exact ⟨h5.kept ht (λg hg e=>h5.ne_blk hx qd (by rw [hg,e])),h6⟩
theorem Kj (w:World) (q:DevP) (se:Bool) (le:Int) (sl:List Int) (vsv:Value) (hv:∀k,vsv.ownBlock=some k->q.vsv.ownBlock=some k\/w.heap.size<=k):Foot' w q { q with set:=se,left:=le,svl:=sl,vsv:=vsv }:=by
 refine ⟨rfl,rfl,λk hk=>?_⟩;rcases hk with hk | hk | hk | hk | hk | hk | hk
 . exact .inl (.inl hk)
 . exact .inl (.inr (.inl hk))
 . exact .inl (.inr (.inr (.inl hk)))
 . exact .inl (.inr (.inr (.inr (.inl hk))))
 . exact .inl (.inr (.inr (.inr (.inr (.inl hk)))))
 . exact (hv k hk).elim (λh=>.inl (.inr (.inr (.inr (.inr (.inr (.inl h))))))) .inr
 . exact .inl (.inr (.inr (.inr (.inr (.inr (.inr hk))))))
theorem DevM.sv_list {w:World} {q:DevP} {D:Dev} (h:DevM w q D):∃A c,q.vsv=.slice A q.svl.length c/\q.svl.length<=9223372036854775807/\ListAt w w.heap.size 1 A (q.svl.map DJ)/\∀b off,A=some ⟨b,off,none⟩->¬q.turns b:=by
 obtain ⟨A,c,hv,h1,h2,h3⟩:=h.sv.listAt;rw [iY] at hv h1;refine ⟨A,c,hv,oo,h3,λb off e hb=>?_⟩;have a:q.vsv.ownBlock=some b:=by rw [hv,e];rfl
 rcases hb with rfl | hb | hb | hb
 . exact h.sv.ne_blk h.blk qd a
 . exact Aj h.st h.sv qd b hb a
 . exact Aj h.old h.sv qd b hb a
 . exact Aj h.pend h.sv qd b hb a
theorem Lu (D:Dev) (p:Wr->Bool) (sv:Nat->Nat) (fa:Bool) (fu:Option (Nat × List Int)):Bs { D with failed:=fa,fuse:=fu } p sv={ Bs D p sv with failed:=fa,fuse:=fu }:=by
 have hc:∀(E:Dev) i s,AR { E with failed:=fa,fuse:=fu } i s={ AR E i s with failed:=fa,fuse:=fu }:=by
  intro E i s;by_cases hh:E.at i=s
  . have h1:AR { E with failed:=fa,fuse:=fu } i s={ E with failed:=fa,fuse:=fu }:=by unfold AR;exact if_pos hh
    have h2:AR E i s=E:=by unfold AR;exact if_pos hh
    rw [h1,h2]
  . have h1:AR { E with failed:=fa,fuse:=fu } i s={ E with failed:=fa,fuse:=fu,st:=E.st.set i s,old:=E.old.set i ((E.at i::E.olds i).take 8) }:=by unfold AR;exact if_neg hh
    have h2:AR E i s={ E with st:=E.st.set i s,old:=E.old.set i ((E.at i::E.olds i).take 8) }:=by unfold AR;exact if_neg hh
    rw [h1,h2]
 have a:∀(l:List Wr) (E:Dev) (k:Nat),l.foldl (AV p sv) ({ E with failed:=fa,fuse:=fu },k)=({ (l.foldl (AV p sv) (E,k)).1 with failed:=fa,fuse:=fu },(l.foldl (AV p sv) (E,k)).2):=by
  intro l
  induction l with
  | nil=>intro E k;rfl
  | cons r l ih=>
    intro E k;rw [foldl_cons,foldl_cons]
    have he:AV p sv ({ E with failed:=fa,fuse:=fu },k) r=({ (AV p sv (E,k) r).1 with failed:=fa,fuse:=fu },(AV p sv (E,k) r).2):=by
     unfold AV;cases p r with
     | true=>simp only [if_true];rw [hc];rfl
     | false=>rfl
    rw [he,ih]
 unfold Bs Co;show ({ (D.pend.foldl (AV p sv) ({ D with failed:=fa,fuse:=fu },0)).1 with pend:=_ }:Dev)=_;rw [a]
theorem cA (w:World):(zeroValue 3).run Tryz.prog w=.ok (.int .i64 0) w:=qk
def fh (v:Option Value) (f:Int) (b:Bool):Prop:=(b=false/\f=0/\v=none)\/(b=true/\okI f/\v=some (.int .i64 f))
theorem Z7 {w:World} {m:Nat} {F:Int->Option Value} (hm:MapI w m F) {s f:Int} {b:Bool} (hs:okI s) (h:fh (F s) f b):(Instr.lookup 187 (.map (some m)) (.int .i64 s) true).run Tryz.prog w=.ok (.tuple #[.int .i64 f,.bool b]) w:=by
 obtain ⟨kl,a⟩:=Fd s hs;have:=hm.lookup_ok BH Bx Tryz.underlying187 (cA _) s a;rcases h with ⟨rfl,rfl,hv⟩ | ⟨rfl,_,hv⟩
 . rw [hv] at this;exact this
 . rw [hv] at this;exact this
theorem DevM.fence {w:World} {q:DevP} {D:Dev} (h:DevM w q D) {s:Int} (h1:1<=s) (h2:s<=4):∃f b,okI f/\fh (q.E s) f b/\(b=false->D.fen s=0)/\(b=true->D.fen s=bw f):=by
 rcases h.fen s h1 h2 with ⟨he,hf⟩ | ⟨e,ho,he,hf⟩
 . exact ⟨0,false,by unfold okI;omega,.inl ⟨rfl,rfl,he⟩,λ_=>hf,λh=>(by cases h)⟩
 . exact ⟨e,true,ho,.inr ⟨rfl,ho,he⟩,λh=>(by cases h),λ_=>hf⟩
theorem OV {D:Dev} {s e:Int} (h:D.failed=true):Ah D s e=(D,10):=by unfold Ah;rw [if_pos h]
theorem OY {D:Dev} {s e:Int} (h:D.failed=false) (hf:e<D.fen s):Ah D s e=(D,13):=by unfold Ah;rw [if_neg (by rw [h];decide),if_pos hf]
theorem TD {D:Dev} {s e:Int} (h:D.failed=false) (hf:¬e<D.fen s) (hn:D.fuse=none):Ah D s e=(D,0):=by
 unfold Ah JZ;rw [if_neg (by rw [h];decide),if_neg hf,hn];rfl
theorem RA {D:Dev} {s e:Int} {n:Nat} {l:List Int} (h:D.failed=false) (hf:¬e<D.fen s) (hn:D.fuse=some (n+1,l)):Ah D s e=({ D with fuse:=some (n,l) },0):=by
 unfold Ah JZ;rw [if_neg (by rw [h];decide),if_neg hf,hn];rfl
theorem Sq {D:Dev} {s e:Int} {l:List Int} (h:D.failed=false) (hf:¬e<D.fen s) (hn:D.fuse=some (0,l)):Ah D s e=({ Bs D (λ_=>true) (svN l) with failed:=true,fuse:=none },10):=by
 unfold Ah JZ;rw [if_neg (by rw [h];decide),if_neg hf,hn];rfl
def fm (w:World) (q:DevP) (D:Dev) (e f:Int) (b:Bool) (er:Ending) (w':World):Prop:=
 ((b=true/\e<=f)/\er=.returned (.int .i64 13)/\Grew w w')\/
 (¬(b=true/\e<=f)/\((q.set=false/\er=.returned (.int .i64 0)/\Grew w w')\/
   (q.set=true/\0<q.left/\er=.returned (.int .i64 0)/\Did w w' q { D with failed:=false,fuse:=some ((q.left - 1).toNat,q.svl) })\/
   (q.set=true/\q.left=0/\er=.returned (.int .i64 10)/\Did w w' q { Bs D (λ_=>true) (svN q.svl) with failed:=true,fuse:=none })))
section
variable {w:World} {q:DevP} {D:Dev} (h:DevM w q D) (s e:Int)
include h
omit h in
theorem Po (w:World) (s e:Int):Calls Tryz.prog 192 #[.agg #[.int .i64 s,.int .i64 e]] w λer w'=>er=.returned (.bool (DA s e))/\Grew w w':=by
 have HB:=zh (show DA s e=decide (1<=s/\s<=4/\0<=e/\e<=1099511627776) from rfl);generalize DA s e=b at*
 by_cases h1:1<=s
 . by_cases h2:s<=4
   . by_cases h3:0<=e
     . by_cases h4:e<=1099511627776
       . go_enter Tryz.func192,Tryz.ntmps192;go_wp2_with fail;go_ret;exact ⟨DB (by rw [HB.out,iq oo]),gG⟩
       . go_enter Tryz.func192,Tryz.ntmps192;go_wp2_with fail;go_ret;exact ⟨DB (by rw [HB.out,ir oo]),gG⟩
     . go_enter Tryz.func192,Tryz.ntmps192;go_wp2_with fail;go_ret;exact ⟨DB (by rw [HB.out,ir oo]),gG⟩
   . go_enter Tryz.func192,Tryz.ntmps192;go_wp2_with fail;go_ret;exact ⟨DB (by rw [HB.out,ir oo]),gG⟩
 . go_enter Tryz.func192,Tryz.ntmps192;go_wp2_with fail;go_ret;exact ⟨DB (by rw [HB.out,ir oo]),gG⟩
theorem QF (hf:D.failed=true):Calls Tryz.prog 194 #[.pointer (some ⟨q.x,0,none⟩),.agg #[.int .i64 s,.int .i64 e]] w λer w'=>er=.returned (.int .i64 10)/\Grew w w':=by
 have hk:=h.blk.alloc (.cells #[.int .i64 s,.int .i64 e] 88);rw [hf] at hk;have a:=h.blk.lt;have x7:=hk.cell 7;clear h hk;go_enter Tryz.func194,Tryz.ntmps194;go_wp2_with fail;go_ret;exact ⟨rfl,gG⟩
theorem UF (hf:D.failed=false) (hp:DA s e=true) (Q:D.pend.length<=1000000) (f:Int) (b:Bool) (af:okI f) (R:fh (q.E s) f b):
 Calls Tryz.prog 194 #[.pointer (some ⟨q.x,0,none⟩),.agg #[.int .i64 s,.int .i64 e]] w (fm w q D e f b):=by
 have aw:=jC hp;have hk:=h.blk.alloc (.cells #[.int .i64 s,.int .i64 e] 88);rw [hf] at hk;obtain ⟨A2,c2,P,av,Y,Z⟩:=h.sv_list;rw [P] at hk;have ag:=h.blk.lt;have a0:=h.left;have I:=ik w 88 #[.int .i64 s,.int .i64 e] rfl;have al:okI s:=by unfold okI;omega
 have S:=zh (show ∀W,MapI W q.m q.E->(Instr.lookup 187 (.map (some q.m)) (.int .i64 s) true).run Tryz.prog W=.ok (.tuple #[.int .i64 f,.bool b]) W from λW hm=>Z7 hm al R);have J:=h.map.alloc (.cells #[.int .i64 s,.int .i64 e] 88);have hG:=(iW w).alloc (.cells #[.int .i64 s,.int .i64 e] 88);have HH:=zh h;have an:=zh P;have T:=zh Y;have U:=zh av;have B:=zh Z;have C:(((b=true/\e<=f))\/(b=true/\f<e)\/b=false):=by cases b<;>simp<;>omega
 have K:=hk.cell 3;have ap:=hk.cell 7;have F:=I.cell 0;have V:=I.cell 1;unfold okI at af;have HF:=zh hf;clear h P Y Z hp R hf;rcases C with ⟨rfl,ad⟩ | C
 . have hS:(λw':World=>w'.cell? ⟨w.heap.size,0,none⟩=some (.int .i64 s)/\w'.cell? ⟨q.x,3,none⟩=some (.map (some q.m))/\(Instr.lookup 187 (.map (some q.m)) (.int .i64 s) true).run Tryz.prog w'=.ok (.tuple #[.int .i64 f,.bool true]) w') (w.alloc (.cells #[.int .i64 s,.int .i64 e] 88)).drew:=⟨F,K,S _ J.drew⟩;go_enter Tryz.func194,Tryz.ntmps194;go_wp2_with fail;refine AB [] (λw':World=>w'.cell? ⟨w.heap.size,0,none⟩=some (.int .i64 s)/\w'.cell? ⟨q.x,3,none⟩=some (.map (some q.m))/\(Instr.lookup 187 (.map (some q.m)) (.int .i64 s) true).run Tryz.prog w'=.ok (.tuple #[.int .i64 f,.bool true]) w') qk ?_;refine tQ 0 13 ?_;refine tT 1 (some 14) hS ?_;refine tQ 2 15 ?_;refine tT 3 (some 16) hS ?_;refine tQ 4 17 ?_;refine tT 5 (some 18) hS ?_;refine tT 6 (some 19) hS ?_;refine tQ 7 12 ?_;refine tQ 8 20 ?_;refine tQ 9 21 ?_;refine tQ 10 5 ?_;refine tQ 11 6 ?_;refine AA qk ?_ _;clear hS;go_wp2_with fail;go_ret;exact .inl ⟨⟨by first | rfl | trivial,ad⟩,rfl,gG⟩
 . have a1:=zh (show ¬(b=true/\e<=f) from by rcases C with ⟨rfl,h⟩ | rfl<;>simp<;>omega);have hS:(λw':World=>w'.cell? ⟨w.heap.size,0,none⟩=some (.int .i64 s)/\w'.cell? ⟨q.x,3,none⟩=some (.map (some q.m))/\(Instr.lookup 187 (.map (some q.m)) (.int .i64 s) true).run Tryz.prog w'=.ok (.tuple #[.int .i64 f,.bool b]) w') (w.alloc (.cells #[.int .i64 s,.int .i64 e] 88)).drew:=⟨F,K,S _ J.drew⟩;go_enter Tryz.func194,Tryz.ntmps194;go_wp2_with fail;refine AB [] (λw':World=>w'.cell? ⟨w.heap.size,0,none⟩=some (.int .i64 s)/\w'.cell? ⟨q.x,3,none⟩=some (.map (some q.m))/\(Instr.lookup 187 (.map (some q.m)) (.int .i64 s) true).run Tryz.prog w'=.ok (.tuple #[.int .i64 f,.bool b]) w') qk ?_;refine tQ 0 13 ?_;refine tT 1 (some 14) hS ?_;refine tQ 2 15 ?_;refine tT 3 (some 16) hS ?_;refine tQ 4 17 ?_;refine tT 5 (some 18) hS ?_;refine tT 6 (some 19) hS ?_;refine tQ 7 12 ?_;refine tQ 8 20 ?_;refine tQ 9 21 ?_;refine tQ 10 5 ?_;refine tQ 11 6 ?_;refine AA qk ?_ _;clear hS;have hh:=(HH.grew hG).grew (iW _).drew;have L:=hG.drew;obtain ⟨w1,A⟩:∃w1,w1=(w.alloc (.cells #[.int .i64 s,.int .i64 e] 88)).drew:=⟨_,rfl⟩;rw [<-A] at hh L ⊢;have c:=hh.blk;rw [HF.out,an.out] at c;have G:=c.cell 4;have X:=c.cell 5;have a2:=c.cell 6;have ap:=c.cell 7;have a3:=c.frozen 4;have a4:=c.frozen 5;have a5:=c.frozen 6;have a6:=c.frozen 7;replace F:=(show w1.cell? ⟨w.heap.size,0,none⟩=some (.int .i64 s) by rw [A];exact F);replace V:=(show w1.cell? ⟨w.heap.size,1,none⟩=some (.int .i64 e) by rw [A];exact V);have a7:=c.lt;have a:=zh L;have H:=zh hh;have a8:w.heap.size<w1.heap.size:=by rw [A];show w.heap.size<(w.alloc _).heap.size;simp
   clear A c K J hG I hk ag hh L;rcases C with ⟨rfl,ad⟩ | rfl
   . cases g:q.set with
     | false=>
       rw [g] at G;go_wp2_with fail;go_ret;exact .inr ⟨(by first | (intro hh;exact absurd hh.1 qd) | (intro hh;have:=hh.2;omega)),.inl ⟨by first | rfl | trivial,rfl,a⟩⟩
     | true=>
       rw [g] at G;have j:=zh g;clear g;by_cases O:0<q.left
       . have l:-9223372036854775808<=q.left - 1/\q.left - 1<=9223372036854775807:=oo;go_wp2_with fail;go_ret;have hh:=H.out;have hr:=hh.rex (w':=w1.setCell ⟨q.x,5,none⟩ (.int .i64 (q.left - 1))) ((jD (λk=>k=q.x) w1).setCell (p:=⟨q.x,5,none⟩) (λ_=>rfl) _) true (q.left - 1) q.svl q.vsv false (some ((q.left - 1).toNat,q.svl))
          ((hh.blk.set_ 5 _).conv (by rw [j.out,HF.out];rfl)) (hh.sv.far (p:=⟨q.x,5,none⟩) (hh.sv.ne_blk hh.blk qd) _) rfl oo hh.svok
         exact .inr ⟨(by first | (intro hh;exact absurd hh.1 qd) | (intro hh;have:=hh.2;omega)),.inr (.inl ⟨j,O,rfl,{ q with set:=true,left:=q.left - 1 },hr,Kj _ _ _ _ _ _ (λk hk=>.inl hk),(a.turned _).setCell (p:=⟨q.x,5,none⟩) (λ_=>.inl rfl) _⟩)⟩
       . have l:q.left=0:=oo;rw [l] at X;have hh:=H.out;have d:=(((((jD (λk=>k=q.x) w1).setCell (p:=⟨q.x,7,none⟩) (λ_=>rfl) (.bool true)).setCell (p:=⟨q.x,4,none⟩) (λ_=>rfl) (.bool false)).setCell (p:=⟨q.x,5,none⟩) (λ_=>rfl) (.int .i64 0)).setCell (p:=⟨q.x,6,none⟩) (λ_=>rfl) (.slice none 0 0));have hr:=hh.rex d false 0 [] (.slice none 0 0) true none (((((hh.blk.set_ 7 _).set_ 4 _).set_ 5 _).set_ 6 _).conv rfl) (OwnL.nil _ _ _ _) rfl oo ⟨(λn hn=>by cases hn),qd⟩;have o:=((T.keep (iX _) a).keptT a.size d (λ_ b off e hh=>B b off e (.inl hh))).mono (ij a.size d.size);have t:=Mf hr (λ_=>true) A2 c2 q.svl (λ_=>True) o (λ_=>B) U HH.svok.1 Q (λ_ _ _ _=>trivial) (λ_ _ _ _=>trivial) trivial (λW r _=>MZ r W);have M:=zh t;have u:=zh d;clear hh d hr o t;go_wp2_with fail;refine M.mono ?_;rintro er w3 ⟨rfl,q3,v,y,z⟩
         have N:=zh (show Did w w3 q { Bs D (λ_=>true) (svN q.svl) with failed:=true,fuse:=none } from by
          refine ⟨q3,by rw [<-Lu];exact v,((Kj w q _ _ _ _ (λk hk=>by cases hk)).trans y (ij a.size u.size)),?_⟩
          exact ((a.turned q.feet).next u (λi _ h=>.inl h)).next z (λi _ h=>DevP.turns_feet q i h))
         clear v y z;go_wp2_with fail;go_ret;exact .inr ⟨(by first | (intro hh;exact absurd hh.1 qd) | (intro hh;have:=hh.2;omega)),.inr (.inr ⟨j,l,rfl,N⟩)⟩
   . cases g:q.set with
     | false=>
       rw [g] at G;go_wp2_with fail;go_ret;exact .inr ⟨(by first | (intro hh;exact absurd hh.1 qd) | (intro hh;have:=hh.2;omega)),.inl ⟨by first | rfl | trivial,rfl,a⟩⟩
     | true=>
       rw [g] at G;have j:=zh g;clear g;by_cases O:0<q.left
       . have l:-9223372036854775808<=q.left - 1/\q.left - 1<=9223372036854775807:=oo;go_wp2_with fail;go_ret;have hh:=H.out;have hr:=hh.rex (w':=w1.setCell ⟨q.x,5,none⟩ (.int .i64 (q.left - 1))) ((jD (λk=>k=q.x) w1).setCell (p:=⟨q.x,5,none⟩) (λ_=>rfl) _) true (q.left - 1) q.svl q.vsv false (some ((q.left - 1).toNat,q.svl))
          ((hh.blk.set_ 5 _).conv (by rw [j.out,HF.out];rfl)) (hh.sv.far (p:=⟨q.x,5,none⟩) (hh.sv.ne_blk hh.blk qd) _) rfl oo hh.svok
         exact .inr ⟨(by first | (intro hh;exact absurd hh.1 qd) | (intro hh;have:=hh.2;omega)),.inr (.inl ⟨j,O,rfl,{ q with set:=true,left:=q.left - 1 },hr,Kj _ _ _ _ _ _ (λk hk=>.inl hk),(a.turned _).setCell (p:=⟨q.x,5,none⟩) (λ_=>.inl rfl) _⟩)⟩
       . have l:q.left=0:=oo;rw [l] at X;have hh:=H.out;have d:=(((((jD (λk=>k=q.x) w1).setCell (p:=⟨q.x,7,none⟩) (λ_=>rfl) (.bool true)).setCell (p:=⟨q.x,4,none⟩) (λ_=>rfl) (.bool false)).setCell (p:=⟨q.x,5,none⟩) (λ_=>rfl) (.int .i64 0)).setCell (p:=⟨q.x,6,none⟩) (λ_=>rfl) (.slice none 0 0));have hr:=hh.rex d false 0 [] (.slice none 0 0) true none (((((hh.blk.set_ 7 _).set_ 4 _).set_ 5 _).set_ 6 _).conv rfl) (OwnL.nil _ _ _ _) rfl oo ⟨(λn hn=>by cases hn),qd⟩;have o:=((T.keep (iX _) a).keptT a.size d (λ_ b off e hh=>B b off e (.inl hh))).mono (ij a.size d.size);have t:=Mf hr (λ_=>true) A2 c2 q.svl (λ_=>True) o (λ_=>B) U HH.svok.1 Q (λ_ _ _ _=>trivial) (λ_ _ _ _=>trivial) trivial (λW r _=>MZ r W);have M:=zh t;have u:=zh d;clear hh d hr o t;go_wp2_with fail;refine M.mono ?_;rintro er w3 ⟨rfl,q3,v,y,z⟩
         have N:=zh (show Did w w3 q { Bs D (λ_=>true) (svN q.svl) with failed:=true,fuse:=none } from by
          refine ⟨q3,by rw [<-Lu];exact v,((Kj w q _ _ _ _ (λk hk=>by cases hk)).trans y (ij a.size u.size)),?_⟩
          exact ((a.turned q.feet).next u (λi _ h=>.inl h)).next z (λi _ h=>DevP.turns_feet q i h))
         clear v y z;go_wp2_with fail;go_ret;exact .inr ⟨(by first | (intro hh;exact absurd hh.1 qd) | (intro hh;have:=hh.2;omega)),.inr (.inr ⟨j,l,rfl,N⟩)⟩
theorem O7 (hp:DA s e=true) (d:D.pend.length<=1000000):
 Calls Tryz.prog 194 #[.pointer (some ⟨q.x,0,none⟩),.agg #[.int .i64 s,.int .i64 e]] w λer w'=>er=.returned (.int .i64 (Ah D s e).2)/\Did w w' q (Ah D s e).1:=by
 have c:=jC hp;cases hf:D.failed with
 | true=>
   rw [OV hf];exact (QF h s e hf).mono λer w' ⟨h1,h2⟩=>⟨h1,Did.same h h2⟩
 | false=>
   obtain ⟨f,b,ho,ha,g,i⟩:=h.fence c.1 c.2.1
   have a:e<D.fen s↔(b=true/\e<=f):=by
    cases b with
    | false=>rw [g rfl];simp;omega
    | true=>rw [i rfl];unfold bw;split<;>simp<;>omega
   refine (UF h s e hf hp d f b ho ha).mono ?_;rintro er w' (⟨h1,rfl,h2⟩ | ⟨h1,⟨hs,rfl,h2⟩ | ⟨hs,hl,rfl,h2⟩ | ⟨hs,hl,rfl,h2⟩⟩)
   . rw [OY hf (a.2 h1)];exact ⟨rfl,Did.same h h2⟩
   . rw [TD hf (λhh=>h1 (a.1 hh)) (by rw [h.fuse,hs];rfl)];exact ⟨rfl,Did.same h h2⟩
   . have hn:D.fuse=some ((q.left - 1).toNat+1,q.svl):=by rw [h.fuse,hs];simp only [if_true];congr 2;omega
     rw [RA hf (λhh=>h1 (a.1 hh)) hn];refine ⟨rfl,?_⟩;rw [<-hf] at h2;exact h2
   . have hn:D.fuse=some (0,q.svl):=by rw [h.fuse,hs,hl];rfl
     rw [Sq hf (λhh=>h1 (a.1 hh)) hn];exact ⟨rfl,h2⟩
omit h in
theorem Gv {D:Dev} {s e:Int} (h:(Ah D s e).2=0):∃fu,(Ah D s e).1={ D with fuse:=fu }:=by
 unfold Ah at h ⊢;split at h
 . cases h
 . split at h
   . cases h
   . split at h
     . cases h
     . rename_i h1 h2 h3;rw [if_neg h1,if_neg h2,if_neg h3];unfold JZ at h3 ⊢;split at h3
       . exact ⟨D.fuse,rfl⟩
       . exact ⟨_,rfl⟩
       . exact absurd rfl h3
end

theorem dK:(Tryz.prog.info? 285).map (λi=>(i.zero,i.size,i.bytes))=some (some (.agg #[.int .i64 0,.int .i64 0,.string ⟨#[]⟩]),3,32):=qk
section
variable {w:World} {q:DevP} {D:Dev} (h:DevM w q D) (s e sec:Int) (data:ByteArray) (hsmall:D.pend.length<=999999)
include h hsmall
theorem Wu (al:data.size<=9223372036854775807):Calls Tryz.prog 160 #[.pointer (some ⟨q.x,0,none⟩),.agg #[.int .i64 s,.int .i64 e],.int .i64 sec,.string data] w λer w'=>er=.returned (.int .i64 (BJ D s e sec data).2)/\Did w w' q (BJ D s e sec data).1:=by
 have HH:=zh h;have g:=(iW w).alloc (.cells #[.int .i64 s,.int .i64 e] 88);have c:=ik w 88 #[.int .i64 s,.int .i64 e] rfl;have a0:=c.cell 0;have a1:=c.cell 1;have m:=zh (Po (w.alloc (.cells #[.int .i64 s,.int .i64 e] 88)) s e);cases hp:DA s e with
 | false=>
   have HV:=zh (show BJ D s e sec data=(D,1) from by unfold BJ;rw [if_pos (.inl hp)]);have HP:=zh hp;clear h hp c;go_enter Tryz.func160,Tryz.ntmps160;go_wp2_with fail;refine m.mono ?_;rw [HP.out];rintro er w1 ⟨rfl,g1⟩;have hG:=g.trans g1;go_wp2_with fail;go_ret;rw [HV.out];exact ⟨rfl,Did.same HH hG⟩
 | true=>
   by_cases hd:data.size=140
   . cases ht:FQ D sec with
     | false=>
       have HV:=zh (show BJ D s e sec data=(D,2) from by unfold BJ;rw [if_neg (by rw [hp,hd];simp),if_pos ht]);have HP:=zh hp;have HT:=zh ht;have G:(data.size:Int)=140:=oo;clear h hp c ht hd;go_enter Tryz.func160,Tryz.ntmps160;go_wp2_with fail;refine m.mono ?_;rw [HP.out];rintro er w1 ⟨rfl,g1⟩;have hG:=g.trans g1;have v:=zh (LR (HH.grew hG) sec false HT);go_wp2_with fail;refine v.mono ?_;rintro er w2 ⟨rfl,rfl⟩;go_wp2_with fail;go_ret;rw [HV.out];exact ⟨rfl,Did.same HH hG⟩
     | true=>
       have HV:=zh (show BJ D s e sec data=if (Ah D s e).2≠0 then Ah D s e else ({ (Ah D s e).1 with pend:=(Ah D s e).1.pend++[⟨s,sec.toNat,data⟩] },0) from by unfold BJ;rw [if_neg (by rw [hp,hd];simp),if_neg (by rw [ht];decide)]);have HP:=zh hp;have HT:=zh ht;have G:(data.size:Int)=140:=oo;have O:=zh hd;have P:=zh (jC ht);have H:=λhz=>zh (Gv (D:=D) (s:=s) (e:=e) hz);clear h hp c ht hd;generalize hAD:Ah D s e=AD at*
       obtain ⟨D1,N⟩:=AD;have Q:=zh hAD;clear hAD;go_enter Tryz.func160,Tryz.ntmps160;go_wp2_with fail;refine m.mono ?_;rw [HP.out];rintro er w1 ⟨rfl,g1⟩;have hG:=g.trans g1;have v:=zh (LR (HH.grew hG) sec true HT);have b0:=(g1.cellEq w.heap.size 0 qs).trans a0;have b1:=(g1.cellEq w.heap.size 1 qs).trans a1;have I:=zh (O7 (HH.grew hG) s e HP oo);have HG:=zh hG;have y:w.heap.size<w1.heap.size:=by have:=g1.size;simp at this;omega
       rw [Q.out] at I;clear g1 a0 a1 g hG;go_wp2_with fail;refine v.mono ?_;rintro er w2 ⟨rfl,rfl⟩;go_wp2_with fail;refine I.mono ?_;rintro er w3 ⟨rfl,q3,F,t,b⟩;have a:=zh t;have z:¬q.feet w.heap.size:=λhh=>absurd (HH.feet_lt _ hh) oo;have n:=(b.cellEq w.heap.size 0 y z).trans b0;have R:=(b.cellEq w.heap.size 1 y z).trans b1;have an:=zh ((HG.turned q.feet).trans b);have d:=zh F;have S:w.heap.size<w3.heap.size:=by have:=b.size;omega
       have T:=zh (show Did w1 w3 q D1 from ⟨q3,F,t,b⟩);have U:=zh b;have V:¬q3.feet w.heap.size:=λhh=>(t.feet _ hh).elim z (λh9=>absurd y oo);clear t F b b0 b1;by_cases hz:N=0
       . subst hz;obtain ⟨fu,u⟩:=(H rfl).out;have ap:=zh u;have A:D1.pend=D.pend:=by rw [u]
         have av:D1.pend.length<=999999:=by rw [A];exact hsmall
         have J:D1.st.length=D.st.length:=by rw [u]
         have aw:=zh A;have W:=zh J;clear u A J H;have i:=d.blk;rw [a.out.x] at i;have a2:=i.lt;have x2:=i.cell 2;have K:=zh i;have a3:=jC HP;clear i;go_wp2_with fail;refine AB [14] (λw':World=>w'.cell? ⟨w.heap.size,0,none⟩=some (.int .i64 s)/\w'.cell? ⟨q.x,2,none⟩=some q3.vp) qk ?_;have hS:=(show (λw':World=>w'.cell? ⟨w.heap.size,0,none⟩=some (.int .i64 s)/\w'.cell? ⟨q.x,2,none⟩=some q3.vp) w3.drew from ⟨n,x2⟩);refine tQ 0 28 ?_;refine tQ 1 29 ?_;refine tT 2 (some 30) hS ?_;refine tQ 3 31 ?_;refine tT 4 (some 32) hS ?_;refine tQ 5 33 ?_;refine tT 6 (some 34) hS ?_;refine tQ 7 35 ?_;refine tQ 8 36 ?_;refine tQ 9 37 ?_;refine tO 10 λK' hK=>?_;go_wp2_with fail;have B:=((iW w3.drew).alloc (.cells #[.int .i64 s,.int .i64 sec,.string data] 285));have L:=K.drew.grew B;refine hK.out _ _ (.inr (λ_=>⟨(B.cellEq _ _ (by show w.heap.size<w3.heap.size;omega)).trans n,L.cell 2⟩)) ?_;clear hK hS;refine tO 11 λK' hK=>?_;have X:=(d.grew (iW w3).drew).pend;refine JD (.tmp 32) (.tmp 38) 188 rfl 0 285 3 32 _ Tryz.underlying188 dK rfl qd _ q3.vp (D1.pend.map B2) [.int .i64 s,.int .i64 sec,.string data] rfl rfl (X.grew B) w3.heap.size rfl (ik w3.drew _ _ rfl) rfl (by rw [JE];omega) (by rw [JE];omega) (jL _) D1.pend.length (JE _) ?_;intro g5 c5 w5 M f l a6;have Y:q3.vp.ownBlock≠some q.x:=by rw [<-a.out.x];exact d.pend.ne_blk d.blk qd
         have Z:q3.vp.ownBlock≠some w.heap.size:=λhh=>V (.inr (.inr (.inr (.inr (.inl hh)))));have j:=((((iW w3).drew).alloc (.cells #[.int .i64 s,.int .i64 sec,.string data] 285)).turned (λk=>q3.vp.ownBlock=some k)).trans ⟨f.os,f.tape,f.output,f.size,λk hk hn=>f.block k hk (λe=>hn e.symm)⟩;have o:=K.turned j Y;have C:=(j.cellEq w.heap.size 0 S Z).trans n;have x5:=o.cell 2;have f5:=o.frozen 2;have a4:=o.lt;refine hK.out _ _ (.inr (λ_=>⟨C,x5⟩)) ?_;clear hK;have hS:=(show (λw':World=>w'.cell? ⟨w.heap.size,0,none⟩=some (.int .i64 s)/\w'.cell? ⟨q.x,2,none⟩=some q3.vp) w5 from ⟨C,x5⟩);simp only [Act.put,zA,zB,zC];refine tT 12 (some 40) hS ?_;refine tQ 13 41 ?_;refine tO 14 λK' hK=>?_;go_wp2_with fail;refine hK.out _ _ (.inl rfl) ?_;clear hK hS;refine AA qk ?_ _;have ad:=P.out
         have E:=d.new_pend (w1:=w5) j (P':=D1.pend++[⟨s,sec.toNat,data⟩]) (vp':=.slice (some ⟨g5,0,none⟩) (D1.pend.length+1) c5) (by
          rw [il]
          have:[(⟨s,sec.toNat,data⟩:Wr)].map B2=[[.int .i64 s,.int .i64 sec,.string data]]:=by
           show [[Value.int .i64 s,.int .i64 ((sec.toNat:Nat):Int),.string data]]=_
           rw [kC ad.1]
          rw [this]
          exact M) (λr hr=>by
          rcases ip.1 hr with hr | hr
          . exact d.ok.pend r hr
          . rw [ia.1 hr]
            refine ⟨?_,O,?_⟩
            . rw [W.out];show sec.toNat<_;omega
            . show 1<=s/\s<=4;omega)
         rw [a.out.x] at E;have af:=zh E;have ag:=zh j;clear E j f M o L C x5 f5 n R x2;go_wp2_with fail;go_ret;rw [HV.out,if_neg qd];refine ⟨rfl,Did.trans (Foot'.refl w q) (HG.turned _) (Did.trans a U ⟨_,af,⟨a.x.symm,rfl,λk hk=>?_⟩,?_⟩)⟩
         . rcases hk with hk | hk | hk | hk | hk | hk | hk
           . exact .inl (.inl (hk.trans a.x.symm))
           . exact .inl (.inr (.inl hk))
           . exact .inl (.inr (.inr (.inl hk)))
           . exact .inl (.inr (.inr (.inr (.inl hk))))
           . rcases l with l | l
             . exact .inl (.inr (.inr (.inr (.inr (.inl (by rw [l];exact hk))))))
             . injection hk with hk;subst hk;rw [l];right;simp
           . exact .inl (.inr (.inr (.inr (.inr (.inr (.inl hk))))))
           . exact .inl (.inr (.inr (.inr (.inr (.inr (.inr hk))))))
         . exact (ag.mono (λk _ hk=>.inr (.inr (.inr (.inr (.inl hk)))))).setCell (p:=⟨q.x,2,none⟩) (λ_=>.inl a.x.symm) _
       . have a5:(N==0)=false:=it.2 hz;have HZ:=zh hz;clear hz;go_wp2_with fail;go_ret;rw [HV.out,if_pos HZ.out];exact ⟨rfl,Did.trans (Foot'.refl w q) (HG.turned _) T⟩
   . have HV:=zh (show BJ D s e sec data=(D,1) from by unfold BJ;rw [if_pos (.inr hd)]);have HP:=zh hp;have G:¬(data.size:Int)=140:=oo;clear h hp c hd;go_enter Tryz.func160,Tryz.ntmps160;go_wp2_with fail;refine m.mono ?_;rw [HP.out];rintro er w1 ⟨rfl,g1⟩;have hG:=g.trans g1;go_wp2_with fail;go_ret;rw [HV.out];exact ⟨rfl,Did.same HH hG⟩
end

end
end Go.Proofs.YtmcgbdemcknkaaaGreatDoor
