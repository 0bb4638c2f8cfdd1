/- Parts of the proof (packed), 12. -/
import Derived.Test.YtmcgbdemcknkaaaGreatDoorCwI
namespace Go.Proofs.YtmcgbdemcknkaaaGreatDoor
set_option linter.all false
set_option maxRecDepth 100000
set_option maxHeartbeats 16000000
open List
section
attribute [local go_sem ↓] Go.wp_at_zero Go.wp_at_succ
open Go.RowKit
def B0 (e:Int × ByteArray):List Value:=[.int .i64 e.1,.string e.2]
theorem F5:(Tryz.prog.info? 196).map (λi=>(i.zero,i.size,i.bytes))=some (some .nilFunc,1,8):=qk
theorem PutAt.same {W W':World} {lo s:Nat} {i:Int} {raw:ByteArray} {v:Value} (h:PutAt W lo s i raw v) (hk:∀k t cs,lo<=k->t≠196->Blk W k t cs->Blk W' k t cs):PutAt W' lo s i raw v:=by
 obtain ⟨a,b,c,rfl,la,lb,lc,ha,d,hc⟩:=h;exact ⟨a,b,c,rfl,la,lb,lc,hk a _ _ la qd ha,hk b _ _ lb qd d,hk c _ _ lc qd hc⟩
theorem PutAt.form {W:World} {lo s:Nat} {i:Int} {raw:ByteArray} {v:Value} (h:PutAt W lo s i raw v):∃caps,v=.func (.func 159) #[] caps:=by
 obtain ⟨a,b,c,rfl,_⟩:=h;exact ⟨_,rfl⟩
theorem PutAt.grew {W W':World} {lo s:Nat} {i:Int} {raw:ByteArray} {v:Value} (h:PutAt W lo s i raw v) (hg:Grew W W'):PutAt W' lo s i raw v:=h.same λ_ _ _ _ _ hb=>hb.grew hg
theorem PutAt.low {W:World} {lo lo' s:Nat} {i:Int} {raw:ByteArray} {v:Value} (h:PutAt W lo s i raw v) (hl:lo'<=lo):PutAt W lo' s i raw v:=by
 obtain ⟨a,b,c,rfl,la,lb,lc,ha,d,hc⟩:=h;exact ⟨a,b,c,rfl,oo,oo,oo,ha,d,hc⟩
theorem PutAt.own {W W':World} {lo s:Nat} {i:Int} {raw:ByteArray} {v u:Value} {rows:List (List Value)} {base:Nat} (h:PutAt W lo s i raw v) (hown:OwnL W base 196 1 u rows) (hg:W.grownBy W' u.ownBlock):PutAt W' lo s i raw v:=
 h.same λ_ _ _ _ hne hb=>hb.own hg (hown.ne_blk hb (λe=>hne e.symm))
def PutsAt (W:World) (lo s:Nat) (L:List (Int × ByteArray)) (vs:List Value):Prop:=vs.length=L.length/\∀(k:Nat) (e:Int × ByteArray) (v:Value),L[k]? =some e->vs[k]? =some v->PutAt W lo s e.1 e.2 v
theorem PutsAt.grew {W W':World} {lo s:Nat} {L:List (Int × ByteArray)} {vs:List Value} (h:PutsAt W lo s L vs) (hg:Grew W W'):PutsAt W' lo s L vs:=⟨h.1,λk e v h1 h2=>(h.2 k e v h1 h2).grew hg⟩
theorem PutsAt.own {W W':World} {lo s:Nat} {L:List (Int × ByteArray)} {vs:List Value} {u:Value} {rows:List (List Value)} {base:Nat} (h:PutsAt W lo s L vs) (hown:OwnL W base 196 1 u rows) (hg:W.grownBy W' u.ownBlock):PutsAt W' lo s L vs:=⟨h.1,λk e v h1 h2=>(h.2 k e v h1 h2).own hown hg⟩
theorem PutsAt.snoc {W:World} {lo s:Nat} {L:List (Int × ByteArray)} {vs:List Value} {e:Int × ByteArray} {v:Value} (h:PutsAt W lo s L vs) (hp:PutAt W lo s e.1 e.2 v):PutsAt W lo s (L++[e]) (vs++[v]):=by
 refine ⟨by rw [iy,iy,h.1];rfl,λk e' v' h1 h2=>?_⟩;rcases jY k L.length with hk | hk
 . rw [jm hk] at h1;rw [jm (by rw [h.1];exact hk)] at h2;exact h.2 k e' v' h1 h2
 . rw [jW hk] at h1;rw [jW (by rw [h.1];exact hk),h.1] at h2;have h0:k - L.length=0:=by have:=(iw.1 h1).1;simp at this;omega
   rw [h0] at h1 h2;obtain rfl:e=e':=by simpa using h1
   obtain rfl:v=v':=by simpa using h2
   exact hp
theorem PutsAt.nil (W:World) (lo s:Nat):PutsAt W lo s [] []:=⟨rfl,λk e v h=>by simp at h⟩
theorem NE (l:List Value):∀r∈(l.map λv=>[v]),r.length=1:=by
 intro r hr;obtain ⟨v,_,rfl⟩:=ie.1 hr;rfl
theorem Mp {l:List Value} (h:l.all (·.oneCell')=true):∀r∈(l.map λv=>[v]),r.all (·.oneCell')=true:=by
 intro r hr;obtain ⟨v,hv,rfl⟩:=ie.1 hr;have:=jN.1 h v hv;simp [this]
theorem Ki {w:World} {g B:Nat} {t:TypeId} {l:List Value} (h:Blk w g t l.toArray) (hB:g<B):ListAt w B 1 (some ⟨g,0,none⟩) (l.map λv=>[v]):=λ_=>⟨g,0,rfl,hB,λj cs hj i v hi=>by
 rw [iZ] at hj
 cases hq:l[j]? with
 | none=>rw [hq] at hj;cases hj
 | some u=>
   rw [hq] at hj
   obtain rfl:[u]=cs:=by simpa using hj
   have h0:i=0:=by have:=(iw.1 hi).1;simp at this;omega
   subst h0
   obtain rfl:u=v:=by simpa using hi
   rw [h.cell]
   simpa using hq⟩
theorem LN {w:World} {B:Nat} {A:Option Addr} {l:List (Int × ByteArray)} (h:ListAt w B 2 A (l.map B0)) {k:Nat} (hk:k<l.length):
 ∃b off,A=some ⟨b,off,none⟩/\b<B/\w.cell? ⟨b,off+k*2,none⟩=some (.int .i64 l[k].1)/\w.cell? ⟨b,off+k*2+1,none⟩=some (.string l[k].2):=by
 obtain ⟨b,off,e,hb,hc⟩:=h (by rw [iY];omega);have hj:(l.map B0)[k]? =some (B0 l[k]):=by rw [iZ,iV hk];rfl
 exact ⟨b,off,e,hb,by have:=hc k _ hj 0 _ rfl;rwa [jo] at this,hc k _ hj 1 _ rfl⟩
theorem Beside.wide {w0 W w1 w2:World} {out out':Nat->Prop} (hg:Grew W w1) (h:Beside w0 out' w1 w2) (ho:∀k,out k->out' k):Beside w0 out W w2:=
 (hg.turned _).trans (h.mono λk _ hk=>⟨hk.1,λh9=>hk.2 (ho k h9)⟩)
theorem WorksL.puts {w0:World} {x s m:Nat} {sy ep:Int} {out:Nat->Prop} {W:World} (hb:Blk W s 252 (Ct x sy ep m)) (hs:out s) {lo:Nat} (a:∀k,lo<=k->k<W.heap.size->out k) {L:List (Int × ByteArray)} (b:∀e∈L,e.2.size<=9223372036854775807) {vs:List Value} (h:PutsAt W lo s L vs):
 WorksL w0 x out W 1 (L.map λe D=>BJ D sy ep e.1 e.2) vs:=by
 refine ⟨by rw [iY];exact h.1,λk f v h1 h2=>?_⟩;rw [iZ] at h1;cases hq:L[k]? with
 | none=>rw [hq] at h1;cases h1
 | some e=>
   rw [hq] at h1;obtain rfl:=Option.some.inj h1;exact PY hb hs a (b e (js hq)) (h.2 k e v hq h2)
def Uh (sy ep:Int) (L:List (Int × ByteArray)):List (Dev->Dev × Int):=L.map (λe D=>BJ D sy ep e.1 e.2)++[λD=>Cl D sy ep,λD=>BJ D sy ep 33 blankR,λD=>Cl D sy ep]
theorem Uq (sy ep:Int) (L:List (Int × ByteArray)) (D:Dev):De (Uh sy ep L) D=Bm sy ep (CL L) D:=by
 rw [<-UJ];congr 1;unfold Uh CL;rw [il,jt];rfl
section
variable {w0:World} {x s m:Nat} {sy ep:Int} {D:Dev} {out:Nat->Prop} {W:World} (hL:Live w0 x D out W) (hb:Blk W s 252 (Ct x sy ep m)) (hs:out s) (hp:D.pend.length<=980000)
include hL hb hs hp
theorem Y0 (L:List (Int × ByteArray)) (hl:L.length<=1000) (j:∀e∈L,e.2.size<=9223372036854775807) {w2:World} {vs:List Value} {v2:Value} (f:Grew W w2) (h:PutsAt w2 W.heap.size s L vs)
 (i:OwnL w2 W.heap.size 196 1 v2 ((vs++([.func (.func 122) #[ptrV s] #[],.func (.func 121) #[ptrV s] #[],.func (.func 122) #[ptrV s] #[]]:List Value)).map λv=>[v])):
 ∃A2 n2 c2,v2=.slice A2 n2 c2/\Calls Tryz.prog 120 #[.slice A2 n2 c2] w2 λe w'=>e=.returned (.int .i64 (Bm sy ep (CL L) D).2)/\Live w0 x (Bm sy ep (CL L) D).1 out w'/\Beside w0 out W w':=by
 obtain ⟨A2,c2,a,_,_,o⟩:=i.listAt;rw [iY] at a;have l:=h.1;have m:(vs++([.func (.func 122) #[ptrV s] #[],.func (.func 121) #[ptrV s] #[],.func (.func 122) #[ptrV s] #[]]:List Value)).length=L.length+3:=by rw [iy,l];rfl
 refine ⟨A2,_,c2,a,?_⟩;have c:=hb.grew f;have d:(λk=>out k\/(W.heap.size<=k/\k<w2.heap.size)) s:=.inl hs;have n:∀k,W.heap.size<=k->k<w2.heap.size->(λk=>out k\/(W.heap.size<=k/\k<w2.heap.size)) k:=λk h1 h2=>.inr ⟨h1,h2⟩;refine (RG (hL.more f) 1 (Uh sy ep L) _ ((WorksL.puts c d n j h).app (WorksL.cons ((F8 c d).more oo) (WorksL.cons (Lx c d) (WorksL.cons ((F8 c d).more oo) (WorksL.nil ..))))) oo oo A2 c2 o (λb off e=>?_)).mono ?_
 . rcases i.form with ⟨_,h0⟩ | ⟨g,cap,e1,h1,h2,_⟩
   . have:=ix length h0;rw [iY,m,length_nil] at this;omega
   . rw [e1] at a;injection a with a _ _;rw [e] at a;injection a with a;injection a with a _ _;subst a;exact .inr (.inr ⟨h1,h2⟩)
 . rintro e w' ⟨he,h1,h2,_⟩;rw [Uq] at he h1;exact ⟨he,h1.few (λk hk=>.inl hk),Beside.wide f h2 (λk hk=>.inl hk)⟩
theorem KE (L:List (Int × ByteArray)) (hl:L.length<=1000) (p:∀e∈L,e.2.size<=9223372036854775807) (A:Option Addr) (c:Nat) (q:ListAt W W.heap.size 2 A (L.map B0)):
 Calls Tryz.prog 134 #[ptrV s,.slice A L.length c] W λe w'=>e=.returned (.int .i64 (Bm sy ep (CL L) D).2)/\Live w0 x (Bm sy ep (CL L) D).1 out w'/\Beside w0 out W w':=by
 have HL:=zh hL;have HB:=zh hb;have F:=zh q;have HS:=zh hs;have HP:=zh hp;have G:=zh p;have U:=hb.lt;clear hL hb q hs hp p;go_enter Tryz.func134,Tryz.ntmps134;go_wp2_with fail
 go_loopg [5,10] L.length (λgk u i wr=>∃(k:Nat) (vs:List Value),k<=L.length/\gk=L.length - k/\i=.int .i64 k/\OwnL wr W.heap.size 196 1 u (vs.map λv=>[v])/\PutsAt wr W.heap.size s (L.take k) vs/\Grew W wr)
 case atStart=>exact ⟨0,[],oo,oo,rfl,OwnL.nil ..,PutsAt.nil ..,iW _⟩
 case round=>
  obtain ⟨k,vs,hk,B,rfl,C,E,hg⟩:=hrel;have H:=zh B;have l:=zh C;have f:=zh E;have HG:=zh hg;clear B C E hg;by_cases z:k<L.length
  . obtain ⟨b,Y,rfl,Z,c0,c1⟩:=LN (F.keep (iX _) HG) z;have V:(k:Int)<(L.length:Int):=oo;go_wp2_with fail;refine (I7 _ _ _ _).mono ?_;rintro e w1 ⟨v,rfl,o,g1⟩;obtain ⟨d,rfl⟩:=o.form;have m:Grew W w1:=(HG.alloc _).trans g1;have r:=(l.alloc (.cells #[.int .i64 L[k].1,.string L[k].2] 218)).grew g1;have t:=(f.grew ((iW wr).alloc (.cells #[.int .i64 L[k].1,.string L[k].2] 218))).grew g1;have w:=(o.low (by simp;have:=HG.size;omega):PutAt w1 W.heap.size s L[k].1 L[k].2 (.func (.func 159) #[] d));have I:=zh m;have n:=zh r;have J:=zh (t.snoc (e:=L[k]) w);have K:vs.length=k:=by have:=f.1;rw [je] at this;omega
    have M:W.heap.size<=w1.heap.size:=m.size;clear o g1 m r t w;go_wp2_with (at_builtin;refine Bh rfl _ _ 195 rfl W.heap.size 196 1 8 .nilFunc Tryz.underlying195 F5 rfl qd (w1.alloc (.cells #[.func (.func 159) #[] d] 196)) u5 (vs.map λv=>[v]) [.func (.func 159) #[] d] rfl rfl (n.alloc _) w1.heap.size (by rfl) (ik _ _ _ rfl) rfl (by rw [iY];omega) (by rw [iY];omega) (by simp;omega) k (by rw [iY];omega) ?_);intro g2 X w2 j a _ _;have g:Grew W w2:=(I.alloc _).own a n.row_ge (iX _);have h:=(J.grew ((iW w1).alloc (.cells #[.func (.func 159) #[] d] 196))).own (n.alloc (.cells #[.func (.func 159) #[] d] 196)) a;have N:=zh j;have O:=zh g;have P:=zh h;have Q:=zh (ic z);clear j a g h;go_wp2_with fail
    go_roundg (L.length - (k+1))
    case measure=>rw [H.out];omega
    case rel=>exact ⟨k+1,vs++[.func (.func 159) #[] d],oo,oo,by go_num,by rw [il];exact N.out,by rw [Q.out];exact P.out,O⟩
  . obtain rfl:k=L.length:=oo;have K:vs.length=L.length:=by have:=f.1;rw [je] at this;omega
    have y:L.take L.length=L:=i8 (iX _);rw [y] at f;clear y;have M:W.heap.size<=wr.heap.size:=HG.size;go_wp2_with (at_builtin;refine Ab (by rfl) _ _ 195 rfl W.heap.size 196 1 8 .nilFunc Tryz.underlying195 F5 rfl qd u5 (vs.map λv=>[v]) (([.func (.func 122) #[ptrV s] #[],.func (.func 121) #[ptrV s] #[],.func (.func 122) #[ptrV s] #[]]:List Value).map λv=>[v]) rfl (l.alloc _) (some ⟨wr.heap.size,0,none⟩) 3 3 (by rfl) rfl (NE _) (Ki (ik _ _ _ rfl) qs) (Mp (by rfl)) (by rw [iY];omega) (by rw [iY];omega) (by simp;omega) ?_);intro v2 w2 j a _;have g:Grew W w2:=(HG.alloc _).own a l.row_ge (iX _);have h:=(f.grew ((iW wr).alloc (.cells #[.func (.func 122) #[ptrV s] #[],.func (.func 121) #[ptrV s] #[],.func (.func 122) #[ptrV s] #[]] 196))).own (l.alloc (.cells #[.func (.func 122) #[ptrV s] #[],.func (.func 121) #[ptrV s] #[],.func (.func 122) #[ptrV s] #[]] 196)) a;have HD:=zh (Y0 HL HB HS HP L hl G g h (by rw [il];exact j));clear j a h g;obtain ⟨A2,n2,c2,rfl,hd⟩:=HD.out;have R:=zh hd;clear hd;go_wp2_with fail;refine R.mono ?_;rintro e w3 ⟨rfl,S,T⟩;go_wp2_with fail;go_ret;exact ⟨rfl,S,T⟩
end

def LB (r:Raw):Value:=.agg #[.string r.data,.int .u32 (u32 r.ver),.bool r.ok]
def Dm (D:Dev) (i:Int):Raw × Int:=if (GJ D i).2=0 then (AN (GJ D i).1 i,0) else (KQ,(GJ D i).2)
theorem Qt (t:ByteArray) (i:Int):∃er,Db t i=((AN t i).data,(AN t i).ver,er)/\(AN t i).ok=(er==0):=by
 unfold AN Db;by_cases h:okR t i
 . rw [if_pos h,if_pos h];exact ⟨0,rfl,rfl⟩
 . rw [if_neg h,if_neg h];exact ⟨11,rfl,rfl⟩
theorem Pi (w:World):(zeroValue 293).run Tryz.prog w=.ok (.agg #[.string ⟨#[]⟩,.string ⟨#[]⟩,.int .u32 0,.bool false]) w:=qk
theorem WS (l:List Wr) (i:Nat) (s:ByteArray) (h:E8 l i=some s):∃r∈l,r.data=s:=by
 induction l with
 | nil=>cases h
 | cons r l ih=>
   unfold E8 at h;cases hq:E8 l i with
   | some t=>
     rw [hq] at h;obtain ⟨r',h1,h2⟩:=ih (by rw [hq];exact h);exact ⟨r',iz _ h1,h2⟩
   | none=>
     rw [hq] at h;dsimp only at h;split at h
     . exact ⟨r,jA ..,Option.some.inj h⟩
     . cases h
theorem Fc {D:Dev} (h:D.Ok) {i:Nat} (hi:i<D.st.length):(D.content i).size=140:=by
 unfold Dev.content;cases hq:E8 D.pend i with
 | none=>exact IG h hi
 | some s=>
   obtain ⟨r,h1,h2⟩:=WS _ _ _ hq;show s.size=140;rw [<-h2];exact (h.pend r h1).2.1
theorem Tr {D:Dev} (h:D.Ok) {i:Int} {t:ByteArray} (hr:GJ D i=(t,0)):t.size=140:=by
 unfold GJ at hr;split at hr
 . injection hr with _ h2;cases h2
 split at hr
 . injection hr with _ h2;cases h2
 . rename_i h1 _;injection hr with h1' _;rw [<-h1'];have:FQ D i=true:=by simpa using h1
   unfold FQ at this;have:=jC this;exact Fc h oo
theorem Live.turn1 {w0 ws ws':World} {x m:Nat} {D:Dev} {out:Nat->Prop} (h:Live w0 x D out ws) (hm:out m) (h0:w0.heap.size<=m) (ht:Turned (λk=>k=m) ws ws'):Live w0 x D out ws':=by
 obtain ⟨q,hx,hd,a,hf,hn⟩:=h;exact ⟨q,hx,hd.kept ht (λk hk h=>(hn m hm).2 (h▸hk)),a.turn ht (λk hk=>by rw [hk];exact h0),hf,λk hk=>⟨ig (hn k hk).1 ht.size,(hn k hk).2⟩⟩
structure Looked (w0:World) (x s m:Nat) (sy ep:Int) (D:Dev) (out:Nat->Prop) (W w':World):Prop where
 live:Live w0 x D out w'
 store:StoreM w' s m x sy ep
 turned:Turned (λk=>k=m) W w'
structure Held (w0:World) (x s m:Nat) (sy ep:Int) (D:Dev) (out:Nat->Prop) (W:World):Prop where
 live:Live w0 x D out W
 store:StoreM W s m x sy ep
 os:out s
 om:out m
 m0:w0.heap.size<=m
theorem Held.grew {w0:World} {x s m:Nat} {sy ep:Int} {D:Dev} {out:Nat->Prop} {W W':World} (h:Held w0 x s m sy ep D out W) (hg:Grew W W'):Held w0 x s m sy ep D out W':=⟨h.live.grew hg,h.store.grew hg,h.os,h.om,h.m0⟩
theorem Held.after {w0:World} {x s m:Nat} {sy ep:Int} {D:Dev} {out:Nat->Prop} {W W':World} (h:Held w0 x s m sy ep D out W) (hl:Looked w0 x s m sy ep D out W W'):Held w0 x s m sy ep D out W':=⟨hl.live,hl.store,h.os,h.om,h.m0⟩
theorem Looked.trans {w0:World} {x s m:Nat} {sy ep:Int} {D:Dev} {out:Nat->Prop} {a b c:World} (h:Looked w0 x s m sy ep D out a b) (k:Looked w0 x s m sy ep D out b c):Looked w0 x s m sy ep D out a c:=⟨k.live,k.store,h.turned.trans k.turned⟩
theorem Held.same {w0:World} {x s m:Nat} {sy ep:Int} {D:Dev} {out:Nat->Prop} {W W':World} (h:Held w0 x s m sy ep D out W) (hg:Grew W W'):Looked w0 x s m sy ep D out W W':=⟨h.live.grew hg,h.store.grew hg,hg.turned _⟩
theorem Looked.grew {w0:World} {x s m:Nat} {sy ep:Int} {D:Dev} {out:Nat->Prop} {a b c:World} (h:Looked w0 x s m sy ep D out a b) (hg:Grew b c):Looked w0 x s m sy ep D out a c:=⟨h.live.grew hg,h.store.grew hg,h.turned.trans (hg.turned _)⟩
def fy (w0:World) (x s m:Nat) (sy ep:Int) (D:Dev) (out:Nat->Prop) (W:World) (r:Raw × Int) (e:Ending) (w':World):Prop:=
 e=.returned (.tuple #[LB r.1,.int .i64 r.2])/\Looked w0 x s m sy ep D out W w'
theorem OP {w0:World} {x s m:Nat} {sy ep:Int} {D:Dev} {out:Nat->Prop} {W w4 w9:World} {F:Int->Option Value} {i:Int} {t:ByteArray} {g:Nat} (h:Held w0 x s m sy ep D out W) (hF:∀i v,F i=some v->∃t:ByteArray,t.size<=200/\v=OE t i) (hm:MapI w4 m (upd F i (some (OE t i))))
 (ht:Turned (λk=>k=m) W w4) (h9:Turned (λk=>k=g) w4 w9) (hg:W.heap.size<=g/\¬g=m/\t.size<=200):Looked w0 x s m sy ep D out W w9:=by
 have hT:Turned (λk=>k=m) W w9:=ht.next h9 (λk hk e=>absurd hk oo);refine ⟨h.live.turn1 h.om h.m0 hT,⟨h.store.blk.turned hT h.store.ne,_,hm.turned h9 (λe=>hg.2.1 e.symm),λj v hj=>?_⟩,hT⟩;by_cases a:j=i
 . subst a;rw [ER] at hj;exact ⟨t,hg.2.2,(Option.some.inj hj).symm⟩
 . rw [Ep _ _ a] at hj;exact hF j v hj
section
variable {w0:World} {x s m:Nat} {sy ep:Int} {D:Dev} {out:Nat->Prop} {W:World} (h:Held w0 x s m sy ep D out W)
include h
theorem Xj (i:Int) (hi:okI i):Calls Tryz.prog 164 #[ptrV s,.int .i64 i] W (fy w0 x s m sy ep D out W (Dm D i)):=by
 obtain ⟨⟨t,er⟩,hr⟩:∃r,GJ D i=r:=⟨_,rfl⟩;have hb:=h.store.blk;unfold Ct at hb;have s0:=hb.cell 0;have s3:=hb.cell 3;have Y:=hb.lt;have N:Blk (W.alloc (.cells #[.string ⟨#[]⟩,.int .u32 0,.bool false] 206)) W.heap.size 206 #[.string ⟨#[]⟩,.int .u32 0,.bool false]:=ik W _ _ rfl;have HR:=zh (λw1 (hg:Grew W w1)=>Oq (h.live.grew hg) i t er hr);by_cases h0:er=0
 . subst h0;have T:=Tr h.live.ok hr;have Z:t.size<=140:=oo;have A:Hid (Dm D i=(AN t i,0)):=zh (by unfold Dm;rw [hr];exact if_pos rfl);have HH:=zh h;obtain ⟨F,hF,R⟩:=h.store.seen;have H:=zh R;have G:=zh hF;obtain ⟨kl,l⟩:=Fd i hi;have O:=zh l;have d:=hF.lookup_ok BH Bx Tryz.underlying250 (Pi _) i l;have z:=zh (λw1 (hg:Grew W w1)=>(hF.grew hg).lookup_ok BH Bx Tryz.underlying250 (Pi _) i l);obtain ⟨eu,hu,S⟩:=Qt t i;have HU:=zh (λw1=>MV t i w1 oo hi _ _ _ hu);have P:=zh S;have Q:=zh h.store.blk;clear d hF R l hu S h hr T;cases y:F i with
   | none=>
      rw [y] at z;clear y;have d:=z.out (W.alloc (.cells #[.string ⟨#[]⟩,.int .u32 0,.bool false] 206)) ((iW W).alloc _);simp only [Option.getD_none,Option.isSome_none] at d;go_enter Tryz.func164,Tryz.ntmps164;go_wp2_with fail;refine (HR _ ((iW W).alloc _)).mono ?_;rintro e w1 ⟨rfl,rfl⟩;go_wp2_with fail;refine (HU _).mono ?_;rintro e w2 ⟨rfl,g2⟩;have p:Grew W w2:=(((iW W).alloc _).alloc _).trans g2;have f:=Q.grew p;have a:=(N.alloc _).grew g2;have p0:=f.cell 0;have p3:=f.cell 3;have pl:=f.lt;have z0:=a.cell 0;have z1:=a.cell 1;have z2:=a.cell 2;have f0:=a.frozen 0;have f1:=a.frozen 1;have f2:=a.frozen 2;have zl:=a.lt;unfold Ct at p0 p3;have q:=zh p;have I:=zh f;have J:=zh a;clear p f a g2 d;go_wp2_with fail;rw [show (eu==0)=(AN t i).ok from P.out.symm];have g:Grew w2 (w2.alloc (.cells #[.string (AN t i).data,.int .u32 (u32 (AN t i).ver),.bool (AN t i).ok] 206)).drew:=((iW w2).alloc _).drew;have c:Blk (w2.alloc (.cells #[.string (AN t i).data,.int .u32 (u32 (AN t i).ver),.bool (AN t i).ok] 206)).drew w2.heap.size 206 #[.string (AN t i).data,.int .u32 (u32 (AN t i).ver),.bool (AN t i).ok]:=(ik w2 _ _ rfl).drew;have n:=I.grew g;have u:=J.grew g;have v:=(G.grew q).grew g;have w:=q.out.trans g;have U:=G.out.lt;have V:=q.size;obtain ⟨kl,l⟩:∃kl,keyOf Tryz.prog 3 (intV i)=some kl:=⟨_,O⟩;refine AB [8] (λw':World=>w'.cell? ⟨s,3,none⟩=some (.map (some m))/\s<w'.heap.size/\w'.cell? ⟨w2.heap.size,0,none⟩=some (.string (AN t i).data)/\w'.cell? ⟨w2.heap.size,1,none⟩=some (.int .u32 (u32 (AN t i).ver))/\w'.cell? ⟨w2.heap.size,2,none⟩=some (.bool (AN t i).ok)/\w2.heap.size<w'.heap.size) qk ?_;have hS:=(show (λw':World=>w'.cell? ⟨s,3,none⟩=some (.map (some m))/\s<w'.heap.size/\w'.cell? ⟨w2.heap.size,0,none⟩=some (.string (AN t i).data)/\w'.cell? ⟨w2.heap.size,1,none⟩=some (.int .u32 (u32 (AN t i).ver))/\w'.cell? ⟨w2.heap.size,2,none⟩=some (.bool (AN t i).ok)/\w2.heap.size<w'.heap.size) (w2.alloc (.cells #[.string (AN t i).data,.int .u32 (u32 (AN t i).ver),.bool (AN t i).ok] 206)).drew from ⟨n.cell 3,n.lt,c.cell 0,c.cell 1,c.cell 2,c.lt⟩);clear p0 p3 pl z0 z1 z2 f0 f1 f2 zl;refine tQ 0 56 ?_;refine tT 1 (some 57) hS ?_;refine tQ 2 58 ?_;refine tT 3 (some 59) hS ?_;refine tQ 4 60 ?_;refine tQ 5 61 ?_;refine tT 6 (some 62) hS ?_;refine tQ 7 63 ?_;clear hS;obtain ⟨w3,E⟩:∃w3,w3=(w2.alloc (.cells #[.string (AN t i).data,.int .u32 (u32 (AN t i).ver),.bool (AN t i).ok] 206)).drew:=⟨_,rfl⟩;rw [<-E] at c n u v w ⊢;clear E g;refine tO 8 λK' hK=>?_;refine D6 (.tmp 59) (.tmp 60) (.tmp 63) 250 rfl 293 BH Bx Tryz.underlying250 rfl v i l (OE t i) rfl rfl ?_;intro w4 C o;refine hK.out _ _ (.inl (by rfl)) ?_;clear hK l;refine AA qk ?_ _;have j:=c.turned o oo;have b:=u.turned o oo;have p0:=j.cell 0;have p1:=j.cell 1;have p2:=j.cell 2;have pl:=j.lt;have z0:=b.cell 0;have z1:=b.cell 1;have z2:=b.cell 2;have f0:=b.frozen 0;have f1:=b.frozen 1;have f2:=b.frozen 2;have zl:=b.lt;have B:Turned (λk=>k=m) W w4:=(w.turned _).trans o;have K:=zh B;have L:=zh C;have X:¬W.heap.size=m:=oo;clear C o B j b v n u w c;go_wp2_with fail;refine im (by first | (simp [*,results,Tryz.results164,go_sem];rfl) | simp [*,results,Tryz.results164,go_sem]) rfl ?_;rw [A.out];refine ⟨rfl,?_⟩;have hT:∀w9,Turned (λk=>k=W.heap.size) w4 w9->Looked w0 x s m sy ep D out W w9:=λw9 h9=>OP HH H L K h9 oo;exact hT _ (gT)
   | some mv=>
     obtain ⟨t',ag,rfl⟩:=H.out i mv y;by_cases M:t'=t
     . subst M;rw [y] at z;clear y;have d:=z.out (W.alloc (.cells #[.string ⟨#[]⟩,.int .u32 0,.bool false] 206)) ((iW W).alloc _);simp only [jv,Option.isSome_some] at d;unfold OE at d;go_enter Tryz.func164,Tryz.ntmps164;go_wp2_with fail;refine (HR _ ((iW W).alloc _)).mono ?_;rintro e w1 ⟨rfl,rfl⟩;go_wp2_with fail;refine im (by first | (simp [*,results,Tryz.results164,go_sem];rfl) | simp [*,results,Tryz.results164,go_sem]) rfl ?_;rw [A.out];exact ⟨rfl,HH.same (((iW W).alloc _).alloc _)⟩
     . have ad:=Mq M;rw [y] at z;clear y M;have d:=z.out (W.alloc (.cells #[.string ⟨#[]⟩,.int .u32 0,.bool false] 206)) ((iW W).alloc _);simp only [jv,Option.isSome_some] at d;unfold OE at d;go_enter Tryz.func164,Tryz.ntmps164;go_wp2_with fail;refine (HR _ ((iW W).alloc _)).mono ?_;rintro e w1 ⟨rfl,rfl⟩;go_wp2_with fail;refine (HU _).mono ?_;rintro e w2 ⟨rfl,g2⟩;have p:Grew W w2:=(((iW W).alloc _).alloc _).trans g2;have f:=Q.grew p;have a:=(N.alloc _).grew g2;have p0:=f.cell 0;have p3:=f.cell 3;have pl:=f.lt;have z0:=a.cell 0;have z1:=a.cell 1;have z2:=a.cell 2;have f0:=a.frozen 0;have f1:=a.frozen 1;have f2:=a.frozen 2;have zl:=a.lt;unfold Ct at p0 p3;have q:=zh p;have I:=zh f;have J:=zh a;clear p f a g2 d;go_wp2_with fail;rw [show (eu==0)=(AN t i).ok from P.out.symm];have g:Grew w2 (w2.alloc (.cells #[.string (AN t i).data,.int .u32 (u32 (AN t i).ver),.bool (AN t i).ok] 206)).drew:=((iW w2).alloc _).drew;have c:Blk (w2.alloc (.cells #[.string (AN t i).data,.int .u32 (u32 (AN t i).ver),.bool (AN t i).ok] 206)).drew w2.heap.size 206 #[.string (AN t i).data,.int .u32 (u32 (AN t i).ver),.bool (AN t i).ok]:=(ik w2 _ _ rfl).drew;have n:=I.grew g;have u:=J.grew g;have v:=(G.grew q).grew g;have w:=q.out.trans g;have U:=G.out.lt;have V:=q.size;obtain ⟨kl,l⟩:∃kl,keyOf Tryz.prog 3 (intV i)=some kl:=⟨_,O⟩;refine AB [8] (λw':World=>w'.cell? ⟨s,3,none⟩=some (.map (some m))/\s<w'.heap.size/\w'.cell? ⟨w2.heap.size,0,none⟩=some (.string (AN t i).data)/\w'.cell? ⟨w2.heap.size,1,none⟩=some (.int .u32 (u32 (AN t i).ver))/\w'.cell? ⟨w2.heap.size,2,none⟩=some (.bool (AN t i).ok)/\w2.heap.size<w'.heap.size) qk ?_;have hS:=(show (λw':World=>w'.cell? ⟨s,3,none⟩=some (.map (some m))/\s<w'.heap.size/\w'.cell? ⟨w2.heap.size,0,none⟩=some (.string (AN t i).data)/\w'.cell? ⟨w2.heap.size,1,none⟩=some (.int .u32 (u32 (AN t i).ver))/\w'.cell? ⟨w2.heap.size,2,none⟩=some (.bool (AN t i).ok)/\w2.heap.size<w'.heap.size) (w2.alloc (.cells #[.string (AN t i).data,.int .u32 (u32 (AN t i).ver),.bool (AN t i).ok] 206)).drew from ⟨n.cell 3,n.lt,c.cell 0,c.cell 1,c.cell 2,c.lt⟩);clear p0 p3 pl z0 z1 z2 f0 f1 f2 zl;refine tQ 0 56 ?_;refine tT 1 (some 57) hS ?_;refine tQ 2 58 ?_;refine tT 3 (some 59) hS ?_;refine tQ 4 60 ?_;refine tQ 5 61 ?_;refine tT 6 (some 62) hS ?_;refine tQ 7 63 ?_;clear hS;obtain ⟨w3,E⟩:∃w3,w3=(w2.alloc (.cells #[.string (AN t i).data,.int .u32 (u32 (AN t i).ver),.bool (AN t i).ok] 206)).drew:=⟨_,rfl⟩;rw [<-E] at c n u v w ⊢;clear E g;refine tO 8 λK' hK=>?_;refine D6 (.tmp 59) (.tmp 60) (.tmp 63) 250 rfl 293 BH Bx Tryz.underlying250 rfl v i l (OE t i) rfl rfl ?_;intro w4 C o;refine hK.out _ _ (.inl (by rfl)) ?_;clear hK l;refine AA qk ?_ _;have j:=c.turned o oo;have b:=u.turned o oo;have p0:=j.cell 0;have p1:=j.cell 1;have p2:=j.cell 2;have pl:=j.lt;have z0:=b.cell 0;have z1:=b.cell 1;have z2:=b.cell 2;have f0:=b.frozen 0;have f1:=b.frozen 1;have f2:=b.frozen 2;have zl:=b.lt;have B:Turned (λk=>k=m) W w4:=(w.turned _).trans o;have K:=zh B;have L:=zh C;have X:¬W.heap.size=m:=oo;clear C o B j b v n u w c;go_wp2_with fail;refine im (by first | (simp [*,results,Tryz.results164,go_sem];rfl) | simp [*,results,Tryz.results164,go_sem]) rfl ?_;rw [A.out];refine ⟨rfl,?_⟩;have hT:∀w9,Turned (λk=>k=W.heap.size) w4 w9->Looked w0 x s m sy ep D out W w9:=λw9 h9=>OP HH H L K h9 oo;exact hT _ (gT)
 . have af:(er != 0)=true:=by rw [jH];exact h0
   have A:Hid (Dm D i=(KQ,er)):=zh (by unfold Dm;rw [hr];exact if_neg h0);have HH:=zh h;clear h h0 hr hb;go_enter Tryz.func164,Tryz.ntmps164;go_wp2_with fail;refine (HR _ ((iW W).alloc _)).mono ?_;rintro e w1 ⟨rfl,rfl⟩;go_wp2_with fail;refine im (by first | (simp [*,results,Tryz.results164,go_sem];rfl) | simp [*,results,Tryz.results164,go_sem]) rfl ?_;rw [A.out];exact ⟨rfl,HH.same ((iW W).alloc _)⟩
end

def Oi (D:Dev):Raw × Int:=((Dm D 0).1,if (Dm D 0).2=0 then (if (Dm D 0).1.ok=true then 0 else 11) else (Dm D 0).2)
def C1 (D:Dev) (i:Int) (v:BitVec 32):Raw × Int:=
 if (Dm D i).2≠0 then (KQ,(Dm D i).2) else if (Dm D i).1.ok=false then (KQ,11) else if (Dm D i).1.ver≠v then (KQ,12) else ((Dm D i).1,0)
theorem CX {w0:World} {x s m:Nat} {sy ep:Int} {D:Dev} {out:Nat->Prop} {W w1 w9:World} (h:Held w0 x s m sy ep D out W) (hl:Looked w0 x s m sy ep D out W w1) (ht:Turned (λk=>W.heap.size<=k) w1 w9):Looked w0 x s m sy ep D out W w9:=by
 have hT:Turned (λk=>k=m) W w9:=hl.turned.next ht (λk hk e=>absurd hk oo);have a:=h.store.lt;exact ⟨h.live.turn1 h.om h.m0 hT,hl.store.kept ht oo oo,hT⟩
theorem Blk.looked {w0:World} {x s m:Nat} {sy ep:Int} {D:Dev} {out:Nat->Prop} {w1 w2:World} {g:Nat} {t:TypeId} {cs:Array Value} (hb:Blk w1 g t cs) (hl:Looked w0 x s m sy ep D out w1 w2) (hg:¬g=m):Blk w2 g t cs:=hb.turned hl.turned hg
section
variable {w0:World} {x s m:Nat} {sy ep:Int} {D:Dev} {out:Nat->Prop} {W:World} (h:Held w0 x s m sy ep D out W)
include h
theorem E5 (i:Int) (hi:okI i) (d:ByteArray) (v:BitVec 32) (k:Bool) (er:Int) (hr:Dm D i=(⟨d,v,k⟩,er)):Calls Tryz.prog 164 #[ptrV s,.int .i64 i] W λe w'=>e=.returned (.tuple #[.agg #[.string d,.int .u32 (u32 v),.bool k],.int .i64 er])/\Looked w0 x s m sy ep D out W w':=by
 have:=Xj h i hi;rw [hr] at this;exact this
theorem Qh:Calls Tryz.prog 124 #[ptrV s] W (fy w0 x s m sy ep D out W (Oi D)):=by
 obtain ⟨⟨⟨d,v,k⟩,er⟩,hr⟩:∃r,Dm D 0=r:=⟨_,rfl⟩;have hz:Blk (W.alloc (.cells #[.string ⟨#[]⟩,.int .u32 0,.bool false] 206)) W.heap.size 206 #[.string ⟨#[]⟩,.int .u32 0,.bool false]:=ik W _ _ rfl;have f:=zh (λw1 (hg:Grew W w1)=>E5 (h.grew hg) 0 (by unfold okI;omega) d v k er hr);have g:=h.store.lt.2;have HH:=zh h;have HZ:=zh hz;clear h hz;by_cases h0:er=0
 . subst h0;cases k with
   | true=>
     have HT:Hid (Oi D=(⟨d,v,true⟩,0)):=zh (by unfold Oi;rw [hr];rfl);clear hr;go_enter Tryz.func124,Tryz.ntmps124;go_wp2_with fail;refine (f _ ((iW W).alloc _)).mono ?_;rintro e w1 ⟨rfl,b⟩;have a:=HZ.looked b oo;have z0:=a.cell 0;have z1:=a.cell 1;have z2:=a.cell 2;have f0:=a.frozen 0;have f1:=a.frozen 1;have f2:=a.frozen 2;have zl:=a.lt;have c:=zh ((HH.same ((iW W).alloc (.cells #[.string ⟨#[]⟩,.int .u32 0,.bool false] 206))).trans b);clear b a;go_wp2_with fail;refine im (by first | (simp [*,results,Tryz.results124,go_sem];rfl) | simp [*,results,Tryz.results124,go_sem]) rfl ?_;rw [HT.out];exact ⟨rfl,CX HH c (gT)⟩
   | false=>
     have HT:Hid (Oi D=(⟨d,v,false⟩,11)):=zh (by unfold Oi;rw [hr];rfl);clear hr;go_enter Tryz.func124,Tryz.ntmps124;go_wp2_with fail;refine (f _ ((iW W).alloc _)).mono ?_;rintro e w1 ⟨rfl,b⟩;have a:=HZ.looked b oo;have z0:=a.cell 0;have z1:=a.cell 1;have z2:=a.cell 2;have f0:=a.frozen 0;have f1:=a.frozen 1;have f2:=a.frozen 2;have zl:=a.lt;have c:=zh ((HH.same ((iW W).alloc (.cells #[.string ⟨#[]⟩,.int .u32 0,.bool false] 206))).trans b);clear b a;go_wp2_with fail;refine im (by first | (simp [*,results,Tryz.results124,go_sem];rfl) | simp [*,results,Tryz.results124,go_sem]) rfl ?_;rw [HT.out];exact ⟨rfl,CX HH c (gT)⟩
 . have i:(er==0)=false:=by rw [it];exact h0
   have HT:Hid (Oi D=(⟨d,v,k⟩,er)):=zh (by unfold Oi;rw [hr];show (_,if er=0 then _ else er)=_;rw [if_neg h0]);clear hr h0;go_enter Tryz.func124,Tryz.ntmps124;go_wp2_with fail;refine (f _ ((iW W).alloc _)).mono ?_;rintro e w1 ⟨rfl,b⟩;have a:=HZ.looked b oo;have z0:=a.cell 0;have z1:=a.cell 1;have z2:=a.cell 2;have f0:=a.frozen 0;have f1:=a.frozen 1;have f2:=a.frozen 2;have zl:=a.lt;have c:=zh ((HH.same ((iW W).alloc (.cells #[.string ⟨#[]⟩,.int .u32 0,.bool false] 206))).trans b);clear b a;go_wp2_with fail;refine im (by first | (simp [*,results,Tryz.results124,go_sem];rfl) | simp [*,results,Tryz.results124,go_sem]) rfl ?_;rw [HT.out];exact ⟨rfl,CX HH c (gT)⟩
theorem JH (i:Int) (hi:okI i) (ver:BitVec 32):Calls Tryz.prog 130 #[ptrV s,.int .i64 i,.int .u32 (u32 ver)] W (fy w0 x s m sy ep D out W (C1 D i ver)):=by
 obtain ⟨⟨⟨d,v,k⟩,er⟩,hr⟩:∃r,Dm D i=r:=⟨_,rfl⟩;have hz:Blk (W.alloc (.cells #[.string ⟨#[]⟩,.int .u32 0,.bool false] 206)) W.heap.size 206 #[.string ⟨#[]⟩,.int .u32 0,.bool false]:=ik W _ _ rfl;have f:=zh (λw1 (hg:Grew W w1)=>E5 (h.grew hg) i hi d v k er hr);have g:=h.store.lt.2;have HH:=zh h;have HZ:=zh hz;clear h hz;by_cases h0:er=0
 . subst h0;cases k with
   | true=>
     by_cases hv:v=ver
     . have hb:(u32 v != u32 ver)=false:=by rw [hv];simp
       have HT:Hid (C1 D i ver=(⟨d,v,true⟩,0)):=zh (by unfold C1;rw [hr,if_neg qs,if_neg qs,if_neg (by simpa using hv)]);clear hr hv;go_enter Tryz.func130,Tryz.ntmps130;go_wp2_with fail;refine (f _ ((iW W).alloc _)).mono ?_;rintro e w1 ⟨rfl,b⟩;have a:=HZ.looked b oo;have z0:=a.cell 0;have z1:=a.cell 1;have z2:=a.cell 2;have f0:=a.frozen 0;have f1:=a.frozen 1;have f2:=a.frozen 2;have zl:=a.lt;have c:=zh ((HH.same ((iW W).alloc (.cells #[.string ⟨#[]⟩,.int .u32 0,.bool false] 206))).trans b);clear b a;go_wp2_with fail;refine im (by first | (simp [*,results,Tryz.results130,go_sem];rfl) | simp [*,results,Tryz.results130,go_sem]) rfl ?_;rw [HT.out];exact ⟨rfl,CX HH c (gT)⟩
     . have hb:(u32 v != u32 ver)=true:=by rw [jH];exact λe=>hv (Hn e)
       have HT:Hid (C1 D i ver=(KQ,12)):=zh (by unfold C1;rw [hr,if_neg qs,if_neg qs,if_pos (by simpa using hv)]);clear hr hv;go_enter Tryz.func130,Tryz.ntmps130;go_wp2_with fail;refine (f _ ((iW W).alloc _)).mono ?_;rintro e w1 ⟨rfl,b⟩;have a:=HZ.looked b oo;have z0:=a.cell 0;have z1:=a.cell 1;have z2:=a.cell 2;have f0:=a.frozen 0;have f1:=a.frozen 1;have f2:=a.frozen 2;have zl:=a.lt;have c:=zh ((HH.same ((iW W).alloc (.cells #[.string ⟨#[]⟩,.int .u32 0,.bool false] 206))).trans b);clear b a;go_wp2_with fail;refine im (by first | (simp [*,results,Tryz.results130,go_sem];rfl) | simp [*,results,Tryz.results130,go_sem]) rfl ?_;rw [HT.out];exact ⟨rfl,CX HH c (gT)⟩
   | false=>
     have HT:Hid (C1 D i ver=(KQ,11)):=zh (by unfold C1;rw [hr,if_neg qs,if_pos rfl]);clear hr;go_enter Tryz.func130,Tryz.ntmps130;go_wp2_with fail;refine (f _ ((iW W).alloc _)).mono ?_;rintro e w1 ⟨rfl,b⟩;have a:=HZ.looked b oo;have z0:=a.cell 0;have z1:=a.cell 1;have z2:=a.cell 2;have f0:=a.frozen 0;have f1:=a.frozen 1;have f2:=a.frozen 2;have zl:=a.lt;have c:=zh ((HH.same ((iW W).alloc (.cells #[.string ⟨#[]⟩,.int .u32 0,.bool false] 206))).trans b);clear b a;go_wp2_with fail;refine im (by first | (simp [*,results,Tryz.results130,go_sem];rfl) | simp [*,results,Tryz.results130,go_sem]) rfl ?_;rw [HT.out];exact ⟨rfl,CX HH c (gT)⟩
 . have j:(er != 0)=true:=by rw [jH];exact h0
   have HT:Hid (C1 D i ver=(KQ,er)):=zh (by unfold C1;rw [hr,if_pos h0]);clear hr h0;go_enter Tryz.func130,Tryz.ntmps130;go_wp2_with fail;refine (f _ ((iW W).alloc _)).mono ?_;rintro e w1 ⟨rfl,b⟩;have a:=HZ.looked b oo;have z0:=a.cell 0;have z1:=a.cell 1;have z2:=a.cell 2;have f0:=a.frozen 0;have f1:=a.frozen 1;have f2:=a.frozen 2;have zl:=a.lt;have c:=zh ((HH.same ((iW W).alloc (.cells #[.string ⟨#[]⟩,.int .u32 0,.bool false] 206))).trans b);clear b a;go_wp2_with fail;refine im (by first | (simp [*,results,Tryz.results130,go_sem];rfl) | simp [*,results,Tryz.results130,go_sem]) rfl ?_;rw [HT.out];exact ⟨rfl,CX HH c (gT)⟩
end

section
variable {w0:World} {x:Nat} {D:Dev} {out:Nat->Prop} {W:World} (h:Live w0 x D out W)
include h
theorem SD (sy ep:Int) (h1:132<=D.st.length/\D.st.length<=1155) (hs:1<=sy/\sy<=4) (he:0<=ep/\ep<=1099511627776):
 Calls Tryz.prog 115 #[ptrV x,.agg #[.int .i64 sy,.int .i64 ep]] W λe w'=>e=.returned (.bool true)/\Grew W w':=by
 have HS:=zh (λw1 (hg:Grew W w1)=>DZ (h.grew hg));obtain ⟨n,hn⟩:∃n:Nat,D.st.length - 131=n:=⟨_,rfl⟩;have a:(D.st.length:Int) - 131=(n:Int):=oo;have n1:(n:Int)>=1:=oo;have n2:(n:Int)<=1024:=oo;have s1:sy>=1:=hs.1;have s2:sy<=4:=hs.2;have e1:ep>=0:=he.1;have e2:ep<=1099511627776:=he.2;have hL:(D.st.length:Int)<=1155:=oo;clear h h1 hn hs he;go_enter Tryz.func115,Tryz.ntmps115;go_wp2_with fail;refine (HS _ ((iW W).alloc _)).mono ?_;rintro e w1 ⟨rfl,rfl⟩;go_wp2_with fail;go_ret;exact ⟨rfl,gG⟩
theorem Kk (sy ep:Int):Calls Tryz.prog 116 #[ptrV x,.agg #[.int .i64 sy,.int .i64 ep]] W λe w'=>∃s m,e=.returned (ptrV s)/\StoreM w' s m x sy ep/\Grew W w'/\W.heap.size<=s/\W.heap.size<=m:=by
 have a:=@run_makeMap Tryz.prog;have HG:Hid (Grew W (((W.alloc (.cells #[.int .i64 sy,.int .i64 ep] 88)).alloc (.map #[] 0)).alloc (.cells (Ct x sy ep (W.heap.size+1)) 252))):=zh ((((iW W).alloc _).alloc _).alloc _);have HB:Hid (Blk (((W.alloc (.cells #[.int .i64 sy,.int .i64 ep] 88)).alloc (.map #[] 0)).alloc (.cells (Ct x sy ep (W.heap.size+1)) 252)) (W.heap.size+1+1) 252 (Ct x sy ep (W.heap.size+1))):=zh (ik _ _ _ qs);have HM:Hid (MapI (((W.alloc (.cells #[.int .i64 sy,.int .i64 ep] 88)).alloc (.map #[] 0)).alloc (.cells (Ct x sy ep (W.heap.size+1)) 252)) (W.heap.size+1) (λ_=>none)):=zh ((MapIs.made _ qs).alloc _);clear h;go_enter Tryz.func116,Tryz.ntmps116;go_wp2_with fail;go_ret;exact ⟨_,_,rfl,⟨HB,_,HM,λi v h=>by cases h⟩,HG.out,oo,oo⟩
end
theorem J0 {w0:World} {x s m:Nat} {sy ep:Int} {D:Dev} {out:Nat->Prop} {W:World} (h:Held w0 x s m sy ep D out W):Calls Tryz.prog 152 #[ptrV s] W λe w'=>e=.returned (.int .i64 ((D.st.length:Int) - 131))/\Grew W w':=by
 have HS:=zh (λw1 (hg:Grew W w1)=>DZ (h.live.grew hg));have hb:=h.store.blk;unfold Ct at hb;have s0:=hb.cell 0;have sl:=hb.lt;have hl:=h.live.ok.lim;have a:(D.st.length:Int)<=1155:=oo;clear h hb hl;go_enter Tryz.func152,Tryz.ntmps152;go_wp2_with fail;refine (HS _ (iW W)).mono ?_;rintro e w1 ⟨rfl,rfl⟩;go_wp2_with fail;go_ret;exact ⟨rfl,gG⟩

theorem Sy {D:Dev} (hf:D.failed=false) (i:Nat) (hi:i<D.st.length):GJ D (i:Int)=(D.content i,0):=by
 unfold GJ;rw [if_neg (by unfold FQ;simp;omega),if_neg (by rw [hf];simp)];rfl
theorem P5 {D:Dev} (hf:D.failed=true) (i:Nat) (hi:i<D.st.length):GJ D (i:Int)=(emp,10):=by
 unfold GJ;rw [if_neg (by unfold FQ;simp;omega),if_pos hf]
theorem Dv {D:Dev} (hf:D.failed=false) (i:Nat) (hi:i<D.st.length):Dm D (i:Int)=(AN (D.content i) (i:Int),0):=by
 unfold Dm;rw [Sy hf i hi];rfl
theorem Qi {D:Dev} (hf:D.failed=true) (i:Nat) (hi:i<D.st.length):Dm D (i:Int)=(KQ,10):=by
 unfold Dm;rw [P5 hf i hi];rfl
theorem Cr {t:ByteArray} {i:Int} (h:(AN t i).ok=true):(AN t i).data.size=128:=by
 unfold AN at h ⊢;by_cases ho:okR t i
 . rw [if_pos ho];show (t.extract 0 128).size=128;rw [i0,ho.1];rfl
 . rw [if_neg ho] at h;cases h
theorem Ky (l:List ByteArray) (s:ByteArray):AP (l++[s])=AP l++s:=by
 induction l with
 | nil=>show s++(⟨#[]⟩:ByteArray)=(⟨#[]⟩:ByteArray)++s;rw [show (⟨#[]⟩:ByteArray)=ByteArray.empty from rfl,j3,kO]
 | cons x l ih=>show x++AP (l++[s])=(x++AP l)++s;rw [ih,jq]
theorem LZ (l:List ByteArray) (h:∀s∈l,s.size=140):(AP l).size=140*l.length:=by
 induction l with
 | nil=>rfl
 | cons x l ih=>show (x++AP l).size=_;rw [io,ih (λs hs=>h s (iz _ hs)),h x (jA ..),jf];omega
theorem IU (D:Dev) (k:Nat):Cm D (k+1)=Cm D k++[IH D k]:=by
 unfold Cm;rw [kP,il];rfl
theorem Ip {D:Dev} (h:D.Ok) (hl:131<=D.st.length) (k:Nat) (hk:k<=97):(AP (Cm D k)).size=140*k:=by
 rw [LZ _ (λs hs=>?_)]
 . unfold Cm;rw [iY,jr]
 . obtain ⟨j,hj,rfl⟩:=ie.1 hs;have:=jB.1 hj;exact Fc h oo
def Gy (D:Dev) (k:Nat):List (Int × ByteArray):=(Cm D k).map λs=>(Gr s,s)
theorem Mi (D:Dev) (k:Nat):Gy D (k+1)=Gy D k++[(Gr (IH D k),IH D k)]:=by
 unfold Gy;rw [IU,il];rfl
theorem PN (D:Dev) (k:Nat):(Gy D k).length=k:=by unfold Gy Cm;rw [iY,iY,jr]
theorem ML {D:Dev} (h:Ft D=false):AU D=[]:=by unfold AU GP;rw [h];rfl
theorem MO {D:Dev} (k:Nat) (hk:k<Fh D) (h:IT D.st.length (B7 D).ver (IH D k)=false):AU D=[]:=by
 have:NA D=false:=by
  unfold NA;rw [List.all_eq_false];exact ⟨IH D k,ie.2 ⟨k,jB.2 hk,rfl⟩,by rw [h];simp⟩
 unfold AU GP;rw [this];simp
theorem du {D:Dev} (h:XF D=false):AU D=[]:=by unfold AU GP;rw [h];simp
theorem dD {D:Dev} (h:V0 D=false):AU D=[]:=by unfold AU GP;rw [h];simp
theorem dB {D:Dev} (h1:Ft D=true) (h2:∀k,k<Fh D->IT D.st.length (B7 D).ver (IH D k)=true) (h3:XF D=true) (h4:V0 D=true):AU D=Gy D (Fh D):=by
 have:NA D=true:=by
  unfold NA;rw [jN];intro s hs;obtain ⟨k,hk,rfl⟩:=ie.1 hs;exact h2 k (jB.1 hk)
 unfold AU GP;rw [h1,this,h3,h4];rfl
theorem Gq (k g:Nat) (hk:k<3) (d:ByteArray) (v:Int) (b:Bool) (hd:d.size=128) (W:World) (hb:Blk W g 206 #[.string d,.int .u32 v,.bool b]):
 Calls Tryz.prog 197 #[.int .i64 (k:Int),ptrV g] W λe w'=>e=.returned (.int .u32 (u32 (fld d k)))/\Grew W w':=by
 have HN:=zh (λ(w:World)=>Dj (d.extract (4*k) (4*k+4)) (by rw [i0];omega) w);have a:128<=d.size/\d.size<=128:=oo;have c0:=hb.cell 0;have hl:=hb.lt;clear hb hd;go_enter Tryz.func197,Tryz.ntmps197;go_wp2_with fail;refine (HN _).mono ?_;rintro e w1 ⟨rfl,g1⟩;go_wp2_with fail;go_ret;exact ⟨rfl,g1⟩

theorem J5:(Tryz.prog.info? 218).map (λi=>(i.zero,i.size,i.bytes))=some (some (.agg #[.int .i64 0,.string ⟨#[]⟩]),2,24):=qk
def SY (w0:World) (x s m:Nat) (sy ep:Int) (D:Dev) (out:Nat->Prop) (W:World) (r:List (Int × ByteArray) × Int) (e:Ending) (w':World):Prop:=
 ∃v,e=.returned (.tuple #[v,.int .i64 r.2])/\OwnL w' W.heap.size 218 2 v (r.1.map B0)/\Looked w0 x s m sy ep D out W w'
section
variable {w0:World} {x s m:Nat} {sy ep:Int} {D:Dev} {out:Nat->Prop} {W:World} (h:Held w0 x s m sy ep D out W) (hlen:132<=D.st.length)
include h hlen
theorem Od (hf:D.failed=true):Calls Tryz.prog 163 #[ptrV s] W (SY w0 x s m sy ep D out W ([],10)):=by
 have hr:=Qi hf 33 oo;have b:=zh (λw1 (hg:Grew W w1)=>E5 (h.grew hg) 33 (by unfold okI;omega) _ _ _ 10 hr);have HH:=zh h;clear h hr hf hlen;go_enter Tryz.func163,Tryz.ntmps163;go_wp2_with fail;refine (b _ (iW W)).mono ?_;rintro e w1 ⟨rfl,a⟩;have c:=zh a;clear a;go_wp2_with fail;go_ret2;exact ⟨_,rfl,OwnL.nil ..,c.grew ((iW _).alloc _)⟩
theorem Rr (hf:D.failed=false) (hs:(B7 D).ok=false):Calls Tryz.prog 163 #[ptrV s] W (SY w0 x s m sy ep D out W (AU D,0)):=by
 have hr:=Dv hf 33 oo;have hi:=NF D hs;obtain ⟨⟨d,v,k⟩,hd⟩:∃r,B7 D=r:=⟨_,rfl⟩;rw [show AN (D.content 33) ((33:Nat):Int)=B7 D from rfl,hd] at hr;rw [hd] at hs;have hk:k=false:=hs;subst hk;have b:=zh (λw1 (hg:Grew W w1)=>E5 (h.grew hg) 33 (by unfold okI;omega) _ _ _ 0 hr);have HH:=zh h;have HI:=zh hi;clear h hr hf hlen hs hd hi;go_enter Tryz.func163,Tryz.ntmps163;go_wp2_with fail;refine (b _ (iW W)).mono ?_;rintro e w1 ⟨rfl,a⟩;have c:=zh a;clear a;go_wp2_with fail;go_ret2;rw [HI.out];exact ⟨_,rfl,OwnL.nil ..,c.grew ((iW _).alloc _)⟩
end
section
variable {w0:World} {x s m:Nat} {sy ep:Int} {D:Dev} {out:Nat->Prop} {W:World} (h:Held w0 x s m sy ep D out W) (hlen:132<=D.st.length) (hf:D.failed=false) (d:ByteArray) (v:BitVec 32) (hd:B7 D=⟨d,v,true⟩)
include h hlen hf hd
theorem VM (hv:fld d 0≠v):Calls Tryz.prog 163 #[ptrV s] W (SY w0 x s m sy ep D out W (AU D,0)):=by
 have hr:=Dv hf 33 oo;rw [show AN (D.content 33) ((33:Nat):Int)=B7 D from rfl,hd] at hr;have c:d.size=128:=by have:=Cr (t:=D.content 33) (i:=33) (by rw [show AN (D.content 33) 33=B7 D from rfl,hd]);rw [show AN (D.content 33) 33=B7 D from rfl,hd] at this;exact this
 have o:=zh (λw1 (hg:Grew W w1)=>E5 (h.grew hg) 33 (by unfold okI;omega) _ _ _ 0 hr);have HF:Hid (∀(k:Nat) (i:Int),k<3->i=(k:Int)->∀(g:Nat) (w:World),Blk w g 206 #[.string d,.int .u32 (u32 v),.bool true]->Calls Tryz.prog 197 #[.int .i64 i,ptrV g] w λe w'=>e=.returned (.int .u32 (u32 (fld d k)))/\Grew w w'):=zh (λk i hk hi g w hb=>by rw [hi];exact Gq k g hk d _ _ c w hb);have u0:=An (fld d 0);have u1:=An (fld d 1);have u2:=An (fld d 2);have uv:=An v;have HI:=zh (ML (D:=D) (by unfold Ft;rw [hd];simp [hv]));have hb:(u32 (fld d 0) != u32 v)=true:=by rw [jH];exact λe=>hv (Hn e)
 have HH:=zh h;clear h hr hf hlen hd c hv;go_enter Tryz.func163,Tryz.ntmps163;go_wp2_with fail;refine (o _ (iW W)).mono ?_;rintro e w1 ⟨rfl,b⟩;have f:Blk (w1.alloc (.cells #[.string d,.int .u32 (u32 v),.bool true] 206)) w1.heap.size 206 #[.string d,.int .u32 (u32 v),.bool true]:=ik w1 _ _ rfl;have y:=b.turned.size;have p:=zh (b.grew ((iW w1).alloc (.cells #[.string d,.int .u32 (u32 v),.bool true] 206)));have j:=zh f;clear b f;go_wp2_with fail;refine (HF 0 0 oo rfl _ _ j).mono ?_;rintro e w2 ⟨rfl,g2⟩;have l:=zh (j.grew g2);have q:=zh (p.grew g2);clear g2;go_wp2_with fail;refine (HF 1 1 oo rfl _ _ l).mono ?_;rintro e w3 ⟨rfl,g3⟩;have n:=zh (l.grew g3);have r:=zh (q.grew g3);clear g3;go_wp2_with fail;refine (HF 2 2 oo rfl _ _ n).mono ?_;rintro e w4 ⟨rfl,g4⟩;have a:=zh (n.grew g4);have u:=zh (r.grew g4);clear g4;go_wp2_with fail;refine AB [] (λw':World=>w'.cell? ⟨w1.heap.size,0,none⟩=some (.string d)/\w'.cell? ⟨w1.heap.size,1,none⟩=some (.int .u32 (u32 v))/\w1.heap.size<w'.heap.size) qk ?_;have hS:=(show (λw':World=>w'.cell? ⟨w1.heap.size,0,none⟩=some (.string d)/\w'.cell? ⟨w1.heap.size,1,none⟩=some (.int .u32 (u32 v))/\w1.heap.size<w'.heap.size) w4.drew from ⟨a.drew.cell 0,a.drew.cell 1,a.drew.lt⟩);refine tQ 0 40 ?_;refine tQ 1 41 ?_;refine tT 2 (some 42) hS ?_;refine tQ 3 43 ?_;refine tQ 4 44 ?_;refine tU 5 (some 45) ?_;refine tU 6 (some 46) ?_;refine tQ 7 47 ?_;refine tQ 8 48 ?_;refine tU 9 (some 49) ?_;refine tU 10 (some 50) ?_;refine tQ 11 51 ?_;refine tQ 12 52 ?_;refine tU 13 (some 53) ?_;refine tU 14 (some 54) ?_;refine tU 15 (some 55) ?_;refine tU 16 (some 56) ?_;refine tU 17 (some 57) ?_;refine tU 18 (some 58) ?_;refine tQ 19 59 ?_;refine AA qk ?_ _;go_wp2_with fail;go_ret2;rw [HI.out];exact ⟨_,rfl,OwnL.nil ..,u.grew (gG)⟩
theorem Ua (hv:fld d 0=v) (hc:Fh D<1):Calls Tryz.prog 163 #[ptrV s] W (SY w0 x s m sy ep D out W (AU D,0)):=by
 have hr:=Dv hf 33 oo;rw [show AN (D.content 33) ((33:Nat):Int)=B7 D from rfl,hd] at hr;have c:d.size=128:=by have:=Cr (t:=D.content 33) (i:=33) (by rw [show AN (D.content 33) 33=B7 D from rfl,hd]);rw [show AN (D.content 33) 33=B7 D from rfl,hd] at this;exact this
 have o:=zh (λw1 (hg:Grew W w1)=>E5 (h.grew hg) 33 (by unfold okI;omega) _ _ _ 0 hr);have HF:Hid (∀(k:Nat) (i:Int),k<3->i=(k:Int)->∀(g:Nat) (w:World),Blk w g 206 #[.string d,.int .u32 (u32 v),.bool true]->Calls Tryz.prog 197 #[.int .i64 i,ptrV g] w λe w'=>e=.returned (.int .u32 (u32 (fld d k)))/\Grew w w'):=zh (λk i hk hi g w hb=>by rw [hi];exact Gq k g hk d _ _ c w hb);have u0:=An (fld d 0);have u1:=An (fld d 1);have u2:=An (fld d 2);have uv:=An v;have HI:=zh (ML (D:=D) (by unfold Ft;rw [ir (λe=>absurd e.1 oo)];simp));have hb:(u32 (fld d 0) != u32 v)=false:=by rw [hv];simp
 have p:u32 (fld d 1)<1:=by unfold Fh at hc;rw [hd] at hc;unfold u32;show ((fld d 1).toNat:Int)<1;have:(fld d 1).toNat<1:=hc;omega
 have z:decide (u32 (fld d 1)<1)=true:=iq p;have HH:=zh h;clear h hr hf hlen hd c hv hc;go_enter Tryz.func163,Tryz.ntmps163;go_wp2_with fail;refine (o _ (iW W)).mono ?_;rintro e w1 ⟨rfl,b⟩;have f:Blk (w1.alloc (.cells #[.string d,.int .u32 (u32 v),.bool true] 206)) w1.heap.size 206 #[.string d,.int .u32 (u32 v),.bool true]:=ik w1 _ _ rfl;have A:=b.turned.size;have q:=zh (b.grew ((iW w1).alloc (.cells #[.string d,.int .u32 (u32 v),.bool true] 206)));have j:=zh f;clear b f;go_wp2_with fail;refine (HF 0 0 oo rfl _ _ j).mono ?_;rintro e w2 ⟨rfl,g2⟩;have l:=zh (j.grew g2);have r:=zh (q.grew g2);clear g2;go_wp2_with fail;refine (HF 1 1 oo rfl _ _ l).mono ?_;rintro e w3 ⟨rfl,g3⟩;have n:=zh (l.grew g3);have u:=zh (r.grew g3);clear g3;go_wp2_with fail;refine (HF 2 2 oo rfl _ _ n).mono ?_;rintro e w4 ⟨rfl,g4⟩;have a:=zh (n.grew g4);have y:=zh (u.grew g4);clear g4;go_wp2_with fail;refine AB [] (λw':World=>w'.cell? ⟨w1.heap.size,0,none⟩=some (.string d)/\w'.cell? ⟨w1.heap.size,1,none⟩=some (.int .u32 (u32 v))/\w1.heap.size<w'.heap.size) qk ?_;have hS:=(show (λw':World=>w'.cell? ⟨w1.heap.size,0,none⟩=some (.string d)/\w'.cell? ⟨w1.heap.size,1,none⟩=some (.int .u32 (u32 v))/\w1.heap.size<w'.heap.size) w4.drew from ⟨a.drew.cell 0,a.drew.cell 1,a.drew.lt⟩);refine tQ 0 40 ?_;refine tQ 1 41 ?_;refine tT 2 (some 42) hS ?_;refine tQ 3 43 ?_;refine tQ 4 44 ?_;refine tQ 5 45 ?_;refine tQ 6 46 ?_;refine tQ 7 47 ?_;refine tQ 8 48 ?_;refine tU 9 (some 49) ?_;refine tU 10 (some 50) ?_;refine tQ 11 51 ?_;refine tQ 12 52 ?_;refine tU 13 (some 53) ?_;refine tU 14 (some 54) ?_;refine tU 15 (some 55) ?_;refine tU 16 (some 56) ?_;refine tU 17 (some 57) ?_;refine tU 18 (some 58) ?_;refine tQ 19 59 ?_;refine AA qk ?_ _;go_wp2_with fail;go_ret2;rw [HI.out];exact ⟨_,rfl,OwnL.nil ..,y.grew (gG)⟩
theorem SV (hv:fld d 0=v) (hc:97<Fh D):Calls Tryz.prog 163 #[ptrV s] W (SY w0 x s m sy ep D out W (AU D,0)):=by
 have hr:=Dv hf 33 oo;rw [show AN (D.content 33) ((33:Nat):Int)=B7 D from rfl,hd] at hr;have c:d.size=128:=by have:=Cr (t:=D.content 33) (i:=33) (by rw [show AN (D.content 33) 33=B7 D from rfl,hd]);rw [show AN (D.content 33) 33=B7 D from rfl,hd] at this;exact this
 have o:=zh (λw1 (hg:Grew W w1)=>E5 (h.grew hg) 33 (by unfold okI;omega) _ _ _ 0 hr);have HF:Hid (∀(k:Nat) (i:Int),k<3->i=(k:Int)->∀(g:Nat) (w:World),Blk w g 206 #[.string d,.int .u32 (u32 v),.bool true]->Calls Tryz.prog 197 #[.int .i64 i,ptrV g] w λe w'=>e=.returned (.int .u32 (u32 (fld d k)))/\Grew w w'):=zh (λk i hk hi g w hb=>by rw [hi];exact Gq k g hk d _ _ c w hb);have u0:=An (fld d 0);have u1:=An (fld d 1);have u2:=An (fld d 2);have uv:=An v;have HI:=zh (ML (D:=D) (by unfold Ft;rw [ir (λe=>absurd e.2 oo)];simp));have hb:(u32 (fld d 0) != u32 v)=false:=by rw [hv];simp
 have p:u32 (fld d 1)>97:=by unfold Fh at hc;rw [hd] at hc;unfold u32;show ((fld d 1).toNat:Int)>97;have:97<(fld d 1).toNat:=hc;omega
 have z:decide (u32 (fld d 1)<1)=false:=ir oo;have A:decide (97<u32 (fld d 1))=true:=iq p;have HH:=zh h;clear h hr hf hlen hd c hv hc;go_enter Tryz.func163,Tryz.ntmps163;go_wp2_with fail;refine (o _ (iW W)).mono ?_;rintro e w1 ⟨rfl,b⟩;have f:Blk (w1.alloc (.cells #[.string d,.int .u32 (u32 v),.bool true] 206)) w1.heap.size 206 #[.string d,.int .u32 (u32 v),.bool true]:=ik w1 _ _ rfl;have B:=b.turned.size;have q:=zh (b.grew ((iW w1).alloc (.cells #[.string d,.int .u32 (u32 v),.bool true] 206)));have j:=zh f;clear b f;go_wp2_with fail;refine (HF 0 0 oo rfl _ _ j).mono ?_;rintro e w2 ⟨rfl,g2⟩;have l:=zh (j.grew g2);have r:=zh (q.grew g2);clear g2;go_wp2_with fail;refine (HF 1 1 oo rfl _ _ l).mono ?_;rintro e w3 ⟨rfl,g3⟩;have n:=zh (l.grew g3);have u:=zh (r.grew g3);clear g3;go_wp2_with fail;refine (HF 2 2 oo rfl _ _ n).mono ?_;rintro e w4 ⟨rfl,g4⟩;have a:=zh (n.grew g4);have y:=zh (u.grew g4);clear g4;go_wp2_with fail;refine AB [] (λw':World=>w'.cell? ⟨w1.heap.size,0,none⟩=some (.string d)/\w'.cell? ⟨w1.heap.size,1,none⟩=some (.int .u32 (u32 v))/\w1.heap.size<w'.heap.size) qk ?_;have hS:=(show (λw':World=>w'.cell? ⟨w1.heap.size,0,none⟩=some (.string d)/\w'.cell? ⟨w1.heap.size,1,none⟩=some (.int .u32 (u32 v))/\w1.heap.size<w'.heap.size) w4.drew from ⟨a.drew.cell 0,a.drew.cell 1,a.drew.lt⟩);refine tQ 0 40 ?_;refine tQ 1 41 ?_;refine tT 2 (some 42) hS ?_;refine tQ 3 43 ?_;refine tQ 4 44 ?_;refine tQ 5 45 ?_;refine tQ 6 46 ?_;refine tQ 7 47 ?_;refine tQ 8 48 ?_;refine tQ 9 49 ?_;refine tQ 10 50 ?_;refine tQ 11 51 ?_;refine tQ 12 52 ?_;refine tU 13 (some 53) ?_;refine tU 14 (some 54) ?_;refine tU 15 (some 55) ?_;refine tU 16 (some 56) ?_;refine tU 17 (some 57) ?_;refine tU 18 (some 58) ?_;refine tQ 19 59 ?_;refine AA qk ?_ _;go_wp2_with fail;go_ret2;rw [HI.out];exact ⟨_,rfl,OwnL.nil ..,y.grew (gG)⟩
end

section
variable {w0:World} {x s m:Nat} {sy ep:Int} {D:Dev} {out:Nat->Prop} {W:World} (h:Held w0 x s m sy ep D out W) (hlen:132<=D.st.length) (hf:D.failed=false) (d:ByteArray) (v:BitVec 32) (hd:B7 D=⟨d,v,true⟩) (hv:fld d 0=v) (hc:1<=Fh D/\Fh D<=97)
include h hlen hf hd hv hc
theorem QP (hz:d.extract 12 128≠AO 116):Calls Tryz.prog 163 #[ptrV s] W (SY w0 x s m sy ep D out W (AU D,0)):=by
 have hr:=Dv hf 33 oo;rw [show AN (D.content 33) ((33:Nat):Int)=B7 D from rfl,hd] at hr;have c:d.size=128:=by have:=Cr (t:=D.content 33) (i:=33) (by rw [show AN (D.content 33) 33=B7 D from rfl,hd]);rw [show AN (D.content 33) 33=B7 D from rfl,hd] at this;exact this
 have A:=zh (λw1 (hg:Grew W w1)=>E5 (h.grew hg) 33 (by unfold okI;omega) _ _ _ 0 hr);have HF:Hid (∀(k:Nat) (i:Int),k<3->i=(k:Int)->∀(g:Nat) (w:World),Blk w g 206 #[.string d,.int .u32 (u32 v),.bool true]->Calls Tryz.prog 197 #[.int .i64 i,ptrV g] w λe w'=>e=.returned (.int .u32 (u32 (fld d k)))/\Grew w w'):=zh (λk i hk hi g w hb=>by rw [hi];exact Gq k g hk d _ _ c w hb);have u0:=An (fld d 0);have u1:=An (fld d 1);have u2:=An (fld d 2);have uv:=An v;have hb:(u32 (fld d 0) != u32 v)=false:=by rw [hv];simp
 have l:u32 (fld d 1)=((Fh D:Nat):Int):=by unfold Fh;rw [hd];rfl
 obtain ⟨n,hn⟩:∃n,Fh D=n:=⟨_,rfl⟩;rw [hn] at hc l;have J:decide ((n:Int)<1)=false:=ir oo;have K:decide (97<(n:Int))=false:=ir oo;have L:(n:Int)>=1:=oo;have M:(n:Int)<=97:=oo;have N:128<=d.size/\d.size<=128:=oo;have B:=zh (show d.extract 12 d.size=d.extract 12 128 from by rw [c]);have HI:=zh (ML (D:=D) (by unfold Ft;rw [hd];simp [hz]));have O:=Mq hz;rw [l] at u1;have HH:=zh h;clear h hr hf hlen hd c hv hc hz hn;go_enter Tryz.func163,Tryz.ntmps163;go_wp2_with fail;refine (A _ (iW W)).mono ?_;rintro e w1 ⟨rfl,j⟩;have o:Blk (w1.alloc (.cells #[.string d,.int .u32 (u32 v),.bool true] 206)) w1.heap.size 206 #[.string d,.int .u32 (u32 v),.bool true]:=ik w1 _ _ rfl;have P:=j.turned.size;have C:=zh (j.grew ((iW w1).alloc (.cells #[.string d,.int .u32 (u32 v),.bool true] 206)));have p:=zh o;clear j o;go_wp2_with fail;refine (HF 0 0 oo rfl _ _ p).mono ?_;rintro e w2 ⟨rfl,g2⟩;have q:=zh (p.grew g2);have E:=zh (C.grew g2);clear g2;go_wp2_with fail;refine (HF 1 1 oo rfl _ _ q).mono ?_;rintro e w3 ⟨rfl,g3⟩;have r:=zh (q.grew g3);have F:=zh (E.grew g3);clear g3;go_wp2_with fail;refine (HF 2 2 oo rfl _ _ r).mono ?_;rintro e w4 ⟨rfl,g4⟩;have b:=zh (r.grew g4);have G:=zh (F.grew g4);clear g4;go_wp2_with fail;refine AB [] (λw':World=>w'.cell? ⟨w1.heap.size,0,none⟩=some (.string d)/\w'.cell? ⟨w1.heap.size,1,none⟩=some (.int .u32 (u32 v))/\w1.heap.size<w'.heap.size) qk ?_;have hS:=(show (λw':World=>w'.cell? ⟨w1.heap.size,0,none⟩=some (.string d)/\w'.cell? ⟨w1.heap.size,1,none⟩=some (.int .u32 (u32 v))/\w1.heap.size<w'.heap.size) w4.drew from ⟨b.drew.cell 0,b.drew.cell 1,b.drew.lt⟩);refine tQ 0 40 ?_;refine tQ 1 41 ?_;refine tT 2 (some 42) hS ?_;refine tQ 3 43 ?_;refine tQ 4 44 ?_;refine tQ 5 45 ?_;refine tQ 6 46 ?_;refine tQ 7 47 ?_;refine tQ 8 48 ?_;refine tQ 9 49 ?_;refine tQ 10 50 ?_;refine tQ 11 51 ?_;refine tQ 12 52 ?_;refine tQ 13 53 ?_;refine tT 14 (some 54) hS ?_;refine tQ 15 55 ?_;clear hS;have H:(Instr.makeSlice 74 (.int .i64 116) (.int .i64 116)).run Tryz.prog w4.drew=_:=Hu w4.drew 116 oo;have u:Blk (w4.alloc (.cells (Al (AO 116)) 5)).drew w4.heap.size 5 (Al (AO 116)):=(ik w4 _ _ rfl).drew;have f:Grew w4 (w4.alloc (.cells (Al (AO 116)) 5)).drew:=((iW w4).alloc _).drew;have I:(convert 74 9 (.slice (some ⟨w4.heap.size,0,none⟩) 116 116)).run Tryz.prog (w4.alloc (.cells (Al (AO 116)) 5)).drew=.ok (.string (AO 116)) (w4.alloc (.cells (Al (AO 116)) 5)).drew:=EA _ _ 116 (AO 116) (BS 116) u;have a:=b.grew f;have y:=zh (G.grew f);clear u f;refine tO 16 λK' hK=>?_;go_wp2_with fail;refine hK.out _ _ (.inr (λ_=>⟨a.cell 0,a.cell 1,a.lt⟩)) ?_;clear hK;refine tO 17 λK' hK=>?_;go_wp2_with fail;refine hK.out _ _ (.inr (λ_=>⟨a.cell 0,a.cell 1,a.lt⟩)) ?_;clear hK I H;obtain ⟨w5,z⟩:∃w5,w5=(w4.alloc (.cells (Al (AO 116)) 5)).drew:=⟨_,rfl⟩;rw [<-z] at a y ⊢;have Q:=zh a;clear z a;rw [B.out];refine tQ 18 58 ?_;refine tQ 19 59 ?_;refine AA qk ?_ _;go_wp2_with fail;go_ret2;rw [HI.out];exact ⟨_,rfl,OwnL.nil ..,y⟩
end

theorem Ew (n:Nat) (m:U32) (s:ByteArray):IT n m s=true↔okR s (Gr s)/\Dn (s.extract 128 132)=m/\¬(32<Gr s/\(Gr s<131\/(n:Int)<=Gr s)):=by
 unfold IT;simp [and_assoc];intro _ _;omega
theorem RZ (t:ByteArray) (i:Int) (h:okR t i):Db t i=(t.extract 0 128,Dn (t.extract 128 132),0):=by unfold Db;rw [if_pos h]
theorem Me {w0:World} {x s m:Nat} {sy ep:Int} {D:Dev} {out:Nat->Prop} {W w1 w2:World} {row:Option Nat} (h:Held w0 x s m sy ep D out W) (hl:Looked w0 x s m sy ep D out W w1) (hg:w1.grownBy w2 row) (hr:∀k,row=some k->W.heap.size<=k):Looked w0 x s m sy ep D out W w2:=
 CX h hl ⟨hg.os,hg.tape,hg.output,hg.size,λk hk hn=>hg.block k hk (λe=>hn (hr k e.symm))⟩
section
variable {w0:World} {x s m:Nat} {sy ep:Int} {D:Dev} {out:Nat->Prop} {W:World} (h:Held w0 x s m sy ep D out W) (hlen:132<=D.st.length) (hf:D.failed=false) (d:ByteArray) (v:BitVec 32) (hd:B7 D=⟨d,v,true⟩) (hv:fld d 0=v) (hc:1<=Fh D/\Fh D<=97) (hz:d.extract 12 128=AO 116)
include h hlen hf hd hv hc hz
theorem Qa:Calls Tryz.prog 163 #[ptrV s] W (SY w0 x s m sy ep D out W (AU D,0)):=by
 have hr:=Dv hf 33 oo;rw [show AN (D.content 33) ((33:Nat):Int)=B7 D from rfl,hd] at hr;have T:d.size=128:=by have:=Cr (t:=D.content 33) (i:=33) (by rw [show AN (D.content 33) 33=B7 D from rfl,hd]);rw [show AN (D.content 33) 33=B7 D from rfl,hd] at this;exact this
 have ce:=zh (λw1 (hg:Grew W w1)=>E5 (h.grew hg) 33 (by unfold okI;omega) _ _ _ 0 hr);have HF:Hid (∀(k:Nat) (i:Int),k<3->i=(k:Int)->∀(g:Nat) (w:World),Blk w g 206 #[.string d,.int .u32 (u32 v),.bool true]->Calls Tryz.prog 197 #[.int .i64 i,ptrV g] w λe w'=>e=.returned (.int .u32 (u32 (fld d k)))/\Grew w w'):=zh (λk i hk hi g w hb=>by rw [hi];exact Gq k g hk d _ _ T w hb);have u0:=An (fld d 0);have u1:=An (fld d 1);have u2:=An (fld d 2);have uv:=An v;have hb:(u32 (fld d 0) != u32 v)=false:=by rw [hv];simp
 have a5:u32 (fld d 1)=((Fh D:Nat):Int):=by unfold Fh;rw [hd];rfl
 obtain ⟨n,hn⟩:∃n,Fh D=n:=⟨_,rfl⟩;rw [hn] at hc a5;have cf:decide ((n:Int)<1)=false:=ir oo;have ch:decide (97<(n:Int))=false:=ir oo;have da:(n:Int)>=1:=oo;have dd:(n:Int)<=97:=oo;have df:128<=d.size/\d.size<=128:=oo;have ci:=zh (show d.extract 12 d.size=d.extract 12 128 from by rw [T]);have cl:((d.extract 12 128).toList==(AO 116).toList)=true:=by rw [hz,jy]
 have a6:Ft D=true:=by unfold Ft;rw [hd,hn,iq hc,iq hz];simp [hv]
 have cn:=zh a6;have HN:=zh hn;have HV:=zh (show (B7 D).ver=v from by rw [hd]);have C:=zh hv;have co:=zh (show fld (B7 D).data 2=fld d 2 from by rw [hd]);have E:=zh hlen;have a7:=zh hf;rw [a5] at u1;have HH:=zh h;clear h hr hf hlen hd T hv hz hn a6;go_enter Tryz.func163,Tryz.ntmps163;go_wp2_with fail;refine (ce _ (iW W)).mono ?_;rintro e w1 ⟨rfl,a2⟩;have N:Blk (w1.alloc (.cells #[.string d,.int .u32 (u32 v),.bool true] 206)) w1.heap.size 206 #[.string d,.int .u32 (u32 v),.bool true]:=ik w1 _ _ rfl;have dk:=a2.turned.size;have cp:=zh (a2.grew ((iW w1).alloc (.cells #[.string d,.int .u32 (u32 v),.bool true] 206)));have a8:=zh N;clear a2 N;go_wp2_with fail;refine (HF 0 0 oo rfl _ _ a8).mono ?_;rintro e w2 ⟨rfl,g2⟩;have a9:=zh (a8.grew g2);have cq:=zh (cp.grew g2);clear g2;go_wp2_with fail;refine (HF 1 1 oo rfl _ _ a9).mono ?_;rintro e w3 ⟨rfl,g3⟩;have bb:=zh (a9.grew g3);have cr:=zh (cq.grew g3);clear g3;go_wp2_with fail;refine (HF 2 2 oo rfl _ _ bb).mono ?_;rintro e w4 ⟨rfl,g4⟩;have O:=zh (bb.grew g4);have cs:=zh (cr.grew g4);clear g4;go_wp2_with fail;refine AB [] (λw':World=>w'.cell? ⟨w1.heap.size,0,none⟩=some (.string d)/\w'.cell? ⟨w1.heap.size,1,none⟩=some (.int .u32 (u32 v))/\w1.heap.size<w'.heap.size) qk ?_;have hS:=(show (λw':World=>w'.cell? ⟨w1.heap.size,0,none⟩=some (.string d)/\w'.cell? ⟨w1.heap.size,1,none⟩=some (.int .u32 (u32 v))/\w1.heap.size<w'.heap.size) w4.drew from ⟨O.drew.cell 0,O.drew.cell 1,O.drew.lt⟩);refine tQ 0 40 ?_;refine tQ 1 41 ?_;refine tT 2 (some 42) hS ?_;refine tQ 3 43 ?_;refine tQ 4 44 ?_;refine tQ 5 45 ?_;refine tQ 6 46 ?_;refine tQ 7 47 ?_;refine tQ 8 48 ?_;refine tQ 9 49 ?_;refine tQ 10 50 ?_;refine tQ 11 51 ?_;refine tQ 12 52 ?_;refine tQ 13 53 ?_;refine tT 14 (some 54) hS ?_;refine tQ 15 55 ?_;clear hS;have ct:(Instr.makeSlice 74 (.int .i64 116) (.int .i64 116)).run Tryz.prog w4.drew=_:=Hu w4.drew 116 oo;have bc:Blk (w4.alloc (.cells (Al (AO 116)) 5)).drew w4.heap.size 5 (Al (AO 116)):=(ik w4 _ _ rfl).drew;have U:Grew w4 (w4.alloc (.cells (Al (AO 116)) 5)).drew:=((iW w4).alloc _).drew;have cu:(convert 74 9 (.slice (some ⟨w4.heap.size,0,none⟩) 116 116)).run Tryz.prog (w4.alloc (.cells (Al (AO 116)) 5)).drew=.ok (.string (AO 116)) (w4.alloc (.cells (Al (AO 116)) 5)).drew:=EA _ _ 116 (AO 116) (BS 116) bc;have u:=O.grew U;have V:=zh (cs.grew U);clear bc U;refine tO 16 λK' hK=>?_;go_wp2_with fail;refine hK.out _ _ (.inr (λ_=>⟨u.cell 0,u.cell 1,u.lt⟩)) ?_;clear hK;refine tO 17 λK' hK=>?_;go_wp2_with fail;refine hK.out _ _ (.inr (λ_=>⟨u.cell 0,u.cell 1,u.lt⟩)) ?_;clear hK cu ct;obtain ⟨w5,b9⟩:∃w5,w5=(w4.alloc (.cells (Al (AO 116)) 5)).drew:=⟨_,rfl⟩;rw [<-b9] at u V ⊢;have dn:=zh u;clear b9 u;rw [ci.out];refine tQ 18 58 ?_;refine tQ 19 59 ?_;refine AA qk ?_ _;go_wp2_with fail;clear cf ch hb cl u1;have ds:W.heap.size<=w5.heap.size:=V.turned.size
 go_loopg [10,11,62] n (λgk l a i wr=>∃k:Nat,k<=n/\gk=n - k/\i=.int .i64 k/\OwnL wr W.heap.size 218 2 l ((Gy D k).map B0)/\a=.string (AP (Cm D k))/\Looked w0 x s m sy ep D out W wr/\(∀j,j<k->IT D.st.length v (IH D j)=true))
 case atStart=>exact ⟨0,oo,oo,rfl,OwnL.nil ..,rfl,V,λj hj=>absurd hj oo⟩
 case round=>
  obtain ⟨k,hk,ca,rfl,cb,rfl,hl,cc⟩:=hrel;have bf:=zh ca;have X:=zh cb;have HL:=zh hl;have Y:=zh cc;clear ca cb hl cc;by_cases S:k<n
  . have d0:(k:Int)<(n:Int):=oo
    have bk:GJ D (34+(k:Int))=(IH D k,0):=by
     rw [show (34+(k:Int))=((34+k:Nat):Int) from oo];exact Sy a7 (34+k) (by have:=E.out;omega)
    have bl:=zh (Oq HL.live (34+(k:Int)) _ _ bk);obtain ⟨t,ht⟩:∃t,IH D k=t:=⟨_,rfl⟩;have cv:t.size=140:=by rw [<-ht];exact Fc HL.live.ok (by have:=E.out;omega)
    rw [ht] at bl;have d1:140<=t.size/\t.size<=140:=oo;have bs:=zh (λ(w:World)=>Dj (t.extract 132 136) (by rw [i0];omega) w);obtain ⟨p,hp⟩:∃p,Dn (t.extract 132 136)=p:=⟨_,rfl⟩;rw [hp] at bs;have bt:Gr t=u32 p:=by unfold Gr;rw [hp]
    have d2:=An p;obtain ⟨ud,uv,ue,hu⟩:∃a b c,Db t (u32 p)=(a,b,c):=⟨_,_,_,rfl⟩;have HU:=zh (λ(w:World)=>MV t (u32 p) w oo (by unfold okI;omega) _ _ _ hu);have P:=HL.store.blk;unfold Ct at P;have s0:=P.cell 0;have sl:=P.lt;have HT:=zh ht;have z:=zh bt;have bv:=zh hu;clear bk ht hp bt hu P cv;go_wp2_with fail;refine bl.mono ?_;rintro e w6 ⟨rfl,rfl⟩;go_wp2_with fail;refine (bs _).mono ?_;rintro e w7 ⟨rfl,g7⟩;have cw:=zh g7;clear g7 s0 sl;go_wp2_with fail;refine (HU _).mono ?_;rintro e w8 ⟨rfl,g8⟩;have f:=zh (cw.out.trans g8);clear g8;by_cases ho:okR t (u32 p)
    . have h1:=bv.out;rw [RZ t _ ho] at h1;injection h1 with h1 h2;injection h2 with h2 h3;subst h1;subst h3;by_cases o:uv=v
      . have cx:(u32 uv != u32 (fld d 0))=false:=by rw [C.out,o];simp
        by_cases i1:32<u32 p
        . have cy:decide (32<u32 p)=true:=iq i1;by_cases i2:u32 p<131
          . have cz:decide (u32 p<131)=true:=iq i2;have HI:=zh (MO (D:=D) k (by rw [HN.out];exact S) (by rw [HV.out,HT.out,Bool.eq_false_iff];intro e;have e2:=(Ew _ _ _).1 e;rw [z.out] at e2;exact absurd e2.2.2 (λe9=>e9 ⟨i1,.inl i2⟩)));clear o h2 i1 i2 ho;go_wp2_with fail;go_ret2;rw [HI.out];exact ⟨_,rfl,OwnL.nil ..,HL.grew f⟩
          . have cz:decide (u32 p<131)=false:=ir i2;have d3:¬u32 p<131:=i2;by_cases i3:(D.st.length:Int)<=u32 p
            . have c0:decide ((D.st.length:Int)<=u32 p)=true:=iq i3;have c1:u32 p>=(D.st.length:Int):=i3;have HI:=zh (MO (D:=D) k (by rw [HN.out];exact S) (by rw [HV.out,HT.out,Bool.eq_false_iff];intro e;have e2:=(Ew _ _ _).1 e;rw [z.out] at e2;exact absurd e2.2.2 (λe9=>e9 ⟨i1,.inr i3⟩)));clear o h2 i1 i2 ho;have Z:=zh (DZ (HL.live.grew f));have y:=HL.store.blk.grew f;unfold Ct at y;have s0:=y.cell 0;have sl:=y.lt;clear y;go_wp2_with fail;refine Z.mono ?_;rintro e c8 ⟨rfl,rfl⟩;go_wp2_with fail;go_ret2;rw [HI.out];exact ⟨_,rfl,OwnL.nil ..,HL.grew f⟩
            . have c0:decide ((D.st.length:Int)<=u32 p)=false:=ir i3;have c1:¬u32 p>=(D.st.length:Int):=i3;have ad:Hid (okR t (u32 p)/\Dn (t.extract 128 132)=v/\¬(32<u32 p/\(u32 p<131\/(D.st.length:Int)<=u32 p))):=zh ⟨ho,by rw [h2,o],λe9=>e9.2.elim i2 i3⟩;clear o h2 i1 i2 ho;have Z:=zh (DZ (HL.live.grew f));have y:=HL.store.blk.grew f;unfold Ct at y;have s0:=y.cell 0;have sl:=y.lt;clear y;go_wp2_with fail;refine Z.mono ?_;rintro e c8 ⟨rfl,rfl⟩;have c2:W.heap.size<=w8.heap.size:=ij HL.turned.size f.size;have bx:(AP (Cm D k)).size<=13580:=by rw [Ip HL.out.live.ok (by have:=E.out;omega) k oo];omega
              have c3:=PN D k;have af:Hid (IT D.st.length v (IH D k)=true):=zh (by rw [HT.out,Ew,z.out];exact ad.out);have G:=zh (IU D k);have A:=zh (Mi D k);rw [HT.out] at G A;rw [z.out] at A;have ag:Hid (AP (Cm D k++[t])=AP (Cm D k)++t):=zh (Ky _ _);have H:=zh (X.grew f);go_wp2_with (at_builtin;refine Bh rfl _ _ 219 rfl W.heap.size 218 2 24 (.agg #[.int .i64 0,.string ⟨#[]⟩]) Tryz.underlying219 J5 rfl qd (w8.alloc (.cells #[.int .i64 (u32 p),.string t] 218)) u10 ((Gy D k).map B0) [.int .i64 (u32 p),.string t] rfl rfl (H.alloc _) w8.heap.size (by rfl) (ik _ _ _ rfl) rfl (by rw [iY];omega) (by rw [iY];omega) (by simp;omega) k (by rw [iY];omega) ?_);intro g9 c9 w9 K L _ _;have al:Grew W w9->True:=λ_=>trivial;have I:=Me HH (HL.grew (f.alloc (.cells #[.int .i64 (u32 p),.string t] 218))) L (H.row_ge);have an:=zh K;have ap:=zh I;clear K L I al;go_wp2_with fail
              go_roundg (n - (k+1))
              case measure=>rw [bf.out];omega
              case rel=>exact ⟨k+1,oo,oo,by go_num,by rw [A.out,il];exact an.out,by rw [G.out,ag.out],ap,λj hj=>by rcases jY j k with M | M;exact Y.out j M;rw [show j=k from oo];exact af.out⟩
        . have cy:decide (32<u32 p)=false:=ir i1;have ad:Hid (okR t (u32 p)/\Dn (t.extract 128 132)=v/\¬(32<u32 p/\(u32 p<131\/(D.st.length:Int)<=u32 p))):=zh ⟨ho,by rw [h2,o],λe9=>i1 e9.1⟩;clear o h2 i1 ho;have c2:W.heap.size<=w8.heap.size:=ij HL.turned.size f.size;have bx:(AP (Cm D k)).size<=13580:=by rw [Ip HL.out.live.ok (by have:=E.out;omega) k oo];omega
          have c3:=PN D k;have af:Hid (IT D.st.length v (IH D k)=true):=zh (by rw [HT.out,Ew,z.out];exact ad.out);have G:=zh (IU D k);have A:=zh (Mi D k);rw [HT.out] at G A;rw [z.out] at A;have ag:Hid (AP (Cm D k++[t])=AP (Cm D k)++t):=zh (Ky _ _);have H:=zh (X.grew f);go_wp2_with (at_builtin;refine Bh rfl _ _ 219 rfl W.heap.size 218 2 24 (.agg #[.int .i64 0,.string ⟨#[]⟩]) Tryz.underlying219 J5 rfl qd (w8.alloc (.cells #[.int .i64 (u32 p),.string t] 218)) u10 ((Gy D k).map B0) [.int .i64 (u32 p),.string t] rfl rfl (H.alloc _) w8.heap.size (by rfl) (ik _ _ _ rfl) rfl (by rw [iY];omega) (by rw [iY];omega) (by simp;omega) k (by rw [iY];omega) ?_);intro g9 c9 w9 K L _ _;have al:Grew W w9->True:=λ_=>trivial;have I:=Me HH (HL.grew (f.alloc (.cells #[.int .i64 (u32 p),.string t] 218))) L (H.row_ge);have an:=zh K;have ap:=zh I;clear K L I al;go_wp2_with fail
          go_roundg (n - (k+1))
          case measure=>rw [bf.out];omega
          case rel=>exact ⟨k+1,oo,oo,by go_num,by rw [A.out,il];exact an.out,by rw [G.out,ag.out],ap,λj hj=>by rcases jY j k with M | M;exact Y.out j M;rw [show j=k from oo];exact af.out⟩
      . have cx:(u32 uv != u32 (fld d 0))=true:=by rw [C.out,jH];exact λe=>o (Hn e)
        have HI:=zh (MO (D:=D) k (by rw [HN.out];exact S) (by rw [HV.out,HT.out,Bool.eq_false_iff];intro e;have e2:=(Ew _ _ _).1 e;rw [z.out] at e2;exact o (h2.symm.trans e2.2.1)));clear o h2 ho;go_wp2_with fail;go_ret2;rw [HI.out];exact ⟨_,rfl,OwnL.nil ..,HL.grew f⟩
    . have h1:=bv.out;rw [Hf t _ ho] at h1;injection h1 with h1 h2;injection h2 with h2 h3;subst h1;subst h2;subst h3;have HI:=zh (MO (D:=D) k (by rw [HN.out];exact S) (by rw [HV.out,HT.out,Bool.eq_false_iff];intro e;have e2:=(Ew _ _ _).1 e;rw [z.out] at e2;exact ho e2.1));clear ho;go_wp2_with fail;go_ret2;rw [HI.out];exact ⟨_,rfl,OwnL.nil ..,HL.grew f⟩
  . obtain rfl:k=n:=oo;have bx:(AP (Cm D k)).size<=13580:=by rw [Ip HL.out.live.ok (by have:=E.out;omega) k oo];omega
    have b0:=zh (λ(w:World)=>MK (AP (Cm D k)) oo w);obtain ⟨q,hq⟩:∃q,Hq (AP (Cm D k))=q:=⟨_,rfl⟩;rw [hq] at b0;have b1:Hid (XF D=decide (q=fld d 2)):=zh (by unfold XF;rw [HN.out,co.out,hq]);have qb:=An q;clear hq;go_wp2_with fail;refine (b0 _).mono ?_;rintro e d5 ⟨rfl,b4⟩;have av:=zh b4;clear b4;by_cases F:q=fld d 2
    . have c4:(u32 q != u32 (fld d 2))=false:=by rw [F];simp
      have c5:Hid (XF D=true):=zh (by rw [b1.out];exact iq F);clear F;have aw:=Dv a7 0 (by have:=E.out;omega);obtain ⟨⟨td,tv,tk⟩,a4⟩:∃r,topI D=r:=⟨_,rfl⟩;rw [show AN (D.content 0) ((0:Nat):Int)=topI D from rfl,a4] at aw;have b2:=zh (HL.grew av);have b3:=zh (X.grew av);have c6:=zh (E5 (HH.after b2) 0 (by unfold okI;omega) td tv tk 0 aw);have Q:Hid (V0 D=(!tk || (v==tv) || decide (v.toNat=tv.toNat+1))):=zh (by unfold V0;rw [HV.out,a4]);have a0:Hid (V0 D=true->AU D=Gy D k):=zh (λht=>by have:=dB cn (λj hj=>by rw [HV.out];exact Y.out j (by rw [<-HN.out];exact hj)) c5 ht;rw [HN.out] at this;exact this);have d4:=An tv;clear aw a4;go_wp2_with fail;refine c6.mono ?_;rintro e b5 ⟨rfl,a3⟩;have R:=zh ((b2.out.trans a3).grew ((iW b5).alloc (.cells #[.string td,.int .u32 (u32 tv),.bool tk] 206)));have a1:=zh ((b3.kept a3.turned (λg hg e=>by have:=(b3.own_ge hg).1;have:=HH.store.lt.2;omega)).grew ((iW b5).alloc (.cells #[.string td,.int .u32 (u32 tv),.bool tk] 206)));clear a3;cases tk with
      | false=>
        have HI:Hid (AU D=Gy D k):=zh (a0 (by rw [Q.out];rfl));go_wp2_with fail;go_ret2;rw [HI.out];exact ⟨_,rfl,a1,R⟩
      | true=>
        by_cases B:v=tv
        . have N:(u32 (fld d 0) != u32 tv)=false:=by rw [C.out,B];simp
          have HI:Hid (AU D=Gy D k):=zh (a0 (by rw [Q.out,B];simp));clear B;go_wp2_with fail;go_ret2;rw [HI.out];exact ⟨_,rfl,a1,R⟩
        . have N:(u32 (fld d 0) != u32 tv)=true:=by rw [C.out,jH];exact λe=>B (Hn e)
          by_cases J:v.toNat=tv.toNat+1
          . have c7:(u32 (fld d 0) != u32 tv+1)=false:=by rw [C.out];unfold u32;rw [J];simp
            have HI:Hid (AU D=Gy D k):=zh (a0 (by rw [Q.out];simp [J]));clear B J;go_wp2_with fail;go_ret2;rw [HI.out];exact ⟨_,rfl,a1,R⟩
          . have c7:(u32 (fld d 0) != u32 tv+1)=true:=by rw [C.out,jH];unfold u32;omega
            have HI:Hid (AU D=[]):=zh (dD (by rw [Q.out];simp [J,B]));clear B J;go_wp2_with fail;go_ret2;rw [HI.out];exact ⟨_,rfl,OwnL.nil ..,R⟩
    . have c4:(u32 q != u32 (fld d 2))=true:=by rw [jH];exact λe=>F (Hn e)
      have HI:=zh (du (D:=D) (by rw [b1.out];exact ir F));clear F;go_wp2_with fail;go_ret2;rw [HI.out];exact ⟨_,rfl,OwnL.nil ..,HL.grew av⟩
end

def cV (D:Dev):List (Int × ByteArray) × Int:=if D.failed=true then ([],10) else (AU D,0)
structure Done (w0:World) (x s m:Nat) (sy ep:Int) (D':Dev) (out:Nat->Prop) (W w':World):Prop where
 live:Live w0 x D' out w'
 store:StoreM w' s m x sy ep
 turned:Turned (λk=>(w0.heap.size<=k/\¬out k)\/k=m) W w'
theorem Looked.done {w0:World} {x s m:Nat} {sy ep:Int} {D:Dev} {out:Nat->Prop} {W w':World} (h:Looked w0 x s m sy ep D out W w'):Done w0 x s m sy ep D out W w':=⟨h.live,h.store,h.turned.mono λk _ hk=>.inr hk⟩
theorem Done.look {w0:World} {x s m:Nat} {sy ep:Int} {D:Dev} {out:Nat->Prop} {W w1 w2:World} (h:Done w0 x s m sy ep D out W w1) (k:Looked w0 x s m sy ep D out w1 w2):Done w0 x s m sy ep D out W w2:=⟨k.live,k.store,h.turned.trans (k.turned.mono λ_ _ hk=>.inr hk)⟩
theorem Done.grew {w0:World} {x s m:Nat} {sy ep:Int} {D:Dev} {out:Nat->Prop} {W w1 w2:World} (h:Done w0 x s m sy ep D out W w1) (hg:Grew w1 w2):Done w0 x s m sy ep D out W w2:=⟨h.live.grew hg,h.store.grew hg,h.turned.trans (hg.turned _)⟩
theorem Held.done {w0:World} {x s m:Nat} {sy ep:Int} {D D':Dev} {out:Nat->Prop} {W w':World} (h:Held w0 x s m sy ep D out W) (hd:Done w0 x s m sy ep D' out W w'):Held w0 x s m sy ep D' out w':=⟨hd.live,hd.store,h.os,h.om,h.m0⟩
theorem Looked.beside {w0:World} {x s m:Nat} {sy ep:Int} {D D':Dev} {out:Nat->Prop} {W w1 w2:World} (h0:Held w0 x s m sy ep D out W) (h:Looked w0 x s m sy ep D out W w1) (hl:Live w0 x D' out w2) (hB:Beside w0 out w1 w2):Done w0 x s m sy ep D' out W w2:=
 ⟨hl,h.store.kept hB (λhk=>hk.2 h0.os) (λhk=>hk.2 h0.om),(h.turned.mono λ_ _ hk=>.inr hk).trans (hB.mono λ_ _ hk=>.inl hk)⟩
theorem Id (D:Dev):(AU D).length<=97:=by
 unfold AU;split
 . rename_i h;unfold GP Ft at h;simp only [jF,jG] at h;rw [iY];unfold Cm;rw [iY,jr];exact h.1.1.2.2
 . exact jL _
theorem Qj {D:Dev} (h:D.Ok) (hl:131<=D.st.length):∀e∈AU D,e.2.size=140:=by
 have hn:=Id D;unfold AU at hn ⊢;split at hn
 . rename_i hb;rw [if_pos hb];intro e he;obtain ⟨s,hs,rfl⟩:=ie.1 he;rw [iY] at hn;unfold Cm at hs hn;rw [iY,jr] at hn;obtain ⟨j,hj,rfl⟩:=ie.1 hs;have:=jB.1 hj;exact Fc h oo
 . rename_i hb;rw [if_neg hb];intro e he;cases he
theorem PZ (D:Dev) (sy ep:Int):(B9 D sy ep).1.pend.length<=D.pend.length+100:=by
 have hn:=Id D;have hr:=O4 sy ep (CL (AU D)) D;have hc:(CL (AU D)).length=(AU D).length+3:=by unfold CL;rw [iy,iY];rfl
 unfold B9;split
 . show D.pend.length<=_;omega
 split
 . show D.pend.length<=_;omega
 . show (Bm sy ep (CL (AU D)) D).1.pend.length<=_;omega
section
variable {w0:World} {x s m:Nat} {sy ep:Int} {D:Dev} {out:Nat->Prop} {W:World} (h:Held w0 x s m sy ep D out W) (hlen:132<=D.st.length)
include h hlen
theorem T5:Calls Tryz.prog 163 #[ptrV s] W (SY w0 x s m sy ep D out W (cV D)):=by
 unfold cV;cases hf:D.failed with
 | true=>rw [if_pos rfl];exact Od h hlen hf
 | false=>
   rw [if_neg qs];obtain ⟨⟨d,v,k⟩,hd⟩:∃r,B7 D=r:=⟨_,rfl⟩;cases k with
   | false=>exact Rr h hlen hf (by rw [hd])
   | true=>
     by_cases hv:fld d 0=v
     . by_cases h1:Fh D<1
       . exact Ua h hlen hf d v hd hv h1
       . by_cases h2:97<Fh D
         . exact SV h hlen hf d v hd hv h2
         . by_cases hz:d.extract 12 128=AO 116
           . exact Qa h hlen hf d v hd hv ⟨oo,oo⟩ hz
           . exact QP h hlen hf d v hd hv ⟨oo,oo⟩ hz
     . exact VM h hlen hf d v hd hv
theorem Hp (hp:D.pend.length<=980000) (D':Dev) (b:Bool) (er:Int) (hr:B9 D sy ep=(D',b,er)):Calls Tryz.prog 123 #[ptrV s] W λe w'=>e=.returned (.tuple #[.bool b,.int .i64 er])/\Done w0 x s m sy ep D' out W w':=by
 have HI:=zh (T5 h hlen);have HH:=zh h;have d:=Qj h.live.ok oo;have g:=Id D;unfold B9 at hr;cases hf:D.failed with
 | true=>
   rw [if_pos hf] at hr;injection hr with h1 h2;injection h2 with h2 h3;subst h1;subst h2;subst h3;have i:Hid (cV D=([],10)):=zh (if_pos hf);rw [i.out] at HI;clear h hlen d g hf;go_enter Tryz.func123,Tryz.ntmps123;go_wp2_with fail;refine HI.mono ?_;rintro e w1 ⟨v,rfl,a,hl⟩;have HL:=zh hl;clear a hl;go_wp2_with fail;go_ret2;exact ⟨rfl,HL.done⟩
 | false=>
   rw [if_neg (by rw [hf];simp)] at hr;have i:Hid (cV D=(AU D,0)):=zh (if_neg (by rw [hf];simp));rw [i.out] at HI;by_cases h0:AU D=[]
   . rw [if_pos h0] at hr;injection hr with h1 h2;injection h2 with h2 h3;subst h1;subst h2;subst h3;rw [h0] at HI;clear h hlen d g hf h0;go_enter Tryz.func123,Tryz.ntmps123;go_wp2_with fail;refine HI.mono ?_;rintro e w1 ⟨v,rfl,a,hl⟩;obtain ⟨A,c,rfl,_,_,_⟩:=a.listAt;have HL:=zh hl;clear a hl;go_wp2_with fail;go_ret2;exact ⟨rfl,HL.done⟩
   . rw [if_neg h0] at hr;injection hr with h1 h2;injection h2 with h2 h3;have n:0<(AU D).length:=length_pos_iff.2 h0;obtain ⟨L,hL⟩:∃L,AU D=L:=⟨_,rfl⟩;rw [hL] at HI h1 h2 h3 d g n;obtain ⟨⟨E,q⟩,hq⟩:∃r,Bm sy ep (CL L) D=r:=⟨_,rfl⟩;rw [hq] at h1 h2 h3;subst h1;subst h2;subst h3;have HC:=zh (λ(w1:World) (hl:Looked w0 x s m sy ep D out W w1)=>KE hl.live hl.store.blk h.os hp L oo (λe he=>by rw [d e he];omega));rw [hq] at HC;clear h hlen d hf h0 hL hq;have t:((L.length:Int)==0)=false:=by rw [it];omega
     go_enter Tryz.func123,Tryz.ntmps123;go_wp2_with fail;refine HI.mono ?_;rintro e w1 ⟨v,rfl,a,hl⟩;obtain ⟨A,c,rfl,_,_,l⟩:=a.listAt;have HL:=zh hl;have o:=zh (HC w1 hl A c l);clear a hl l HC;go_wp2_with fail;refine o.mono ?_;rintro e w2 ⟨rfl,j,k⟩;have HD:=zh (HL.beside HH j k);clear j k;by_cases f:q=0
     . subst f;go_wp2_with fail;go_ret2;exact ⟨rfl,HD⟩
     . have u:(q != 0)=true:=by rw [jH];exact f
       have p:(q==0)=false:=by rw [it];exact f
       clear f;go_wp2_with fail;go_ret2;rw [p];exact ⟨rfl,HD⟩
end

theorem Rf (p:Wr->Bool) (sv:Nat->Nat) (l:List Wr):∀s:Dev × Nat,(l.foldl (AV p sv) s).1.st.length=s.1.st.length/\(l.foldl (AV p sv) s).1.failed=s.1.failed:=by
 induction l with
 | nil=>intro s;exact ⟨rfl,rfl⟩
 | cons r l ih=>
   intro s;rw [foldl_cons];have h:=ih (AV p sv s r)
   have e:(AV p sv s r).1.st.length=s.1.st.length/\(AV p sv s r).1.failed=s.1.failed:=by
    unfold AV;split
    . exact ⟨C9 ..,F7 ..⟩
    . exact ⟨rfl,rfl⟩
   exact ⟨h.1.trans e.1,h.2.trans e.2⟩
theorem Lg (D:Dev) (p:Wr->Bool) (sv:Nat->Nat):(Bs D p sv).st.length=D.st.length/\(Bs D p sv).failed=D.failed:=Rf p sv D.pend (D,0)
theorem b6 (D:Dev):(JZ D).1.st.length=D.st.length/\((JZ D).2=false->(JZ D).1.failed=D.failed):=by
 unfold JZ;split
 . exact ⟨rfl,λ_=>rfl⟩
 . exact ⟨rfl,λ_=>rfl⟩
 . exact ⟨(Lg D _ _).1,λh=>by cases h⟩
theorem TU (D:Dev) (sy ep:Int):(Ah D sy ep).1.st.length=D.st.length/\((Ah D sy ep).2=0->D.failed=false/\(Ah D sy ep).1.failed=false):=by
 have hu:=b6 D;unfold Ah;cases hf:D.failed with
 | true=>rw [if_pos rfl];exact ⟨rfl,λh=>by cases h⟩
 | false=>
   rw [if_neg qs];split
   . exact ⟨rfl,λh=>by cases h⟩
   split
   . exact ⟨hu.1,λh=>by cases h⟩
   . rename_i h2;exact ⟨hu.1,λ_=>⟨rfl,(hu.2 (by simpa using h2)).trans hf⟩⟩
theorem eF (D:Dev) (sy ep:Int) (t:St):(stD D sy ep t).1.st.length=D.st.length/\((stD D sy ep t).2=0->(stD D sy ep t).1.failed=false):=by
 have ha:=TU D sy ep;cases t with
 | put i s=>
   show (BJ D sy ep i s).1.st.length=_/\((BJ D sy ep i s).2=0->(BJ D sy ep i s).1.failed=false);unfold BJ;split
   . exact ⟨rfl,λh=>by cases h⟩
   split
   . exact ⟨rfl,λh=>by cases h⟩
   split
   . rename_i h;exact ⟨ha.1,λe=>absurd e h⟩
   . rename_i h;exact ⟨ha.1,λ_=>(ha.2 (by simpa using h)).2⟩
 | sync=>
   show (Cl D sy ep).1.st.length=_/\((Cl D sy ep).2=0->(Cl D sy ep).1.failed=false);unfold Cl;split
   . exact ⟨rfl,λh=>by cases h⟩
   split
   . rename_i h;exact ⟨ha.1,λe=>absurd e h⟩
   . rename_i h;have hf:=Lg (Ah D sy ep).1 (Fv sy) (λ_=>140);exact ⟨hf.1.trans ha.1,λ_=>hf.2.trans (ha.2 (by simpa using h)).2⟩
theorem ZW (sy ep:Int) (l:List St):∀D,(Bm sy ep l D).1.st.length=D.st.length/\(D.failed=false->(Bm sy ep l D).2=0->(Bm sy ep l D).1.failed=false):=by
 induction l with
 | nil=>intro D;exact ⟨rfl,λh _=>h⟩
 | cons t l ih=>
   intro D;have h:=eF D sy ep t;show (if (stD D sy ep t).2=0 then Bm sy ep l (stD D sy ep t).1 else stD D sy ep t).1.st.length=_/\(_->(if (stD D sy ep t).2=0 then Bm sy ep l (stD D sy ep t).1 else stD D sy ep t).2=0->(if (stD D sy ep t).2=0 then Bm sy ep l (stD D sy ep t).1 else stD D sy ep t).1.failed=false);split
   . rename_i h0;have k:=ih (stD D sy ep t).1;exact ⟨k.1.trans h.1,λ_=>k.2 (h.2 h0)⟩
   . rename_i h0;exact ⟨h.1,λ_ e=>absurd e h0⟩
theorem Ii (D:Dev) (sy ep:Int):(B9 D sy ep).1.st.length=D.st.length/\((B9 D sy ep).2.2=0->(B9 D sy ep).1.failed=false):=by
 have hr:=ZW sy ep (CL (AU D)) D;unfold B9;cases hf:D.failed with
 | true=>rw [if_pos rfl];exact ⟨rfl,λh=>by cases h⟩
 | false=>
   rw [if_neg qs];split
   . exact ⟨rfl,λ_=>hf⟩
   . exact ⟨hr.1,λh=>hr.2 hf h⟩
theorem Qw {D:Dev} (hf:D.failed=false) (hl:1<=D.st.length):Oi D=(topI D,if (topI D).ok=true then 0 else 11):=by
 unfold Oi;rw [show Dm D 0=(topI D,0) from Dv hf 0 oo];rfl
section
variable {w0:World} {x s m:Nat} {sy ep:Int} {D:Dev} {out:Nat->Prop} {W:World}
def iB (w0:World) (x:Nat) (sy ep:Int) (D':Dev) (out:Nat->Prop) (W:World) (e:Ending) (w':World):Prop:=
 ∃s m,e=.returned (.tuple #[ptrV s,.int .i64 0])/\Live w0 x D' (λk=>out k\/k=s\/k=m) w'/\StoreM w' s m x sy ep/\(W.heap.size<=s/\W.heap.size<=m)/\Beside w0 out W w'
theorem PR (h:Live w0 x D out W) (d:132<=D.st.length/\D.st.length<=1155) (hs:1<=sy/\sy<=4) (he:0<=ep/\ep<=1099511627776) (hp:D.pend.length<=980000) (D':Dev) (hr:TG D sy ep=(D',0)):
 Calls Tryz.prog 79 #[ptrV x,.agg #[.int .i64 sy,.int .i64 ep]] W (iB w0 x sy ep D' out W):=by
 have B:=zh (λ(w1:World) (hg:Grew W w1)=>SD (h.grew hg) sy ep d hs he);have C:=zh (λ(w1:World) (hg:Grew W w1)=>Kk (h.grew hg) sy ep);obtain ⟨⟨E,b,f⟩,hE⟩:∃r,B9 D sy ep=r:=⟨_,rfl⟩;have F:=zh (λ(s m:Nat) (out2:Nat->Prop) (w1:World) (h2:Held w0 x s m sy ep D out2 w1)=>Hp h2 d.1 hp E b f hE);have hl:=Ii D sy ep;have o:II D sy ep=true:=by unfold II DA;simp;omega
 unfold TG at hr;rw [hE,if_neg (by rw [o];simp)] at hr;rw [hE] at hl
 have h0:f=0:=by
  rcases Decidable.em (f=0) with h0 | h0
  . exact h0
  . rw [if_pos (by simpa using h0)] at hr;injection hr with _ h2
 rw [if_neg (by simpa using h0)] at hr;subst h0;have p:=hl.2 rfl;have q:E.st.length=D.st.length:=hl.1;have g:=Qw p (by rw [q];omega);obtain ⟨⟨td,tv,tk⟩,ht⟩:∃r,topI E=r:=⟨_,rfl⟩;rw [ht] at g hr
 have hk:tk=true:=by
  cases tk with
  | true=>rfl
  | false=>rw [if_pos rfl] at hr;injection hr with _ h2;cases h2
 subst hk;rw [if_neg qs] at hr;injection hr with h1 _;subst h1;have G:=zh g;have HL:=zh h;have M:=h.base.size;have i:Grew W (W.alloc (.cells #[.int .i64 sy,.int .i64 ep] 88)):=(iW W).alloc _;clear h d hs he hp hE hl o p q g ht;go_enter Tryz.func79,Tryz.ntmps79;go_wp2_with fail;refine (B _ i).mono ?_;rintro e w1 ⟨rfl,g1⟩;have t:Grew W w1:=i.trans g1;have a:=(ik W 88 #[.int .i64 sy,.int .i64 ep] rfl).grew g1;have c0:=a.cell 0;have c1:=a.cell 1;have cl:=a.lt;have c:=zh t;clear t a g1 i;go_wp2_with fail;refine (C _ c).mono ?_;rintro e w2 ⟨s,m,rfl,n,g2,y,z⟩;have j:Grew W w2:=c.out.trans g2;have H:W.heap.size<=s:=ij c.size y;have I:W.heap.size<=m:=ij c.size z;have J:=n.lt
 have u:Live w0 x D (λk=>out k\/k=s\/k=m) w2:=(HL.more j).few (λk hk=>by
  rcases hk with hk | hk | hk
  . exact .inl hk
  . exact .inr ⟨oo,oo⟩
  . exact .inr ⟨oo,oo⟩)
 have v:Held w0 x s m sy ep D (λk=>out k\/k=s\/k=m) w2:=⟨u,n,.inr (.inl rfl),.inr (.inr rfl),oo⟩;have w:=zh v;have K:=zh j;clear n g2 y z J u v j c0 c1 cl;go_wp2_with fail;refine (F s m _ w2 w).mono ?_;rintro e w3 ⟨rfl,hd⟩;have HT:=zh (Qh (w.done hd));rw [G.out] at HT;have HD:=zh hd;clear hd;go_wp2_with fail;refine HT.mono ?_;rintro e w4 ⟨rfl,A⟩;unfold LB;have L:=zh A;clear A;go_wp2_with fail;go_ret2;have l:=(HD.look L).grew ((iW w4).alloc (.cells #[.string td,.int .u32 (u32 tv),.bool true] 206))
 exact ⟨s,m,rfl,l.live,l.store,⟨H,I⟩,(K.turned _).next (l.turned) (λk hk hS=>by
  rcases hS with hS | hS
  . exact ⟨hS.1,λh9=>hS.2 (.inl h9)⟩
  . exact absurd hk oo)⟩
end

def F1 (k:Nat):List (Int × ByteArray):=(List.range k).map λi:Nat=>(131+(i:Int),Ak ES (nv 1) (131+(i:Int)))
def F2 (n k:Nat):List (Int × ByteArray):=(List.range k).map λj:Nat=>(1+(j:Int),Ak (AM (GB n j)) (nv 1) (1+(j:Int)))
theorem dq (k:Nat):F1 (k+1)=F1 k++[(131+(k:Int),Ak ES (nv 1) (131+(k:Int)))]:=by unfold F1;rw [kP,il];rfl
theorem dZ (n k:Nat):F2 n (k+1)=F2 n k++[(1+(k:Int),Ak (AM (GB n k)) (nv 1) (1+(k:Int)))]:=by unfold F2;rw [kP,il];rfl
def Wt:List (Int × ByteArray):=[(0,Ak (AM ((List.range 32).map λ_=>nv 1)) (nv 1) 0)]
def dr (sy ep:Int) (n:Nat):List (Dev->Dev × Int):=(F1 n++F2 n 32++Wt).map (λe D=>BJ D sy ep e.1 e.2)++[λD=>BJ D sy ep 33 blankR,λD=>Cl D sy ep]
theorem bP (sy ep:Int) (n:Nat) (D:Dev):De (dr sy ep n) D=Bm sy ep (puts (FN n)++[.sync]) D:=by
 rw [<-UJ];congr 1;unfold dr FN puts F1 F2 Wt;simp only [il,jt,map_cons,map_nil,jK,cons_append,nil_append];congr 1
theorem PutsAt.ver {W W':World} {lo s g:Nat} {L:List (Int × ByteArray)} {vs:List Value} {cs:Array Value} (h:PutsAt W lo s L vs) (hb:Blk W g 201 cs) (ht:Turned (λq=>q=g) W W'):PutsAt W' lo s L vs:=by
 refine ⟨h.1,λk e v h1 h2=>?_⟩;obtain ⟨a,b,c,rfl,la,lb,lc,ha,d,hc⟩:=h.2 k e v h1 h2;exact ⟨a,b,c,rfl,la,lb,lc,ha.turned ht (Blk.ne_ ha hb qd),d.turned ht (Blk.ne_ d hb qd),hc.turned ht (Blk.ne_ hc hb qd)⟩
theorem OwnL.ver {W W':World} {base g:Nat} {v:Value} {rows:List (List Value)} {cs:Array Value} (h:OwnL W base 196 1 v rows) (hb:Blk W g 201 cs) (ht:Turned (λq=>q=g) W W'):OwnL W' base 196 1 v rows:=
 h.kept ht (λq hq e=>h.ne_blk hb qd (by rw [hq,e]))
theorem Vu:u32 (nv 1)=1:=qd
theorem CR (i:Int) (h:0<=i/\i<=100000):okI i:=by unfold okI;omega
theorem Mn (d:ByteArray) (i:Int) (w:World) (hd:d.size<=1000000) (hi:0<=i/\i<=100000):Calls Tryz.prog 118 #[.string d,.int .u32 1,.int .i64 i] w λe w'=>e=.returned (.string (Ak d (nv 1) i))/\Grew w w':=by
 have h:=Iv d (nv 1) i w oo (CR i hi);rw [Vu] at h;exact h
theorem Vd (S:Nat->BitVec 32) (k:Nat):(AE S).setIfInBounds k (.int .u32 1)=AE λi=>if i=k then nv 1 else S i:=by
 rw [show (Value.int IntKind.u32 1)=.int .u32 (u32 (nv 1)) from by rw [Vu],Ht]
theorem dl (n q j:Nat) (h:32*q+j<n):(AE λp=>if p<j then (if 32*q+p<n then nv 1 else nv 0) else 0#32).setIfInBounds j (.int .u32 1)=AE λp=>if p<j+1 then (if 32*q+p<n then nv 1 else nv 0) else 0#32:=by
 rw [Vd];refine BF λi _=>?_;rw [<-KC (λp=>if 32*q+p<n then nv 1 else nv 0) (λ_=>0#32) j i];by_cases a:i=j
 . subst a;rw [if_pos rfl,if_pos rfl,if_pos h]
 . rw [if_neg a,if_neg a]
theorem fq (n q j:Nat) (h:¬32*q+j<n):(AE λp=>if p<j then (if 32*q+p<n then nv 1 else nv 0) else 0#32)=AE λp=>if p<j+1 then (if 32*q+p<n then nv 1 else nv 0) else 0#32:=by
 refine BF λi _=>?_;rw [<-KC (λp=>if 32*q+p<n then nv 1 else nv 0) (λ_=>0#32) j i];by_cases a:i=j
 . subst a;rw [if_pos rfl,if_neg oo,if_neg h];rfl
 . rw [if_neg a]
theorem cj (q:Nat):(AE λj=>if j<q then nv 1 else 0#32).setIfInBounds q (.int .u32 1)=AE λj=>if j<q+1 then nv 1 else 0#32:=by
 rw [Vd];exact BF λi _=>KC (λ_=>nv 1) (λ_=>0#32) q i
theorem Wc {w0:World} {x s m:Nat} {sy ep:Int} {D:Dev} {out:Nat->Prop} {W w9:World} (hL:Live w0 x D out W) (hg:Grew W w9) (c:StoreM w9 s m x sy ep) (hs:W.heap.size<=s) (hp:D.pend.length<=900000) {base:Nat} (t:W.heap.size<=base) (n:Nat) (hn:n<=1024) {vs:List Value} {F:Value} {v2:Value}
 (h:PutsAt w9 base s (F1 n++F2 n 32++Wt) (vs++[F])) (j:OwnL w9 base 196 1 v2 ((vs++[F,.func (.func 121) #[ptrV s] #[],.func (.func 122) #[ptrV s] #[]]).map λv=>[v])):
 ∃A2 n2 c2,v2=.slice A2 n2 c2/\Calls Tryz.prog 120 #[.slice A2 n2 c2] w9 λe w'=>e=.returned (.int .i64 (Bm sy ep (puts (FN n)++[.sync]) D).2)/\Live w0 x (Bm sy ep (puts (FN n)++[.sync]) D).1 out w'/\Beside w0 out W w':=by
 obtain ⟨A2,c2,a,_,_,r⟩:=j.listAt;rw [iY] at a;have d:=h.1;have l:(F1 n++F2 n 32++Wt).length=n+33:=by unfold F1 F2 Wt;simp
 have o:(vs++[F,.func (.func 121) #[ptrV s] #[],.func (.func 122) #[ptrV s] #[]]).length=n+35:=by
  rw [iy] at d ⊢;rw [l] at d;simp at d ⊢;omega
 refine ⟨A2,_,c2,a,?_⟩;have p:∀k,base<=k->k<w9.heap.size->(λk=>out k\/(W.heap.size<=k/\k<w9.heap.size)) k:=λk h1 h2=>.inr ⟨oo,h2⟩;have f:(λk=>out k\/(W.heap.size<=k/\k<w9.heap.size)) s:=.inr ⟨hs,c.lt.1⟩
 have q:∀e∈F1 n++F2 n 32++Wt,e.2.size<=9223372036854775807:=by
  intro e he
  have:e.2.size=140:=by
   rcases ip.1 he with he | he
   . rcases ip.1 he with he | he
     . obtain ⟨i,_,rfl⟩:=ie.1 he;exact Bc ..
     . obtain ⟨i,_,rfl⟩:=ie.1 he;exact Bc ..
   . rw [ia.1 he];exact Bc ..
  omega
 have hw:WorksL w0 x (λk=>out k\/(W.heap.size<=k/\k<w9.heap.size)) w9 1 (dr sy ep n) (vs++[F,.func (.func 121) #[ptrV s] #[],.func (.func 122) #[ptrV s] #[]]):=by
  have:=(WorksL.puts (w0:=w0) (x:=x) c.blk f p q h).app (WorksL.cons (Lx c.blk f) (WorksL.cons ((F8 c.blk f).more oo) (WorksL.nil ..)));rw [jK vs] at this;exact this
 refine (RG (hL.more hg) 1 (dr sy ep n) _ hw oo oo A2 c2 r (λb off e=>?_)).mono ?_
 . rcases j.form with ⟨_,h0⟩ | ⟨g,cap,e1,h1,h2,_⟩
   . have:=ix length h0;rw [iY,o,length_nil] at this;omega
   . rw [e1] at a;injection a with a _ _;rw [e] at a;injection a with a;injection a with a _ _;subst a;exact .inr (.inr ⟨oo,h2⟩)
 . rintro e w' ⟨he,h1,h2,_⟩;rw [bP] at he h1;exact ⟨he,h1.few (λk hk=>.inl hk),Beside.wide hg h2 (λk hk=>.inl hk)⟩
section
variable {w0:World} {x:Nat} {sy ep:Int} {D:Dev} {out:Nat->Prop} {W:World}
theorem UG (h:Live w0 x D out W) (G:132<=D.st.length/\D.st.length<=1155) (hs:1<=sy/\sy<=4) (he:0<=ep/\ep<=1099511627776) (hp:D.pend.length<=900000):
 Calls Tryz.prog 78 #[ptrV x,.agg #[.int .i64 sy,.int .i64 ep]] W λe w'=>e=.returned (.int .i64 (GT D sy ep).2)/\Live w0 x (GT D sy ep).1 out w'/\Beside w0 out W w':=by
 have cv:=zh (λ(w1:World) (hg:Grew W w1)=>SD (h.grew hg) sy ep G hs he);have cw:=zh (λ(w1:World) (hg:Grew W w1)=>Kk (h.grew hg) sy ep);have cx:=zh (λ(w1:World) (hg:Grew W w1)=>DZ (h.grew hg));have al:II D sy ep=true:=by unfold II DA;simp;omega
 obtain ⟨n,hn⟩:∃n:Nat,D.st.length - 131=n:=⟨_,rfl⟩;have e0:(D.st.length:Int) - 131=(n:Int):=oo;have e1:1<=n/\n<=1024:=oo;have e2:(D.st.length:Int)<=1155:=oo;have cy:Hid (GT D sy ep=Bm sy ep (puts (FN n)++[.sync]) D):=zh (by unfold GT;rw [if_neg (by rw [al];simp),hn]);have HL:=zh h;have HP:=zh hp;have M:Grew W (W.alloc (.cells #[.int .i64 sy,.int .i64 ep] 88)):=(iW W).alloc _;have hz:=Fy;have cz:=zh (λ(i:Int) (w:World) (hi:0<=i/\i<=100000)=>Mn ES i w (by show 0<=1000000;omega) hi);clear h G hs he hp al hn;go_enter Tryz.func78,Tryz.ntmps78;go_wp2_with fail;refine (cv _ M).mono ?_;rintro e w1 ⟨rfl,g1⟩;have an:Grew W w1:=M.trans g1;have H:=(ik W 88 #[.int .i64 sy,.int .i64 ep] rfl).grew g1;have c0:=H.cell 0;have c1:=H.cell 1;have cl:=H.lt;have N:=zh an;clear an H g1 M;go_wp2_with fail;refine (cw _ N).mono ?_;rintro e w2 ⟨s,m,rfl,ca,g2,cb,eq⟩;have y:Grew W w2:=N.out.trans g2;have ap:W.heap.size<=s:=ij N.size cb;have c3:=zh ca;have O:=zh y;have c4:=zh ap;clear ca g2 cb eq y c0 c1 cl ap;go_wp2_with fail;refine (cx _ O).mono ?_;rintro e w3 ⟨rfl,rfl⟩;go_wp2_with fail
 go_loopg [7,24] n (λgk u i wr=>∃(k:Nat) (vs:List Value),k<=n/\gk=n - k/\i=.int .i64 k/\OwnL wr w2.heap.size 196 1 u (vs.map λv=>[v])/\PutsAt wr w2.heap.size s (F1 k) vs/\Grew w2 wr)
 case atStart=>exact ⟨0,[],oo,oo,rfl,OwnL.nil ..,PutsAt.nil ..,iW _⟩
 case round=>
  obtain ⟨k,vs,hk,ci,rfl,cn,co,hg⟩:=hrel;have c5:=zh ci;have av:=zh cn;have P:=zh co;have HG:=zh hg;clear ci cn co hg;by_cases em:k<n
  . have e3:(k:Int)<(n:Int):=oo;have c6:=zh (cz (131+(k:Int)) wr oo);go_wp2_with fail;refine c6.mono ?_;rintro e wA ⟨rfl,gA⟩;go_wp2_with fail;refine (I7 _ _ _ _).mono ?_;rintro e wB ⟨v,rfl,l,F⟩;obtain ⟨a,rfl⟩:=l.form;have b:Grew wr wB:=gA.trans F;have z:PutAt wB w2.heap.size s (131+(k:Int)) (Ak ES (nv 1) (131+(k:Int))) (.func (.func 159) #[] a):=l.low (by have:=HG.size;have:=gA.size;omega);have f:=zh (av.grew b);have Q:=zh ((P.grew b).snoc (e:=(131+(k:Int),Ak ES (nv 1) (131+(k:Int)))) z);have R:=P.1;have A:=zh (HG.out.trans b);have c7:w2.heap.size<=wB.heap.size:=A.size;have G:vs.length<=1100:=by rw [R];simp [F1,F2];omega
    clear l gA F b z R;go_wp2_with (at_builtin;refine Bh rfl _ _ 195 rfl w2.heap.size 196 1 8 .nilFunc Tryz.underlying195 F5 rfl qd (wB.alloc (.cells #[.func (.func 159) #[] a] 196)) u7 (vs.map λv=>[v]) [.func (.func 159) #[] a] rfl rfl (f.alloc _) wB.heap.size (by rfl) (ik _ _ _ rfl) rfl (by rw [iY];omega) (by rw [iY];omega) (by simp;omega) vs.length (by rw [iY]) ?_);intro g9 fa wC cc Z _ _;have aw:Grew w2 wC:=(A.alloc _).own Z f.row_ge (iX _);have a0:=(Q.grew ((iW wB).alloc (.cells #[.func (.func 159) #[] a] 196))).own (f.alloc (.cells #[.func (.func 159) #[] a] 196)) Z;have c8:=zh cc;have c9:=zh aw;have da:=zh a0;clear cc Z aw a0 c7 G;have dd:=zh (dq k);go_wp2_with fail
    go_roundg (n - (k+1))
    case measure=>rw [c5.out];omega
    case rel=>exact ⟨k+1,vs++[.func (.func 159) #[] a],oo,oo,by go_num,by rw [il];exact c8.out,by rw [dd.out];exact da.out,c9⟩
  . obtain rfl:n=k:=oo;have a1:w2.heap.size<=wr.heap.size:=HG.size;obtain ⟨wa,eu⟩:∃wa:World,wa=wr:=⟨_,rfl⟩;subst eu;clear em;have a2:Blk (wa.alloc (.cells (AE λ_=>0#32) 201)) wa.heap.size 201 (AE λ_=>0#32):=ik wa _ _ rfl;have df:=zh a2;have I:Grew wa (wa.alloc (.cells (AE λ_=>0#32) 201)):=(iW wa).alloc _;have dk:=zh (av.grew I);have dn:=zh (P.grew I);have ds:=zh (HG.out.trans I);clear a2 I;go_wp2_with fail
    go_loopg [7,38] 32 (λgk u i wr=>∃(q:Nat) (d:List Value),q<=32/\gk=32 - q/\i=.int .i64 q/\OwnL wr w2.heap.size 196 1 u (d.map λv=>[v])/\PutsAt wr w2.heap.size s (F1 n++F2 n q) d/\Blk wr wa.heap.size 201 (AE λj=>if j<q then nv 1 else 0#32)/\Grew w2 wr)
    case atStart=>exact ⟨0,vs,oo,oo,rfl,dk,by rw [show F2 n 0=[] from rfl,append_nil];exact dn.out,by (apply Blk.conv;(· exact df.out);(· exact BF λi _=>qs)),ds⟩
    case round=>
     obtain ⟨q,d,hq,cp,rfl,cq,cr,r,y⟩:=hrel;have d0:=zh cp;have a3:=zh cq;have a4:=zh cr;have S:=zh r;have T:=zh y;clear cp cq cr r y;by_cases b4:q<32
     . have e4:(q:Int)<32:=oo;obtain ⟨wb,ex⟩:∃wb:World,wb=wr:=⟨_,rfl⟩;subst ex;go_wp2_with fail;have c:Blk (wb.alloc (.cells (AE λ_=>0#32) 201)) wb.heap.size 201 (AE λ_=>0#32):=ik wb _ _ rfl;have U:=zh c;clear c
       go_loopg [41] 32 (λg3 i wr=>∃j:Nat,j<=32/\g3=32 - j/\i=.int .i64 j/\Blk wr wb.heap.size 201 (AE λp=>if p<j then (if 32*q+p<n then nv 1 else nv 0) else 0#32)/\Turned (λp=>p=wb.heap.size) (wb.alloc (.cells (AE λ_=>0#32) 201)) wr)
       case atStart=>exact ⟨0,oo,oo,rfl,by (apply Blk.conv;(· exact U.out);(· exact BF λi _=>qs)),jD _ _⟩
       case round=>
        obtain ⟨j,hj,cs,rfl,c,ct⟩:=hrel;have a5:=zh cs;have o:=zh ct;clear cs ct;by_cases b5:j<32
        . have e5:(j:Int)<32:=oo;by_cases b9:32*q+j<n
          . have d1:decide (32*(q:Int)+(j:Int)<(n:Int))=true:=iq oo;have ha:=c.cell j;rw [Cg _ _ b5] at ha;have hf:=c.frozen j;have R:=c.lt;go_wp2_with fail
            go_roundg (32 - (j+1))
            case measure=>rw [a5.out];omega
            case rel=>exact ⟨j+1,oo,oo,by go_num,by (apply Blk.conv;(· (repeat' first | (with_reducible assumption) | (with_reducible apply Blk.setRow) | ((with_reducible apply Blk.farRow);rotate_left;(focus (first | (simp;done) | (simp;omega) | omega))) | (with_reducible apply Blk.drew) | (with_reducible apply Blk.drewN) | (with_reducible apply Blk.set_) | (with_reducible exact ik _ _ _ (by first | rfl | (simp;done) | (simp;omega))) | (with_reducible apply Blk.alloc) | ((with_reducible apply Blk.far);rotate_left;(focus (first | (simp;done) | (simp;omega) | omega))) | ((with_reducible apply Blk.grew);rotate_left;(with_reducible assumption)) | ((with_reducible apply Blk.turned);rotate_left;(with_reducible assumption);(focus (first | (simp;done) | (simp;omega) | omega))) | fail));(· exact dl n q j b9)),o.setCell (λ_=>rfl) _⟩
          . have d1:decide (32*(q:Int)+(j:Int)<(n:Int))=false:=ir oo;go_wp2_with fail
            go_roundg (32 - (j+1))
            case measure=>rw [a5.out];omega
            case rel=>exact ⟨j+1,oo,oo,by go_num,by (apply Blk.conv;(· (repeat' first | (with_reducible assumption) | (with_reducible apply Blk.setRow) | ((with_reducible apply Blk.farRow);rotate_left;(focus (first | (simp;done) | (simp;omega) | omega))) | (with_reducible apply Blk.drew) | (with_reducible apply Blk.drewN) | (with_reducible apply Blk.set_) | (with_reducible exact ik _ _ _ (by first | rfl | (simp;done) | (simp;omega))) | (with_reducible apply Blk.alloc) | ((with_reducible apply Blk.far);rotate_left;(focus (first | (simp;done) | (simp;omega) | omega))) | ((with_reducible apply Blk.grew);rotate_left;(with_reducible assumption)) | ((with_reducible apply Blk.turned);rotate_left;(with_reducible assumption);(focus (first | (simp;done) | (simp;omega) | omega))) | fail));(· exact fq n q j b9)),o⟩
        . obtain rfl:j=32:=oo;clear b5;have hS:(AE λp=>if p<32 then (if 32*q+p<n then nv 1 else nv 0) else 0#32)=AE λp=>if 32*q+p<n then nv 1 else nv 0:=BF λi hi=>by rw [if_pos hi]
          rw [hS] at c;have d2:=S.out.lt;have a6:¬wa.heap.size=wb.heap.size:=oo;have g:=(S.alloc (.cells (AE λ_=>0#32) 201)).turned o a6;have a7:Grew w2 wr:=(T.alloc (.cells (AE λ_=>0#32) 201)).turn o (λp e=>by rw [e];exact T.size);have a8:=(a3.alloc (.cells (AE λ_=>0#32) 201)).ver U o;have a9:=(a4.grew ((iW wb).alloc (.cells (AE λ_=>0#32) 201))).ver U o;have J:Turned (λp=>p=wa.heap.size) wr (wr.setCell ⟨wa.heap.size,q,none⟩ (.int .u32 1)):=(jD (λp=>p=wa.heap.size) wr).setCell (p:=⟨wa.heap.size,q,none⟩) (λ_=>rfl) _;have bb:=zh (c.turned J (λe=>a6 e.symm));have bc:=zh ((g.set_ q (.int .u32 1)).conv (cj q));have bf:=zh (a8.ver g J);have bk:=zh (a9.ver g J);have bl:=zh (a7.setCell (p:=⟨wa.heap.size,q,none⟩) (by exact HG.size) (.int .u32 1));have bs:=g.cell q;rw [Cg _ _ b4] at bs;have d3:=g.frozen q;have d4:=g.lt;clear c g a7 a8 a9 J hS d2;go_wp2_with fail;obtain ⟨wd,cu⟩:∃wd,wd=wr.setCell ⟨wa.heap.size,q,none⟩ (.int .u32 1):=⟨_,rfl⟩;rw [<-cu] at bb bc bf bk bl ⊢;clear cu bs d3 d4;refine (JB _ _ _ bb).mono ?_;rintro e we ⟨rfl,ge⟩;have d5:=zh (bc.grew ge);have V:=zh (bf.grew ge);have B:=zh (bk.grew ge);have C:=zh (bl.out.trans ge);clear ge;have X:=zh (Mn (AM (GB n q)) (1+(q:Int)) we (by rw [EL];unfold GB;rw [iY,jr];omega) oo);rw [show (List.range 32).map (λp=>if 32*q+p<n then nv 1 else nv 0)=GB n q from rfl];go_wp2_with fail;refine X.mono ?_;rintro e fb ⟨rfl,ad⟩;go_wp2_with fail;refine (I7 _ _ _ _).mono ?_;rintro e t ⟨v2,rfl,af,ce⟩;obtain ⟨a,rfl⟩:=af.form;have E:Grew we t:=ad.trans ce;have bt:PutAt t w2.heap.size s (1+(q:Int)) (Ak (AM (GB n q)) (nv 1) (1+(q:Int))) (.func (.func 159) #[] a):=af.low (by have:=C.size;have:=ad.size;omega);have K:=zh (V.grew E);have d6:=zh ((B.grew E).snoc (e:=(1+(q:Int),Ak (AM (GB n q)) (nv 1) (1+(q:Int)))) bt);have bv:=B.1;have bx:=zh (C.out.trans E);have a1:w2.heap.size<=t.heap.size:=bx.size;have d7:d.length<=1100:=by rw [bv];simp [F1,F2];omega
          have b0:=zh (d5.grew E);clear af ad ce E bt bv;go_wp2_with (at_builtin;refine Bh rfl _ _ 195 rfl w2.heap.size 196 1 8 .nilFunc Tryz.underlying195 F5 rfl qd (t.alloc (.cells #[.func (.func 159) #[] a] 196)) u7 (d.map λv=>[v]) [.func (.func 159) #[] a] rfl rfl (K.alloc _) t.heap.size (by rfl) (ik _ _ _ rfl) rfl (by rw [iY];omega) (by rw [iY];omega) (by simp;omega) d.length (by rw [iY]) ?_);intro fi fl er cf L _ _;have b1:Grew w2 er:=(bx.alloc _).own L K.row_ge (iX _);have b2:=(d6.grew ((iW t).alloc (.cells #[.func (.func 159) #[] a] 196))).own (K.alloc (.cells #[.func (.func 159) #[] a] 196)) L;have ea:=zh ((b0.out.alloc (.cells #[.func (.func 159) #[] a] 196)).own L (K.ne_blk b0.out qd));have eb:=zh cf;have ee:=zh b1;have eg:=zh b2;clear cf L b1 b2 a1 d7;have eh:=zh (dZ n q);go_wp2_with fail
          go_roundg (32 - (q+1))
          case measure=>rw [d0.out];omega
          case rel=>exact ⟨q+1,d++[.func (.func 159) #[] a],oo,oo,by go_num,by rw [il];exact eb.out,by rw [eh.out,<-jK];exact eg.out,ea,ee⟩
     . obtain rfl:q=32:=oo;have hS:(AE λj=>if j<32 then nv 1 else 0#32)=AE λ_=>nv 1:=BF λi hi=>by rw [if_pos hi]
       have r:=S.out;rw [hS] at r;have ej:=zh r;clear r hS b4;go_wp2_with fail;refine (JB _ _ _ ej).mono ?_;rintro e we ⟨rfl,ge⟩;have V:=zh (a3.grew ge);have B:=zh (a4.grew ge);have C:=zh (T.out.trans ge);clear ge;have X:=zh (Mn (AM ((List.range 32).map λ_=>nv 1)) 0 we (by rw [EL,iY,jr];omega) oo);go_wp2_with fail;refine X.mono ?_;rintro e wA ⟨rfl,gA⟩;go_wp2_with fail;refine (I7 _ _ _ _).mono ?_;rintro e wB ⟨v,rfl,l,F⟩;obtain ⟨a,rfl⟩:=l.form;have b:Grew we wB:=gA.trans F;have z:PutAt wB w2.heap.size s 0 (Ak (AM ((List.range 32).map λ_=>nv 1)) (nv 1) 0) (.func (.func 159) #[] a):=l.low (by have:=C.size;have:=gA.size;omega);have f:=zh (V.grew b);have Q:=zh ((B.grew b).snoc (e:=(0,Ak (AM ((List.range 32).map λ_=>nv 1)) (nv 1) 0)) z);have A:=zh (C.out.trans b);have e6:w2.heap.size<=wB.heap.size:=A.size;have e9:d.length<=1100:=by rw [B.out.1];simp [F1,F2];omega
       clear l gA F b z;go_wp2_with (at_builtin;refine Ab (by rfl) _ _ 195 rfl w2.heap.size 196 1 8 .nilFunc Tryz.underlying195 F5 rfl qd u7 (d.map λv=>[v]) (([.func (.func 159) #[] a,.func (.func 121) #[ptrV s] #[],.func (.func 122) #[ptrV s] #[]]:List Value).map λv=>[v]) rfl (f.alloc _) (some ⟨wB.heap.size,0,none⟩) 3 3 (by rfl) rfl (NE _) (Ki (ik _ _ _ rfl) qs) (Mp (by rfl)) (by rw [iY];omega) (by rw [iY];omega) (by simp;omega) ?_);intro v9 w9 ch ag _;have Y:Grew w2 w9:=(A.alloc _).own ag f.row_ge (iX _);have b3:=(Q.grew ((iW wB).alloc (.cells #[.func (.func 159) #[] a,.func (.func 121) #[ptrV s] #[],.func (.func 122) #[ptrV s] #[]] 196))).own (f.alloc (.cells #[.func (.func 159) #[] a,.func (.func 121) #[ptrV s] #[],.func (.func 122) #[ptrV s] #[]] 196)) ag;have HD:=zh (Wc HL (O.out.trans Y) (c3.grew Y) c4 HP O.size n oo b3 (by rw [il];exact ch));clear ch ag b3 Y;obtain ⟨A2,n2,c2,rfl,hd⟩:=HD.out;have ek:=zh hd;clear hd;go_wp2_with fail;refine ek.mono ?_;rintro e fn ⟨rfl,es,et⟩;go_wp2_with fail;go_ret;rw [cy.out];exact ⟨rfl,es,et⟩
end

end
end Go.Proofs.YtmcgbdemcknkaaaGreatDoor
