/- Parts of the proof (packed), 16. -/
import Derived.Test.YtfklieeipokllaaGreatCzO
namespace Go.Proofs.YtfklieeipokllaaGreat
set_option linter.all false
set_option maxRecDepth 100000
set_option maxHeartbeats 16000000
open List
section
open Go.RowKit
theorem DV {w w':World} {sz:Nat} {A:Option Addr} {rows:List (List Value)} {S:Nat->Prop} (h:ListAt w w.heap.size sz A rows) (ht:Turned S w w') (hS:∀b off o u,A=some ⟨b,off,none⟩->w.cell? ⟨b,o,none⟩=some u->¬S b):ListAt w' w'.heap.size sz A rows:=λhl=>by
 obtain ⟨b,off,e,hb,hc⟩:=h hl;refine ⟨b,off,e,gW hb ht.size,λj cs hj i v hi=>?_⟩;have hv:=hc j cs hj i v hi;rw [ht.cellEq b _ hb (hS b off _ v e hv)];exact hv
theorem Ad {w w':World} {sz:Nat} {A:Option Addr} {cells:List (List Value)} (h:ListAt w w.heap.size sz A cells) (hg:Grew w w'):ListAt w' w'.heap.size sz A cells:=(h.keep (gM _) hg).mono hg.size
theorem OwnL.some_ {w:World} {base e sz:Nat} {v:Value} {rows:List (List Value)} (h:OwnL w base e sz v rows) (a:rows≠[]):∃g cap,v=.slice (some ⟨g,0,none⟩) rows.length cap/\base<=g/\g<w.heap.size:=by
 rcases h.form with ⟨_,h0⟩ | ⟨g,cap,e1,h1,h2,_⟩
 . exact absurd h0 a
 . exact ⟨g,cap,e1,h1,h2⟩
theorem Ty {w0:World} {x s m:Nat} {sy ep:Int} {E R:Dev} {out:Nat->Prop} {b:Nat} {W wA w1 w9 w10:World} (c:Grew W wA) (hd:Done w0 x s m sy ep E (λk=>out k\/k=b) wA w1) (a:StoreM w9 s m x sy ep) (hT:Turned (λq=>q=m\/w1.heap.size<=q) w1 w9)
 (hL:Live w0 x R (up (λk=>out k\/k=b) w1.heap.size w9) w10) (hB:Beside w0 (up (λk=>out k\/k=b) w1.heap.size w9) w9 w10) (d:out s) (e:out m):Done w0 x s m sy ep R out W w10:=by
 have f:=a.lt.2;refine ⟨hL.few (λk hk=>.inl (.inl hk)),a.kept hB (λhk=>hk.2 (.inl (.inl d))) (λhk=>hk.2 (.inl (.inl e))),?_⟩;have h1:Turned (λk=>(w0.heap.size<=k/\¬out k)\/k=m) W w1:=(c.turned _).trans (hd.turned.mono λk _ hk=>hk.elim (λh9=>.inl ⟨h9.1,λh8=>h9.2 (.inl h8)⟩) .inr)
 have h2:Turned (λk=>(w0.heap.size<=k/\¬out k)\/k=m) W w9:=h1.next hT (λk hk hq=>by
  rcases hq with hq | hq
  . exact .inr hq
  . exact absurd hk (by have:=h1.size;omega))
 exact h2.trans (hB.mono λk _ hk=>.inl ⟨hk.1,λh9=>hk.2 (.inl (.inl h9))⟩)
theorem LC {w:World} {g k:Nat} {l:Wl} (h:ListAt w w.heap.size 2 (some ⟨g,0,none⟩) ((wlI l).map BM)) (hk:k<l.length):g<w.heap.size/\w.cell? ⟨g,k*2,none⟩=some (.int .i64 ((l[k].1:Nat):Int))/\w.cell? ⟨g,k*2+1,none⟩=some (.string l[k].2):=by
 obtain ⟨b,a,e,hb,c0,c1⟩:=IE h (k:=k) (by unfold wlI;rw [gO];exact hk);injection e with e;injection e with e1 e2 _;subst e1;subst e2;have he:(wlI l)[k]'(by unfold wlI;rw [gO];exact hk)=(((l[k].1:Nat):Int),l[k].2):=by simp [wlI]
 rw [he] at c0 c1;simp only [ji] at c0 c1;exact ⟨hb,c0,c1⟩
theorem Q1:ksW []=[]:=qd
theorem MapsM.made {w:World} (V:Nat->Nat->U32):MapsM (w.alloc (.map #[] 0)) w.heap.size w.heap.size (ksW []) (λ_=>0) V:=by
 rw [Q1];exact ⟨(MapIs.made w rfl).congr (λa=>by unfold Wy;rw [if_neg (λh=>absurd h.2 not_mem_nil)]),gM _,(λk hk=>absurd hk (not_mem_nil)),(λk hk=>absurd hk (not_mem_nil)),(λk hk=>absurd hk (not_mem_nil))⟩
theorem eW {w1 w2:World} {b s t' k:Nat} {ver:BitVec 32} (hg:Grew w1 w2) (h:(λw':World=>w'.cell? ⟨b,0,none⟩=some (ptrV s)/\b<w'.heap.size/\w'.cell? ⟨t',k,none⟩=some (.int .u32 (u32 ver))/\t'<w'.heap.size) w1):(λw':World=>w'.cell? ⟨b,0,none⟩=some (ptrV s)/\b<w'.heap.size/\w'.cell? ⟨t',k,none⟩=some (.int .u32 (u32 ver))/\t'<w'.heap.size) w2:=⟨AI hg h.1,gW h.2.1 hg.size,AI hg h.2.2.1,gW h.2.2.2 hg.size⟩
theorem ez {tv v:U32} (h:tv+1#32=v) (hn:tv≠4294967295#32):(u32 tv==4294967295)=false/\u32 tv+1=u32 v/\u32 tv+1<=4294967295/\IntKind.u32.wrap (u32 tv+1)=u32 v:=by
 have h1:tv.toNat≠4294967295:=λe=>hn (BitVec.eq_of_toNat_eq (by rw [e];rfl));have h2:=tv.isLt
 have h3:u32 tv+1=u32 v:=by
  unfold u32;rw [<-h,BitVec.toNat_add];have:(1#32:BitVec 32).toNat=1:=rfl;omega
 have h4:u32 tv+1<=4294967295:=by unfold u32;omega
 refine ⟨by rw [iD];unfold u32;omega,h3,h4,?_⟩;rw [h3];exact IntWalk.u32_in _ (BJ v)
theorem Vz {w:World} {base g cap:Nat} {ks:List Nat} (h:OwnL w base 3 1 (.slice (some ⟨g,0,none⟩) ks.length cap) (ks.map λk:Nat=>[.int .i64 (k:Int)])) {j:Nat} (hj:j<ks.length):w.cell? ⟨g,j,none⟩=some (.int .i64 ((ks[j]:Nat):Int))/\g<w.heap.size:=by
 have h1:(ks.map λk:Nat=>[Value.int .i64 (k:Int)])[j]? =some [.int .i64 ((ks[j]:Nat):Int)]:=by rw [gP,gJ hj];rfl
 have h2:=h.cell (j:=j) (i:=0) h1 rfl;exact ⟨by simpa using h2,(h.own_ge rfl).2⟩
def nt (td:ByteArray) (S:Wl) (v:U32) (q p:Nat):U32:=if p∈(ksW S).take q then v else fld td p
theorem cC (td:ByteArray) (S:Wl) (v:U32) (p:Nat):nt td S v 0 p=fld td p:=by unfold nt;rw [take_zero,if_neg not_mem_nil]
theorem dD (td:ByteArray) (S:Wl) (v:U32) (q:Nat) (hq:q<(ksW S).length) (p:Nat):(if p=(ksW S)[q] then v else nt td S v q p)=nt td S v (q+1) p:=by
 unfold nt;rw [gU hq];by_cases h:p=(ksW S)[q]
 . rw [if_pos h,if_pos (iX _ (gQ.2 h))]
 . rw [if_neg h];by_cases h2:p∈(ksW S).take q
   . rw [if_pos h2,if_pos (ij _ h2)]
   . rw [if_neg h2,if_neg (λh9=>(iA.1 h9).elim h2 (λh8=>h (gQ.1 h8)))]
theorem ef (E:Dev) (td:ByteArray) (S:Wl) (v:U32) (h:(topI E).data=td):(List.range 32).map (nt td S v (ksW S).length)=GE E S v:=by
 unfold GE;apply ie;intro p hp;have a:=iP.1 hp;unfold nt;rw [iL (gM _),h]
 have:p∈ksW S↔(S.any λe=>e.1 / 32==p)=true:=by
  unfold ksW;rw [ip];exact ⟨λh=>h.2,λh=>⟨hp,h⟩⟩
 by_cases h2:p∈ksW S
 . rw [if_pos h2,if_pos (this.1 h2)]
 . rw [if_neg h2,if_neg (λh9=>h2 (this.2 h9))]
theorem M4 {go g n c:Nat} (h:(Value.slice (some ⟨go,0,none⟩) n c).ownBlock=some g):g=go:=by
 have e1:go=g:=by simpa [Value.ownBlock] using h
 exact e1.symm
def en0 (E:Dev) (S:Wl) (v:U32):Int × ByteArray:=(0,AZ (AM (GE E S v)) v 0)
def enM (E:Dev) (S:Wl) (v:U32) (q:Nat):List (Int × ByteArray):=((ksW S).take q).map λk:Nat=>(1+(k:Int),AZ (AM (Es E S v k)) v (1+(k:Int)))
def enD (S:Wl) (v:U32) (q:Nat):List (Int × ByteArray):=(S.take q).map λe=>(131+((e.1:Nat):Int),AZ e.2 v (131+((e.1:Nat):Int)))
theorem ZB (E:Dev) (S:Wl) (v:U32) (q:Nat) (hq:q<(ksW S).length):enM E S v (q+1)=enM E S v q++[(1+(((ksW S)[q]:Nat):Int),AZ (AM (Es E S v (ksW S)[q])) v (1+(((ksW S)[q]:Nat):Int)))]:=by
 unfold enM;rw [gU hq,gm];rfl
theorem ZX (S:Wl) (v:U32) (q:Nat) (hq:q<S.length):enD S v (q+1)=enD S v q++[(131+((S[q].1:Nat):Int),AZ S[q].2 v (131+((S[q].1:Nat):Int)))]:=by
 unfold enD;rw [gU hq,gm];rfl
theorem Vf (E:Dev) (S:Wl) (v:U32) (q:Nat):(enM E S v q).length<=(ksW S).length:=by unfold enM;rw [gO,i8];omega
theorem dG (S:Wl) (v:U32) (q:Nat):(enD S v q).length<=S.length:=by unfold enD;rw [gO,i8];omega
theorem fT (E:Dev) (S:Wl) (v:U32):en0 E S v::(enM E S v (ksW S).length++enD S v S.length)=wlI (Gr E S v):=by
 unfold wlI Gr enM enD en0;rw [iL (gM _),iL (gM _),map_cons,gm,jM,jM];congr 1
def slU (l:Wl) (q:Nat):List (Int × ByteArray):=(List.range q).map λi:Nat=>(34+(i:Int),(l.getD i (0,⟨#[]⟩)).2)
theorem Yw (l:Wl) (q:Nat) (hq:q<l.length):slU l (q+1)=slU l q++[(34+(q:Int),l[q].2)]:=by
 unfold slU;rw [jt,gm];simp [iE,gJ hq]
theorem QS (l:Wl) (q:Nat):(slU l q).length=q:=by unfold slU;rw [gO,jK]
theorem cW (l:Wl):slU l l.length=wlI (Bf l):=by
 unfold slU wlI Bf;rw [jM];apply ie;intro j _;show (34+(j:Int),_)=(((34+j:Nat):Int),_);rw [show (((34+j:Nat)):Int)=34+(j:Int) from oo]
theorem UI (l:Wl) (q:Nat) (hq:q<l.length):DR (DB (l.take (q+1)))=DR (DB (l.take q))++l[q].2:=by
 unfold DB;rw [gU hq,gm];exact Lg _ _
theorem Ls (l:Wl):((wlI l).map BM).length=l.length:=by unfold wlI;rw [gO,gO]
theorem Z2 (E:Dev) (S:Wl) (v:U32) (h:S.length<=64):0<(Gr E S v).length/\(Gr E S v).length<=97:=by
 have h1:(ksW S).length<=32:=by unfold ksW;exact gY (jY _ _) (by rw [jK];exact gM _)
 unfold Gr;rw [i9,iI,gO,gO];omega
theorem XY (E:Dev) (S:Wl) (v:U32):∀e∈Gr E S v,e.2.size=140:=by
 intro e he;unfold Gr at he;rcases jB.1 he with rfl | he
 . exact An ..
 . rcases iA.1 he with he | he
   . obtain ⟨k,_,rfl⟩:=gV.1 he;exact An ..
   . obtain ⟨k,_,rfl⟩:=gV.1 he;exact An ..
def bO:Prop:=∀(g cap n:Nat) (ws:List (Int × ByteArray)) (_:0<ws.length/\ws.length<=100000) (_:(ws.map (·.1)).Nodup) (_:∀e∈ws,0<=e.1/\e.1<(n:Int)) (_:n<=1024) (w:World) (base:Nat) (_:OwnL w base 65 2 (.slice (some ⟨g,0,none⟩) ws.length cap) (ws.map BM)),
 Calls Tryz.prog 106 #[.slice (some ⟨g,0,none⟩) ws.length cap,.func (.func 107) #[] #[]] w λe w'=>e=.returned (.tuple #[])/\Turned (λi=>i=g) w w'/\ListAt w' w'.heap.size 2 (some ⟨g,0,none⟩) ((wlI (Bw n ws)).map BM)
theorem VT:bO:=λg cap n ws a b c d w base e=>Xx g cap n ws a b c d w base e

end
section
attribute [local go_sem ↓] Go.wp_at_zero Go.wp_at_succ
open Go.RowKit
def Qp (w0:World) (x:Nat) (out:Nat->Prop) (W:World) (n B:Nat) (v:Value) (f:Dev->Dev × Int):Prop:=
 ∃fn first caps,v=.func (.func fn) first caps/\C8 Tryz.prog fn/\∀D' w',Live w0 x D' out w'->Beside w0 out W w'->D'.pend.length<=B->Calls Tryz.prog fn (first++caps) w' λe w''=>
  e=.returned (.int .i64 (f D').2)/\Live w0 x (f D').1 out w''/\Beside w0 out w' w''/\(f D').1.pend.length<=D'.pend.length+n
theorem Works.toB {w0:World} {x:Nat} {out:Nat->Prop} {W:World} {n n' B:Nat} {v:Value} {f:Dev->Dev × Int} (h:Works w0 x out W n v f) (hn:n<=n') (hB:B<=990000):Qp w0 x out W n' B v f:=by
 obtain ⟨fn,first,d,h1,h2,h3⟩:=h;exact ⟨fn,first,d,h1,h2,λD' w' a b c=>(h3 D' w' a b oo).mono λe w'' h=>⟨h.1,h.2.1,h.2.2.1,oo⟩⟩
def WorksLB (w0:World) (x:Nat) (out:Nat->Prop) (W:World) (n B:Nat) (fs:List (Dev->Dev × Int)) (vs:List Value):Prop:=
 vs.length=fs.length/\∀(k:Nat) (f:Dev->Dev × Int) (v:Value),fs[k]? =some f->vs[k]? =some v->Qp w0 x out W n B v f
theorem WorksL.toB {w0:World} {x:Nat} {out:Nat->Prop} {W:World} {n n' B:Nat} {fs:List (Dev->Dev × Int)} {vs:List Value} (h:WorksL w0 x out W n fs vs) (hn:n<=n') (hB:B<=990000):WorksLB w0 x out W n' B fs vs:=
 ⟨h.1,λk f v h1 h2=>(h.2 k f v h1 h2).toB hn hB⟩
theorem WorksLB.snoc {w0:World} {x:Nat} {out:Nat->Prop} {W:World} {n B:Nat} {fs:List (Dev->Dev × Int)} {vs:List Value} {f:Dev->Dev × Int} {v:Value} (h:WorksLB w0 x out W n B fs vs) (hk:Qp w0 x out W n B v f):WorksLB w0 x out W n B (fs++[f]) (vs++[v]):=by
 refine ⟨by rw [iI,iI,h.1];rfl,λj f' v' h1 h2=>?_⟩;rcases it j fs.length with hj | hj
 . rw [jF hj] at h1;rw [jF (by rw [h.1];exact hj)] at h2;exact h.2 j f' v' h1 h2
 . rw [iq hj] at h1;rw [iq (by rw [h.1];exact hj),h.1] at h2;have h0:j - fs.length=0:=by have:=(iG.1 h1).1;simp at this;omega
   rw [h0] at h1 h2;obtain rfl:f=f':=by simpa using h1
   obtain rfl:v=v':=by simpa using h2
   exact hk
theorem YP {w0:World} {x:Nat} {D:Dev} {out:Nat->Prop} {W:World} (hL:Live w0 x D out W) (n B:Nat) (fs:List (Dev->Dev × Int)) (vs:List Value) (hW:WorksLB w0 x out W n B fs vs)
 (i:D.pend.length+n*vs.length<=B) (hv:vs.length<=990000) (A:Option Addr) (c:Nat) (b:ListAt W W.heap.size 1 A (vs.map λv=>[v])) (hA:EB w0 out A):
 Calls Tryz.prog 118 #[.slice A vs.length c] W λe w'=>e=.returned (.int .i64 (Dd fs D).2)/\Live w0 x (Dd fs D).1 out w'/\Beside w0 out W w':=by
 refine (Yy (λk D' w'=>(k<=vs.length->D'.pend.length<=D.pend.length+n*k)/\Live w0 x D' out w'/\Beside w0 out W w') fs vs hW.1 oo A c (λk D' w' h=>b.beside h.2.2 hA) (λk h1 h2=>?_) D W ⟨λ_=>oo,hL,iR _ _⟩).mono ?_
 . obtain ⟨fn,first,g,hv,hE,hc⟩:=hW.2 k _ _ (gJ h1) (gJ h2);refine ⟨fn,first,g,hv,hE,λD' w' ⟨hp,a,hB⟩=>?_⟩;have h9:=hp oo;have h8:n*k<=n*vs.length:=Nat.mul_le_mul_left n oo;refine (hc D' w' a hB oo).mono ?_;rintro e l ⟨he,d,f,m⟩;exact ⟨he,λ_=>by rw [Nat.mul_succ];omega,d,hB.trans f⟩
 . rintro e w' ⟨he,j,hj,hp,a,hB⟩;exact ⟨he,a,hB⟩
theorem XU:C8 Tryz.prog 116:=BV Tryz.func116 qk qk
theorem Rx {w0:World} {x s m:Nat} {sy ep:Int} {out:Nat->Prop} {W:World} (hb:Blk W s 268 (C5 x sy ep m)) (hs:out s) {b2 b25 ge c:Nat} (h2:Blk W b2 110 #[ptrV s]) (o2:out b2) (L:List (Int × ByteArray)) (hl:L.length<=97) (f:∀e∈L,e.2.size<=9223372036854775807)
 (g:Blk W b25 194 #[.slice (some ⟨ge,0,none⟩) L.length c]) (h:out b25) (d:ListAt W W.heap.size 2 (some ⟨ge,0,none⟩) (L.map BM)) (og:out ge):
 Qp w0 x out W 100 980000 (.func (.func 116) #[] #[.pointer (some ⟨b2,0,none⟩),.pointer (some ⟨b25,0,none⟩)]) (λD=>BS sy ep (CN L) D):=by
 refine ⟨_,_,_,rfl,XU,λD' w' hL hB hp=>?_⟩;have hC:=Kd hL (hb.beside hB hs) hs oo L oo f (some ⟨ge,0,none⟩) c (d.beside hB (λb off e=>by injection e with e;injection e with e _ _;subst e;exact .inr og));have i:=PA sy ep (CN L) D';have j:(CN L).length=L.length+3:=by unfold CN;rw [iI,gO];rfl
 have k2:=h2.beside hB o2;have a:=g.beside hB h;have c2:=k2.cell 0;have l2:=k2.lt;have o:=a.cell 0;have p:=a.lt;have HC:=zh hC;have k:=zh (show (BS sy ep (CN L) D').1.pend.length<=D'.pend.length+100 from oo);clear hC i j k2 a hb h2 g d f hL hB hp;show Calls Tryz.prog 116 #[.pointer (some ⟨b2,0,none⟩),.pointer (some ⟨b25,0,none⟩)] w' _;go_enter Tryz.func116,Tryz.ntmps116;go_wp2_with fail;refine HC.mono ?_;rintro e w3 ⟨rfl,l,n⟩;go_wp2_with fail;go_ret;exact ⟨rfl,l,n,k⟩
def Vv (sy ep:Int) (l:Wl) (v:U32):List (Dev->Dev × Int):=((wlI (Bf l)).map (λe D=>BC D sy ep e.1 e.2)++[λD=>CW D sy ep,λD=>BC D sy ep 33 (CP l v),λD=>CW D sy ep])++[λD=>BS sy ep (CN (wlI l)) D]
theorem XO (sy ep:Int) (l:Wl) (v:U32) (D:Dev):Dd (Vv sy ep l v) D=BS sy ep (B3 l v) D:=by
 have h1:∀D,Dd ((wlI (Bf l)).map (λe D=>BC D sy ep e.1 e.2)++[λD=>CW D sy ep,λD=>BC D sy ep 33 (CP l v),λD=>CW D sy ep]) D=BS sy ep (puts (Bf l)++[.sync]++(puts [(33,CP l v)]++[.sync])) D:=by
  intro D;rw [<-TX];congr 1;unfold wlI puts;simp only [gm,jM,map_cons,map_nil,iZ,cons_append,nil_append];congr 1
 have h2:B3 l v=(puts (Bf l)++[.sync]++(puts [(33,CP l v)]++[.sync]))++CN (wlI l):=by
  rw [PT];unfold B3;simp only [iZ]
 obtain ⟨P,hP⟩:∃P,puts (Bf l)++[St.sync]++(puts [(33,CP l v)]++[St.sync])=P:=⟨_,rfl⟩;rw [hP] at h1 h2;unfold Vv;rw [aP,h1,h2,Ed];split
 . show (if (BS sy ep (CN (wlI l)) _).2=0 then (_,0) else BS sy ep (CN (wlI l)) _)=_;split
   . rename_i h9;exact Prod.ext rfl h9.symm
   . rfl
 . rfl
theorem Xb {w0:World} {x s m:Nat} {sy ep:Int} {E:Dev} {out9:Nat->Prop} {w9:World} (hH:Held w0 x s m sy ep E out9 w9) (hp:E.pend.length<=900000) {lo base:Nat} (d:∀k,lo<=k->k<w9.heap.size->out9 k) (I:lo<=base) (l:Wl) (v:U32) (hl:l.length<=97) (o:∀e∈l,e.2.size=140)
 {b2 b25 ge c:Nat} (h2:Blk w9 b2 110 #[ptrV s]) (o2:out9 b2) (i:Blk w9 b25 194 #[.slice (some ⟨ge,0,none⟩) l.length c]) (u:lo<=b25) (z:ListAt w9 w9.heap.size 2 (some ⟨ge,0,none⟩) ((wlI l).map BM)) (h:lo<=ge/\ge<w9.heap.size)
 {vs:List Value} {F v2:Value} (f:PutsAt w9 base s (slU l l.length) vs) (w:PutAt w9 base s 33 (CP l v) F)
 (n:OwnL w9 base 196 1 v2 ((vs++[.func (.func 115) #[ptrV s] #[],F,.func (.func 115) #[ptrV s] #[],.func (.func 116) #[] #[.pointer (some ⟨b2,0,none⟩),.pointer (some ⟨b25,0,none⟩)]]).map λv=>[v])):
 ∃A2 n2 c2,v2=.slice A2 n2 c2/\Calls Tryz.prog 118 #[.slice A2 n2 c2] w9 λe w'=>e=.returned (.int .i64 (BS sy ep (B3 l v) E).2)/\Live w0 x (BS sy ep (B3 l v) E).1 out9 w'/\Beside w0 out9 w9 w':=by
 obtain ⟨A2,c2,a,_,_,H⟩:=n.listAt;rw [gO] at a;have p:=f.1;rw [QS] at p;rw [cW] at f;have A:(vs++[Value.func (.func 115) #[ptrV s] #[],F,.func (.func 115) #[ptrV s] #[],.func (.func 116) #[] #[.pointer (some ⟨b2,0,none⟩),.pointer (some ⟨b25,0,none⟩)]]).length=l.length+4:=by rw [iI,p];rfl
 refine ⟨A2,_,c2,a,?_⟩;have hb:=hH.store.blk;have q:∀k,base<=k->k<w9.heap.size->out9 k:=λk h1 h2=>d k oo h2
 have C:∀e∈wlI (Bf l),e.2.size<=9223372036854775807:=by
  intro e he;obtain ⟨y,hy,rfl⟩:=gV.1 he;unfold Bf at hy;obtain ⟨j,hj,rfl⟩:=gV.1 hy;have r:=iP.1 hj;show (l.getD j (0,⟨#[]⟩)).2.size<=_;rw [iE,gJ r];have:=o _ (gS r);show l[j].2.size<=_;omega
 have D:∀e∈wlI l,e.2.size<=9223372036854775807:=by
  intro e he;obtain ⟨y,hy,rfl⟩:=gV.1 he;have:=o y hy;show y.2.size<=_;omega
 have G:(CP l v).size<=9223372036854775807:=by have:(CP l v).size=140:=An ..;omega
 have t:(wlI l).length=l.length:=by unfold wlI;rw [gO]
 have hC:=Rx (x:=x) (m:=m) (sy:=sy) (ep:=ep) hb hH.os h2 o2 (wlI l) (by rw [t];exact hl) D (by rw [t];exact i) (d _ u i.lt) z (d _ h.1 h.2) (w0:=w0)
 have hw:WorksLB w0 x out9 w9 100 980000 (Vv sy ep l v) (vs++[.func (.func 115) #[ptrV s] #[],F,.func (.func 115) #[ptrV s] #[],.func (.func 116) #[] #[.pointer (some ⟨b2,0,none⟩),.pointer (some ⟨b25,0,none⟩)]]):=by
  have h1:=(WorksL.puts (w0:=w0) (x:=x) hb hH.os q C f).app (WorksL.cons ((F6 hb hH.os).more oo) (WorksL.cons (Pp hb hH.os q G w) (WorksL.cons ((F6 hb hH.os).more oo) (WorksL.nil ..))));have h3:=(h1.toB (n':=100) (B:=980000) oo oo).snoc hC;rw [iZ vs] at h3;exact h3
 refine (YP hH.live 100 980000 (Vv sy ep l v) _ hw oo oo A2 c2 H (λb off e=>?_)).mono ?_
 . obtain ⟨g,cap,e1,h1,h9⟩:=n.some_ (λe=>by have:=iH length e;rw [gO,A,length_nil] at this;omega);rw [e1] at a;injection a with a _ _;rw [e] at a;injection a with a;injection a with a _ _;subst a;exact .inr (d _ oo h9)
 . rintro e w' ⟨he,h1,h2⟩;rw [XO] at he h1;exact ⟨he,h1,h2⟩
theorem ab (n:Nat) (h:n<=97):IntKind.u32.wrap (n:Int)=u32 (nv n):=by
 have h9:u32 (nv n)=(n:Int):=by unfold u32 nv;rw [jC];omega
 rw [h9];exact IntWalk.u32_in _ oo

def K3 (E:Dev) (sy ep:Int) (S:Wl) (v:U32):Dev × Int:=if El E (ksW S)≠0 then (E,El E (ksW S)) else BS sy ep (B3 (Gr E S v) v) E
theorem Ji {E:Dev}:∀l:List Nat,(∀k∈l,C9 E k)->∀r,El E (l++r)=El E r
 | [],_,r=>rfl
 | k::l,h,r=>by
   have hk:=h k (iO ..);show (if (mapI E k).ok=false then 11 else if (mapI E k).ver≠fld (topI E).data k then 12 else El E (l++r))=_;rw [if_neg (by rw [hk.2.1];simp),if_neg (by rw [hk.2.2];simp)];exact Ji l (λj hj=>h j (iJ _ hj)) r
theorem VU (S:Wl) (hS:S.Pairwise λa b=>a.1<b.1) (c:∀e∈S,e.1 / 32<32) (i:Nat):∀d,i+d<=S.length->∃r,ksW (S.take (i+d))=ksW (S.take i)++r
 | 0,_=>⟨[],qs⟩
 | d+1,hd=>by
   obtain ⟨r,hr⟩:=VU S hS c i d oo;have hlt:i+d<S.length:=oo;by_cases f:S[i+d].1 / 32∈ksW (S.take (i+d))
   . exact ⟨r,by rw [show i+(d+1)=i+d+1 from rfl,Vm S (i+d) hlt f,hr]⟩
   . exact ⟨r++[S[i+d].1 / 32],by rw [show i+(d+1)=i+d+1 from rfl,Va S hS (i+d) hlt (c _ (gS hlt)) f,hr,iZ]⟩
theorem Wb {E:Dev} (hf:E.failed=false) (hl:132<=E.st.length) (ht:(topI E).ok=true) (k:Nat) (hk:k<32) {d:ByteArray} {v:U32} {b:Bool} {er:Int} (h:C7 E (1+(k:Int)) (fld (topI E).data k)=(⟨d,v,b⟩,er)):(C9 E k/\er=0/\(mapI E k).data=d/\d.size=128)\/(er≠0/\∀r,El E (k::r)=er):=by
 have hm:∀r,El E (k::r)=if (mapI E k).ok=false then 11 else if (mapI E k).ver≠fld (topI E).data k then 12 else El E r:=λ_=>rfl;rw [VS hf k hk hl] at h;by_cases h1:(mapI E k).ok=false
 . rw [if_pos h1] at h;injection h with _ h2;exact .inr ⟨by rw [<-h2];simp,λr=>by rw [hm,if_pos h1,h2]⟩
 rw [if_neg h1] at h;by_cases h3:(mapI E k).ver≠fld (topI E).data k
 . rw [if_pos h3] at h;injection h with _ h2;exact .inr ⟨by rw [<-h2];simp,λr=>by rw [hm,if_neg h1,if_pos h3,h2]⟩
 rw [if_neg h3] at h;injection h with h4 h2;have hd:(mapI E k).data=d:=by rw [h4]
 have a:(mapI E k).ok=true:=by simpa using h1
 exact .inl ⟨⟨ht,a,io.1 h3⟩,h2.symm,hd,by rw [<-hd];exact C4 a⟩
section
variable {w0:World} {x s m:Nat} {sy ep:Int} {D:Dev} {out:Nat->Prop} {W:World}
theorem L9 (jj:bO) (h:Held w0 x s m sy ep D out W) (i6:132<=D.st.length/\D.st.length<=1155) (hp:D.pend.length<=800000) (E:Dev) (fb:Bool) (hE:Bs D sy ep=(E,fb,0)) (n:Nat) (hn:D.st.length - 131=n) (ws:List (Int × ByteArray)) (jz:∀e∈ws,okI e.1) (A:Option Addr) (c:Nat) (i7:ListAt W W.heap.size 2 A (ws.map BM)) (hA:EB w0 out A) (fs:Ac n ws=0) (ea:ws≠[]) (cr:(topI E).ok=true) (S:Wl) (hS:Bw n ws=S) (v:U32) (hv:(topI E).ver+1#32=v) (b2:(topI E).ver≠4294967295#32):
 Calls Tryz.prog 51 #[ptrV s,.slice A ws.length c] W λe w'=>e=.returned (.int .i64 (K3 E sy ep S v).2)/\Done w0 x s m sy ep (K3 E sy ep S v).1 out W w':=by
 obtain ⟨fn,ii,qh⟩:=JH n ws fs;have eb:=JI D sy ep;rw [hE] at eb;have fu:=eb.2 rfl;have fv:E.st.length=D.st.length:=eb.1;have j0:E.pend.length<=800100:=by have:=Pu D sy ep;rw [hE] at this;show E.pend.length<=_;have h9:(E,fb,(0:Int)).1.pend.length=E.pend.length:=rfl;omega
 have j1:=h.store.lt;have j2:=h.live.base.size;have ec:Grew W (W.alloc (.cells #[ptrV s] 110)):=(gK W).alloc _;have j3:Blk (W.alloc (.cells #[ptrV s] 110)) W.heap.size 110 #[ptrV s]:=gZ W _ _ rfl;have f3:Held w0 x s m sy ep D (λk=>out k\/k=W.heap.size) (W.alloc (.cells #[ptrV s] 110)):=⟨(h.live.more ec).few (λk hk=>hk.elim .inl (λh9=>.inr (by rw [h9];simp))),h.store.grew ec,.inl h.os,.inl h.om,h.m0⟩;have HF:=zh (Eo f3 i6.1 oo E fb 0 hE)
 have qu:((ws.length:Int)==0)=false:=by
  have:ws.length≠0:=λe=>ea (jm.1 e);rw [iD];omega
 have j4:0<ws.length:=length_pos_iff.2 ea;have m5:1<=n/\n<=1024:=oo;have j5:S.length=ws.length:=by rw [<-hS];exact P7 n ws (λe he=>(fn e he).2) ii
 have j6:∀e∈S,e.1<n/\e.2.size=128:=λe he=>by
  rw [<-hS] at he;obtain ⟨h1,h2⟩:=(EO n ws e).1 he;obtain ⟨y,hy,qi⟩:=jk.1 h2;exact ⟨h1,by rw [<-qi];exact (fn y (List.mem_of_find?_eq_some hy)).1⟩
 have j7:S.Pairwise λa b=>a.1<b.1:=by rw [<-hS];exact Hh n ws
 obtain ⟨⟨td,tv,tk⟩,b1⟩:∃r,topI E=r:=⟨_,rfl⟩;have m6:tk=true:=by rw [b1] at cr;exact cr
 subst m6;have j8:tv+1#32=v:=by rw [b1] at hv;exact hv
 have j9:tv≠4294967295#32:=by rw [b1] at b2;exact b2
 have ka:Oy E=(⟨td,tv,true⟩,0):=by rw [QH fu (by rw [fv];omega),b1];rfl
 have m7:td.size=128:=by have:=C4 cr;have h9:(AQ (E.content 0) 0).data=td:=(by show (topI E).data=td;rw [b1]);rw [<-h9];exact this
 have kb:(topI E).data=td:=by rw [b1]
 have m8:=zh f3;have kc:=zh j3;have ee:=zh ec;have m9:=zh i7;have na:=zh hA;have nb:=zh fu;have kd:=zh (show 132<=E.st.length/\E.st.length<=1155 from oo);have b3:=zh j1;have ke:=zh (show out s/\out m from ⟨h.os,h.om⟩);have nc:=zh h.store;have nd:=zh (show Ac (E.st.length - 131) ws=0 from by rw [fv,hn];exact fs);have nf:=zh fn;have ng:=zh ii;have nh:=zh jz;have ch:=zh (show Bw n ws=S/\S.length=ws.length from ⟨hS,j5⟩);have cu:=zh j6;have kf:=zh j7;have ni:=zh cr;have nj:=zh ka;have kg:=zh kb;have qv:=zh b1;have nk:=zh j8;have nl:=zh j9;have nn:=zh j0;have np:=zh jj;have nq:=zh ea;have nr:=zh j2;clear jj h i6 hp hE hn jz i7 hA fs cr hS hv b2 fn ii eb fu fv j0 j1 ec j3 f3 j5 j6 j7 b1 j8 j9 ka kb ea j2;go_enter Tryz.func51,Tryz.ntmps51;go_wp2_with fail;refine HF.mono ?_;rintro e w1 ⟨rfl,hd⟩;have kh:¬W.heap.size=m:=by have:=b3.2;omega
 have b4:Blk w1 W.heap.size 110 #[ptrV s]:=kc.turned hd.turned (λhq=>hq.elim (λh9=>h9.2 (.inr rfl)) kh);have eg:=Km (m8.done hd);have ns:=hd.turned.size;have qw:W.heap.size<w1.heap.size:=by have:=kc.out.lt;omega
 have f4:ListAt w1 w1.heap.size 2 A (ws.map BM):=DV (Ad m9 ee) hd.turned (λb off o u e hu hq=>by
  rcases hq with hq | hq
  . rcases na.out b off e with h9 | h9
    . exact absurd hq.1 (by have:=h9;omega)
    . exact hq.2 (.inl h9)
  . obtain ⟨F,iv,_⟩:=(nc.grew ee).seen
    exact Fi iv hu hq)
 have b5:=zh (show (w0.heap.size<=w1.heap.size/\s<w1.heap.size)/\m<w1.heap.size from ⟨⟨by have:=nr.out;omega,by have:=b3.1;omega⟩,by have:=b3.2;omega⟩);have ei:=zh (λ(w':World) (ht:Turned (λq=>q=m\/w1.heap.size<=q) w1 w') (d4:StoreM w' s m x sy ep)=>eg.up b5.1 b5.2 ht d4);have HD:=zh hd;have nu:=zh b4;have ki:=zh eg;have nw:=zh f4;have kj:=zh (Ln eg kd ws oo nh A c f4);rw [nd.out] at kj;have av:=b4.cell 0;have a0:=b4.lt;clear hd b4 eg f4 ns HF;go_wp2_with fail;refine kj.mono ?_;rintro e w2 ⟨rfl,g2⟩;have kk:=zh (RG (ei w2 (g2.turned _) (ki.store.grew g2)));rw [nj.out] at kk;have f5:=zh g2;have av:=AI g2 av;have a0:W.heap.size<w2.heap.size:=gW a0 g2.size;clear g2;go_wp2_with fail;refine kk.mono ?_;rintro e w3 ⟨rfl,fi⟩;unfold L7;have ek:m<w1.heap.size:=b5.2;have f6:Hid (Turned (λq=>q=m) w1 w3):=zh ((f5.turned _).trans fi.turned);have nx:=zh fi.store
 have km:ListAt w3 w3.heap.size 2 A (ws.map BM):=DV (Ad nw f5) fi.turned (λb off o u e hu hq=>by
  obtain ⟨F,iv,_⟩:=(ki.store.grew f5).seen
  exact Fi iv hu hq)
 have ny:=zh km;have ci:=nu.turned f6 kh;have av:=ci.cell 0;have a0:=ci.lt;have nz:=zh ci;clear fi km ci;have qx:=BJ tv;go_wp2_with fail;have kn:Hid (Blk (w3.alloc (.cells #[.string td,.int .u32 (u32 tv),.bool true] 178)) w3.heap.size 178 #[.string td,.int .u32 (u32 tv),.bool true]):=zh (gZ w3 _ _ rfl);have f7:Grew w3 (w3.alloc (.cells #[.string td,.int .u32 (u32 tv),.bool true] 178)):=(gK w3).alloc _;have n0:=zh f7;refine (aq A c ws.length ws _ rfl oo (Ad ny f7)).mono ?_;rintro e w4 ⟨v4,rfl,fl,g4⟩;have ko:ws.map BM≠[]:=λe=>nq (map_eq_nil_iff.1 e);obtain ⟨gs,cs,rfl,mg,rp⟩:=fl.some_ ko;rw [gO] at fl ⊢;have qy:w3.heap.size<gs:=gW kn.out.lt mg;have cv:=zh (n0.out.trans g4);have n1:=zh (np gs cs n ws ⟨j4,oo⟩ ng (λe he=>(nf e he).2) m5.2 w4 _ fl);have n3:=zh (kn.grew g4);have av:=AI cv av;have a0:W.heap.size<w4.heap.size:=gW a0 cv.size;clear f7 fl g4 ko mg;go_wp2_with fail;refine n1.mono ?_;rintro e w5 ⟨rfl,d1,ih⟩;rw [ch.out.1] at ih;have qz:w1.heap.size<=w3.heap.size:=f6.size;have em:=zh (n3.turned d1 (λe=>oo));have n4:Hid (Turned (λq=>q=m\/w1.heap.size<=q) w1 w5):=zh (((f6.mono λq _ hq=>Or.inl hq).trans (cv.turned _)).trans (d1.mono λq _ hq=>.inr (by rw [hq];omega)));have n5:Hid (StoreM w5 s m x sy ep):=zh ((nx.grew cv).kept d1 (λe=>by have:=b5.1.2;omega) (λe=>oo));have kp:=zh ih;have a8:Blk w5 W.heap.size 110 #[ptrV s]:=(nz.grew cv).turned d1 (λe=>oo);have n6:=zh a8;have av:=a8.cell 0;have a0:=a8.lt;have cw:=em.cell 0;have ga:=em.cell 1;have cx:=em.out.lt;have kq:=GM;have n7:=@run_makeMap Tryz.prog;have n8:=zh (JA td m7);clear d1 ih a8;go_wp2_with fail;refine (n8 _).mono ?_;rintro e w6 ⟨rfl,g6⟩;have gb:=zh g6;have av:=AI g6 av;have a0:W.heap.size<w6.heap.size:=gW a0 g6.size;have cw:=AI g6 cw;have ga:=AI g6 ga;have cx:w3.heap.size<w6.heap.size:=gW cx g6.size;have eq:Hid (Blk ((w6.alloc (.cells (AC λ_=>0#32) 185)).setRow w6.heap.size (AC (fld td))) w6.heap.size 185 (AC (fld td))):=zh ((gZ w6 _ _ rfl).setRow _);have kr:Hid (Grew w5 ((w6.alloc (.cells (AC λ_=>0#32) 185)).setRow w6.heap.size (AC (fld td)))):=zh ((gb.alloc _).setRow gb.size _);rw [<-ch.out.2];clear g6;go_wp2_with (refine AO rfl 185 _ _ rfl w6.heap.size (AC (fld td)) rfl rfl 185 (AC λ_=>0#32) (gZ w6 _ _ rfl) (by rw [Ae,Ae]) (by rw [Ae];exact EV) (EA _) ?_);have n9:S.length<=64:=by rw [ch.out.2];exact qh
 obtain ⟨wa,ix⟩:∃wa:World,wa=(w6.alloc (.cells (AC λ_=>0#32) 185)).setRow w6.heap.size (AC (fld td)):=⟨_,rfl⟩;rw [<-ix] at eq kr ⊢;obtain ⟨R,i1⟩:∃q,q=w6.heap.size:=⟨_,rfl⟩;rw [<-i1] at eq ⊢;have oa:R+1=wa.heap.size:=by rw [ix,i1];simp
 rw [oa];have q0:R<wa.heap.size:=eq.out.lt;have ks:w3.heap.size<R/\gs<R/\w1.heap.size<=R:=⟨oo,by have:=kp.out;have h7:=gb.size;have h8:=(LC this (k:=0) (by rw [ch.out.2];exact j4)).1;omega,oo⟩;obtain ⟨ks,rq,rr⟩:=ks;have cy:Hid (Grew w5 (wa.alloc (.map #[] 0))):=zh (kr.alloc _);have ob:Hid (Turned (λq=>q=m\/w1.heap.size<=q) w1 (wa.alloc (.map #[] 0))):=zh (n4.out.trans (cy.turned _));have kt:=zh (n5.grew cy);have ku:=zh (n6.grew cy);have kv:=zh (em.grew cy);have kw:=zh (eq.alloc (.map #[] 0));have kx:=zh (Ad kp cy);have ky:Hid (MapsM (wa.alloc (.map #[] 0)) wa.heap.size wa.heap.size (ksW []) (λ_=>0) (λk=>fld (mapI E k).data)):=zh (MapsM.made _);have kz:W.heap.size<w3.heap.size/\m<w3.heap.size:=by have:=b5.2;omega
 obtain ⟨kz,rs⟩:=kz;clear n7 kq cw ga av cx a0 ix i1
 go_loopg [13,72] S.length (λgk u i' wr=>∃(i:Nat) (bk:Nat->Nat),i<=S.length/\gk=S.length - i/\i'=.int .i64 i/\MapsM wr wa.heap.size wa.heap.size (ksW (S.take i)) bk (λk=>fld (mapI E k).data)/\OwnL wr (wa.heap.size+1) 3 1 u ((ksW (S.take i)).map λk:Nat=>[.int .i64 (k:Int)])/\StoreM wr s m x sy ep/\Turned (λq=>q=m\/wa.heap.size<=q) (wa.alloc (.map #[] 0)) wr/\∀j∈ksW (S.take i),C9 E j)
 case atStart=>exact ⟨0,λ_=>0,oo,oo,rfl,ky,by rw [take_zero,Q1];exact OwnL.nil ..,kt,iR _ _,λj hj=>by rw [take_zero,Q1] at hj;cases hj⟩
 case round=>
  obtain ⟨i,bk,hi,mh,rfl,mi,mj,d4,ht,mk⟩:=hrel;have gc:=zh mh;have cz:=zh mk;have gd:=zh mi;have c3:=zh mj;have gi:=zh d4;have HT:=zh ht;have gj:=zh (ku.turned ht (λe=>oo));have gl:=zh (kw.turned ht (λe=>oo));have gn:=zh (kv.turned ht (λe=>oo));have gp:Turned (λq=>q=m\/w1.heap.size<=q) w1 wr:=ob.out.trans (ht.mono λq _ hq=>by rcases hq with hq | hq;exact .inl hq;exact .inr oo);have es:=zh gp;have gq:=zh (ei wr gp d4)
  have et:Hid (ListAt wr wr.heap.size 2 (some ⟨gs,0,none⟩) ((wlI S).map BM)):=zh (DV kx ht (λb off o u9 e hu hq=>by
   injection e with e
   injection e with e1 _ _
   rcases hq with hq | hq<;>omega))
  clear mh mi mj d4 ht gp mk;by_cases dk:i<S.length
  . have oc:(i:Int)<(S.length:Int):=oo;obtain ⟨qj,c0,c1⟩:=LC et dk;obtain ⟨a,ha⟩:∃a,S[i].1=a:=⟨_,rfl⟩;have od:a<n:=by rw [<-ha];exact (cu _ (gS dk)).1
    obtain ⟨k,hk⟩:∃k:Nat,a / 32=k:=⟨_,rfl⟩;have a9:k<32:=oo;have gr:(a:Int) / 32=(k:Int):=oo;have oe:Int.tdiv (a:Int) 32=(k:Int):=by rw [Int.tdiv_eq_ediv_of_nonneg oo];exact gr
    rw [ha] at c0;obtain ⟨kl,a7⟩:=ET (k:Int) (Cb _ oo);have og:=zh a7;have c4:=zh (show S[i].1 / 32=k from by rw [ha];exact hk);have ek:=gd.grew ((gK wr).alloc (.cells #[.int .i64 (a:Int),.string S[i].2] 65));have a1:=ek.map.lookup_val BB Bj Tryz.underlying187 (GG _) (k:Int) a7;rw [Mm] at a1;have gt:=zh ek;clear a7 ek ha hk;by_cases ca:k∈ksW (S.take i)
    . rw [if_pos ca,jO] at a1;have gu:=zh (Vm S i dk (by rw [c4.out];exact ca));clear ca;go_wp2_with fail
      go_roundg (S.length - (i+1))
      case measure=>rw [gc.out];omega
      case rel=>exact ⟨i+1,bk,oo,oo,by go_num,by rw [gu.out];exact gt.out,by rw [gu.out];exact c3.alloc _,gi.grew ((gK wr).alloc _),HT.alloc _,by rw [gu.out];exact cz.out⟩
    . rw [if_neg ca,Option.getD_none] at a1;obtain ⟨ver,b2⟩:∃ver,fld td k=ver:=⟨_,rfl⟩;obtain ⟨⟨⟨bd,bv,bb⟩,er⟩,i2⟩:∃r,C7 E (1+(k:Int)) ver=r:=⟨_,rfl⟩;have oh:=zh (Wb nb kd.1 ni k a9 (d:=bd) (v:=bv) (b:=bb) (er:=er) (by rw [kg.out,b2];exact i2));obtain ⟨i3,mm⟩:∃o,o=up (λk=>out k\/k=W.heap.size) w1.heap.size wr:=⟨_,rfl⟩;rw [<-mm] at gq;obtain ⟨wx,H⟩:∃wx:World,wx=wr.alloc (.cells #[.int .i64 (a:Int),.string S[i].2] 65):=⟨_,rfl⟩;have C:Grew wr wx:=by rw [H];exact (gK wr).alloc _
      have c5:=zh (gq.grew C);rw [<-H] at gt;have N:=zh C;have a2:=gj.grew C;have gv:=gl.grew C;have bx:=a2.cell 0;have bl:=a2.lt;have tc:=gv.cell k;rw [Cl _ _ a9,b2] at tc;have tl:=gv.lt;have B:=zh (λ(w1:World) (hh:Held w0 x s m sy ep E i3 w1)=>JV hh (1+(k:Int)) (Cb _ oo) ver);rw [i2] at B;have cj:IntKind.i64.wrap (1+(k:Int))=1+(k:Int):=iY _ oo;have q1:(0:Int)<=(k:Int)/\(k:Int)<32:=oo;have oi:=zh ca;have k0:=zh (Va S kf i dk (by rw [c4.out];exact a9) (by rw [c4.out];exact ca));have q2:(ksW (S.take i)).length<=32:=by unfold ksW;exact gY (jY _ _) (by rw [jK];exact gM _)
      have cl:m<wx.heap.size:=by have:=N.size;have:=es.size;omega
      have q3:wa.heap.size<=wx.heap.size:=by have:=N.size;have:=HT.size;simp at this;omega
      clear i2 C a2 gv ca b2 mm;go_wp2_with fail;rw [<-H];clear H a1;refine AB [6,11] (λw':World=>w'.cell? ⟨W.heap.size,0,none⟩=some (ptrV s)/\W.heap.size<w'.heap.size/\w'.cell? ⟨R,k,none⟩=some (.int .u32 (u32 ver))/\R<w'.heap.size) qk ?_;have hS:=(show (λw':World=>w'.cell? ⟨W.heap.size,0,none⟩=some (ptrV s)/\W.heap.size<w'.heap.size/\w'.cell? ⟨R,k,none⟩=some (.int .u32 (u32 ver))/\R<w'.heap.size) wx.drew from ⟨bx,bl,tc,tl⟩);refine tT 0 (some 84) hS ?_;refine tQ 1 85 ?_;refine tQ 2 86 ?_;refine tQ 3 87 ?_;refine tQ 4 88 ?_;refine tT 5 (some 89) hS ?_;refine E1 (i:=6) (j:=10) rfl rfl qk ?faa ?fab
      case' faa=>
       intro K' hK;rw [if_pos (by rfl)];simp only [jG,il,iw];go_wp2_with fail;refine (B _ (c5.grew (gK wx).drew)).mono ?_;rintro e wb ⟨rfl,cb⟩;unfold L7;have a3:Looked w0 x s m sy ep E i3 wx (wb.alloc (.cells #[.string bd,.int .u32 (u32 bv),.bool bb] 178)):=((c5.same (gK wx).drew).trans cb).grew ((gK wb).alloc _);have b6:Blk (wb.alloc (.cells #[.string bd,.int .u32 (u32 bv),.bool bb] 178)) wb.heap.size 178 #[.string bd,.int .u32 (u32 bv),.bool bb]:=gZ wb _ _ rfl;have k1:wx.heap.size<=wb.heap.size:=cb.turned.size;have oj:Blk (wb.alloc (.cells #[.string ⟨#[]⟩,.int .u32 0,.bool false] 178)) wb.heap.size 178 #[.string ⟨#[]⟩,.int .u32 0,.bool false]:=gZ wb _ _ rfl;clear cb;go_wp2_with fail;refine hK.out _ _ (.inl (by rfl)) ?_;clear hK;refine tQ 7 83 ?_;refine tQ 8 91 ?_;refine tQ 9 92 ?_;refine tO 10 λK' hK=>?_;go_wp2_with fail;refine hK.out _ _ (.inr (λhS=>eW ((gK wb).alloc _) hS)) ?_;clear hK;refine tO 11 λK' hK=>?_;go_wp2_with fail;refine hK.out _ _ (.inl (by rfl)) ?_;clear hK oj;refine tQ 12 18 ?_;refine AA qk ?_ _;generalize hwz:wb.alloc (.cells #[.string bd,.int .u32 (u32 bv),.bool bb] 178)=wz at*
       generalize hgz:wb.heap.size=gx at*
       clear hwz hgz
      case' fab=>
       intro K' hK;rw [if_pos (by rfl)];simp only [jG,il,iw];go_wp2_with fail;have gz:Grew wx (wx.alloc (.cells #[.string ⟨#[]⟩,.int .u32 0,.bool false] 178)).drew:=((gK wx).alloc _).drew;have k2:Blk (wx.alloc (.cells #[.string ⟨#[]⟩,.int .u32 0,.bool false] 178)).drew wx.heap.size 178 #[.string ⟨#[]⟩,.int .u32 0,.bool false]:=(gZ wx _ _ rfl).drew;refine hK.out _ _ (.inr (λhS=>eW ((gK wx.drew).alloc _) hS)) ?_;clear hK;refine tO 6 λK' hK=>?_;go_wp2_with fail;refine (B _ (c5.grew gz)).mono ?_;rintro e wb ⟨rfl,cb⟩;unfold L7;have bc:=k2.looked cb oo;have z0:=bc.cell 0;have z1:=bc.cell 1;have z2:=bc.cell 2;have f0:=bc.frozen 0;have f1:=bc.frozen 1;have f2:=bc.frozen 2;have zl:=bc.lt;have k1:wx.heap.size<=wx.heap.size:=gM _;have a3:Looked w0 x s m sy ep E i3 wx (((wb.setCell ⟨wx.heap.size,0,none⟩ (.string bd)).setCell ⟨wx.heap.size,1,none⟩ (.int .u32 (u32 bv))).setCell ⟨wx.heap.size,2,none⟩ (.bool bb)):=Cd c5 ((c5.same gz).trans cb) (gT);have b6:Blk (((wb.setCell ⟨wx.heap.size,0,none⟩ (.string bd)).setCell ⟨wx.heap.size,1,none⟩ (.int .u32 (u32 bv))).setCell ⟨wx.heap.size,2,none⟩ (.bool bb)) wx.heap.size 178 #[.string bd,.int .u32 (u32 bv),.bool bb]:=gB;clear cb bc gz k2;go_wp2_with fail;refine hK.out _ _ (.inl (by rfl)) ?_;clear hK;refine tQ 7 83 ?_;refine tQ 8 91 ?_;refine tQ 9 92 ?_;refine tO 11 λK' hK=>?_;go_wp2_with fail;refine hK.out _ _ (.inl (by rfl)) ?_;clear hK z0 z1 z2 f0 f1 f2 zl;refine tQ 12 18 ?_;refine AA qk ?_ _;generalize hwz:((wb.setCell ⟨wx.heap.size,0,none⟩ (.string bd)).setCell ⟨wx.heap.size,1,none⟩ (.int .u32 (u32 bv))).setCell ⟨wx.heap.size,2,none⟩ (.bool bb)=wz at a3 b6 ⊢;obtain ⟨gx,hgz⟩:∃gx,gx=wx.heap.size:=⟨_,rfl⟩;rw [<-hgz] at b6 k1 ⊢;clear hwz hgz
      all_goals
       have op:Grew wr wx:=N.out;have c6:Hid (Turned (λq=>q=m) wx wz):=zh a3.turned;have k3:=zh a3.store;have x0:=b6.cell 0;have xl:=b6.lt;have k4:Hid (Turned (λq=>q=m\/w1.heap.size<=q) w1 wz):=zh ((es.out.trans (op.turned _)).trans (c6.mono λq _ hq=>.inl hq));rcases oh.out with ⟨m1,rfl,m2,df⟩ | ⟨m3,m4⟩;rotate_left
       . have q4:(er != 0)=true:=by rw [iW];exact m3
         have oq:Hid (K3 E sy ep S v=(E,er)):=zh (by
          obtain ⟨r,hr⟩:=VU S kf (λe he=>by have:=(cu e he).1;omega) (i+1) (S.length - (i+1)) oo
          rw [show i+1+(S.length - (i+1))=S.length from oo,iL (gM _),k0.out,c4.out,iZ] at hr
          have he:El E (ksW S)=er:=by rw [hr,Ji _ cz.out];exact m4 _
          unfold K3
          rw [he,if_pos m3])
         clear a3 b6 bx bl tc tl m4;go_wp2_with fail;go_ret;rw [oq.out];exact ⟨rfl,Fa (WB HD (ei wz k4 k3) k4) ee (λk hk=>.inl hk)⟩
       have ot:=zh m1;have ou:=zh m2;clear m1 m2;have kq:=GM;have ov:=zh (JA bd df);have k5:=zh (gt.lookd c6 oo);have ow:=zh ((c3.grew N).kept c6 (λg hg e=>by have:=c3.row_ge g hg;omega));have q5:wx.heap.size<=wz.heap.size:=c6.size;have ox:Hid (Turned (λq=>q=m\/wa.heap.size<=q) (wa.alloc (.map #[] 0)) wz):=zh ((HT.out.trans (N.turned _)).trans (c6.mono λq _ hq=>.inl hq));clear a3 b6 bx bl tc tl;go_wp2_with fail;refine (ov _).mono ?_;rintro e J ⟨rfl,d2⟩;have a8:Blk ((J.alloc (.cells (AC λ_=>0#32) 185)).setRow J.heap.size (AC (fld bd))) J.heap.size 185 (AC (fld bd)):=(gZ J _ _ rfl).setRow _;have c7:Grew wz ((J.alloc (.cells (AC λ_=>0#32) 185)).setRow J.heap.size (AC (fld bd))):=(d2.alloc _).setRow d2.size _;have oy:Hid (∀j∈ksW (S.take i),¬bk j=J.heap.size):=zh (λj hj e=>by have:=((k5.grew d2).blk j hj).lt;omega);have oz:wa.heap.size<=J.heap.size:=by have:=d2.size;omega
       have k6:=zh (k5.grew c7);have g0:=zh a8;have c8:=zh (ow.grew c7);have k7:=zh (k3.grew c7);have g1:=zh (ox.out.trans (c7.turned _));have k8:=a8.lt;have k9:=g1.size;clear a8 c7 d2 x0 xl;have o1:=c8;obtain ⟨wv,i4⟩:∃wv:World,wv=(J.alloc (.cells (AC λ_=>0#32) 185)).setRow J.heap.size (AC (fld bd)):=⟨_,rfl⟩;rw [<-i4] at k6 g0 c8 k7 g1 k8 k9;have q6:wa.heap.size+1<=wv.heap.size:=by have:(wa.alloc (.map #[] 0)).heap.size=wa.heap.size+1:=qs;omega
       go_wp2_with (first | (refine AO rfl 185 _ _ rfl J.heap.size (AC (fld bd)) rfl rfl 185 (AC λ_=>0#32) (gZ J _ _ rfl) (by rw [Ae,Ae]) (by rw [Ae];exact EV) (EA _) ?_) | (at_builtin;refine Bi rfl _ _ 38 rfl (wa.heap.size+1) 3 1 8 (.int .i64 0) Tryz.underlying38 KC rfl qd (((J.alloc (.cells (AC λ_=>0#32) 185)).setRow J.heap.size (AC (fld bd))).alloc (.cells #[.int .i64 (k:Int)] 3)) u13 ((ksW (S.take i)).map λk:Nat=>[.int .i64 (k:Int)]) [.int .i64 (k:Int)] rfl rfl (o1.alloc _) (J.heap.size+1) (by rfl) (gZ _ _ _ qs) rfl (by rw [gO];omega) (by rw [gO];omega) (by rw [<-i4];simp;omega) (ksW (S.take i)).length (by rw [gO]) ?_));intro g9 a6 w9 L f _ _;rw [<-i4] at f;have eu:Grew wv (wv.alloc (.cells #[.int .i64 (k:Int)] 3)):=(gK wv).alloc _;have la:=(c8.alloc (.cells #[.int .i64 (k:Int)] 3)).row_ge;have g3:Turned (λq=>wa.heap.size+1<=q) (wv.alloc (.cells #[.int .i64 (k:Int)] 3)) w9:=⟨f.os,f.tape,f.output,f.size,λq hq hn=>f.block q hq (λe9=>hn (la q e9.symm))⟩;have o2:=zh ((k7.grew eu).kept g3 (by have:=b3.1;omega) (by have:=b3.2;omega));have o3:=zh ((g1.out.trans (eu.turned _)).trans (g3.mono λq _ hq=>Or.inr oo));have g5:=zh ((k6.grew eu).own (c8.alloc (.cells #[.int .i64 (k:Int)] 3)) qd f);have c9:=zh ((g0.alloc (.cells #[.int .i64 (k:Int)] 3)).own f ((c8.alloc (.cells #[.int .i64 (k:Int)] 3)).ne_blk (g0.alloc _) qd));have ad:=zh L;clear L f la g3 eu k9 k8;go_wp2_with (refine B7 rfl _ _ _ 187 rfl 188 BB Bj Tryz.underlying187 rfl g5.map (k:Int) og (ptrV J.heap.size) rfl rfl ?_;intro qb l4 l5;have o4:=zh l4;have ex:=zh l5;clear l4 l5)
       go_roundg (S.length - (i+1))
       case measure=>rw [gc.out];omega
       case rel=>
        have g7:ksW (S.take (i+1))=ksW (S.take i)++[k]:=by rw [k0.out,c4.out]
        refine ⟨i+1,(λj=>if j=k then J.heap.size else bk j),oo,oo,by go_num,by rw [g7];exact (g5.snoc (X:=fld bd) oi oz c9 oy o4 ex).conv (λj hj q hq=>by (by_cases id:j=k;(· rw [if_pos id,id,ou.out]);(· rw [if_neg id]))),?_,o2.kept ex (by have:=b3.1;omega) (by have:=b3.2;omega),o3.out.trans (ex.mono λq _ hq=>Or.inr oo),λj hj=>by rw [g7] at hj;rcases iA.1 hj with h9 | h9;exact cz.out j h9;rw [gQ.1 h9];exact ot.out⟩
        . rw [g7,gm];exact ad.kept ex (λg hg e=>DX ad g5.map (by rw [hg,e]))
  . obtain rfl:i=S.length:=oo;have g8:=gd;have cm:=c3;have hb:=cz;rw [iL (gM _)] at g8 cm hb;have o5:Hid (K3 E sy ep S v=BS sy ep (B3 (Gr E S v) v) E):=zh (by unfold K3;rw [if_neg];have:=Ji (E:=E) (ksW S) hb [];rw [append_nil] at this;rw [this];exact λh9=>h9 rfl);obtain ⟨wb,ql⟩:∃wb:World,wb=wr:=⟨_,rfl⟩;subst ql;have o6:S≠[]:=λe=>by rw [e] at ch;have:=ch.2;simp at this;omega
    obtain ⟨qm,rt,qn,qo⟩:=ez nk nl;have q7:=BJ v;have cw:=gn.cell 1;have cx:=gn.out.lt
    have o7:0<(ksW S).length/\(ksW S).length<=32:=by
     refine ⟨?_,by unfold ksW;exact gY (jY _ _) (by rw [jK];exact gM _)⟩;obtain ⟨e,S',rfl⟩:=exists_cons_of_ne_nil o6;have lb:e.1 / 32∈ksW (e::S'):=(CR _ _).2 ⟨by have:=(cu e (iO ..)).1;omega,e,iO ..,rfl⟩;exact length_pos_iff.2 (λh9=>by rw [h9] at lb;cases lb)
    obtain ⟨mn,ru⟩:=o7;obtain ⟨go,co,rfl,rv,rx⟩:=cm.some_ (λe=>by have:=map_eq_nil_iff.1 e;rw [this] at mn;simp at mn);rw [gO] at cm ⊢;have q8:(wa.alloc (.map #[] 0)).heap.size=wa.heap.size+1:=qs;have q9:wa.heap.size+1<=wb.heap.size:=by have:=HT.size;omega
    clear gd c3 ky kt ku kv kw kx dk hi gc cz hb;go_wp2_with fail
    go_loopg [114] S.length (λgk i' wr=>∃j:Nat,j<=S.length/\gk=S.length - j/\i'=.int .i64 j/\MapsM wr wa.heap.size wa.heap.size (ksW S) bk (λk q=>nm E S v j k q)/\Turned (λq=>wa.heap.size<=q/\q≠go) wb wr)
    case atStart=>exact ⟨0,oo,oo,rfl,g8.conv (λk hk q hq=>(dB E S v k q).symm),iR _ _⟩
    case round=>
     obtain ⟨j,hj,mo,rfl,mp,mq⟩:=hrel;have lc:=zh mo;have e0:=zh mp;have T:=zh mq;clear mo mp mq;by_cases d0:j<S.length
     . have ra:(j:Int)<(S.length:Int):=oo
       have ld:ListAt wr wr.heap.size 2 (some ⟨gs,0,none⟩) ((wlI S).map BM):=DV et T (λb off o u9 e hu hq=>by
        injection e with e
        injection e with e1 _ _
        omega)
       obtain ⟨qj,c0,c1⟩:=LC ld d0;obtain ⟨a,ha⟩:∃a,S[j].1=a:=⟨_,rfl⟩;have od:a<n:=by rw [<-ha];exact (cu _ (gS d0)).1
       obtain ⟨k,hk⟩:∃k:Nat,a / 32=k:=⟨_,rfl⟩;obtain ⟨r,hr⟩:∃r:Nat,a % 32=r:=⟨_,rfl⟩;have a9:k<32:=oo;have o8:r<32:=oo;have rb:(0:Int)<=(r:Int)/\(r:Int)<32:=oo;have gr:(a:Int) / 32=(k:Int):=oo;have oe:Int.tdiv (a:Int) 32=(k:Int):=by rw [Int.tdiv_eq_ediv_of_nonneg oo];exact gr
       have o9:(a:Int) % 32=(r:Int):=oo;have rc:Int.tmod (a:Int) 32=(r:Int):=by rw [je oo];exact o9
       have ae:k∈ksW S:=(CR S k).2 ⟨a9,S[j],gS d0,by rw [ha];exact hk⟩;rw [ha] at c0;have cj:IntKind.i64.wrap (k:Int)=(k:Int):=iY _ oo;have rd:IntKind.i64.wrap (r:Int)=(r:Int):=iY _ oo;obtain ⟨kl,a7⟩:=ET (k:Int) (Cb _ oo);obtain ⟨wx,H⟩:∃wx:World,wx=(wr.alloc (.cells #[.int .i64 (a:Int),.string S[j].2] 65)).drew:=⟨_,rfl⟩;have C:Grew wr wx:=by rw [H];exact ((gK wr).alloc _).drew
       have cl:=e0.grew C;have a1:=cl.map.lookup_val BB Bj Tryz.underlying187 (GG _) (k:Int) a7;rw [Mm,if_pos ae,jO] at a1;have O:Blk wx wr.heap.size 65 #[.int .i64 (a:Int),.string S[j].2]:=by rw [H];exact (gZ wr _ _ rfl).drew
       have cp:=cl.blk k ae;have x0:=O.cell 0;have xl:=O.lt;have m0:=cp.cell 0;rw [Cl _ _ oo] at m0;have mr:=cp.cell r;rw [Cl _ _ o8] at mr;have mf:=cp.frozen r;have ml:=cp.lt;have pa:=zh ((cl.store ae (j:=r) v).conv (V':=λk q=>nm E S v (j+1) k q) (λk' hk' q hq=>by rw [bz E S v j d0 k' q hq,ha,hk,hr]))
       have le:¬bk k=go:=λe=>by
        have h9:Blk wx go 3 _:=(((show Blk wb go 3 _ from (cm.block).choose_spec.2.1)).turned T.out (λh9=>h9.2 rfl)).grew C;exact Blk.ne_ cp h9 qd e
       have pb:Hid (Turned (λq=>wa.heap.size<=q/\q≠go) wb (wx.setCell ⟨bk k,r,none⟩ (.int .u32 (u32 v)))):=zh ((T.out.trans (C.turned _)).setCell (p:=⟨bk k,r,none⟩) (λ_=>⟨cl.low k ae,le⟩) _);clear ld a7 C cl O cp ae le ha hk hr;go_wp2_with fail;refine wp_region_still_tail 10 qk qk ?_;simp only [take_succ_cons,take_zero,drop_succ_cons,drop_zero];change wpStill _ _ (World.drew (wr.alloc (.cells #[.int .i64 (a:Int),.string S[j].2] 65))) (λa'=>wpList _ _ _ _ a' (World.drew (wr.alloc (.cells #[.int .i64 (a:Int),.string S[j].2] 65)))) _ _;obtain ⟨ry,i5⟩:∃w',w'=World.drew (wr.alloc (.cells #[.int .i64 (a:Int),.string S[j].2] 65)):=⟨_,rfl⟩;rw [<-i5];rw [<-H] at i5;subst i5;clear H c0 c1
       repeat still_step
       refine wpStill_nil ?_;go_wp2_with fail
       go_roundg (S.length - (j+1))
       case measure=>rw [lc.out];omega
       case rel=>exact ⟨j+1,oo,oo,by go_num,pa,pb⟩
     . obtain rfl:j=S.length:=oo;obtain ⟨wc,qp⟩:∃wc:World,wc=wr:=⟨_,rfl⟩;subst qp;have re:wb.heap.size<=wc.heap.size:=T.size;have hc:=zh (cm.kept T (λg hg h9=>h9.2 (M4 hg)));have lf:=zh (gl.turned T (λh9=>oo));have lg:=zh (gj.turned T (λh9=>oo))
       have lh:Hid (ListAt wc wc.heap.size 2 (some ⟨gs,0,none⟩) ((wlI S).map BM)):=zh (DV et T (λb off o u9 e hu hq=>by
        injection e with e
        injection e with e1 _ _
        omega))
       have li:Hid (Turned (λq=>q=m\/w1.heap.size<=q) w1 wc):=zh (es.out.trans (T.mono λq _ hq=>.inr oo));have lj:=zh (gi.kept T (by have:=b5.1.2;omega) oo);clear d0 hj lc T gj gl gn et es gq g8 cm gi HT cw cx qm qn qo;go_wp2_with fail
       go_loopg [132] (ksW S).length (λgk i' wr=>∃q:Nat,q<=(ksW S).length/\gk=(ksW S).length - q/\i'=.int .i64 q/\Blk wr R 185 (AC (nt td S v q))/\Turned (λz=>z=R) wc wr)
       case atStart=>exact ⟨0,oo,oo,rfl,lf.conv (BP λp _=>(cC td S v p).symm),iR _ _⟩
       case round=>
        obtain ⟨q,hq,Z,rfl,ms,mt⟩:=hrel;have U:=zh Z;have dd:=zh ms;have al:=zh mt;clear Z ms mt;by_cases G:q<(ksW S).length
        . have hf:(q:Int)<((ksW S).length:Int):=oo;have lk:=hc.kept al (λg hg h9=>by have:=M4 hg;omega);obtain ⟨o0,ol⟩:=Vz lk G;have e2:=zh (dD td S v q G);obtain ⟨k,hk⟩:∃k,(ksW S)[q]=k:=⟨_,rfl⟩;have a9:k<32:=by rw [<-hk];exact ((CR S _).1 (gS G)).1
          have oc:(0:Int)<=(k:Int)/\(k:Int)<32:=oo;rw [hk] at o0 e2;have b0:=dd.cell k;rw [Cl _ _ a9] at b0;have bf:=dd.frozen k;have bl:=dd.out.lt;have pc:=zh (((dd.set_ k (.int .u32 (u32 v))).conv (by rw [IO])).conv (BP λp _=>e2 p));have pd:=zh (al.setCell (p:=⟨R,k,none⟩) (λ_=>rfl) (.int .u32 (u32 v)));clear lk hk;go_wp2_with fail
          go_roundg ((ksW S).length - (q+1))
          case measure=>rw [U.out];omega
          case rel=>exact ⟨q+1,oo,oo,by go_num,pc,pd⟩
        . obtain rfl:q=(ksW S).length:=oo;obtain ⟨wd,qq⟩:∃wd:World,wd=wr:=⟨_,rfl⟩;subst qq;have rf:wc.heap.size<=wd.heap.size:=al.size;have pe:=zh (hc.kept al (λg hg h9=>by have:=M4 hg;omega));have pf:=zh (lg.turned al (λh9=>oo))
          have pg:Hid (ListAt wd wd.heap.size 2 (some ⟨gs,0,none⟩) ((wlI S).map BM)):=zh (DV lh al (λb off o u9 e hu hq=>by
           injection e with e
           injection e with e1 _ _
           omega))
          have ll:=zh (e0.kept al oo (λk hk h9=>by have:=e0.low k hk;omega));have ph:Hid (Turned (λq=>q=m\/w1.heap.size<=q) w1 wd):=zh (li.out.trans (al.mono λq _ hq=>.inr oo));have pi:=zh (lj.kept al (by have:=b5.1.2;omega) oo);have e2:=zh (ef E td S v kg);have pj:=zh (λk=>fO E S v k);clear G hq U al hc lg lh e0 li lj lf;have lm:=zh (Jn _ _ _ dd);rw [e2.out] at lm;go_wp2_with fail;refine lm.mono ?_;rintro e we ⟨rfl,ge⟩;have pk:=zh ge;have pl:=zh (JM (AM (GE E S v)) v 0 we (by rw [EM];unfold GE;rw [gO,jK];omega) (Cb 0 oo));clear ge;go_wp2_with fail;refine pl.mono ?_;rintro e wf ⟨rfl,gf⟩;have hm:=zh (pk.out.trans gf);have pm:Hid (Grew wd ((wf.alloc (.cells #[.int .i64 0,.string (AZ (AM (GE E S v)) v 0)] 193)).alloc (.cells #[.slice (some ⟨wf.heap.size,0,none⟩) 1 1] 194))):=zh ((hm.alloc _).alloc _);have pn:Hid (OwnL ((wf.alloc (.cells #[.int .i64 0,.string (AZ (AM (GE E S v)) v 0)] 193)).alloc (.cells #[.slice (some ⟨wf.heap.size,0,none⟩) 1 1] 194)) wd.heap.size 193 2 (.slice (some ⟨wf.heap.size,0,none⟩) 1 1) ([en0 E S v].map BM)):=zh ((OwnL.lit wf wd.heap.size 193 2 (BM (en0 E S v)) rfl hm.size rfl).alloc _);have po:Hid (Blk ((wf.alloc (.cells #[.int .i64 0,.string (AZ (AM (GE E S v)) v 0)] 193)).alloc (.cells #[.slice (some ⟨wf.heap.size,0,none⟩) 1 1] 194)) (wf.heap.size+1) 194 #[.slice (some ⟨wf.heap.size,0,none⟩) 1 1]):=zh (gZ _ _ _ qs);have rg:wd.heap.size<=wf.heap.size:=hm.size;clear gf;go_wp2_with fail
          go_loopg [147] (ksW S).length (λgk i' wr=>∃(q:Nat) (u:Value),q<=(ksW S).length/\gk=(ksW S).length - q/\i'=.int .i64 q/\Blk wr (wf.heap.size+1) 194 #[u]/\OwnL wr wd.heap.size 193 2 u ((en0 E S v::enM E S v q).map BM)/\Grew wd wr)
          case atStart=>exact ⟨0,_,oo,oo,rfl,po,by rw [show enM E S v 0=[] from rfl];exact pn.out,pm⟩
          case round=>
           obtain ⟨q,u,hq,Z,rfl,d5,d6,d7⟩:=hrel;have U:=zh Z;have B:=zh d5;have P:=zh d6;have M:=zh d7;clear Z d5 d6 d7;by_cases G:q<(ksW S).length
           . have hf:(q:Int)<((ksW S).length:Int):=oo;obtain ⟨o0,ol⟩:=Vz (pe.grew M) G;have ln:=zh (ZB E S v q G);obtain ⟨k,hk⟩:∃k,(ksW S)[q]=k:=⟨_,rfl⟩;have ae:k∈ksW S:=by rw [<-hk];exact gS G
             have a9:k<32:=((CR S _).1 ae).1;rw [hk] at o0 ln;obtain ⟨kl,a7⟩:=ET (k:Int) (Cb _ oo)
             have pp:Hid (∀w',Grew wr w'->(Instr.lookup 187 (.map (some wa.heap.size)) (.int .i64 (k:Int)) false).run Tryz.prog w'=.ok (ptrV (bk k)) w'):=zh (λw' hg=>by
              have a1:=((ll.grew M).grew hg).map.lookup_val BB Bj Tryz.underlying187 (GG _) (k:Int) a7
              rw [Mm,if_pos ae,jO] at a1
              exact a1)
             have t:Hid (∀w',Grew wr w'->(λw':World=>w'.cell? ⟨wf.heap.size+1,0,none⟩=some u/\wf.heap.size+1<w'.heap.size/\(Instr.lookup 187 (.map (some wa.heap.size)) (.int .i64 (k:Int)) false).run Tryz.prog w'=.ok (ptrV (bk k)) w') w'):=zh (λw' hg=>⟨(B.grew hg).cell 0,(B.grew hg).lt,pp w' hg⟩);have pq:=zh ((ll.grew M).blk k ae);have cj:IntKind.i64.wrap (1+(k:Int))=1+(k:Int):=iY _ oo;have rh:IntKind.i64.wrap (k:Int)=(k:Int):=iY _ oo;have ho:=zh (λw=>JM (AM (Es E S v k)) v (1+(k:Int)) w (by rw [EM];unfold Es;rw [gO,jK];omega) (Cb _ oo));have pr:(en0 E S v::enM E S v q).length<=33:=by rw [i9];have:=Vf E S v q;omega
             have ps:wf.heap.size+1<wr.heap.size:=B.out.lt;clear a7 ae hk;go_wp2_with fail;refine AB [13,14] (λw':World=>w'.cell? ⟨wf.heap.size+1,0,none⟩=some u/\wf.heap.size+1<w'.heap.size/\(Instr.lookup 187 (.map (some wa.heap.size)) (.int .i64 (k:Int)) false).run Tryz.prog w'=.ok (ptrV (bk k)) w') qk ?_;have hS:=t.out wr.drew (gK wr).drew;refine tT 0 (some 151) hS ?_;refine tQ 1 152 ?_;refine tQ 2 153 ?_;refine tQ 3 154 ?_;refine tQ 4 155 ?_;refine tT 5 (some 156) hS ?_;refine tQ 7 158 ?_;refine tQ 8 159 ?_;refine tQ 9 160 ?_;refine tO 6 λK' hK=>?_;go_wp2_with fail;refine (Jn _ _ _ (pq.drew)).mono ?_;rintro e wg ⟨rfl,gg⟩;have lp:Hid (Grew wr wg):=zh ((gK wr).drew.trans gg);rw [pj.out];clear gg;go_wp2_with fail;refine hK.out _ _ (.inr (λ_=>t wg lp)) ?_;clear hK hS;refine tO 10 λK' hK=>?_;go_wp2_with fail;refine (ho wg).mono ?_;rintro e wh ⟨rfl,gh⟩;have I:=zh (lp.out.trans gh);clear gh;go_wp2_with fail;refine hK.out _ _ (.inr (λ_=>t wh I)) ?_;clear hK;refine tQ 11 162 ?_;refine tO 12 λK' hK=>?_;go_wp2_with fail;refine hK.out _ _ (.inr (λ_=>t _ (I.alloc _))) ?_;clear hK;have pt:wd.heap.size<=wh.heap.size:=(M.out.trans I).size;refine tO 13 λK' hK=>?_;refine Hx (.tmp 151) (.tmp 163) 194 rfl wd.heap.size 193 2 24 _ Tryz.underlying194 LD rfl qd _ u ((en0 E S v::enM E S v q).map BM) (BM (1+(k:Int),AZ (AM (Es E S v k)) v (1+(k:Int)))) rfl rfl ((P.grew I).alloc _) wh.heap.size rfl (gZ wh _ _ rfl) rfl (by rw [gO];omega) (by rw [gO];omega) (by simp;omega) (en0 E S v::enM E S v q).length (by rw [gO]) ?_;intro g9 a6 w9 L f _ _;have Q:=((B.grew I).alloc (.cells #[.int .i64 (1+(k:Int)),.string (AZ (AM (Es E S v k)) v (1+(k:Int)))] 193)).own f (P.ne_blk B qd);have bn:=((M.out.trans I).alloc (.cells #[.int .i64 (1+(k:Int)),.string (AZ (AM (Es E S v k)) v (1+(k:Int)))] 193)).own f P.row_ge (gM _);have c9:=zh (Q.set_ 0 (.slice (some ⟨g9,0,none⟩) ((en0 E S v::enM E S v q).length+1) a6));have ad:=zh (L.far (p:=⟨wf.heap.size+1,0,none⟩) (L.ne_blk Q qd) (.slice (some ⟨g9,0,none⟩) ((en0 E S v::enM E S v q).length+1) a6));have a4:=zh (bn.setCell (p:=⟨wf.heap.size+1,0,none⟩) (by show wd.heap.size<=wf.heap.size+1;omega) (.slice (some ⟨g9,0,none⟩) ((en0 E S v::enM E S v q).length+1) a6));have b9:=Q.cell 0;have f9:=Q.frozen 0;have l9:=Q.lt;refine hK.out _ _ (.inl (by rfl)) ?_;clear hK L f Q bn
             try simp only [Act.put,zA,zB,zC]
             refine tO 14 λK' hK=>?_;go_wp2_with fail;refine hK.out _ _ (.inl (by rfl)) ?_;clear hK b9 f9 l9;refine AA qk ?_ _;go_wp2_with fail
             go_roundg ((ksW S).length - (q+1))
             case measure=>rw [U.out];omega
             case rel=>exact ⟨q+1,_,oo,oo,by go_num,c9,by rw [ln.out,<-cons_append,gm];exact ad.out,a4⟩
           . obtain rfl:q=(ksW S).length:=oo;clear G hq U;go_wp2_with fail
             go_loopg [168] S.length (λgk i' wr=>∃(q:Nat) (u:Value),q<=S.length/\gk=S.length - q/\i'=.int .i64 q/\Blk wr (wf.heap.size+1) 194 #[u]/\OwnL wr wd.heap.size 193 2 u ((en0 E S v::(enM E S v (ksW S).length++enD S v q)).map BM)/\Grew wd wr)
             case atStart=>exact ⟨0,_,oo,oo,rfl,B,by rw [show enD S v 0=[] from rfl,append_nil];exact P.out,M⟩
             case round=>
              clear B P M;obtain ⟨q,u,hq,Z,rfl,d5,d6,d7⟩:=hrel;have U:=zh Z;have B:=zh d5;have P:=zh d6;have M:=zh d7;clear Z d5 d6 d7;by_cases G:q<S.length
              . have hf:(q:Int)<(S.length:Int):=oo;obtain ⟨ol,c0,c1⟩:=LC (Ad pg M) G;have hs:=zh (ZX S v q G);have hw:=cu.out _ (gS G);obtain ⟨⟨a,ds⟩,ha⟩:∃e,S[q]=e:=⟨_,rfl⟩;rw [ha] at hs c0 c1 hw;simp only at hs c0 c1 hw;obtain ⟨rz,r0⟩:=hw;have O:Blk (wr.alloc (.cells #[.int .i64 (a:Int),.string ds] 65)) wr.heap.size 65 #[.int .i64 (a:Int),.string ds]:=gZ wr _ _ rfl;have C:Grew wr (wr.alloc (.cells #[.int .i64 (a:Int),.string ds] 65)):=(gK wr).alloc _;have t:Hid (∀w',Grew (wr.alloc (.cells #[.int .i64 (a:Int),.string ds] 65)) w'->(λw':World=>w'.cell? ⟨wf.heap.size+1,0,none⟩=some u/\wf.heap.size+1<w'.heap.size/\w'.cell? ⟨wr.heap.size,0,none⟩=some (.int .i64 (a:Int))/\w'.cell? ⟨wr.heap.size,1,none⟩=some (.string ds)/\wr.heap.size<w'.heap.size) w'):=zh (λw' hg=>⟨(B.grew (C.trans hg)).cell 0,(B.grew (C.trans hg)).lt,(O.grew hg).cell 0,(O.grew hg).cell 1,(O.grew hg).lt⟩);have N:=zh C;have cj:IntKind.i64.wrap (131+(a:Int))=131+(a:Int):=iY _ oo;have ho:=zh (λw=>JM ds v (131+(a:Int)) w oo (Cb _ oo));have pr:(en0 E S v::(enM E S v (ksW S).length++enD S v q)).length<=97:=by rw [i9,iI];have:=Vf E S v (ksW S).length;have:=dG S v q;omega
                obtain ⟨rl,qr⟩:∃rl,(en0 E S v::(enM E S v (ksW S).length++enD S v q)).length=rl:=⟨_,rfl⟩;have ps:wf.heap.size+1<wr.heap.size:=B.out.lt;obtain ⟨wx,H⟩:∃wx:World,wx=wr.alloc (.cells #[.int .i64 (a:Int),.string ds] 65):=⟨_,rfl⟩;rw [<-H] at t N;clear O C ha;go_wp2_with fail;rw [<-H];clear H c0 c1;refine AB [13,14] (λw':World=>w'.cell? ⟨wf.heap.size+1,0,none⟩=some u/\wf.heap.size+1<w'.heap.size/\w'.cell? ⟨wr.heap.size,0,none⟩=some (.int .i64 (a:Int))/\w'.cell? ⟨wr.heap.size,1,none⟩=some (.string ds)/\wr.heap.size<w'.heap.size) qk ?_;have hS:=t.out wx.drew (gK wx).drew;refine tT 0 (some 172) hS ?_;refine tQ 1 173 ?_;refine tT 2 (some 174) hS ?_;refine tQ 3 175 ?_;refine tQ 4 176 ?_;refine tT 5 (some 177) hS ?_;refine tQ 6 178 ?_;refine tQ 7 179 ?_;refine tT 8 (some 180) hS ?_;refine tQ 9 181 ?_;refine tO 10 λK' hK=>?_;go_wp2_with fail;refine (ho wx.drew).mono ?_;rintro e wh ⟨rfl,gh⟩;have a5:=zh ((gK wx).drew.trans gh);have I:=zh (N.out.trans a5);clear gh;go_wp2_with fail;refine hK.out _ _ (.inr (λ_=>t wh a5)) ?_;clear hK hS;refine tQ 11 183 ?_;refine tO 12 λK' hK=>?_;go_wp2_with fail;refine hK.out _ _ (.inr (λ_=>t _ (a5.alloc _))) ?_;clear hK;have pt:wd.heap.size<=wh.heap.size:=(M.out.trans I).size;refine tO 13 λK' hK=>?_;refine Hx (.tmp 172) (.tmp 184) 194 rfl wd.heap.size 193 2 24 _ Tryz.underlying194 LD rfl qd _ u ((en0 E S v::(enM E S v (ksW S).length++enD S v q)).map BM) (BM (131+(a:Int),AZ ds v (131+(a:Int)))) rfl rfl ((P.grew I).alloc _) wh.heap.size rfl (gZ wh _ _ rfl) rfl (by rw [gO];omega) (by rw [gO];omega) (by simp;omega) rl (by rw [gO];exact qr) ?_;intro g9 a6 w9 L f _ _;have Q:=((B.grew I).alloc (.cells #[.int .i64 (131+(a:Int)),.string (AZ ds v (131+(a:Int)))] 193)).own f (P.ne_blk B qd);have bn:=((M.out.trans I).alloc (.cells #[.int .i64 (131+(a:Int)),.string (AZ ds v (131+(a:Int)))] 193)).own f P.row_ge (gM _);have c9:=zh (Q.set_ 0 (.slice (some ⟨g9,0,none⟩) (rl+1) a6));have ad:=zh (L.far (p:=⟨wf.heap.size+1,0,none⟩) (L.ne_blk Q qd) (.slice (some ⟨g9,0,none⟩) (rl+1) a6));have a4:=zh (bn.setCell (p:=⟨wf.heap.size+1,0,none⟩) (by show wd.heap.size<=wf.heap.size+1;omega) (.slice (some ⟨g9,0,none⟩) (rl+1) a6));have b9:=Q.cell 0;have f9:=Q.frozen 0;have l9:=Q.lt;refine hK.out _ _ (.inl (by rfl)) ?_;clear hK L f Q bn
                try simp only [Act.put,zA,zB,zC]
                refine tO 14 λK' hK=>?_;go_wp2_with fail;refine hK.out _ _ (.inl (by rfl)) ?_;clear hK b9 f9 l9;refine AA qk ?_ _;go_wp2_with fail
                go_roundg (S.length - (q+1))
                case measure=>rw [U.out];omega
                case rel=>exact ⟨q+1,_,oo,oo,by go_num,c9,by rw [hs.out,<-iZ,<-cons_append,gm];exact ad.out,a4⟩
              . obtain rfl:q=S.length:=oo;rw [fT] at P;have a3:=Z2 E S v n9;have df:=XY E S v;obtain ⟨l,hl⟩:∃l,Gr E S v=l:=⟨_,rfl⟩;rw [hl] at P a3 df;have pu:=zh hl;obtain ⟨r1,mu⟩:=a3;have e3:=zh df;obtain ⟨ge,ce,rfl,r2,r3⟩:=P.some_ (λe=>by have h9:=Ls l;rw [e] at h9;simp at h9;omega);rw [Ls] at B;have lq:=P;rw [Ls] at lq;obtain ⟨wg,qt⟩:∃wg:World,wg=wr:=⟨_,rfl⟩;subst qt;have pw:=B.cell 0;have px:=B.out.lt;have lr:=zh lq.listA;have e4:=zh (pf.grew M);have ri:W.heap.size<wg.heap.size:=e4.out.lt;clear G hq U hl df;go_wp2_with fail;clear pw px
                go_loopg [30,31,189] l.length (λgk a30 a31 i' wr=>∃(q:Nat) (vs:List Value),q<=l.length/\gk=l.length - q/\i'=.int .i64 q/\a31=.string (DR (DB (l.take q)))/\OwnL wr wg.heap.size 196 1 a30 (vs.map λv=>[v])/\PutsAt wr wg.heap.size s (slU l q) vs/\Grew wg wr)
                case atStart=>exact ⟨0,[],oo,oo,rfl,rfl,OwnL.nil ..,PutsAt.nil ..,gK _⟩
                case round=>
                 obtain ⟨q,vs,hq,Z,rfl,rfl,mw,mx,my⟩:=hrel;have U:=zh Z;have br:=zh mw;have e5:=zh mx;have V:=zh my;clear Z mw mx my;by_cases G:q<l.length
                 . have hf:(q:Int)<(l.length:Int):=oo;obtain ⟨ol,c0,c1⟩:=LC (Ad lr V) G;have hx:=zh (Yw l q G);have hz:=zh (UI l q G);obtain ⟨⟨a,an⟩,ha⟩:∃e,l[q]=e:=⟨_,rfl⟩;have rj:an.size=140:=by have:=e3.out _ (gS G);rw [ha] at this;exact this
                   have ls:(DR (DB (l.take q))).size<=14000:=by
                    rw [Le _ (λr hr=>by
                     unfold DB at hr
                     obtain ⟨e,he,rfl⟩:=gV.1 hr
                     exact e3.out _ (jP he))]
                    unfold DB;rw [gO,i8];omega
                   rw [ha] at hx hz c0 c1;simp only at hx hz c0 c1;have O:Blk (wr.alloc (.cells #[.int .i64 (a:Int),.string an] 193)) wr.heap.size 193 #[.int .i64 (a:Int),.string an]:=gZ wr _ _ rfl;have C:Grew wr (wr.alloc (.cells #[.int .i64 (a:Int),.string an] 193)):=(gK wr).alloc _;have a2:=e4.grew V;have rk:W.heap.size<wr.heap.size:=a2.lt;have t:Hid (∀w',Grew (wr.alloc (.cells #[.int .i64 (a:Int),.string an] 193)) w'->(λw':World=>w'.cell? ⟨W.heap.size,0,none⟩=some (ptrV s)/\W.heap.size<w'.heap.size/\w'.cell? ⟨wr.heap.size,1,none⟩=some (.string an)/\wr.heap.size<w'.heap.size) w'):=zh (λw' hg=>⟨(a2.grew (C.trans hg)).cell 0,(a2.grew (C.trans hg)).lt,(O.grew hg).cell 1,(O.grew hg).lt⟩);have N:=zh C;have cj:IntKind.i64.wrap (34+(q:Int))=34+(q:Int):=iY _ oo;have e6:=e5.1;rw [QS] at e6;obtain ⟨wx,H⟩:∃wx:World,wx=wr.alloc (.cells #[.int .i64 (a:Int),.string an] 193):=⟨_,rfl⟩;have h0:=zh O;have lu:=zh a2;rw [<-H] at t N h0;have rm:wr.heap.size<wx.heap.size:=by rw [H];simp
                   clear O C ha a2;go_wp2_with fail;rw [<-H];clear H c0 c1;refine AB [] (λw':World=>w'.cell? ⟨W.heap.size,0,none⟩=some (ptrV s)/\W.heap.size<w'.heap.size/\w'.cell? ⟨wr.heap.size,1,none⟩=some (.string an)/\wr.heap.size<w'.heap.size) qk ?_;have hS:=t.out wx.drew (gK wx).drew;refine tQ 0 194 ?_;refine tT 1 (some 195) hS ?_;refine tQ 2 196 ?_;refine tQ 3 197 ?_;refine tQ 4 198 ?_;refine tT 5 (some 199) hS ?_;refine tQ 9 203 ?_;refine tQ 10 204 ?_;refine tT 11 (some 205) hS ?_;refine tQ 12 206 ?_;refine tO 6 λK' hK=>?_;go_wp2_with fail;refine (Jc _ _ _ _).mono ?_;rintro e wh ⟨pv,rfl,cf,gh⟩;obtain ⟨K,rfl⟩:=cf.form;have a5:=zh ((gK wx).drew.trans gh);have I:=zh (N.out.trans a5);have rn:wg.heap.size<=wh.heap.size:=(V.out.trans I).size;have lv:PutAt wh wg.heap.size s (34+(q:Int)) an (.func (.func 182) #[] K):=cf.low (by show wg.heap.size<=wx.drew.heap.size;have h8:=V.size;have:wx.drew.heap.size=wx.heap.size:=rfl;omega);have py:=zh ((e5.grew I).snoc (e:=(34+(q:Int),an)) lv);clear gh cf lv;go_wp2_with fail;refine hK.out _ _ (.inr (λ_=>t wh a5)) ?_;clear hK hS;refine tO 7 λK' hK=>?_;go_wp2_with fail;refine hK.out _ _ (.inr (λ_=>t _ (a5.alloc _))) ?_;clear hK;refine tO 8 λK' hK=>?_;refine Hx (.tmp 194) (.tmp 201) 195 rfl wg.heap.size 196 1 8 .nilFunc Tryz.underlying195 GN rfl qd _ u30 (vs.map λv=>[v]) [.func (.func 182) #[] K] rfl rfl ((br.grew I).alloc _) wh.heap.size rfl (gZ wh _ _ rfl) rfl (by rw [gO];omega) (by rw [gO];omega) (by simp;omega) q (by rw [gO];exact e6) ?_;intro g9 a6 w9 L f _ _;have bn:=((V.out.trans I).alloc (.cells #[.func (.func 182) #[] K] 196)).own f br.row_ge (gM _);have lw:=(py.grew ((gK wh).alloc (.cells #[.func (.func 182) #[] K] 196))).own ((br.grew I).alloc (.cells #[.func (.func 182) #[] K] 196)) f;have ad:=zh L;have a4:=zh bn;have pz:=zh lw;have bs:=((lu.grew (N.out.trans a5)).alloc (.cells #[.func (.func 182) #[] K] 196)).own f (br.ne_blk lu qd);have h3:=((h0.grew a5).alloc (.cells #[.func (.func 182) #[] K] 196)).own f ((br.grew N).ne_blk h0 qd);refine hK.out _ _ (.inr (λ_=>⟨bs.cell 0,bs.lt,h3.cell 1,h3.lt⟩)) ?_;clear hK L f bn lw bs h3;refine tQ 13 30 ?_;refine tQ 14 31 ?_;refine AA qk ?_ _;go_wp2_with fail
                   go_roundg (l.length - (q+1))
                   case measure=>rw [U.out];omega
                   case rel=>exact ⟨q+1,vs++[.func (.func 182) #[] K],oo,oo,by go_num,by rw [hz.out],by rw [gm];exact ad.out,by rw [hx.out];exact pz.out,a4⟩
                 . obtain rfl:q=l.length:=oo;rw [iL (gM _)];obtain ⟨wk,cj⟩:∃wk:World,wk=wr:=⟨_,rfl⟩;subst cj;have e8:=zh (B.grew V);have h4:=zh (e4.grew V)
                   have ls:(DR (DB l)).size<=14000:=by
                    rw [Le _ (λr hr=>by
                     unfold DB at hr
                     obtain ⟨e,he,rfl⟩:=gV.1 hr
                     exact e3.out _ he)]
                    unfold DB;rw [gO];omega
                   have p0:=ab l.length mu;have b4:(AJ v).size=4:=AN v;have lx:(AJ (nv l.length)).size=4:=AN _;have ci:(AJ (FF (DR (DB l)))).size=4:=AN _;have p1:(AJ v++AJ (nv l.length)).size=8:=by rw [gy,b4,lx]
                   have p2:Hid (AJ v++AJ (nv l.length)++AJ (FF (DR (DB l)))=CG l v):=zh (by unfold CG;rw [jJ]);have t:Hid (∀w',Grew wk w'->(λw':World=>w'.cell? ⟨wf.heap.size+1,0,none⟩=some (.slice (some ⟨ge,0,none⟩) l.length ce)/\wf.heap.size+1<w'.heap.size) w'):=zh (λw' hg=>⟨(e8.grew hg).cell 0,(e8.grew hg).lt⟩);clear G hq U;go_wp2_with fail;refine AB [] (λw':World=>w'.cell? ⟨wf.heap.size+1,0,none⟩=some (.slice (some ⟨ge,0,none⟩) l.length ce)/\wf.heap.size+1<w'.heap.size) qk ?_;have hS:=t.out wk.drew (gK wk).drew;refine tQ 0 208 ?_;refine tT 2 (some 210) hS ?_;refine tT 3 (some 211) hS ?_;refine tT 4 (some 212) hS ?_;refine tQ 7 215 ?_;refine tO 1 λK' hK=>?_;go_wp2_with fail;refine (Er v _).mono ?_;rintro e qc ⟨rfl,l6⟩;have ly:=zh ((gK wk).drew.trans l6);clear l6;go_wp2_with fail;refine hK.out _ _ (.inr (λ_=>t qc ly)) ?_;clear hK hS;refine tO 5 λK' hK=>?_;go_wp2_with fail;refine (Er (nv l.length) _).mono ?_;rintro e l7 ⟨rfl,l8⟩;have h5:=zh (ly.out.trans l8);clear l8;go_wp2_with fail;refine hK.out _ _ (.inr (λ_=>t l7 h5)) ?_;clear hK;have hS:=t.out l7 h5;refine tQ 6 214 ?_;refine tO 8 λK' hK=>?_;go_wp2_with fail;refine (Mt (DR (DB l)) oo _).mono ?_;rintro e qe ⟨rfl,ma⟩;have lz:=zh (h5.out.trans ma);clear ma;go_wp2_with fail;refine hK.out _ _ (.inr (λ_=>t qe lz)) ?_;clear hK hS;refine tO 9 λK' hK=>?_;go_wp2_with fail;refine (Er (FF (DR (DB l))) _).mono ?_;rintro e cq ⟨rfl,mb⟩;have Y:=zh (lz.out.trans mb);clear mb;go_wp2_with fail;refine hK.out _ _ (.inr (λ_=>t cq Y)) ?_;clear hK;have hS:=t.out cq Y;refine tQ 10 218 ?_;refine tQ 11 34 ?_;refine AA qk ?_ _;rw [p2.out];clear hS p0 b4 lx ci p1 ls;have fa:Hid (∀w',Grew cq w'->(λw':World=>w'.cell? ⟨W.heap.size,0,none⟩=some (ptrV s)/\W.heap.size<w'.heap.size) w'):=zh (λw' hg=>⟨((h4.grew Y).grew hg).cell 0,((h4.grew Y).grew hg).lt⟩);have p3:=zh (λw=>JM (CG l v) v 33 w (by rw [LJ];omega) (Cb 33 oo));go_wp2_with fail;refine AB [] (λw':World=>w'.cell? ⟨W.heap.size,0,none⟩=some (ptrV s)/\W.heap.size<w'.heap.size) qk ?_;have hS:=fa.out cq.drew (gK cq).drew;refine tQ 0 219 ?_;refine tT 1 (some 220) hS ?_;refine tQ 2 221 ?_;refine tT 3 (some 222) hS ?_;refine tQ 4 223 ?_;refine tQ 5 224 ?_;refine tT 8 (some 227) hS ?_;refine tQ 9 228 ?_;refine tQ 10 229 ?_;refine tO 6 λK' hK=>?_;go_wp2_with fail;refine (p3 _).mono ?_;rintro e mc ⟨rfl,md⟩;have h6:=zh ((gK cq).drew.trans md);clear md;go_wp2_with fail;refine hK.out _ _ (.inr (λ_=>fa mc h6)) ?_;clear hK hS;refine tO 7 λK' hK=>?_;go_wp2_with fail;refine (Jc _ _ _ _).mono ?_;rintro e d3 ⟨pv,rfl,cf,me⟩;obtain ⟨K,rfl⟩:=cf.form;have bt:=zh (h6.out.trans me);have p4:wg.heap.size<=mc.heap.size:=(V.out.trans (Y.out.trans h6)).size;have p5:=zh (cf.low p4);clear me cf;go_wp2_with fail;refine hK.out _ _ (.inr (λ_=>fa d3 bt)) ?_;clear hK;refine tO 11 λK' hK=>?_;go_wp2_with fail;refine hK.out _ _ (.inr (λ_=>fa _ (bt.alloc _))) ?_;clear hK;have e6:=e5.1;rw [QS] at e6;have fc:=zh (br.grew (Y.out.trans bt));have ro:wg.heap.size<=d3.heap.size:=(V.out.trans (Y.out.trans bt)).size;refine tO 12 λK' hK=>?_;refine KR (.tmp 219) (.tmp 230) 195 rfl wg.heap.size 196 1 8 .nilFunc Tryz.underlying195 GN rfl qd u30 (vs.map λv=>[v]) (([.func (.func 115) #[ptrV s] #[],.func (.func 182) #[] K,.func (.func 115) #[ptrV s] #[],.func (.func 116) #[] #[.pointer (some ⟨W.heap.size,0,none⟩),.pointer (some ⟨wf.heap.size+1,0,none⟩)]]:List Value).map λv=>[v]) rfl (fc.alloc _) (some ⟨d3.heap.size,0,none⟩) 4 4 rfl rfl (Om _) (K8 (gZ _ _ _ rfl) qs) (Nk (by rfl)) (by rw [gO];omega) (by rw [gO];omega) (by simp;omega) ?_;intro v9 w9 L f _;have bs:=((h4.grew (Y.out.trans bt)).alloc (.cells #[.func (.func 115) #[ptrV s] #[],.func (.func 182) #[] K,.func (.func 115) #[ptrV s] #[],.func (.func 116) #[] #[.pointer (some ⟨W.heap.size,0,none⟩),.pointer (some ⟨wf.heap.size+1,0,none⟩)]] 196)).own f (br.ne_blk (e4.grew V) qd);have p6:=zh bs;have ad:=zh L;have p7:=zh (((e8.grew (Y.out.trans bt)).alloc (.cells #[.func (.func 115) #[ptrV s] #[],.func (.func 182) #[] K,.func (.func 115) #[ptrV s] #[],.func (.func 116) #[] #[.pointer (some ⟨W.heap.size,0,none⟩),.pointer (some ⟨wf.heap.size+1,0,none⟩)]] 196)).own f (br.ne_blk e8 qd));have p8:=zh (((e5.grew (Y.out.trans bt)).grew ((gK d3).alloc (.cells #[.func (.func 115) #[ptrV s] #[],.func (.func 182) #[] K,.func (.func 115) #[ptrV s] #[],.func (.func 116) #[] #[.pointer (some ⟨W.heap.size,0,none⟩),.pointer (some ⟨wf.heap.size+1,0,none⟩)]] 196))).own (fc.alloc (.cells #[.func (.func 115) #[ptrV s] #[],.func (.func 182) #[] K,.func (.func 115) #[ptrV s] #[],.func (.func 116) #[] #[.pointer (some ⟨W.heap.size,0,none⟩),.pointer (some ⟨wf.heap.size+1,0,none⟩)]] 196)) f);have p9:=zh ((p5.grew ((gK d3).alloc (.cells #[.func (.func 115) #[ptrV s] #[],.func (.func 182) #[] K,.func (.func 115) #[ptrV s] #[],.func (.func 116) #[] #[.pointer (some ⟨W.heap.size,0,none⟩),.pointer (some ⟨wf.heap.size+1,0,none⟩)]] 196))).own (fc.alloc (.cells #[.func (.func 115) #[ptrV s] #[],.func (.func 182) #[] K,.func (.func 115) #[ptrV s] #[],.func (.func 116) #[] #[.pointer (some ⟨W.heap.size,0,none⟩),.pointer (some ⟨wf.heap.size+1,0,none⟩)]] 196)) f);have a4:Hid (Grew wg w9):=zh (((V.out.trans (Y.out.trans bt)).alloc (.cells #[.func (.func 115) #[ptrV s] #[],.func (.func 182) #[] K,.func (.func 115) #[ptrV s] #[],.func (.func 116) #[] #[.pointer (some ⟨W.heap.size,0,none⟩),.pointer (some ⟨wf.heap.size+1,0,none⟩)]] 196)).own f fc.row_ge (gM _));refine hK.out _ _ (.inr (λ_=>⟨bs.cell 0,bs.lt⟩)) ?_;clear hK L f bs;have l0:=zh (M.out.trans a4);have l1:Hid (Turned (λq=>q=m\/w1.heap.size<=q) w1 w9):=zh (ph.out.trans (l0.turned _));have l2:=zh (pi.grew l0);have l3:=zh (Xb (ei w9 l1 l2) (by have:=nn.out;omega) (lo:=w1.heap.size) (base:=wg.heap.size) (λk h1 h2=>.inr ⟨h1,h2⟩) (by have:=M.size;omega) l v mu e3 p6 (.inl (.inr rfl)) p7 oo (Ad lr a4) ⟨oo,by have:=a4.size;omega⟩ p8 p9 (by rw [gm];exact ad.out));obtain ⟨A2,n2,c2,rfl,mz⟩:=l3.out;have qa:=zh mz;clear mz l3;refine tQ 13 30 ?_;refine AA qk ?_ _;go_wp2_with fail;refine qa.mono ?_;rintro e qb ⟨rfl,qf,qg⟩;go_wp2_with fail;go_ret;rw [o5.out,pu.out];exact ⟨rfl,Ty ee HD l2 l1 qf qg ke.1 ke.2⟩
end

theorem Tk {w0:World} {x s m:Nat} {sy ep:Int} {D:Dev} {out:Nat->Prop} {W:World} (h:Held w0 x s m sy ep D out W) (hlen:132<=D.st.length/\D.st.length<=1155) (hp:D.pend.length<=800000) (E:Dev) (fb:Bool) (hE:Bs D sy ep=(E,fb,0)) (n:Nat) (hn:D.st.length - 131=n) (ws:List (Int × ByteArray)) (hok:∀e∈ws,okI e.1) (A:Option Addr) (c:Nat) (hat:ListAt W W.heap.size 2 A (ws.map BM)) (hA:EB w0 out A) (hck:Ac n ws=0) (hne:ws≠[]) (htop:(topI E).ok=true) (S:Wl) (hS:Bw n ws=S) (hmaps:∀k∈ksW S,C9 E k) (v:U32) (hv:(topI E).ver+1#32=v) (hver:(topI E).ver≠4294967295#32):
 Calls Tryz.prog 51 #[ptrV s,.slice A ws.length c] W λe w'=>e=.returned (.int .i64 (BS sy ep (B3 (Gr E S v) v) E).2)/\Done w0 x s m sy ep (BS sy ep (B3 (Gr E S v) v) E).1 out W w':=
 (L9 VT h hlen hp E fb hE n hn ws hok A c hat hA hck hne htop S hS v hv hver).mono (λe w' hq=>by
   have hz:=Ji (E:=E) (ksW S) hmaps []
   rw [append_nil] at hz
   unfold K3 at hq
   rwa [if_neg (by rw [hz];exact λh9=>h9 rfl)] at hq)
section
variable {w0:World} {x s m:Nat} {sy ep:Int} {D:Dev} {out:Nat->Prop} {W:World}
theorem MH (h:Held w0 x s m sy ep D out W) (q:132<=D.st.length/\D.st.length<=1155) (hp:D.pend.length<=800000) (E:Dev) (fb:Bool) (hE:Bs D sy ep=(E,fb,0)) (ws:List (Int × ByteArray)) (hl:ws.length<=1000000) (r:∀e∈ws,okI e.1) (A:Option Addr) (c:Nat) (t:ListAt W W.heap.size 2 A (ws.map BM)) (hA:ws≠[]->EB w0 out A) (g:Ac (D.st.length - 131) ws≠0\/ws=[]):
 Calls Tryz.prog 51 #[ptrV s,.slice A ws.length c] W λe w'=>e=.returned (.int .i64 (Ac (D.st.length - 131) ws))/\Done w0 x s m sy ep E out W w':=by
 have l:=JI D sy ep;rw [hE] at l;have v:E.st.length=D.st.length:=l.1;have K:=h.store.lt;have S:=h.live.base.size;have d:Grew W (W.alloc (.cells #[ptrV s] 110)):=(gK W).alloc _;have L:Held w0 x s m sy ep D out (W.alloc (.cells #[ptrV s] 110)):=h.grew d;have n:Held w0 x s m sy ep D (λk=>out k\/k=W.heap.size) (W.alloc (.cells #[ptrV s] 110)):=⟨(h.live.more d).few (λk hk=>hk.elim .inl (λh9=>.inr (by rw [h9];simp))),h.store.grew d,.inl h.os,.inl h.om,h.m0⟩;have w:Blk (W.alloc (.cells #[ptrV s] 110)) W.heap.size 110 #[ptrV s]:=gZ W _ _ rfl;have HF:=zh (Eo n q.1 oo E fb 0 hE);obtain ⟨er,j⟩:∃er,Ac (D.st.length - 131) ws=er:=⟨_,rfl⟩;rw [j] at g ⊢;have y:=zh (show Ac (E.st.length - 131) ws=er from by rw [v];exact j);have z:=zh (show 132<=E.st.length/\E.st.length<=1155 from oo);have B:=zh n;have C:=zh w;have i:=zh d;have M:=zh t;have G:ws=[]->er=0:=λh9=>by rw [<-j,h9];unfold Ac;simp
 have N:=zh (λ(h9:er≠0)=>hA (λh8=>h9 (G h8)));have O:=zh h.store;have H:=zh r;have I:=zh K;clear G h q hp hE r t hA l v d L n w j;by_cases h0:er=0
 . subst h0;have hw:ws=[]:=g.elim (λh9=>absurd rfl h9) id;subst hw;clear g;go_enter Tryz.func51,Tryz.ntmps51;go_wp2_with fail;refine HF.mono ?_;rintro e w1 ⟨rfl,hd⟩;have a:Blk w1 W.heap.size 110 #[ptrV s]:=C.turned hd.turned (λhq=>hq.elim (λh9=>h9.2 (.inr rfl)) (by have:=I.2;omega));have f:=zh (Ln (B.done hd) z [] qs H A c (ListAt.none A));rw [y.out] at f;have P:=a.cell 0;have Q:=a.lt;have HD:=zh hd;clear hd a;go_wp2_with fail;refine f.mono ?_;rintro e w2 ⟨rfl,g2⟩;have p:=zh g2;clear g2;go_wp2_with fail;go_ret;exact ⟨rfl,Fa (HD.grew p) i (λk hk=>.inl hk)⟩
 . have T:(er != 0)=true:=by rw [iW];exact h0
   clear g;go_enter Tryz.func51,Tryz.ntmps51;go_wp2_with fail;refine HF.mono ?_;rintro e w1 ⟨rfl,hd⟩;have a:Blk w1 W.heap.size 110 #[ptrV s]:=C.turned hd.turned (λhq=>hq.elim (λh9=>h9.2 (.inr rfl)) (by have:=I.2;omega))
   have J:ListAt w1 w1.heap.size 2 A (ws.map BM):=DV (Ad M i) hd.turned (λb off o u e hu hq=>by
    rcases hq with hq | hq
    . rcases N.out h0 b off e with h9 | h9
      . exact absurd hq.1 (by have:=h9;omega)
      . exact hq.2 (.inl h9)
    . obtain ⟨F,R,_⟩:=(O.grew i).seen
      exact Fi R hu hq)
   have f:=zh (Ln (B.done hd) z ws hl H A c J);rw [y.out] at f;have P:=a.cell 0;have Q:=a.lt;have HD:=zh hd;clear hd a J h0;go_wp2_with fail;refine f.mono ?_;rintro e w2 ⟨rfl,g2⟩;have p:=zh g2;clear g2;go_wp2_with fail;go_ret;exact ⟨rfl,Fa (HD.grew p) i (λk hk=>.inl hk)⟩
end

def Hq (k:Nat):Int:=1+((k % 3:Nat):Int)
theorem IG (k:Nat):1<=Hq k/\Hq k<=4:=by unfold Hq;omega

theorem Yq {w:World} {B:Nat} {A:Option Addr} {l:List ByteArray} (h:ListAt w B 1 A (l.map λs=>[.string s])) {k:Nat} (hk:k<l.length):
 ∃b off,A=some ⟨b,off,none⟩/\b<B/\w.cell? ⟨b,off+k,none⟩=some (.string l[k]):=by
 obtain ⟨b,off,e,hb,hc⟩:=h (by rw [gO];omega);have hj:(l.map λs=>[Value.string s])[k]? =some [.string l[k]]:=by rw [gP,gJ hk];rfl
 exact ⟨b,off,e,hb,by have:=hc k _ hj 0 _ rfl;simpa using this⟩

end
section
open Go.RowKit
theorem Sl {D:Dev} {I:Img} (h:Clean D I) (sy ep:Int) (hl:D.st.length=131+I.n) (i:Nat) (hi:i<I.n):NC D sy ep (i:Int)=(D,I.cs i,0):=by
 unfold NC;rw [E8 h,if_neg qs,if_neg oo,iM,h.toHolds.look i hi];rfl
theorem MI {D:Dev} {I:Img} (h:Clean D I) (sy ep:Int) (hf:Fg D sy ep=true):Io D sy ep=(D,0):=by
 unfold Io;rw [E8 h,if_neg (by rw [hf];simp),if_neg qs,if_neg (by rw [h.toHolds.topI];simp)]

def TW (a:Int) (n:Nat):Int:=a % (n:Int)
def Kn (n most:Nat) (out:List (Int × ByteArray)) (e:Int × ByteArray):List (Int × ByteArray):=
 if out.length<most/\(out.any λx=>x.1==TW e.1 n)=false then out++[(TW e.1 n,BD e.2)] else out
def Dv (n most:Nat) (ws:List (Int × ByteArray)):List (Int × ByteArray):=ws.foldl (Kn n most) []
theorem T5 (n most:Nat) (ws:List (Int × ByteArray)) (k:Nat) (hk:k<ws.length):Dv n most (ws.take (k+1))=Kn n most (Dv n most (ws.take k)) ws[k]:=by
 unfold Dv;rw [gU hk,iz];rfl
structure FairOK (n most:Nat) (l:List (Int × ByteArray)):Prop where
 len:l.length<=most
 nodup:(l.map (·.1)).Nodup
 all:∀e∈l,e.2.size=128/\0<=e.1/\e.1<(n:Int)
theorem Zg {n most:Nat} (hn:0<n) {l:List (Int × ByteArray)} (h:FairOK n most l) (e:Int × ByteArray):FairOK n most (Kn n most l e):=by
 unfold Kn;split
 . rename_i hc;refine ⟨by rw [iI,jN];omega,?_,λx hx=>?_⟩
   . rw [gm,jA];refine ⟨h.nodup,qs,?_⟩;intro a ha b hb c;obtain ⟨x,hx,rfl⟩:=gV.1 ha;have h2:=hc.2;rw [im] at h2;have h3:=h2 x hx;simp only [map_cons,map_nil,gQ] at hb;rw [hb] at c;exact h3 (by rw [jR];exact c)
   . rcases iA.1 hx with hx | hx
     . exact h.all x hx
     . rw [gQ.1 hx];refine ⟨DU _,?_,?_⟩
       . exact Int.emod_nonneg _ oo
       . exact Int.emod_lt_of_pos _ oo
 . exact h
theorem Vs {n most:Nat} (hn:0<n) (ws:List (Int × ByteArray)):FairOK n most (Dv n most ws):=by
 unfold Dv
 have a:∀(ws l:List (Int × ByteArray)),FairOK n most l->FairOK n most (ws.foldl (Kn n most) l):=by
  intro ws
  induction ws with
  | nil=>intro l h;exact h
  | cons e ws ih=>intro l h;exact ih _ (Zg hn h e)
 exact a ws [] ⟨ia _,qs,qs⟩
theorem YC {n most:Nat} {l:List (Int × ByteArray)} (h:most<=l.length):∀(ws:List (Int × ByteArray)),ws.foldl (Kn n most) l=l:=by
 intro ws
 induction ws with
 | nil=>rfl
 | cons e ws ih=>
   rw [foldl_cons];have:Kn n most l e=l:=by unfold Kn;rw [if_neg oo]
   rw [this,ih]
theorem Wj {n most:Nat} (ws:List (Int × ByteArray)) (k:Nat) (h:most<=(Dv n most (ws.take k)).length):Dv n most ws=Dv n most (ws.take k):=by
 conv=>lhs;rw [<-jo k ws]
 unfold Dv at h ⊢;rw [iz];exact YC h _
def Img.next (I:Img) (l:List (Int × ByteArray)):Img:=if l=[] then I else I.upd (Bw I.n l)
theorem Ud (I:Img) (l:List (Int × ByteArray)):(I.next l).n=I.n:=by unfold Img.next;split<;>rfl
theorem bF (I:Img) (l:List (Int × ByteArray)):(I.next l).N=if l=[] then I.N else I.N+1:=by
 unfold Img.next;split<;>rfl

end
section
attribute [local go_sem ↓] Go.wp_at_zero Go.wp_at_succ
open Go.RowKit
theorem bN {S:Nat->Prop} {W w1 w2:World} {row:Option Nat} (h:Turned S W w1) (hr:∀k,row=some k->W.heap.size<=k) (hg:w1.grownBy w2 row):Turned S W w2:=
 h.next (T:=λk=>row=some k) ⟨hg.os,hg.tape,hg.output,hg.size,λk hk hn=>hg.block k hk (λe9=>hn e9.symm)⟩ (λi hi h9=>absurd (hr i h9) oo)

theorem fM (s:ByteArray):Gj 128 (if 128<s.size then s.extract 0 128 else s)=BD s:=by
 unfold Gj BD;split
 . rw [iK,show 128 - (min 128 s.size - 0)=0 from oo,show 128 - s.size=0 from oo];rfl
 . rw [show s.extract 0 128=s from by apply ByteArray.ext;rw [ByteArray.data_extract];exact Array.extract_eq_self_of_le (by show s.size<=128;omega)];rfl
theorem Ra (s:ByteArray) (w:World) (hs:s.size<=1000000):Calls Tryz.prog 22 #[.string s] w λe w'=>e=.returned (.string (BD s))/\w=w':=by
 have hp:=fM s;by_cases h:128<s.size
 . rw [if_pos h] at hp;have HP:=zh (Kl (s.extract 0 128) 128 w oo (by rw [iK];omega));rw [hp] at HP;have hi:(s.size:Int)>128:=oo;clear hp;go_enter Tryz.func22,Tryz.ntmps22;go_wp2_with fail;refine HP.mono ?_;rintro e w1 ⟨rfl,rfl⟩;go_wp2_with fail;go_ret;exact ⟨rfl,rfl⟩
 . rw [if_neg h] at hp;have HP:=zh (Kl s 128 w oo hs);rw [hp] at HP;have hi:¬(s.size:Int)>128:=oo;clear hp;go_enter Tryz.func22,Tryz.ntmps22;go_wp2_with fail;refine HP.mono ?_;rintro e w1 ⟨rfl,rfl⟩;go_wp2_with fail;go_ret;exact ⟨rfl,rfl⟩

def GJ (ws:List (Int × ByteArray)) (most:Nat):Bool:=ws.all (λe=>decide (e.2.size<=200)) && decide (ws.length<=most)
theorem X4 (ws:List (Int × ByteArray)) (A:Option Addr) (c most:Nat) (hm:most<=1000) (w:World) (h:ListAt w w.heap.size 2 A (ws.map BM)) (hl:ws.length<=9223372036854775807):
 Calls Tryz.prog 7 #[.slice A ws.length c,.int .i64 (most:Int)] w λe w'=>e=.returned (.bool (GJ ws most))/\Grew w w':=by
 have l:=zh h;clear h;go_enter Tryz.func7,Tryz.ntmps7;go_wp2_with fail
 go_loopg [5] ws.length (λgk i' wr=>∃i:Nat,i<=ws.length/\gk=ws.length - i/\i'=.int .i64 i/\Grew w wr/\(ws.take i).all (λe=>decide (e.2.size<=200))=true)
 case atStart=>exact ⟨0,oo,oo,rfl,gK _,rfl⟩
 case round=>
  obtain ⟨i,hi,k,rfl,hg,ht⟩:=hrel;have m:=zh k;have HG:=zh hg;have HT:=zh ht;clear k hg ht;by_cases f:i<ws.length
  . have p:(i:Int)<(ws.length:Int):=oo;obtain ⟨b,r,rfl,s,c0,c1⟩:=IE (l.keep (gM _) HG) f;have q:w.heap.size<=wr.heap.size:=HG.size;obtain ⟨⟨a,d⟩,he⟩:∃e,ws[i]=e:=⟨_,rfl⟩;rw [he] at c0 c1;simp only at c0 c1;have HE:=zh he;clear he;by_cases g:200<d.size
    . have n:(d.size:Int)>200:=oo
      have HF:Hid (GJ ws most=false):=zh (by
       unfold GJ
       rw [Bool.and_eq_false_iff]
       left
       rw [List.all_eq_false]
       exact ⟨ws[i],gS f,by rw [HE.out];simp;exact g⟩)
      clear g;go_wp2_with fail;go_ret;exact ⟨by rw [HF.out];rfl,HG⟩
    . have n:¬(d.size:Int)>200:=oo;have j:d.size<=200:=oo;have o:=zh j;clear g j;go_wp2_with fail
      go_roundg (ws.length - (i+1))
      case measure=>rw [m.out];omega
      case rel=>exact ⟨i+1,oo,oo,by go_num,HG,by rw [gU f,List.all_append,HT.out,HE.out];simp [o.out]⟩
  . obtain rfl:i=ws.length:=oo
    have HE:Hid (GJ ws most=decide (ws.length<=most)):=zh (by
     have:=HT.out
     rw [iL (gM _)] at this
     unfold GJ
     rw [this,Bool.true_and])
    go_wp2_with fail;go_ret;exact ⟨by rw [HE.out];rfl,HG⟩
theorem VL (a:Int) (n:Nat) (hn:0<n):(Int.tmod a n<0/\Int.tmod a n+(n:Int)=TW a n)\/(0<=Int.tmod a n/\Int.tmod a n=TW a n):=by
 have h1:0<=a % (n:Int):=Int.emod_nonneg _ oo;have h2:a % (n:Int)<(n:Int):=Int.emod_lt_of_pos _ oo;have h3:=Int.tmod_eq_emod (a:=a) (b:=(n:Int));unfold TW;by_cases hc:0<=a\/(n:Int) ∣ a
 . rw [if_pos hc] at h3;right;omega
 . rw [if_neg hc] at h3;left;simp only [Int.natAbs_natCast] at h3;omega
theorem aK (l:List (Int × ByteArray)) (e:Int × ByteArray):(l++[e]).map BM=l.map BM++[[.int .i64 e.1,.string e.2]]:=by
 rw [gm];rfl
theorem ZN (ws:List (Int × ByteArray)) (A:Option Addr) (c n most:Nat) (hn:0<n/\n<=1024) (hm:most<=64) (w:World) (I:ListAt w w.heap.size 2 A (ws.map BM)) (hl:ws.length<=1000000) (J:∀e∈ws,okI e.1) (K:∀e∈ws,e.2.size<=1000000):
 Calls Tryz.prog 13 #[.slice A ws.length c,.int .i64 (n:Int),.int .i64 (most:Int)] w λe w'=>∃v,e=.returned v/\OwnL w' w.heap.size 65 2 v ((Dv n most ws).map BM)/\Grew w w':=by
 have ae:=zh I;have al:=zh J;have an:=zh K;have bs:(n:Int)≠0:=oo;have bt:((n:Int)>0)=True:=by simp;omega
 have av:=zh (λ(k:Nat)=>Vs (most:=most) hn.1 (ws.take k));clear I J K;go_enter Tryz.func13,Tryz.ntmps13;go_wp2_with fail;have a0:=OwnL.empty w w.heap.size 65 2 (gM _) rfl
 go_loopg [7,8] ws.length (λgk u i' wr=>∃i:Nat,i<=ws.length/\gk=ws.length - i/\i'=.int .i64 i/\OwnL wr w.heap.size 65 2 u ((Dv n most (ws.take i)).map BM)/\Grew w wr)
 case atStart=>exact ⟨0,oo,oo,rfl,a0,(gK w).alloc _⟩
 case round=>
  obtain ⟨i,hi,X,rfl,l,hg⟩:=hrel;have L:=zh X;have a1:=zh l;have HG:=zh hg;obtain ⟨o,ho⟩:∃o,Dv n most (ws.take i)=o:=⟨_,rfl⟩;have p:=av.out i;rw [ho] at l p;obtain ⟨B,cb,rfl,br,ce,Y⟩:=l.listAt;rw [gO] at br l ⊢;have m:=zh l;have HB:=zh Y;have HO:=zh ho;have bv:=p.len;have HF:=zh p;clear X l hg ho Y p a1;by_cases y:i<ws.length
  . have M:(i:Int)<(ws.length:Int):=oo;by_cases bk:o.length<most
    . have N:(o.length:Int)<(most:Int):=oo;obtain ⟨b,cf,rfl,ch,c0,c1⟩:=IE (ae.keep (gM _) HG) y;have bx:w.heap.size<=wr.heap.size:=HG.size;have O:=al.out _ (gS y);have s:=an.out _ (gS y);have g:=T5 n most ws i y;rw [HO.out] at g;obtain ⟨⟨a,d⟩,he⟩:∃e,ws[i]=e:=⟨_,rfl⟩;rw [he] at c0 c1 O s g;simp only at c0 c1 O s;unfold Kn at g;simp only at g;have HE:=zh he;clear he;obtain ⟨r,hr⟩:∃r,Int.tmod a (n:Int)=r:=⟨_,rfl⟩;obtain ⟨q,hq⟩:∃q,TW a n=q:=⟨_,rfl⟩;have P:=VL a n hn.1;rw [hr,hq] at P;rw [hq] at g;have a3:0<=q/\q<(n:Int):=by rw [<-hq];unfold TW;exact ⟨Int.emod_nonneg _ oo,Int.emod_lt_of_pos _ oo⟩
      have Q:IntKind.i64.wrap q=q:=iY _ oo;have a4:decide ((0:Int)<(n:Int))=true:=iB oo;have a5:(n:Int)>0:=oo;have b0:decide ((o.length:Int)<(most:Int))=true:=iB N;have a6:decide ((i:Int)<(ws.length:Int))=true:=iB M;have R:=zh g;have b1:=zh a3;have a7:=zh s;have b3:IntKind.i64.wrap r=r:=iY _ oo;clear g hq s;obtain ⟨wo,G⟩:∃wo:World,wo=wr:=⟨_,rfl⟩;subst G;rcases P with ⟨ad,C⟩ | ⟨ad,C⟩
      case' inl=>
       have a8:decide (r<0)=true:=iB ad;have b4:IntKind.i64.wrap (r+(n:Int))=q:=by rw [C];exact Q
       clear C Q;go_wp2_with fail
      case' inr=>
       have a9:=C.symm;subst a9;have a8:decide (q<0)=false:=iC oo;have b5:¬q<0:=oo;go_wp2_with fail
      all_goals
       go_loopg [10,11] o.length (λg2 u2 j' wr=>wo=wr/\∃j:Nat,j<=o.length/\g2=o.length - j/\j'=.int .i64 j/\u2=.bool ((o.take j).any λx=>x.1==q))
       case atStart=>exact ⟨rfl,0,oo,oo,rfl,rfl⟩
       case round=>
        obtain ⟨G,j,hj,Z,rfl,rfl⟩:=hrel;subst G;have D:=zh Z;clear Z;by_cases z:j<o.length
        . have b6:(j:Int)<(o.length:Int):=oo;obtain ⟨b2,ci,rfl,cj,d0,d1⟩:=IE HB z;obtain ⟨⟨a2,e2⟩,H⟩:∃e,o[j]=e:=⟨_,rfl⟩;rw [H] at d0 d1;simp only at d0 d1;have S:=zh H;clear H;cases f:(o.take j).any λx=>x.1==q with
          | true=>
            have t:=zh f;clear f;go_wp2_with fail
            go_roundg (o.length - (j+1))
            case measure=>rw [D.out];omega
            case rel=>exact ⟨rfl,j+1,oo,oo,by go_num,by rw [gU z,List.any_append,t.out,Bool.true_or]⟩
          | false=>
            have t:=zh f;clear f;by_cases h:a2=q
            . have bb:(a2==q)=true:=by rw [jR];exact h
              have HQ:=zh h;clear h;go_wp2_with fail
              go_roundg (o.length - (j+1))
              case measure=>rw [D.out];omega
              case rel=>exact ⟨rfl,j+1,oo,oo,by go_num,by rw [gU z,List.any_append,t.out,S.out];simp [HQ.out]⟩
            . have bb:(a2==q)=false:=by rw [iD];exact h
              have HQ:=zh h;clear h;go_wp2_with fail
              go_roundg (o.length - (j+1))
              case measure=>rw [D.out];omega
              case rel=>exact ⟨rfl,j+1,oo,oo,by go_num,by rw [gU z,List.any_append,t.out,S.out];simp [HQ.out]⟩
        . obtain rfl:j=o.length:=oo;rw [iL (gM _)];cases f:o.any λx=>x.1==q with
          | true=>
            have E:Hid (Dv n most (ws.take (i+1))=o):=zh (by rw [R.out,if_neg (by rw [f];simp)]);clear f;go_wp2_with fail
            go_roundg (ws.length - (i+1))
            case measure=>rw [L.out];omega
            case rel=>exact ⟨i+1,oo,oo,by go_num,by rw [E.out];exact m.out,HG⟩
          | false=>
            have E:Hid (Dv n most (ws.take (i+1))=o++[(q,BD d)]):=zh (by rw [R.out,if_pos ⟨bk,f⟩]);have bc:=zh (Ra d wo a7);clear f;go_wp2_with fail;refine bc.mono ?_;rintro e w2 ⟨rfl,rfl⟩;have T:(o.map BM).length=o.length:=gO ..;have F:=zh T;clear T;go_wp2_with (at_builtin;refine Bi rfl _ _ 24 rfl w.heap.size 65 2 24 (.agg #[.int .i64 0,.string ⟨#[]⟩]) Tryz.underlying24 Kt rfl qd (wo.alloc (.cells #[.int .i64 q,.string (BD d)] 65)) _ (o.map BM) [.int .i64 q,.string (BD d)] rfl rfl (m.alloc _) wo.heap.size (by rfl) (gZ _ _ _ rfl) rfl (by rw [F.out];omega) (by rw [F.out];omega) (by simp;omega) o.length F ?_);intro g9 ca w9 V W bl bn;have U:Grew w w9:=Grew.own (HG.alloc _) W (λk hk=>m.row_ge k hk) (gM _);have bd:=zh V;have bf:=zh U;clear V W bl bn U;go_wp2_with fail
            go_roundg (ws.length - (i+1))
            case measure=>rw [L.out];omega
            case rel=>exact ⟨i+1,oo,oo,by go_num,by rw [E.out,aK];exact bd.out,bf⟩
    . have N:decide ((o.length:Int)<(most:Int))=false:=iC oo;have b9:¬(o.length:Int)<(most:Int):=oo;have HE:Hid (Dv n most ws=o):=zh (by rw [Wj ws i (by rw [HO.out];omega),HO.out]);have a6:decide ((i:Int)<(ws.length:Int))=true:=iB M;have a4:decide ((0:Int)<(n:Int))=true:=iB oo;have a5:(n:Int)>0:=oo;go_wp2_with fail;go_ret;exact ⟨_,rfl,by rw [HE.out];exact m.out,HG⟩
  . obtain rfl:i=ws.length:=oo;have HE:=HO;rw [iL (gM _)] at HE;go_wp2_with fail;go_ret;exact ⟨_,rfl,by rw [HE.out];exact m.out,HG⟩

structure Neat (D:Dev) (I:Img):Prop where
 clean:Clean D I
 fen:D.fen=λ_=>0
 fuse:D.fuse=none
theorem Neat.calm {D:Dev} {I:Img} (h:Neat D I) {sy:Int} (hs:1<=sy/\sy<=4):Calm D sy 0:=⟨h.clean.ok,h.clean.live,by unfold Cr;exact iB ⟨hs.1,hs.2,oo,oo⟩,by rw [h.fen];show ¬(0:Int)<0;omega⟩
def PS (I:Img) (ws:List (Int × ByteArray)):Img:=if Ac I.n ws=0 then I.next ws else I
theorem Mz {D:Dev} {I:Img} {sy ep:Int} (h:Clean D I) (ws:List (Int × ByteArray)) (hr:I.N+1<4294967295) (h0:Ac I.n ws=0) (c:ws≠[]):
 Al D sy ep ws=BS sy ep (B3 (Gr D (Bw I.n ws) (nv (I.N+1))) (nv (I.N+1))) D/\(topI D).ok=true/\(∀k∈ksW (Bw I.n ws),C9 D k)/\(topI D).ver+1#32=nv (I.N+1)/\(topI D).ver≠4294967295#32:=by
 have hn:D.st.length - 131=I.n:=by rw [h.len];omega
 have d:=E8 h sy ep
 have hv:(topI D).ver≠4294967295#32:=by
  rw [h.topI];intro hq;have:=iH BitVec.toNat hq;rw [show (Raw.mk (AM I.tops) (nv I.N) true).ver=nv I.N from rfl,Dt _ oo] at this;simp at this;omega
 have a:(topI D).ver+1#32=nv (I.N+1):=by rw [h.topI];exact Qf I.N
 have hm:∀k∈ksW (Bw I.n ws),C9 D k:=λk hk=>by
  have b:=((CR _ k).1 hk).1;unfold C9;rw [h.topI,h.mapI k b];refine ⟨rfl,rfl,?_⟩;show nv (I.ms k)=fld (AM I.tops) k;unfold Img.tops;rw [Pm _ _ b]
 refine ⟨?_,by rw [h.topI],hm,a,hv⟩;unfold Al;rw [d,hn,if_neg qs,if_neg (by simp [h0,c]),a,if_neg (by rw [h.topI];simp),if_neg (by rw [Ni h.toHolds _ (λk hk=>((CR _ k).1 hk).1)];simp),if_neg hv]
section
variable {w0:World} {x s m:Nat} {sy:Int} {D:Dev} {I:Img} {out:Nat->Prop} {W:World}
theorem Rr {ep:Int} (h:Held w0 x s m sy ep D out W) (a:Clean D I) (k:Calm D sy ep) (f:D.fuse=none) (hN:I.N<1000) (ws:List (Int × ByteArray)) (hl:ws.length<=1000000) (i:∀e∈ws,okI e.1) (A:Option Addr) (c:Nat) (j:ListAt W W.heap.size 2 A (ws.map BM)) (hA:ws≠[]->EB w0 out A):
 Calls Tryz.prog 51 #[ptrV s,.slice A ws.length c] W λe w'=>e=.returned (.int .i64 (Ac I.n ws))/\∃D',Done w0 x s m sy ep D' out W w'/\Clean D' (PS I ws)/\D'.fen=D.fen/\D'.fuse=none/\D'=(Al D sy ep ws).1:=by
 have l:132<=D.st.length/\D.st.length<=1155:=by have:=a.len;have:=a.img.n0;have:=a.img.n1;omega
 have g:D.st.length - 131=I.n:=by rw [a.len];omega
 have hp:D.pend.length<=800000:=by rw [a.pend];simp
 have o:=E8 a sy ep;by_cases d:Ac I.n ws≠0\/ws=[]
 . refine (MH h l hp D false o ws hl i A c j hA (by rw [g];exact d)).mono ?_;rintro e w' ⟨rfl,hd⟩;rw [g];refine ⟨rfl,D,hd,?_,rfl,f,?_⟩
   . have:PS I ws=I:=by
      unfold PS;split
      . rename_i h0;unfold Img.next;rw [if_pos (d.elim (λh9=>absurd h0 h9) id)]
      . rfl
     rw [this];exact a
   . rw [(Dw a k f ws oo).1 d]
 . have h0:Ac I.n ws=0:=io.1 (λh9=>d (.inl h9));have b:ws≠[]:=λh9=>d (.inr h9);obtain ⟨q1,q2,q3,q4,q5⟩:=Mz (sy:=sy) (ep:=ep) a ws oo h0 b;obtain ⟨E,r1,r2,r3,r4⟩:=(Dw a k f ws oo).2 h0 b;refine (Tk h l hp D false o I.n g ws i A c j (hA b) h0 b q2 _ rfl q3 _ q4 q5).mono ?_;rintro e w' ⟨rfl,hd⟩;rw [<-q1,r1] at hd ⊢;refine ⟨by rw [h0],E,hd,?_,r3,r4,rfl⟩
   have:PS I ws=I.upd (Bw I.n ws):=by
    unfold PS Img.next;rw [if_pos h0,if_neg b]
   rw [this];exact r2
theorem SE (h:Held w0 x s m sy 0 D out W) (hs:1<=sy/\sy<=4) (hn:Neat D I) (hN:I.N<1000) (ws:List (Int × ByteArray)) (hl:ws.length<=1000000) (a:∀e∈ws,okI e.1) (A:Option Addr) (c:Nat) (b:ListAt W W.heap.size 2 A (ws.map BM)) (hA:ws≠[]->EB w0 out A):
 Calls Tryz.prog 51 #[ptrV s,.slice A ws.length c] W λe w'=>e=.returned (.int .i64 (Ac I.n ws))/\∃D',Done w0 x s m sy 0 D' out W w'/\Neat D' (PS I ws)/\D'=(Al D sy 0 ws).1:=by
 refine (Rr h hn.clean (hn.calm hs) hn.fuse hN ws hl a A c b hA).mono ?_;rintro e w' ⟨he,D',h1,h2,h3,h4,h5⟩;exact ⟨he,D',h1,⟨h2,h3.trans hn.fen,h4⟩,h5⟩
end

theorem Kx {w:World} {g t sz:Nat} {rows:List (List Value)} {cs:Array Value} (h:Blk w g t cs) (hc:cs=rows.flatten.toArray) (hr:∀r∈rows,r.length=sz):ListAt w w.heap.size sz (some ⟨g,0,none⟩) rows:=λ_=>⟨g,0,rfl,h.lt,λj cs' hj i u hi=>by
 subst hc
 rw [h.cell,ji,getElem?_toArray]
 exact J2 hr j i cs' u hj hi⟩

end
section
open Go.RowKit
def IL (s:ByteArray):Nat:=(Cp (s.extract 128 132)).toNat
theorem E9 (d:ByteArray) (v:Nat) (i:Int) (hv:v<4294967296):IL (AZ d (nv v) i)=v:=by
 obtain ⟨_,_,_,h4,_⟩:=D6 d (nv v) i;unfold IL;rw [h4,Cw,Dt v hv]
theorem NU:IL blankR=0:=by
 unfold IL;rw [RP 128 oo];rfl
theorem TI (D:Dev) (hl:D.old.length=D.st.length) (i:Nat) (s:ByteArray) (hi:i<D.st.length) (j:Nat):(AR D i s).olds j=if j=i/\D.at i≠s then (D.at i::D.olds i).take 8 else D.olds j:=by
 unfold AR;by_cases h:D.at i=s
 . rw [if_pos h,if_neg (λh9=>h9.2 h)]
 . rw [if_neg h];unfold Dev.olds;show (D.old.set i ((D.at i::D.old.getD i []).take 8)).getD j []=_;rw [iE,jg];by_cases hj:j=i
   . subst hj;rw [if_pos rfl,if_pos oo,if_pos ⟨rfl,h⟩];rfl
   . rw [if_neg (λe=>hj e.symm),if_neg (λe=>hj e.1),iE]
theorem d9 (D:Dev) (i:Nat) (s:ByteArray):(AR D i s).old.length=D.old.length:=by unfold AR;split<;>simp
theorem FO (l:Wl):∀D:Dev,D.old.length=D.st.length->okW D l->(l.map (·.1)).Nodup->∀i,∀t∈(BF D l).olds i,t∈D.olds i\/(t=D.at i/\∃s,Ak l i=some s):=by
 induction l with
 | nil=>intro D _ _ _ i t ht;exact .inl ht
 | cons e l ih=>
   intro D hl a hn i t ht;rw [map_cons,nodup_cons] at hn;have h1:=(a e (iO ..)).1;have hE:Ak (e::l) i=match Ak l i with
    | some s=>some s
    | none=>if i=e.1 then some e.2 else none:=rfl
   rcases ih (AR D e.1 e.2) (by rw [d9,Cx];exact hl) (λx hx=>by rw [Cx];exact a x (iJ _ hx)) hn.2 i t ht with h9 | ⟨h9,s,h8⟩
   . rw [TI D hl e.1 e.2 h1] at h9;by_cases hi:i=e.1/\D.at e.1≠e.2
     . rw [if_pos hi] at h9;rcases jB.1 (jP h9) with h7 | h7
       . refine .inr ⟨by rw [h7,hi.1],?_⟩;rw [hE,if_pos hi.1];cases Ak l i with
         | some s=>exact ⟨s,rfl⟩
         | none=>exact ⟨_,rfl⟩
       . exact .inl (by rw [hi.1];exact h7)
     . rw [if_neg hi] at h9;exact .inl h9
   . have b:i≠e.1:=λh7=>by
      rw [B5 l i (λx hx hq=>hn.1 (by rw [<-h7,<-hq];exact List.mem_map_of_mem hx))] at h8;cases h8
     rw [F3 D e.1 e.2 h1,if_neg b] at h9;exact .inr ⟨h9,s,by rw [hE,h8]⟩
structure Hist (D:Dev) (I:Img):Prop where
 clean:Clean D I
 N1:1<=I.N
 olds:∀i,i≠33->∀s∈D.olds i,IL s<IL (D.at i)
 slot:∀j,j<97->IL (D.at (34+j))<=I.N
 head:∀s∈D.olds 33,s=blankR\/∃(l:Wl) (v:Nat),s=CP l (nv v)/\Entries D.st.length l (nv v)/\v<=I.N/\(v=I.N->(∀j (hj:j<l.length),D.at (34+j)=l[j].2)/\∀e∈l,D.at e.1=e.2)
theorem Zv {D:Dev} {I:Img} (h:Holds D I):IL (D.at 0)=I.N:=by rw [h.top];exact E9 _ _ _ h.img.N
theorem Y9 {D:Dev} {I:Img} (h:Holds D I) (k:Nat) (hk:k<32):IL (D.at (1+k))=I.ms k:=by rw [h.map k hk];exact E9 _ _ _ (by have:=h.img.ms k;have:=h.img.N;omega)
theorem bi {D:Dev} {I:Img} (h:Holds D I) (i:Nat) (hi:i<I.n):IL (D.at (131+i))=I.vs i:=by rw [h.dat i hi];exact E9 _ _ _ (by have:=h.img.vs i;have:=h.img.N;omega)
theorem dl {D:Dev} {I:Img} (h:Hist D I) (i:Nat) (hi:i≠33) (hl:i<D.st.length):IL (D.at i)<=I.N:=by
 have a:=h.clean.len;by_cases h0:i=0
 . subst h0;rw [Zv h.clean.toHolds];omega
 by_cases h1:i<=32
 . have:=Y9 h.clean.toHolds (i - 1) oo;rw [show 1+(i - 1)=i from oo] at this;rw [this];exact h.clean.img.ms _
 by_cases h2:i<131
 . have:=h.slot (i - 34) oo;rwa [show 34+(i - 34)=i from oo] at this
 . have:=bi h.clean.toHolds (i - 131) oo;rw [show 131+(i - 131)=i from oo] at this;rw [this];exact h.clean.img.vs _
theorem Fz:∀(l:Wl) (i:Nat) (s:ByteArray),Ak l i=some s->(i,s)∈l:=by
 intro l
 induction l with
 | nil=>intro i s h;cases h
 | cons x l ih=>
   intro i s h;have hE:Ak (x::l) i=match Ak l i with
    | some s=>some s
    | none=>if i=x.1 then some x.2 else none:=rfl
   rw [hE] at h;cases h2:Ak l i with
   | some t=>
     rw [h2] at h;injection h with h;exact iJ _ (ih i s (by rw [h2,h]))
   | none=>
     rw [h2] at h;simp only [] at h;split at h
     . rename_i hi;injection h with h;rw [hi,<-h];exact iO ..
     . cases h
theorem Xi {n:Nat} {l:Wl} {v:Nat} (h:Entries n l (nv v)) (hv:v<4294967296) (e:Nat × ByteArray) (he:e∈l):IL e.2=v:=by
 obtain ⟨d,hd⟩:=h.pack e he;rw [hd];exact E9 _ _ _ hv
theorem XE (V:ByteArray->Nat) {D D1 D2 D3 D4:Dev} {l:Wl} {N n:Nat} {hd bl:ByteArray} (hn:131<=n) (m:l.length<=97)
 (c:∀i,D1.at i=if h:34<=i/\i<34+l.length then (l[i - 34]'oo).2 else D.at i) (b:∀i,D2.at i=if i=33 then hd else D1.at i) (g:∀i,D3.at i=(Ak l i).getD (D2.at i)) (f:∀i,D4.at i=if i=33 then bl else D3.at i)
 (o1:∀i t,t∈D1.olds i->t∈D.olds i\/(t=D.at i/\34<=i/\i<34+l.length)) (o2:∀i t,t∈D2.olds i->t∈D1.olds i\/(t=D1.at i/\i=33)) (o3:∀i t,t∈D3.olds i->t∈D2.olds i\/(t=D2.at i/\∃s,Ak l i=some s)) (o4:∀i t,t∈D4.olds i->t∈D3.olds i\/(t=D3.at i/\i=33))
 (d:∀i s,Ak l i=some s->V s=N+1/\(i<=32\/(131<=i/\i<n))) (e:∀j (hj:j<l.length),V l[j].2=N+1) (a:∀i,i≠33->i<n->V (D.at i)<=N) (hO:∀i,i≠33->∀t∈D.olds i,V t<V (D.at i)):
 (∀i,i≠33->∀t∈D4.olds i,V t<V (D4.at i))/\(∀j,j<97->V (D4.at (34+j))<=N+1):=by
 constructor
 . intro i hi t ht;have h4:=(o4 i t ht).resolve_right (λh9=>hi h9.2);rw [f,if_neg hi,g];rcases o3 i t h4 with h3 | ⟨h3,s,hs⟩
   . have h2:=(o2 i t h3).resolve_right (λh9=>hi h9.2);rcases o1 i t h2 with h1 | ⟨h1,c1,c2⟩
     . have hb:=hO i hi t h1;cases hq:Ak l i with
       | some s=>
         obtain ⟨hx,k⟩:=d i s hq;show V t<V s;have:=a i hi oo;omega
       | none=>
         show V t<V (D2.at i);rw [b,if_neg hi,c];split
         . rename_i hc;have:=e (i - 34) oo;have:=a i hi oo;omega
         . exact hb
     . cases hq:Ak l i with
       | some s=>
         obtain ⟨hx,k⟩:=d i s hq;omega
       | none=>
         show V t<V (D2.at i);rw [b,if_neg hi,c,dif_pos ⟨c1,c2⟩];have:=e (i - 34) oo;have:=a i hi oo;rw [h1];omega
   . rw [hs];obtain ⟨hx,k⟩:=d i s hs;show V t<V s;have hb:=a i hi oo;rw [h3,b,if_neg hi,c,dif_neg oo];omega
 . intro j hj;rw [f,if_neg oo,g];cases hq:Ak l (34+j) with
   | some s=>
     obtain ⟨hx,_⟩:=d _ s hq;show V s<=N+1;omega
   | none=>
     show V (D2.at (34+j))<=_;rw [b,if_neg oo,c];split
     . rename_i hc;have:=e (34+j - 34) oo;omega
     . have:=a (34+j) oo oo;omega
theorem R3 {D:Dev} {I:Img} {l:Wl} (h:Hist D I) (he:Entries D.st.length l (nv (I.N+1))) (hN:I.N+1<4294967296) {J:Img} (hJ:Clean (ph4 D l (nv (I.N+1))) J) (b:J.N=I.N+1):Hist (ph4 D l (nv (I.N+1))) J:=by
 have a:=h.clean.ok;obtain ⟨k1,k2,k3,k4⟩:=Je (v:=nv (I.N+1)) a he;obtain ⟨l1,l2,l3,l4⟩:=I7 (v:=nv (I.N+1)) a he;have p:=he.low;have q:=he.lim;have m:∀e∈l,IL e.2=I.N+1:=λe hm=>Xi he hN e hm;obtain ⟨v,hv⟩:∃v,nv (I.N+1)=v:=⟨_,rfl⟩;have d:∀i,(ph1 D l).at i=if h:34<=i/\i<34+l.length then (l[i - 34]'oo).2 else D.at i:=λi=>RB he i;have f:∀i,(ph2 D l (nv (I.N+1))).at i=if i=33 then CP l (nv (I.N+1)) else (ph1 D l).at i:=λi=>RD a he i;have c:∀i,(ph3 D l (nv (I.N+1))).at i=(Ak l i).getD ((ph2 D l (nv (I.N+1))).at i):=λi=>NY a he i;have g:∀i,(ph4 D l (nv (I.N+1))).at i=if i=33 then blankR else (ph3 D l (nv (I.N+1))).at i:=λi=>OU a he i
 have one:∀(s:ByteArray) i,(∃t,Ak [(33,s)] i=some t)->i=33:=λs i ⟨t,ht⟩=>by
  have:=Fz _ _ _ ht;rw [gQ] at this;injection this with h1 _
 have o1:∀i t,t∈(ph1 D l).olds i->t∈D.olds i\/(t=D.at i/\34<=i/\i<34+l.length):=λi t ht=>by
  rcases FO _ D a.len (Fw he) (Hv l) i t ht with h9 | ⟨h9,s,hs⟩
  . exact .inl h9
  . obtain ⟨j,hj,x⟩:=II l _ (Fz _ _ _ hs);injection x with hj1 hj2;exact .inr ⟨h9,oo,oo⟩
 have o2:∀i t,t∈(ph2 D l (nv (I.N+1))).olds i->t∈(ph1 D l).olds i\/(t=(ph1 D l).at i/\i=33):=λi t ht=>
  (FO _ (ph1 D l) k1.ok.len (EX oo _ (An ..)) qs i t ht).imp id (λh9=>⟨h9.1,one _ i h9.2⟩)
 have o3:∀i t,t∈(ph3 D l (nv (I.N+1))).olds i->t∈(ph2 D l (nv (I.N+1))).olds i\/(t=(ph2 D l (nv (I.N+1))).at i/\∃s,Ak l i=some s):=λi t ht=>FO _ (ph2 D l (nv (I.N+1))) k2.ok.len (λe hm=>by rw [l2];exact he.lt e hm) he.nodup i t ht;have o4:∀i t,t∈(ph4 D l (nv (I.N+1))).olds i->t∈(ph3 D l (nv (I.N+1))).olds i\/(t=(ph3 D l (nv (I.N+1))).at i/\i=33):=λi t ht=>
  (FO _ (ph3 D l (nv (I.N+1))) k3.ok.len (EX oo _ Bn) qs i t ht).imp id (λh9=>⟨h9.1,one _ i h9.2⟩)
 have r:∀i s,Ak l i=some s->IL s=I.N+1:=λi s hs=>m (i,s) (Fz l i s hs);have o:=XE IL (N:=I.N) (n:=D.st.length) p q d f c g o1 o2 o3 o4 (λi s hs=>⟨r i s hs,he.place (i,s) (Fz l i s hs)⟩) (λj hj=>m _ (gS hj)) (λi h1 h2=>dl h i h1 h2) h.olds;have k:∀i,33<=i->i<131->Ak l i=none:=λi h1 h2=>B5 _ _ (λe hm hq=>by rcases he.place e hm with h9 | h9<;>omega);refine ⟨hJ,by rw [b];exact Nat.le_add_left _ _,o.1,λj hj=>by rw [b];exact o.2 j hj,λt ht=>?_⟩
 have u:∀j (hj:j<l.length),(ph4 D l (nv (I.N+1))).at (34+j)=l[j].2:=λj hj=>by
  rw [g,if_neg oo,c,k _ oo oo];show (ph2 D l (nv (I.N+1))).at (34+j)=_;rw [f,if_neg oo,d,dif_pos ⟨Nat.le_add_right _ _,Nat.add_lt_add_left hj _⟩];simp only [Nat.add_sub_cancel_left]
 have w:∀e∈l,(ph4 D l (nv (I.N+1))).at e.1=e.2:=λe hm=>by
  have hp:=he.place e hm;rw [g,if_neg oo,c,EN l he.nodup e hm];rfl
 rcases o4 33 t ht with h4 | ⟨h4,_⟩
 . rcases o3 33 t h4 with h3 | ⟨_,s,hs⟩
   . rcases o2 33 t h3 with h2 | ⟨h2,_⟩
     . rcases o1 33 t h2 with h1 | ⟨_,h9,_⟩
       . rcases h.head t h1 with h9 | ⟨l',v',h1,h2,h3,_⟩
         . exact .inl h9
         . exact .inr ⟨l',v',h1,by rw [l4];exact h2,by rw [b];exact Nat.le_succ_of_le h3,λh9=>by rw [b] at h9;rw [h9] at h3;exact absurd h3 (Nat.not_succ_le_self _)⟩
       . exact absurd h9 qd
     . left;rw [h2,d,dif_neg (λh9=>absurd h9.1 qd)];exact h.clean.head
   . rw [k 33 qd qd] at hs;cases hs
 . right;refine ⟨l,I.N+1,?_,by rw [l4];exact he,by rw [b];exact gM _,λ_=>⟨u,w⟩⟩;rw [h4,c,k 33 qd qd];show (ph2 D l (nv (I.N+1))).at 33=_;rw [f,if_pos rfl]

end
end Go.Proofs.YtfklieeipokllaaGreat
