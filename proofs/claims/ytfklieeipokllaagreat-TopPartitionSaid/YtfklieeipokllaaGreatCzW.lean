/- Parts of the proof (packed), 23. -/
import Derived.Test.YtfklieeipokllaaGreatCzV
namespace Go.Proofs.YtfklieeipokllaaGreat
set_option linter.all false
set_option maxRecDepth 100000
set_option maxHeartbeats 16000000
open List
section
attribute [local go_sem ↓] Go.wp_at_zero Go.wp_at_succ
open Go.RowKit
theorem Dy (k:Nat) (hk:k<256) (w:World):Calls Tryz.prog 28 #[.int .u8 (k:Int)] w λe w'=>e=.returned (.agg #[.int .i64 (Hq k),.int .i64 0])/\Grew w w':=by
 obtain ⟨r,hr⟩:∃r:Nat,k % 3=r:=⟨_,rfl⟩;have b:r<3:=oo;have a:(k:Int) % 3=(r:Int):=oo;have c:Int.tmod (k:Int) 3=(r:Int):=by rw [je oo];exact a
 have hs:Hq k=1+(r:Int):=by unfold Hq;rw [hr]
 have d:IntKind.u8.wrap (r:Int)=(r:Int):=IntWalk.u8_in _ oo;have f:IntKind.i64.wrap (r:Int)=(r:Int):=iY _ oo;have g:IntKind.i64.wrap (1+(r:Int))=1+(r:Int):=iY _ oo;rw [hs];clear hr hs;go_enter Tryz.func28,Tryz.ntmps28;go_wp2_with fail;refine gw (by first | (simp [*,results,Tryz.results28,go_sem];rfl) | simp [*,results,Tryz.results28,go_sem]) rfl ?_;exact ⟨rfl,gG⟩
def Ub:ByteArray:=⟨#[86,79,76]⟩
theorem UN:Cs Ub=true:=by decide+kernel
def Mb (k:Nat):Nat:=8+k % 9
theorem Vn (k:Nat):okT (Mb k:Int)=true:=by unfold okT Mb;exact iB oo
theorem Iu (k:Nat) (hk:k<256) (T:Tab) (hT:NG Ub (Mb k:Int)=(T,0)) (hg:GoodT T) (ht:T.tracks=(Mb k:Int)) (hz:∀i (h:i<(AW T).length),0<i->(AW T)[i]=BI 128) (w:World):
 Calls Tryz.prog 8 #[.int .u8 (k:Int)] w λe w'=>∃x E I,e=.returned (.tuple #[ptrV x,.bool true])/\VGood E I T (Mb k)/\I.N=2/\Live w x E (λ_=>False) w':=by
 obtain ⟨r,hr⟩:∃r:Nat,k % 9=r:=⟨_,rfl⟩;have l:r<9:=oo;have g:(k:Int) % 9=(r:Int):=oo;have m:Int.tmod (k:Int) 9=(r:Int):=by rw [je oo];exact g
 obtain ⟨n,hn⟩:∃n,Mb k=n:=⟨_,rfl⟩;have b:(n:Int)=8+(r:Int):=by rw [<-hn];unfold Mb;rw [hr];omega
 have o:IntKind.u8.wrap (r:Int)=(r:Int):=IntWalk.u8_in _ oo;have p:IntKind.i64.wrap (r:Int)=(r:Int):=iY _ oo;have q:IntKind.i64.wrap (8+(r:Int))=8+(r:Int):=iY _ oo;have a:=Vn k;rw [hn] at a hT ht ⊢;have c:=zh (R5 n a w);rw [b] at c;have d:=zh (λ(x:Nat) (w1:World) (hl:Live w x (ER (131+8*n)) (λ_=>False) w1)=>So hl a Ub UN T hT hg ht hz);unfold Ub at d;clear hr hn a hT hg ht hz;go_enter Tryz.func8,Tryz.ntmps8;go_wp2_with fail;refine c.mono ?_;rintro e w1 ⟨x,rfl,hl⟩;have HL:=zh hl;clear hl b;go_wp2_with fail;refine (Dy 0 oo _).mono ?_;rintro e w2 ⟨rfl,g2⟩;have j:=zh (HL.grew g2);clear g2;rw [show Hq 0=1 from rfl];go_wp2_with fail;refine (d x _ j).mono ?_;rintro e w3 ⟨rfl,E,I,hv,hN,f,_⟩;have HR:=zh (show VGood E I T n/\I.N=2/\Live w x E (λ_=>False) w3 from ⟨hv,hN,f⟩);clear hv hN f;go_wp2_with fail;go_ret2;exact ⟨x,E,I,rfl,HR⟩
theorem Iq {w0:World} {x n:Nat} {D:Dev} {out:Nat->Prop} {W:World} {I:Img} {T:Tab} (h:Live w0 x D out W) (hg:VGood D I T n) (k:Nat) (hk:k<256):
 Calls Tryz.prog 9 #[ptrV x,.int .u8 (k:Int)] W λe w'=>∃s m v out',e=.returned (.tuple #[ptrV v,.bool true])/\Mounted w0 x n (Hq k) 0 D out W s m v out' w':=by
 have hs:=IG k;obtain ⟨h1,h2,_⟩:=okN hg.okn
 have hf:Fg D (Hq k) 0=true:=by
  unfold Fg Cr;rw [iB (by rw [hg.len];omega),iB ⟨hs.1,hs.2,oo,oo⟩];rfl
 have hp:D.pend.length<=980000:=by rw [hg.neat.clean.pend];simp
 have HM:=zh (λ(w1:World) (g1:Grew W w1)=>Ol (h.grew g1) hg.okn hg.len hp hs (by omega:(0:Int)<=0/\(0:Int)<=1099511627776) D D T (MI hg.neat.clean _ _ hf) hg.len hp (hg.table (Hq k) 0));clear h hg hs h1 h2 hf hp;go_enter Tryz.func9,Tryz.ntmps9;go_wp2_with fail;refine (Dy k hk _).mono ?_;rintro e w1 ⟨rfl,g1⟩;have HG:=zh g1;clear g1;go_wp2_with fail;refine (HM _ HG).mono ?_;rintro e w2 ⟨s,m,v,o,rfl,hm⟩;have hz:=HG.size;have HR:=zh (show Mounted w0 x n (Hq k) 0 D out W s m v o w2 from ⟨hm.held,hm.sub,⟨gY hz hm.news.1,gY hz hm.news.2.1,gY hz hm.news.2.2⟩,(HG.turned _).trans hm.beside,hm.vol.mono λq hq=>⟨gY hz hq.1,hq.2⟩⟩);clear hm hz;go_wp2_with fail;go_ret2;exact ⟨s,m,v,o,rfl,HR⟩

theorem VHeld.beside {w0:World} {x s m v:Nat} {n sy ep:Int} {D D':Dev} {o o':Nat->Prop} {W W':World} (h:VHeld w0 x s m v n sy ep D o W) (hl:Live w0 x D' o' W') (hs:∀k,o k->o' k) (hb:Beside w0 o W W'):VHeld w0 x s m v n sy ep D' o' W':=
 ⟨⟨hl,h.held.store.kept hb (λh9=>h9.2 h.held.os) (λh9=>h9.2 h.held.om),hs _ h.held.os,hs _ h.held.om,h.held.m0⟩,hs _ h.ov,h.v0,h.vol.turned hb (λh9=>h9.2 h.ov) (λk hk h9=>hk.1.elim (λh8=>by have:=h9.1;omega) h9.2) (λk hk=>hk.mono hs)⟩
theorem VHeld.other {w0:World} {x s m v s2 m2 v2:Nat} {n sy ep sy2 ep2:Int} {D D':Dev} {o o':Nat->Prop} {W W':World} (h:VHeld w0 x s2 m2 v2 n sy2 ep2 D o W) (hd:VDid w0 x s m v n sy ep D' o W o' W') {lo:Nat} (hv:VolM W v2 s2 n (λk=>lo<=k/\Far w0 o m2 v2 k)) (a:m<lo/\v<lo/\lo<=s2/\lo<=m2/\lo<=v2):VHeld w0 x s2 m2 v2 n sy2 ep2 D' o' W':=by
 have b:∀k,o k->lo<=k->¬VSet w0 o m v k:=λk h1 h2 h9=>by
  rcases h9 with h9 | h9 | h9
  . exact h9.2 h1
  . omega
  . omega
 refine ⟨⟨hd.held.held.live,h.held.store.kept hd.turned (b _ h.held.os a.2.2.1) (b _ h.held.om a.2.2.2.1),hd.sub _ h.held.os,hd.sub _ h.held.om,h.held.m0⟩,hd.sub _ h.ov,h.v0,hv.turned hd.turned (b _ h.ov a.2.2.2.2) (λk hk h9=>?_) (λk hk=>hk.2.mono hd.sub)⟩;rcases h9 with h9 | h9 | h9
 . exact hk.2.1.elim (λh8=>oo) h9.2
 . have:=hk.1;omega
 . have:=hk.1;omega
theorem F8 (w:World):Calls Tryz.prog 5 #[] w λe w'=>e=.returned (.bool true)/\Grew w w':=by
 obtain ⟨T,hT,hg,ht,hz⟩:=Rv Ub 8 qd UN
 have D:T=exT:=by
  have:=fU;unfold Ub at hT;rw [show (((8:Nat):Int))=8 from rfl] at hT;rw [this] at hT;injection hT with h1 _;exact h1.symm
 subst D;have h:=zh (Iu 0 oo exT hT hg ht hz w);rw [show Mb 0=8 from rfl] at h;clear hT hg ht hz;go_enter Tryz.func5,Tryz.ntmps5;go_wp2_with fail;refine h.mono ?_;rintro e w1 ⟨x,E,I,rfl,hv,hN,hl⟩;have HV:=zh hv;have HN:=zh hN;have HL:=zh hl;clear hv hN hl h;go_wp2_with fail;refine (Iq HL HV 0 oo).mono ?_;rintro e w2 ⟨s,m,v,o1,rfl,y⟩;have c:=zh y;clear y;rw [show Hq 0=1 from rfl] at c;go_wp2_with fail;refine (Iq c.held.held.live HV 1 oo).mono ?_;rintro e w3 ⟨s2,m2,v2,o2,rfl,a⟩;rw [show Hq 1=2 from rfl] at a;have f:=zh a;have F:=zh (c.held.beside a.held.held.live a.sub a.beside);clear a;go_wp2_with fail;refine (Ra FY w3 qd).mono ?_;rintro e w4 ⟨rfl,rfl⟩;obtain ⟨D',I',A,B,C⟩:=Zc HV HN;have i:=zh B;have G:=zh C;have d:Grew w3 ((w3.alloc (.cells #[.int .i64 5,.int .i64 2] 32)).alloc (.cells #[.int .i64 3,.string (BD FY)] 65)):=((gK w3).alloc _).alloc _;have j:=gZ (w3.alloc (.cells #[.int .i64 5,.int .i64 2] 32)) 65 #[.int .i64 3,.string (BD FY)] (n:=w3.heap.size+1) qs;have l:=(gZ w3 32 #[.int .i64 5,.int .i64 2] rfl).alloc (.cells #[.int .i64 3,.string (BD FY)] 65);obtain ⟨w5,p⟩:∃w5,w5=(w3.alloc (.cells #[.int .i64 5,.int .i64 2] 32)).alloc (.cells #[.int .i64 3,.string (BD FY)] 65):=⟨_,rfl⟩;have H:w5.heap.size=w3.heap.size+2:=by rw [p];simp
 go_wp2_with fail;rw [<-p] at d j l ⊢;clear p;have J:=zh l;have q:=c.held.held.store.lt.2;have r:=c.held.vol.lt;have K:w2.heap.size<=w3.heap.size:=f.beside.size;have L:=zh (F.more d);have M:=zh (show 132<=E.st.length/\E.st.length<=1155 from by rw [HV.out.len];omega)
 have t:=zh (MN L M (by rw [HV.out.neat.clean.pend];simp) HV.okn (λE' h1 _=>by
  rw [HV.out.table 1 0] at h1
  subst h1
  exact P6 HV.neat (by rw [HN.out];omega) oo) 5 2 ⟨#[65]⟩ ⟨#[]⟩ qd qd 1 (by unfold okI;omega) exW qd (λe he=>by unfold exW at he;rw [gQ.1 he];unfold okI;simp) (some ⟨w3.heap.size+1,0,none⟩) 1 (Kx j rfl qd) (λ_ b off e=>by
   injection e with e
   injection e with e _ _
   subst e
   exact ⟨.inr (.inr ⟨Nat.le_succ _,oo⟩),oo,oo⟩) D' 0 A)
 rw [show exW.length=1 from rfl] at t;have N:=zh (f.held.more d);have O:=zh (f.vol.turned (d.turned (λ_=>False)) id (λ_ _=>id) (λk hk=>(show w2.heap.size<=k/\Far w (λk=>o2 k\/(w3.heap.size<=k/\k<w5.heap.size)) m2 v2 k from ⟨hk.1,hk.2.mono λ_=>.inl⟩)));have u:=zh (show m<w2.heap.size/\v<w2.heap.size/\w2.heap.size<=s2/\w2.heap.size<=m2/\w2.heap.size<=v2 from ⟨q,r,f.news⟩);clear A B C d j l q r;refine t.mono ?_;rintro e w6 ⟨rfl,o6,g⟩;have U:=zh g;have P:=zh (N.other g O u)
 have o:=zh (J.turned g.turned (λh9=>by
  have:=u.out
  rcases h9 with h9 | h9 | h9
  . exact h9.2 (.inr ⟨gM _,oo⟩)
  . omega
  . omega))
 have Q:=zh (show 132<=D'.st.length/\D'.st.length<=1155 from by rw [i.out.len];omega);have R:=zh (Ya P Q (by rw [i.out.neat.clean.pend];simp) i.okn 5 2 3 (by unfold okI;omega) D' (BD FY) 0 G);have r0:=o.cell 0;have r1:=o.cell 1;have rl:=o.out.lt;clear g H K;go_wp2_with fail;refine R.mono ?_;rintro e w7 ⟨rfl,o7,z⟩;have S:=zh z.held.held.live.base;clear z r0 r1 rl;have V:((BD FY).toList==(BD FY).toList)=true:=beq_self_eq_true _;go_wp2_with fail;go_ret;exact ⟨rfl,S⟩

theorem Na {D:Dev} {I:Img} (h:Rest D I) {sy:Int} (hs:1<=sy/\sy<=4):Io D sy 0=(D,0):=by
 have h1:=h.img.n0;have h2:=h.img.n1;have hl:=h.len
 have hf:Fg D sy 0=true:=by
  unfold Fg Cr;rw [iB oo,iB ⟨hs.1,hs.2,oo,oo⟩];rfl
 unfold Io;rw [h.fin,if_neg (by rw [hf];simp),if_neg qs,if_neg (by rw [h.topOK.1];simp)]
theorem VLost.opens {D:Dev} {n N:Nat} (h:VLost D n N) {sy:Int} (hs:1<=sy/\sy<=4):∃F I T,Io (BR D) sy 0=(F,0)/\VRest F I T n/\I.N<=N:=by
 obtain ⟨I,T,ha,hv,hN⟩:=h.back;have hc:Calm (BR D) sy 0:=⟨E7 h.ok,rfl,by unfold Cr;exact iB ⟨hs.1,hs.2,oo,oo⟩,by show ¬(0:Int)<D.fen sy;rw [h.fen];show ¬(0:Int)<0;omega⟩;obtain ⟨F,b,hf,hr,_,hn⟩:=ha sy 0 hc;refine ⟨F,I,T,?_,⟨hv,hr,hn.trans h.fen,h.n16⟩,hN⟩;have h1:=hr.img.n0;have h2:=hr.img.n1;have hl:D.st.length=131+I.n:=by rw [h.len,hv.size]
 have a:Fg (BR D) sy 0=true:=by
  unfold Fg Cr;rw [show (BR D).st.length=D.st.length from rfl,iB (show 132<=D.st.length/\D.st.length<=1155 by omega),iB ⟨hs.1,hs.2,oo,oo⟩];rfl
 unfold Io;rw [hf,if_neg (by rw [a];simp),if_neg qs,if_neg (by rw [hr.topOK.1];simp)]
theorem VRest.fuse {D:Dev} {I:Img} {T:Tab} {n:Nat} (h:VRest D I T n) (fu:Option (Nat × List Int)):VRest { D with failed:=false,fuse:=fu } I T n:=
 ⟨h.toVImg,⟨⟨⟨h.rest.ok.len,h.rest.ok.pos,h.rest.ok.lim,h.rest.ok.st,h.rest.ok.old,h.rest.ok.pend,h.rest.ok.fen⟩,h.rest.img,h.rest.len,rfl,h.rest.pend,h.rest.top,h.rest.map,h.rest.dat⟩,h.rest.pos,h.rest.lim,h.rest.dead⟩,h.fen,h.n16⟩
theorem VOut.pend {D:Dev} {n N:Nat} (h:VOut D n N):D.pend=[]:=by
 rcases h with ⟨I,T,h,_⟩ | h
 . exact h.rest.pend
 . exact h.pend
theorem VOut.fail {D:Dev} {n N:Nat} (h:VOut D n N) (k:Int) (l:List Int):VOut (MF D k l) n N:=by
 unfold MF;rcases h with ⟨I,T,h,hN⟩ | h
 . rw [h.rest.live,if_neg qs];have h2:=h.fuse (some ((max 0 k).toNat,l));exact .inl ⟨I,T,h2,hN⟩
 . rw [if_pos h.failed];exact .inr h
theorem VOut.crash {D:Dev} {n N:Nat} (h:VOut D n N) (k:Int) (l:List Int):VOut (L2 D k l) n N:=by
 have e:L2 D k l=D:=by
  have hp:=h.pend;unfold L2 BQ BZ;rw [hp];cases D;simp only at hp;subst hp;rfl
 rw [e];exact h
structure Ready (D:Dev) (n N:Nat):Prop where
 live:D.failed=false
 len:D.st.length=131+8*n
 pend:D.pend=[]
 opens:∀sy:Int,1<=sy/\sy<=4->∃F I T,Io D sy 0=(F,0)/\VRest F I T n/\I.N<=N
theorem VRest.ready {D:Dev} {I:Img} {T:Tab} {n N:Nat} (h:VRest D I T n) (hN:I.N<=N):Ready D n N:=⟨h.rest.live,h.len,h.rest.pend,λ_ hs=>⟨D,I,T,Na h.rest hs,h,hN⟩⟩
theorem VOut.ready {D:Dev} {n N:Nat} (h:VOut D n N):Ready (BR D) n N:=by
 rcases h with ⟨I,T,h,hN⟩ | h
 . exact (h.fuse none).ready hN
 . exact ⟨rfl,h.len,h.pend,λ_ hs=>h.opens hs⟩
section
variable {w0:World} {x:Nat} {D:Dev} {out:Nat->Prop} {W:World} {sy ep:Int}
theorem Wu (h:Live w0 x D out W) (c:132<=D.st.length/\D.st.length<=1155) (hs:1<=sy/\sy<=4) (he:0<=ep/\ep<=1099511627776) (hp:D.pend.length<=980000) (hf:D.failed=true):
 Calls Tryz.prog 72 #[ptrV x,.agg #[.int .i64 sy,.int .i64 ep]] W λe w'=>e=.returned (.tuple #[.pointer none,.int .i64 10])/\Live w0 x D out w'/\Beside w0 out W w':=by
 have p:=zh (λ(w1:World) (hg:Grew W w1)=>M1 (h.grew hg) sy ep c hs he);have q:=zh (λ(w1:World) (hg:Grew W w1)=>IA (h.grew hg) sy ep);have hE:Bs D sy ep=(D,false,10):=by unfold Bs;rw [if_pos hf]
 have r:=zh (λ(s m:Nat) (out2:Nat->Prop) (w1:World) (h2:Held w0 x s m sy ep D out2 w1)=>Eo h2 c.1 hp D false 10 hE);have HL:=zh h;have w:=h.base.size;have d:Grew W (W.alloc (.cells #[.int .i64 sy,.int .i64 ep] 37)):=(gK W).alloc _;clear h c hs he hp hE hf;go_enter Tryz.func72,Tryz.ntmps72;go_wp2_with fail;refine (p _ d).mono ?_;rintro e w1 ⟨rfl,g1⟩;have i:Grew W w1:=d.trans g1;have a:=(gZ W 37 #[.int .i64 sy,.int .i64 ep] rfl).grew g1;have c0:=a.cell 0;have c1:=a.cell 1;have cl:=a.lt;have b:=zh i;clear i a g1 d;go_wp2_with fail;refine (q _ b).mono ?_;rintro e w2 ⟨s,m,rfl,g,g2,n,o⟩;have f:Grew W w2:=b.out.trans g2;have y:W.heap.size<=s:=gY b.size n;have z:W.heap.size<=m:=gY b.size o;have t:=g.lt
 have j:Live w0 x D (λk=>out k\/k=s\/k=m) w2:=(HL.more f).few (λk hk=>by
  rcases hk with hk | hk | hk
  . exact .inl hk
  . exact .inr ⟨oo,oo⟩
  . exact .inr ⟨oo,oo⟩)
 have l:Held w0 x s m sy ep D (λk=>out k\/k=s\/k=m) w2:=⟨j,g,.inr (.inl rfl),.inr (.inr rfl),oo⟩;have u:=zh l;have v:=zh f;clear g g2 n o t j l f c0 c1 cl;go_wp2_with fail;refine (r s m _ w2 u).mono ?_;rintro e w3 ⟨rfl,hd⟩;have HD:=zh hd;clear hd;go_wp2_with fail;go_ret2
 exact ⟨rfl,HD.live.few (λk hk=>.inl hk),(v.turned _).next HD.turned (λk hk hS=>by
  rcases hS with hS | hS
  . exact ⟨hS.1,λh9=>hS.2 (.inl h9)⟩
  . exact absurd hk oo)⟩
theorem Uh {n:Nat} (h:Live w0 x D out W) (hn:okT (n:Int)=true) (c:D.st.length=131+8*n) (hp:D.pend.length<=980000) (hs:1<=sy/\sy<=4) (he:0<=ep/\ep<=1099511627776) (hf:D.failed=true):
 Calls Tryz.prog 29 #[ptrV x,.agg #[.int .i64 sy,.int .i64 ep]] W λe w'=>e=.returned (.tuple #[.pointer none,.int .i64 10])/\Live w0 x D out w'/\Beside w0 out W w':=by
 obtain ⟨h1,h2,h3⟩:=okN hn;have a:Grew W (W.alloc (.cells #[.int .i64 sy,.int .i64 ep] 37)):=(gK W).alloc _;have b:=gZ W 37 #[.int .i64 sy,.int .i64 ep] rfl;have g:=zh (IM (h.grew a) n hn c);have i:=zh (Wu (h.grew a) oo hs he hp hf);have k:((n:Int)==0)=false:=by rw [iD];omega
 have j:=zh a;have r0:=b.cell 0;have r1:=b.cell 1;have rl:=b.lt;clear h hn c hp hs he a b h1 h2 h3 hf;go_enter Tryz.func29,Tryz.ntmps29;go_wp2_with fail;refine g.mono ?_;rintro e w1 ⟨rfl,rfl⟩;go_wp2_with fail;refine i.mono ?_;rintro e w2 ⟨rfl,d,f⟩;have HR:=zh (And.intro d ((j.turned _).trans f));clear d f r0 r1 rl;go_wp2_with fail;go_ret2;exact ⟨rfl,HR⟩
end
theorem Md {w0:World} {x n N:Nat} {D:Dev} {out:Nat->Prop} {W:World} (h:Live w0 x D out W) (hD:VLost D n N) (k:Nat) (hk:k<256):
 Calls Tryz.prog 9 #[ptrV x,.int .u8 (k:Int)] W λe w'=>e=.returned (.tuple #[.pointer none,.bool false])/\Live w0 x D out w'/\Beside w0 out W w':=by
 have hs:=IG k;obtain ⟨_,T,_,hv,_⟩:=hD.back;have HM:=zh (λ(w1:World) (g1:Grew W w1)=>Uh (h.grew g1) hv.okn hD.len (by rw [hD.pend];simp) hs (by omega:(0:Int)<=0/\(0:Int)<=1099511627776) hD.failed);clear h hD hv hs;go_enter Tryz.func9,Tryz.ntmps9;go_wp2_with fail;refine (Dy k hk _).mono ?_;rintro e w1 ⟨rfl,g1⟩;have HG:=zh g1;clear g1;go_wp2_with fail;refine (HM _ HG).mono ?_;rintro e w2 ⟨rfl,hl,hb⟩;have HR:=zh (And.intro hl ((HG.turned _).trans hb));clear hl hb;go_wp2_with fail;go_ret2;exact ⟨rfl,HR⟩
theorem Fc {w0:World} {x n:Nat} {D E:Dev} {out:Nat->Prop} {W:World} {I:Img} {T:Tab} (h:Live w0 x D out W) (a:D.st.length=131+8*n) (hp:D.pend=[]) (k:Nat) (hk:k<256) (ho:Io D (Hq k) 0=(E,0)) (hE:VRest E I T n):
 Calls Tryz.prog 9 #[ptrV x,.int .u8 (k:Int)] W λe w'=>∃s m v out',e=.returned (.tuple #[ptrV v,.bool true])/\Mounted w0 x n (Hq k) 0 E out W s m v out' w':=by
 have HM:=zh (λ(w1:World) (g1:Grew W w1)=>Ol (h.grew g1) hE.okn a (by rw [hp];simp) (IG k) (by omega:(0:Int)<=0/\(0:Int)<=1099511627776) E E T ho hE.len (by rw [hE.rest.pend];simp) (hE.table (Hq k) 0));clear h a hp ho hE;go_enter Tryz.func9,Tryz.ntmps9;go_wp2_with fail;refine (Dy k hk _).mono ?_;rintro e w1 ⟨rfl,g1⟩;have HG:=zh g1;clear g1;go_wp2_with fail;refine (HM _ HG).mono ?_;rintro e w2 ⟨s,m,v,o,rfl,hm⟩;have hz:=HG.size;have HR:=zh (show Mounted w0 x n (Hq k) 0 E out W s m v o w2 from ⟨hm.held,hm.sub,⟨gY hz hm.news.1,gY hz hm.news.2.1,gY hz hm.news.2.2⟩,(HG.turned _).trans hm.beside,hm.vol.mono λq hq=>⟨gY hz hq.1,hq.2⟩⟩);clear hm hz;go_wp2_with fail;go_ret2;exact ⟨s,m,v,o,rfl,HR⟩

theorem dT {T:Tab} (hg:GoodT T) (ht:∀r∈BA T.labels,FX r):∀r∈LS T,FX r:=by
 have a:=Ce T.tracks;intro r hr;unfold LS at hr;rcases jB.1 hr with rfl | hr
 . exact ⟨qs,qs,by simp only;omega,by simp only;omega⟩
 rcases iA.1 hr with hr | hr
 . unfold Bp at hr;rw [if_pos ((AX T).2 hg)] at hr;unfold J0 AP at hr;obtain ⟨q,hq,rfl⟩:=gV.1 hr;have:=C0 _ q hq;exact ⟨by simp only;omega,by simp only;omega,by simp only;omega,by simp only;omega⟩
 . exact ht r hr
theorem Iv {w0:World} {x s m v n:Nat} {sy ep:Int} {D:Dev} {out:Nat->Prop} {W:World} (h:VHeld w0 x s m v n sy ep D out W) {I:Img} {T:Tab} (hR:VRest D I T n):
 Calls Tryz.prog 21 #[ptrV v] W λe w'=>e=.returned (.bool true)/\∃out',Live w0 x D out' w':=by
 have hL:=hR.lenOK;have av:=zh (λ(o:Nat->Prop) (w1:World) (h1:VHeld w0 x s m v n sy ep D o w1)=>Dz h1 hL.1 (by have:=hL.2;omega) hR.okn D T 0 (hR.table sy ep));have a0:=zh (Xc h hR);have hg:=hR.good;have HG:=zh hg;have c7:=BT hg.tr;have b9:=Ce T.tracks;obtain ⟨tt,F⟩:∃tt,ttS T.tracks=tt:=⟨_,rfl⟩;rw [F] at b9;have a1:=zh (λ(w1:World)=>UX T.tracks w1);rw [F] at a1;have c8:tt<=T.tracks:=by rw [<-F];unfold ttS;rw [if_pos hg.tr];omega
 have ca:=zh (ZE hg hR.tr);have cb:=zh (cD hg);have ce:=zh ((AX T).2 hg);have N:=zh hR.tr;have O:=zh (Bg hg);have c9:=h.held.store.lt.2;have dd:=h.vol.lt;have df:=Jk T;have dk:=hg.small.1;have a2:=zh F;clear h hR hL hg F;go_enter Tryz.func21,Tryz.ntmps21;go_wp2_with fail;refine a0.mono ?_;rintro e w1 ⟨a,b,TA,tk,tc,o1,rfl,cu,ha,hb,X⟩;rw [a2.out] at cu;have u:=(gK w1).alloc (.cells #[.int .i64 a,.int .i64 b,.slice TA tk tc,.slice none 0 0,.slice none 0 0] 130);have P:=gZ w1 130 #[.int .i64 a,.int .i64 b,.slice TA tk tc,.slice none 0 0,.slice none 0 0] rfl;obtain ⟨w2,M⟩:∃w2,w2=w1.alloc (.cells #[.int .i64 a,.int .i64 b,.slice TA tk tc,.slice none 0 0,.slice none 0 0] 130):=⟨_,rfl⟩;rw [<-M] at u P;have ds:w2.heap.size=w1.heap.size+1:=by rw [M];simp
 have d0:=X.turned.size;have a3:=zh ((X.more u).held);have a4:=zh P;clear X u P a0;go_wp2_with fail;rw [<-M];clear M;refine (av _ _ a3).mono ?_;rintro e w3 ⟨o3,A,c,ys,rfl,Y,bv,_,_⟩
 have a5:=a4.turned Y.turned (λh9=>by
  rcases h9 with h9 | h9 | h9
  . exact h9.2 (.inr ⟨gM _,oo⟩)
  . omega
  . omega)
 have Q:=(gK w3).alloc (.cells #[.string T.name,.int .i64 T.tracks,.slice A T.labels.length c] 50);have f:=gZ w3 50 #[.string T.name,.int .i64 T.tracks,.slice A T.labels.length c] rfl;have r:=a5.alloc (.cells #[.string T.name,.int .i64 T.tracks,.slice A T.labels.length c] 50);have x0:=r.cell 0;have x1:=r.cell 1;have x2:=r.cell 2;have x3:=r.cell 3;have x4:=r.cell 4;have xl:=r.lt;have y0:=f.cell 0;have y1:=f.cell 1;have y2:=f.cell 2;have yl:=f.lt;obtain ⟨w4,y⟩:∃w4,w4=w3.alloc (.cells #[.string T.name,.int .i64 T.tracks,.slice A T.labels.length c] 50):=⟨_,rfl⟩;obtain ⟨gx,ae⟩:∃gx,gx=w1.heap.size:=⟨_,rfl⟩;obtain ⟨gt,al⟩:∃gt,gt=w3.heap.size:=⟨_,rfl⟩;have cf:=zh (show Live w0 x D _ w4 from y▸(Y.more Q).held.held.live);have G:=zh (show Blk w4 gx _ _ from y▸ae▸r);have g:=zh (show Blk w4 gt _ _ from y▸al▸f);have z:=zh (show TabAt w4 A c ys T from y▸bv.hold Q);clear Y bv a5 Q f r a3 av a4;go_wp2_with fail;rw [<-y,<-ae,<-al];clear x0 x1 x2 x3 x4 xl y0 y1 y2 yl;refine (X8 w4 a b (.slice TA tk tc)).mono ?_;rintro e w5 ⟨rfl,g5⟩;have a6:=zh g5;have y0:=g.cell 0;have y1:=g.cell 1;have y2:=g.cell 2;have yl:=g.out.lt;have z0:=AI g5 y0;have z1:=AI g5 y1;have z2:=AI g5 y2;have zl:=gW yl g5.size;clear y0 y1 y2 yl g5 y ae al;go_wp2_with fail;refine (EH A c ys T _ (z.hold a6) O _ rfl).mono ?_;rintro e w6 ⟨rfl,g6⟩;rw [ce.out];have a7:=zh (a6.out.trans g6);have y0:=AI g6 z0;have y1:=AI g6 z1;have y2:=AI g6 z2;have yl:=gW zl g6.size;clear z0 z1 z2 zl g6;go_wp2_with fail;refine (a1 _).mono ?_;rintro e w7 ⟨rfl,rfl⟩;go_wp2_with fail;have t:=(gK w6).alloc (.cells #[.int .i64 0,.int .i64 tt] 136);have a8:=zh (show OwnL (w6.alloc (.cells #[.int .i64 0,.int .i64 tt] 136)) w6.heap.size 136 2 (.slice (some ⟨w6.heap.size,0,none⟩) 1 1) [EC (0,tt)] from OwnL.lit w6 w6.heap.size 136 2 (EC (0,tt)) rfl (gM _) rfl);have a9:=zh (a7.out.trans t);have ch:=zh (show w6.heap.size<=(w6.alloc (.cells #[.int .i64 0,.int .i64 tt] 136)).heap.size from t.size);clear t y0 y1 y2 yl;refine (Ir A c ys T _ (z.hold a9) O _ rfl (Bp T) rfl).mono ?_;rintro e w8 ⟨FA,fc,rfl,bx,g8⟩;have R:=zh (a9.out.trans g8);have j:=a8.grew g8;have bb:w6.heap.size<=w8.heap.size:=gY ch g8.size;have bc:w4.heap.size<=w6.heap.size:=a7.size;have bd:=bx.2;have y2:=(g.grew R).cell 2;have yl:=(g.grew R).lt;clear g8 bx a8;go_wp2_with (at_builtin;refine Be (by rfl) _ _ 33 rfl w6.heap.size 136 2 16 _ Tryz.underlying33 Cz rfl qd _ [EC (0,tt)] ((Bp T).map EC) (by rfl) j FA (Bp T).length _ (by rfl) (by rw [gO]) (Gd _) bd (GZ _) (by simp;omega) (by simp;omega) bb ?_;intro v1 w9 b0 Z cv;have bf:=zh b0;have H:=R.own Z (λk hk=>j.row_ge k hk) bc;have ci:=zh H;have q2:=(g.grew H).cell 2;have ql:=(g.grew H).lt;have cj:w6.heap.size<=w9.heap.size:=gY bb Z.size;clear H b0 Z cv);clear y2 yl j bd q2 ql
 go_loopg [8,50] T.labels.length (λgk ov i wr=>∃k:Nat,k<=T.labels.length/\gk=T.labels.length - k/\i=.int .i64 k/\OwnL wr w6.heap.size 136 2 ov (([(0,tt)]++(Bp T++BA (T.labels.take k))).map EC)/\Grew w4 wr/\(BA (T.labels.take k)).length<=16*k/\w6.heap.size<=wr.heap.size)
 case atStart=>exact ⟨0,oo,oo,rfl,by rw [take_zero,show BA []=[] from rfl,append_nil,gm];exact bf.out,ci,by simp [BA],cj⟩
 case round=>
  obtain ⟨k,hk,b5,rfl,j,hg,cy,cz⟩:=hrel;have cl:=zh b5;have d1:=zh hg;have d2:=hg.size;clear b5 bf;by_cases V:k<T.labels.length
  . obtain ⟨lb,d7,B,d,l,rfl,ea,c5,hv,b6,c0,c1,c2,c3,c4⟩:=(z.hold hg).at_ V;have cm:=(HG.small.2 T.labels[k] (gS V)).1;rw [hv] at cm;have S:=Hy T.labels k V;rw [hv] at S;have bk:=zh S;have d3:(k:Int)<(T.labels.length:Int):=oo;have t:Grew wr (wr.alloc (.cells #[.int .i64 l.id,.int .i64 l.unit,.string l.name,.string l.note,.slice B l.ext.length d] 100)):=(gK wr).alloc _;have bl:=(b6.hold t).runs.2;have bn:=j.alloc (.cells #[.int .i64 l.id,.int .i64 l.unit,.string l.name,.string l.note,.slice B l.ext.length d] 100);have co:=j.row_ge;have u:=hg.alloc (.cells #[.int .i64 l.id,.int .i64 l.unit,.string l.name,.string l.note,.slice B l.ext.length d] 100);have br:w6.heap.size<=(wr.alloc (.cells #[.int .i64 l.id,.int .i64 l.unit,.string l.name,.string l.note,.slice B l.ext.length d] 100)).heap.size:=gY cz t.size;clear hv c5 b6 S t j hg;go_wp2_with (at_builtin;refine Be (by rfl) _ _ 33 rfl w6.heap.size 136 2 16 _ Tryz.underlying33 Cz rfl qd _ _ (l.ext.map EC) (by rfl) bn B l.ext.length _ (by rfl) (by rw [gO]) (Gd _) bl (GZ _) (by rw [gO,iI,iI,jN];omega) (by rw [gO,iI,iI,jN];omega) br ?_;intro v1 d6 b1 ad cw);have cp:=zh b1;have cq:=zh (u.own ad co bc);have cr:=zh (gY br ad.size);clear b1 ad cw u bn bl
    go_roundg (T.labels.length - (k+1))
    case measure=>rw [cl.out];omega
    case rel=>exact ⟨k+1,oo,oo,by go_num,by rw [bk.out,<-iZ,<-iZ,gm,iZ];exact cp.out,cq,by rw [bk.out,iI];omega,cr⟩
  . obtain rfl:k=T.labels.length:=oo;rw [jU] at j cy;have e1:[(0,tt)]++(Bp T++BA T.labels)=LS T:=by unfold LS;rw [a2.out];rfl
    rw [e1] at j;obtain ⟨RA,rc,rfl,eb,ec,an⟩:=FD j (dT HG z.okruns);have d4:(LS T).length<=1000:=by rw [<-e1,iI,iI,jN];omega
    have bs:=zh an;have bt:=zh (U2 RA rc _ (LS T) wr rfl oo an _ ca);clear j an e1;go_wp2_with fail;refine bt.mono ?_;rintro e K ⟨NA,nc,rfl,b2,b3⟩;have w:=zh (hg.trans b3);have cs:=zh (bs.hold b3);obtain ⟨nb,p,nf,nq,rfl,ee,c6,_,n0,n1⟩:=b2.at_ (k:=0) qs;injection c6 with hnf hnq;subst hnf;rw [<-hnq,<-N.out] at n1;rw [show p+0*2=p from oo] at n0 n1;rw [show [((0:Int),(n:Int))].length=1 from rfl];clear b2 hnq bs bt;go_wp2_with fail;refine AB [] (λw':World=>w'.cell? ⟨gx,0,none⟩=some (.int .i64 a)/\w'.cell? ⟨gx,1,none⟩=some (.int .i64 b)/\w'.cell? ⟨gt,0,none⟩=some (.string T.name)/\w'.cell? ⟨gt,1,none⟩=some (.int .i64 T.tracks)/\w'.cell? ⟨gt,2,none⟩=some (.slice A T.labels.length c)/\w'.cell? ⟨nb,p,none⟩=some (.int .i64 0)/\w'.cell? ⟨nb,p+1,none⟩=some (.int .i64 T.tracks)) qk ?_;have hS:(λw':World=>w'.cell? ⟨gx,0,none⟩=some (.int .i64 a)/\w'.cell? ⟨gx,1,none⟩=some (.int .i64 b)/\w'.cell? ⟨gt,0,none⟩=some (.string T.name)/\w'.cell? ⟨gt,1,none⟩=some (.int .i64 T.tracks)/\w'.cell? ⟨gt,2,none⟩=some (.slice A T.labels.length c)/\w'.cell? ⟨nb,p,none⟩=some (.int .i64 0)/\w'.cell? ⟨nb,p+1,none⟩=some (.int .i64 T.tracks)) K.drew:=⟨(G.grew w).drew.cell 0,(G.grew w).drew.cell 1,(g.grew w).drew.cell 0,(g.grew w).drew.cell 1,(g.grew w).drew.cell 2,n0,n1⟩;refine tQ 0 61 ?_;refine tO 1 λK' hK=>?_;go_wp2_with fail;have C:Grew K K.drew:=(gK K).drew;refine (IB (A:=RA) (c:=rc) (n:=(LS T).length) (l:=LS T) rfl oo (cs.hold C) true (iB cb)).mono ?_;rintro e b4 ⟨rfl,L⟩;go_wp2_with fail;have J:=zh ((w.out.trans C).trans L);have q:=G.grew J;have f:=g.grew J;have m0:=AI (C.trans L) n0;have m1:=AI (C.trans L) n1;refine hK.out _ _ (.inr (λ_=>⟨q.cell 0,q.cell 1,f.cell 0,f.cell 1,f.cell 2,m0,m1⟩)) ?_;have hS:(λw':World=>w'.cell? ⟨gx,0,none⟩=some (.int .i64 a)/\w'.cell? ⟨gx,1,none⟩=some (.int .i64 b)/\w'.cell? ⟨gt,0,none⟩=some (.string T.name)/\w'.cell? ⟨gt,1,none⟩=some (.int .i64 T.tracks)/\w'.cell? ⟨gt,2,none⟩=some (.slice A T.labels.length c)/\w'.cell? ⟨nb,p,none⟩=some (.int .i64 0)/\w'.cell? ⟨nb,p+1,none⟩=some (.int .i64 T.tracks)) b4:=⟨q.cell 0,q.cell 1,f.cell 0,f.cell 1,f.cell 2,m0,m1⟩;clear hK L C n0 n1;refine tQ 2 63 ?_;refine tQ 3 64 ?_;refine tT 4 (some 65) hS ?_;refine tQ 5 66 ?_;refine tQ 6 67 ?_;refine tQ 7 68 ?_;refine tQ 8 69 ?_;refine tQ 9 70 ?_;refine tT 10 (some 71) hS ?_;refine tQ 11 72 ?_;refine tT 12 (some 73) hS ?_;refine tQ 13 74 ?_;refine tQ 14 75 ?_;refine tQ 15 76 ?_;refine tQ 16 77 ?_;refine tQ 17 78 ?_;refine tT 18 (some 79) hS ?_;refine tQ 19 80 ?_;refine tT 20 (some 81) hS ?_;refine tQ 21 82 ?_;refine tQ 22 83 ?_;refine tT 23 (some 84) hS ?_;refine tQ 24 85 ?_;refine tQ 25 86 ?_;refine tQ 26 87 ?_;refine tQ 27 88 ?_;refine tQ 28 89 ?_;refine tT 29 (some 90) hS ?_;refine tQ 32 93 ?_;refine tT 33 (some 94) hS ?_;refine tO 30 λK' hK=>?_;go_wp2_with fail;refine (eJ A c ys T b4 (z.hold J) O HG.tr n N).mono ?_;rintro e cx ⟨MA,mc,rfl,E⟩;go_wp2_with fail;have U:=zh (J.out.trans E);have q:=G.grew U;have f:=g.grew U;refine hK.out _ _ (.inr (λ_=>⟨q.cell 0,q.cell 1,f.cell 0,f.cell 1,f.cell 2,AI E m0,AI E m1⟩)) ?_;have hS:(λw':World=>w'.cell? ⟨gx,0,none⟩=some (.int .i64 a)/\w'.cell? ⟨gx,1,none⟩=some (.int .i64 b)/\w'.cell? ⟨gt,0,none⟩=some (.string T.name)/\w'.cell? ⟨gt,1,none⟩=some (.int .i64 T.tracks)/\w'.cell? ⟨gt,2,none⟩=some (.slice A T.labels.length c)/\w'.cell? ⟨nb,p,none⟩=some (.int .i64 0)/\w'.cell? ⟨nb,p+1,none⟩=some (.int .i64 T.tracks)) cx:=⟨q.cell 0,q.cell 1,f.cell 0,f.cell 1,f.cell 2,AI E m0,AI E m1⟩;clear hK;have d5:(n:Int)=T.tracks:=N.out.symm;refine tT 31 (some 92) hS ?_;refine tQ 34 95 ?_;refine tQ 35 96 ?_;refine tQ 36 2 ?_;refine AA qk ?_ _;go_wp2_with fail;go_ret;exact ⟨rfl,_,cf.grew U⟩

theorem OpTOk.hold {w w':World} {o:OpT} (h:OpTOk w o) (hg:Grew w w'):OpTOk w' o:=⟨h.kind,h.on.hold hg,Ad h.at_ hg,h.len,h.ok,h.size⟩
theorem EW {P:Program} {ops:Array Oper} {rest:List Oper} {o:Oper} {a:Act} {w:World} {Q:Exit->Act->World->Prop} (e:o.guard=none) (ty:TypeId) (x:Operand) (ho:o.op=.load ty x) (b c:Nat) (hx:a.eval x=.pointer (some ⟨b,c,none⟩)) (cs:List Value) (hc:∀i v,cs[i]? =some v->w.cell? ⟨b,c+i,none⟩=some v)
 (d:TypeDesc) (hu:P.underlying ty=some d) (hd:(match d with | .struct _ | .array _ _=>true | _=>false)=true) (hi:(P.info? ty).map (·.size)=some cs.length) (h:wpList P ops Q rest (a.put o.dst (.agg cs.toArray)) w):wpList P ops Q (o::rest) a w:=
 wpList_plain e λ_ hK=>by
  have hl:(loadCells ⟨b,c,none⟩ cs.length).run P w=.ok cs.toArray w:=run_loadCells_list (P:=P) w ⟨b,c,none⟩ cs (λj v hv=>by
   have hadd:(⟨b,c,none⟩:Addr).add j=⟨b,c+j,none⟩:=by unfold Addr.add;split<;>simp_all
   rw [hadd]
   exact hc j v hv)
  have hr:(loadVar ty ⟨b,c,none⟩).run P w=.ok (.agg cs.toArray) w:=by
   cases hq:P.info? ty with
   | none=>simp [hq] at hi
   | some i=>
     have hs:i.size=cs.length:=by simpa [hq] using hi
     have f:(isAgg ty).run P w=.ok true w:=by
      unfold isAgg;rw [Sem.run_bind,ja hu w];cases d<;>simp_all
     simp [loadVar,Sem.run_bind,f,sizeOf,typeInfo,hq,hs,hl]
  unfold Oper.wp execOp;simp only [ho,hx,Instr.loadAt,Instr.sureAddr,Sem.run_bind,Sem.run_pure,Result.andThen_ok,hr];exact hK _ _ h
theorem cS {l:List OpT} {most:Nat} (h:Ow l most=true):∀o∈l,o.raw.sv.length<=100:=λo ho=>by
 unfold Ow at h;rw [iU] at h;have h1:=ic.1 h.1 o ho;rw [iU,iU] at h1;have h2:=h1.2.2;unfold QZ at h2;rw [iU] at h2;have h3:=ic.1 h2.1 o.raw (List.mem_singleton_self _);rw [iU] at h3;exact iQ h3.2
theorem Lm (k:Nat) (hk:k<256) (A:Option Addr) (c:Nat) (l:List OpT) (w:World) (hv:∀o∈l,OpTIn w o) (av:ListAt w w.heap.size 20 A (l.map GR)) (hl:l.length<=9223372036854775807):
 Calls Tryz.prog 4 #[.int .u8 (k:Int),.slice A l.length c] w λe w'=>e=.returned (.bool true)/\Grew w w':=by
 have HV:=zh hv;have cw:=zh av;have L:=zh (λ(w1:World) (g:Grew w w1)=>ag A c l 16 w1 (λo ho=>(hv o ho).hold g) (Ad av g) hl oo);clear hv av;cases hf:Ow l 16 with
 | false=>
   rw [hf] at L;clear hf;go_enter Tryz.func4,Tryz.ntmps4;go_wp2_with fail;refine (F8 w).mono ?_;rintro e w1 ⟨rfl,g1⟩;have M:=zh g1;clear g1;go_wp2_with fail;refine (L w1 M).mono ?_;rintro e w2 ⟨rfl,g2⟩;have cx:=zh (M.out.trans g2);clear g2;go_wp2_with fail;refine (F8 w2).mono ?_;rintro e w3 ⟨rfl,g3⟩;go_wp2_with fail;go_ret;exact ⟨rfl,cx.out.trans g3⟩
 | true=>
   obtain ⟨T0,hT,hg,ht,hz⟩:=Rv Ub (Mb k) (Vn k) UN;have a0:=zh (λw1=>Iu k hk T0 hT hg ht hz w1);have bl:Mb k<=16:=by unfold Mb;omega
   obtain ⟨n,hn⟩:∃n,Mb k=n:=⟨_,rfl⟩;rw [hn] at a0 bl;have bn:=zh (cc hf HV);have cy:=zh (cS hf);have ds:=bn.1;rw [hf] at L;clear hf hT hg ht hz hn hl;go_enter Tryz.func4,Tryz.ntmps4;go_wp2_with fail;refine (F8 w).mono ?_;rintro e w1 ⟨rfl,g1⟩;have M:=zh g1;clear g1;go_wp2_with fail;refine (L w1 M).mono ?_;rintro e w3 ⟨rfl,g2⟩;have t:=zh (M.out.trans g2);clear g2 L;go_wp2_with fail;refine (a0 w3).mono ?_;rintro e w4 ⟨x,E,I0,rfl,ci,a2,cj⟩;have br:=zh cj;have bs:=zh (show VOut E n 2 from (ci.vrest oo oo bl).out oo);clear cj ci a2 a0;go_wp2_with fail
   go_loopg [31] l.length (λgk i' wr=>∃(j:Nat) (D:Dev),j<=l.length/\gk=l.length - j/\i'=.int .i64 j/\VOut D n (2+3*j)/\Live w3 x D (λ_=>False) wr)
   case atStart=>exact ⟨0,E,oo,oo,rfl,bs,br⟩
   case round=>
    obtain ⟨j,D,hj,cq,rfl,cr,cs⟩:=hrel;have bt:=zh cq;have u:=zh cr;have X:=zh cs;clear cq cr cs br bs;by_cases ch:j<l.length
    . have d0:(j:Int)<(l.length:Int):=oo;have a1:Grew w wr:=t.out.trans X.base;obtain ⟨b,a,rfl,ek,hc⟩:=aB (Ad cw a1) ch;obtain ⟨p,hp⟩:∃p,l[j]=p:=⟨_,rfl⟩;have y:p∈l:=hp▸gS ch;have cz:=zh y;have Y:=zh ((HV p y).hold a1);have bv:=zh (cy p y);rw [hp] at hc;have Z:∀i v,(GR p)[i]? =some v->wr.cell? ⟨b,a+j*20+i,none⟩=some v:=hc;have g5:Grew wr ((wr.alloc (.cells #[.int .u8 0,.int .u8 0,.int .u8 0,.int .i64 0,.int .i64 0,.string ⟨#[]⟩,.string ⟨#[]⟩,.int .i64 0,.slice none 0 0,.slice none 0 0,.int .i64 0,.int .i64 0,.int .u8 0,.int .i64 0,.int .i64 0,.int .i64 0,.string ⟨#[]⟩,.int .i64 0,.int .u8 0,.slice none 0 0] 42)).setRow wr.heap.size (GR p).toArray):=((gK wr).alloc _).setRow (gM _) _;have b5:Blk ((wr.alloc (.cells #[.int .u8 0,.int .u8 0,.int .u8 0,.int .i64 0,.int .i64 0,.string ⟨#[]⟩,.string ⟨#[]⟩,.int .i64 0,.slice none 0 0,.slice none 0 0,.int .i64 0,.int .i64 0,.int .u8 0,.int .i64 0,.int .i64 0,.int .i64 0,.string ⟨#[]⟩,.int .i64 0,.int .u8 0,.slice none 0 0] 42)).setRow wr.heap.size (GR p).toArray) wr.heap.size 42 (GR p).toArray:=(gZ wr _ _ rfl).setRow _;have z:=b5.cell 12;change _=some (Value.int .u8 (p.raw.kind:Int)) at z;have yl:=b5.lt;obtain ⟨r,hr⟩:∃r:Nat,p.raw.kind % 4=r:=⟨_,rfl⟩;have c0:r=0\/r=1\/r=2\/r=3:=oo;have c1:(p.raw.kind:Int) % 4=(r:Int):=oo;have d1:Int.tmod (p.raw.kind:Int) 4=(r:Int):=by rw [je oo];exact c1
      have d2:IntKind.u8.wrap (r:Int)=(r:Int):=IntWalk.u8_in _ oo;have y1:=b5.cell 1;change _=some (Value.int .u8 (p.sys:Int)) at y1;have c2:=b5.cell 17;change _=some (Value.int .i64 p.raw.n) at c2;have c3:=b5.cell 19;change _=some (Value.slice p.raw.A p.raw.sv.length p.raw.c) at c3;obtain ⟨w5,K⟩:∃w5,w5=(wr.alloc (.cells #[.int .u8 0,.int .u8 0,.int .u8 0,.int .i64 0,.int .i64 0,.string ⟨#[]⟩,.string ⟨#[]⟩,.int .i64 0,.slice none 0 0,.slice none 0 0,.int .i64 0,.int .i64 0,.int .u8 0,.int .i64 0,.int .i64 0,.int .i64 0,.string ⟨#[]⟩,.int .i64 0,.int .u8 0,.slice none 0 0] 42)).setRow wr.heap.size (GR p).toArray:=⟨_,rfl⟩;have f:=zh (show Live w3 x D (λk=>False\/(wr.heap.size<=k/\k<w5.heap.size)) w5 from K▸X.more g5);have O:=zh (show Blk w5 wr.heap.size 42 (R8 p) from K▸b5);have B:wr.heap.size<=wr.heap.size/\wr.heap.size<w5.heap.size:=⟨oo,O.out.lt⟩;have d3:w3.heap.size<=wr.heap.size:=X.base.size;have bx:=zh (show ∀w':World,Grew w w'->ListAt w' w'.heap.size 1 p.raw.A (p.raw.sv.map ND) from λw' hg=>((HV.out p y).hold hg).raw.list);have b0:=zh (Y.raw.sv)
      have c4:=zh (show ∀b a,0<p.raw.sv.length->p.raw.A=some ⟨b,a,none⟩->b<w3.heap.size from λb a h0 e=>by
       have h1:=Fu (HV p y).raw.list (by rw [gO];exact h0) b a e
       have:=t.size
       omega)
      have a2:=Y.raw.n;unfold okI at a2;clear hc hp y a1 g5 b5 hr;obtain ⟨h,c9⟩:∃h,Int.tmod p.raw.n 80=h:=⟨_,rfl⟩
      have d4:-80<=h/\h<=80:=by
       rw [<-c9];have h1:=Int.tmod_lt_of_pos p.raw.n (b:=80) oo;have h2:=Int.tmod_lt_of_pos (-p.raw.n) (b:=80) oo;rw [Int.neg_tmod] at h2;omega
      have d5:IntKind.i64.wrap h=h:=iY _ oo;obtain ⟨q3,em⟩:∃q3:Nat,p.sys % 3=q3:=⟨_,rfl⟩;have c5:(p.sys:Int) % 3=(q3:Int):=oo;have d6:Int.tmod (p.sys:Int) 3=(q3:Int):=by rw [je oo];exact c5
      have d7:IntKind.u8.wrap (q3:Int)=(q3:Int):=IntWalk.u8_in _ oo;have ea:IntKind.i64.wrap (q3:Int)=(q3:Int):=iY _ oo;have eb:IntKind.i64.wrap (1+(q3:Int))=1+(q3:Int):=iY _ oo;rcases c0 with h9 | h9 | h9 | h9
      case' inl=>
       have a3:((r:Int)==1)=false:=by rw [h9];rfl
       have b1:((r:Int)==2)=false:=by rw [h9];rfl
       have a4:((r:Int)==3)=false:=by rw [h9];rfl
       go_wp2_with (first | (refine EW rfl _ _ rfl b (a+j*20) (by rfl) (GR p) Z _ Tryz.underlying42 rfl qk ?_) | (refine AO rfl 42 _ _ rfl wr.heap.size (GR p).toArray rfl rfl 42 _ (gZ wr _ _ rfl) qk qk qk ?_));rw [<-K];have ad:=zh u;have P:=f;have d:=O
      case' inr.inl=>
       have a3:((r:Int)==1)=true:=by rw [h9];rfl
       have a4:((r:Int)==3)=false:=by rw [h9];rfl
       go_wp2_with (first | (refine EW rfl _ _ rfl b (a+j*20) (by rfl) (GR p) Z _ Tryz.underlying42 rfl qk ?_) | (refine AO rfl 42 _ _ rfl wr.heap.size (GR p).toArray rfl rfl 42 _ (gZ wr _ _ rfl) qk qk qk ?_));rw [<-K];refine (WX f h (by unfold okI;omega) p.raw.A p.raw.c p.raw.sv (bx _ (t.out.trans f.base)) (by have:=bv.out;omega) b0).mono ?_;rintro e w6 ⟨rfl,S,U⟩;have ad:=zh (u.fail h p.raw.sv);have P:=zh S;have d:=zh (O.turned U (λh8=>h8.2 (.inr B)));have y1:=d.cell 1;change _=some (Value.int .u8 (p.sys:Int)) at y1;have yl:=d.out.lt;clear S U;go_wp2_with fail
      case' inr.inr.inl=>
       have a3:((r:Int)==1)=false:=by rw [h9];rfl
       have b1:((r:Int)==2)=true:=by rw [h9];rfl
       have a4:((r:Int)==3)=false:=by rw [h9];rfl
       go_wp2_with (first | (refine EW rfl _ _ rfl b (a+j*20) (by rfl) (GR p) Z _ Tryz.underlying42 rfl qk ?_) | (refine AO rfl 42 _ _ rfl wr.heap.size (GR p).toArray rfl rfl 42 _ (gZ wr _ _ rfl) qk qk qk ?_));rw [<-K];refine (UV f (1+(q3:Int)) p.raw.A p.raw.c p.raw.sv (bx _ (t.out.trans f.base)) (λh0 b a e=>.inl (c4 b a h0 e)) (by have:=bv.out;omega) b0 (by rw [u.out.pend];simp)).mono ?_;rintro e w6 ⟨rfl,S,U⟩;have ad:=zh (u.crash (1+(q3:Int)) p.raw.sv);have P:=zh S;have d:=zh (O.turned U (λh8=>h8.2 (.inr B)));have y1:=d.cell 1;change _=some (Value.int .u8 (p.sys:Int)) at y1;have yl:=d.out.lt;clear S U;go_wp2_with fail
      case' inr.inr.inr=>
       have a3:((r:Int)==1)=false:=by rw [h9];rfl
       have b1:((r:Int)==2)=false:=by rw [h9];rfl
       have a4:((r:Int)==3)=true:=by rw [h9];rfl
       go_wp2_with (first | (refine EW rfl _ _ rfl b (a+j*20) (by rfl) (GR p) Z _ Tryz.underlying42 rfl qk ?_) | (refine AO rfl 42 _ _ rfl wr.heap.size (GR p).toArray rfl rfl 42 _ (gZ wr _ _ rfl) qk qk qk ?_));rw [<-K];have ad:=zh u;have P:=f;have d:=O
      all_goals rcases ad.out with h8 | h8
      all_goals first
       | have h7:∃I T,VRest _ I T n/\I.N<=_:=h8
         obtain ⟨I6,T6,W,dd⟩:=h7;refine (Fc P W.len W.rest.pend p.sys Y.sys (Na W.rest (IG p.sys)) W).mono ?_;rintro e w7 ⟨s,m,v,o7,rfl,H⟩;have Q:=d.turned H.beside (λh5=>h5.2 (.inr B));have a5:=zh (show Blk w7 wr.heap.size 42 (R8 p) from Q);have b2:=zh H;have b3:=zh ((bn.2 p cz).hold (t.out.trans H.held.held.live.base));have b4:=zh (show m≠wr.heap.size/\v≠wr.heap.size from by have h1:=H.news;have h2:=d.out.lt;omega);have a6:=zh (H.sub _ (.inr B));clear H Q h8 y1 yl;go_wp2_with (refine Cu rfl 42 _ rfl wr.heap.size rfl 42 (R8 p) _ a5 Tryz.underlying42 rfl qk ?_);refine (Ru b2.held W (IG p.sys) dd oo p b3).mono ?_;rintro e w8 ⟨er,D8,o8,rfl,cl,an⟩;have a7:=zh (cl.mono (show 2+3*j+3<=2+3*(j+1) by omega));have C:=zh an.held.held.live
         have G:=zh (a5.turned an.turned (λh5=>by
          have:=b4.out
          rcases h5 with h5 | h5 | h5
          . exact h5.2 a6
          . omega
          . omega))
         have b6:=zh (an.sub _ a6);have z:=G.cell 12;change _=some (Value.int .u8 (p.raw.kind:Int)) at z;have yl:=G.out.lt;clear cl an b2 a5 b3 b4 a6;go_wp2_with fail
       | refine (Md P h8 p.sys Y.sys).mono ?_
         rintro e w7 ⟨rfl,bd,Q⟩;have b9:=zh (FJ bd);rw [h8.failed] at b9;have a7:=zh (VOut.mono (.inr h8) (show 2+3*j<=2+3*(j+1) by omega));have C:=zh bd;have ae:=d.turned Q (λh5=>h5.2 (.inr B));have G:=zh ae;have b6:=zh (show (λk=>False\/(wr.heap.size<=k/\k<w5.heap.size)) wr.heap.size from .inr B);have z:=ae.cell 12;change _=some (Value.int .u8 (p.raw.kind:Int)) at z;have yl:=ae.lt;clear bd Q ae h8 y1;go_wp2_with fail;refine b9.mono ?_;rintro e w8 ⟨rfl,rfl⟩;go_wp2_with fail
      all_goals
       obtain ⟨ks,df⟩:∃ks:Nat,(p.sys+1) % 256=ks:=⟨_,rfl⟩
       have ec:IntKind.u8.wrap ((p.sys:Int)+1)=(ks:Int):=by
        rw [<-df];simp only [IntKind.wrap,IntKind.signed,IntKind.bits];simp
       have c6:ks<256:=oo;clear z
      all_goals first
       | refine (MW C).mono ?_
         rintro e w9 ⟨rfl,bf,cm⟩;have al:=zh a7.ready;have ca:=zh (FJ bf);rw [show (BR _).failed=false from rfl] at ca;have a8:=G.turned cm (λh5=>h5.2 b6);have cb:=zh bf;have y1:=a8.cell 1;change _=some (Value.int .u8 (p.sys:Int)) at y1;have yl:=a8.lt;clear bf cm a8;go_wp2_with fail;refine ca.mono ?_;rintro e co ⟨rfl,rfl⟩;go_wp2_with fail
       | rcases a7.out with h7 | h7
         rotate_left
         . have R:=zh (FJ C);rw [h7.failed] at R;refine R.mono ?_;rintro e co ⟨rfl,rfl⟩;go_wp2_with fail
           go_roundg (l.length - (j+1))
           case measure=>rw [bt.out];omega
           case rel=>exact ⟨j+1,_,oo,oo,by go_num,.inr h7,C.few (λk hk=>hk.elim)⟩
         obtain ⟨I8,T8,cu,dk⟩:=h7;have R:=zh (FJ C);rw [cu.rest.live] at R;have al:=zh (cu.ready dk);have cb:=C;have y1:=G.cell 1;change _=some (Value.int .u8 (p.sys:Int)) at y1;have yl:=G.out.lt;refine R.mono ?_;rintro e co ⟨rfl,rfl⟩;go_wp2_with fail
      all_goals
       obtain ⟨F,I9,T9,bk,q,cv⟩:=al.opens (Hq ks) (IG ks);refine (Fc cb al.len al.pend ks c6 bk q).mono ?_;rintro e ee ⟨s2,m2,v2,c7,rfl,J⟩;have a9:=zh J;have ce:=zh (FJ J.held.held.live);rw [q.rest.live] at ce;clear J y1 yl;go_wp2_with fail;refine ce.mono ?_;rintro e eg ⟨rfl,rfl⟩;go_wp2_with fail;refine (Iv a9.held q).mono ?_;rintro e ei ⟨rfl,c8,V⟩;have bb:=zh V;clear V;go_wp2_with fail
       go_roundg (l.length - (j+1))
       case measure=>rw [bt.out];omega
       case rel=>exact ⟨j+1,_,oo,oo,by go_num,q.out cv,bb.few (λk hk=>hk.elim)⟩
    . obtain rfl:j=l.length:=oo;go_wp2_with fail;refine (MW X).mono ?_;rintro e w5 ⟨rfl,cp,_⟩;have f:=zh cp;have cf:=u.ready;have bc:=zh cf;clear cp cf;go_wp2_with fail;obtain ⟨F,I9,T9,bk,q,cv⟩:=bc.opens (Hq 0) (IG 0);refine (Fc f bc.len bc.pend 0 oo bk q).mono ?_;rintro e w6 ⟨s2,m2,v2,c7,rfl,J⟩;have a9:=zh J;clear J;go_wp2_with fail;refine (Iv a9.held q).mono ?_;rintro e w7 ⟨rfl,c8,V⟩;have bb:=zh V;clear V;go_wp2_with fail;go_ret;exact ⟨rfl,t.out.trans bb.base⟩

end
end Go.Proofs.YtfklieeipokllaaGreat
