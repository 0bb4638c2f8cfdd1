/- Parts of the proof (packed), 13. -/
import Derived.Test.YtfklieeipokllaaGreatCzK
namespace Go.Proofs.YtfklieeipokllaaGreat
set_option linter.all false
set_option maxRecDepth 100000
set_option maxHeartbeats 16000000
open List
section
attribute [local go_sem ↓] Go.wp_at_zero Go.wp_at_succ
open Go.RowKit
def TabIn (P:Nat->Prop) (A:Option Addr) (xs:List LabE):Prop:=(0<xs.length->∀b off,A=some ⟨b,off,none⟩->P b)/\∀x∈xs,0<x.l.ext.length->∀b off,x.A=some ⟨b,off,none⟩->P b
theorem TabIn.nil (P:Nat->Prop):TabIn P none []:=⟨λh=>absurd h qs,λx hx=>(by cases hx)⟩
theorem ZW (A:Option Addr) (c:Nat) (ss:List ByteArray) (w:World) (h:ListAt w w.heap.size 1 A (ss.map FC)) (hl:ss.length<=100000) (hz:∀x∈ss,x.size<=1000):
 Calls Tryz.prog 93 #[.slice A ss.length c] w λe w'=>∃A c xs T er,e=.returned (.tuple #[.agg #[.string T.name,.int .i64 T.tracks,.slice A T.labels.length c],.int .i64 er])/\LdS ss T er/\SmallT T/\TabAt w' A c xs T/\TabIn (λq=>w.heap.size<=q) A xs/\Grew w w':=by
 have H:=zh h;have HZ:=zh hz;have fc:=zh (gZ w 50 #[.string ⟨#[]⟩,.int .i64 0,.slice none 0 0] rfl);have fi:=zh ((gK w).alloc (.cells #[.string ⟨#[]⟩,.int .i64 0,.slice none 0 0] 50));clear h hz;go_enter Tryz.func93,Tryz.ntmps93;go_wp2_with fail
 go_loopg [4,17] ss.length (λgk tv0 i wr=>∃(k:Nat) (tv:Value),k<=ss.length/\gk=ss.length - k/\tv=tv0/\i=.int .i64 k/\(∀x∈ss.take k,x.size=128)/\OwnL wr (w.heap.size+1) 9 1 tv ((Im ss k).map FC)/\Blk wr w.heap.size 50 #[.string ⟨#[]⟩,.int .i64 0,.slice none 0 0]/\Grew w wr)
 case atStart=>exact ⟨0,_,oo,oo,rfl,rfl,λx hx=>(by cases hx),OwnL.nil _ _ _ _,fc.out,fi.out⟩
 case round=>
  obtain ⟨k,tv,hk,M,go,rfl,e4,N,hb,hg⟩:=hrel;subst go;have al:=zh M;have d2:=zh e4;clear M e4;by_cases I:k<ss.length
  . have fl:w.heap.size+1<=wr.heap.size:=hb.lt;obtain ⟨b1,o1,rfl,gp,e5⟩:=H.out (by rw [gO];omega);obtain ⟨x,hx⟩:∃x,ss[k]=x:=⟨_,rfl⟩
    have q0:wr.cell? ⟨b1,o1+k,none⟩=some (.string x):=by
     rw [hg.cellEq _ _ gp];have:=e5 k (FC x) (by rw [gP,gJ I,hx];rfl) 0 _ rfl;simpa using this
    have gt:x.size<=1000:=by rw [<-hx];exact HZ.out _ (gS I)
    clear e5;by_cases a7:x.size=128;rotate_left
    . have hn:((x.size:Int) != 128)=true:=by rw [iW];omega
      have HE:=zh (fS ss k I (by rw [hx];exact a7));have z0:=hb.cell 0;have z1:=hb.cell 1;have z2:=hb.cell 2;have f0:=hb.frozen 0;have f1:=hb.frozen 1;have f2:=hb.frozen 2;have u:=hb.lt;have f:=hg;clear hb N hx a7;go_wp2_with fail;refine gw (by first | (simp [*,results,Tryz.results93,go_sem];rfl) | simp [*,results,Tryz.results93,go_sem]) rfl ?_;exact ⟨none,0,[],Cq,11,rfl,HE,Co,TabAt.zero _,TabIn.nil _,gG⟩
    have hn:((x.size:Int) != 128)=false:=by rw [jw];omega
    have d3:=zh (show ∀z∈ss.take (k+1),z.size=128 from λz hz=>by
     rw [gU I] at hz
     rcases iA.1 hz with hz | hz
     . exact d2.out z hz
     . rw [gQ.1 hz,hx];exact a7)
    by_cases h8:k % 8=0
    . have hm:((k:Int) % 8==0)=true:=by rw [jR];omega
      have hY:=ZJ ss k h8;have bk:=Ke ss k;have d4:=N.ne_blk hb qd;clear h8 a7
      go_upto_region 9 with (at_builtin;refine C2 rfl _ _ 60 rfl (w.heap.size+1) 9 1 16 _ Tryz.underlying60 Sw rfl qd wr _ ((Im ss k).map FC) (FC ⟨#[]⟩) (by rfl) rfl rfl N (by first | rfl | (simp;done)) rfl rfl (by rw [gO];omega) (by rw [gO];omega) fl ?_;intro gl c3 J e2 e3 ho)
      have bl:=e3 _ _ _ hb d4;have b9:=e2 _ hg oo;rw [show (Im ss k).map FC++[FC ⟨#[]⟩]=(Fn ss k).map FC from by rw [hY,gm];rfl] at J;clear e2 e3 N hb hg hY hm bk d4 q0;have D:((Fn ss k).map FC).length=k / 8+1:=by rw [gO,JF]
      have E:k / 8<(Fn ss k).length:=by rw [JF];omega
      have F:=P5 ss k I E;have ca:=O9 ss k HZ _ (gS E);obtain ⟨y,hy⟩:∃y,(Fn ss k)[k / 8]=y:=⟨_,rfl⟩;rw [hy,hx] at F;rw [hy] at ca;have G:((Fn ss k).map FC)[k / 8]? =some (FC y):=by rw [gP,gJ E,hy];rfl
      obtain ⟨q,hq⟩:∃q,k / 8=q:=⟨_,rfl⟩;have fn:q<=100000:=oo;rw [hq] at G D F
      obtain ⟨g,cap,hv,gq,gr⟩:∃g cap,gl=.slice (some ⟨g,0,none⟩) (q+1) cap/\w.heap.size+1<=g/\g<c3.heap.size:=by
       rcases J.form with ⟨_,h0⟩ | ⟨g,cap,hv,h1,h2,_⟩
       . have:=iH length h0;rw [D,length_nil] at this;omega
       . rw [D] at hv;exact ⟨g,cap,hv,h1,h2⟩
      subst hv;have t0:c3.cell? ⟨g,q,none⟩=some (.string y):=by have:=J.cell G (i:=0) rfl;simpa using this
      have tf:=J.frozen q;have an:=J.set_ G (i:=0) (o:=q) qd oo (.string (y++x));have av:=zh (show OwnL (c3.setCell ⟨g,q,none⟩ (.string (y++x))) (w.heap.size+1) 9 1 (.slice (some ⟨g,0,none⟩) (q+1) cap) ((Im ss (k+1)).map FC) from by rw [F,List.map_set];exact an);have cb:=zh (bl.far (p:=⟨g,q,none⟩) (by show w.heap.size≠g;omega) (.string (y++x)));have ce:=zh (b9.setCell (p:=⟨g,q,none⟩) (by show w.heap.size<=g;omega) (.string (y++x)));obtain ⟨n,B⟩:∃n,q+1=n:=⟨_,rfl⟩;have fs:(n:Int) - 1=(q:Int):=oo;rw [B] at av ⊢;clear an J bl b9 F G D hy E hq;go_wp2_with fail
      go_roundg (ss.length - (k+1))
      case measure=>rw [al.out];omega
      case rel=>exact ⟨k+1,_,oo,oo,rfl,by go_num,d3,av,cb,ce⟩
    . have hm:((k:Int) % 8==0)=false:=by rw [iD];omega
      have hY:=Zk ss k h8;have a0:OwnL wr (w.heap.size+1) 9 1 tv ((Fn ss k).map FC):=by rw [hY];exact N
      have d5:=hb;have bn:=hg;clear h8 a7 N hb hg hY;have D:((Fn ss k).map FC).length=k / 8+1:=by rw [gO,JF]
      have E:k / 8<(Fn ss k).length:=by rw [JF];omega
      have F:=P5 ss k I E;have ca:=O9 ss k HZ _ (gS E);obtain ⟨y,hy⟩:∃y,(Fn ss k)[k / 8]=y:=⟨_,rfl⟩;rw [hy,hx] at F;rw [hy] at ca;have G:((Fn ss k).map FC)[k / 8]? =some (FC y):=by rw [gP,gJ E,hy];rfl
      obtain ⟨q,hq⟩:∃q,k / 8=q:=⟨_,rfl⟩;have fn:q<=100000:=oo;rw [hq] at G D F
      obtain ⟨g,cap,hv,gq,gr⟩:∃g cap,tv=.slice (some ⟨g,0,none⟩) (q+1) cap/\w.heap.size+1<=g/\g<wr.heap.size:=by
       rcases a0.form with ⟨_,h0⟩ | ⟨g,cap,hv,h1,h2,_⟩
       . have:=iH length h0;rw [D,length_nil] at this;omega
       . rw [D] at hv;exact ⟨g,cap,hv,h1,h2⟩
      subst hv;have t0:wr.cell? ⟨g,q,none⟩=some (.string y):=by have:=a0.cell G (i:=0) rfl;simpa using this
      have tf:=a0.frozen q;have an:=a0.set_ G (i:=0) (o:=q) qd oo (.string (y++x));have av:=zh (show OwnL (wr.setCell ⟨g,q,none⟩ (.string (y++x))) (w.heap.size+1) 9 1 (.slice (some ⟨g,0,none⟩) (q+1) cap) ((Im ss (k+1)).map FC) from by rw [F,List.map_set];exact an);have cb:=zh (d5.far (p:=⟨g,q,none⟩) (by show w.heap.size≠g;omega) (.string (y++x)));have ce:=zh (bn.setCell (p:=⟨g,q,none⟩) (by show w.heap.size<=g;omega) (.string (y++x)));obtain ⟨n,B⟩:∃n,q+1=n:=⟨_,rfl⟩;have fs:(n:Int) - 1=(q:Int):=oo;rw [B] at av ⊢;clear an a0 d5 bn F G D hy E hq;go_wp2_with fail
      go_roundg (ss.length - (k+1))
      case measure=>rw [al.out];omega
      case rel=>exact ⟨k+1,_,oo,oo,rfl,by go_num,d3,av,cb,ce⟩
  . skip;have fu:k=ss.length:=oo;subst fu;have d6:=zh (show ∀x∈ss,x.size=128 from by have:=d2.out;rwa [jU] at this);have bk:=Ke ss ss.length;obtain ⟨A5,c5,e6,e8,hp,e9⟩:=N.listAt;rw [gO] at e6 e8;subst e6;have br:=zh e9;have fv:=zh bk;obtain ⟨q,hq⟩:∃q,(Im ss ss.length).length=q:=⟨_,rfl⟩;rw [hq] at e8 ⊢;have d7:q=(ss.length+7) / 8:=by rw [<-hq];exact fv.out
    have HQ:=zh hq;have cf:=zh d7;have f:=hg;have HB:=zh hb;have HG:=zh hg;have z0:=hb.cell 0;have z1:=hb.cell 1;have z2:=hb.cell 2;have f0:=hb.frozen 0;have f1:=hb.frozen 1;have f2:=hb.frozen 2;have u:=hb.lt;clear e9 bk hq N hb f hg d7;by_cases h0:ss.length=0
    . have hm:((q:Int)==0)=true:=by rw [jR];have:=cf.out;omega
      have HE:=zh (Zh ss (.inl h0));have f:=HG.out;clear h0;go_wp2_with fail;refine gw (by first | (simp [*,results,Tryz.results93,go_sem];rfl) | simp [*,results,Tryz.results93,go_sem]) rfl ?_;exact ⟨none,0,[],Cq,11,rfl,HE,Co,TabAt.zero _,TabIn.nil _,gG⟩
    have hm:((q:Int)==0)=false:=by rw [iD];have:=cf.out;omega
    by_cases h8:ss.length % 8=0;rotate_left
    . have f3:((ss.length:Int) % 8 != 0)=true:=by rw [iW];omega
      have HE:=zh (Zh ss (.inr h8));have f:=HG.out;clear h8;go_wp2_with fail;refine gw (by first | (simp [*,results,Tryz.results93,go_sem];rfl) | simp [*,results,Tryz.results93,go_sem]) rfl ?_;exact ⟨none,0,[],Cq,11,rfl,HE,Co,TabAt.zero _,TabIn.nil _,gG⟩
    have f3:((ss.length:Int) % 8 != 0)=false:=by rw [jw];omega
    obtain ⟨m,c7⟩:∃m,ss.length=8*(m+1):=⟨ss.length / 8 - 1,oo⟩;have f4:q=m+1:=by have:=cf.out;omega
    subst f4;have ch:=Y8 ss (m+1) oo;rw [ch] at br;have HR:=zh (show ListAt wr wr.heap.size 1 A5 (((List.range (m+1)).map (Ck ss)).map FC) from br.out);obtain ⟨b5,o5,rfl,bl,c9⟩:=HR.out qs
    have ea:=zh (show ∀j,j<m+1->∀w9,Grew wr w9->w9.cell? ⟨b5,o5+j,none⟩=some (.string (Ck ss j)) from λj hj w9 g9=>by
     rw [g9.cellEq _ _ bl]
     have:=c9 j (FC (Ck ss j)) (by rw [gP,gP,jD hj];rfl) 0 _ rfl
     simpa using this)
    have ci:=zh c7;have q0:=ea.out 0 oo wr (gK _);rw [jH] at q0;have gu:(Ck ss 0).size<=8000:=Lj 1000 ss 0 HZ;have C:=λw9=>SR (Ck ss 0) w9 oo;rcases MV (Ck ss 0) with hh | ⟨nm,tt,hh,_,hr,fb,hs,ht,hu⟩
    . have HE:=zh (dv ss hh);rw [hh] at C;clear hh h0 h8 c7 br ch c9;go_wp2_with fail;refine (C _).mono ?_;rintro e w3 ⟨rfl,g3⟩;have d:=HB.grew g3;have f:=HG.out.trans g3;clear z0 z1 z2 f0 f1 f2 u g3;have z0:=d.cell 0;have z1:=d.cell 1;have z2:=d.cell 2;have f0:=d.frozen 0;have f1:=d.frozen 1;have f2:=d.frozen 2;have u:=d.lt;go_wp2_with fail;refine gw (by first | (simp [*,results,Tryz.results93,go_sem];rfl) | simp [*,results,Tryz.results93,go_sem]) rfl ?_;exact ⟨none,0,[],Cq,11,rfl,HE,Co,TabAt.zero _,TabIn.nil _,gG⟩
    rw [hh] at C;have HH:=zh hh;have gv:=zh fb;clear hh h0 h8 c7 br ch c9 fb;go_wp2_with fail;refine (C _).mono ?_;rintro e w3 ⟨rfl,g3⟩;have d:=HB.grew g3;have f:=HG.out.trans g3;have eb:=zh g3;have Z:=zh f;have bs:=zh d;clear z0 z1 z2 f0 f1 f2 u g3 q0 C;have z0:=d.cell 0;have z1:=d.cell 1;have z2:=d.cell 2;have f0:=d.frozen 0;have f1:=d.frozen 1;have f2:=d.frozen 2;have u:=d.lt;obtain ⟨fa,dd⟩:∃x,ttS tt=x:=⟨_,rfl⟩;have ec:=zh dd;by_cases b0:((m+1:Nat):Int)=ttS tt;rotate_left
    . have f5:((m:Int)+1 != fa)=true:=by rw [iW];omega
      have HE:=zh (ba ss nm tt HH (by have:=ci.out;rw [show ss.length / 8=m+1 from oo];exact b0));clear b0 dd;go_wp2_with fail;refine (Bo _ _).mono ?_;rintro e w9 ⟨rfl,rfl⟩;rw [ec.out];go_wp2_with fail;refine gw (by first | (simp [*,results,Tryz.results93,go_sem];rfl) | simp [*,results,Tryz.results93,go_sem]) rfl ?_;exact ⟨none,0,[],Cq,11,rfl,HE,Co,TabAt.zero _,TabIn.nil _,gG⟩
    have f5:((m:Int)+1 != fa)=false:=by rw [jw];omega
    have cj:=zh b0;have gx:m<=32:=by have:=Ce tt;omega
    have ee:=gZ w3 50 #[.string nm,.int .i64 tt,.slice none 0 0] rfl;have eg:=(gK w3).alloc (.cells #[.string nm,.int .i64 tt,.slice none 0 0] 50);have ei:=zh ee;have ek:=zh eg;clear b0 dd ee eg f d z0 z1 z2 f0 f1 f2;go_wp2_with fail;refine (Bo _ _).mono ?_;rintro e w9 ⟨rfl,rfl⟩;rw [ec.out];by_cases gj:c5=1
    . subst gj;have gz:m<1:=oo;go_wp2_with fail;obtain ⟨wo,df⟩:∃wo:World,wo=wr:=⟨_,rfl⟩;subst df
      go_loopg [76] m (λgk i wq=>∃(k:Nat) (v:Value) (ys:List LabE) (ls:List Lab),k<=m/\gk=m - k/\i=.int .i64 k/\ls.length=k/\(∀j (hj:j<ls.length),Dn (Ck ss (j+1)) tt=(ls[j],0))/\(∀l∈ls,l.ext.length<=1000)/\TabO wq (w3.heap.size+1) v ys ls/\Blk wq w3.heap.size 50 #[.string nm,.int .i64 tt,v]/\(∀y∈ys,∀b off,y.A=some ⟨b,off,none⟩->w3.heap.size<=b)/\Grew w3 wq)
      case atStart=>exact ⟨0,_,[],[],oo,oo,rfl,rfl,λj hj=>absurd hj (Nat.not_lt_zero _),λl hl=>(by cases hl),⟨OwnL.nil _ _ _ _,λy hy=>(by cases hy),λy hy=>(by cases hy),rfl⟩,ei.out,λy hy=>(by cases hy),ek.out⟩
      case round=>
       obtain ⟨wq,dk⟩:∃wq:World,wq=wr:=⟨_,rfl⟩;subst dk;obtain ⟨k,v,ys,ls,hk,M,rfl,s,a9,bb,Y,bc,bd,K⟩:=hrel;obtain ⟨Av,cv,hv,bf⟩:=Y.form;subst hv;have al:=zh M;have bt:=zh bd;have ad:=zh a9;have bv:=zh bb;have O:=zh Y;have r:=zh bc;have cl:=zh K;have ae:=zh (Z.out.trans K);have d:=bs.grew K;clear M a9 bb Y bc bd;by_cases I:k<m
       . exact absurd I oo
       . have cm:k=m:=oo;subst cm;have a1:=zh s;have co:=cj.out;have a2:(ls.length:Int)=Cg tt:=by unfold Cg;omega
         obtain ⟨T,hT⟩:∃T:Tab,T=⟨nm,tt,ls⟩:=⟨_,rfl⟩;have P:=bf nm tt oo oo oo;have Q:T.labels.length=ls.length:=by rw [hT]
         have R:SmallT T:=by rw [hT];exact ⟨by show ls.length<=1000;omega,bv⟩
         rw [<-hT] at P;have cp:=zh R;have CV:=λw9 (g9:Grew wq w9)=>EH Av cv ys T w9 (P.hold g9) R k (Q.trans s).symm;have a3:=zh (λhno=>Yt ss nm tt ls HH a2 ad hno);have a4:=zh (λhv=>V9 ss nm tt ls d6 (by rw [s];exact ci.out) HH ad hv);rw [<-hT] at a3 a4;have cq:=zh hT;have U:T.name=nm:=by rw [hT]
         have V:T.tracks=tt:=by rw [hT]
         rw [U,V] at CV;have cr:=zh U;have cs:=zh V;have cu:=zh Q;have x0:=r.cell 0;have x1:=r.cell 1;have x2:=r.cell 2;have L:=r.out.lt;clear bf P R hT U V Q co a2;cases hv:BG T with
         | false=>
           have HE:=zh (a3 (λh9=>by rw [hv] at h9;cases h9.1));rw [hv] at CV;clear hv;go_wp2_with fail;refine (CV _ (gK _)).mono ?_;rintro e w8 ⟨rfl,g8⟩;have a:=d.grew g8;have f:=ae.out.trans g8;clear d x0 x1 x2 L g8;have z0:=a.cell 0;have z1:=a.cell 1;have z2:=a.cell 2;have f0:=a.frozen 0;have f1:=a.frozen 1;have f2:=a.frozen 2;have u:=a.lt;go_wp2_with fail;refine gw (by first | (simp [*,results,Tryz.results93,go_sem];rfl) | simp [*,results,Tryz.results93,go_sem]) rfl ?_;exact ⟨none,0,[],Cq,11,rfl,HE,Co,TabAt.zero _,TabIn.nil _,gG⟩
         | true=>
           have HE:=zh (show LdS ss T 0 from .inl ⟨a4.out hv,rfl⟩);rw [hv] at CV;clear hv;go_wp2_with fail;refine (CV _ (gK _)).mono ?_;rintro e w8 ⟨rfl,g8⟩;have a:=d.grew g8;have f:=ae.out.trans g8;have t:=r.grew g8;have W:=zh (show TabO w8 (w3.heap.size+1) (.slice Av k cv) ys ls from by rw [<-a1.out];exact O.hold g8);have cw:=zh ((O.hold g8).apart a);clear d x0 x1 x2 L g8;have x0:=t.cell 0;have x1:=t.cell 1;have x2:=t.cell 2;have L:=t.lt;have z0:=a.cell 0;have z1:=a.cell 1;have z2:=a.cell 2;have f0:=a.frozen 0;have f1:=a.frozen 1;have f2:=a.frozen 2;have u:=a.lt;have cx:=zh f;clear a f t;have f6:=bs.out.lt;go_wp2_with fail;refine gw (by first | (simp [*,results,Tryz.results93,go_sem];rfl) | simp [*,results,Tryz.results93,go_sem]) rfl ?_;refine ⟨Av,cv,ys,T,0,by rw [cr.out,cs.out,cu.out,a1.out],HE,cp,?_,⟨λ_ b off e=>gY Z.size (gY (Nat.le_succ _) (W.own.own_ge (show (Value.slice Av k cv).ownBlock=some b from by rw [e];rfl)).1),λy hy _ b off e=>gY Z.size (bt y hy b off e)⟩,by have f:=cx.out;exact gG⟩;have cy:TabO (((w8.setCell ⟨w.heap.size,0,none⟩ (.string nm)).setCell ⟨w.heap.size,1,none⟩ (.int .i64 tt)).setCell ⟨w.heap.size,2,none⟩ (.slice Av k cv)) (w3.heap.size+1) (.slice Av k cv) ys ls:=W.turned (S:=λq=>q=w.heap.size) (gT) (λq hq=>by have h1:=(W.own.own_ge hq).1;omega) (λy hy h0 b off e=>cw y hy h0 b off e);obtain ⟨A8,c8,d0,d1⟩:=cy.form;injection d0 with hv1 _ hv2;subst hv1;subst hv2;rw [cq.out];exact d1 nm tt oo oo oo
    go_wp2_with fail;obtain ⟨wo,df⟩:∃wo:World,wo=wr:=⟨_,rfl⟩;subst df
    go_loopg [76] m (λgk i wq=>∃(k:Nat) (v:Value) (ys:List LabE) (ls:List Lab),k<=m/\gk=m - k/\i=.int .i64 k/\ls.length=k/\(∀j (hj:j<ls.length),Dn (Ck ss (j+1)) tt=(ls[j],0))/\(∀l∈ls,l.ext.length<=1000)/\TabO wq (w3.heap.size+1) v ys ls/\Blk wq w3.heap.size 50 #[.string nm,.int .i64 tt,v]/\(∀y∈ys,∀b off,y.A=some ⟨b,off,none⟩->w3.heap.size<=b)/\Grew w3 wq)
    case atStart=>exact ⟨0,_,[],[],oo,oo,rfl,rfl,λj hj=>absurd hj (Nat.not_lt_zero _),λl hl=>(by cases hl),⟨OwnL.nil _ _ _ _,λy hy=>(by cases hy),λy hy=>(by cases hy),rfl⟩,ei.out,λy hy=>(by cases hy),ek.out⟩
    case round=>
     obtain ⟨wq,dk⟩:∃wq:World,wq=wr:=⟨_,rfl⟩;subst dk;obtain ⟨k,v,ys,ls,hk,M,rfl,s,a9,bb,Y,bc,bd,K⟩:=hrel;obtain ⟨Av,cv,hv,bf⟩:=Y.form;subst hv;have al:=zh M;have bt:=zh bd;have ad:=zh a9;have bv:=zh bb;have O:=zh Y;have r:=zh bc;have cl:=zh K;have ae:=zh (Z.out.trans K);have d:=bs.grew K;clear M a9 bb Y bc bd;by_cases I:k<m
     . have q0:wq.cell? ⟨b5,o5+1+k,none⟩=some (.string (Ck ss (k+1))):=by have:=ea.out (k+1) oo wq (eb.out.trans K);rwa [show o5+(k+1)=o5+1+k from oo] at this
       have g0:(Ck ss (k+1)).size<=8000:=Lj 1000 ss (k+1) HZ;have g1:b5<wq.heap.size:=by have:=eb.size;have:=K.size;omega
       have CD:=λw9=>UD (Ck ss (k+1)) tt w9 oo oo oo;have L:=r.out.lt;rcases X3 (Ck ss (k+1)) tt with ⟨l,hd,gs⟩ | hd;rotate_left
       . have HE:=zh (fI ss nm tt HH k (by have:=cj.out;omega) hd);rw [hd] at CD;clear hd;go_wp2_with fail;refine (CD _).mono ?_;rintro e w4 ⟨A4,c4,rfl,b2,g4,a8⟩;have X:=d.grew g4;have f:=ae.out.trans g4;clear d b2 a8 q0;have z0:=X.cell 0;have z1:=X.cell 1;have z2:=X.cell 2;have f0:=X.frozen 0;have f1:=X.frozen 1;have f2:=X.frozen 2;have u:=X.lt;go_wp2_with fail;refine gw (by first | (simp [*,results,Tryz.results93,go_sem];rfl) | simp [*,results,Tryz.results93,go_sem]) rfl ?_;exact ⟨none,0,[],Cq,11,rfl,HE,Co,TabAt.zero _,TabIn.nil _,gG⟩
       have HD:=zh hd;rw [hd] at CD;clear hd d;go_wp2_with fail;refine (CD _).mono ?_;rintro e w4 ⟨A4,c4,rfl,b2,g4,a8⟩;have f7:=zh (show ∀b off,A4=some ⟨b,off,none⟩->w3.heap.size<=b from λb off e=>gY cl.size (a8 b off e));clear q0;have cz:=r.grew g4;have em:=O.hold g4;have ep:=cl.out.trans g4;have g2:=cz.lt;have g6:wq.heap.size<=w4.heap.size:=g4.size
       have eq:0<l.ext.length->∀b off,A4=some ⟨b,off,none⟩->(Value.slice Av k cv).ownBlock≠some b:=λ_ b off e hq=>by
        have h1:=a8 b off e;have h2:=(O.own.own_ge (show (Value.slice Av ls.length cv).ownBlock=some b from by rw [s];exact hq)).2;omega
       obtain ⟨W1,b4⟩:∃W1,W1=w4.alloc (.cells #[.int .i64 l.id,.int .i64 l.unit,.string l.name,.string l.note,.slice A4 l.ext.length c4] 100):=⟨_,rfl⟩;have es:Grew w4 W1:=by rw [b4];exact (gK w4).alloc _
       have B:Blk W1 w4.heap.size 100 #[.int .i64 l.id,.int .i64 l.unit,.string l.name,.string l.note,.slice A4 l.ext.length c4]:=by rw [b4];exact gZ w4 _ _ rfl
       have f9:W1.heap.size=w4.heap.size+1:=by rw [b4];simp
       obtain ⟨W2,b6⟩:∃W2,W2=W1.alloc (.cells #[.int .i64 l.id,.int .i64 l.unit,.string l.name,.string l.note,.slice A4 l.ext.length c4] 100):=⟨_,rfl⟩;have et:Grew W1 W2:=by rw [b6];exact (gK W1).alloc _
       have g7:W2.heap.size=W1.heap.size+1:=by rw [b6];simp
       have eu:Blk W2 W1.heap.size 100 (DP ⟨A4,c4,l⟩).toArray:=by rw [b6];exact gZ W1 _ _ rfl
       have a5:=es.trans et;have c0:=em.hold a5;have c1:=cz.grew a5;have ex:=ep.trans a5;have e0:=b2.hold a5;have c2:(ys.map DP).length=k:=by rw [gO,c0.len,s]
       have y0:=B.cell 0;have y1:=B.cell 1;have y2:=B.cell 2;have y3:=B.cell 3;have y4:=B.cell 4;have ha:=B.lt;have t2:=cz.cell 2;have ga:=zh e0;have bx:=zh (show TabO W2 (w3.heap.size+1) (.slice Av k cv) ys ls from by rw [<-s];exact c0);have gb:=zh c1;have gc:=zh ex;have gd:=zh (show Blk W2 (w4.heap.size+1) 100 (DP ⟨A4,c4,l⟩).toArray from by rw [<-f9];exact eu);have ge:=zh eq;have hc:w3.heap.size<W2.heap.size:=c1.lt;clear em ep b2 a8 eq e0 ex eu c1 c0 a5 es et;go_wp2_with (at_builtin;rw [<-b4,<-b6];refine Bi rfl _ _ 48 rfl (w3.heap.size+1) 100 5 72 _ Tryz.underlying48 Nc rfl qd W2 _ (ys.map DP) (DP ⟨A4,c4,l⟩) rfl (by rfl) bx.own (w4.heap.size+1) (by rfl) gd rfl (by rw [c2];omega) (by rw [c2];omega) oo _ c2 ?_;intro g5 b3 w5 J c6 gn b9;have a6:=gb.own c6 (λhq=>by have:w3.heap.size+1<=w3.heap.size:=(bx.own.own_ge hq).1;omega);have u2:=a6.cell 2;have he:=a6.frozen 2;have hf:=a6.lt);have e1:=bx.push ⟨A4,c4,l⟩ J c6 gn ga ge;have hi:w3.heap.size+1<=g5:=(J.own_ge (g:=g5) rfl).1;have gf:=e1.apart a6;have gg:=e1.turned (S:=λq=>q=w3.heap.size) ((iR (λq=>q=w3.heap.size) w5).setCell (p:=⟨w3.heap.size,2,none⟩) (λ_=>rfl) (.slice (some ⟨g5,0,none⟩) (k+1) b3)) (λg hq=>by simp only [Value.ownBlock,Option.some.injEq] at hq;omega) gf;have gh:=(a6.set_ 2 (.slice (some ⟨g5,0,none⟩) (k+1) b3)).conv (ds:=#[.string nm,.int .i64 tt,.slice (some ⟨g5,0,none⟩) (k+1) b3]) rfl;have bn:=(Grew.own gc c6 bx.own.row_ge oo).setCell (p:=⟨w3.heap.size,2,none⟩) (gM _) (.slice (some ⟨g5,0,none⟩) (k+1) b3);have gi:=zh (ax ad (by rw [s];exact HD.out))
       go_roundg (m - (k+1))
       case measure=>rw [al.out];omega
       case rel=>exact ⟨k+1,_,_,ls++[l],oo,oo,by go_num,by rw [iI,s];rfl,gi,Zp bv gs,gg,gh,λy hy b off e=>(iA.1 hy).elim (λh9=>bt y h9 b off e) (λh9=>by rw [gQ.1 h9] at e;exact f7.out b off e),bn⟩
     . have cm:k=m:=oo;subst cm;have a1:=zh s;have co:=cj.out;have a2:(ls.length:Int)=Cg tt:=by unfold Cg;omega
       obtain ⟨T,hT⟩:∃T:Tab,T=⟨nm,tt,ls⟩:=⟨_,rfl⟩;have P:=bf nm tt oo oo oo;have Q:T.labels.length=ls.length:=by rw [hT]
       have R:SmallT T:=by rw [hT];exact ⟨by show ls.length<=1000;omega,bv⟩
       rw [<-hT] at P;have cp:=zh R;have CV:=λw9 (g9:Grew wq w9)=>EH Av cv ys T w9 (P.hold g9) R k (Q.trans s).symm;have a3:=zh (λhno=>Yt ss nm tt ls HH a2 ad hno);have a4:=zh (λhv=>V9 ss nm tt ls d6 (by rw [s];exact ci.out) HH ad hv);rw [<-hT] at a3 a4;have cq:=zh hT;have U:T.name=nm:=by rw [hT]
       have V:T.tracks=tt:=by rw [hT]
       rw [U,V] at CV;have cr:=zh U;have cs:=zh V;have cu:=zh Q;have x0:=r.cell 0;have x1:=r.cell 1;have x2:=r.cell 2;have L:=r.out.lt;clear bf P R hT U V Q co a2;cases hv:BG T with
       | false=>
         have HE:=zh (a3 (λh9=>by rw [hv] at h9;cases h9.1));rw [hv] at CV;clear hv;go_wp2_with fail;refine (CV _ (gK _)).mono ?_;rintro e w8 ⟨rfl,g8⟩;have a:=d.grew g8;have f:=ae.out.trans g8;clear d x0 x1 x2 L g8;have z0:=a.cell 0;have z1:=a.cell 1;have z2:=a.cell 2;have f0:=a.frozen 0;have f1:=a.frozen 1;have f2:=a.frozen 2;have u:=a.lt;go_wp2_with fail;refine gw (by first | (simp [*,results,Tryz.results93,go_sem];rfl) | simp [*,results,Tryz.results93,go_sem]) rfl ?_;exact ⟨none,0,[],Cq,11,rfl,HE,Co,TabAt.zero _,TabIn.nil _,gG⟩
       | true=>
         have HE:=zh (show LdS ss T 0 from .inl ⟨a4.out hv,rfl⟩);rw [hv] at CV;clear hv;go_wp2_with fail;refine (CV _ (gK _)).mono ?_;rintro e w8 ⟨rfl,g8⟩;have a:=d.grew g8;have f:=ae.out.trans g8;have t:=r.grew g8;have W:=zh (show TabO w8 (w3.heap.size+1) (.slice Av k cv) ys ls from by rw [<-a1.out];exact O.hold g8);have cw:=zh ((O.hold g8).apart a);clear d x0 x1 x2 L g8;have x0:=t.cell 0;have x1:=t.cell 1;have x2:=t.cell 2;have L:=t.lt;have z0:=a.cell 0;have z1:=a.cell 1;have z2:=a.cell 2;have f0:=a.frozen 0;have f1:=a.frozen 1;have f2:=a.frozen 2;have u:=a.lt;have cx:=zh f;clear a f t;have f6:=bs.out.lt;go_wp2_with fail;refine gw (by first | (simp [*,results,Tryz.results93,go_sem];rfl) | simp [*,results,Tryz.results93,go_sem]) rfl ?_;refine ⟨Av,cv,ys,T,0,by rw [cr.out,cs.out,cu.out,a1.out],HE,cp,?_,⟨λ_ b off e=>gY Z.size (gY (Nat.le_succ _) (W.own.own_ge (show (Value.slice Av k cv).ownBlock=some b from by rw [e];rfl)).1),λy hy _ b off e=>gY Z.size (bt y hy b off e)⟩,by have f:=cx.out;exact gG⟩;have cy:TabO (((w8.setCell ⟨w.heap.size,0,none⟩ (.string nm)).setCell ⟨w.heap.size,1,none⟩ (.int .i64 tt)).setCell ⟨w.heap.size,2,none⟩ (.slice Av k cv)) (w3.heap.size+1) (.slice Av k cv) ys ls:=W.turned (S:=λq=>q=w.heap.size) (gT) (λq hq=>by have h1:=(W.own.own_ge hq).1;omega) (λy hy h0 b off e=>cw y hy h0 b off e);obtain ⟨A8,c8,d0,d1⟩:=cy.form;injection d0 with hv1 _ hv2;subst hv1;subst hv2;rw [cq.out];exact d1 nm tt oo oo oo

end
section
open Go.RowKit
def A0 (l:List (Int × Int)) (s:Int):Int × Bool:=if s<0 then (0,false) else if (atS l (s / 8)).2=true then ((atS l (s / 8)).1*8+s % 8,true) else (0,false)
theorem fx (l:List (Int × Int)) (t:Int) (h0:0<=t) (h:(atS l t).2=true):∃k:Nat,(atS l t).1=(k:Int)/\k<128/\inT l (k:Int)=true/\(BL l)[t.toNat]? =some k:=by
 obtain ⟨n,rfl⟩:∃n:Nat,t=(n:Int):=⟨t.toNat,oo⟩;rw [ZV] at h ⊢;unfold Vt at h ⊢;by_cases hn:n<(BL l).length
 . rw [if_pos hn];have hm:(BL l)[n]∈BL l:=gS hn;refine ⟨(BL l)[n],by simp [hn],Mo l _ hm,by rw [VX];exact (CT l _).1 hm,by rw [iM,gJ hn]⟩
 . rw [if_neg hn] at h;cases h
theorem JE (l:List (Int × Int)) (s:Int) (h:s<0):A0 l s=(0,false):=if_pos h
theorem Gm (l:List (Int × Int)) (s:Int) (h:0<=s):((atS l (s / 8)).2=false/\A0 l s=(0,false))\/∃k:Nat,atS l (s / 8)=((k:Int),true)/\k<128/\inT l (k:Int)=true/\(BL l)[(s / 8).toNat]? =some k/\A0 l s=((k:Int)*8+s % 8,true):=by
 cases hc:(atS l (s / 8)).2 with
 | false=>exact .inl ⟨rfl,by unfold A0;rw [if_neg oo,if_neg (by rw [hc];simp)]⟩
 | true=>
   obtain ⟨k,h1,h2,h3,h4⟩:=fx l (s / 8) oo hc;exact .inr ⟨k,Prod.ext h1 hc,h2,h3,h4,by unfold A0;rw [if_neg oo,if_pos hc,h1]⟩
section
variable (A:Option Addr) (c:Nat) (l:Lab) (w:World)
theorem KG (g:LabAt w A c l) (hs:l.ext.length<=1000) (s:Int) (s0:-9223372036854775808<=s) (s1:s<=9223372036854775807) (a:Int) (b:Bool) (d:A0 l.ext s=(a,b)):
 Calls Tryz.prog 48 #[.agg #[.int .i64 l.id,.int .i64 l.unit,.string l.name,.string l.note,.slice A l.ext.length c],.int .i64 s] w λe w'=>e=.returned (.tuple #[.int .i64 a,.bool b])/\Grew w w':=by
 have f:=(gK w).alloc (.cells #[.int .i64 l.id,.int .i64 l.unit,.string l.name,.string l.note,.slice A l.ext.length c] 100);by_cases hn:s<0
 . rw [JE _ _ hn] at d;injection d with e1 e2;subst e1;subst e2;go_enter Tryz.func48,Tryz.ntmps48;go_wp2_with fail
   go_returns
   exact ⟨rfl,gG⟩
 have h:0<=s:=oo;have HC:=zh (λw1 (hg:Grew w w1)=>Zt A c _ l.ext _ rfl oo (g.hold hg).runs (s / 8) oo oo);have hd:s.tdiv 8=s / 8:=Int.tdiv_eq_ediv_of_nonneg h;have hm:s.tmod 8=s % 8:=je h;rcases Gm l.ext s h with ⟨h2,hx⟩ | ⟨k,h1,h2,_,_,hx⟩
 . rw [hx] at d;injection d with e1 e2;subst e1;subst e2;obtain ⟨⟨x,y⟩,i⟩:∃p,atS l.ext (s / 8)=p:=⟨_,rfl⟩;rw [i] at h2;simp only at h2;subst h2;have HX:=zh (show (if s / 8<0 then ((0,false):Int × Bool) else atS l.ext (s / 8))=(x,false) from by rw [if_neg oo,i]);clear hx i g;go_enter Tryz.func48,Tryz.ntmps48;go_wp2_with fail;refine (HC _ f _ _ HX).mono ?_;rintro e w2 ⟨rfl,g2⟩;go_wp2_with fail
   go_returns
   exact ⟨rfl,f.trans g2⟩
 . rw [hx] at d;injection d with e1 e2;subst e2;have HX:=zh (show (if s / 8<0 then ((0,false):Int × Bool) else atS l.ext (s / 8))=((k:Int),true) from by rw [if_neg oo,h1]);have j:0<=s % 8/\s % 8<8:=oo;have HA:=zh e1;clear hx h1 g e1;go_enter Tryz.func48,Tryz.ntmps48;go_wp2_with fail;refine (HC _ f _ _ HX).mono ?_;rintro e w2 ⟨rfl,g2⟩;go_wp2_with fail
   go_returns
   exact ⟨NQ (by rw [<-HA.out]<;>omega) rfl,f.trans g2⟩
end

end
section
attribute [local go_sem ↓] Go.wp_at_zero Go.wp_at_succ
open Go.RowKit
section
variable (A:Option Addr) (c:Nat) (xs:List LabE) (T:Tab) (w:World)
theorem Iy (h:TabAt w A c xs T) (hs:SmallT T):
 Calls Tryz.prog 73 #[.agg #[.string T.name,.int .i64 T.tracks,.slice A T.labels.length c]] w λe w'=>∃v,e=.returned v/\OwnL w' w.heap.size 9 1 v ((AW T).map FC)/\Grew w w':=by
 have o:=(gK w).alloc (.cells #[.string T.name,.int .i64 T.tracks,.slice A T.labels.length c] 50);have I:=zh (gZ w 50 #[.string T.name,.int .i64 T.tracks,.slice A T.labels.length c] rfl);have HV:=zh (EH A c xs T _ (h.hold o) hs _ rfl);have J:=zh h;have HS:=zh hs;have C:=zh o;have K:=h.name;have a2:=hs.len;have D:=zh (show -9223372036854775808<=T.tracks/\T.tracks<=9223372036854775807 from ⟨h.tr0,h.tr1⟩);clear h hs o;cases hv:BG T with
 | false=>
   have HE:=zh (show AW T=[] from by unfold AW;rw [if_neg (by rw [hv];simp)]);have p:=zh hv;clear hv;go_enter Tryz.func73,Tryz.ntmps73;go_wp2_with fail;refine HV.mono ?_;rintro e w1 ⟨rfl,g1⟩;rw [p.out];go_wp2_with fail;go_ret;exact ⟨_,rfl,by rw [HE.out];exact OwnL.nil _ _ _ _,C.out.trans g1⟩
 | true=>
   have HE:=zh (show AW T=D7 (Em T T.labels.length) from by unfold AW;rw [if_pos hv]);have p:=zh hv;have L:=zh (λk hk=>F4 T k hk);have M:=zh (λk hk=>G8 T hv k hk);have N:=zh (λk (hk:k<T.labels.length)=>OD T.tracks ((AX T).1 hv).tr T.labels[k] (((AX T).1 hv).ok _ (gS hk)));have O:=zh (F5 T);clear hv;go_enter Tryz.func73,Tryz.ntmps73;go_wp2_with fail;refine HV.mono ?_;rintro e w1 ⟨rfl,g1⟩;rw [p.out];have j:=zh (I.grew g1);have P:=zh (C.out.trans g1);have x0:=j.cell 0;have x1:=j.cell 1;have q:=j.out.lt;clear g1;go_wp2_with fail;refine (MU T.name T.tracks _ K).mono ?_;rintro e w2 ⟨rfl,g2⟩;have r:=zh (j.grew g2);have Q:=zh (P.out.trans g2);clear x0 x1 q g2;have x2:=r.cell 2;have q:=r.out.lt;go_wp2_with fail
   go_loopg [3,18] T.labels.length (λgk sv i wr=>∃k:Nat,k<=T.labels.length/\gk=T.labels.length - k/\i=.int .i64 k/\sv=.string (Em T k)/\Blk wr w.heap.size 50 #[.string T.name,.int .i64 T.tracks,.slice A T.labels.length c]/\Grew w wr)
   case atStart=>exact ⟨0,oo,oo,rfl,by rw [O.out],r,Q⟩
   case round=>
    obtain ⟨k,hk,g,rfl,rfl,hb,hg⟩:=hrel;have t:=zh g;have HB:=zh hb;have HG:=zh hg;have m:=M.out k hk;clear g x2 q;by_cases f:k<T.labels.length
    . obtain ⟨b,bd,B,d,l,rfl,bf,a1,hv,H,c0,c1,c2,c3,c4⟩:=(J.hold hg).at_ f;have R:=HS.ext T.labels[k] (gS f);rw [hv] at R;have hn:=L.out k f;rw [hv] at hn;have HN:=zh hn;have hz:=N.out k f;rw [hv] at hz;have a3:(C6 l T.tracks).size<=1024:=oo;have a4:(Em T k).size<=2000000:=oo;have n:Grew wr (wr.alloc (.cells #[.int .i64 l.id,.int .i64 l.unit,.string l.name,.string l.note,.slice B l.ext.length d] 100)):=(gK wr).alloc _;have S:=zh (H.hold n);have a5:=zh (gZ wr 100 #[.int .i64 l.id,.int .i64 l.unit,.string l.name,.string l.note,.slice B l.ext.length d] rfl);have U:=zh (hb.grew n);have V:=zh (hg.trans n);have x1:=hb.cell 1;have a6:=hb.lt;clear hn hz m hv a1 H hb hg n;go_wp2_with fail;refine (Nz B d l T.tracks _ S oo D.1 D.2).mono ?_;rintro e w4 ⟨rfl,g4⟩;have W:=zh (U.grew g4);have X:=zh (V.out.trans g4);clear c0 c1 c2 c3 c4 x1 g4;go_wp2_with fail
      go_roundg (T.labels.length - (k+1))
      case measure=>rw [t.out];omega
      case rel=>exact ⟨k+1,oo,oo,by go_num,by rw [HN.out],W,X⟩
    . have u:k=T.labels.length:=oo;subst u;obtain ⟨s,hs⟩:∃s,Em T T.labels.length=s:=⟨_,rfl⟩;rw [hs] at m ⊢;have Y:=zh (HE.out.trans (by rw [hs]));have x:=B6 s;have E:s.size=1024*(T.labels.length+1):=m;have Z:=zh E;have F:=UB s;have ad:=zh F;clear hs m hb hg F E;go_wp2_with fail
      go_loopg [3,6] (s.size / 128) (λgk av ov wr'=>∃k:Nat,k<=s.size / 128/\gk=s.size / 128 - k/\av=.string (En s k)/\OwnL wr' w.heap.size 9 1 ov (((D7 s).take k).map FC)/\Grew w wr')
      case atStart=>exact ⟨0,oo,oo,by rw [ad.out],OwnL.nil _ _ _ _,HG⟩
      case round=>
       obtain ⟨k,hk,g,rfl,z,hg⟩:=hrel;have t:=zh g;have ae:=hg.size;clear g;have y:=OY s k oo;have G:=Z.out;by_cases f:k<s.size / 128
       . have a7:(En s k).toList.isEmpty=false:=by
          cases hq:(En s k).toList with
          | nil=>
            have h9:En s k=⟨#[]⟩:=GB (by rw [ByteArray.toList_eq] at hq;simpa using hq);have h8:=iH ByteArray.size h9;rw [y] at h8;have h6:s.size - 128*k=0:=h8;omega
          | cons a l=>rfl
         have a8:128<=(En s k).size:=oo;have HT:=zh (PV s k oo);have HH:=zh (Th s k oo);have HN:=zh (Ug s k oo);have a9:((D7 s).take k).length<=100000:=by rw [i8];omega
         clear y x G;go_wp2_with (at_builtin;refine C2 rfl _ _ 60 rfl w.heap.size 9 1 16 _ Tryz.underlying60 Sw rfl qd _ _ (((D7 s).take k).map FC) (FC ((En s k).extract 0 128)) (by rfl) rfl rfl z (by first | rfl | (simp;done)) rfl rfl (by rw [gO];omega) (by rw [gO];omega) ae ?_;intro v' w5 an a0 bb bc)
         go_roundg (s.size / 128 - (k+1))
         case measure=>rw [t.out];omega
         case rel=>exact ⟨k+1,oo,oo,by rw [<-HN.out],by rw [HT.out,gm,<-HH.out];exact an,a0 _ hg (gM _)⟩
       . have u:128*k=s.size:=oo
         have he:En s k=⟨#[]⟩:=by
          apply ByteArray.ext;apply Array.eq_empty_of_size_eq_zero;show (En s k).size=0;omega
         have HF:=zh (show (D7 s).take k=D7 s from iL (by rw [x];omega));have HO:=zh z;have al:=zh hg;rw [he];clear u he z hg y x G;go_wp2_with fail;go_ret;exact ⟨_,rfl,by have:=HO.out;rw [HF.out] at this;rw [Y.out];exact this,al⟩
end

theorem OO (T U:Tab) (h:(AW T).length=0\/(AW U).length=0):Bz T U=[]:=by
 unfold Bz;split
 . rename_i hc;have h0:(AW T).length=0:=oo;rw [h0];rfl
 . rfl
theorem Tm (T U:Tab) (h:¬T.tracks=U.tracks):Bz T U=[]:=by
 unfold Bz;rw [if_neg (λhc=>h hc.2)]
theorem VJ (T U:Tab) (h1:(AW T).length≠0) (h2:(AW U).length≠0) (ht:T.tracks=U.tracks):Bz T U=C1 (AW T) (AW U) (AW U).length:=by
 have hl:=RY T U h1 h2 ht;unfold Bz;rw [if_pos ⟨hl,ht⟩,hl]
section
variable (A A2:Option Addr) (c c2:Nat) (xs ys:List LabE) (T U:Tab) (w:World)
theorem SA (h:TabAt w A c xs T) (hs:SmallT T) (h2:TabAt w A2 c2 ys U) (q:SmallT U):
 Calls Tryz.prog 134 #[.agg #[.string T.name,.int .i64 T.tracks,.slice A T.labels.length c],.agg #[.string U.name,.int .i64 U.tracks,.slice A2 U.labels.length c2]] w λe w'=>∃v,e=.returned v/\OwnL w' w.heap.size 65 2 v ((Bz T U).map wrC)/\Grew w w':=by
 have B:=((gK w).alloc (.cells #[.string T.name,.int .i64 T.tracks,.slice A T.labels.length c] 50)).alloc (.cells #[.string U.name,.int .i64 U.tracks,.slice A2 U.labels.length c2] 50);have f:=(gZ w 50 #[.string T.name,.int .i64 T.tracks,.slice A T.labels.length c] rfl).alloc (.cells #[.string U.name,.int .i64 U.tracks,.slice A2 U.labels.length c2] 50);have a:=gZ (w.alloc (.cells #[.string T.name,.int .i64 T.tracks,.slice A T.labels.length c] 50)) 50 #[.string U.name,.int .i64 U.tracks,.slice A2 U.labels.length c2] (n:=w.heap.size+1) qs;have C:=zh f;have D:=zh a;have HT:=zh h;have HU:=zh h2;have HS:=zh hs;have S:=zh q;have l:=zh B;have a9:=Ja T hs.len;have bb:=Ja U q.len;have b:=zh (show ∀w1:World,Grew ((w.alloc (.cells #[.string T.name,.int .i64 T.tracks,.slice A T.labels.length c] 50)).alloc (.cells #[.string U.name,.int .i64 U.tracks,.slice A2 U.labels.length c2] 50)) w1->(λw':World=>w'.cell? ⟨w.heap.size,0,none⟩=some (.string T.name)/\w'.cell? ⟨w.heap.size,1,none⟩=some (.int .i64 T.tracks)/\w'.cell? ⟨w.heap.size,2,none⟩=some (.slice A T.labels.length c)/\w'.cell? ⟨w.heap.size+1,0,none⟩=some (.string U.name)/\w'.cell? ⟨w.heap.size+1,1,none⟩=some (.int .i64 U.tracks)/\w'.cell? ⟨w.heap.size+1,2,none⟩=some (.slice A2 U.labels.length c2)) w1 from λw1 g=>⟨(f.grew g).cell 0,(f.grew g).cell 1,(f.grew g).cell 2,(a.grew g).cell 0,(a.grew g).cell 1,(a.grew g).cell 2⟩);have hS:=b.out _ (gK ((w.alloc (.cells #[.string T.name,.int .i64 T.tracks,.slice A T.labels.length c] 50)).alloc (.cells #[.string U.name,.int .i64 U.tracks,.slice A2 U.labels.length c2] 50))).drew;have m:=zh ((gK ((w.alloc (.cells #[.string T.name,.int .i64 T.tracks,.slice A T.labels.length c] 50)).alloc (.cells #[.string U.name,.int .i64 U.tracks,.slice A2 U.labels.length c2] 50))).drew);clear h hs h2 q f a B;go_enter Tryz.func134,Tryz.ntmps134;go_wp2_with fail;obtain ⟨w0,z⟩:∃w0,w0=(w.alloc (.cells #[.string T.name,.int .i64 T.tracks,.slice A T.labels.length c] 50)).alloc (.cells #[.string U.name,.int .i64 U.tracks,.slice A2 U.labels.length c2] 50):=⟨_,rfl⟩;have bc:w0.heap.size=w.heap.size+2:=by rw [z];simp
 rw [<-z] at C D l b m hS ⊢;clear z;refine AB [] (λw':World=>w'.cell? ⟨w.heap.size,0,none⟩=some (.string T.name)/\w'.cell? ⟨w.heap.size,1,none⟩=some (.int .i64 T.tracks)/\w'.cell? ⟨w.heap.size,2,none⟩=some (.slice A T.labels.length c)/\w'.cell? ⟨w.heap.size+1,0,none⟩=some (.string U.name)/\w'.cell? ⟨w.heap.size+1,1,none⟩=some (.int .i64 U.tracks)/\w'.cell? ⟨w.heap.size+1,2,none⟩=some (.slice A2 U.labels.length c2)) qk ?_;refine tT 0 (some 9) hS ?_;refine tT 2 (some 11) hS ?_;refine tO 1 λK' hK=>?_;go_wp2_with fail;refine (Iy A c xs T _ (HT.hold (l.out.trans m)) HS).mono ?_;rintro e w3 ⟨v3,rfl,I,g3⟩;have G3:=m.out.trans g3;obtain ⟨A3,c3,rfl,a5,a6,M⟩:=I.listAt;go_wp2_with fail;refine hK.out _ _ (.inr (λ_=>b _ G3)) ?_;clear hK hS;have hS:=b.out _ G3;refine tO 3 λK' hK=>?_;go_wp2_with fail;refine (Iy A2 c2 ys U _ (HU.hold (l.out.trans G3)) S).mono ?_;rintro e w4 ⟨v4,rfl,J,g4⟩;have G4:=G3.trans g4;obtain ⟨A4,c4,rfl,a7,a8,N⟩:=J.listAt;go_wp2_with fail;refine hK.out _ _ (.inr (λ_=>b _ G4)) ?_;clear hK hS;have hS:=b.out _ G4;refine tQ 4 5 ?_;refine tQ 5 6 ?_;refine AA qk ?_ _;have r:=zh (C.grew G4);have s:=zh (D.grew G4);have j:=zh (l.out.trans G4);have V:=zh (M.keep (gM _) g4);have W:=zh N;have bd:w3.heap.size<=w4.heap.size:=g4.size;have x1:=r.cell 1;have u1:=s.cell 1;have bf:=r.out.lt;have bk:=s.out.lt;clear hS I J M N g3 g4 G3 G4 a5 a7 a6 a8 b m;have bl:(((AW T).map FC).length)=(AW T).length:=gO ..;by_cases h0:(AW T).length=0
 . have hb:(((AW T).length:Int)==0)=true:=by rw [jR];omega
   have HD:=zh (OO T U (.inl h0));clear h0;go_wp2_with fail;go_ret;exact ⟨_,rfl,by rw [HD.out];exact OwnL.nil _ _ _ _,j⟩
 have hb:(((AW T).length:Int)==0)=false:=by rw [iD];omega
 by_cases h1:(AW U).length=0
 . have hc:(((AW U).length:Int)==0)=true:=by rw [jR];omega
   have HD:=zh (OO T U (.inr h1));clear h0 h1;go_wp2_with fail;go_ret;exact ⟨_,rfl,by rw [HD.out];exact OwnL.nil _ _ _ _,j⟩
 have hc:(((AW U).length:Int)==0)=false:=by rw [iD];omega
 by_cases ht:T.tracks=U.tracks;rotate_left
 . have hd:(T.tracks != U.tracks)=true:=by rw [iW];exact ht
   have HD:=zh (Tm T U ht);clear h0 h1 ht;go_wp2_with fail;go_ret;exact ⟨_,rfl,by rw [HD.out];exact OwnL.nil _ _ _ _,j⟩
 have hd:(T.tracks != U.tracks)=false:=by rw [jw];exact ht
 have HD:=zh (VJ T U h0 h1 ht);have E:=RY T U h0 h1 ht;have Z:=zh (λk (h1:k<(AW T).length) (h2:k<(AW U).length)=>ZD (AW T) (AW U) k h1 h2);have ad:=zh (λk (h1:k<(AW T).length) (h2:k<(AW U).length)=>aE (AW T) (AW U) k h1 h2);have ae:=zh E;clear h0 h1 ht x1 u1 E;have x1:=r.cell 1;have u1:=s.cell 1;generalize AW T=X at*
 generalize AW U=Y at*
 go_wp2_with fail
 go_loopg [7,30] Y.length (λgk ov i wr=>∃k:Nat,k<=Y.length/\gk=Y.length - k/\i=.int .i64 k/\OwnL wr w4.heap.size 65 2 ov ((C1 X Y k).map wrC)/\Grew w4 wr)
 case atStart=>exact ⟨0,oo,oo,rfl,OwnL.nil _ _ _ _,gK _⟩
 case round=>
  obtain ⟨k,hk,O,rfl,p,hg⟩:=hrel;have F:=zh O;have HG:=zh hg;have o:=hg.size;clear O hb hc hd x1 u1;by_cases u:k<Y.length
  . have t:k<X.length:=by have:=ae.out;omega
    obtain ⟨b1,o1,rfl,a,P⟩:=V.out (by rw [gO];omega);obtain ⟨b2,o2,rfl,Q,R⟩:=W.out (by rw [gO];omega);obtain ⟨x,hx⟩:∃x,X[k]=x:=⟨_,rfl⟩;obtain ⟨y,hy⟩:∃y,Y[k]=y:=⟨_,rfl⟩;have a:b1<w4.heap.size:=oo
    have q0:wr.cell? ⟨b1,o1+k,none⟩=some (.string x):=by
     rw [hg.cellEq _ _ a];have:=P k (FC x) (by rw [gP,gJ t,hx];rfl) 0 _ rfl;simpa using this
    have p0:wr.cell? ⟨b2,o2+k,none⟩=some (.string y):=by
     rw [hg.cellEq _ _ Q];have:=R k (FC y) (by rw [gP,gJ u,hy];rfl) 0 _ rfl;simpa using this
    have al:=gW a o;have G:=gW Q o;have hS:(λw':World=>w'.cell? ⟨b1,o1+k,none⟩=some (.string x)/\w'.cell? ⟨b2,o2+k,none⟩=some (.string y)) wr.drew:=⟨q0,p0⟩;have H:=zh p;have bn:=Wd X Y k;clear P R hg p;by_cases he:x=y
    . have HQ:=zh (show (x.toList==y.toList)=true from by rw [he,jR]);have HN:=zh (show C1 X Y (k+1)=C1 X Y k from Z.out k t u (by rw [hx,hy,he]));clear he hx hy;go_wp2_with fail;refine AB [] (λw':World=>w'.cell? ⟨b1,o1+k,none⟩=some (.string x)/\w'.cell? ⟨b2,o2+k,none⟩=some (.string y)) qk ?_;refine tQ 0 33 ?_;refine tQ 1 34 ?_;refine tQ 2 35 ?_;refine tT 3 (some 36) hS ?_;refine tQ 4 37 ?_;refine tQ 5 38 ?_;refine tQ 6 39 ?_;refine tT 7 (some 40) hS ?_;refine tQ 8 41 ?_
      try rw [HQ.out]
      refine AA qk ?_ _;clear hS q0 p0;go_wp2_with fail
      go_roundg (Y.length - (k+1))
      case measure=>rw [F.out];omega
      case rel=>exact ⟨k+1,oo,oo,by go_num,by rw [HN.out];exact H.drew,HG.drew⟩
    . have HQ:=zh (show (x.toList==y.toList)=false from iD.2 (λe=>he (GB (by simpa [ByteArray.toList_eq] using e))));have HN:=zh (show C1 X Y (k+1)=C1 X Y k++[((k:Int),y)] from by rw [ad.out k t u (by rw [hx,hy];exact he),hy]);clear he hx hy;go_wp2_with fail;refine AB [] (λw':World=>w'.cell? ⟨b1,o1+k,none⟩=some (.string x)/\w'.cell? ⟨b2,o2+k,none⟩=some (.string y)) qk ?_;refine tQ 0 33 ?_;refine tQ 1 34 ?_;refine tQ 2 35 ?_;refine tT 3 (some 36) hS ?_;refine tQ 4 37 ?_;refine tQ 5 38 ?_;refine tQ 6 39 ?_;refine tT 7 (some 40) hS ?_;refine tQ 8 41 ?_
      try rw [HQ.out]
      refine AA qk ?_ _;clear hS;obtain ⟨wz,d⟩:∃wz,wz=wr.drew:=⟨_,rfl⟩;have an:=zh (show OwnL wz w4.heap.size 65 2 _ ((C1 X Y k).map wrC) from by rw [d];exact H.drew);have av:=zh (show Grew w4 wz from by rw [d];exact HG.drew);have p0:wz.cell? ⟨b2,o2+k,none⟩=some (.string y):=by rw [d];exact p0
      have G:b2<wz.heap.size:=by rw [d];exact G
      have a0:w4.heap.size<=wz.heap.size:=by rw [d];exact o
      rw [<-d];clear d q0 o al;go_wp2_with (at_builtin;refine C2 rfl _ _ 24 rfl w4.heap.size 65 2 24 _ Tryz.underlying24 UC rfl qd wz _ ((C1 X Y k).map wrC) (wrC ((k:Int),y)) (by rfl) rfl rfl an (by first | rfl | (simp;done)) rfl rfl (by rw [gO];omega) (by rw [gO];omega) a0 ?_;intro v' w5 K L a4 br);have a1:=zh K;have a2:=zh (L _ av (gM _));clear K L a4 p0
      go_roundg (Y.length - (k+1))
      case measure=>rw [F.out];omega
      case rel=>exact ⟨k+1,oo,oo,by go_num,by rw [HN.out,gm];exact a1.out,a2⟩
  . have a3:k=Y.length:=oo;subst a3;have HO:=zh (p.lower2 (b':=w.heap.size) (by have:=j.size;omega));clear p hg;go_wp2_with fail;go_ret;exact ⟨_,rfl,by rw [HD.out];exact HO.out,j.out.trans HG⟩
end

end
section
open Go.RowKit
theorem WY (a:List (Nat × Nat)) (t:Nat) (h:∀r∈a,1<=r.2):∀r∈Ff a t,1<=r.2:=by
 rcases Ex a with rfl | ⟨i,x,rfl⟩
 . rw [Lh];intro r hr;rw [gQ.1 hr];exact gM _
 . rw [DT];split
   . intro r hr;rcases iA.1 hr with hr | hr
     . exact h r (ij _ hr)
     . rw [gQ.1 hr];exact Nat.le_add_left _ _
   . intro r hr;rcases iA.1 hr with hr | hr
     . exact h r hr
     . rw [gQ.1 hr];exact gM _
theorem Xs (s:List Nat):∀r∈Ej s,1<=r.2:=by
 have b:∀(s:List Nat) (a:List (Nat × Nat)),(∀r∈a,1<=r.2)->∀r∈s.foldl Ff a,1<=r.2:=by
  intro s
  induction s with
  | nil=>intro a h;exact h
  | cons t s ih=>intro a h;exact ih _ (WY a t h)
 exact b s [] (λr hr=>by cases hr)
theorem KW (s:List Nat):Ej (CJ (Ej s))=Ej s:=by rw [KH]
theorem OG (Z:List (Nat × Nat)) (hp:∀r∈Z,1<=r.2) (hg:Z.Pairwise λa b=>a.1+a.2≠b.1):Ej (CJ Z)=Z:=by
 have c:∀(Z I:List (Nat × Nat)),(∀r∈Z,1<=r.2)->(I++Z).Pairwise (λa b=>a.1+a.2≠b.1)->(CJ Z).foldl Ff I=I++Z:=by
  intro Z
  induction Z with
  | nil=>intro I _ _;simp [CJ]
  | cons x Z ih=>
    intro I hp hg;have h1:=hp x (iO ..)
    have e:Cc I (x.1,x.2)=I++[x]:=by
     rcases Ex I with rfl | ⟨i,y,rfl⟩
     . unfold Cc;rw [if_neg (by simp only [];omega),if_neg (λh=>h.1 rfl)]
     . rw [H9 i y (x.1,x.2) (by simp only [];omega),if_neg (by
        have:=(pairwise_append.1 hg).2.2 y qs x qs
        exact this)]
    rw [Fy,iz,<-P3 I x.1 x.2,e,ih (I++[x]) (λr hr=>hp r (iJ _ hr)) (by rw [iZ];exact hg),iZ];rfl
 have:=c Z [] hp (by simpa using hg);simpa [Ej] using this
theorem VA (l:List (Nat × Nat)):BO l 0=[]:=by cases l<;>simp [BO]
theorem Pd:∀(l:List (Nat × Nat)) (n:Nat),∀b∈BO l n,∃c∈l,b.1=c.1
 | [],n,b,hb=>by simp [BO] at hb
 | r::l,n,b,hb=>by
   unfold BO at hb;split at hb
   . cases hb
   . rcases jB.1 hb with rfl | hb
     . exact ⟨r,iO ..,rfl⟩
     . obtain ⟨c,hc,e⟩:=Pd l _ b hb;exact ⟨c,iJ _ hc,e⟩
theorem My:∀(l:List (Nat × Nat)) (n:Nat),l.Pairwise (λa b=>a.1+a.2≠b.1)->(BO l n).Pairwise (λa b=>a.1+a.2≠b.1)
 | [],n,_=>by simp [BO]
 | r::l,n,h=>by
   obtain ⟨h1,h2⟩:=jQ.1 h;unfold BO;split
   . exact Pairwise.nil
   . refine jQ.2 ⟨λb hb=>?_,My l _ h2⟩;obtain ⟨c,hc,e⟩:=Pd l _ b hb;by_cases h0:n - min r.2 n=0
     . rw [h0,VA] at hb;cases hb
     . have:=h1 c hc;rw [e];simp only [];omega
theorem Wq (S:Nat->Bool):(Bx (AH S)).Pairwise (λa b=>a.1+a.2≠b.1):=by
 have h0:(AH S).Pairwise (λa b=>a.1+a.2≠b.1/\b.1+b.2≠a.1):=(KL S 128).1.imp (λ{a b} h=>⟨oo,oo⟩);have hp:=E5 _ (Cv S) (DY S);have h1:=(hp.pairwise_iff (λ{a b} h=>⟨h.2,h.1⟩)).1 h0;exact h1.imp (λh=>h.1)
theorem Uz (S:Nat->Bool) (n most:Int) (h:(Bb S n most).2=0):Ej (CJ (Bb S n most).1)=(Bb S n most).1:=by
 unfold Bb at h ⊢;by_cases h1:n<1\/most<1
 . rw [if_pos h1] at h;exact absurd h qd
 rw [if_neg h1] at h ⊢;by_cases h2:(Bv n (AH S)).2≠0
 . rw [if_pos h2];exact OG _ (λr hr=>by rw [gQ.1 hr];simp only [];omega) (pairwise_singleton ..)
 rw [if_neg h2] at h ⊢;by_cases h3:n.toNat - Ca (Bx (AH S))≠0\/most<((BO (Bx (AH S)) n.toNat).length:Int)
 . rw [if_pos h3] at h;exact absurd h qd
 rw [if_neg h3];exact OG _ (Xf _ _ (λr hr=>(Cv S r ((Hi _ (Cv S) r).1 hr)).1)) (My _ _ (Wq S))
theorem eG (I:List (Nat × Nat)) (x:Nat × Nat):∀k,(Ch (x.1+x.2,k)).foldl Ff (I++[x])=I++[(x.1,x.2+k)]:=by
 intro k
 induction k with
 | zero=>simp [Ch]
 | succ k ih=>
   rw [LZ,iz,ih,foldl_cons,foldl_nil,DT,if_pos (by simp only [];omega)];rfl
theorem Yi (e f:List (Int × Int)) (n:Int) (h:(Ds e f n).2=0):Ej (CJ (Ds e f n).1)=(Ds e f n).1:=by
 rcases J5 e f n with h0 | ⟨I,x,k,hL,a,hk,b,c,h0⟩
 . rw [h0] at h;exact absurd h qd
 rw [h0] at h ⊢;unfold Oq at h ⊢;by_cases h1:n.toNat - k=0
 . rw [if_pos h1];show Ej (CJ (Eg I x k))=Eg I x k;rw [K6];unfold Ej;rw [iz,show (CJ (I++[x])).foldl Ff []=I++[x] from by rw [<-hL,Fr];exact KW _];exact eG I x k
 rw [if_neg h1] at h ⊢;by_cases h2:16 - ((I.length:Int)+1)<1
 . rw [if_pos h2] at h;exact absurd h qd
 rw [if_neg h2] at h ⊢;by_cases h3:(Mc I x f n.toNat k).2≠0
 . rw [if_pos h3] at h;exact absurd h h3
 rw [if_neg h3];show Ej (CJ (Bk _))=Bk _;rw [Fr,KW]
theorem fQ (l:List (Int × Int)) (t:Int) (ht:okT t=true) (h:l.any (GQ t)=false):∀i∈BL l,ttS t<=(i:Int)/\(i:Int)<t:=by
 intro i hi;have a:=Mo l i hi;have hm:=(CT l i).1 hi;unfold AG at hm;obtain ⟨r,hr,b⟩:=jZ.1 hm;have hb:=im.1 h r hr;have hs:=M5 r.1 r.2 i a;rw [show (r.1,r.2)=r from rfl,b] at hs;have c:=iQ hs.symm;unfold GQ at hb;simp only [Bool.or_eq_true,iV,not_or] at hb;unfold ttS at hb ⊢;rw [if_pos ht] at hb ⊢;unfold okT at ht;have d:=iQ ht;omega
theorem fF (Z:List (Nat × Nat)) (t:Int) (hp:∀r∈Z,1<=r.2) (h:∀i∈CJ Z,ttS t<=(i:Int)/\(i:Int)<t):(AP Z).any (GQ t)=false:=by
 rw [im];intro r hr;unfold AP at hr;obtain ⟨z,hz,rfl⟩:=gV.1 hr;have a:=hp z hz;have h1:=h z.1 (List.mem_flatMap.2 ⟨z,hz,(G7 z _).2 ⟨gM _,oo⟩⟩);have h2:=h (z.1+z.2 - 1) (List.mem_flatMap.2 ⟨z,hz,(G7 z _).2 ⟨oo,oo⟩⟩);unfold GQ;simp only [Bool.or_eq_true,iV,not_or];omega
theorem OE (t:Int) (x:Lab) (Z:List (Nat × Nat)) (ht:okT t=true) (a:idB x=true) (c:txB x=true) (hZ:x.ext=AP Z) (hj:Ej (CJ Z)=Z) (hb:∀r∈Z,r.1+r.2<=128) (h1:1<=Z.length) (e:Z.length<=16) (b:(CJ Z).Nodup) (d:∀i∈CJ Z,ttS t<=(i:Int)/\(i:Int)<t):BW x t=true:=by
 have f:∀r∈Z,1<=r.2:=λr hr=>Xs (CJ Z) r (by rw [hj];exact hr);have hc:cnB x=true:=by unfold cnB;rw [hZ,Ag];exact iB ⟨h1,e⟩
 have g:jnB x=true:=by
  unfold jnB;rw [hZ,Fr,Bu Z hb,hj,iU];exact ⟨iB rfl,iB b⟩
 have hi:inB x t=true:=by unfold inB;rw [hZ,fF Z t f d];rfl
 unfold BW;rw [ht,a,c,hc,g,hi];rfl
theorem Ev (l:Lab) (t:Int) (h:BW l t=true):AP (Bk l.ext)=l.ext/\(BL l.ext).Nodup/\(∀i∈BL l.ext,ttS t<=(i:Int)/\(i:Int)<t)/\1<=l.ext.length/\l.ext.length<=16/\(Bk l.ext).length=l.ext.length:=by
 obtain ⟨h1,h2,h3,h4,h5,h6⟩:=Dh l t h;unfold jnB at h5;rw [iU] at h5;have e:=iQ h5.1;unfold inB at h6;unfold cnB at h4;have a:=iQ h4;have h7:(Bk l.ext).length=l.ext.length:=by rw [<-Ag (Bk l.ext),e]
 exact ⟨e,iQ h5.2,fQ _ t h1 (by simpa using h6),a.1,a.2,h7⟩

theorem SD (T:Tab) (h:GoodT T) (i j:Nat) (hi:i<T.labels.length) (hj:j<T.labels.length) (h1:emL T.labels[i]=false) (h2:emL T.labels[j]=false) (he:Gs T.labels[i]=Gs T.labels[j]):i=j:=by
 have hk:=h.keys;unfold CQ at hk;rw [Nodup,jh,pairwise_filter,jr] at hk;rcases Nat.lt_trichotomy i j with a | b | c
 . exact absurd he (hk i j hi hj a (by rw [h1];rfl) (by rw [h2];rfl))
 . exact b
 . exact absurd he.symm (hk j i hj hi c (by rw [h2];rfl) (by rw [h1];rfl))
theorem Ld (l:Lab) (h:l.id≠0):emL l=false:=by
 cases he:emL l with
 | false=>rfl
 | true=>rw [(Fl l).1 he] at h;exact absurd rfl h
theorem ap (T:Tab) (h:GoodT T) (id unit:Int) (i j:Nat) (hi:i<T.labels.length) (hj:j<T.labels.length) (h1:T.labels[i].id=id) (h2:T.labels[j].id=id) (h0:id≠0) (hu:(decide (0<T.labels[i].unit))=decide (0<T.labels[j].unit)):i=j:=
 SD T h i j hi hj (Ld _ (by rw [h1];exact h0)) (Ld _ (by rw [h2];exact h0)) (by unfold Gs;rw [h1,h2,hu])
theorem dU (T:Tab) (hs:SmallT T) (id a:Int):(CK T id a).1.ext.length<=1000:=by
 rcases H5 T id a with ⟨k,hk,_,h,_⟩ | ⟨_,h,_⟩
 . rw [h];exact hs.ext _ (gS hk)
 . rw [h];decide

theorem O8 {α:Type _} (ls:List α) (k:Nat) (hk:k<ls.length) (x:α):ls.set k x=ls.take k++x::ls.drop (k+1):=by
 rw [set_eq_take_append_cons_drop,if_pos hk]
theorem Hr {α:Type _} (ls:List α) (k:Nat) (hk:k<ls.length):ls=ls.take k++ls[k]::ls.drop (k+1):=by
 rw [<-jS hk,jo]
theorem PI (a b:List Lab):CQ (a++b)=CQ a++CQ b:=by unfold CQ;rw [jb,gm]
theorem Ns (x:Lab) (b:List Lab):CQ (x::b)=(if emL x=true then [] else [Gs x])++CQ b:=by
 unfold CQ;rw [filter_cons];cases h:emL x<;>simp
theorem Jf (a b:List Lab):BA (a++b)=BA a++BA b:=by simp [BA]
theorem Hu (x:Lab) (b:List Lab):BA (x::b)=x.ext++BA b:=rfl
theorem QA (ls:List Lab) (p:Int × Bool) (h:p∈CQ ls):∃(j:Nat) (hj:j<ls.length),emL ls[j]=false/\Gs ls[j]=p:=by
 unfold CQ at h;obtain ⟨l,hl,rfl⟩:=gV.1 h;obtain ⟨hm,he⟩:=ip.1 hl;obtain ⟨j,hj,rfl⟩:=List.getElem_of_mem hm;exact ⟨j,hj,by simpa using he,rfl⟩
theorem Po {α:Type _} {A K0 K D:List α} (h:(A++(K0++D)).Nodup) (hK:K.Nodup) (hA:∀a∈A,∀b∈K,a≠b) (hD:∀a∈K,∀b∈D,a≠b):(A++(K++D)).Nodup:=by
 obtain ⟨h1,h2,h3⟩:=jA.1 h;obtain ⟨_,h5,_⟩:=jA.1 h2;refine jA.2 ⟨h1,jA.2 ⟨hK,h5,hD⟩,λa ha b hb=>?_⟩;rcases iA.1 hb with hb | hb
 . exact hA a ha b hb
 . exact h3 a ha b (iX _ hb)
theorem F7 (T:Tab) (h:GoodT T) (k:Nat) (hk:k<T.labels.length) (x:Lab) (hx:emL x=true\/BW x T.tracks=true)
 (d:emL x=true\/∀j (hj:j<T.labels.length),j≠k->emL T.labels[j]=false->Gs T.labels[j]≠Gs x)
 (g:(BL x.ext).Nodup) (f:∀t∈BL x.ext,t∈BL T.labels[k].ext\/t ∉ BL (BA T.labels)):GoodT { T with labels:=T.labels.set k x }:=by
 refine ⟨h.tr,h.nm,?_,?_,?_,?_⟩
 . rw [<-h.len];simp
 . intro l hl;rcases iT hl with hl | rfl
   . exact h.ok l hl
   . exact hx
 . have h0:=h.keys;show (CQ (T.labels.set k x)).Nodup;rw [Hr T.labels k hk,PI,Ns] at h0;rw [O8 _ k hk,PI,Ns];refine Po h0 ?_ ?_ ?_
   . split<;>simp
   . intro a ha b hb;split at hb
     . cases hb
     . rename_i he;rw [gQ.1 hb];obtain ⟨j,hj,e1,e2⟩:=QA _ _ ha;rw [i8] at hj;rw [getElem_take] at e1 e2;rw [<-e2];rcases d with c | c
       . exact absurd c he
       . exact c j oo oo e1
   . intro a ha b hb;split at ha
     . cases ha
     . rename_i he;rw [gQ.1 ha];obtain ⟨j,hj,e1,e2⟩:=QA _ _ hb;rw [length_drop] at hj;rw [getElem_drop] at e1 e2;rw [<-e2];rcases d with c | c
       . exact absurd c he
       . exact λe=>c (k+1+j) oo oo e1 e.symm
 . have h0:=h.seq;show (BL (BA (T.labels.set k x))).Nodup;rw [Hr T.labels k hk,Jf,Hu,CU,CU] at h0;rw [O8 _ k hk,Jf,Hu,CU,CU];obtain ⟨_,g2,g3⟩:=jA.1 h0;obtain ⟨_,_,g6⟩:=jA.1 g2;refine Po h0 g (λa ha b hb e=>?_) (λa ha b hb e=>?_)
   . subst e;rcases f a hb with hc | hc
     . exact g3 a ha a (ij _ hc) rfl
     . refine hc ?_;rw [Hr T.labels k hk,Jf,Hu,CU];exact ij _ ha
   . subst e;rcases f a ha with hc | hc
     . exact g6 a hc a hb rfl
     . refine hc ?_;rw [Hr T.labels k hk,Jf,Hu,CU,CU];exact iX _ (iX _ hb)
def O5 (a b:List Lab):Nat:=(a.zip b).countP λp=>!eqL p.1 p.2
theorem Hk (x y:Lab) (a b:List Lab):O5 (x::a) (y::b)=O5 a b+if eqL x y=true then 0 else 1:=by
 unfold O5;rw [zip_cons_cons,countP_cons];cases h:eqL x y<;>simp
theorem Xy (a:List Lab):O5 a a=0:=by
 induction a with
 | nil=>rfl
 | cons x a ih=>rw [Hk,ih,if_pos ((Jd x x).2 rfl)]
theorem Ro:∀(a c:List Lab) (k:Nat) (x:Lab),O5 (a.set k x) c<=O5 a c+1
 | [],c,k,x=>by simp [O5]
 | y::a,[],k,x=>by unfold O5;simp
 | y::a,z::c,0,x=>by
   rw [set_cons_zero,Hk,Hk];split<;>split<;>omega
 | y::a,z::c,k+1,x=>by
   rw [set_cons_succ,Hk,Hk];have:=Ro a c k x;omega
structure KeepT (T U:Tab) (m:Nat):Prop where
 good:GoodT U
 name:U.name=T.name
 tracks:U.tracks=T.tracks
 len:U.labels.length=T.labels.length
 diff:O5 U.labels T.labels<=m
theorem KeepT.refl (T:Tab) (h:GoodT T):KeepT T T 0:=⟨h,rfl,rfl,rfl,by rw [Xy];exact gM _⟩
theorem KeepT.set {T U:Tab} {m:Nat} (h:KeepT T U m) (k:Nat) (x:Lab) (hg:GoodT { U with labels:=U.labels.set k x }):KeepT T { U with labels:=U.labels.set k x } (m+1):=
 ⟨hg,h.name,h.tracks,by rw [<-h.len];simp,by have:=Ro U.labels T.labels k x;have:=h.diff;show O5 (U.labels.set k x) T.labels<=_;omega⟩
theorem GC (T:Tab) (h:GoodT T) (i:Nat):AG (Bp T) i=true->(ttS T.tracks<=(i:Int)/\(i:Int)<T.tracks)/\AG (BA T.labels) i=false:=by
 intro hm;have a:=JU _ _ hm;unfold Bp at hm;rw [if_pos ((AX T).2 h)] at hm;unfold J0 at hm;rw [GI _ i a,iU,jq] at hm;unfold M8 at hm;exact ⟨iQ hm.1,hm.2⟩
theorem Lz (T U:Tab) (id a:Int) (F:Nat->Lab->List Lab × Int) (h:Bt T id a F=(U,0)):
 GoodT T/\∃(k:Nat) (hk:k<T.labels.length),Fd id a T.labels[k]=true/\(F k T.labels[k]).2=0/\U={ T with labels:=(F k T.labels[k]).1 }:=by
 rcases NJ T id a F with ⟨_,hx⟩ | ⟨_,_,hx⟩ | ⟨hv,k,hk,_,b,hx⟩
 . rw [hx] at h;injection h with _ h;exact absurd h qd
 . rw [hx] at h;injection h with _ h;exact absurd h qd
 rcases hx with ⟨h0,hx⟩ | ⟨h0,hx⟩
 . rw [hx] at h;injection h with h _;exact ⟨(AX T).1 hv,k,hk,b,h0,h.symm⟩
 . rw [hx] at h;injection h with _ h;exact absurd h h0
theorem Hd (T:Tab) (h:GoodT T) (id a:Int) (k:Nat) (hk:k<T.labels.length) (hh:Fd id a T.labels[k]=true):emL T.labels[k]=false/\BW T.labels[k] T.tracks=true:=by
 obtain ⟨h1,h2,_⟩:=(G9 _ _ _).1 hh;have he:=Ld _ (by rw [h2];exact h1);refine ⟨he,?_⟩;rcases h.ok _ (gS hk) with h3 | h3
 . rw [he] at h3;cases h3
 . exact h3
theorem OP (T:Tab) (h:GoodT T) (k:Nat) (hk:k<T.labels.length) (he:emL T.labels[k]=false) (x:Lab) (hx:Gs x=Gs T.labels[k]):
 ∀j (hj:j<T.labels.length),j≠k->emL T.labels[j]=false->Gs T.labels[j]≠Gs x:=
 λj hj hne h1 e=>hne (SD T h j k hj hk h1 he (by rw [e,hx]))
theorem IT (Z:List (Nat × Nat)) (h:(CJ Z).length≠0):1<=Z.length:=by
 cases Z with
 | nil=>exact absurd rfl h
 | cons x Z=>simp
theorem EU (T U:Tab) (id a:Int) (nm nt:ByteArray) (n:Int) (h:CI T id a nm nt n=(U,0)):KeepT T U 1:=by
 unfold CI at h;by_cases h1:BG T=true/\P4 id a nm nt n;rotate_left
 . rw [if_neg h1] at h;injection h with _ h;exact absurd h qd
 rw [if_pos h1] at h;by_cases h2:T.labels.any (Ih id)=true
 . rw [if_pos h2] at h;injection h with _ h;exact absurd h qd
 rw [if_neg h2] at h;by_cases h3:IR emL T.labels<0
 . rw [if_pos h3] at h;injection h with _ h;exact absurd h qd
 rw [if_neg h3] at h;by_cases h4:(Bb (AG (Bp T)) n 16).2=0;rotate_left
 . rw [if_neg h4] at h;injection h with _ h;exact absurd h qd
 rw [if_pos h4] at h;injection h with h _;subst h;obtain ⟨hv,i1,i2,i3,i4,i5,i6,i7⟩:=h1;have hg:=(AX T).1 hv;rcases ED emL T.labels with ⟨k,hk,e,hp,_⟩ | ⟨e,_⟩;rotate_left
 . omega
 rw [e,iM];rcases RU (Bp T) n 16 i7 qd with ⟨x,hx,a1,a2,a3,a4,a5⟩ | ⟨hx,_⟩;rotate_left
 . rw [hx] at h4;exact absurd h4 qd
 have hj:=Uz _ _ _ h4;rw [hx] at hj ⊢;simp only [] at hj ⊢;have b:BL (AP x)=CJ x:=Bu x a5;have c:∀i∈BL (AP x),(ttS T.tracks<=(i:Int)/\(i:Int)<T.tracks)/\AG (BA T.labels) i=false:=λi hi=>GC T hg i (a4 i ((CT _ i).1 hi));refine (KeepT.refl T hg).set k _ (F7 T hg k hk _ (.inr ?_) (.inr ?_) a3 (λt ht=>.inr (λhm=>?_)))
 . refine OE T.tracks _ x hg.tr ?_ ?_ rfl hj a5 ?_ oo (by rw [<-b];exact a3) (λi hi=>(c i (by rw [b];exact hi)).1)
   . unfold idB;exact iB ⟨i1,i2,by show 0<=a;omega,i4⟩
   . unfold txB;exact iB ⟨i5,i6⟩
   . refine IT x ?_;rw [<-b,FW];omega
 . intro j hj _ _ he;unfold Gs at he;injection he with e1 e2;have hu:decide (0<a)=true:=iB oo;refine h2 (jZ.2 ⟨_,gS hj,?_⟩);unfold Ih;simp only [] at e1 e2;rw [e2,e1,hu];simp
 . have:=(c t ht).2;rw [(CT _ t).1 hm] at this;cases this
theorem IU (T U:Tab) (id c n:Int) (h:Bt T id c (Ho T n)=(U,0)):KeepT T U 1:=by
 obtain ⟨hg,k,hk,hh,h0,rfl⟩:=Lz T U id c _ h;obtain ⟨he,j⟩:=Hd T hg id c k hk hh;obtain ⟨_,l,m,_,_,_⟩:=Dh _ _ j;obtain ⟨r1,r2,r3,r4,r5,r6⟩:=Ev _ _ j;unfold Ho at h0 ⊢;simp only [] at h0 ⊢;obtain ⟨M,m1,m2,m3,m4,m5,m6,m7,m8,m9⟩:=el _ _ _ h0;have hb:=Vp T.labels[k].ext (Bp T) n;have hj:=Yi _ _ _ h0;have d:=Bu _ hb;have f:∀i∈M,(ttS T.tracks<=(i:Int)/\(i:Int)<T.tracks)/\AG (BA T.labels) i=false:=λi hi=>GC T hg i (m6 i hi).1
 have g:(BL (AP (Ds T.labels[k].ext (Bp T) n).1)).Nodup:=by
  rw [m1];refine jA.2 ⟨r2,m5,λa ha b hb e=>?_⟩;subst e;have:=(m6 a hb).2;rw [(CT _ a).1 ha] at this;cases this
 refine (KeepT.refl T hg).set k _ (F7 T hg k hk _ (.inr ?_) (.inr (OP T hg k hk he _ rfl)) g (λt ht=>?_))
 . refine OE T.tracks _ _ hg.tr l m rfl hj hb ?_ oo (by rw [<-d];exact g) (λi hi=>?_)
   . refine IT _ ?_;rw [<-d,m1,iI,FW];omega
   . rw [<-d,m1] at hi;rcases iA.1 hi with hi | hi
     . exact r3 i hi
     . exact (f i hi).1
 . simp only [] at ht;rw [m1] at ht;rcases iA.1 ht with ht | ht
   . exact .inl ht
   . refine .inr (λhm=>?_);have:=(f t ht).2;rw [(CT _ t).1 hm] at this;cases this
theorem Gn (T U:Tab) (id a n:Int) (h:Bt T id a (G5 T n)=(U,0)):KeepT T U 1:=by
 obtain ⟨hg,k,hk,hh,h0,rfl⟩:=Lz T U id a _ h;obtain ⟨he,d⟩:=Hd T hg id a k hk hh;obtain ⟨_,e,f,_,_,_⟩:=Dh _ _ d;obtain ⟨r1,r2,r3,r4,r5,r6⟩:=Ev _ _ d;unfold G5 at h0 ⊢;simp only [] at h0 ⊢;unfold Tw at h0;unfold Uj;by_cases hc:n<1\/(Ao T.labels[k].ext:Int)<n
 . rw [if_pos hc] at h0;exact absurd h0 qd
 rw [if_neg hc];have hs:BL (AP (Bk (AP (D9 T.labels[k].ext n.toNat))))=(BL T.labels[k].ext).take n.toNat:=by rw [KU,Zr]
 have hb:=DJ (AP (D9 T.labels[k].ext n.toNat));have b:=Bu _ hb;have c:(BL (AP (Bk (AP (D9 T.labels[k].ext n.toNat))))).Nodup:=by rw [hs];exact r2.sublist (take_sublist _ _)
 have g:(BL T.labels[k].ext).length=Ao T.labels[k].ext:=FW _;refine (KeepT.refl T hg).set k _ (F7 T hg k hk _ (.inr ?_) (.inr (OP T hg k hk he _ rfl)) c (λt ht=>?_))
 . refine OE T.tracks _ _ hg.tr e f rfl (by rw [Fr];exact KW _) hb ?_ ?_ (by rw [<-b];exact c) (λi hi=>?_)
   . refine IT _ ?_;rw [<-b,hs,i8];omega
   . have h1:=DL (AP (D9 T.labels[k].ext n.toNat))
     have h2:(D9 T.labels[k].ext n.toNat).length<=T.labels[k].ext.length:=by
      have:∀(l:List (Int × Int)) (n:Nat),(D9 l n).length<=l.length:=by
       intro l
       induction l with
       | nil=>intro n;exact gM _
       | cons r l ih=>intro n;have:=ih (n - (AV r).2);simp only [D9,i9];omega
      exact this _ _
     rw [Ag] at h1;omega
   . rw [<-b,hs] at hi;exact r3 i (jP hi)
 . simp only [] at ht;rw [hs] at ht;exact .inl (jP ht)
theorem Gq (T U:Tab) (id a:Int) (ex:List (Int × Int)) (h:Bt T id a (Gf T ex)=(U,0)):KeepT T U 1:=by
 obtain ⟨hg,k,hk,hh,h0,rfl⟩:=Lz T U id a _ h;unfold Gf at h0 ⊢;simp only [] at h0 ⊢;by_cases hc:Ao ex=Ao T.labels[k].ext/\BG { T with labels:=T.labels.set k { T.labels[k] with ext:=ex } }=true;rotate_left
 . rw [if_neg hc] at h0;exact absurd h0 qd
 exact (KeepT.refl T hg).set k _ ((AX _).1 hc.2)
theorem KT (T U:Tab) (id a:Int) (note:ByteArray) (h:Bt T id a (Et T note)=(U,0)):KeepT T U 1:=by
 obtain ⟨hg,k,hk,hh,h0,rfl⟩:=Lz T U id a _ h;obtain ⟨he,b⟩:=Hd T hg id a k hk hh;obtain ⟨h1,h2,h3,h4,h5,h6⟩:=Dh _ _ b;obtain ⟨_,r2,_⟩:=Ev _ _ b;unfold Et at h0 ⊢;by_cases hc:400<note.size
 . rw [if_pos hc] at h0;cases h0
 rw [if_neg hc];refine (KeepT.refl T hg).set k _ (F7 T hg k hk _ (.inr ?_) (.inr (OP T hg k hk he _ rfl)) r2 (λt ht=>.inl ht))
 have c:txB { T.labels[k] with note:=note }=true:=by
  unfold txB at h3 ⊢;have:=iQ h3;exact iB ⟨this.1,by show note.size<=400;omega⟩
 unfold BW;rw [h1,c,show idB { T.labels[k] with note:=note }=true from h2,show cnB { T.labels[k] with note:=note }=true from h4,show jnB { T.labels[k] with note:=note }=true from h5,show inB { T.labels[k] with note:=note } T.tracks=true from h6];rfl
theorem Pj (T:Tab) (hg:GoodT T) (k:Nat) (hk:k<T.labels.length):GoodT { T with labels:=T.labels.set k BN }:=
 F7 T hg k hk BN (.inl ((Fl _).2 rfl)) (.inl ((Fl _).2 rfl)) qd (λt ht=>by cases ht)
theorem IX (T U:Tab) (id a:Int) (h:Bt T id a (Ju T)=(U,0)):KeepT T U 1:=by
 obtain ⟨hg,k,hk,hh,h0,rfl⟩:=Lz T U id a _ h;exact (KeepT.refl T hg).set k _ (Pj T hg k hk)
theorem Gp (T U:Tab) (id unit:Int) (note:ByteArray) (h:Bt T id unit (Ig T id note)=(U,0)):KeepT T U 2:=by
 obtain ⟨hg,k,hk,hh,h0,rfl⟩:=Lz T U id unit _ h;obtain ⟨he,n⟩:=Hd T hg id unit k hk hh;obtain ⟨h1,h2,h3,h4,h5,h6⟩:=Dh _ _ n;obtain ⟨_,r2,_⟩:=Ev _ _ n;obtain ⟨i1,i2,i3⟩:=(G9 _ _ _).1 hh;unfold Ig at h0 ⊢;by_cases hu:T.labels[k].unit=0
 . rw [if_pos hu] at h0;cases h0
 rw [if_neg hu] at h0 ⊢;by_cases hc:400<note.size
 . rw [if_pos hc] at h0;cases h0
 rw [if_neg hc];simp only []
 have d:BW { T.labels[k] with unit:=0,note:=note } T.tracks=true:=by
  have o:txB { T.labels[k] with unit:=0,note:=note }=true:=by
   unfold txB at h3 ⊢;have:=iQ h3;exact iB ⟨this.1,by show note.size<=400;omega⟩
  have p:idB { T.labels[k] with unit:=0,note:=note }=true:=by
   unfold idB at h2 ⊢;have:=iQ h2;exact iB ⟨this.1,this.2.1,Int.le_refl 0,(by show (0:Int)<=1099511627776;omega)⟩
  unfold BW;rw [h1,o,p,show cnB { T.labels[k] with unit:=0,note:=note }=true from h4,show jnB { T.labels[k] with unit:=0,note:=note }=true from h5,show inB { T.labels[k] with unit:=0,note:=note } T.tracks=true from h6];rfl
 have f:Gs { T.labels[k] with unit:=0,note:=note }=(id,false):=by unfold Gs;rw [show T.labels[k].id=id from i2];rfl
 have g:∀j (hj:j<T.labels.length),emL T.labels[j]=false->Gs T.labels[j]=(id,false)->Fd id 0 T.labels[j]=true:=λj hj e1 e2=>by
  unfold Gs at e2;injection e2 with e3 e4;rcases hg.ok _ (gS hj) with h9 | h9
  . rw [e1] at h9;cases h9
  . have:=(J3 _ _ h9).2.1;have:=of_decide_eq_false e4;exact (G9 _ _ _).2 ⟨i1,e3,oo⟩
 rcases ED (Fd id 0) T.labels with ⟨i,hi,ei,w,_⟩ | ⟨ei,x⟩
 . rw [show FK T id 0=(i:Int) from ei,if_pos oo,iM];obtain ⟨_,p2,p3⟩:=(G9 _ _ _).1 w;have q:i≠k:=λe=>by subst e;exact hu p3
   have hz:=Pj T hg i hi;have r:k<(T.labels.set i BN).length:=by rw [length_set];exact hk
   have s:(T.labels.set i BN)[k]=T.labels[k]:=List.getElem_set_ne q _;refine ((KeepT.refl T hg).set i BN hz).set k _ (F7 { T with labels:=T.labels.set i BN } hz k r _ (.inr d) (.inr ?_) r2 (λt ht=>.inl (by show t∈BL ((T.labels.set i BN)[k]).ext;rw [s];exact ht)));intro j hj v e1 e2;rw [f] at e2;have l:j<T.labels.length:=by simpa using hj
   by_cases c:j=i
   . subst c;have:emL (T.labels.set j BN)[j]=true:=by rw [List.getElem_set_self];exact (Fl _).2 rfl
     have b:emL (T.labels.set j BN)[j]=false:=e1;rw [this] at b;cases b
   . have u:(T.labels.set i BN)[j]=T.labels[j]:=List.getElem_set_ne (λe=>c e.symm) _;have b:emL (T.labels.set i BN)[j]=false:=e1;have m:Gs (T.labels.set i BN)[j]=(id,false):=e2;rw [u] at b m;obtain ⟨_,q2,q3⟩:=(G9 _ _ _).1 (g j l b m);exact c (ap T hg id 0 j i l hi q2 p2 i1 (by rw [q3,p3]))
 . rw [show FK T id 0=-1 from ei,if_neg qd]
   have:=(KeepT.refl T hg).set k _ (F7 T hg k hk { T.labels[k] with unit:=0,note:=note } (.inr d) (.inr (λj hj v e1 e2=>by
    rw [f] at e2
    have:=x _ (gS hj)
    rw [g j hj e1 e2] at this
    cases this)) r2 (λt ht=>.inl ht))
   exact ⟨this.good,this.name,this.tracks,this.len,gY this.diff qd⟩
theorem Vu (T:Tab) (h:GoodT T) (i:Nat) (hi:i∈BL (BA T.labels)):ttS T.tracks<=(i:Int)/\(i:Int)<T.tracks:=by
 unfold BL BA at hi;obtain ⟨r,hr,c⟩:=List.mem_flatMap.1 hi;obtain ⟨l,hl,a⟩:=List.mem_flatMap.1 hr;have b:i∈BL l.ext:=List.mem_flatMap.2 ⟨r,a,c⟩;rcases h.ok l hl with he | hv
 . rw [Vk l he] at a;cases a
 . exact (Ev _ _ hv).2.2.1 i b

end
section
attribute [local go_sem ↓] Go.wp_at_zero Go.wp_at_succ
open Go.RowKit
instance:DecidableEq Lab:=λa b=>decidable_of_iff (eqL a b=true) (Jd a b)

end
section
attribute [local go_sem ↓] Go.wp_at_zero Go.wp_at_succ
open Go.ChangeShapes Go.WideShapes Go.ChangeAt Go.RowKit Go.Deep
section
variable {H:Type} {enc:TypeId × Value->H} {w:World}
theorem YK {n:Nat} {cs:List Value} {y:DataW H × List MemPlace} (c:cs.length=2) (h:DataW.trod enc Tryz.prog w 0 (λ_=>true) true n 32 cs=some y):
 ∃x:Int × Int,cs=[.int .i64 x.1,.int .i64 x.2]/\(-9223372036854775808<=x.1/\x.1<=9223372036854775807)/\(-9223372036854775808<=x.2/\x.2<=9223372036854775807):=by
 have hf:=FH Tryz.underlying32 qk h;obtain ⟨v0,_,_,e0,f0⟩:=hf 0 _ rfl oo;obtain ⟨v1,_,_,e1,f1⟩:=hf 1 _ rfl oo;obtain ⟨n0,a,_,w0⟩:=i0 Tryz.underlying3 f0;obtain ⟨n1,b,_,w1⟩:=i0 Tryz.underlying3 f1;injection a with a _;injection b with b _;subst a;subst b;refine ⟨(n0,n1),?_,wf_i64 w0,wf_i64 w1⟩
 match cs,c with
 | [x0,x1],_=>
   simp at e0 e1;rw [e0,e1]
end

structure Opr where
 kind:Nat
 id:Int
 unit:Int
 name:ByteArray
 note:ByteArray
 n:Int
 ext:List (Int × Int)
structure OprAt (w:World) (B:Option Addr) (o:Opr):Prop where
 kind:o.kind<256
 name:o.name.size<=9223372036854775807
 note:o.note.size<=9223372036854775807
 n0:-9223372036854775808<=o.n
 n1:o.n<=9223372036854775807
 runs:RunsAt w w.heap.size B o.ext
 xl:o.ext.length<=9223372036854775807
theorem SP {H:Type} {enc:TypeId × Value->H} {P:Program} {w:World} {fs:Array Field} {e n:Nat} {cs:List Value} {y:DataW H × List MemPlace} {base:Nat} {sp:Nat->Bool} {hd:Bool} (he:P.underlying e=some (.struct fs)) (h:DataW.trod enc P w base sp hd n e cs=some y):
 ∀(j:Nat) (f:Field),fs[j]? =some f->∃n' y',DataW.trod enc P w base sp hd n' f.type ((cs.drop f.offset).take (P.cellsOf f.type))=some y':=by
 intro j f hj;obtain ⟨ys,n',b,hy,c,d,hf⟩:=DataW.trod_struct he h;have a:j<fs.size:=(ib.1 hj).1;exact ⟨_,_,(hf j f hj).trans (gJ oo)⟩
theorem Y6 {n:Int} (h:(Lit.int .u8 n).wf=true):0<=n/\n<=255:=by
 simp only [Lit.wf,IntKind.min,IntKind.max,IntKind.signed,IntKind.bits] at h;simp at h;omega
section
variable {H:Type} {enc:TypeId × Value->H} {w:World}
theorem Wv {n:Nat} {cs:List Value} {y:DataW H × List MemPlace} (g:cs.length=7) (h:DataW.trod enc Tryz.prog w 0 (λ_=>true) true n 35 cs=some y):
 ∃B d,∃o:Opr,cs=[.int .u8 (o.kind:Int),.int .i64 o.id,.int .i64 o.unit,.string o.name,.string o.note,.int .i64 o.n,.slice B o.ext.length d]/\OprAt w B o:=by
 match cs,g with
 | [x0,x1,x2,x3,x4,x5,x6],_=>
   have hf:=SP Tryz.underlying35 h;obtain ⟨_,_,f0⟩:=hf 0 _ rfl;obtain ⟨_,_,f1⟩:=hf 1 _ rfl;obtain ⟨_,_,f2⟩:=hf 2 _ rfl;obtain ⟨_,_,f3⟩:=hf 3 _ rfl;obtain ⟨_,_,f4⟩:=hf 4 _ rfl;obtain ⟨_,_,f5⟩:=hf 5 _ rfl;simp only [jG,iw,il] at f0 f1 f2 f3 f4 f5;rw [show Tryz.prog.cellsOf 5=1 from qk] at f0;rw [show Tryz.prog.cellsOf 32=2 from qk] at f1;rw [show Tryz.prog.cellsOf 9=1 from qk] at f2 f3;rw [show Tryz.prog.cellsOf 3=1 from qk] at f4;rw [show Tryz.prog.cellsOf 33=1 from qk] at f5;simp only [drop_succ_cons,drop_zero,take_succ_cons,take_zero] at f0 f1 f2 f3 f4 f5;obtain ⟨x,hx,-,-⟩:=YK (by rfl) f1;obtain ⟨n0,a,_,w0⟩:=i0 Tryz.underlying5 f0;obtain ⟨n3,b,_,w3⟩:=DataW.trod_string Tryz.underlying9 f2;obtain ⟨n4,e,_,w4⟩:=DataW.trod_string Tryz.underlying9 f3;obtain ⟨n5,f,_,w5⟩:=i0 Tryz.underlying3 f4;obtain ⟨A,c,l,rfl,h1,h2,h3⟩:=Um f5;injection hx with hx1 hx2;injection hx2 with hx2 _;injection a with a _;injection b with b _;injection e with e _;injection f with f _;subst hx1;subst hx2;subst a;subst b;subst e;subst f;have b0:=Y6 w0;have b5:=wf_i64 w5;unfold maxLen at w3 w4;refine ⟨A,c,⟨n0.toNat,x.1,x.2,n3,n4,n5,l⟩,?_,⟨by show n0.toNat<256;omega,by simpa using w3,by simpa using w4,b5.1,b5.2,h3,gY h1 h2⟩⟩;simp only [jf b0.1]
end
def Fb (o:Opr):Bool:=decide (o.name.size<=100) && (decide (o.note.size<=500) && decide (o.ext.length<=20))
theorem Yf (B:Option Addr) (d:Nat) (o:Opr) (g:Nat) (w:World) (hb:Blk w g 35 #[.int .u8 (o.kind:Int),.int .i64 o.id,.int .i64 o.unit,.string o.name,.string o.note,.int .i64 o.n,.slice B o.ext.length d]) (h1:o.name.size<=9223372036854775807) (h2:o.note.size<=9223372036854775807) (h3:o.ext.length<=9223372036854775807):
 Calls Tryz.prog 24 #[.slice (some ⟨g,0,none⟩) 1 1,.int .i64 1] w λe w'=>e=.returned (.bool (Fb o))/\Grew w w':=by
 have HB:=zh hb;have HE:=zh (show Fb o=(decide (o.name.size<=100) && (decide (o.note.size<=500) && decide (o.ext.length<=20))) from rfl);clear hb;go_enter Tryz.func24,Tryz.ntmps24;go_wp2_with fail
 go_loopg [5] 1 (λgk i wr=>∃k:Nat,k<=1/\gk=1 - k/\i=.int .i64 k/\(0<k->Fb o=true)/\Grew w wr)
 case atStart=>exact ⟨0,oo,oo,rfl,λh=>oo,gK _⟩
 case round=>
  obtain ⟨k,hk,b,rfl,c,hg⟩:=hrel;have f:=zh b;have HA:=zh c;have HG:=zh hg;have a:=HB.grew hg;have x3:=a.cell 3;have x4:=a.cell 4;have x6:=a.cell 6;have r:=a.lt;clear b c hg a;by_cases s:k<1
  . have j:k=0:=oo;subst j;by_cases s1:o.name.size<=100;rotate_left
    . have l:¬(o.name.size:Int)<=100:=oo;have HF:=zh (HE.out.trans (by rw [iC s1];rfl):Fb o=false);go_wp2_with fail;go_ret;exact ⟨AE (by rw [HF.out]),HG⟩
    have l:(o.name.size:Int)<=100:=oo;by_cases s2:o.note.size<=500;rotate_left
    . have m:¬(o.note.size:Int)<=500:=oo;have HF:=zh (HE.out.trans (by rw [iB s1,iC s2];rfl):Fb o=false);go_wp2_with fail;go_ret;exact ⟨AE (by rw [HF.out]),HG⟩
    have m:(o.note.size:Int)<=500:=oo;by_cases s3:o.ext.length<=20;rotate_left
    . have p:¬(o.ext.length:Int)<=20:=oo;have HF:=zh (HE.out.trans (by rw [iB s1,iB s2,iC s3];rfl):Fb o=false);go_wp2_with fail;go_ret;exact ⟨AE (by rw [HF.out]),HG⟩
    have p:(o.ext.length:Int)<=20:=oo;have HF:=zh (HE.out.trans (by rw [iB s1,iB s2,iB s3];rfl):Fb o=true);go_wp2_with fail
    go_roundg 0
    case measure=>rw [f.out];omega
    case rel=>exact ⟨1,oo,oo,by go_num,λ_=>HF,HG⟩
  . have q:k=1:=oo;subst q;have HF:=zh (HA oo);go_wp2_with fail;go_ret;exact ⟨AE (by rw [HF.out]),HG⟩

end
end Go.Proofs.YtfklieeipokllaaGreat
