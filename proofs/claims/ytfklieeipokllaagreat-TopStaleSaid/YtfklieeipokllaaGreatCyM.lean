/- Parts of the proof (packed), 13. -/
import Derived.Test.YtfklieeipokllaaGreatCyK
namespace Go.Proofs.YtfklieeipokllaaGreat
set_option linter.all false
set_option maxRecDepth 100000
set_option maxHeartbeats 16000000
open List
section
attribute [local go_sem ↓] Go.wp_at_zero Go.wp_at_succ
open Go.RowKit
def TabIn (P:Nat->Prop) (A:Option Addr) (xs:List LabE):Prop:=(0<xs.length->∀b off,A=some ⟨b,off,none⟩->P b)/\∀x∈xs,0<x.l.ext.length->∀b off,x.A=some ⟨b,off,none⟩->P b
theorem TabIn.nil (P:Nat->Prop):TabIn P none []:=⟨λh=>absurd h qs,λx hx=>(by cases hx)⟩
theorem YS (A:Option Addr) (c:Nat) (ss:List ByteArray) (w:World) (h:ListAt w w.heap.size 1 A (ss.map Em)) (hl:ss.length<=100000) (hz:∀x∈ss,x.size<=1000):
 Calls Tryz.prog 93 #[.slice A ss.length c] w λe w'=>∃A c xs T er,e=.returned (.tuple #[.agg #[.string T.name,.int .i64 T.tracks,.slice A T.labels.length c],.int .i64 er])/\LdS ss T er/\SmallT T/\TabAt w' A c xs T/\TabIn (λq=>w.heap.size<=q) A xs/\Grew w w':=by
 have H:=zh h;have HZ:=zh hz;have e4:=zh (fy w 50 #[.string ⟨#[]⟩,.int .i64 0,.slice none 0 0] rfl);have e5:=zh ((fh w).alloc (.cells #[.string ⟨#[]⟩,.int .i64 0,.slice none 0 0] 50));clear h hz;go_enter Tryz.func93,Tryz.ntmps93;go_wp2_with fail
 go_loopg [4,17] ss.length (λgk tv0 i wr=>∃(k:Nat) (tv:Value),k<=ss.length/\gk=ss.length - k/\tv=tv0/\i=.int .i64 k/\(∀x∈ss.take k,x.size=128)/\OwnL wr (w.heap.size+1) 9 1 tv ((IL ss k).map Em)/\Blk wr w.heap.size 50 #[.string ⟨#[]⟩,.int .i64 0,.slice none 0 0]/\Grew w wr)
 case atStart=>exact ⟨0,_,oo,oo,rfl,rfl,λx hx=>(by cases hx),OwnL.nil _ _ _ _,e4.out,e5.out⟩
 case round=>
  obtain ⟨k,tv,hk,M,gh,rfl,et,N,hb,hg⟩:=hrel;subst gh;have ae:=zh M;have da:=zh et;clear M et;by_cases I:k<ss.length
  . have e6:w.heap.size+1<=wr.heap.size:=hb.lt;obtain ⟨b1,o1,rfl,gi,eu⟩:=H.out (by rw [fm];omega);obtain ⟨x,hx⟩:∃x,ss[k]=x:=⟨_,rfl⟩
    have q0:wr.cell? ⟨b1,o1+k,none⟩=some (.string x):=by
     rw [hg.cellEq _ _ gi];have:=eu k (Em x) (by rw [fo,fg I,hx];rfl) 0 _ rfl;simpa using this
    have go:x.size<=1000:=by rw [<-hx];exact HZ.out _ (fq I)
    clear eu;by_cases a5:x.size=128;rotate_left
    . have hn:((x.size:Int) != 128)=true:=by rw [gu];omega
      have HE:=zh (fB ss k I (by rw [hx];exact a5));have z0:=hb.cell 0;have z1:=hb.cell 1;have z2:=hb.cell 2;have f0:=hb.frozen 0;have f1:=hb.frozen 1;have f2:=hb.frozen 2;have u:=hb.lt;have f:=hg;clear hb N hx a5;go_wp2_with fail;refine f7 (by first | (simp [*,results,Tryz.results93,go_sem];rfl) | simp [*,results,Tryz.results93,go_sem]) rfl ?_;exact ⟨none,0,[],Ca,11,rfl,HE,Cc,TabAt.zero _,TabIn.nil _,gG⟩
    have hn:((x.size:Int) != 128)=false:=by rw [jZ];omega
    have dd:=zh (show ∀z∈ss.take (k+1),z.size=128 from λz hz=>by
     rw [fr I] at hz
     rcases gC.1 hz with hz | hz
     . exact da.out z hz
     . rw [fp.1 hz,hx];exact a5)
    by_cases h8:k % 8=0
    . have hm:((k:Int) % 8==0)=true:=by rw [iy];omega
      have hY:=ac ss k h8;have bd:=Ks ss k;have df:=N.ne_blk hb qd;clear h8 a5
      go_upto_region 9 with (at_builtin;refine Cp rfl _ _ 60 rfl (w.heap.size+1) 9 1 16 _ Tryz.underlying60 RC rfl qd wr _ ((IL ss k).map Em) (Em ⟨#[]⟩) (by rfl) rfl rfl N (by first | rfl | (simp;done)) rfl rfl (by rw [fm];omega) (by rw [fm];omega) e6 ?_;intro gf cy J eq es hc)
      have bf:=es _ _ _ hb df;have b2:=eq _ hg oo;rw [show (IL ss k).map Em++[Em ⟨#[]⟩]=(Fk ss k).map Em from by rw [hY,fz];rfl] at J;clear eq es N hb hg hY hm bd df q0;have D:((Fk ss k).map Em).length=k / 8+1:=by rw [fm,IQ]
      have E:k / 8<(Fk ss k).length:=by rw [IQ];omega
      have F:=PX ss k I E;have b3:=Pj ss k HZ _ (fq E);obtain ⟨y,hy⟩:∃y,(Fk ss k)[k / 8]=y:=⟨_,rfl⟩;rw [hy,hx] at F;rw [hy] at b3;have G:((Fk ss k).map Em)[k / 8]? =some (Em y):=by rw [fo,fg E,hy];rfl
      obtain ⟨q,hq⟩:∃q,k / 8=q:=⟨_,rfl⟩;have e9:q<=100000:=oo;rw [hq] at G D F
      obtain ⟨g,cap,hv,gj,gl⟩:∃g cap,gf=.slice (some ⟨g,0,none⟩) (q+1) cap/\w.heap.size+1<=g/\g<cy.heap.size:=by
       rcases J.form with ⟨_,h0⟩ | ⟨g,cap,hv,h1,h2,_⟩
       . have:=gJ length h0;rw [D,length_nil] at this;omega
       . rw [D] at hv;exact ⟨g,cap,hv,h1,h2⟩
      subst hv;have t0:cy.cell? ⟨g,q,none⟩=some (.string y):=by have:=J.cell G (i:=0) rfl;simpa using this
      have tf:=J.frozen q;have aj:=J.set_ G (i:=0) (o:=q) qd oo (.string (y++x));have al:=zh (show OwnL (cy.setCell ⟨g,q,none⟩ (.string (y++x))) (w.heap.size+1) 9 1 (.slice (some ⟨g,0,none⟩) (q+1) cap) ((IL ss (k+1)).map Em) from by rw [F,List.map_set];exact aj);have b4:=zh (bf.far (p:=⟨g,q,none⟩) (by show w.heap.size≠g;omega) (.string (y++x)));have b6:=zh (b2.setCell (p:=⟨g,q,none⟩) (by show w.heap.size<=g;omega) (.string (y++x)));obtain ⟨n,B⟩:∃n,q+1=n:=⟨_,rfl⟩;have fa:(n:Int) - 1=(q:Int):=oo;rw [B] at al ⊢;clear aj J bf b2 F G D hy E hq;go_wp2_with fail
      go_roundg (ss.length - (k+1))
      case measure=>rw [ae.out];omega
      case rel=>exact ⟨k+1,_,oo,oo,rfl,by go_num,dd,al,b4,b6⟩
    . have hm:((k:Int) % 8==0)=false:=by rw [gF];omega
      have hY:=aB ss k h8;have an:OwnL wr (w.heap.size+1) 9 1 tv ((Fk ss k).map Em):=by rw [hY];exact N
      have dk:=hb;have bk:=hg;clear h8 a5 N hb hg hY;have D:((Fk ss k).map Em).length=k / 8+1:=by rw [fm,IQ]
      have E:k / 8<(Fk ss k).length:=by rw [IQ];omega
      have F:=PX ss k I E;have b3:=Pj ss k HZ _ (fq E);obtain ⟨y,hy⟩:∃y,(Fk ss k)[k / 8]=y:=⟨_,rfl⟩;rw [hy,hx] at F;rw [hy] at b3;have G:((Fk ss k).map Em)[k / 8]? =some (Em y):=by rw [fo,fg E,hy];rfl
      obtain ⟨q,hq⟩:∃q,k / 8=q:=⟨_,rfl⟩;have e9:q<=100000:=oo;rw [hq] at G D F
      obtain ⟨g,cap,hv,gj,gl⟩:∃g cap,tv=.slice (some ⟨g,0,none⟩) (q+1) cap/\w.heap.size+1<=g/\g<wr.heap.size:=by
       rcases an.form with ⟨_,h0⟩ | ⟨g,cap,hv,h1,h2,_⟩
       . have:=gJ length h0;rw [D,length_nil] at this;omega
       . rw [D] at hv;exact ⟨g,cap,hv,h1,h2⟩
      subst hv;have t0:wr.cell? ⟨g,q,none⟩=some (.string y):=by have:=an.cell G (i:=0) rfl;simpa using this
      have tf:=an.frozen q;have aj:=an.set_ G (i:=0) (o:=q) qd oo (.string (y++x));have al:=zh (show OwnL (wr.setCell ⟨g,q,none⟩ (.string (y++x))) (w.heap.size+1) 9 1 (.slice (some ⟨g,0,none⟩) (q+1) cap) ((IL ss (k+1)).map Em) from by rw [F,List.map_set];exact aj);have b4:=zh (dk.far (p:=⟨g,q,none⟩) (by show w.heap.size≠g;omega) (.string (y++x)));have b6:=zh (bk.setCell (p:=⟨g,q,none⟩) (by show w.heap.size<=g;omega) (.string (y++x)));obtain ⟨n,B⟩:∃n,q+1=n:=⟨_,rfl⟩;have fa:(n:Int) - 1=(q:Int):=oo;rw [B] at al ⊢;clear aj an dk bk F G D hy E hq;go_wp2_with fail
      go_roundg (ss.length - (k+1))
      case measure=>rw [ae.out];omega
      case rel=>exact ⟨k+1,_,oo,oo,rfl,by go_num,dd,al,b4,b6⟩
  . skip;have fb:k=ss.length:=oo;subst fb;have d0:=zh (show ∀x∈ss,x.size=128 from by have:=da.out;rwa [i8] at this);have bd:=Ks ss ss.length;obtain ⟨A5,c5,ex,e0,he,e1⟩:=N.listAt;rw [fm] at ex e0;subst ex;have bl:=zh e1;have fi:=zh bd;obtain ⟨q,hq⟩:∃q,(IL ss ss.length).length=q:=⟨_,rfl⟩;rw [hq] at e0 ⊢;have d1:q=(ss.length+7) / 8:=by rw [<-hq];exact fi.out
    have HQ:=zh hq;have b9:=zh d1;have f:=hg;have HB:=zh hb;have HG:=zh hg;have z0:=hb.cell 0;have z1:=hb.cell 1;have z2:=hb.cell 2;have f0:=hb.frozen 0;have f1:=hb.frozen 1;have f2:=hb.frozen 2;have u:=hb.lt;clear e1 bd hq N hb f hg d1;by_cases h0:ss.length=0
    . have hm:((q:Int)==0)=true:=by rw [iy];have:=b9.out;omega
      have HE:=zh (ah ss (.inl h0));have f:=HG.out;clear h0;go_wp2_with fail;refine f7 (by first | (simp [*,results,Tryz.results93,go_sem];rfl) | simp [*,results,Tryz.results93,go_sem]) rfl ?_;exact ⟨none,0,[],Ca,11,rfl,HE,Cc,TabAt.zero _,TabIn.nil _,gG⟩
    have hm:((q:Int)==0)=false:=by rw [gF];have:=b9.out;omega
    by_cases h8:ss.length % 8=0;rotate_left
    . have fj:((ss.length:Int) % 8 != 0)=true:=by rw [gu];omega
      have HE:=zh (ah ss (.inr h8));have f:=HG.out;clear h8;go_wp2_with fail;refine f7 (by first | (simp [*,results,Tryz.results93,go_sem];rfl) | simp [*,results,Tryz.results93,go_sem]) rfl ?_;exact ⟨none,0,[],Ca,11,rfl,HE,Cc,TabAt.zero _,TabIn.nil _,gG⟩
    have fj:((ss.length:Int) % 8 != 0)=false:=by rw [jZ];omega
    obtain ⟨m,c0⟩:∃m,ss.length=8*(m+1):=⟨ss.length / 8 - 1,oo⟩;have fl:q=m+1:=by have:=b9.out;omega
    subst fl;have ca:=aE ss (m+1) oo;rw [ca] at bl;have HR:=zh (show ListAt wr wr.heap.size 1 A5 (((List.range (m+1)).map (CZ ss)).map Em) from bl.out);obtain ⟨b5,o5,rfl,bf,c1⟩:=HR.out qs
    have d2:=zh (show ∀j,j<m+1->∀w9,Grew wr w9->w9.cell? ⟨b5,o5+j,none⟩=some (.string (CZ ss j)) from λj hj w9 g9=>by
     rw [g9.cellEq _ _ bf]
     have:=c1 j (Em (CZ ss j)) (by rw [fo,fo,ic hj];rfl) 0 _ rfl
     simpa using this)
    have cb:=zh c0;have q0:=d2.out 0 oo wr (fh _);rw [ik] at q0;have gp:(CZ ss 0).size<=8000:=K3 1000 ss 0 HZ;have C:=λw9=>RR (CZ ss 0) w9 oo;rcases Ln (CZ ss 0) with hh | ⟨nm,tt,hh,_,hf,e3,hi,ho,hp⟩
    . have HE:=zh (cN ss hh);rw [hh] at C;clear hh h0 h8 c0 bl ca c1;go_wp2_with fail;refine (C _).mono ?_;rintro e w3 ⟨rfl,g3⟩;have d:=HB.grew g3;have f:=HG.out.trans g3;clear z0 z1 z2 f0 f1 f2 u g3;have z0:=d.cell 0;have z1:=d.cell 1;have z2:=d.cell 2;have f0:=d.frozen 0;have f1:=d.frozen 1;have f2:=d.frozen 2;have u:=d.lt;go_wp2_with fail;refine f7 (by first | (simp [*,results,Tryz.results93,go_sem];rfl) | simp [*,results,Tryz.results93,go_sem]) rfl ?_;exact ⟨none,0,[],Ca,11,rfl,HE,Cc,TabAt.zero _,TabIn.nil _,gG⟩
    rw [hh] at C;have HH:=zh hh;have gq:=zh e3;clear hh h0 h8 c0 bl ca c1 e3;go_wp2_with fail;refine (C _).mono ?_;rintro e w3 ⟨rfl,g3⟩;have d:=HB.grew g3;have f:=HG.out.trans g3;have d3:=zh g3;have Z:=zh f;have bn:=zh d;clear z0 z1 z2 f0 f1 f2 u g3 q0 C;have z0:=d.cell 0;have z1:=d.cell 1;have z2:=d.cell 2;have f0:=d.frozen 0;have f1:=d.frozen 1;have f2:=d.frozen 2;have u:=d.lt;obtain ⟨e2,c2⟩:∃x,ttS tt=x:=⟨_,rfl⟩;have d4:=zh c2;by_cases bt:((m+1:Nat):Int)=ttS tt;rotate_left
    . have fn:((m:Int)+1 != e2)=true:=by rw [gu];omega
      have HE:=zh (Z8 ss nm tt HH (by have:=cb.out;rw [show ss.length / 8=m+1 from oo];exact bt));clear bt c2;go_wp2_with fail;refine (B6 _ _).mono ?_;rintro e w9 ⟨rfl,rfl⟩;rw [d4.out];go_wp2_with fail;refine f7 (by first | (simp [*,results,Tryz.results93,go_sem];rfl) | simp [*,results,Tryz.results93,go_sem]) rfl ?_;exact ⟨none,0,[],Ca,11,rfl,HE,Cc,TabAt.zero _,TabIn.nil _,gG⟩
    have fn:((m:Int)+1 != e2)=false:=by rw [jZ];omega
    have cc:=zh bt;have gr:m<=32:=by have:=DQ tt;omega
    have d5:=fy w3 50 #[.string nm,.int .i64 tt,.slice none 0 0] rfl;have d6:=(fh w3).alloc (.cells #[.string nm,.int .i64 tt,.slice none 0 0] 50);have d7:=zh d5;have ea:=zh d6;clear bt c2 d5 d6 f d z0 z1 z2 f0 f1 f2;go_wp2_with fail;refine (B6 _ _).mono ?_;rintro e w9 ⟨rfl,rfl⟩;rw [d4.out];by_cases ge:c5=1
    . subst ge;have gs:m<1:=oo;go_wp2_with fail;obtain ⟨wo,c3⟩:∃wo:World,wo=wr:=⟨_,rfl⟩;subst c3
      go_loopg [76] m (λgk i wq=>∃(k:Nat) (v:Value) (ys:List LabE) (ls:List Lab),k<=m/\gk=m - k/\i=.int .i64 k/\ls.length=k/\(∀j (hj:j<ls.length),Dr (CZ ss (j+1)) tt=(ls[j],0))/\(∀l∈ls,l.ext.length<=1000)/\TabO wq (w3.heap.size+1) v ys ls/\Blk wq w3.heap.size 50 #[.string nm,.int .i64 tt,v]/\(∀y∈ys,∀b off,y.A=some ⟨b,off,none⟩->w3.heap.size<=b)/\Grew w3 wq)
      case atStart=>exact ⟨0,_,[],[],oo,oo,rfl,rfl,λj hj=>absurd hj (Nat.not_lt_zero _),λl hl=>(by cases hl),⟨OwnL.nil _ _ _ _,λy hy=>(by cases hy),λy hy=>(by cases hy),rfl⟩,d7.out,λy hy=>(by cases hy),ea.out⟩
      case round=>
       obtain ⟨wq,c6⟩:∃wq:World,wq=wr:=⟨_,rfl⟩;subst c6;obtain ⟨k,v,ys,ls,hk,M,rfl,s,a7,a8,Y,a9,bb,K⟩:=hrel;obtain ⟨Av,cv,hv,bc⟩:=Y.form;subst hv;have ae:=zh M;have bo:=zh bb;have aa:=zh a7;have br:=zh a8;have O:=zh Y;have r:=zh a9;have ce:=zh K;have ad:=zh (Z.out.trans K);have d:=bn.grew K;clear M a7 a8 Y a9 bb;by_cases I:k<m
       . exact absurd I oo
       . have cf:k=m:=oo;subst cf;have av:=zh s;have ch:=cc.out;have a0:(ls.length:Int)=CT tt:=by unfold CT;omega
         obtain ⟨T,hT⟩:∃T:Tab,T=⟨nm,tt,ls⟩:=⟨_,rfl⟩;have P:=bc nm tt oo oo oo;have Q:T.labels.length=ls.length:=by rw [hT]
         have R:SmallT T:=by rw [hT];exact ⟨by show ls.length<=1000;omega,br⟩
         rw [<-hT] at P;have ci:=zh R;have CV:=λw9 (g9:Grew wq w9)=>Eo Av cv ys T w9 (P.hold g9) R k (Q.trans s).symm;have a1:=zh (λhno=>YR ss nm tt ls HH a0 aa hno);have a2:=zh (λhv=>Vt ss nm tt ls d0 (by rw [s];exact cb.out) HH aa hv);rw [<-hT] at a1 a2;have cj:=zh hT;have U:T.name=nm:=by rw [hT]
         have V:T.tracks=tt:=by rw [hT]
         rw [U,V] at CV;have cl:=zh U;have cm:=zh V;have co:=zh Q;have x0:=r.cell 0;have x1:=r.cell 1;have x2:=r.cell 2;have L:=r.out.lt;clear bc P R hT U V Q ch a0;cases hv:A0 T with
         | false=>
           have HE:=zh (a1 (λh9=>by rw [hv] at h9;cases h9.1));rw [hv] at CV;clear hv;go_wp2_with fail;refine (CV _ (fh _)).mono ?_;rintro e w8 ⟨rfl,g8⟩;have a:=d.grew g8;have f:=ad.out.trans g8;clear d x0 x1 x2 L g8;have z0:=a.cell 0;have z1:=a.cell 1;have z2:=a.cell 2;have f0:=a.frozen 0;have f1:=a.frozen 1;have f2:=a.frozen 2;have u:=a.lt;go_wp2_with fail;refine f7 (by first | (simp [*,results,Tryz.results93,go_sem];rfl) | simp [*,results,Tryz.results93,go_sem]) rfl ?_;exact ⟨none,0,[],Ca,11,rfl,HE,Cc,TabAt.zero _,TabIn.nil _,gG⟩
         | true=>
           have HE:=zh (show LdS ss T 0 from .inl ⟨a2.out hv,rfl⟩);rw [hv] at CV;clear hv;go_wp2_with fail;refine (CV _ (fh _)).mono ?_;rintro e w8 ⟨rfl,g8⟩;have a:=d.grew g8;have f:=ad.out.trans g8;have t:=r.grew g8;have W:=zh (show TabO w8 (w3.heap.size+1) (.slice Av k cv) ys ls from by rw [<-av.out];exact O.hold g8);have cp:=zh ((O.hold g8).apart a);clear d x0 x1 x2 L g8;have x0:=t.cell 0;have x1:=t.cell 1;have x2:=t.cell 2;have L:=t.lt;have z0:=a.cell 0;have z1:=a.cell 1;have z2:=a.cell 2;have f0:=a.frozen 0;have f1:=a.frozen 1;have f2:=a.frozen 2;have u:=a.lt;have cq:=zh f;clear a f t;have fs:=bn.out.lt;go_wp2_with fail;refine f7 (by first | (simp [*,results,Tryz.results93,go_sem];rfl) | simp [*,results,Tryz.results93,go_sem]) rfl ?_;refine ⟨Av,cv,ys,T,0,by rw [cl.out,cm.out,co.out,av.out],HE,ci,?_,⟨λ_ b off e=>fx Z.size (fx (Nat.le_succ _) (W.own.own_ge (show (Value.slice Av k cv).ownBlock=some b from by rw [e];rfl)).1),λy hy _ b off e=>fx Z.size (bo y hy b off e)⟩,by have f:=cq.out;exact gG⟩;have cr:TabO (((w8.setCell ⟨w.heap.size,0,none⟩ (.string nm)).setCell ⟨w.heap.size,1,none⟩ (.int .i64 tt)).setCell ⟨w.heap.size,2,none⟩ (.slice Av k cv)) (w3.heap.size+1) (.slice Av k cv) ys ls:=W.turned (S:=λq=>q=w.heap.size) (gT) (λq hq=>by have h1:=(W.own.own_ge hq).1;omega) (λy hy h0 b off e=>cp y hy h0 b off e);obtain ⟨A8,c8,c7,c9⟩:=cr.form;injection c7 with hv1 _ hv2;subst hv1;subst hv2;rw [cj.out];exact c9 nm tt oo oo oo
    go_wp2_with fail;obtain ⟨wo,c3⟩:∃wo:World,wo=wr:=⟨_,rfl⟩;subst c3
    go_loopg [76] m (λgk i wq=>∃(k:Nat) (v:Value) (ys:List LabE) (ls:List Lab),k<=m/\gk=m - k/\i=.int .i64 k/\ls.length=k/\(∀j (hj:j<ls.length),Dr (CZ ss (j+1)) tt=(ls[j],0))/\(∀l∈ls,l.ext.length<=1000)/\TabO wq (w3.heap.size+1) v ys ls/\Blk wq w3.heap.size 50 #[.string nm,.int .i64 tt,v]/\(∀y∈ys,∀b off,y.A=some ⟨b,off,none⟩->w3.heap.size<=b)/\Grew w3 wq)
    case atStart=>exact ⟨0,_,[],[],oo,oo,rfl,rfl,λj hj=>absurd hj (Nat.not_lt_zero _),λl hl=>(by cases hl),⟨OwnL.nil _ _ _ _,λy hy=>(by cases hy),λy hy=>(by cases hy),rfl⟩,d7.out,λy hy=>(by cases hy),ea.out⟩
    case round=>
     obtain ⟨wq,c6⟩:∃wq:World,wq=wr:=⟨_,rfl⟩;subst c6;obtain ⟨k,v,ys,ls,hk,M,rfl,s,a7,a8,Y,a9,bb,K⟩:=hrel;obtain ⟨Av,cv,hv,bc⟩:=Y.form;subst hv;have ae:=zh M;have bo:=zh bb;have aa:=zh a7;have br:=zh a8;have O:=zh Y;have r:=zh a9;have ce:=zh K;have ad:=zh (Z.out.trans K);have d:=bn.grew K;clear M a7 a8 Y a9 bb;by_cases I:k<m
     . have q0:wq.cell? ⟨b5,o5+1+k,none⟩=some (.string (CZ ss (k+1))):=by have:=d2.out (k+1) oo wq (d3.out.trans K);rwa [show o5+(k+1)=o5+1+k from oo] at this
       have gt:(CZ ss (k+1)).size<=8000:=K3 1000 ss (k+1) HZ;have gv:b5<wq.heap.size:=by have:=d3.size;have:=K.size;omega
       have CD:=λw9=>Ta (CZ ss (k+1)) tt w9 oo oo oo;have L:=r.out.lt;rcases Xg (CZ ss (k+1)) tt with ⟨l,hd,gn⟩ | hd;rotate_left
       . have HE:=zh (eI ss nm tt HH k (by have:=cc.out;omega) hd);rw [hd] at CD;clear hd;go_wp2_with fail;refine (CD _).mono ?_;rintro e w4 ⟨A4,c4,rfl,bv,g4,a6⟩;have X:=d.grew g4;have f:=ad.out.trans g4;clear d bv a6 q0;have z0:=X.cell 0;have z1:=X.cell 1;have z2:=X.cell 2;have f0:=X.frozen 0;have f1:=X.frozen 1;have f2:=X.frozen 2;have u:=X.lt;go_wp2_with fail;refine f7 (by first | (simp [*,results,Tryz.results93,go_sem];rfl) | simp [*,results,Tryz.results93,go_sem]) rfl ?_;exact ⟨none,0,[],Ca,11,rfl,HE,Cc,TabAt.zero _,TabIn.nil _,gG⟩
       have HD:=zh hd;rw [hd] at CD;clear hd d;go_wp2_with fail;refine (CD _).mono ?_;rintro e w4 ⟨A4,c4,rfl,bv,g4,a6⟩;have fu:=zh (show ∀b off,A4=some ⟨b,off,none⟩->w3.heap.size<=b from λb off e=>fx ce.size (a6 b off e));clear q0;have cs:=r.grew g4;have eb:=O.hold g4;have ec:=ce.out.trans g4;have gx:=cs.lt;have gz:wq.heap.size<=w4.heap.size:=g4.size
       have ee:0<l.ext.length->∀b off,A4=some ⟨b,off,none⟩->(Value.slice Av k cv).ownBlock≠some b:=λ_ b off e hq=>by
        have h1:=a6 b off e;have h2:=(O.own.own_ge (show (Value.slice Av ls.length cv).ownBlock=some b from by rw [s];exact hq)).2;omega
       obtain ⟨W1,bx⟩:∃W1,W1=w4.alloc (.cells #[.int .i64 l.id,.int .i64 l.unit,.string l.name,.string l.note,.slice A4 l.ext.length c4] 100):=⟨_,rfl⟩;have eg:Grew w4 W1:=by rw [bx];exact (fh w4).alloc _
       have B:Blk W1 w4.heap.size 100 #[.int .i64 l.id,.int .i64 l.unit,.string l.name,.string l.note,.slice A4 l.ext.length c4]:=by rw [bx];exact fy w4 _ _ rfl
       have fv:W1.heap.size=w4.heap.size+1:=by rw [bx];simp
       obtain ⟨W2,b0⟩:∃W2,W2=W1.alloc (.cells #[.int .i64 l.id,.int .i64 l.unit,.string l.name,.string l.note,.slice A4 l.ext.length c4] 100):=⟨_,rfl⟩;have ei:Grew W1 W2:=by rw [b0];exact (fh W1).alloc _
       have g0:W2.heap.size=W1.heap.size+1:=by rw [b0];simp
       have ek:Blk W2 W1.heap.size 100 (DN ⟨A4,c4,l⟩).toArray:=by rw [b0];exact fy W1 _ _ rfl
       have a3:=eg.trans ei;have cu:=eb.hold a3;have cw:=cs.grew a3;have el:=ec.trans a3;have em:=bv.hold a3;have cx:(ys.map DN).length=k:=by rw [fm,cu.len,s]
       have y0:=B.cell 0;have y1:=B.cell 1;have y2:=B.cell 2;have y3:=B.cell 3;have y4:=B.cell 4;have g1:=B.lt;have t2:=cs.cell 2;have f3:=zh em;have bs:=zh (show TabO W2 (w3.heap.size+1) (.slice Av k cv) ys ls from by rw [<-s];exact cu);have f4:=zh cw;have f5:=zh el;have f6:=zh (show Blk W2 (w4.heap.size+1) 100 (DN ⟨A4,c4,l⟩).toArray from by rw [<-fv];exact ek);have f9:=zh ee;have g2:w3.heap.size<W2.heap.size:=cw.lt;clear eb ec bv a6 ee em el ek cw cu a3 eg ei;go_wp2_with (at_builtin;rw [<-bx,<-b0];refine BZ rfl _ _ 48 rfl (w3.heap.size+1) 100 5 72 _ Tryz.underlying48 M2 rfl qd W2 _ (ys.map DN) (DN ⟨A4,c4,l⟩) rfl (by rfl) bs.own (w4.heap.size+1) (by rfl) f6 rfl (by rw [cx];omega) (by rw [cx];omega) oo _ cx ?_;intro g5 bw w5 J cz gg b2;have a4:=f4.own cz (λhq=>by have:w3.heap.size+1<=w3.heap.size:=(bs.own.own_ge hq).1;omega);have u2:=a4.cell 2;have g6:=a4.frozen 2;have g7:=a4.lt);have ep:=bs.push ⟨A4,c4,l⟩ J cz gg f3 f9;have ha:w3.heap.size+1<=g5:=(J.own_ge (g:=g5) rfl).1;have ga:=ep.apart a4;have gb:=ep.turned (S:=λq=>q=w3.heap.size) ((gW (λq=>q=w3.heap.size) w5).setCell (p:=⟨w3.heap.size,2,none⟩) (λ_=>rfl) (.slice (some ⟨g5,0,none⟩) (k+1) bw)) (λg hq=>by simp only [Value.ownBlock,Option.some.injEq] at hq;omega) ga;have gc:=(a4.set_ 2 (.slice (some ⟨g5,0,none⟩) (k+1) bw)).conv (ds:=#[.string nm,.int .i64 tt,.slice (some ⟨g5,0,none⟩) (k+1) bw]) rfl;have bk:=(Grew.own f5 cz bs.own.row_ge oo).setCell (p:=⟨w3.heap.size,2,none⟩) (fk _) (.slice (some ⟨g5,0,none⟩) (k+1) bw);have gd:=zh (aR aa (by rw [s];exact HD.out))
       go_roundg (m - (k+1))
       case measure=>rw [ae.out];omega
       case rel=>exact ⟨k+1,_,_,ls++[l],oo,oo,by go_num,by rw [gK,s];rfl,gd,Zk br gn,gb,gc,λy hy b off e=>(gC.1 hy).elim (λh9=>bo y h9 b off e) (λh9=>by rw [fp.1 h9] at e;exact fu.out b off e),bk⟩
     . have cf:k=m:=oo;subst cf;have av:=zh s;have ch:=cc.out;have a0:(ls.length:Int)=CT tt:=by unfold CT;omega
       obtain ⟨T,hT⟩:∃T:Tab,T=⟨nm,tt,ls⟩:=⟨_,rfl⟩;have P:=bc nm tt oo oo oo;have Q:T.labels.length=ls.length:=by rw [hT]
       have R:SmallT T:=by rw [hT];exact ⟨by show ls.length<=1000;omega,br⟩
       rw [<-hT] at P;have ci:=zh R;have CV:=λw9 (g9:Grew wq w9)=>Eo Av cv ys T w9 (P.hold g9) R k (Q.trans s).symm;have a1:=zh (λhno=>YR ss nm tt ls HH a0 aa hno);have a2:=zh (λhv=>Vt ss nm tt ls d0 (by rw [s];exact cb.out) HH aa hv);rw [<-hT] at a1 a2;have cj:=zh hT;have U:T.name=nm:=by rw [hT]
       have V:T.tracks=tt:=by rw [hT]
       rw [U,V] at CV;have cl:=zh U;have cm:=zh V;have co:=zh Q;have x0:=r.cell 0;have x1:=r.cell 1;have x2:=r.cell 2;have L:=r.out.lt;clear bc P R hT U V Q ch a0;cases hv:A0 T with
       | false=>
         have HE:=zh (a1 (λh9=>by rw [hv] at h9;cases h9.1));rw [hv] at CV;clear hv;go_wp2_with fail;refine (CV _ (fh _)).mono ?_;rintro e w8 ⟨rfl,g8⟩;have a:=d.grew g8;have f:=ad.out.trans g8;clear d x0 x1 x2 L g8;have z0:=a.cell 0;have z1:=a.cell 1;have z2:=a.cell 2;have f0:=a.frozen 0;have f1:=a.frozen 1;have f2:=a.frozen 2;have u:=a.lt;go_wp2_with fail;refine f7 (by first | (simp [*,results,Tryz.results93,go_sem];rfl) | simp [*,results,Tryz.results93,go_sem]) rfl ?_;exact ⟨none,0,[],Ca,11,rfl,HE,Cc,TabAt.zero _,TabIn.nil _,gG⟩
       | true=>
         have HE:=zh (show LdS ss T 0 from .inl ⟨a2.out hv,rfl⟩);rw [hv] at CV;clear hv;go_wp2_with fail;refine (CV _ (fh _)).mono ?_;rintro e w8 ⟨rfl,g8⟩;have a:=d.grew g8;have f:=ad.out.trans g8;have t:=r.grew g8;have W:=zh (show TabO w8 (w3.heap.size+1) (.slice Av k cv) ys ls from by rw [<-av.out];exact O.hold g8);have cp:=zh ((O.hold g8).apart a);clear d x0 x1 x2 L g8;have x0:=t.cell 0;have x1:=t.cell 1;have x2:=t.cell 2;have L:=t.lt;have z0:=a.cell 0;have z1:=a.cell 1;have z2:=a.cell 2;have f0:=a.frozen 0;have f1:=a.frozen 1;have f2:=a.frozen 2;have u:=a.lt;have cq:=zh f;clear a f t;have fs:=bn.out.lt;go_wp2_with fail;refine f7 (by first | (simp [*,results,Tryz.results93,go_sem];rfl) | simp [*,results,Tryz.results93,go_sem]) rfl ?_;refine ⟨Av,cv,ys,T,0,by rw [cl.out,cm.out,co.out,av.out],HE,ci,?_,⟨λ_ b off e=>fx Z.size (fx (Nat.le_succ _) (W.own.own_ge (show (Value.slice Av k cv).ownBlock=some b from by rw [e];rfl)).1),λy hy _ b off e=>fx Z.size (bo y hy b off e)⟩,by have f:=cq.out;exact gG⟩;have cr:TabO (((w8.setCell ⟨w.heap.size,0,none⟩ (.string nm)).setCell ⟨w.heap.size,1,none⟩ (.int .i64 tt)).setCell ⟨w.heap.size,2,none⟩ (.slice Av k cv)) (w3.heap.size+1) (.slice Av k cv) ys ls:=W.turned (S:=λq=>q=w.heap.size) (gT) (λq hq=>by have h1:=(W.own.own_ge hq).1;omega) (λy hy h0 b off e=>cp y hy h0 b off e);obtain ⟨A8,c8,c7,c9⟩:=cr.form;injection c7 with hv1 _ hv2;subst hv1;subst hv2;rw [cj.out];exact c9 nm tt oo oo oo

end
section
open Go.RowKit
def AN (l:List (Int × Int)) (s:Int):Int × Bool:=if s<0 then (0,false) else if (atS l (s / 8)).2=true then ((atS l (s / 8)).1*8+s % 8,true) else (0,false)
theorem fS (l:List (Int × Int)) (t:Int) (h0:0<=t) (h:(atS l t).2=true):∃k:Nat,(atS l t).1=(k:Int)/\k<128/\inT l (k:Int)=true/\(BP l)[t.toNat]? =some k:=by
 obtain ⟨n,rfl⟩:∃n:Nat,t=(n:Int):=⟨t.toNat,oo⟩;rw [R4] at h ⊢;unfold Sp at h ⊢;by_cases hn:n<(BP l).length
 . rw [if_pos hn];have hm:(BP l)[n]∈BP l:=fq hn;refine ⟨(BP l)[n],by simp [hn],MY l _ hm,by rw [Vg];exact (DH l _).1 hm,by rw [gQ,fg hn]⟩
 . rw [if_neg hn] at h;cases h
theorem Ik (l:List (Int × Int)) (s:Int) (h:s<0):AN l s=(0,false):=if_pos h
theorem E9 (l:List (Int × Int)) (s:Int) (h:0<=s):((atS l (s / 8)).2=false/\AN l s=(0,false))\/∃k:Nat,atS l (s / 8)=((k:Int),true)/\k<128/\inT l (k:Int)=true/\(BP l)[(s / 8).toNat]? =some k/\AN l s=((k:Int)*8+s % 8,true):=by
 cases hc:(atS l (s / 8)).2 with
 | false=>exact .inl ⟨rfl,by unfold AN;rw [if_neg oo,if_neg (by rw [hc];simp)]⟩
 | true=>
   obtain ⟨k,h1,h2,h3,h4⟩:=fS l (s / 8) oo hc;exact .inr ⟨k,Prod.ext h1 hc,h2,h3,h4,by unfold AN;rw [if_neg oo,if_pos hc,h1]⟩
section
variable (A:Option Addr) (c:Nat) (l:Lab) (w:World)
theorem Jb (g:LabAt w A c l) (hs:l.ext.length<=1000) (s:Int) (s0:-9223372036854775808<=s) (s1:s<=9223372036854775807) (a:Int) (b:Bool) (d:AN l.ext s=(a,b)):
 Calls Tryz.prog 48 #[.agg #[.int .i64 l.id,.int .i64 l.unit,.string l.name,.string l.note,.slice A l.ext.length c],.int .i64 s] w λe w'=>e=.returned (.tuple #[.int .i64 a,.bool b])/\Grew w w':=by
 have f:=(fh w).alloc (.cells #[.int .i64 l.id,.int .i64 l.unit,.string l.name,.string l.note,.slice A l.ext.length c] 100);by_cases hn:s<0
 . rw [Ik _ _ hn] at d;injection d with e1 e2;subst e1;subst e2;go_enter Tryz.func48,Tryz.ntmps48;go_wp2_with fail
   go_returns
   exact ⟨rfl,gG⟩
 have h:0<=s:=oo;have HC:=zh (λw1 (hg:Grew w w1)=>ev A c _ l.ext _ rfl oo (g.hold hg).runs (s / 8) oo oo);have hd:s.tdiv 8=s / 8:=Int.tdiv_eq_ediv_of_nonneg h;have hm:s.tmod 8=s % 8:=jI h;rcases E9 l.ext s h with ⟨h2,hx⟩ | ⟨k,h1,h2,_,_,hx⟩
 . rw [hx] at d;injection d with e1 e2;subst e1;subst e2;obtain ⟨⟨x,y⟩,i⟩:∃p,atS l.ext (s / 8)=p:=⟨_,rfl⟩;rw [i] at h2;simp only at h2;subst h2;have HX:=zh (show (if s / 8<0 then ((0,false):Int × Bool) else atS l.ext (s / 8))=(x,false) from by rw [if_neg oo,i]);clear hx i g;go_enter Tryz.func48,Tryz.ntmps48;go_wp2_with fail;refine (HC _ f _ _ HX).mono ?_;rintro e w2 ⟨rfl,g2⟩;go_wp2_with fail
   go_returns
   exact ⟨rfl,f.trans g2⟩
 . rw [hx] at d;injection d with e1 e2;subst e2;have HX:=zh (show (if s / 8<0 then ((0,false):Int × Bool) else atS l.ext (s / 8))=((k:Int),true) from by rw [if_neg oo,h1]);have j:0<=s % 8/\s % 8<8:=oo;have HA:=zh e1;clear hx h1 g e1;go_enter Tryz.func48,Tryz.ntmps48;go_wp2_with fail;refine (HC _ f _ _ HX).mono ?_;rintro e w2 ⟨rfl,g2⟩;go_wp2_with fail
   go_returns
   exact ⟨NE (by rw [<-HA.out]<;>omega) rfl,f.trans g2⟩
end

end
section
attribute [local go_sem ↓] Go.wp_at_zero Go.wp_at_succ
open Go.RowKit
section
variable (A:Option Addr) (c:Nat) (xs:List LabE) (T:Tab) (w:World)
theorem Ib (h:TabAt w A c xs T) (hs:SmallT T):
 Calls Tryz.prog 73 #[.agg #[.string T.name,.int .i64 T.tracks,.slice A T.labels.length c]] w λe w'=>∃v,e=.returned v/\OwnL w' w.heap.size 9 1 v ((AP T).map Em)/\Grew w w':=by
 have o:=(fh w).alloc (.cells #[.string T.name,.int .i64 T.tracks,.slice A T.labels.length c] 50);have I:=zh (fy w 50 #[.string T.name,.int .i64 T.tracks,.slice A T.labels.length c] rfl);have HV:=zh (Eo A c xs T _ (h.hold o) hs _ rfl);have J:=zh h;have HS:=zh hs;have C:=zh o;have K:=h.name;have a0:=hs.len;have D:=zh (show -9223372036854775808<=T.tracks/\T.tracks<=9223372036854775807 from ⟨h.tr0,h.tr1⟩);clear h hs o;cases hv:A0 T with
 | false=>
   have HE:=zh (show AP T=[] from by unfold AP;rw [if_neg (by rw [hv];simp)]);have p:=zh hv;clear hv;go_enter Tryz.func73,Tryz.ntmps73;go_wp2_with fail;refine HV.mono ?_;rintro e w1 ⟨rfl,g1⟩;rw [p.out];go_wp2_with fail;go_ret;exact ⟨_,rfl,by rw [HE.out];exact OwnL.nil _ _ _ _,C.out.trans g1⟩
 | true=>
   have HE:=zh (show AP T=EG (Ei T T.labels.length) from by unfold AP;rw [if_pos hv]);have p:=zh hv;have L:=zh (λk hk=>F7 T k hk);have M:=zh (λk hk=>Gr T hv k hk);have N:=zh (λk (hk:k<T.labels.length)=>NZ T.tracks ((AX T).1 hv).tr T.labels[k] (((AX T).1 hv).ok _ (fq hk)));have O:=zh (GK T);clear hv;go_enter Tryz.func73,Tryz.ntmps73;go_wp2_with fail;refine HV.mono ?_;rintro e w1 ⟨rfl,g1⟩;rw [p.out];have j:=zh (I.grew g1);have P:=zh (C.out.trans g1);have x0:=j.cell 0;have x1:=j.cell 1;have q:=j.out.lt;clear g1;go_wp2_with fail;refine (Lo T.name T.tracks _ K).mono ?_;rintro e w2 ⟨rfl,g2⟩;have r:=zh (j.grew g2);have Q:=zh (P.out.trans g2);clear x0 x1 q g2;have x2:=r.cell 2;have q:=r.out.lt;go_wp2_with fail
   go_loopg [3,18] T.labels.length (λgk sv i wr=>∃k:Nat,k<=T.labels.length/\gk=T.labels.length - k/\i=.int .i64 k/\sv=.string (Ei T k)/\Blk wr w.heap.size 50 #[.string T.name,.int .i64 T.tracks,.slice A T.labels.length c]/\Grew w wr)
   case atStart=>exact ⟨0,oo,oo,rfl,by rw [O.out],r,Q⟩
   case round=>
    obtain ⟨k,hk,g,rfl,rfl,hb,hg⟩:=hrel;have t:=zh g;have HB:=zh hb;have HG:=zh hg;have m:=M.out k hk;clear g x2 q;by_cases f:k<T.labels.length
    . obtain ⟨b,bb,B,d,l,rfl,bc,an,hv,H,c0,c1,c2,c3,c4⟩:=(J.hold hg).at_ f;have R:=HS.ext T.labels[k] (fq f);rw [hv] at R;have hn:=L.out k f;rw [hv] at hn;have HN:=zh hn;have hz:=N.out k f;rw [hv] at hz;have a1:(Cw l T.tracks).size<=1024:=oo;have a2:(Ei T k).size<=2000000:=oo;have n:Grew wr (wr.alloc (.cells #[.int .i64 l.id,.int .i64 l.unit,.string l.name,.string l.note,.slice B l.ext.length d] 100)):=(fh wr).alloc _;have S:=zh (H.hold n);have a3:=zh (fy wr 100 #[.int .i64 l.id,.int .i64 l.unit,.string l.name,.string l.note,.slice B l.ext.length d] rfl);have U:=zh (hb.grew n);have V:=zh (hg.trans n);have x1:=hb.cell 1;have a4:=hb.lt;clear hn hz m hv an H hb hg n;go_wp2_with fail;refine (NW B d l T.tracks _ S oo D.1 D.2).mono ?_;rintro e w4 ⟨rfl,g4⟩;have W:=zh (U.grew g4);have X:=zh (V.out.trans g4);clear c0 c1 c2 c3 c4 x1 g4;go_wp2_with fail
      go_roundg (T.labels.length - (k+1))
      case measure=>rw [t.out];omega
      case rel=>exact ⟨k+1,oo,oo,by go_num,by rw [HN.out],W,X⟩
    . have u:k=T.labels.length:=oo;subst u;obtain ⟨s,hs⟩:∃s,Ei T T.labels.length=s:=⟨_,rfl⟩;rw [hs] at m ⊢;have Y:=zh (HE.out.trans (by rw [hs]));have x:=Bp s;have E:s.size=1024*(T.labels.length+1):=m;have Z:=zh E;have F:=UE s;have aa:=zh F;clear hs m hb hg F E;go_wp2_with fail
      go_loopg [3,6] (s.size / 128) (λgk av ov wr'=>∃k:Nat,k<=s.size / 128/\gk=s.size / 128 - k/\av=.string (Ej s k)/\OwnL wr' w.heap.size 9 1 ov (((EG s).take k).map Em)/\Grew w wr')
      case atStart=>exact ⟨0,oo,oo,by rw [aa.out],OwnL.nil _ _ _ _,HG⟩
      case round=>
       obtain ⟨k,hk,g,rfl,z,hg⟩:=hrel;have t:=zh g;have ad:=hg.size;clear g;have y:=Mr s k oo;have G:=Z.out;by_cases f:k<s.size / 128
       . have a5:(Ej s k).toList.isEmpty=false:=by
          cases hq:(Ej s k).toList with
          | nil=>
            have h9:Ej s k=⟨#[]⟩:=F6 (by rw [ByteArray.toList_eq] at hq;simpa using hq);have h8:=gJ ByteArray.size h9;rw [y] at h8;have h6:s.size - 128*k=0:=h8;omega
          | cons a l=>rfl
         have a6:128<=(Ej s k).size:=oo;have HT:=zh (PN s k oo);have HH:=zh (TW s k oo);have HN:=zh (TJ s k oo);have a7:((EG s).take k).length<=100000:=by rw [iX];omega
         clear y x G;go_wp2_with (at_builtin;refine Cp rfl _ _ 60 rfl w.heap.size 9 1 16 _ Tryz.underlying60 RC rfl qd _ _ (((EG s).take k).map Em) (Em ((Ej s k).extract 0 128)) (by rfl) rfl rfl z (by first | rfl | (simp;done)) rfl rfl (by rw [fm];omega) (by rw [fm];omega) ad ?_;intro v' w5 aj al a8 a9)
         go_roundg (s.size / 128 - (k+1))
         case measure=>rw [t.out];omega
         case rel=>exact ⟨k+1,oo,oo,by rw [<-HN.out],by rw [HT.out,fz,<-HH.out];exact aj,al _ hg (fk _)⟩
       . have u:128*k=s.size:=oo
         have he:Ej s k=⟨#[]⟩:=by
          apply ByteArray.ext;apply Array.eq_empty_of_size_eq_zero;show (Ej s k).size=0;omega
         have HF:=zh (show (EG s).take k=EG s from gP (by rw [x];omega));have HO:=zh z;have ae:=zh hg;rw [he];clear u he z hg y x G;go_wp2_with fail;go_ret;exact ⟨_,rfl,by have:=HO.out;rw [HF.out] at this;rw [Y.out];exact this,ae⟩
end

theorem Mh (T U:Tab) (h:(AP T).length=0\/(AP U).length=0):Bq T U=[]:=by
 unfold Bq;split
 . rename_i hc;have h0:(AP T).length=0:=oo;rw [h0];rfl
 . rfl
theorem U4 (T U:Tab) (h:¬T.tracks=U.tracks):Bq T U=[]:=by
 unfold Bq;rw [if_neg (λhc=>h hc.2)]
theorem Ua (T U:Tab) (h1:(AP T).length≠0) (h2:(AP U).length≠0) (ht:T.tracks=U.tracks):Bq T U=Co (AP T) (AP U) (AP U).length:=by
 have hl:=R7 T U h1 h2 ht;unfold Bq;rw [if_pos ⟨hl,ht⟩,hl]
section
variable (A A2:Option Addr) (c c2:Nat) (xs ys:List LabE) (T U:Tab) (w:World)
theorem Rk (h:TabAt w A c xs T) (hs:SmallT T) (h2:TabAt w A2 c2 ys U) (q:SmallT U):
 Calls Tryz.prog 134 #[.agg #[.string T.name,.int .i64 T.tracks,.slice A T.labels.length c],.agg #[.string U.name,.int .i64 U.tracks,.slice A2 U.labels.length c2]] w λe w'=>∃v,e=.returned v/\OwnL w' w.heap.size 65 2 v ((Bq T U).map wrC)/\Grew w w':=by
 have B:=((fh w).alloc (.cells #[.string T.name,.int .i64 T.tracks,.slice A T.labels.length c] 50)).alloc (.cells #[.string U.name,.int .i64 U.tracks,.slice A2 U.labels.length c2] 50);have f:=(fy w 50 #[.string T.name,.int .i64 T.tracks,.slice A T.labels.length c] rfl).alloc (.cells #[.string U.name,.int .i64 U.tracks,.slice A2 U.labels.length c2] 50);have a:=fy (w.alloc (.cells #[.string T.name,.int .i64 T.tracks,.slice A T.labels.length c] 50)) 50 #[.string U.name,.int .i64 U.tracks,.slice A2 U.labels.length c2] (n:=w.heap.size+1) qs;have C:=zh f;have D:=zh a;have HT:=zh h;have HU:=zh h2;have HS:=zh hs;have S:=zh q;have l:=zh B;have a7:=I5 T hs.len;have a8:=I5 U q.len;have b:=zh (show ∀w1:World,Grew ((w.alloc (.cells #[.string T.name,.int .i64 T.tracks,.slice A T.labels.length c] 50)).alloc (.cells #[.string U.name,.int .i64 U.tracks,.slice A2 U.labels.length c2] 50)) w1->(λw':World=>w'.cell? ⟨w.heap.size,0,none⟩=some (.string T.name)/\w'.cell? ⟨w.heap.size,1,none⟩=some (.int .i64 T.tracks)/\w'.cell? ⟨w.heap.size,2,none⟩=some (.slice A T.labels.length c)/\w'.cell? ⟨w.heap.size+1,0,none⟩=some (.string U.name)/\w'.cell? ⟨w.heap.size+1,1,none⟩=some (.int .i64 U.tracks)/\w'.cell? ⟨w.heap.size+1,2,none⟩=some (.slice A2 U.labels.length c2)) w1 from λw1 g=>⟨(f.grew g).cell 0,(f.grew g).cell 1,(f.grew g).cell 2,(a.grew g).cell 0,(a.grew g).cell 1,(a.grew g).cell 2⟩);have hS:=b.out _ (fh ((w.alloc (.cells #[.string T.name,.int .i64 T.tracks,.slice A T.labels.length c] 50)).alloc (.cells #[.string U.name,.int .i64 U.tracks,.slice A2 U.labels.length c2] 50))).drew;have m:=zh ((fh ((w.alloc (.cells #[.string T.name,.int .i64 T.tracks,.slice A T.labels.length c] 50)).alloc (.cells #[.string U.name,.int .i64 U.tracks,.slice A2 U.labels.length c2] 50))).drew);clear h hs h2 q f a B;go_enter Tryz.func134,Tryz.ntmps134;go_wp2_with fail;obtain ⟨w0,z⟩:∃w0,w0=(w.alloc (.cells #[.string T.name,.int .i64 T.tracks,.slice A T.labels.length c] 50)).alloc (.cells #[.string U.name,.int .i64 U.tracks,.slice A2 U.labels.length c2] 50):=⟨_,rfl⟩;have a9:w0.heap.size=w.heap.size+2:=by rw [z];simp
 rw [<-z] at C D l b m hS ⊢;clear z;refine AB [] (λw':World=>w'.cell? ⟨w.heap.size,0,none⟩=some (.string T.name)/\w'.cell? ⟨w.heap.size,1,none⟩=some (.int .i64 T.tracks)/\w'.cell? ⟨w.heap.size,2,none⟩=some (.slice A T.labels.length c)/\w'.cell? ⟨w.heap.size+1,0,none⟩=some (.string U.name)/\w'.cell? ⟨w.heap.size+1,1,none⟩=some (.int .i64 U.tracks)/\w'.cell? ⟨w.heap.size+1,2,none⟩=some (.slice A2 U.labels.length c2)) qk ?_;refine tT 0 (some 9) hS ?_;refine tT 2 (some 11) hS ?_;refine tO 1 λK' hK=>?_;go_wp2_with fail;refine (Ib A c xs T _ (HT.hold (l.out.trans m)) HS).mono ?_;rintro e w3 ⟨v3,rfl,I,g3⟩;have G3:=m.out.trans g3;obtain ⟨A3,c3,rfl,a3,a4,M⟩:=I.listAt;go_wp2_with fail;refine hK.out _ _ (.inr (λ_=>b _ G3)) ?_;clear hK hS;have hS:=b.out _ G3;refine tO 3 λK' hK=>?_;go_wp2_with fail;refine (Ib A2 c2 ys U _ (HU.hold (l.out.trans G3)) S).mono ?_;rintro e w4 ⟨v4,rfl,J,g4⟩;have G4:=G3.trans g4;obtain ⟨A4,c4,rfl,a5,a6,N⟩:=J.listAt;go_wp2_with fail;refine hK.out _ _ (.inr (λ_=>b _ G4)) ?_;clear hK hS;have hS:=b.out _ G4;refine tQ 4 5 ?_;refine tQ 5 6 ?_;refine AA qk ?_ _;have r:=zh (C.grew G4);have s:=zh (D.grew G4);have j:=zh (l.out.trans G4);have V:=zh (M.keep (fk _) g4);have W:=zh N;have bb:w3.heap.size<=w4.heap.size:=g4.size;have x1:=r.cell 1;have u1:=s.cell 1;have bc:=r.out.lt;have bd:=s.out.lt;clear hS I J M N g3 g4 G3 G4 a3 a5 a4 a6 b m;have bf:(((AP T).map Em).length)=(AP T).length:=fm ..;by_cases h0:(AP T).length=0
 . have hb:(((AP T).length:Int)==0)=true:=by rw [iy];omega
   have HD:=zh (Mh T U (.inl h0));clear h0;go_wp2_with fail;go_ret;exact ⟨_,rfl,by rw [HD.out];exact OwnL.nil _ _ _ _,j⟩
 have hb:(((AP T).length:Int)==0)=false:=by rw [gF];omega
 by_cases h1:(AP U).length=0
 . have hc:(((AP U).length:Int)==0)=true:=by rw [iy];omega
   have HD:=zh (Mh T U (.inr h1));clear h0 h1;go_wp2_with fail;go_ret;exact ⟨_,rfl,by rw [HD.out];exact OwnL.nil _ _ _ _,j⟩
 have hc:(((AP U).length:Int)==0)=false:=by rw [gF];omega
 by_cases ht:T.tracks=U.tracks;rotate_left
 . have hd:(T.tracks != U.tracks)=true:=by rw [gu];exact ht
   have HD:=zh (U4 T U ht);clear h0 h1 ht;go_wp2_with fail;go_ret;exact ⟨_,rfl,by rw [HD.out];exact OwnL.nil _ _ _ _,j⟩
 have hd:(T.tracks != U.tracks)=false:=by rw [jZ];exact ht
 have HD:=zh (Ua T U h0 h1 ht);have E:=R7 T U h0 h1 ht;have Z:=zh (λk (h1:k<(AP T).length) (h2:k<(AP U).length)=>ZB (AP T) (AP U) k h1 h2);have aa:=zh (λk (h1:k<(AP T).length) (h2:k<(AP U).length)=>YW (AP T) (AP U) k h1 h2);have ad:=zh E;clear h0 h1 ht x1 u1 E;have x1:=r.cell 1;have u1:=s.cell 1;generalize AP T=X at*;generalize AP U=Y at*;go_wp2_with fail
 go_loopg [7,30] Y.length (λgk ov i wr=>∃k:Nat,k<=Y.length/\gk=Y.length - k/\i=.int .i64 k/\OwnL wr w4.heap.size 65 2 ov ((Co X Y k).map wrC)/\Grew w4 wr)
 case atStart=>exact ⟨0,oo,oo,rfl,OwnL.nil _ _ _ _,fh _⟩
 case round=>
  obtain ⟨k,hk,O,rfl,p,hg⟩:=hrel;have F:=zh O;have HG:=zh hg;have o:=hg.size;clear O hb hc hd x1 u1;by_cases u:k<Y.length
  . have t:k<X.length:=by have:=ad.out;omega
    obtain ⟨b1,o1,rfl,a,P⟩:=V.out (by rw [fm];omega);obtain ⟨b2,o2,rfl,Q,R⟩:=W.out (by rw [fm];omega);obtain ⟨x,hx⟩:∃x,X[k]=x:=⟨_,rfl⟩;obtain ⟨y,hy⟩:∃y,Y[k]=y:=⟨_,rfl⟩;have a:b1<w4.heap.size:=oo
    have q0:wr.cell? ⟨b1,o1+k,none⟩=some (.string x):=by
     rw [hg.cellEq _ _ a];have:=P k (Em x) (by rw [fo,fg t,hx];rfl) 0 _ rfl;simpa using this
    have p0:wr.cell? ⟨b2,o2+k,none⟩=some (.string y):=by
     rw [hg.cellEq _ _ Q];have:=R k (Em y) (by rw [fo,fg u,hy];rfl) 0 _ rfl;simpa using this
    have ae:=fw a o;have G:=fw Q o;have hS:(λw':World=>w'.cell? ⟨b1,o1+k,none⟩=some (.string x)/\w'.cell? ⟨b2,o2+k,none⟩=some (.string y)) wr.drew:=⟨q0,p0⟩;have H:=zh p;have bk:=V8 X Y k;clear P R hg p;by_cases he:x=y
    . have HQ:=zh (show (x.toList==y.toList)=true from by rw [he,iy]);have HN:=zh (show Co X Y (k+1)=Co X Y k from Z.out k t u (by rw [hx,hy,he]));clear he hx hy;go_wp2_with fail;refine AB [] (λw':World=>w'.cell? ⟨b1,o1+k,none⟩=some (.string x)/\w'.cell? ⟨b2,o2+k,none⟩=some (.string y)) qk ?_;refine tQ 0 33 ?_;refine tQ 1 34 ?_;refine tQ 2 35 ?_;refine tT 3 (some 36) hS ?_;refine tQ 4 37 ?_;refine tQ 5 38 ?_;refine tQ 6 39 ?_;refine tT 7 (some 40) hS ?_;refine tQ 8 41 ?_
      try rw [HQ.out]
      refine AA qk ?_ _;clear hS q0 p0;go_wp2_with fail
      go_roundg (Y.length - (k+1))
      case measure=>rw [F.out];omega
      case rel=>exact ⟨k+1,oo,oo,by go_num,by rw [HN.out];exact H.drew,HG.drew⟩
    . have HQ:=zh (show (x.toList==y.toList)=false from gF.2 (λe=>he (F6 (by simpa [ByteArray.toList_eq] using e))));have HN:=zh (show Co X Y (k+1)=Co X Y k++[((k:Int),y)] from by rw [aa.out k t u (by rw [hx,hy];exact he),hy]);clear he hx hy;go_wp2_with fail;refine AB [] (λw':World=>w'.cell? ⟨b1,o1+k,none⟩=some (.string x)/\w'.cell? ⟨b2,o2+k,none⟩=some (.string y)) qk ?_;refine tQ 0 33 ?_;refine tQ 1 34 ?_;refine tQ 2 35 ?_;refine tT 3 (some 36) hS ?_;refine tQ 4 37 ?_;refine tQ 5 38 ?_;refine tQ 6 39 ?_;refine tT 7 (some 40) hS ?_;refine tQ 8 41 ?_
      try rw [HQ.out]
      refine AA qk ?_ _;clear hS;obtain ⟨wz,d⟩:∃wz,wz=wr.drew:=⟨_,rfl⟩;have aj:=zh (show OwnL wz w4.heap.size 65 2 _ ((Co X Y k).map wrC) from by rw [d];exact H.drew);have al:=zh (show Grew w4 wz from by rw [d];exact HG.drew);have p0:wz.cell? ⟨b2,o2+k,none⟩=some (.string y):=by rw [d];exact p0
      have G:b2<wz.heap.size:=by rw [d];exact G
      have an:w4.heap.size<=wz.heap.size:=by rw [d];exact o
      rw [<-d];clear d q0 o ae;go_wp2_with (at_builtin;refine Cp rfl _ _ 24 rfl w4.heap.size 65 2 24 _ Tryz.underlying24 TY rfl qd wz _ ((Co X Y k).map wrC) (wrC ((k:Int),y)) (by rfl) rfl rfl aj (by first | rfl | (simp;done)) rfl rfl (by rw [fm];omega) (by rw [fm];omega) an ?_;intro v' w5 K L a2 bl);have av:=zh K;have a0:=zh (L _ al (fk _));clear K L a2 p0
      go_roundg (Y.length - (k+1))
      case measure=>rw [F.out];omega
      case rel=>exact ⟨k+1,oo,oo,by go_num,by rw [HN.out,fz];exact av.out,a0⟩
  . have a1:k=Y.length:=oo;subst a1;have HO:=zh (p.lower2 (b':=w.heap.size) (by have:=j.size;omega));clear p hg;go_wp2_with fail;go_ret;exact ⟨_,rfl,by rw [HD.out];exact HO.out,j.out.trans HG⟩
end

end
section
open Go.RowKit
theorem WH (a:List (Nat × Nat)) (t:Nat) (h:∀r∈a,1<=r.2):∀r∈Fc a t,1<=r.2:=by
 rcases Er a with rfl | ⟨i,x,rfl⟩
 . rw [LU];intro r hr;rw [fp.1 hr];exact fk _
 . rw [Db];split
   . intro r hr;rcases gC.1 hr with hr | hr
     . exact h r (iH _ hr)
     . rw [fp.1 hr];exact Nat.le_add_left _ _
   . intro r hr;rcases gC.1 hr with hr | hr
     . exact h r hr
     . rw [fp.1 hr];exact fk _
theorem Xi (s:List Nat):∀r∈Ek s,1<=r.2:=by
 have b:∀(s:List Nat) (a:List (Nat × Nat)),(∀r∈a,1<=r.2)->∀r∈s.foldl Fc a,1<=r.2:=by
  intro s
  induction s with
  | nil=>intro a h;exact h
  | cons t s ih=>intro a h;exact ih _ (WH a t h)
 exact b s [] (λr hr=>by cases hr)
theorem J1 (s:List Nat):Ek (Bx (Ek s))=Ek s:=by rw [Jh]
theorem Mq (Z:List (Nat × Nat)) (hp:∀r∈Z,1<=r.2) (hg:Z.Pairwise λa b=>a.1+a.2≠b.1):Ek (Bx Z)=Z:=by
 have c:∀(Z I:List (Nat × Nat)),(∀r∈Z,1<=r.2)->(I++Z).Pairwise (λa b=>a.1+a.2≠b.1)->(Bx Z).foldl Fc I=I++Z:=by
  intro Z
  induction Z with
  | nil=>intro I _ _;simp [Bx]
  | cons x Z ih=>
    intro I hp hg;have h1:=hp x (gS ..)
    have e:CM I (x.1,x.2)=I++[x]:=by
     rcases Er I with rfl | ⟨i,y,rfl⟩
     . unfold CM;rw [if_neg (by simp only [];omega),if_neg (λh=>h.1 rfl)]
     . rw [Hv i y (x.1,x.2) (by simp only [];omega),if_neg (by
        have:=(pairwise_append.1 hg).2.2 y qs x qs
        exact this)]
    rw [Fs,iV,<-PD I x.1 x.2,e,ih (I++[x]) (λr hr=>hp r (gM _ hr)) (by rw [iA];exact hg),iA];rfl
 have:=c Z [] hp (by simpa using hg);simpa [Ek] using this
theorem TV (l:List (Nat × Nat)):BI l 0=[]:=by cases l<;>simp [BI]
theorem PO:∀(l:List (Nat × Nat)) (n:Nat),∀b∈BI l n,∃c∈l,b.1=c.1
 | [],n,b,hb=>by simp [BI] at hb
 | r::l,n,b,hb=>by
   unfold BI at hb;split at hb
   . cases hb
   . rcases ia.1 hb with rfl | hb
     . exact ⟨r,gS ..,rfl⟩
     . obtain ⟨c,hc,e⟩:=PO l _ b hb;exact ⟨c,gM _ hc,e⟩
theorem M4:∀(l:List (Nat × Nat)) (n:Nat),l.Pairwise (λa b=>a.1+a.2≠b.1)->(BI l n).Pairwise (λa b=>a.1+a.2≠b.1)
 | [],n,_=>by simp [BI]
 | r::l,n,h=>by
   obtain ⟨h1,h2⟩:=iw.1 h;unfold BI;split
   . exact Pairwise.nil
   . refine iw.2 ⟨λb hb=>?_,M4 l _ h2⟩;obtain ⟨c,hc,e⟩:=PO l _ b hb;by_cases h0:n - min r.2 n=0
     . rw [h0,TV] at hb;cases hb
     . have:=h1 c hc;rw [e];simp only [];omega
theorem WT (S:Nat->Bool):(Bn (AH S)).Pairwise (λa b=>a.1+a.2≠b.1):=by
 have h0:(AH S).Pairwise (λa b=>a.1+a.2≠b.1/\b.1+b.2≠a.1):=(Jw S 128).1.imp (λ{a b} h=>⟨oo,oo⟩);have hp:=Es _ (Cm S) (Dk S);have h1:=(hp.pairwise_iff (λ{a b} h=>⟨h.2,h.1⟩)).1 h0;exact h1.imp (λh=>h.1)
theorem U8 (S:Nat->Bool) (n most:Int) (h:(BV S n most).2=0):Ek (Bx (BV S n most).1)=(BV S n most).1:=by
 unfold BV at h ⊢;by_cases h1:n<1\/most<1
 . rw [if_pos h1] at h;exact absurd h qd
 rw [if_neg h1] at h ⊢;by_cases h2:(Bh n (AH S)).2≠0
 . rw [if_pos h2];exact Mq _ (λr hr=>by rw [fp.1 hr];simp only [];omega) (pairwise_singleton ..)
 rw [if_neg h2] at h ⊢;by_cases h3:n.toNat - CJ (Bn (AH S))≠0\/most<((BI (Bn (AH S)) n.toNat).length:Int)
 . rw [if_pos h3] at h;exact absurd h qd
 rw [if_neg h3];exact Mq _ (Wn _ _ (λr hr=>(Cm S r ((G0 _ (Cm S) r).1 hr)).1)) (M4 _ _ (WT S))
theorem bQ (I:List (Nat × Nat)) (x:Nat × Nat):∀k,(Ch (x.1+x.2,k)).foldl Fc (I++[x])=I++[(x.1,x.2+k)]:=by
 intro k
 induction k with
 | zero=>simp [Ch]
 | succ k ih=>
   rw [Ld,iV,ih,foldl_cons,foldl_nil,Db,if_pos (by simp only [];omega)];rfl
theorem Yi (e f:List (Int × Int)) (n:Int) (h:(Dw e f n).2=0):Ek (Bx (Dw e f n).1)=(Dw e f n).1:=by
 rcases Jg e f n with h0 | ⟨I,x,k,hL,a,hk,b,c,h0⟩
 . rw [h0] at h;exact absurd h qd
 rw [h0] at h ⊢;unfold OT at h ⊢;by_cases h1:n.toNat - k=0
 . rw [if_pos h1];show Ek (Bx (Ec I x k))=Ec I x k;rw [J8];unfold Ek;rw [iV,show (Bx (I++[x])).foldl Fc []=I++[x] from by rw [<-hL,Fn];exact J1 _];exact bQ I x k
 rw [if_neg h1] at h ⊢;by_cases h2:16 - ((I.length:Int)+1)<1
 . rw [if_pos h2] at h;exact absurd h qd
 rw [if_neg h2] at h ⊢;by_cases h3:(MM I x f n.toNat k).2≠0
 . rw [if_pos h3] at h;exact absurd h h3
 rw [if_neg h3];show Ek (Bx (Bb _))=Bb _;rw [Fn,J1]
theorem ey (l:List (Int × Int)) (t:Int) (ht:okT t=true) (h:l.any (GQ t)=false):∀i∈BP l,ttS t<=(i:Int)/\(i:Int)<t:=by
 intro i hi;have a:=MY l i hi;have hm:=(DH l i).1 hi;unfold AG at hm;obtain ⟨r,hr,b⟩:=jD.1 hm;have hb:=iK.1 h r hr;have hs:=ZV r.1 r.2 i a;rw [show (r.1,r.2)=r from rfl,b] at hs;have c:=gV hs.symm;unfold GQ at hb;simp only [Bool.or_eq_true,gm,not_or] at hb;unfold ttS at hb ⊢;rw [if_pos ht] at hb ⊢;unfold okT at ht;have d:=gV ht;omega
theorem eK (Z:List (Nat × Nat)) (t:Int) (hp:∀r∈Z,1<=r.2) (h:∀i∈Bx Z,ttS t<=(i:Int)/\(i:Int)<t):(AK Z).any (GQ t)=false:=by
 rw [iK];intro r hr;unfold AK at hr;obtain ⟨z,hz,rfl⟩:=ft.1 hr;have a:=hp z hz;have h1:=h z.1 (List.mem_flatMap.2 ⟨z,hz,(Gt z _).2 ⟨fk _,oo⟩⟩);have h2:=h (z.1+z.2 - 1) (List.mem_flatMap.2 ⟨z,hz,(Gt z _).2 ⟨oo,oo⟩⟩);unfold GQ;simp only [Bool.or_eq_true,gm,not_or];omega
theorem NX (t:Int) (x:Lab) (Z:List (Nat × Nat)) (ht:okT t=true) (d:idB x=true) (b:txB x=true) (hZ:x.ext=AK Z) (hj:Ek (Bx Z)=Z) (hb:∀r∈Z,r.1+r.2<=128) (h1:1<=Z.length) (e:Z.length<=16) (c:(Bx Z).Nodup) (a:∀i∈Bx Z,ttS t<=(i:Int)/\(i:Int)<t):BO x t=true:=by
 have f:∀r∈Z,1<=r.2:=λr hr=>Xi (Bx Z) r (by rw [hj];exact hr);have hc:cnB x=true:=by unfold cnB;rw [hZ,AZ];exact gD ⟨h1,e⟩
 have g:jnB x=true:=by
  unfold jnB;rw [hZ,Fn,Bi Z hb,hj,gZ];exact ⟨gD rfl,gD c⟩
 have hi:inB x t=true:=by unfold inB;rw [hZ,eK Z t f a];rfl
 unfold BO;rw [ht,d,b,hc,g,hi];rfl
theorem GI (l:Lab) (t:Int) (h:BO l t=true):AK (Bb l.ext)=l.ext/\(BP l.ext).Nodup/\(∀i∈BP l.ext,ttS t<=(i:Int)/\(i:Int)<t)/\1<=l.ext.length/\l.ext.length<=16/\(Bb l.ext).length=l.ext.length:=by
 obtain ⟨h1,h2,h3,h4,h5,h6⟩:=DB l t h;unfold jnB at h5;rw [gZ] at h5;have e:=gV h5.1;unfold inB at h6;unfold cnB at h4;have a:=gV h4;have h7:(Bb l.ext).length=l.ext.length:=by rw [<-AZ (Bb l.ext),e]
 exact ⟨e,gV h5.2,ey _ t h1 (by simpa using h6),a.1,a.2,h7⟩

end
end Go.Proofs.YtfklieeipokllaaGreat
