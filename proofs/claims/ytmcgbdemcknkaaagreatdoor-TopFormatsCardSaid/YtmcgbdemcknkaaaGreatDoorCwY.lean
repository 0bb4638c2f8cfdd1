/- Parts of the proof (packed), 25. -/
import Derived.LaidMore
import Derived.MakeChecks
import Derived.Test.YtmcgbdemcknkaaaGreatDoorCwX
import Derived.Test.YtmcgbdemcknkaaaGreatDoorCwV
namespace Go.Proofs.YtmcgbdemcknkaaaGreatDoor
set_option linter.all false
set_option maxRecDepth 100000
set_option maxHeartbeats 16000000
open List
section
attribute [local go_sem ↓] Go.wp_at_zero Go.wp_at_succ
open Go.RowKit
theorem NO (la lb:List ByteArray) (A B:Option Addr) (ca cb:Nat) (w:World) (hA:ListAt w w.heap.size 1 A (la.map AI)) (hB:ListAt w w.heap.size 1 B (lb.map AI)) (hl:la.length<=100000000) (l:lb.length<=100000000):
 Calls Tryz.prog 13 #[.slice A la.length ca,.slice B lb.length cb] w λe w'=>e=.returned (.bool (decide (la=lb)))/\Grew w w':=by
 have HA:=zh hA;have HB:=zh hB;clear hA hB;by_cases hn:la.length=lb.length
 . have g:((la.length:Int) != (lb.length:Int))=false:=by rw [hn];simp
   have HN:=zh hn;have j:(la.length:Int)=(lb.length:Int):=oo;clear hn;go_enter Tryz.func13,Tryz.ntmps13;go_wp2_with fail
   go_loopg [5] la.length (λgk i' wr=>∃i:Nat,i<=la.length/\gk=la.length - i/\i'=.int .i64 i/\Grew w wr/\la.take i=lb.take i)
   case atStart=>exact ⟨0,oo,oo,rfl,iW _,by rw [take_zero,take_zero]⟩
   case round=>
    obtain ⟨i,hi,c,rfl,hg,ht⟩:=hrel;have k:=zh c;have HG:=zh hg;have HT:=zh ht;clear c hg ht;by_cases a:i<la.length
    . have b:i<lb.length:=by rw [<-HN.out];exact a
      have m:(i:Int)<(la.length:Int):=oo;have hib:(i:Int)<(lb.length:Int):=oo;obtain ⟨b1,o1,rfl,d,c1⟩:=Cx (AG HA HG) a;obtain ⟨b2,o2,rfl,f,c2⟩:=Cx (AG HB HG) b;obtain ⟨x,hx⟩:∃x,la[i]=x:=⟨_,rfl⟩;obtain ⟨y,hy⟩:∃y,lb[i]=y:=⟨_,rfl⟩;rw [hx] at c1;rw [hy] at c2;have HX:=zh hx;have HY:=zh hy;clear hx hy;by_cases he:x=y
      . subst he;go_wp2_with fail;refine AB [] (λw':World=>w'.cell? ⟨b1,o1+i,none⟩=some (.string x)/\b1<w'.heap.size/\w'.cell? ⟨b2,o2+i,none⟩=some (.string x)/\b2<w'.heap.size) qk ?_;have hS:=(show (λw':World=>w'.cell? ⟨b1,o1+i,none⟩=some (.string x)/\b1<w'.heap.size/\w'.cell? ⟨b2,o2+i,none⟩=some (.string x)/\b2<w'.heap.size) wr.drew from ⟨c1,d,c2,f⟩);refine tQ 0 17 ?_;refine tQ 1 18 ?_;refine tQ 2 19 ?_;refine tT 3 (some 20) hS ?_;refine tQ 4 21 ?_;refine tQ 5 22 ?_;refine tQ 6 23 ?_;refine tT 7 (some 24) hS ?_;refine tQ 8 25 ?_;refine AA qk ?_ _;go_wp2_with fail
        go_roundg (la.length - (i+1))
        case measure=>rw [k.out];omega
        case rel=>exact ⟨i+1,oo,oo,by go_num,HG.drew,by rw [ic a,ic b,HT.out,HX.out,HY.out]⟩
      . have n:(x.toList==y.toList)=false:=by rw [it];exact λh9=>he (IE h9)
        have HE:=zh (show la≠lb from λh9=>he (by rw [<-HX.out,<-HY.out];simp only [h9]));go_wp2_with fail;refine AB [] (λw':World=>w'.cell? ⟨b1,o1+i,none⟩=some (.string x)/\b1<w'.heap.size/\w'.cell? ⟨b2,o2+i,none⟩=some (.string y)/\b2<w'.heap.size) qk ?_;have hS:=(show (λw':World=>w'.cell? ⟨b1,o1+i,none⟩=some (.string x)/\b1<w'.heap.size/\w'.cell? ⟨b2,o2+i,none⟩=some (.string y)/\b2<w'.heap.size) wr.drew from ⟨c1,d,c2,f⟩);refine tQ 0 17 ?_;refine tQ 1 18 ?_;refine tQ 2 19 ?_;refine tT 3 (some 20) hS ?_;refine tQ 4 21 ?_;refine tQ 5 22 ?_;refine tQ 6 23 ?_;refine tT 7 (some 24) hS ?_;refine tQ 8 25 ?_;refine AA qk ?_ _;go_wp2_with fail;go_ret;exact ⟨AC (ir HE.out).symm,HG.drew⟩
    . obtain rfl:i=la.length:=oo
      have HE:=zh (show la=lb from by
       have:=HT.out
       rw [j1,HN.out,j1] at this
       exact this)
      go_wp2_with fail;go_ret;exact ⟨AC (iq HE.out).symm,HG⟩
 . have g:((la.length:Int) != (lb.length:Int))=true:=by rw [jH];omega
   have j:¬(la.length:Int)=(lb.length:Int):=oo;have HE:=zh (show la≠lb from λh=>hn (by rw [h]));go_enter Tryz.func13,Tryz.ntmps13;go_wp2_with fail;go_ret;exact ⟨AC (ir HE.out).symm,iW _⟩
def Lp (l:List ByteArray) (n m:Nat):Bool:=(l.all λs=>decide (s.size<=m)) && decide (l.length<=n)
theorem XR (A:Option Addr) (c:Nat) (l:List ByteArray) (n m:Nat) (w:World) (hA:ListAt w w.heap.size 1 A (l.map AI)) (hl:l.length<=9223372036854775807) (hs:∀s∈l,s.size<=9223372036854775807):
 Calls Tryz.prog 19 #[.slice A l.length c,.int .i64 (n:Int),.int .i64 (m:Int)] w λe w'=>e=.returned (.bool (Lp l n m))/\w'=w:=by
 have HA:=zh hA;have HS:=zh hs;clear hA hs;go_enter Tryz.func19,Tryz.ntmps19;go_wp2_with fail
 go_loopg [7] l.length (λgk iv wr=>∃k:Nat,k<=l.length/\gk=l.length - k/\iv=.int .i64 (k:Int)/\wr=w/\∀s∈l.take k,s.size<=m)
 case atStart=>exact ⟨0,oo,oo,rfl,rfl,λs h=>by simp at h⟩
 case round=>
  obtain ⟨k,hk,g,rfl,rfl,i⟩:=hrel;have j:=zh g;have f:=zh i;clear g i;by_cases a:k<l.length
  . obtain ⟨b,t,rfl,u,q⟩:=Cx HA a;have o:=HS.out l[k] (ib a);have HT:=zh (ic a);have HM:=zh (ib a);have r:(k:Int)<(l.length:Int):=oo;obtain ⟨x,hx⟩:∃x,l[k]=x:=⟨_,rfl⟩;rw [hx] at q o HT HM;clear hx;by_cases hm:x.size<=m
    . have p:¬(m:Int)<(x.size:Int):=oo;have HH:=zh hm;clear hm;go_wp2_with fail
      go_roundg (l.length - (k+1))
      case measure=>rw [j.out];omega
      case rel=>exact ⟨k+1,oo,oo,by go_num,rfl,λs h=>by
       rw [HT.out,ip] at h
       rcases h with h | h
       . exact f.out s h
       . rw [ia.1 h];exact HH.out⟩
    . have p:(m:Int)<(x.size:Int):=oo
      have HE:=zh (show Lp l n m=false from by
       unfold Lp
       rw [show (l.all λs=>decide (s.size<=m))=false from List.all_eq_false.2 ⟨x,HM.out,by simpa using hm⟩]
       rfl)
      clear hm;go_wp2_with fail;go_ret;exact ⟨AC (by rw [HE.out]),rfl⟩
  . obtain rfl:k=l.length:=oo
    have HE:=zh (show Lp l n m=decide (l.length<=n) from by
     unfold Lp
     rw [show (l.all λs=>decide (s.size<=m))=true from jN.2 (λs h=>by
      have:=f.out
      rw [j1] at this
      exact iq (this s h))]
     rfl)
    by_cases d:l.length<=n
    . have hi:(l.length:Int)<=(n:Int):=oo;have HD:=zh (iq d);clear d;go_wp2_with fail;go_ret;exact ⟨AC (by rw [HE.out,HD.out]),rfl⟩
    . have hi:¬(l.length:Int)<=(n:Int):=oo;have HD:=zh (ir d);clear d;go_wp2_with fail;go_ret;exact ⟨AC (by rw [HE.out,HD.out]),rfl⟩
theorem WA (A:Option Addr) (c:Nat) (l:List ByteArray) (w:World) (hA:ListAt w w.heap.size 1 A (l.map AI)) (hl:l.length<=9223372036854775807) (hs:∀s∈l,s.size<=9223372036854775807):
 Calls Tryz.prog 5 #[.slice A l.length c] w λe w'=>e=.returned (.bool (Lp l 60 200))/\w'=w:=by
 have HF:=zh (XR A c l 60 200 w hA hl hs);rw [show ((60:Nat):Int)=60 from rfl,show ((200:Nat):Int)=200 from rfl] at HF;clear hA hs;go_enter Tryz.func5,Tryz.ntmps5;go_wp2_with fail;refine HF.mono ?_;rintro e w1 ⟨rfl,rfl⟩;go_wp2_with fail;go_ret;exact ⟨rfl,rfl⟩

theorem P4 (a F L B:Int) (w:World):Calls Tryz.prog 6 #[.agg #[.int .i64 a,.int .i64 F,.int .i64 L,.int .i64 B]] w λe w'=>e=.returned (dsV 1 a F L B)/\Grew w w':=by
 go_enter Tryz.func6,Tryz.ntmps6
 go_upto_region 1 with fail
 have hb:=ik (w.alloc (.cells #[.int .i64 a,.int .i64 F,.int .i64 L,.int .i64 B] 23)) 29 (dsC 0 0 0 0 0) (n:=w.heap.size+1) qs;have HB:=zh hb;clear hb;go_wp2_with (refine AF rfl 29 _ _ rfl (w.heap.size+1) (dsC 1 a F L B) rfl rfl 29 _ HB rfl Bj (by simp [Value.oneCell']) ?_);refine im (results_cell_row rfl _ _ (w.heap.size+1) 29 _ (0,0) _ rfl (HB.setRow _) Tryz.underlying29 rfl Bj) rfl ?_;exact ⟨rfl,gG⟩
theorem MD {L B:Int} {s:ByteArray} {l:List ByteArray} (h:Bi L B [s]=(l,0)):C3 L B l=([s],0):=by
 unfold Bi at h;split at h
 . cases h
 . split at h
   . rename_i h1;injection h with _ h2;exact absurd h2 h1
   . split at h
     . rename_i h1;injection h with _ h2;exact absurd h2 h1
     . split at h
       . cases h
       . rename_i h1;injection h with h2 _;rw [h2] at h1;simp only [not_or,jU] at h1;exact Prod.ext h1.2 h1.1
theorem GU (s:ByteArray):(AP [s]).size=s.size:=by
 show (s++ByteArray.empty).size=s.size;rw [j3]
theorem GF (s:ByteArray) (w:World):ListAt (w.alloc (.cells #[.string s] 9)) (w.alloc (.cells #[.string s] 9)).heap.size 1 (some ⟨w.heap.size,0,none⟩) (List.map AI [s]):=
 (OwnL.lit w 0 9 1 (AI s) rfl (jL _) rfl).listA
theorem GG (s:ByteArray) (A:Option Addr) (c:Nat) (w:World) (h:ListAt w w.heap.size 1 A (List.map AI [s])):
 Calls Tryz.prog 13 #[.slice A 1 c,.slice (some ⟨w.heap.size,0,none⟩) 1 1] (w.alloc (.cells #[.string s] 9)) λe w'=>e=.returned (.bool true)/\Grew (w.alloc (.cells #[.string s] 9)) w':=by
 have:=NO [s] [s] A (some ⟨w.heap.size,0,none⟩) c 1 (w.alloc (.cells #[.string s] 9)) (AG h ((iW w).alloc _)) (GF s w) qs qs;rw [show decide ([s]=[s])=true from iq rfl] at this;exact this
theorem M8 (N F L B:Int) (s:ByteArray) (w:World) (a6:CodesAt w) (a5:bd L B) (hs:s.size<=1100):
 Calls Tryz.prog 7 #[.agg #[.int .i64 N,.int .i64 F,.int .i64 L,.int .i64 B],.string s] w λe w'=>e=.returned (.bool true)/\Grew w w':=by
 have ek:=zh ((iW w).alloc (.cells #[.int .i64 N,.int .i64 F,.int .i64 L,.int .i64 B] 23));have g:=zh (ik w 23 #[.int .i64 N,.int .i64 F,.int .i64 L,.int .i64 B] rfl);have b:=zh a6;have a:=zh a5;clear a6 a5;go_enter Tryz.func7,Tryz.ntmps7;have xa:=g.cell 2;have xb:=g.cell 3;have xl:=g.out.lt;go_wp2_with fail;refine (Ly L B s _ a.1 a.2.1 a.2.2.1 a.2.2.2 oo).mono ?_;rintro e i3 ⟨i4,rfl,l,ad⟩;have a7:=Le (L:=L) (B:=B) s;obtain ⟨⟨cc,ce⟩,E⟩:∃z,BM L B s=z:=⟨_,rfl⟩;rw [E] at l a7 ⊢;dsimp only at l a7 ⊢;obtain ⟨g2,g3,cf,ch,g4,ci⟩:=l.listAt;rw [iY] at cf ch;subst cf;have a8:=zh (ek.out.trans ad);have c:=zh (g.grew ad);have h2:=DC cc;have em:=zh ci;clear ad l ci xa xb xl;by_cases bv:ce=0
 . subst bv;have ep:=zh (ZH E);have xa:=c.cell 2;have xb:=c.cell 3;have xl:=c.out.lt;clear E;go_wp2_with fail;refine (PI L B g2 g3 cc _ a.1 a.2.1 a.2.2.1 a.2.2.2 em ch g4 oo (λr h=>by have:=JF h;omega)).mono ?_;rintro e gj ⟨i5,rfl,m,af⟩;rw [ep.out] at m ⊢;dsimp only at m ⊢;obtain ⟨g5,g6,cl,-,-,cn⟩:=m.listAt;rw [show (List.map AI [s]).length=1 from rfl] at cl;subst cl;have eq:=zh (a8.out.trans af);have er:=zh (c.grew af);have es:=zh (GG s g5 g6 gj cn);clear af m cn xa xb xl;go_wp2_with fail;refine es.mono ?_;rintro e i6 ⟨rfl,ag⟩;have et:=zh ((eq.alloc (.cells #[.string s] 9)).trans ag);have i:=zh ((er.alloc (.cells #[.string s] 9)).grew ag);clear ag;have xa:=i.cell 2;have xb:=i.cell 3;have xl:=i.out.lt;go_wp2_with fail;refine (It L B s _ a.1 a.2.1 a.2.2.1 a.2.2.2 oo).mono ?_;rintro e i7 ⟨jj,rfl,n,al⟩;have a9:=Jj (L:=L) (B:=B) s;obtain ⟨⟨co,cp⟩,G⟩:∃z,Bd L B s=z:=⟨_,rfl⟩;rw [G] at n a9 ⊢;dsimp only at n a9 ⊢;obtain ⟨g7,g8,cq,cr,g9,cs⟩:=n.listAt;rw [iY] at cq cr;subst cq;have bb:=zh (et.out.trans al);have d:=zh (i.grew al);have h3:=DC co;have eu:=zh cs;clear al n cs xa xb xl;by_cases bx:cp=0
   . subst bx;have ex:=zh (Vc G);have xa:=d.cell 2;have xb:=d.cell 3;have xl:=d.out.lt;clear G;go_wp2_with fail;refine (LA L B g7 g8 co _ a.1 a.2.1 a.2.2.1 a.2.2.2 eu cr g9 oo (λr h=>by have:=JF h;omega)).mono ?_;rintro e gl ⟨ka,rfl,o,an⟩;rw [ex.out] at o ⊢;dsimp only at o ⊢;obtain ⟨ha,hb,ct,-,-,cu⟩:=o.listAt;rw [show (List.map AI [s]).length=1 from rfl] at ct;subst ct;have e0:=zh (bb.out.trans an);have e1:=zh (d.grew an);have e2:=zh (GG s ha hb gl cu);clear an o cu xa xb xl;go_wp2_with fail;refine e2.mono ?_;rintro e kb ⟨rfl,ap⟩;have e3:=zh ((e0.alloc (.cells #[.string s] 9)).trans ap);have j:=zh ((e1.alloc (.cells #[.string s] 9)).grew ap);clear ap;have xa:=j.cell 2;have xb:=j.cell 3;have xl:=j.out.lt;go_wp2_with fail;have bc:=zh (e3.alloc (.cells #[.string s] 9));have e4:=zh (j.alloc (.cells #[.string s] 9));refine (FB L B _ 1 [s] _ (b.grew bc) a.1 a.2.1 a.2.2.1 a.2.2.2 (GF s _) qs qd qs (by rw [GU];omega)).mono ?_;rintro e kc ⟨kd,rfl,p,av⟩;have O:=GD (L:=L) (B:=B) [s];rw [GU] at O;obtain ⟨⟨cv,cw⟩,H⟩:∃z,Bi L B [s]=z:=⟨_,rfl⟩;rw [H] at p O ⊢;dsimp only at p O ⊢;obtain ⟨hc,hd,cx,cy,he,cz⟩:=p.listAt;rw [iY] at cx cy;subst cx;have P:=zh (bc.out.trans av);have Q:=zh (e4.grew av);have h4:=DC cv;have e5:=zh cz;clear av p cz xa xb xl;by_cases b0:cw=0
     . subst b0;have e6:=zh (MD H);have xa:=Q.cell 2;have xb:=Q.cell 3;have xl:=Q.out.lt;clear H;go_wp2_with fail;refine (Fm L B hc hd cv _ (b.grew P) a.1 a.2.1 a.2.2.1 a.2.2.2 e5 cy he oo).mono ?_;rintro e go ⟨ke,rfl,q,b5⟩;rw [e6.out] at q ⊢;dsimp only at q ⊢;obtain ⟨hf,hg,c0,-,-,c1⟩:=q.listAt;rw [show (List.map AI [s]).length=1 from rfl] at c0;subst c0;have e9:=zh (P.out.trans b5);have fa:=zh (GG s hf hg go c1);clear b5 q c1 xa xb xl;go_wp2_with fail;refine fa.mono ?_;rintro e kf ⟨rfl,gr⟩;have fb:=zh ((e9.alloc (.cells #[.string s] 9)).trans gr);go_wp2_with fail;go_ret;exact ⟨rfl,fb⟩
     . have h5:(cw != 0)=true:=by rw [jH];exact b0
       clear H;go_wp2_with fail;go_ret;exact ⟨rfl,P⟩
   . have h6:(cp==0)=false:=by rw [it];exact bx
     clear G;have xa:=d.cell 2;have xb:=d.cell 3;have xl:=d.out.lt;go_wp2_with fail;have bf:=zh (bb.alloc (.cells #[.string s] 9));have fi:=zh (d.alloc (.cells #[.string s] 9));refine (FB L B _ 1 [s] _ (b.grew bf) a.1 a.2.1 a.2.2.1 a.2.2.2 (GF s _) qs qd qs (by rw [GU];omega)).mono ?_;rintro e kg ⟨kh,rfl,t,aw⟩;have R:=GD (L:=L) (B:=B) [s];rw [GU] at R;obtain ⟨⟨c2,c3⟩,I⟩:∃z,Bi L B [s]=z:=⟨_,rfl⟩;rw [I] at t R ⊢;dsimp only at t R ⊢;obtain ⟨hh,hi,c4,c5,hj,c6⟩:=t.listAt;rw [iY] at c4 c5;subst c4;have S:=zh (bf.out.trans aw);have T:=zh (fi.grew aw);have h7:=DC c2;have fl:=zh c6;clear aw t c6 xa xb xl;by_cases b1:c3=0
     . subst b1;have fn:=zh (MD I);have xa:=T.cell 2;have xb:=T.cell 3;have xl:=T.out.lt;clear I;go_wp2_with fail;refine (Fm L B hh hi c2 _ (b.grew S) a.1 a.2.1 a.2.2.1 a.2.2.2 fl c5 hj oo).mono ?_;rintro e gs ⟨ki,rfl,u,b9⟩;rw [fn.out] at u ⊢;dsimp only at u ⊢;obtain ⟨hk,hl,c7,-,-,c8⟩:=u.listAt;rw [show (List.map AI [s]).length=1 from rfl] at c7;subst c7;have fp:=zh (S.out.trans b9);have fs:=zh (GG s hk hl gs c8);clear b9 u c8 xa xb xl;go_wp2_with fail;refine fs.mono ?_;rintro e kj ⟨rfl,gu⟩;have fu:=zh ((fp.alloc (.cells #[.string s] 9)).trans gu);go_wp2_with fail;go_ret;exact ⟨rfl,fu⟩
     . have h8:(c3 != 0)=true:=by rw [jH];exact b1
       clear I;go_wp2_with fail;go_ret;exact ⟨rfl,S⟩
 . have h9:(ce==0)=false:=by rw [it];exact bv
   clear E;have xa:=c.cell 2;have xb:=c.cell 3;have xl:=c.out.lt;go_wp2_with fail;refine (It L B s _ a.1 a.2.1 a.2.2.1 a.2.2.2 oo).mono ?_;rintro e kk ⟨kl,rfl,v,a0⟩;have bk:=Jj (L:=L) (B:=B) s;obtain ⟨⟨c9,da⟩,J⟩:∃z,Bd L B s=z:=⟨_,rfl⟩;rw [J] at v bk ⊢;dsimp only at v bk ⊢;obtain ⟨hm,hn,dd,df,ho,dk⟩:=v.listAt;rw [iY] at dd df;subst dd;have bl:=zh (a8.out.trans a0);have f:=zh (c.grew a0);have id:=DC c9;have fv:=zh dk;clear a0 v dk xa xb xl;by_cases b2:da=0
   . subst b2;have fx:=zh (Vc J);have xa:=f.cell 2;have xb:=f.cell 3;have xl:=f.out.lt;clear J;go_wp2_with fail;refine (LA L B hm hn c9 _ a.1 a.2.1 a.2.2.1 a.2.2.2 fv df ho oo (λr h=>by have:=JF h;omega)).mono ?_;rintro e gv ⟨km,rfl,x,a1⟩;rw [fx.out] at x ⊢;dsimp only at x ⊢;obtain ⟨hp,hq,dn,-,-,ds⟩:=x.listAt;rw [show (List.map AI [s]).length=1 from rfl] at dn;subst dn;have f0:=zh (bl.out.trans a1);have f1:=zh (f.grew a1);have f2:=zh (GG s hp hq gv ds);clear a1 x ds xa xb xl;go_wp2_with fail;refine f2.mono ?_;rintro e kn ⟨rfl,a2⟩;have f3:=zh ((f0.alloc (.cells #[.string s] 9)).trans a2);have k:=zh ((f1.alloc (.cells #[.string s] 9)).grew a2);clear a2;have xa:=k.cell 2;have xb:=k.cell 3;have xl:=k.out.lt;go_wp2_with fail;have bs:=zh (f3.alloc (.cells #[.string s] 9));have f4:=zh (k.alloc (.cells #[.string s] 9));refine (FB L B _ 1 [s] _ (b.grew bs) a.1 a.2.1 a.2.2.1 a.2.2.2 (GF s _) qs qd qs (by rw [GU];omega)).mono ?_;rintro e ko ⟨kp,rfl,y,a3⟩;have U:=GD (L:=L) (B:=B) [s];rw [GU] at U;obtain ⟨⟨d0,d1⟩,K⟩:∃z,Bi L B [s]=z:=⟨_,rfl⟩;rw [K] at y U ⊢;dsimp only at y U ⊢;obtain ⟨hr,ht,d2,d3,hu,d4⟩:=y.listAt;rw [iY] at d2 d3;subst d2;have V:=zh (bs.out.trans a3);have W:=zh (f4.grew a3);have ih:=DC d0;have f5:=zh d4;clear a3 y d4 xa xb xl;by_cases b3:d1=0
     . subst b3;have f6:=zh (MD K);have xa:=W.cell 2;have xb:=W.cell 3;have xl:=W.out.lt;clear K;go_wp2_with fail;refine (Fm L B hr ht d0 _ (b.grew V) a.1 a.2.1 a.2.2.1 a.2.2.2 f5 d3 hu oo).mono ?_;rintro e gx ⟨kq,rfl,A,ca⟩;rw [f6.out] at A ⊢;dsimp only at A ⊢;obtain ⟨hv,hw,d5,-,-,d6⟩:=A.listAt;rw [show (List.map AI [s]).length=1 from rfl] at d5;subst d5;have f9:=zh (V.out.trans ca);have ga:=zh (GG s hv hw gx d6);clear ca A d6 xa xb xl;go_wp2_with fail;refine ga.mono ?_;rintro e kr ⟨rfl,gz⟩;have gb:=zh ((f9.alloc (.cells #[.string s] 9)).trans gz);go_wp2_with fail;go_ret;exact ⟨rfl,gb⟩
     . have ii:(d1 != 0)=true:=by rw [jH];exact b3
       clear K;go_wp2_with fail;go_ret;exact ⟨rfl,V⟩
   . have iv:(da==0)=false:=by rw [it];exact b2
     clear J;have xa:=f.cell 2;have xb:=f.cell 3;have xl:=f.out.lt;go_wp2_with fail;have bt:=zh (bl.alloc (.cells #[.string s] 9));have gc:=zh (f.alloc (.cells #[.string s] 9));refine (FB L B _ 1 [s] _ (b.grew bt) a.1 a.2.1 a.2.2.1 a.2.2.2 (GF s _) qs qd qs (by rw [GU];omega)).mono ?_;rintro e ks ⟨kt,rfl,C,a4⟩;have X:=GD (L:=L) (B:=B) [s];rw [GU] at X;obtain ⟨⟨d7,ea⟩,M⟩:∃z,Bi L B [s]=z:=⟨_,rfl⟩;rw [M] at C X ⊢;dsimp only at C X ⊢;obtain ⟨hx,hy,eb,ee,hz,eg⟩:=C.listAt;rw [iY] at eb ee;subst eb;have Y:=zh (bt.out.trans a4);have Z:=zh (gc.grew a4);have i1:=DC d7;have ge:=zh eg;clear a4 C eg xa xb xl;by_cases b4:ea=0
     . subst b4;have gf:=zh (MD M);have xa:=Z.cell 2;have xb:=Z.cell 3;have xl:=Z.out.lt;clear M;go_wp2_with fail;refine (Fm L B hx hy d7 _ (b.grew Y) a.1 a.2.1 a.2.2.1 a.2.2.2 ge ee hz oo).mono ?_;rintro e g0 ⟨ku,rfl,D,cb⟩;rw [gf.out] at D ⊢;dsimp only at D ⊢;obtain ⟨h0,h1,eh,-,-,ej⟩:=D.listAt;rw [show (List.map AI [s]).length=1 from rfl] at eh;subst eh;have gg:=zh (Y.out.trans cb);have gh:=zh (GG s h0 h1 g0 ej);clear cb D ej xa xb xl;go_wp2_with fail;refine gh.mono ?_;rintro e kv ⟨rfl,g1⟩;have gi:=zh ((gg.alloc (.cells #[.string s] 9)).trans g1);go_wp2_with fail;go_ret;exact ⟨rfl,gi⟩
     . have i2:(ea != 0)=true:=by rw [jH];exact b4
       clear M;go_wp2_with fail;go_ret;exact ⟨rfl,Y⟩

theorem Tp {w:World} {B:Nat} {A:Option Addr} {l:List (Int × ByteArray)} (h:ListAt w B 2 A (l.map wrF)) {k:Nat} (hk:k<l.length):
 ∃b off,A=some ⟨b,off,none⟩/\b<B/\w.cell? ⟨b,off+k*2,none⟩=some (.int .i64 l[k].1)/\w.cell? ⟨b,off+k*2+1,none⟩=some (.string l[k].2):=by
 obtain ⟨b,off,e,hb,hc⟩:=h (by rw [iY];omega);have hg:(l.map wrF)[k]? =some (wrF l[k]):=by rw [iZ,iV hk];rfl
 exact ⟨b,off,e,hb,hc k _ hg 0 _ rfl,hc k _ hg 1 _ rfl⟩
theorem V2 {l:List ByteArray} {ws:List (Int × ByteArray)} {k:Nat} (hk:k<ws.length):Ff l (ws.take (k+1))=DQ (Ff l (ws.take k)) ws[k]:=by
 unfold Ff;rw [ic hk,jc];rfl
theorem Uk (l:List ByteArray) (w:Int × ByteArray):(DQ l w).length<=max l.length 5001:=by
 unfold DQ;split
 . exact Nat.le_max_left _ _
 . rename_i h;rw [length_set,iy,j0];omega
theorem Zn {l:List ByteArray} (hl:l.length<=5001) (ws:List (Int × ByteArray)):(Ff l ws).length<=5001:=by
 unfold Ff
 induction ws generalizing l with
 | nil=>exact hl
 | cons x ws ih=>
   rw [foldl_cons];exact ih (ij (Uk l x) oo)
theorem LW {l:List ByteArray} {n:Nat} {d:ByteArray} (hn:n<=5000):DQ l ((n:Int),d)=(l++List.replicate (n+1 - l.length) (AO 128)).set n d:=by
 unfold DQ;simp only;rw [if_neg oo,i9]
theorem Rq {l:List ByteArray} {n N:Nat} {d:ByteArray} (hn:n<=N) (hN:N<=5000):(DQ l ((n:Int),d)).length<=max l.length (N+1):=by
 rw [LW oo,length_set,iy,j0];omega
theorem N3 {M N:Nat} (hN:N<=5000) (hM:128<=M):∀(ws:List (Int × ByteArray)) (l:List ByteArray),(∀x∈ws,∃n:Nat,x.1=(n:Int)/\n<=N/\x.2.size<=M)->(∀s∈l,s.size<=M)->(Ff l ws).length<=max l.length (N+1)/\∀s∈Ff l ws,s.size<=M
 | [],l,_,hl=>⟨Nat.le_max_left _ _,hl⟩
 | (i,d)::ws,l,h,hl=>by
   obtain ⟨n,h1,h2,h3⟩:=h (i,d) (jA ..);simp only at h1 h3;subst h1
   have hs:∀s∈DQ l ((n:Int),d),s.size<=M:=λs hs=>by
    rw [LW oo] at hs;rcases jE hs with hs | rfl
    . rcases ip.1 hs with hs | hs
      . exact hl s hs
      . rw [(kJ.1 hs).2,BS];exact hM
    . exact h3
   have hl1:=Rq (l:=l) (d:=d) h2 hN;obtain ⟨k1,k2⟩:=N3 hN hM ws (DQ l ((n:Int),d)) (λx hx=>h x (iz _ hx)) hs;exact ⟨ij k1 oo,k2⟩
theorem Vj (old:List ByteArray) {N:Nat}:∀(l:List ByteArray) (k:Nat),k+l.length<=N->(∀s∈l,s.size<=1000)->∀x∈E6 old k l,∃n:Nat,x.1=(n:Int)/\n<=N/\x.2.size<=1000
 | [],k,_,_,x,hx=>by cases hx
 | s::l,k,hk,hl,x,hx=>by
   rw [jf] at hk;have ih:=Vj old (N:=N) l (k+1) oo (λy hy=>hl y (iz _ hy));rw [LQ] at hx;split at hx
   . rcases jh.1 hx with rfl | hx
     . exact ⟨1+k,rfl,oo,hl s (jA ..)⟩
     . exact ih x hx
   . exact ih x hx
theorem dV (old c:Cnt) {N:Nat} (hN:(BK c.str).length<=N) (hs:∀s∈BK c.str,s.size<=1000) (hh:(BV c.app c.recs.length c.str.size).size<=1000):(QH old c).length<=N+1/\∀x∈QH old c,∃n:Nat,x.1=(n:Int)/\n<=N/\x.2.size<=1000:=by
 unfold QH;refine ⟨?_,λx hx=>?_⟩
 . rw [jf];exact Nat.succ_le_succ (ij (Nt _ _ 0) hN)
 . rcases jh.1 hx with rfl | hx
   . exact ⟨0,rfl,jL _,hh⟩
   . exact Vj (BK old.str) (N:=N) (BK c.str) 0 oo hs x hx
theorem b7:DF 128 ⟨#[]⟩=AO 128:=by
 unfold DF;rw [Hc];rfl
theorem XU (A:Option Addr) (c:Nat) (l:List ByteArray) (Aw:Option Addr) (cw:Nat) (ws:List (Int × ByteArray)) (w:World) (hA:ListAt w w.heap.size 1 A (l.map AI)) (hl:l.length<=60) (C:ListAt w w.heap.size 2 Aw (ws.map wrF)) (hw:ws.length<=1000000) (hi:∀x∈ws,-9223372036854775808<=x.1/\x.1<=9223372036854775807):
 Calls Tryz.prog 12 #[.slice A l.length c,.slice Aw ws.length cw] w λe w'=>∃v,e=.returned v/\OwnL w' w.heap.size 9 1 v ((Ff l ws).map AI)/\Grew w w':=by
 have D:=zh C;have HI:=zh hi;have E:=ListAt.mono (B':=w.heap.size+1) (hA.keep (iX _) ((iW w).alloc (.cells #[] 9))) oo;have F:=zh (λw1=>VA ⟨#[]⟩ 128 w1 qd qd);rw [b7,show ((128:Nat):Int)=128 from rfl] at F;clear hA C hi;go_enter Tryz.func12,Tryz.ntmps12;go_wp2_with (at_builtin;refine Ab (by rfl) _ _ 25 rfl w.heap.size 9 1 16 _ Tryz.underlying25 BQ rfl qd _ [] (l.map AI) (by rfl) (OwnL.empty w _ _ _ (iX _) rfl) _ l.length _ (by rfl) qs (Eg _) (by simpa using E) (Ef _) (by simp;omega) (by simp;omega) qs ?_;intro v1 w3 G H Y);have O:=zh (Grew.own ((iW w).alloc (.cells #[] 9)) H (by simp [Value.ownBlock]) (iX _));have P:=zh G;clear G H Y E
 go_loopg [5,6] ws.length (λgk ov iv wr=>∃k:Nat,k<=ws.length/\gk=ws.length - k/\iv=.int .i64 (k:Int)/\OwnL wr w.heap.size 9 1 ov ((Ff l (ws.take k)).map AI)/\Grew w wr)
 case atStart=>exact ⟨0,oo,oo,rfl,P,O⟩
 case round=>
  obtain ⟨k,hk,I,rfl,h1,h2⟩:=hrel;have h:=zh I;have HO:=zh h1;have HG:=zh h2;clear I h1 h2;by_cases f:k<ws.length
  . obtain ⟨b,a3,rfl,af,c0,c1⟩:=Tp (AG D HG) f;have hi:=HI.out ws[k] (ib f);have HT:=zh (V2 (l:=l) f);have Q:=Zn (l:=l) oo (ws.take k);have HX:=zh (show ListAt w w.heap.size 2 _ (ws.map wrF) from D.out);obtain ⟨⟨n,d⟩,hx⟩:∃x,ws[k]=x:=⟨_,rfl⟩;have R:=zh hx;rw [hx] at c0 c1 hi HT;simp only at c0 c1 hi;obtain ⟨out,ho⟩:∃z,Ff l (ws.take k)=z:=⟨_,rfl⟩;rw [ho] at HO HT Q;clear hx ho;by_cases h1:n<0
    . have HE:=zh (show Ff l (ws.take (k+1))=out from by rw [HT.out];unfold DQ;exact if_pos (.inl h1));clear HT;go_wp2_with fail
      go_roundg (ws.length - (k+1))
      case measure=>rw [h.out];omega
      case rel=>exact ⟨k+1,oo,oo,by go_num,by rw [HE.out];exact HO.out,HG⟩
    . by_cases h2:5000<n
      . have HE:=zh (show Ff l (ws.take (k+1))=out from by rw [HT.out];unfold DQ;exact if_pos (.inr h2));clear HT;go_wp2_with fail
        go_roundg (ws.length - (k+1))
        case measure=>rw [h.out];omega
        case rel=>exact ⟨k+1,oo,oo,by go_num,by rw [HE.out];exact HO.out,HG⟩
      . obtain ⟨m,rfl⟩:∃m:Nat,n=(m:Int):=⟨n.toNat,oo⟩;have hm:m<=5000:=oo;have HE:=zh (show Ff l (ws.take (k+1))=(out++List.replicate (m+1 - out.length) (AO 128)).set m d from by rw [HT.out];exact LW hm);clear HT c1 hi;go_wp2_with fail;obtain ⟨wo,ag⟩:∃wo:World,wo=wr:=⟨_,rfl⟩;subst ag;clear c0 af h1 h2
        go_loopg [5] (m+1 - out.length) (λgk ov wv=>∃(o2:List ByteArray) (j:Nat),o2=out++List.replicate j (AO 128)/\(j=0\/o2.length<=m+1)/\gk=m+1 - o2.length/\OwnL wv w.heap.size 9 1 ov (o2.map AI)/\Grew w wv)
        case atStart=>exact ⟨out,0,qs,.inl rfl,rfl,HO,HG⟩
        case round=>
         obtain ⟨o2,j,hj,a4,J,h3,h4⟩:=hrel;have av:o2.length<=out.length+j/\out.length+j<=o2.length:=by rw [hj,iy,j0];exact ⟨iX _,iX _⟩
         have HJ:=zh hj;have S:=zh J;have a:=zh h3;have q:=zh h4;obtain ⟨A5,c5,K,al,a5,-⟩:=h3.listAt;rw [iY] at K al;subst K;have T:=h4.size;clear hj J h3 h4;by_cases a0:o2.length<=m
         . have U:(o2.length:Int)<=(m:Int):=oo;have HC:=zh (F wr);obtain ⟨zz,y⟩:∃z,AO 128=z:=⟨_,rfl⟩;rw [y] at HC HJ;have HZ:=zh y;clear y;go_wp2_with fail;refine HC.mono ?_;rintro e w5 ⟨rfl,rfl⟩;go_wp2_with (at_builtin;refine AY rfl _ _ 25 rfl _ 9 1 16 _ Tryz.underlying25 BQ rfl qd wr _ (o2.map AI) (AI zz) (by rfl) rfl rfl a (by first | rfl | (simp;done)) rfl rfl (by rw [iY];omega) (by rw [iY];omega) T ?_;intro v' w8 Z ad a1 a2)
           go_roundg (m+1 - (o2.length+1))
           case measure=>rw [S.out];omega
           case rel=>exact ⟨o2++[zz],j+1,by rw [HJ.out,List.replicate_succ',jK,HZ.out],.inr (by rw [iy,ju];omega),by rw [iy,ju],by rw [il];exact Z,ad _ q (iX _)⟩
         . have U:¬(o2.length:Int)<=(m:Int):=oo;have s:m<o2.length:=oo;have aw:(m:Int)<(o2.length:Int):=oo;obtain ⟨b3,a6,B,an,L,M⟩:=Tp (AG HX q) f;injection B with B;injection B with e1 e2 _;subst e1;subst e2;rw [R.out] at L M;simp only at L M;have V:=zh (show o2=out++List.replicate (m+1 - out.length) (AO 128) from by rw [HJ.out,show j=m+1 - out.length by omega]);obtain ⟨g,cap,N,ap,a7⟩:=a.some_ (by intro h9;have:=ix length h9;simp at this;rw [this] at s;simp at s);rw [iY] at N;injection N with hv1 _ hv2;subst hv1;subst hv2;have t:(o2.map AI)[m]? =some [.string o2[m]]:=by rw [iZ,iV s];rfl
           have y0:wr.cell? ⟨g,m,none⟩=some (.string o2[m]):=by
            have:=a.cell (j:=m) (i:=0) (r:=[.string o2[m]]) (u:=.string o2[m]) t rfl;rwa [Nat.mul_one,jo] at this
           have yf:=a.frozen m
           have HS:=zh (show OwnL (wr.setCell ⟨g,m,none⟩ (.string d)) w.heap.size 9 1 (.slice (some ⟨g,0,none⟩) o2.length c5) ((o2.set m d).map AI) from by
            have:=a.set_ (j:=m) (i:=0) (o:=m) (r:=[.string o2[m]]) t oo oo (.string d)
            rw [List.map_set]
            exact this)
           have W:=zh (q.setCell (p:=⟨g,m,none⟩) ap (.string d));clear t an;go_wp2_with fail
           go_roundg (ws.length - (k+1))
           case measure=>rw [h.out];omega
           case rel=>exact ⟨k+1,oo,oo,by go_num,by rw [HE.out,<-V.out];exact HS.out,W⟩
  . obtain rfl:k=ws.length:=oo;have X:=zh (show ws.take ws.length=ws from j1);go_wp2_with fail;go_ret;exact ⟨_,rfl,by have:=HO.out;rw [X.out] at this;exact this,HG⟩

theorem ZI {F L B:Int} {l:List ByteArray} (h:(Hr F L B l).2≠0):(Hr F L B l).1=FZ:=by
 unfold Hr at h ⊢;split
 . rfl
 . rename_i h1;rw [if_neg h1] at h;split
   . rfl
   . rename_i h2;rw [if_neg h2] at h;unfold rdQ at h ⊢;split
     . rfl
     . rename_i h3;rw [if_neg h3] at h;split
       . rfl
       . rename_i h4;rw [if_neg h4] at h;split
         . rfl
         . rename_i h5;rw [if_neg h5] at h;exact absurd rfl h
theorem Ya {org F L B:Int} {l:List ByteArray} (h:(EZ org F L B l).2≠0):(EZ org F L B l).1=FZ:=by
 unfold EZ at h ⊢;split
 . rename_i h1;rw [if_pos h1] at h;exact ZI h
 . rfl
theorem ba {org F L B:Int} {l:List ByteArray} {c:Cnt} (h:EZ org F L B l=(c,0)):FX org F L B=true/\Hr F L B l=(c,0):=by
 unfold EZ at h;split at h
 . rename_i h1;exact ⟨h1,h⟩
 . cases h
theorem Z9 (l:List ByteArray):∀(k i:Nat) (h:i<l.length),(IA k l)[i]? =some (((k+i:Nat):Int),l[i]):=by
 induction l with
 | nil=>intro k i h;simp at h
 | cons x l ih=>
   intro k i h;cases i with
   | zero=>rfl
   | succ i=>
     show (IA (k+1) l)[i]? =_;rw [ih (k+1) i (by simpa using h),show k+1+i=k+(i+1) by omega];rfl
theorem Ys {F L B:Int} (h1:fOk F L B=true) {l:List ByteArray} {c:Cnt} (h:Hr F L B l=(c,0)) (hl:l.length<=60):Dz F L B c.app c.recs=c/\c.str.size<=7680/\wtS c.recs<=15360/\DY c<+:l:=by
 obtain ⟨e1,e2,e3,e4,e5,e6⟩:=MX h1 h
 have hp:Dz F L B c.app c.recs=c:=by
  obtain ⟨a,rs,bs,st⟩:=c;simp only at e5 e6;unfold Dz;subst e6;subst e5;rfl
 have hn:(BK c.str).length+1<=l.length:=e3.length_le;rw [Ee] at hn;have hs:c.str.size<=7680:=by unfold Dp at hn;omega
 have hw:=(Vi h1 e4).1;rw [<-e5,<-e6] at hw;exact ⟨hp,hs,oo,e3⟩
theorem Sw (la:List ByteArray) (n:Nat) (hn:la.length=n) (A B:Option Addr) (ca cb:Nat) (w:World) (hA:ListAt w w.heap.size 1 A (la.map AI)) (hB:ListAt w w.heap.size 1 B (la.map AI)) (hl:n<=100000000):
 Calls Tryz.prog 13 #[.slice A n ca,.slice B n cb] w λe w'=>e=.returned (.bool true)/\Grew w w':=by
 subst hn;have h:=NO la la A B ca cb w hA hB hl hl;rw [iq rfl] at h;exact h
theorem N8 (a F L B:Int) (s:ByteArray) (A:Option Addr) (c:Nat) (l:List ByteArray) (r:ByteArray) (w:World) (a4:CodesAt w) (a3:bd L B) (hA:ListAt w w.heap.size 1 A (l.map AI)) (hl:l.length<=9223372036854775807) (hs:∀x∈l,x.size<=9223372036854775807) (gg:s.size<=9223372036854775807) (gf:r.size<=9223372036854775807):
 Calls Tryz.prog 3 #[.agg #[.int .i64 a,.int .i64 F,.int .i64 L,.int .i64 B],.string s,.slice A l.length c,.string r] w λe w'=>e=.returned (.bool true)/\Grew w w':=by
 have C:=zh ((iW w).alloc (.cells #[.int .i64 a,.int .i64 F,.int .i64 L,.int .i64 B] 23));have dk:=zh (ik w 23 #[.int .i64 a,.int .i64 F,.int .i64 L,.int .i64 B] rfl);have o:=zh a4;have p:=zh a3;have HA:=zh hA;have D:=zh (λw1 (g:Grew w w1)=>WA A c l w1 (AG hA g) hl hs);clear a4 a3 hA hs;by_cases h1:1100<s.size
 . have dn:(1100:Int)<(s.size:Int):=oo;go_enter Tryz.func3,Tryz.ntmps3;go_wp2_with fail;refine (Ci _).mono ?_;rintro e w1 ⟨rfl,g1⟩;have d:=zh (C.out.trans g1);clear g1;go_wp2_with fail;refine (Ci _).mono ?_;rintro e w2 ⟨rfl,g2⟩;go_wp2_with fail;go_ret;exact ⟨rfl,d.out.trans g2⟩
 . have dn:¬(1100:Int)<(s.size:Int):=oo;obtain ⟨fb,m⟩:∃b,Lp l 60 200=b:=⟨_,rfl⟩;rw [m] at D;cases fb with
   | false=>
     go_enter Tryz.func3,Tryz.ntmps3;go_wp2_with fail;refine (Ci _).mono ?_;rintro e w1 ⟨rfl,g1⟩;have d:=zh (C.out.trans g1);clear g1;go_wp2_with fail;refine (D _ d).mono ?_;rintro e cr ⟨rfl,rfl⟩;go_wp2_with fail;refine (Ci _).mono ?_;rintro e w2 ⟨rfl,g2⟩;go_wp2_with fail;go_ret;exact ⟨rfl,d.out.trans g2⟩
   | true=>
     have ds:(∀x∈l,x.size<=200)/\l.length<=60:=by
      unfold Lp at m;rw [jF,jN,jG] at m;exact ⟨λx h=>jC (m.1 x h),m.2⟩
     obtain ⟨cz,V⟩:=ds;have E:=zh (show ∀x∈l,x.size<=1000 from λx h=>ij (cz x h) oo);clear m cz;by_cases h2:1000<r.size
     . have d0:(1000:Int)<(r.size:Int):=oo;go_enter Tryz.func3,Tryz.ntmps3;go_wp2_with fail;refine (Ci _).mono ?_;rintro e w1 ⟨rfl,g1⟩;have d:=zh (C.out.trans g1);clear g1;go_wp2_with fail;refine (D _ d).mono ?_;rintro e cr ⟨rfl,rfl⟩;go_wp2_with fail;refine (Ci _).mono ?_;rintro e w2 ⟨rfl,g2⟩;go_wp2_with fail;go_ret;exact ⟨rfl,d.out.trans g2⟩
     . have d0:¬(1000:Int)<(r.size:Int):=oo;have d1:=zh (λw1 (g:Grew w w1)=>M8 a F L B s w1 (o.grew g) p oo);have d2:=zh (λw1 (g:Grew w w1)=>Kl 1 a F L B A c l w1 (o.grew g) p (AG HA g) oo E);go_enter Tryz.func3,Tryz.ntmps3;go_wp2_with fail;refine (Ci _).mono ?_;rintro e w1 ⟨rfl,g1⟩;have d:=zh (C.out.trans g1);have f:=dk.grew g1;have a5:=zh f;have x0:=f.cell 0;have x1:=f.cell 1;have x2:=f.cell 2;have x3:=f.cell 3;have xl:=f.lt;clear g1 f;go_wp2_with fail;refine (D _ d).mono ?_;rintro e cr ⟨rfl,rfl⟩;go_wp2_with fail;refine (P4 a F L B _).mono ?_;rintro e w2 ⟨rfl,g2⟩;have a6:=zh (ik w2 29 (dsC 0 0 0 0 0) rfl);have d3:=zh ((d.out.trans g2).alloc (.cells (dsC 0 0 0 0 0) 29));have G:=(a5.grew g2).alloc (.cells (dsC 0 0 0 0 0) 29);have gh:w.heap.size<w2.heap.size:=ig (by have:=a5.out.lt;exact this) g2.size;have j:=G.farRow (g':=w2.heap.size) oo (dsC 1 a F L B);have a7:=zh (d3.setRow (g:=w2.heap.size) oo (dsC 1 a F L B));have d4:=zh (a6.setRow (dsC 1 a F L B));have gi:=zh j;clear g2 G x0 x1 x2 x3 xl;have x0:=j.cell 0;have x1:=j.cell 1;have x2:=j.cell 2;have x3:=j.cell 3;have xl:=j.lt;clear j;go_wp2_with (refine AF rfl 29 _ _ rfl w2.heap.size (dsC 1 a F L B) rfl rfl 29 _ a6 rfl Bj (by simp [Value.oneCell']) ?_);refine (d1 _ a7).mono ?_;rintro e w3 ⟨rfl,g3⟩;have a8:=zh (d4.grew g3);have X:=zh (a7.out.trans g3);clear g3 x0 x1 x2 x3 xl;go_wp2_with (refine AJ rfl 29 _ rfl w2.heap.size rfl 29 _ _ a8 Tryz.underlying29 rfl Bj ?_);refine (d2 w3 X).mono ?_;rintro e w4 ⟨A1,c1,rfl,k1,k2,y,g4⟩;have q:=@Ya a F L B l;have H:=@ba a F L B l;obtain ⟨⟨ct,er⟩,hq⟩:∃z,EZ a F L B l=z:=⟨_,rfl⟩;rw [hq] at q H k1 y ⊢;dsimp only at q k1 y ⊢;have d5:=zh (a8.grew g4);have Y:=zh (X.out.trans g4);by_cases R:er=0
       case neg=>
        obtain rfl:=q R;have gj:(er != 0)=true:=by rw [jH];exact R
        clear q H g4 y R hq;go_wp2_with fail;go_ret;exact ⟨rfl,Y⟩
       case pos=>
        subst R;obtain ⟨hv,W⟩:=H rfl;have I:=Fk hv;obtain ⟨p1,p2,p3,p4⟩:=Ys I W V;obtain ⟨e1,e2,-,e4,-,-⟩:=MX I W;have J:=Lq A c l w4 (AG HA Y) oo (λx h=>by have:=E.out x h;omega);rw [e1] at J;dsimp only at J;have d6:=zh J;have d7:=zh (y.mono (base':=w.heap.size) X.size);have ea:=zh p1;have a9:=zh p4;have HV:=zh (And.intro hv (And.intro I W));have Z:=zh (And.intro e2 e4);clear q H g4 y hq hv I W p1 p4 e1 e2 e4 J;go_wp2_with fail;refine d6.mono ?_;rintro e w5 ⟨rfl,g5⟩;have bb:=zh (d5.grew g5);have ad:=zh (Y.out.trans g5);have bc:=zh (d7.grew g5);clear g5;go_wp2_with (refine AJ rfl 29 _ rfl w2.heap.size rfl 29 _ _ bb Tryz.underlying29 rfl Bj ?_);refine (VK 1 a F L B ct.app A1 c1 ct.recs w5 (o.grew ad) p HV.1 Z.1 bc.listA k1 k2 Z.2 oo).mono ?_;rintro e w6 ⟨gu,rfl,T,g6⟩;rw [ea.out] at T;obtain ⟨fx,f0,c0,c2,hb,-⟩:=T.listAt;rw [iY,Mo] at c0 c2;subst c0;have K:=zh a9.length_le;have bf:=zh (λi (h:i<(DY ct).length)=>Z9 (DY ct) 0 i h);have bk:=zh (λi (h:i<(DY ct).length) (h2:i<l.length)=>(show (DY ct)[i]=l[i] from a9.getElem h));have HW:=zh (T.mono (base':=w.heap.size) ad.size);have eb:=zh (bb.grew g6);have ee:=zh (ad.out.trans g6);have eg:=zh (bc.grew g6);obtain ⟨bs,c3⟩:∃z,DY ct=z:=⟨_,rfl⟩;rw [c3] at K bf bk HW c2 ⊢;have eh:¬(l.length:Int)<(bs.length:Int):=by have:=K.out;omega
        have ej:decide (l.length<bs.length)=false:=ir (by have:=K.out;omega);have gl:decide ((l.length:Int)<(bs.length:Int))=false:=ir eh;clear g6 T c3;go_wp2_with fail
        try simp only [ej]
        go_loopg [86] bs.length (λgk iv wr=>∃k:Nat,k<=bs.length/\gk=bs.length - k/\iv=.int .i64 (k:Int)/\Blk wr w2.heap.size 29 (dsC 1 a F L B)/\OwnL wr w.heap.size 41 2 (.slice fx bs.length f0) ((IA 0 bs).map wrF)/\OwnL wr w.heap.size 9 1 (.slice A1 ct.recs.length c1) (ct.recs.map AI)/\Grew w wr)
        case atStart=>exact ⟨0,oo,oo,rfl,eb,HW,eg,ee⟩
        case round=>
         obtain ⟨k,hk,c4,rfl,h5,h6,h7,h8⟩:=hrel;have ek:=zh c4;have HD:=zh h5;have bl:=zh h6;have HO:=zh h7;have HG:=zh h8;clear c4 h5 h6 h7 h8;by_cases an:k<bs.length
         . have bt:k<l.length:=by have:=K.out;omega
           have bv:k<(IA 0 bs).length:=by rw [Mo];exact an
           obtain ⟨b1,o1,f1,f,q0,q1⟩:=Tp bl.listA bv;obtain ⟨b2,o2,f2,G,q2⟩:=Cx (AG HA HG) bt;subst f1;subst f2;have t:=bf.out k an;rw [iV bv] at t;injection t with t;rw [t,bk.out k an bt] at q0 q1;rw [kF] at q0;simp only at q0 q1;obtain ⟨x,hx⟩:∃z,l[k]=z:=⟨_,rfl⟩;rw [hx] at q1 q2;clear hx t;go_wp2_with fail;refine AB [] (λw':World=>w'.cell? ⟨b1,o1+k*2,none⟩=some (.int .i64 (k:Int))/\w'.cell? ⟨b1,o1+k*2+1,none⟩=some (.string x)/\b1<w'.heap.size/\w'.cell? ⟨b2,o2+k,none⟩=some (.string x)/\b2<w'.heap.size) qk ?_;have hS:=(show (λw':World=>w'.cell? ⟨b1,o1+k*2,none⟩=some (.int .i64 (k:Int))/\w'.cell? ⟨b1,o1+k*2+1,none⟩=some (.string x)/\b1<w'.heap.size/\w'.cell? ⟨b2,o2+k,none⟩=some (.string x)/\b2<w'.heap.size) wr.drew from ⟨q0,q1,f,q2,G⟩);refine tQ 0 89 ?_;refine tQ 1 90 ?_;refine tQ 2 91 ?_;refine tQ 3 92 ?_;refine tT 4 (some 93) hS ?_;refine tQ 5 94 ?_;refine tQ 6 95 ?_;refine tQ 7 96 ?_;refine tQ 8 97 ?_;refine tQ 9 98 ?_;refine tQ 10 99 ?_;refine tT 11 (some 100) hS ?_;refine tQ 12 101 ?_;refine tQ 13 102 ?_;refine tQ 14 103 ?_;refine tQ 15 104 ?_;refine tT 16 (some 105) hS ?_;refine tQ 17 106 ?_;refine tQ 18 107 ?_;refine AA qk ?_ _;go_wp2_with fail
           go_roundg (bs.length - (k+1))
           case measure=>rw [ek.out];omega
           case rel=>exact ⟨k+1,oo,oo,by go_num,HD.drew,bl.drew,HO.drew,HG.drew⟩
         . obtain rfl:k=bs.length:=oo
           go_upto_region 19 with fail
           have O:=HG.alloc (.cells #[.string r] 9);have af:=R8 1 a F L B ct.app A c l (some ⟨wr.heap.size,0,none⟩) 1 [r] ct (wr.alloc (.cells #[.string r] 9)) (o.grew O) p HV.1 Z.1 (AG HA O) V E (GF r wr) qs HV.2.2 (ct.recs++[r]) rfl (by rw [Fg];show _+(r.size+1+0)<=_;omega) oo;rw [show ([r].all λx=>Di F L x.size)=Di F L r.size from qs] at af;have em:=zh af;have bx:=zh O;clear af O;go_wp2_with (refine AJ rfl 29 _ rfl w2.heap.size rfl 29 _ _ HD Tryz.underlying29 rfl Bj ?_);refine em.mono ?_;rintro e w7 hm;cases S:Di F L r.size with
           | false=>
             rw [S] at hm;obtain ⟨rfl,g7⟩:=hm.2 rfl;clear hm;go_wp2_with fail;go_ret;exact ⟨rfl,bx.out.trans g7⟩
           | true=>
             rw [S] at hm;obtain ⟨hc,rfl,av,g7⟩:=hm.1 rfl;have ep:=zh S;obtain ⟨f3,f4,a0,c5,hd,a1⟩:=av.listAt;rw [iY] at a0 c5;obtain ⟨aw,a2⟩:∃z,QH ct (Dz F L B ct.app (ct.recs++[r]))=z:=⟨_,rfl⟩;rw [a2] at a0 c5 a1 av;subst a0;have b0:=zh a2;have eq:=zh a1;have b3:=zh ((HD.alloc (.cells #[.string r] 9)).grew g7);have es:=zh ((HO.alloc (.cells #[.string r] 9)).grew g7);have b4:=zh (bx.out.trans g7);clear hm S a2 a1 av g7
             go_upto_region 22 with fail
             refine AB [] (λw':World=>Blk w' w2.heap.size 29 (dsC 1 a F L B)) qk ?_;have hS:=(show (λw':World=>Blk w' w2.heap.size 29 (dsC 1 a F L B)) w7.drew from b3.drew);refine tT 0 (some 124) hS ?_ (v:=dsV 1 a F L B) (hy:=Or.inl ⟨by rfl,λwS hSw=>KJ 29 _ rfl w2.heap.size rfl 29 _ _ hSw Tryz.underlying29 rfl Bj⟩);clear hS;refine tQ 1 125 ?_;refine tQ 2 126 ?_;have et:wtS (ct.recs++[r])<=16361:=by rw [Fg];show _+(r.size+1+0)<=_;omega
             have b5:(BB (BI F L B (ct.recs++[r]))).size<=128*2557:=by have:=(EY HV.2.1 (ct.recs++[r])).2.1;omega
             have u:=dV ct (Dz F L B ct.app (ct.recs++[r])) (N:=2557) (Q8 _ _ b5) (λs hs=>by rw [PT _ s hs];omega) (by rw [Lr];omega);rw [b0.out] at u;have eu:aw.length<=1000000:=by have:=u.1;omega
             have b9:∀x∈aw,-9223372036854775808<=x.1/\x.1<=9223372036854775807:=λx hx=>by
              obtain ⟨n,z1,z2,_⟩:=u.2 x hx;rw [z1];omega
             have ca:=N3 (M:=1000) (N:=2557) oo oo aw l u.2 E;have cb:=zh ca;clear ca u b5;have ex:=zh (XU A c l f3 f4 aw w7.drew (AG HA b4.drew) V (AG eq ((iW w7).drew)) eu b9);clear b9;refine tO 3 λK' hK=>?_;go_wp2_with fail;refine ex.mono ?_;rintro e w8 ⟨v8,rfl,cs,g8⟩;obtain ⟨A8,c8,c6,f5,he,c7⟩:=cs.listAt;rw [iY] at c6 f5;subst c6;have ag:=zh (b3.drew.grew g8);have e0:=zh c7;have cc:=zh (b4.drew.trans g8);have e3:=zh (es.drew.grew g8);clear cs c7 g8;go_wp2_with fail;refine hK.out _ _ (.inr (λ_=>ag)) ?_;clear hK;refine tO 4 λK' hK=>?_;go_wp2_with fail;refine hK.out _ _ (.inr (λ_=>ag)) ?_;clear hK;have e5:(Ff l aw).length<=2600:=by have:=cb.1;omega
             have ce:∀s∈Ff l aw,s.size<=1000:=cb.2
             have cf:EZ a F L B (Ff l aw)=(Dz F L B ct.app (ct.recs++[r]),0):=by
              have ch:=ef HV.2.1 HV.2.2 V (r:=r) oo ep;rw [b0.out] at ch;unfold EZ;rw [if_pos HV.out.1];exact ch
             have P:=Kl 1 a F L B A8 c8 (Ff l aw) w8 (o.grew cc) p e0 e5 ce;rw [cf] at P;dsimp only [Dz] at P;have e6:=zh P;clear P cf;clear ce;refine tO 5 λK' hK=>?_;go_wp2_with fail;refine e6.mono ?_;rintro e w9 ⟨A9,c9,rfl,gv,gx,cu,g9⟩;have e9:=zh (ag.grew g9);go_wp2_with fail;refine hK.out _ _ (.inr (λ_=>e9)) ?_;clear hK;have fa:=zh (e3.grew g9);have ci:=zh (cc.out.trans g9);have cl:=zh cu;clear cu g9;refine tQ 6 123 ?_;refine tQ 7 130 ?_;refine tQ 8 131 ?_;refine tQ 9 19 ?_;refine tQ 10 15 ?_;refine AA qk ?_ _;have cn:=(iW w9).alloc (.cells #[] 9);have fi:=zh (AG fa.listA cn);have go:ct.recs.length<=16361:=ij (DC ct.recs) (by rw [Fg] at et;omega);have co:(ct.recs++[r]).length=ct.recs.length+1:=qs;go_wp2_with (first | (at_builtin;refine Ab (by rfl) _ _ 24 rfl w9.heap.size 9 1 16 _ Tryz.underlying24 BQ rfl qd (.slice (some ⟨w9.heap.size,0,none⟩) 0 0) [] (ct.recs.map AI) (by rfl) (OwnL.empty w9 _ _ _ (iX _) rfl) A1 ct.recs.length c1 (by rfl) (by rw [iY]) (Eg _) fi (Ef _) (by simp;omega) (by simp;omega) qs ?_;intro gz cv U cw fs;rw [nil_append] at U;obtain ⟨f6,f9,da,ga,hf,-⟩:=U.listAt;rw [iY] at da ga;subst da;have Q:=(Grew.own cn cw (dH _ _ _) (iX _));have cp:=zh U;have gr:=zh (ci.out.trans Q);have cq:=zh Q;have gs:=zh (cl.grew Q);clear U cw fs Q) | (at_builtin;refine Ab (by rfl) _ _ 24 rfl w9.heap.size 9 1 16 _ Tryz.underlying24 BQ rfl qd (.slice f6 ct.recs.length f9) (ct.recs.map AI) ([r].map AI) (by rfl) (cp.alloc _) (some ⟨cv.heap.size,0,none⟩) 1 1 (by rfl) (by rfl) (Eg _) (GF r cv) (Ef _) (by rw [iY];omega) (by rw [iY];omega) (ij cq.size qs) ?_;intro g0 fu ap cx fv;rw [<-il] at ap;have al:=Grew.own (cq.alloc (.cells #[.string r] 9)) cx cp.row_ge (iX _);obtain ⟨gb,gc,dd,ge,hg,df⟩:=ap.listAt;rw [iY,co] at dd;subst dd;have fl:=zh (ci.out.trans al);have fn:=zh (Sw (ct.recs++[r]) (ct.recs.length+1) co A9 gb c9 gc fu (AG cl.listA al) df oo);clear ap cx fv al df ge));refine fn.mono ?_;rintro e ha ⟨rfl,cy⟩;have fp:=zh (fl.out.trans cy);clear cy;go_wp2_with fail;go_ret;exact ⟨rfl,fp⟩

end
section
open Go.ChangeShapes Go.WideShapes Go.ChangeAt Go.RowKit Go.Deep
section
variable {H:Type} {enc:TypeId × Value->H} {w:World}
theorem wfI {n:Int} (h:(Lit.int .i64 n).wf=true):-9223372036854775808<=n/\n<=9223372036854775807:=by
 simp only [Lit.wf,IntKind.min,IntKind.max,IntKind.signed,IntKind.bits] at h;simp at h;omega
theorem Ra {n:Nat} {cs:List Value} {y:DataW H × List MemPlace} (e:cs.length=4) (h:DataW.trod enc Tryz.prog w 0 (λ_=>true) true n 23 cs=some y):
 ∃o F L B:Int,cs=[.int .i64 o,.int .i64 F,.int .i64 L,.int .i64 B]/\bd L B:=by
 have hf:=Oh Tryz.underlying23 qk h;obtain ⟨v0,_,_,e0,f0⟩:=hf 0 _ rfl oo;obtain ⟨v1,_,_,e1,f1⟩:=hf 1 _ rfl oo;obtain ⟨v2,_,_,e2,f2⟩:=hf 2 _ rfl oo;obtain ⟨v3,_,_,e3,f3⟩:=hf 3 _ rfl oo;obtain ⟨n0,a,_,w0⟩:=jd Tryz.underlying3 f0;obtain ⟨n1,b,_,w1⟩:=jd Tryz.underlying3 f1;obtain ⟨n2,c,_,w2⟩:=jd Tryz.underlying3 f2;obtain ⟨n3,d,_,w3⟩:=jd Tryz.underlying3 f3;injection a with a _;injection b with b _;injection c with c _;injection d with d _;subst a;subst b;subst c;subst d;refine ⟨n0,n1,n2,n3,?_,(wfI w2).1,(wfI w2).2,(wfI w3).1,(wfI w3).2⟩
 match cs,e with
 | [x0,x1,x2,x3],_=>
   simp at e0 e1 e2 e3;rw [e0,e1,e2,e3]
theorem Uw {r:Reach} {b0:Nat} {v:Value} {d:DataW H} {ps:List MemPlace} (hv:Value.okWide Tryz.prog w r b0 23 v) (hd:DataW.Trod enc Tryz.prog w 0 (λ_=>true) true 23 v d ps):
 ∃o F L B:Int,v=.agg #[.int .i64 o,.int .i64 F,.int .i64 L,.int .i64 B]/\bd L B:=by
 obtain ⟨cs,rfl,a⟩:=okWide_struct Tryz.underlying23 hv;obtain ⟨fuel,hf⟩:=hd;obtain ⟨o,F,L,B,b,h⟩:=Ra (cs:=cs.toList) (by rw [jP,a];kernel_rfl) hf;refine ⟨o,F,L,B,?_,h⟩;congr 1;exact Array.toList_inj.1 b
theorem Rg {r:Reach} {b0:Nat} {v:Value} {d:DataW H} {ps:List MemPlace} (hv:Value.okWide Tryz.prog w r b0 25 v) (hd:DataW.Trod enc Tryz.prog w 0 (λ_=>true) true 25 v d ps):
 ∃A c,∃l:List ByteArray,v=.slice A l.length c/\l.length<=c/\c<=9223372036854775807/\(∀a∈l,a.size<=9223372036854775807)/\ListAt w w.heap.size 1 A (l.map AI):=by
 obtain ⟨A,c,l,rfl,h1,h2,h3,h4⟩:=XO (α:=ByteArray) (sz:=1) Tryz.underlying25 qk oo AI (λs=>s.size<=9223372036854775807) (λn cs y hlen h=>by
  match cs,hlen with
  | [v],_=>
    obtain ⟨n0,b,_,w0⟩:=DataW.trod_string Tryz.underlying9 h
    injection b with b _
    subst b
    unfold maxLen at w0
    exact ⟨n0,by simpa using w0,rfl⟩) hv hd
 exact ⟨A,c,l,rfl,h1,h2,h3,h4⟩
end
theorem gCodes:Tryz.prog.globalNamed "dasd/spanned.codes"=some 0:=qk
theorem tCodes:(Tryz.prog.globals[0]?).map (·.type)=some 170:=qk
section
variable {H:Type} {enc:TypeId × Value->H} {W:World} {b0:Nat} {sp:Nat->Bool} {hd:Bool}
theorem Ry {m:Nat} {cs:List Value} {a:Bool} {q:List MemPlace} (h:DataW.trod enc Tryz.prog W b0 sp hd m 4 cs=some (.lit (.bool a),q)):cs=[.bool a]:=by
 obtain ⟨b,hc,hx⟩:=DataW.trod_bool Tryz.underlying4 h;injection hx with hx _;injection hx with hx;injection hx with hx;rw [hc,hx]
theorem J4 {m:Nat} {cs:List Value} {a b:Bool} {q:List MemPlace} (h:DataW.trod enc Tryz.prog W b0 sp hd m 169 cs=some (.agg [.lit (.bool a),.lit (.bool b)],q)):cs=[.bool a,.bool b]:=by
 obtain ⟨xs,m,rfl,hx,d,hn,c⟩:=DataW.trod_array Tryz.underlying169 h;rw [show Tryz.prog.cellsOf 169=2 from qk] at d;rw [show Tryz.prog.cellsOf 4=1 from qk] at c;have h0:=c 0 oo;have h1:=c 1 oo
 match xs,hn,cs,d with
 | [⟨x0,q0⟩,⟨x1,q1⟩],_,[c0,c1],_=>
   injection hx with hx _;injection hx with hx;injection hx with e0 hx;injection hx with e1 _;subst e0;subst e1;have k0:=Ry h0;have k1:=Ry h1;simp at k0 k1;rw [k0,k1]
theorem Ym {m:Nat} {cs:List Value} {a0 a1 a2 a3 b0' b1 b2 b3:Bool} {q:List MemPlace} (h:DataW.trod enc Tryz.prog W b0 sp hd m 170 cs=some (.agg [.agg [.lit (.bool a0),.lit (.bool b0')],.agg [.lit (.bool a1),.lit (.bool b1)],.agg [.lit (.bool a2),.lit (.bool b2)],.agg [.lit (.bool a3),.lit (.bool b3)]],q)):cs=[.bool a0,.bool b0',.bool a1,.bool b1,.bool a2,.bool b2,.bool a3,.bool b3]:=by
 obtain ⟨xs,m,rfl,hx,b,hn,a⟩:=DataW.trod_array Tryz.underlying170 h;rw [show Tryz.prog.cellsOf 170=8 from qk] at b;rw [show Tryz.prog.cellsOf 169=2 from qk] at a;have h0:=a 0 oo;have h1:=a 1 oo;have h2:=a 2 oo;have h3:=a 3 oo
 match xs,hn,cs,b with
 | [⟨x0,q0⟩,⟨x1,q1⟩,⟨x2,q2⟩,⟨x3,q3⟩],_,[c0,c1,c2,c3,c4,c5,c6,c7],_=>
   injection hx with hx _;injection hx with hx;injection hx with e0 hx;injection hx with e1 hx;injection hx with e2 hx;injection hx with e3 _;subst e0;subst e1;subst e2;subst e3;have k0:=J4 h0;have k1:=J4 h1;have k2:=J4 h2;have k3:=J4 h3;simp at k0 k1 k2 k3;rw [k0.1,k0.2,k1.1,k1.2,k2.1,k2.2,k3.1,k3.2]
end
theorem bZ {W:World} (h:laidMetH Tryz.prog Rows.topFormatsRow.laid W):CodesAt W:=by
 rw [MakeChecks.laidMetH_plain _ _ _ qk] at h;obtain ⟨ps,⟨g0,t0,b,f0,p0,q0,a,c,d,e,_,_⟩,_,_⟩:=h;obtain rfl:=Option.some.inj (gCodes.symm.trans a);obtain rfl:=Option.some.inj (tCodes.symm.trans c);obtain ⟨l⟩:=b;obtain rfl:=Ym e;have hc:=World.var?_cell a d;exact ⟨(ME (hc 0)).1,hc 0,hc 1,hc 2,hc 3,hc 4,hc 5,hc 6,hc 7⟩

end
end Go.Proofs.YtmcgbdemcknkaaaGreatDoor
