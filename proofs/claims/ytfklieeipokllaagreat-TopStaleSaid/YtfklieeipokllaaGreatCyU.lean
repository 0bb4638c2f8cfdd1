/- Parts of the proof (packed), 21. -/
import Derived.WideKeyEntry
import Derived.Test.YtfklieeipokllaaGreatCyT
namespace Go.Proofs.YtfklieeipokllaaGreat
set_option linter.all false
set_option maxRecDepth 100000
set_option maxHeartbeats 16000000
open List
section
open Go.RowKit
theorem O0 {D:Dev} {I:Img} {T:Tab} {n:Nat} (h:VGood D I T n) {sy:Int} (hs:1<=sy/\sy<=4) (ws:List (Int × ByteArray)) (hps:∀e∈ws,((AP T).length:Int)<=e.1):∀k,I.N+k<1000->∃I',VGood (De D sy 0 ws k).1 I' T n/\I'.N<=I.N+k
 | 0,_=>⟨I,h,fk _⟩
 | k+1,hk=>by
   obtain ⟨J,hg,hJ⟩:=O0 h hs ws hps k oo;show ∃I',VGood (if (De D sy 0 ws k).2≠0 then De D sy 0 ws k else Ak (De D sy 0 ws k).1 sy 0 (IV ws k)).1 I' T n/\_;by_cases h0:(De D sy 0 ws k).2≠0
   . rw [if_pos h0];exact ⟨J,hg,oo⟩
   rw [if_neg h0];obtain ⟨c1,c2,c3⟩:=EN hg.hist hg.neat hs (IV ws k) oo;by_cases h3:AU J.n (IV ws k)=0
   . have hg2:=Io hg hg.good rfl hs (IV ws k) (λe he=>hps e (mem_of_mem_drop (iu he))) oo (by rw [JH];exact h3);rw [JH] at hg2;exact ⟨_,hg2,by rw [nil_append,LX];split<;>omega⟩
   . rw [c2 h3];exact ⟨J,hg,oo⟩
theorem VGood.lenOK {D:Dev} {I:Img} {T:Tab} {n:Nat} (h:VGood D I T n):Kf D:=by
 have h1:=h.len;obtain ⟨h2,h3⟩:=B0 h.okn;refine ⟨oo,?_⟩;rw [h.neat.clean.pend];simp
theorem bu {T:Tab} (hT:GoodT T) {l:Lab} {a b:Int} (hc:Li l.ext (Ce T)=((a,b),true)) (ss:List ByteArray) (hs:ss.length=AW l.ext*8):∀e∈DS a ss,((AP T).length:Int)<=e.1/\e.1<8*T.tracks:=by
 intro e he;unfold DS at he;obtain ⟨i,hi,rfl⟩:=List.mem_mapIdx.1 he;obtain ⟨_,h1,x,d,h2,h3,h4,h5,h6⟩:=Ti _ _ _ _ hc;have h7:=h6 (x+i / 8) oo oo;have h8:=(NJ T hT _ h7.1).1;have h9:=(Cn hT).1;simp only;omega
theorem bh {D:Dev} {I:Img} {T:Tab} {n:Nat} (h:VGood D I T n) {id unit:Int} {l:Lab} {ok:Bool} (hl:Ba T id unit=(l,ok)):∀i∈Fe l,0<=i/\i<(I.n:Int):=by
 have h4:=B0 h.okn;have a:=h.size;intro i hi;unfold Fe at hi;obtain ⟨j,_,rfl⟩:=ft.1 hi;obtain ⟨⟨q,o⟩,hq⟩:∃r,AN l.ext (j:Int)=r:=⟨_,rfl⟩;rw [hq];cases o with
 | false=>
   have:q=0:=by
    unfold AN at hq;split at hq
    . injection hq with h1 _;exact h1.symm
    split at hq
    . injection hq with _ h2;cases h2
    . injection hq with h1 _;exact h1.symm
   subst this;simp only;omega
 | true=>
   obtain ⟨k,hk,b,_⟩:=Fv hq;have h5:=Fl h.good id unit k (by rw [hl];exact hk);have h6:=DQ T.tracks;rw [h.tr] at h5;simp only;omega
theorem Oe {D:Dev} {I:Img} {T:Tab} {n:Nat} (h:VGood D I T n) (sy:Int) {id unit:Int} {l:Lab} {ok:Bool} (hl:Ba T id unit=(l,ok)):∃ss,CQ D sy 0 (Fe l)=(D,ss,0)/\ss.length=AW l.ext*8:=by
 refine ⟨_,L3 h.neat.clean sy 0 (Fe l) (bh h hl),?_⟩;rw [fm];unfold Fe;rw [fm,io]
theorem SQ {D:Dev} {I:Img} {T:Tab} {n:Nat} (h:VGood D I T n) {sy:Int} (hs:1<=sy/\sy<=4) (hN:I.N+20<1000) (id c:Int) (x s m:Nat):
 (∀E T f,B9 D sy 0 n=(E,T,f)->f=0->Kf E)/\
 (∀E T l a b E2 ss,B9 D sy 0 n=(E,T,0)->Ba T id c=(l,true)->Li l.ext (Ce T)=((a,b),true)->CQ E sy 0 (Fe l)=(E2,ss,0)->
   (∀k,64*k<(DS a ss).length->(De E2 sy 0 (DS a ss) k).2=0->CR x s m sy 0 (De E2 sy 0 (DS a ss) k).1)/\
   ∀E3,Ky E2 sy 0 (DS a ss)=(E3,0)->Kf E3/\∀E,(B9 E3 sy 0 n).1=E->(B9 E3 sy 0 n).2.2=0->CR x s m sy 0 E)/\
 ∃I' T',VGood (Ts D sy 0 n id c).1 I' T' n/\I'.N<=I.N+18:=by
 have ht:=h.table sy 0;have i:∀(l:Lab) (a b:Int) (ss:List ByteArray),Li l.ext (Ce T)=((a,b),true)->ss.length=AW l.ext*8->∀k,k<=17->∃J,VGood (De D sy 0 (DS a ss) k).1 J T n/\J.N<=I.N+k:=λl a b ss hc hl k hk=>
  O0 h hs (DS a ss) (λe he=>(bu h.good hc ss hl e he).1) k oo
 have p:∀(l:Lab) (a b:Int) (ss:List ByteArray),Li l.ext (Ce T)=((a,b),true)->ss.length=AW l.ext*8->(DS a ss).length<=1024:=λl a b ss hc hl=>by
  obtain ⟨_,h1,xx,d,h2,h3,h4,h5,h6⟩:=Ti _ _ _ _ hc;rw [Nd];omega
 refine ⟨λE U f he _=>?_,λE U l a b E2 ss he hl hc hr=>?_,?_⟩
 . rw [ht] at he;injection he with h1 _;rw [<-h1];exact h.lenOK
 . rw [ht] at he;injection he with h1 he;injection he with h2 _;subst h1;subst h2;obtain ⟨s2,o,g⟩:=Oe h sy hl;rw [o] at hr;injection hr with h1 hr;injection hr with h2 _;subst h1;subst h2;have hb:=p l a b s2 hc g;refine ⟨λk hk _=>?_,λE3 h3=>?_⟩
   . obtain ⟨J,hg,hJ⟩:=i l a b s2 hc g k oo;exact Gl hg.neat oo hs
   . unfold Ky at h3;obtain ⟨J,hg,hJ⟩:=i l a b s2 hc g (((DS a s2).length+63) / 64) oo;rw [h3] at hg;refine ⟨hg.lenOK,λE hE _=>?_⟩;rw [hg.table sy 0] at hE;subst hE;exact Gl hg.neat oo hs
 . unfold Ts;rw [ht];simp only;rw [if_neg qs];obtain ⟨⟨l,ok⟩,hl⟩:∃r,Ba T id c=r:=⟨_,rfl⟩;rw [hl];simp only;by_cases h1:ok=false
   . rw [if_pos h1];exact ⟨I,T,h,oo⟩
   rw [if_neg h1];obtain ⟨⟨⟨a,b⟩,q⟩,hc⟩:∃r,Li l.ext (Ce T)=r:=⟨_,rfl⟩;rw [hc];simp only;cases q with
   | false=>
     rw [if_pos rfl];exact ⟨I,T,h,oo⟩
   | true=>
   rw [if_neg qs];obtain ⟨ss,o,g⟩:=Oe h sy hl;rw [o];simp only;rw [if_neg qs];have hb:=p l a b ss hc g;obtain ⟨J,hg,hJ⟩:=i l a b ss hc g (((DS a ss).length+63) / 64) oo;obtain ⟨⟨E3,e3⟩,h3⟩:∃r,Ky D sy 0 (DS a ss)=r:=⟨_,rfl⟩;rw [h3];unfold Ky at h3;rw [h3] at hg;simp only at hg ⊢;by_cases h4:e3≠0
   . rw [if_pos h4];exact ⟨J,T,hg,oo⟩
   rw [if_neg h4];have j:=QA hg hs oo id c [] (λT=>Bg T id c (GZ T [(a,b)])) (λU hu=>⟨(Gd T U id c [(a,b)] hu).good,(Gd T U id c [(a,b)] hu).tracks⟩);obtain ⟨⟨E4,e4⟩,h5⟩:∃r,chP E3 sy 0 n id c [] (λT=>Bg T id c (GZ T [(a,b)]))=r:=⟨_,rfl⟩;rw [h5] at j ⊢;simp only at j ⊢;rcases j with ⟨h6,h7⟩ | ⟨U,_,_,_,h7,h8⟩
   . injection h6 with h6 _;rw [if_pos h7,h6];exact ⟨J,T,hg,oo⟩
   . rw [if_neg (by rw [h7];simp)];exact ⟨_,U,h8,by rw [LX];split<;>omega⟩
theorem JJ {D:Dev} {I:Img} {T:Tab} {n:Nat} (h:VGood D I T n) {sy:Int} (hs:1<=sy/\sy<=4) (hN:I.N<1000) (id a:Int) (ws:List (Int × ByteArray)) (g:Tab->Tab × Int) (hg:∀U,g T=(U,0)->GoodT U/\U.tracks=T.tracks):∃I' T',VGood (chP D sy 0 n id a ws g).1 I' T' n/\I'.N<=I.N+18:=by
 rcases QA h hs hN id a ws g hg with ⟨h6,_⟩ | ⟨U,_,_,_,_,h8⟩
 . rw [h6];exact ⟨I,T,h,oo⟩
 . exact ⟨_,U,h8,by rw [LX];split<;>omega⟩
theorem dm {D:Dev} {I:Img} {T:Tab} {n:Nat} (h:VGood D I T n) {sy:Int} (hs:1<=sy/\sy<=4) (hN:I.N+20<1000) (o:OpT) (x s m:Nat):
 (∀E,(DP D sy 0 n o.on.id o.on.unit).1=E->(DP D sy 0 n o.on.id o.on.unit).2.2=0->CR x s m sy 0 E)/\(∀E,(B9 D sy 0 n).1=E->(B9 D sy 0 n).2.2=0->CR x s m sy 0 E)/\
 ∃I' T',VGood (stP D sy 0 n o).1 I' T' n/\I'.N<=I.N+18:=by
 have hc:=Gl (x:=x) (s:=s) (m:=m) h.neat oo hs;refine ⟨λE hE _=>?_,λE hE _=>?_,?_⟩
 . rw [h.label sy 0] at hE;subst hE;exact hc
 . rw [h.table sy 0] at hE;subst hE;exact hc
 . unfold stP;split
   . obtain ⟨I',h1,h2⟩:=cT h hs oo o.on.id o.on.unit (Dn 8 6 o.ws);exact ⟨I',T,h1,oo⟩
   split
   . exact (SQ h hs hN o.on.id o.on.unit x s m).2.2
   split
   . exact JJ h hs oo _ _ _ _ λU hu=>⟨(EU T U _ _ _ _ _ hu).good,(EU T U _ _ _ _ _ hu).tracks⟩
   split
   . exact JJ h hs oo _ _ _ _ λU hu=>⟨(Hl T U _ _ _ hu).good,(Hl T U _ _ _ hu).tracks⟩
   split
   . exact JJ h hs oo _ _ _ _ λU hu=>⟨(Ge T U _ _ _ hu).good,(Ge T U _ _ _ hu).tracks⟩
   split
   . exact JJ h hs oo _ _ _ _ λU hu=>⟨(Gg T U _ _ _ hu).good,(Gg T U _ _ _ hu).tracks⟩
   split
   . exact JJ h hs oo _ _ _ _ λU hu=>⟨(Jn T U _ _ _ hu).good,(Jn T U _ _ _ hu).tracks⟩
   . exact JJ h hs oo _ _ _ _ λU hu=>⟨(Hk T U _ _ hu).good,(Hk T U _ _ hu).tracks⟩

end
section
attribute [local go_sem ↓] Go.wp_at_zero Go.wp_at_succ
open Go.RowKit
def Jy (o:OpT):List Value:=[.int .u8 (o.kind:Int),.int .u8 (o.sys:Int),.int .u8 (o.on.kind:Int),.int .i64 o.on.id,.int .i64 o.on.unit,.string o.on.name,.string o.on.note,.int .i64 o.on.n,.slice o.X o.on.ext.length o.cx,.slice o.B o.ws.length o.cb,.int .i64 o.sec,.int .i64 o.size,.int .u8 (o.raw.kind:Int),.int .i64 o.raw.sys,.int .i64 o.raw.ep,.int .i64 o.raw.sec,.string o.raw.data,.int .i64 o.raw.n,.int .u8 (o.raw.mask.toNat:Int),.slice o.raw.A o.raw.sv.length o.raw.c]
structure OpTIn (w:World) (o:OpT):Prop where
 kind:o.kind<256
 sys:o.sys<256
 on:OprAt w o.X o.on
 at_:ListAt w w.heap.size 2 o.B (o.ws.map BB)
 wl:o.ws.length<=9223372036854775807
 ok:∀e∈o.ws,okI e.1
 raw:okOp w o.raw
theorem OprAt.hold {w w':World} {B:Option Addr} {o:Opr} (h:OprAt w B o) (hg:Grew w w'):OprAt w' B o:=⟨h.kind,h.name,h.note,h.n0,h.n1,h.runs.hold hg,h.xl⟩
theorem OpTIn.hold {w w':World} {o:OpT} (h:OpTIn w o) (hg:Grew w w'):OpTIn w' o:=⟨h.kind,h.sys,h.on.hold hg,AO h.at_ hg,h.wl,h.ok,h.raw.keep hg⟩
def MN (l:List OpT) (most:Nat):Bool:=l.all (λo=>Fa o.on && (Du o.ws 70 && Sl [o.raw] 1)) && decide (l.length<=most)
theorem NY {l:List OpT} {most j:Nat} {o:OpT} (hj:j<l.length) (ho:l[j]=o) (h:(Fa o.on && (Du o.ws 70 && Sl [o.raw] 1))=false):MN l most=false:=by
 unfold MN;rw [Bool.and_eq_false_iff];exact .inl (List.all_eq_false.2 ⟨o,ho▸fq hj,by rw [h];simp⟩)
theorem aY {w:World} {A:Option Addr} {l:List OpT} (h:ListAt w w.heap.size 20 A (l.map Jy)) {k:Nat} (hk:k<l.length):∃b off,A=some ⟨b,off,none⟩/\b<w.heap.size/\∀i v,(Jy l[k])[i]? =some v->w.cell? ⟨b,off+k*20+i,none⟩=some v:=by
 obtain ⟨b,off,e,hb,hc⟩:=h (by simp;omega);exact ⟨b,off,e,hb,hc k (Jy l[k]) (by rw [fo,fg hk];rfl)⟩
theorem bp {w:World} {g:Nat} {o:OpD} (h:Blk w g 40 (opV o)) (ho:okOp w o):OpsAt w w.heap.size (some ⟨g,0,none⟩) [o]:=by
 refine ⟨λr hr=>by rw [fp.1 hr];exact ho,λ_=>⟨g,0,rfl,h.lt,λj cs hj i v hi=>?_⟩⟩
 match j,hj with
 | 0,hj=>
   obtain rfl:opC o=cs:=by simpa using hj
   rw [show 0+0*8+i=i by omega,h.cell i];rw [<-hi];show (opV o)[i]? =_;unfold opV opC;simp
 | j+1,hj=>simp at hj
theorem ZR (A:Option Addr) (c:Nat) (l:List OpT) (n:Nat) (w:World) (hv:∀o∈l,OpTIn w o) (t:ListAt w w.heap.size 20 A (l.map Jy)) (hl:l.length<=9223372036854775807) (hn:n<=1000):
 Calls Tryz.prog 6 #[.slice A l.length c,.int .i64 (n:Int)] w λe w'=>e=.returned (.bool (MN l n))/\Grew w w':=by
 have HV:=zh hv;have D:=zh t;clear hv t;go_enter Tryz.func6,Tryz.ntmps6;go_wp2_with fail
 go_loopg [5] l.length (λgk iv wr=>Grew w wr/\∃j:Nat,j<=l.length/\gk=l.length - j/\iv=.int .i64 (j:Int)/\∀k (hk:k<l.length),k<j->(Fa l[k].on && (Du l[k].ws 70 && Sl [l[k].raw] 1))=true)
 case atStart=>exact ⟨fh w,0,iB _,rfl,rfl,λk hk h=>oo⟩
 case round=>
  obtain ⟨hg,j,hj,y,rfl,z⟩:=hrel;have E:=zh y;have HA:=zh z;have HG:=zh hg;clear y z;by_cases p:j<l.length
  . have S:(j:Int)<(l.length:Int):=oo;obtain ⟨b,U,rfl,C,hc⟩:=aY (AO D hg) p;obtain ⟨o,ho⟩:∃o,l[j]=o:=⟨_,rfl⟩;have HO:=zh ho;have i:=zh p;have HI:=zh ((HV o (ho▸fq p)).hold hg);rw [ho] at hc;have z2:=hc 2 _ rfl;have z3:=hc 3 _ rfl;have z4:=hc 4 _ rfl;have z5:=hc 5 _ rfl;have z6:=hc 6 _ rfl;have z7:=hc 7 _ rfl;have z8:=hc 8 _ rfl;have z9:=hc 9 _ rfl;have d:=zh hc;have HS:=zh (Xy o.X o.cx o.on wr.heap.size (wr.alloc (.cells #[.int .u8 (o.on.kind:Int),.int .i64 o.on.id,.int .i64 o.on.unit,.string o.on.name,.string o.on.note,.int .i64 o.on.n,.slice o.X o.on.ext.length o.cx] 35)) (fy wr _ _ rfl) HI.on.name HI.on.note HI.on.xl);clear hc ho hg;go_wp2_with fail;refine HS.mono ?_;rintro e w1 ⟨rfl,g1⟩;have f:=zh (((fh wr).alloc (.cells #[.int .u8 (o.on.kind:Int),.int .i64 o.on.id,.int .i64 o.on.unit,.string o.on.name,.string o.on.note,.int .i64 o.on.n,.slice o.X o.on.ext.length o.cx] 35)).trans g1);clear g1 z2 z3 z4 z5 z6 z7 z8;have y9:=BG f z9;have F:b<w1.heap.size:=fw C f.size;clear z9;obtain ⟨c1,q⟩:∃c1,Fa o.on=c1:=⟨_,rfl⟩;have g:=zh q;have G:=zh (O8 o.ws o.B o.cb 70 oo w1 (AO HI.at_ f) HI.wl);rw [q];clear q;cases c1 with
    | false=>
      go_wp2_with fail;go_ret;exact ⟨AE (by rw [NY i.out HO.out (by rw [g.out];rfl)]),HG.out.trans f⟩
    | true=>
    go_wp2_with fail;refine G.mono ?_;rintro e w2 ⟨rfl,g2⟩;have a:=zh (f.out.trans g2);clear g2 y9 F;have T:b<w2.heap.size:=fw C a.size;have H:=BG a (d 12 _ rfl);have I:=BG a (d 13 _ rfl);have J:=BG a (d 14 _ rfl);have K:=BG a (d 15 _ rfl);have L:=BG a (d 16 _ rfl);have M:=BG a (d 17 _ rfl);have N:=BG a (d 18 _ rfl);have O:=BG a (d 19 _ rfl);obtain ⟨c2,r⟩:∃c2,Du o.ws 70=c2:=⟨_,rfl⟩;have m:=zh r;have gB:=(fh w2).alloc (.cells #[.int .u8 (o.raw.kind:Int),.int .i64 o.raw.sys,.int .i64 o.raw.ep,.int .i64 o.raw.sec,.string o.raw.data,.int .i64 o.raw.n,.int .u8 (o.raw.mask.toNat:Int),.slice o.raw.A o.raw.sv.length o.raw.c] 40);have P:=zh (λcx=>dR (some ⟨w2.heap.size,0,none⟩) cx [o.raw] 1 _ _ (bp (fy w2 40 (opV o.raw) rfl) (HI.raw.keep (a.out.trans gB))) (fk _) qs oo);have Q:=zh gB;rw [r];clear r gB;cases c2 with
    | false=>
      go_wp2_with fail;go_ret;exact ⟨AE (by rw [NY i.out HO.out (by rw [g.out,m.out];rfl)]),HG.out.trans a⟩
    | true=>
    go_wp2_with fail;refine (P _).mono ?_;rintro e w3 ⟨rfl,x⟩;have u:=zh (show Grew w2 w3 from x▸Q.out);clear x H I J K L M N O;obtain ⟨c3,s⟩:∃c3,Sl [o.raw] 1=c3:=⟨_,rfl⟩;have v:=zh s;rw [s];clear s;cases c3 with
    | false=>
      go_wp2_with fail;go_ret;exact ⟨AE (by rw [NY i.out HO.out (by rw [g.out,m.out,v.out];rfl)]),HG.out.trans (a.out.trans u)⟩
    | true=>
    have R:=zh (show ∀k (hk:k<l.length),k<j+1->(Fa l[k].on && (Du l[k].ws 70 && Sl [l[k].raw] 1))=true from λk hk h1=>by
     rcases iQ k j with h9 | h9
     . exact HA.out k hk h9
     . have:k=j:=oo
       subst this
       rw [HO.out,g.out,m.out,v.out]
       rfl)
    go_wp2_with fail
    go_roundg (l.length - (j+1))
    case measure=>rw [E.out];omega
    case rel=>exact ⟨HG.out.trans (a.out.trans u),j+1,oo,rfl,by go_num,R⟩
  . obtain rfl:j=l.length:=oo
    have HE:=zh (show MN l n=decide (l.length<=n) from by
     unfold MN
     rw [iD.2 (λo ho=>by
      obtain ⟨k,hk,rfl⟩:=jB.1 ho
      exact HA.out k hk hk),Bool.true_and])
    have hd:decide ((l.length:Int)<=(n:Int))=decide (l.length<=n):=decide_eq_decide.2 oo;go_wp2_with fail;go_ret;exact ⟨AE (by rw [HE.out,<-hd]),HG⟩

end
section
open Go.RowKit Go.MapKept
section
variable {α:Type} {P:Program} {k:TypeId} {kv:α->Value} {w:World} {m:Nat} {F:α->Option Value}
variable (K:Go.Maps.Keyed P k) (hinj:∀a b,kv a=kv b->a=b)
include K hinj
theorem XI [DecidableEq α] (h:MapIs P k kv w m F) {t e:TypeId} {z:Value} (ht:P.underlying t=some (.map k e)) (hz:∀u:World,(zeroValue e).run P u=.ok z u) (a:α) {x:Lit} (hx:keyOf P k (kv a)=some x):
 ∃(st:Nat) (o1:Obj),(Instr.mapEntry t (.map (some m)) (kv a)).run P w=.ok (.tuple #[(F a).getD z,goInt st]) { w with heap:=w.heap.setIfInBounds m o1 }/\
  ∀(w2:World) (val:Value),w2.heap[m]? =some o1->∃w3,(Instr.entryStore t (.map (some m)) (goInt st) val).run P w2=.ok () w3/\MapIs P k kv w3 m (upd F a (some val))/\Turned (λx=>x=m) w2 w3:=by
 have r:=λval=>MapIs.update K hinj h ht a hx val;obtain ⟨es,b,l,hb,he,C,D,hF,E,y⟩:=h;have s:m<w.heap.size:=(iC.1 hb).1;rcases MW K hinj he C D hF w a hx with ⟨h1,h2⟩ | ⟨j,v0,h1,h2,hj⟩
 . refine ⟨b,.map (es.push { key:=kv a,val:=z,born:=b }) (b+1),?_,λw2 val hw2=>?_⟩
   . simp [Instr.mapEntry,jE ht,iP hb,K.check w _ hx,h1,hz,h2,i9 _ hb]
   . obtain ⟨w',hr,hm,_⟩:=r val
     have hu:(Instr.mapUpdate t (.map (some m)) (kv a) val).run P w=.ok () { w with heap:=w.heap.setIfInBounds m (.map (es.push { key:=kv a,val:=val,born:=b }) (b+1)) }:=by
      simp [Instr.mapUpdate,jE ht,iP hb,K.check w _ hx,h1,i9 _ hb]
     rw [hu] at hr;injection hr with _ hr;have n:m<w2.heap.size:=(iC.1 hw2).1;refine ⟨{ w2 with heap:=w2.heap.setIfInBounds m (.map (es.push { key:=kv a,val:=val,born:=b }) (b+1)) },?_,hm.same ?_,Ct w2 m _⟩
     . have o:(es.push { key:=kv a,val:=z,born:=b }).findIdx? (λe=>((e.born:Nat):Int)==((b:Nat):Int))=some es.size:=by
        rw [Go.WideElems.findIdx_arr]
        exact Go.WideElems.findIdx_born (l:=(es.push { key:=kv a,val:=z,born:=b }).toList) (j:=es.size) (e0:={ key:=kv a,val:=z,born:=b }) (by
         simp only [Array.toList_push,fz,map_cons,map_nil]
         refine iZ.2 ⟨y,qs,λa ha c hc e1=>?_⟩
         simp only [fp] at hc
         obtain ⟨x,hx,rfl⟩:=ft.1 ha
         have:=E x hx
         omega) qs
       have q:(es.push { key:=kv a,val:=z,born:=b }).modify es.size (λe=>{ e with val:=val })=es.push { key:=kv a,val:=val,born:=b }:=by
        apply Array.ext';rw [Array.toList_modify,Array.toList_push,Array.toList_push,<-iG,Go.WideElems.modify_last]
       simp [Instr.entryStore,iP hw2,asInt,asIntOf,goInt,o,q,i9 _ hw2]
     . rw [<-hr];exact (Cu w2 m _ n).trans (Cu w m _ s).symm
 . have d:j<es.size:=by
    have:=(gI.1 hj).1;have A:=gJ length he;simp at A;omega
   have f:(es[j]'d).key=kv a:=by
    have hq:(es.toList.map (λe=>(e.key,e.val)))[j]? =(l.map (λp=>(kv p.1,p.2)))[j]? :=by rw [he]
    rw [fo,fo,hj] at hq;rw [jG,iI d] at hq;simp at hq;exact hq.1
   have v:(es[j]'d).val=v0:=by
    have hq:(es.toList.map (λe=>(e.key,e.val)))[j]? =(l.map (λp=>(kv p.1,p.2)))[j]? :=by rw [he]
    rw [fo,fo,hj] at hq;rw [jG,iI d] at hq;simp at hq;exact hq.2
   obtain ⟨e0,i⟩:∃e0,es[j]'d=e0:=⟨_,rfl⟩;rw [i] at f v;have g:es.toList[j]? =some e0:=by rw [jG,iI d,i]
   have B:es.modify j (λe=>{ e with key:=kv a })=es:=by
    apply Array.ext';rw [Array.toList_modify,Go.ChangeMaps.modify_eq_set _ _ _ _ g];have:({ e0 with key:=kv a }:MapEntry)=e0:=by rw [<-f]
    rw [this];exact Go.WideElems.set_self _ _ _ g
   refine ⟨e0.born,.map es b,?_,λw2 val hw2=>?_⟩
   . simp [Instr.mapEntry,jE ht,iP hb,K.check w _ hx,h1,h2,d,i,f,v,K.stays w hx,B,i9 _ hb]
   . obtain ⟨w',hr,hm,_⟩:=r val
     have hu:(Instr.mapUpdate t (.map (some m)) (kv a) val).run P w=.ok () { w with heap:=w.heap.setIfInBounds m (.map (es.modify j λe=>{ e with key:=kv a,val:=val }) b) }:=by
      simp [Instr.mapUpdate,jE ht,iP hb,K.check w _ hx,h1,i9 _ hb,d,i,f,K.stays w hx]
     rw [hu] at hr;injection hr with _ hr;have n:m<w2.heap.size:=(iC.1 hw2).1;refine ⟨{ w2 with heap:=w2.heap.setIfInBounds m (.map (es.modify j λe=>{ e with key:=kv a,val:=val }) b) },?_,hm.same ?_,Ct w2 m _⟩
     . have o:es.findIdx? (λe=>((e.born:Nat):Int)==((e0.born:Nat):Int))=some j:=by
        rw [Go.WideElems.findIdx_arr];exact Go.WideElems.findIdx_born y g
       have q:es.modify j (λe=>{ e with val:=val })=es.modify j (λe'=>{ e' with key:=kv a,val:=val }):=by
        apply Array.ext';rw [Array.toList_modify,Array.toList_modify,Go.ChangeMaps.modify_eq_set _ _ _ _ g,Go.ChangeMaps.modify_eq_set _ _ _ _ g,<-f]
       simp [Instr.entryStore,iP hw2,asInt,asIntOf,goInt,o,q,i9 _ hw2]
     . rw [<-hr];exact (Cu w2 m _ n).trans (Cu w m _ s).symm
end

end
end Go.Proofs.YtfklieeipokllaaGreat
