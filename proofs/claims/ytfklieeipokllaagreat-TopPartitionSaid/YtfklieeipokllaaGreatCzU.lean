/- Parts of the proof (packed), 21. -/
import Derived.Test.YtfklieeipokllaaGreatCzT
namespace Go.Proofs.YtfklieeipokllaaGreat
set_option linter.all false
set_option maxRecDepth 100000
set_option maxHeartbeats 16000000
open List
section
open Go.RowKit
theorem Q4 {D:Dev} {I:Img} (h:Rest D I) {x s m:Nat} {sy:Int}:Cm x s m sy 0 D:=by
 intro w0 out W hh ws hl g A c i hA;have hn:=h.img.n1;have l:=h.img.n0;have f:132<=D.st.length/\D.st.length<=1155:=by rw [h.len];omega
 have hp:D.pend.length<=800000:=by rw [h.pend];simp
 have a:=h.fin sy 0;by_cases b:Ac (D.st.length - 131) ws≠0\/ws=[]
 . have e:Al D sy 0 ws=(D,Ac (D.st.length - 131) ws):=by unfold Al;rw [a,if_neg qs,if_pos b]
   rw [e];exact MH hh f hp D false a ws hl g A c i hA b
 . have h0:Ac (D.st.length - 131) ws=0:=io.1 (λh9=>b (.inl h9));have d:ws≠[]:=λh9=>b (.inr h9);obtain ⟨j,k⟩:=h.topOK
   have e:Al D sy 0 ws=K3 D sy 0 (Bw (D.st.length - 131) ws) ((topI D).ver+1#32):=by
    unfold Al K3;rw [a,if_neg qs,if_neg (by simp [h0,d])];simp only;rw [if_neg (by rw [j];simp),if_neg k]
   rw [e];exact L9 VT hh f hp D false a _ rfl ws g A c i (hA d) h0 d j _ rfl _ rfl k
theorem dc {I:Img} {T:Tab} {n:Nat} (h:VImg I T n) {id unit:Int} {l:Lab} {ok:Bool} (hl:CK T id unit=(l,ok)):∀i∈Fm l,0<=i/\i<(I.n:Int):=by
 have h4:=BT h.okn;have a:=h.size;intro i hi;unfold Fm at hi;obtain ⟨j,_,rfl⟩:=gV.1 hi;obtain ⟨⟨q,o⟩,hq⟩:∃r,A0 l.ext (j:Int)=r:=⟨_,rfl⟩;rw [hq];cases o with
 | false=>
   have:q=0:=by
    unfold A0 at hq;split at hq
    . injection hq with h1 _;exact h1.symm
    split at hq
    . injection hq with _ h2;cases h2
    . injection hq with h1 _;exact h1.symm
   subst this;simp only;omega
 | true=>
   obtain ⟨k,hk,b,_⟩:=Lf hq;have h5:=Hs h.good id unit k (by rw [hl];exact hk);have h6:=Ce T.tracks;rw [h.tr] at h5;simp only;omega
theorem OW {D:Dev} {I:Img} {T:Tab} {n:Nat} (h:VRest D I T n) (sy:Int) {id unit:Int} {l:Lab} {ok:Bool} (hl:CK T id unit=(l,ok)):∃ss,CS D sy 0 (Fm l)=(D,ss,0)/\ss.length=Ao l.ext*8:=by
 refine ⟨_,Mv h.rest sy 0 (Fm l) (dc h.toVImg hl),?_⟩;rw [gO];unfold Fm;rw [gO,jK]
theorem ZI {T:Tab} (hT:GoodT T) {n:Nat} (hn:T.tracks=(n:Int)) (c:n<=16) {l:Lab} {a b:Int} (hc:Ki l.ext (Bp T)=((a,b),true)) {ss:List ByteArray} (hs:ss.length=Ao l.ext*8):(DH a ss).length<=128:=by
 obtain ⟨_,h1,x,d,h2,h3,h4,h5,h6⟩:=Uq _ _ _ _ hc;have h7:=(GC T hT _ (h6 (x+d - 1) oo oo).1).1;rw [M2];omega
theorem RQ {D:Dev} {I:Img} {T:Tab} {n N:Nat} (h:VRest D I T n) (hI:I.N<=N) (hN:N+4<256) {sy:Int} (hs:1<=sy/\sy<=4) (id c:Int) (x s m:Nat):
 (∀E T f,CZ D sy 0 n=(E,T,f)->f=0->Kh E)/\
 (∀E T l a b E2 ss,CZ D sy 0 n=(E,T,0)->CK T id c=(l,true)->Ki l.ext (Bp T)=((a,b),true)->CS E sy 0 (Fm l)=(E2,ss,0)->
   (∀k,64*k<(DH a ss).length->(Di E2 sy 0 (DH a ss) k).2=0->Cm x s m sy 0 (Di E2 sy 0 (DH a ss) k).1)/\
   ∀E3,L0 E2 sy 0 (DH a ss)=(E3,0)->Kh E3/\∀E,(CZ E3 sy 0 n).1=E->(CZ E3 sy 0 n).2.2=0->Cm x s m sy 0 E)/\
 VOut (UR D sy 0 n id c).1 n (N+3):=by
 have ht:=h.table sy 0;have g:∀(l:Lab) (a b:Int) (ss:List ByteArray),Ki l.ext (Bp T)=((a,b),true)->ss.length=Ao l.ext*8->∀k,k<=2->Com (Di D sy 0 (DH a ss) k) n (N+k) T:=λl a b ss hc hl k hk=>
  Pb h hI hs (DH a ss) (λe he=>(eO h.good hc ss hl e he).1) k oo
 have j:∀(l:Lab) (a b:Int) (ss:List ByteArray),Ki l.ext (Bp T)=((a,b),true)->ss.length=Ao l.ext*8->(DH a ss).length<=128:=λl a b ss hc hl=>ZI h.good h.tr h.n16 hc hl;refine ⟨λE U f he _=>?_,λE U l a b E2 ss he hl hc hr=>?_,?_⟩
 . rw [ht] at he;injection he with h1 _;rw [<-h1];exact h.lenOK
 . rw [ht] at he;injection he with h1 he;injection he with h2 _;subst h1;subst h2;obtain ⟨s2,i,d⟩:=OW h sy hl;rw [i] at hr;injection hr with h1 hr;injection hr with h2 _;subst h1;subst h2;have hb:=j l a b s2 hc d;refine ⟨λk hk h0=>?_,λE3 h3=>?_⟩
   . obtain ⟨J,hg,_⟩:=(g l a b s2 hc d k oo).ok h0;exact Q4 hg.rest
   . unfold L0 at h3;obtain ⟨J,hg,_⟩:=(g l a b s2 hc d (((DH a s2).length+63) / 64) oo).ok (by rw [h3]);rw [h3] at hg;refine ⟨hg.lenOK,λE hE _=>?_⟩;rw [hg.table sy 0] at hE;subst hE;exact Q4 hg.rest
 . have ho:=h.out (N:=N+3) oo;unfold UR;rw [ht];simp only;rw [if_neg qs];obtain ⟨⟨l,ok⟩,hl⟩:∃r,CK T id c=r:=⟨_,rfl⟩;rw [hl];simp only;by_cases h1:ok=false
   . rw [if_pos h1];exact ho
   rw [if_neg h1];obtain ⟨⟨⟨a,b⟩,p⟩,hc⟩:∃r,Ki l.ext (Bp T)=r:=⟨_,rfl⟩;rw [hc];simp only;cases p with
   | false=>
     rw [if_pos rfl];exact ho
   | true=>
   rw [if_neg qs];obtain ⟨ss,i,d⟩:=OW h sy hl;rw [i];simp only;rw [if_neg qs];have hb:=j l a b ss hc d;have hk:=g l a b ss hc d (((DH a ss).length+63) / 64) oo;obtain ⟨⟨E3,e3⟩,h3⟩:∃r,L0 D sy 0 (DH a ss)=r:=⟨_,rfl⟩;rw [h3];unfold L0 at h3;rw [h3] at hk;simp only;by_cases h4:e3=0;rotate_left
   . rw [if_pos h4];exact hk.out.mono oo
   rw [if_neg (by rw [h4];simp)];obtain ⟨J,hg,hJ⟩:=hk.ok h4;have o:=V1 hg hJ oo hs id c [] (λT=>Bt T id c (Gf T [(a,b)])) (λU hu=>⟨(Gq T U id c [(a,b)] hu).good,(Gq T U id c [(a,b)] hu).tracks⟩);obtain ⟨⟨E4,e4⟩,h5⟩:∃r,chP E3 sy 0 n id c [] (λT=>Bt T id c (Gf T [(a,b)]))=r:=⟨_,rfl⟩;rw [h5] at o ⊢;have h9:=o.mono (show N+((DH a ss).length+63) / 64+1<=N+3 by omega);simp only at h9 ⊢;split
   . exact h9
   . exact h9
theorem eQ {D:Dev} {I:Img} {T:Tab} {n N:Nat} (h:VRest D I T n) (hI:I.N<=N) (hN:N+4<256) {sy:Int} (hs:1<=sy/\sy<=4) (o:OpT):VOut (stP D sy 0 n o).1 n (N+3):=by
 have a:=λid unit ws g hg=>(V1 h hI oo hs id unit ws g hg).mono (show N+1<=N+3 by omega);unfold stP;split
 . exact (dI h hI oo hs o.on.id o.on.unit (Dv 8 6 o.ws)).mono oo
 split
 . exact (RQ h hI hN hs o.on.id o.on.unit 0 0 0).2.2
 split
 . exact a _ _ _ _ λU hu=>⟨(EU T U _ _ _ _ _ hu).good,(EU T U _ _ _ _ _ hu).tracks⟩
 split
 . exact a _ _ _ _ λU hu=>⟨(IU T U _ _ _ hu).good,(IU T U _ _ _ hu).tracks⟩
 split
 . exact a _ _ _ _ λU hu=>⟨(Gn T U _ _ _ hu).good,(Gn T U _ _ _ hu).tracks⟩
 split
 . exact a _ _ _ _ λU hu=>⟨(Gp T U _ _ _ hu).good,(Gp T U _ _ _ hu).tracks⟩
 split
 . exact a _ _ _ _ λU hu=>⟨(KT T U _ _ _ hu).good,(KT T U _ _ _ hu).tracks⟩
 . exact a _ _ _ _ λU hu=>⟨(IX T U _ _ hu).good,(IX T U _ _ hu).tracks⟩
theorem Ru {w0:World} {x s m v n N:Nat} {sy:Int} {D:Dev} {out:Nat->Prop} {W:World} (h:VHeld w0 x s m v n sy 0 D out W) {I:Img} {T:Tab} (hG:VRest D I T n) (hs:1<=sy/\sy<=4) (hI:I.N<=N) (hN:N+4<256) (o:OpT) (ho:OpTOk W o):
 Calls Tryz.prog 10 #[ptrV v,.agg (R8 o)] W λe w'=>∃er D' out',e=.returned (.int .i64 er)/\VOut D' n (N+3)/\VDid w0 x s m v n sy 0 D' out W out' w':=by
 have hc:Cm x s m sy 0 D:=Q4 hG.rest;obtain ⟨g1,g2,_⟩:=RQ hG hI hN hs o.on.id o.on.unit x s m;refine (Rm h hG.lenOK hG.okn o ho (λE hE _=>?_) (λE hE _=>?_) g1 g2 _ _ rfl).mono ?_
 . rw [hG.label sy 0] at hE;subst hE;exact hc
 . rw [hG.table sy 0] at hE;subst hE;exact hc
 rintro e w' ⟨rfl,out',hd⟩;exact ⟨_,_,out',rfl,eQ hG hI hN hs o,hd⟩

end
section
attribute [local go_sem ↓] Go.wp_at_zero Go.wp_at_succ
open Go.RowKit
theorem aR {w0:World} {x s m v n:Nat} {sy ep:Int} {D:Dev} {out:Nat->Prop} {W:World} (h:VHeld w0 x s m v n sy ep D out W) {I:Img} {T:Tab} (hR:VRest D I T n):
 Calls Tryz.prog 122 #[ptrV v] W λe w'=>e=.returned (.tuple #[.slice none 0 0,.int .i64 0])/\∃out',VDid w0 x s m v n sy ep D out W out' w':=by
 have b:Idle D I:=⟨hR.rest.toHolds,hR.rest.noint⟩;have hL:=hR.lenOK;have HB:=zh (cH h.held b);have f:=zh (λ(o:Nat->Prop) (w1:World) (h1:VHeld w0 x s m v n sy ep D o w1)=>Dz h1 hL.1 (by have:=hL.2;omega) hR.okn D T 0 (hR.table sy ep));have HH:=zh h;obtain ⟨sv,TC,tv,a,_⟩:=h.vol;unfold Fo at a;have v0:=a.cell 0;have vl:=a.lt;clear h hR b hL a;go_enter Tryz.func122,Tryz.ntmps122;go_wp2_with fail;refine HB.mono ?_;rintro e w1 ⟨rfl,hd⟩;have HD:=zh (HH.done hd);clear hd v0 vl;go_wp2_with fail;refine (f _ _ HD.held).mono ?_;rintro e w2 ⟨o2,A,c,ys,rfl,d,_,_,_⟩;have g:=zh ((HD.out.trans d).grew ((gK w2).alloc (.cells #[.string T.name,.int .i64 T.tracks,.slice A T.labels.length c] 50)));clear d;go_wp2_with fail
 go_loopg [42] 0 (λgk i wr=>gk=0/\i=.int .i64 0/\wr=w2.alloc (.cells #[.string T.name,.int .i64 T.tracks,.slice A T.labels.length c] 50))
 case atStart=>exact ⟨rfl,rfl,rfl⟩
 case round=>
  obtain ⟨_,rfl,rfl⟩:=hrel;go_wp2_with fail;go_ret2;exact ⟨rfl,o2,g⟩

theorem okN {n:Nat} (h:okT (n:Int)=true):4<=n/\n<=128/\ttS (n:Int)≠0:=by
 obtain ⟨h1,h2⟩:=BT h;unfold ttS;rw [if_pos h];omega
theorem R5 (n:Nat) (hn:okT (n:Int)=true) (w:World):Calls Tryz.prog 26 #[.int .i64 (n:Int)] w λe w'=>∃x,e=.returned (.tuple #[ptrV x,.int .i64 0])/\Live w x (ER (131+8*n)) (λ_=>False) w':=by
 obtain ⟨h1,h2,h3⟩:=okN hn;have a:IntKind.i64.wrap ((n:Int)*8)=(n:Int)*8:=iY _ oo;have b:IntKind.i64.wrap (131+(n:Int)*8)=131+(n:Int)*8:=iY _ oo;have hb:(ttS (n:Int)==0)=false:=iD.2 h3;have HN:=zh (Zu (131+8*n) w oo oo);rw [show ((131+8*n:Nat):Int)=131+(n:Int)*8 from oo] at HN;clear h3 hn;go_enter Tryz.func26,Tryz.ntmps26;go_wp2_with fail;refine (Bo (n:Int) w).mono ?_;rintro e w1 ⟨rfl,rfl⟩;go_wp2_with fail;refine HN.mono ?_;rintro e w1 ⟨x,rfl,hl⟩;have HL:=zh hl;clear hl;go_wp2_with fail;go_ret2;exact ⟨x,rfl,HL⟩
theorem IM {w0:World} {x:Nat} {D:Dev} {out:Nat->Prop} {W:World} (h:Live w0 x D out W) (n:Nat) (hn:okT (n:Int)=true) (hl:D.st.length=131+8*n):Calls Tryz.prog 70 #[ptrV x] W λe w'=>e=.returned (.int .i64 (n:Int))/\W=w':=by
 obtain ⟨h1,h2,h3⟩:=okN hn;have HS:=zh (Db h);obtain ⟨k,hk⟩:∃k,D.st.length=k:=⟨_,rfl⟩;obtain ⟨p,hp⟩:∃p,p=8*n:=⟨_,rfl⟩;rw [hk] at HS hl;have a:IntKind.i64.wrap ((k:Int) - 131)=(p:Int):=by rw [iY _ oo];omega
 have b:decide ((p:Int)<0)=false:=iC oo;have c:Int.tmod (p:Int) 8=0:=by rw [je oo];omega
 have d:(p:Int) % 8=0:=oo;have f:Int.tdiv (p:Int) 8=(n:Int):=by rw [Int.tdiv_eq_ediv_of_nonneg oo];omega
 have g:(p:Int) / 8=(n:Int):=oo;have i:IntKind.i64.wrap (n:Int)=(n:Int):=iY _ oo;have hb:(ttS (n:Int)==0)=false:=iD.2 h3;have hx:x<W.heap.size:=by obtain ⟨q,hq,hd,_⟩:=h;exact hd.feet_lt x (.inl hq.symm)
 clear hk hp hl h3 hn h;go_enter Tryz.func70,Tryz.ntmps70;go_wp2_with fail;refine HS.mono ?_;rintro e w1 ⟨rfl,rfl⟩;go_wp2_with fail;refine (Bo (n:Int) _).mono ?_;rintro e w1 ⟨rfl,rfl⟩;go_wp2_with fail;go_ret;exact ⟨rfl,rfl⟩
theorem YH (a b:Nat):FP a++FP b=FP (a+b):=by
 apply Fv;rw [ByteArray.data_append,Array.toList_append];show List.replicate a _++List.replicate b _=List.replicate (a+b) _;rw [List.replicate_append_replicate]
theorem YR (m i j:Nat) (h:j<=m):(FP m).extract i j=FP (j - i):=by
 apply Fv;rw [Eb];show ((List.replicate m (0:UInt8)).drop i).take (j - i)=List.replicate (j - i) 0;rw [drop_replicate,take_replicate,Nat.min_eq_left oo]
theorem Zs (s:ByteArray) (t:Int) (ho:okT t=true) (hn:Cs s=true):∃T,NG s t=(T,0)/\GoodT T:=by
 refine ⟨_,by unfold NG;rw [if_pos ⟨ho,hn⟩],ho,hn,?_,?_,?_,?_⟩
 . rw [jT];exact (PR t).1
 . intro l hl;exact .inl (by rw [(jn.1 hl).2];exact (Fl _).2 rfl)
 . have:CQ (List.replicate (Cg t).toNat BN)=[]:=by
    unfold CQ;rw [filter_eq_nil_iff.2 (λl hl=>by rw [(jn.1 hl).2,(Fl BN).2 rfl];decide)];rfl
   show (CQ _).Nodup;rw [this];exact nodup_nil
 . have:BA (List.replicate (Cg t).toNat BN)=[]:=by
    unfold BA;rw [flatMap_eq_nil_iff];intro l hl;rw [(jn.1 hl).2];rfl
   show (BL (BA _)).Nodup;rw [this];exact nodup_nil
theorem aL (nm:ByteArray) (n:Nat) (ho:okT (n:Int)=true) (hn:Cs nm=true) (L:Nat):∃x:ByteArray,x.size<=128/\∀k,k<=L->Em ⟨nm,n,List.replicate L BN⟩ k=x++FP (1024*(k+1) - x.size):=by
 have hs:nm.size<=8:=by
  unfold Cs at hn;exact (iQ hn).2.1
 refine ⟨eB nm.size++nm++eB (n:Int).toNat,?_,?_⟩
 . rw [gy,gy];have:=Br nm.size;have:=Br (n:Int).toNat;omega
 obtain ⟨x,hx⟩:∃x,eB nm.size++nm++eB (n:Int).toNat=x:=⟨_,rfl⟩
 have b:x.size<=128:=by
  rw [<-hx,gy,gy];have:=Br nm.size;have:=Br (n:Int).toNat;omega
 rw [hx];intro k
 induction k with
 | zero=>
   intro _;rw [F5];unfold CX;rw [if_pos ⟨hn,ho⟩];show Ei 1024 (eB nm.size++nm++eB (n:Int).toNat)=_;rw [hx];rfl
 | succ k ih=>
   intro hk;have a:k<(List.replicate L BN).length:=by rw [jT];omega
   rw [F4 _ k a,ih oo]
   have e:C6 (List.replicate L BN)[k] (n:Int)=FP 1024:=by
    rw [List.getElem_replicate];unfold C6;rw [if_pos ⟨ho,(Jd BN BN).2 rfl⟩];show ByteArray.empty++FP (1024 - 0)=_;rw [js]
   show _++C6 (List.replicate L BN)[k] (n:Int)=_;rw [e,jJ,YH];congr 2;omega
theorem Rv (nm:ByteArray) (n:Nat) (ho:okT (n:Int)=true) (hn:Cs nm=true):∃T,NG nm n=(T,0)/\GoodT T/\T.tracks=(n:Int)/\∀i (h:i<(AW T).length),0<i->(AW T)[i]=BI 128:=by
 obtain ⟨T,hT,hg⟩:=Zs nm n ho hn;have a:=hT;unfold NG at hT;rw [if_pos ⟨ho,hn⟩] at hT;injection hT with hT _;refine ⟨T,a,hg,by rw [<-hT],λi h h0=>?_⟩;have d:=(Ct hg).1;obtain ⟨x,hx,hb⟩:=aL nm n ho hn (Cg n).toNat
 have b:Em T T.labels.length=x++FP (1024*(T.labels.length+1) - x.size):=by
  have:=hb T.labels.length (by rw [<-hT];show (List.replicate _ BN).length<=_;rw [jT];exact gM _);rw [<-this,<-hT]
 have c:=DZ T ((AX T).2 hg) _ rfl;have e:i<8*(T.labels.length+1):=by rw [<-c.1];exact h
 have e1:AW T=D7 (Em T T.labels.length):=by unfold AW;rw [if_pos ((AX T).2 hg)]
 simp only [e1];rw [GO,b,Sf _ _ _ _ oo,YR _ _ _ oo,show 128*i+128 - x.size - (128*i - x.size)=128 from oo];rfl
def Ht (T:Tab):List (Int × ByteArray):=[(0,(AW T).getD 0 ⟨#[]⟩)]
theorem Z4 {E:Dev} {n:Nat} (ho:okT (n:Int)=true) (hh:Hist E (LE (8*n))) (hn:Neat E (LE (8*n))) {T:Tab} (hg:GoodT T) (ht:T.tracks=(n:Int)) (hz:∀i (h:i<(AW T).length),0<i->(AW T)[i]=BI 128) {sy:Int} (hs:1<=sy/\sy<=4):
 (Al E sy 0 (Ht T)).2=0/\VGood (Al E sy 0 (Ht T)).1 ((LE (8*n)).next (Ht T)) T n/\((LE (8*n)).next (Ht T)).N=2:=by
 obtain ⟨h1,h2,_⟩:=okN ho;obtain ⟨g1,g2⟩:=Ct hg;have g3:=Ce T.tracks
 have c:1<=ttS T.tracks:=by
  have h5:=hg.tr;unfold ttS;rw [if_pos h5];omega
 have a:0<(AW T).length:=by rw [g1];omega
 have d:(AW T).length<=8*n:=by
  have h4:ttS T.tracks<=(n:Int):=by unfold ttS;rw [if_pos hg.tr];omega
  rw [g1];omega
 have e0:(AW T).getD 0 ⟨#[]⟩=(AW T)[0]:=by rw [iE,gJ a];rfl
 have b:Ac (LE (8*n)).n (Ht T)=0:=by
  unfold Ht;rw [e0];unfold Ac;rw [if_neg,if_neg,if_neg]
  . simp
  . show ¬([((0:Int),(AW T)[0])].any λe=>decide (e.1<0\/((8*n:Nat):Int)<=e.1))=true;simp;omega
  . simp only [any_cons,any_nil,Bool.or_false,map_cons,map_nil,iV,not_or,io];exact ⟨g2 _ (gS a),qs⟩
 obtain ⟨c1,_,c3⟩:=GY hh hn hs (Ht T) (by show 1<1000;omega);obtain ⟨c4,c5⟩:=c3 b;refine ⟨c1.trans b,⟨c4,c5,by rw [Ud];rfl,ht,hg,λi hi=>?_⟩,?_⟩
 . rw [Mr i (by show i<8*n;omega)];unfold Ht;by_cases h0:i=0
   . subst h0;rw [e0];rfl
   . rw [JO (λe he=>by rw [gQ.1 he];show (0:Int)≠i;omega)];show BI 128=_;rw [hz i hi oo]
 . rw [bF,if_neg (by unfold Ht;simp)];rfl

theorem So {w0:World} {x n:Nat} {out:Nat->Prop} {W:World} (h:Live w0 x (ER (131+8*n)) out W) (hn:okT (n:Int)=true) (nm:ByteArray) (C:Cs nm=true) (T:Tab) (hT:NG nm n=(T,0)) (hg:GoodT T) (ht:T.tracks=(n:Int)) (hz:∀i (h:i<(AW T).length),0<i->(AW T)[i]=BI 128):
 Calls Tryz.prog 27 #[ptrV x,.agg #[.int .i64 1,.int .i64 0],.string nm] W λe w'=>e=.returned (.int .i64 0)/\∃E I,VGood E I T n/\I.N=2/\Live w0 x E out w'/\Beside w0 out W w':=by
 obtain ⟨h1,h2,_⟩:=okN hn;have p:(ER (131+8*n)).st.length=131+8*n:=by unfold ER;simp
 have R:Calm (ER (131+8*n)) 1 0:=⟨QY _ oo oo,rfl,by unfold Cr;decide,by show ¬(0:Int)<0;omega⟩;obtain ⟨E,hE,a,bk,bl⟩:=RH (n:=8*n) R rfl rfl p oo oo;have S:=Yk oo oo hE a;have D:Neat E (LE (8*n)):=⟨a,by rw [bk];rfl,bl⟩;obtain ⟨c1,c2,c3⟩:=Z4 hn S D hg ht hz (sy:=1) oo
 have bn:nm.size<=9223372036854775807:=by
  unfold Cs at C;have:=(iQ C).2.1;omega
 have br:=zh (λ(w1:World) (hg:Grew W w1)=>IM (h.grew hg) n hn p);have bs:=zh (λ(w1:World)=>Z6 nm n w1 bn oo oo T 0 hT);have F:=zh (λ(o:Nat->Prop) (w1:World) (hl:Live w0 x (ER (131+8*n)) o w1)=>Uk hl (by rw [p];omega) (sy:=1) (ep:=0) oo oo (by show 0<=900000;omega));rw [hE] at F;have U:132<=E.st.length/\E.st.length<=1155:=by rw [a.len];show 132<=131+8*n/\131+8*n<=1155;omega
 have V:E.pend.length<=980000:=by rw [a.pend];simp
 have X:=MI a 1 0 (by unfold Fg Cr;simp;omega);have bt:=zh (λ(o:Nat->Prop) (w1:World) (hl:Live w0 x E o w1)=>Pc hl U (by omega:(1:Int)<=1/\(1:Int)<=4) (by omega:(0:Int)<=0/\(0:Int)<=1099511627776) V E X);have bv:=zh (λ(s m:Nat)=>P6 D (by show 1<1000;omega) (x:=x) (s:=s) (m:=m) (sy:=1) oo);have bx:=zh (Bg hg);have HC:=zh (show (Al E 1 0 (Ht T)).2=0/\VGood (Al E 1 0 (Ht T)).1 ((LE (8*n)).next (Ht T)) T n/\((LE (8*n)).next (Ht T)).N=2 from ⟨c1,c2,c3⟩);have Y:Grew W (W.alloc (.cells #[.int .i64 1,.int .i64 0] 37)):=(gK W).alloc _;have Z:=gZ W 37 #[.int .i64 1,.int .i64 0] rfl;have ad:=zh Y;have ae:=zh Z;have HL:=zh h;obtain ⟨g1,g2⟩:=Ct hg
 have al:0<(AW T).length:=by
  have:1<=ttS T.tracks:=by have:=hg.tr;unfold ttS;rw [if_pos this];have:=BT this;omega
  rw [g1];omega
 have an:=zh al;clear h hn C hT hg ht hz p R hE a bk bl S D c1 c2 c3 U V X Y Z g1 g2 al;go_enter Tryz.func27,Tryz.ntmps27;go_wp2_with fail;refine (br _ ad).mono ?_;rintro e w1 ⟨rfl,rfl⟩;go_wp2_with fail;refine (bs _).mono ?_;rintro e w2 ⟨A,c,xs,rfl,M,g2,a9,bb⟩;have t:Grew w2 (w2.alloc (.cells #[.string T.name,.int .i64 T.tracks,.slice A T.labels.length c] 50)):=(gK w2).alloc _;have G:=zh ((ad.out.trans g2).trans t);have H:=zh (show W.heap.size+1<=w2.heap.size from by have:=g2.size;simpa using this);have av:=zh (show TabIn (λk=>W.heap.size<=k/\k<w2.heap.size) A xs from (M.lt (P:=λk=>W.heap.size<=k) ⟨λ_ b off e=>by have:=a9 b off e;simp at this;omega,λx hx _ b off e=>by rw [bb x hx] at e;cases e⟩));have a0:=zh (M.hold t);have a1:=zh ((ae.grew g2).grew t);have a2:=zh (gZ w2 50 #[.string T.name,.int .i64 T.tracks,.slice A T.labels.length c] rfl);obtain ⟨w3,B⟩:∃w3,w3=w2.alloc (.cells #[.string T.name,.int .i64 T.tracks,.slice A T.labels.length c] 50):=⟨_,rfl⟩;have a3:w3.heap.size=w2.heap.size+1:=by rw [B];simp
 rw [<-B] at G a0 a1 a2;have d:=zh a3;have b0:=zh (HL.more G);have v:=ae.grew g2;have r0:=v.cell 0;have r1:=v.cell 1;have rl:=v.lt;clear M g2 a9 bb t a3 v;go_wp2_with fail;rw [<-B];clear B;refine (F _ _ b0).mono ?_;rintro e w4 ⟨rfl,bc,l⟩;have b1:=zh l;have a4:=zh bc;have J:=zh (a1.turned l (λh9=>h9.2 (.inr ⟨gM _,by have:=H.out;have:=d.out;omega⟩)));have b2:=zh (a2.turned l (λh9=>h9.2 (.inr ⟨by have:=H.out;omega,by have:=d.out;omega⟩)));have b3:=zh (a0.stay av l (λk hk h9=>h9.2 (.inr ⟨hk.1,by have:=d.out;omega⟩)));clear bc l r0 r1 rl F;have r0:=J.cell 0;have r1:=J.cell 1;have rl:=J.out.lt;go_wp2_with fail;refine (bt _ _ a4).mono ?_;rintro e w5 ⟨s,m,rfl,bd,bf,L,z⟩;have b4:=zh L;have b5:=zh z;have b6:w0.heap.size<=w4.heap.size:=a4.base.size;have f:=zh (show Held w0 x s m 1 0 E (λq=>(out q\/(W.heap.size<=q/\q<w3.heap.size))\/q=s\/q=m) w5 from ⟨bd,bf,.inr (.inl rfl),.inr (.inr rfl),oo⟩);have w:=zh (b2.turned z (λh9=>h9.2 (.inr ⟨by have:=H.out;omega,by have:=d.out;omega⟩)));have b9:=zh (b3.stay av z (λk hk h9=>h9.2 (.inr ⟨hk.1,by have:=d.out;omega⟩)));clear bd bf L z r0 r1 rl b6;have y0:=w.cell 0;have y1:=w.cell 1;have y2:=w.cell 2;have yl:=w.out.lt;go_wp2_with fail;refine (Iy A c xs T w5 b9 bx).mono ?_;rintro e w6 ⟨u,rfl,O,g6⟩;have a5:=zh g6
 obtain ⟨gs,cs,hu,cj,cl,_,_⟩:∃g cap,u=.slice (some ⟨g,0,none⟩) (AW T).length cap/\w5.heap.size<=g/\g<w6.heap.size/\True/\True:=by
  rcases O.form with ⟨_,h9⟩ | ⟨g,cap,h1,h2,h3,_⟩
  . have:=iH length h9;rw [gO,length_nil] at this;have:=an.out;omega
  . rw [gO] at h1;exact ⟨g,cap,h1,h2,h3,trivial,trivial⟩
 subst hu;have a6:=an.out;obtain ⟨d0,Q⟩:∃d0,(AW T).getD 0 ⟨#[]⟩=d0:=⟨_,rfl⟩;have K:=zh (show Ht T=[(0,d0)] from by unfold Ht;rw [Q])
 have u0:w6.cell? ⟨gs,0,none⟩=some (.string d0):=by
  rw [<-Q];have:=O.cell (j:=0) (i:=0) (r:=FC (AW T)[0]) (by rw [gP,gJ a6];rfl) rfl;rw [iE,gJ a6];simpa using this
 clear O g6 y0 y1 y2 yl Q;have ch:(0:Int)<((AW T).length:Int):=oo;go_wp2_with fail;have a7:=gZ w6 65 #[.int .i64 0,.string d0] rfl;have y:Grew w5 (w6.alloc (.cells #[.int .i64 0,.string d0] 65)):=a5.alloc _;have ca:=zh (show Held w0 x s m 1 0 E _ (w6.alloc (.cells #[.int .i64 0,.string d0] 65)) from ⟨f.live.more y,f.store.grew y,.inl f.os,.inl f.om,f.m0⟩);have cb:=zh y;have HR:=zh (bv s m w0 _ _ ca (Ht T) (by unfold Ht;simp) (λe he=>by unfold Ht at he;rw [gQ.1 he];unfold okI;simp) (some ⟨w6.heap.size,0,none⟩) 1 (Kx a7 (by rw [K.out];rfl) (λr hr=>by rw [K.out] at hr;simp at hr;subst hr;rfl)) (λ_ b off e=>.inr (.inr (by injection e with e;injection e with e _ _;subst e;exact ⟨a5.size,qs⟩))));rw [HC.out.1] at HR;clear a7 y u0;rw [show (Ht T).length=1 from by rw [K.out];rfl] at HR;refine HR.mono ?_;rintro e w8 ⟨rfl,hd⟩;have HD:=zh hd;clear hd;go_wp2_with fail;go_ret;have a8:Beside w0 out W w4:=(G.turned _).trans (b1.mono λk _ hk=>⟨hk.1,λh9=>hk.2 (.inl h9)⟩);have ce:Beside w0 out W w5:=a8.trans (b5.mono λk _ hk=>⟨hk.1,λh9=>hk.2 (.inl h9)⟩);have cf:=ce.trans (cb.turned _);have ci:=a8.size;have L:=b4.out;exact ⟨rfl,_,_,HC.2.1,HC.2.2,HD.live.few (λk hk=>.inl (.inl (.inl hk))),cf.next HD.turned (λk hk h9=>h9.elim (λh8=>⟨h8.1,λh7=>h8.2 (.inl (.inl (.inl h7)))⟩) (λh8=>oo))⟩
structure Mounted (w0:World) (x:Nat) (n sy ep:Int) (D:Dev) (out:Nat->Prop) (W:World) (s m v:Nat) (out':Nat->Prop) (w':World):Prop where
 held:VHeld w0 x s m v n sy ep D out' w'
 sub:∀k,out k->out' k
 news:W.heap.size<=s/\W.heap.size<=m/\W.heap.size<=v
 beside:Beside w0 out W w'
 vol:VolM w' v s n (λk=>W.heap.size<=k/\Far w0 out' m v k)
theorem Ol {w0:World} {x n:Nat} {D:Dev} {out:Nat->Prop} {W:World} (h:Live w0 x D out W) (hn:okT (n:Int)=true) (r:D.st.length=131+8*n) (hp:D.pend.length<=980000) {sy ep:Int} (hs:1<=sy/\sy<=4) (he:0<=ep/\ep<=1099511627776) (E E2:Dev) (T:Tab) (ho:Io D sy ep=(E,0)) (B:E.st.length=131+8*n) (t:E.pend.length<=980000) (ht:CZ E sy ep n=(E2,T,0)):
 Calls Tryz.prog 29 #[ptrV x,.agg #[.int .i64 sy,.int .i64 ep]] W λe w'=>∃s m v out',e=.returned (.tuple #[ptrV v,.int .i64 0])/\Mounted w0 x n sy ep E2 out W s m v out' w':=by
 obtain ⟨h1,h2,h3⟩:=okN hn;have a:Grew W (W.alloc (.cells #[.int .i64 sy,.int .i64 ep] 37)):=(gK W).alloc _;have b:=gZ W 37 #[.int .i64 sy,.int .i64 ep] rfl;have C:=zh (IM (h.grew a) n hn r);have F:=zh (Pc (h.grew a) oo hs he hp E ho);have G:=zh (λ(s m v:Nat) (o:Nat->Prop) (w1:World) (hv:VHeld w0 x s m v n sy ep E o w1)=>Dz hv oo t hn E2 T 0 ht);have M:((n:Int)==0)=false:=by rw [iD];omega
 have HW:=zh (show w0.heap.size<=W.heap.size from h.base.size);have d:=zh a;have r0:=b.cell 0;have r1:=b.cell 1;have rl:=b.lt;clear h hn r hp hs he ho B t ht a b h1 h2 h3;go_enter Tryz.func29,Tryz.ntmps29;go_wp2_with fail;refine C.mono ?_;rintro e w1 ⟨rfl,rfl⟩;go_wp2_with fail;refine F.mono ?_;rintro e w2 ⟨s,m,rfl,y,z,p,q⟩;have H:=zh ((d.turned _).trans q);have f:=zh (show W.heap.size<=s/\W.heap.size<=m from ⟨gY d.size p.1,gY d.size p.2⟩);have i:W.heap.size<=w2.heap.size:=gY d.size q.size;have j:=zh i;have g:Grew w2 (w2.alloc (.cells (Fo s n (.slice none 0 0) Cq (.slice none 0 0)) 112)):=(gK w2).alloc _;have l:=gZ w2 112 (Fo s n (.slice none 0 0) Cq (.slice none 0 0)) rfl;have u:VHeld w0 x s m w2.heap.size n sy ep E (λk=>(out k\/k=s\/k=m)\/(w2.heap.size<=k/\k<(w2.alloc (.cells (Fo s n (.slice none 0 0) Cq (.slice none 0 0)) 112)).heap.size)) (w2.alloc (.cells (Fo s n (.slice none 0 0) Cq (.slice none 0 0)) 112)):=
  ⟨⟨y.more g,z.grew g,.inl (.inr (.inl rfl)),.inl (.inr (.inr rfl)),by have:=f.out;have:=HW.out;omega⟩,.inr ⟨gM _,qs⟩,by have:=HW.out;omega,⟨_,_,_,l,CacheM.empty _ _ _⟩⟩
 have I:=zh (show VolM (w2.alloc (.cells (Fo s n (.slice none 0 0) Cq (.slice none 0 0)) 112)) w2.heap.size s n (λ_=>False) from ⟨_,_,_,l,CacheM.empty _ _ _⟩);have J:=zh (G s m w2.heap.size _ _ u);have w:=zh g;clear y z p q g l u r0 r1 rl i;go_wp2_with fail;refine J.mono ?_;rintro e w4 ⟨o4,A,c,ys,rfl,hd,_,_,_⟩;have HD:=zh (hd.grew ((gK w4).alloc (.cells #[.string T.name,.int .i64 T.tracks,.slice A T.labels.length c] 50)));clear hd;go_wp2_with fail;go_ret2;have i:=j.out;have K:=HD.fresh (λ_=>False) (λk hk=>hk.elim) I;refine ⟨s,m,_,o4,rfl,HD.held,λk hk=>HD.sub k (.inl (.inl hk)),⟨f.1,f.2,j⟩,?_,K.mono λk hk=>⟨hk.1.elim (λh9=>h9.elim) (λh9=>gY j (gY w.size h9)),hk.2⟩⟩;have L:=H.out.trans (w.turned _)
 exact L.next HD.turned (λk hk h9=>by
  have:=f.out
  rcases h9 with h9 | h9 | h9
  . exact ⟨h9.1,λh8=>h9.2 (.inl (.inl h8))⟩
  . omega
  . omega)

end
section
open Go.RowKit
theorem UK {l:Lab} {ws:List (Int × ByteArray)} (h:(Ay l ws).2=0):Ay l ws=(ws.map λe=>((A0 l.ext e.1).1,e.2),0)/\(∀e∈ws,e.2.size=128)/\(ws.map (·.1)).Nodup/\∀e∈ws,(A0 l.ext e.1).2=true:=by
 unfold Ay at h ⊢;split at h
 . cases h
 rename_i h1;split at h
 . cases h
 rename_i h2;rw [if_neg h1,if_neg h2];simp only [not_or,io] at h1;refine ⟨rfl,λe he=>?_,h1.2,λe he=>?_⟩
 . have:=h1.1;rw [jE,im] at this;simpa using this e he
 . rw [jE,im] at h2;simpa using h2 e he
theorem Zq {I:Img} {T U:Tab} {n:Nat} (hU:GoodT U) (f:I.n=8*n) (ht:U.tracks=(n:Int)) (hl:(AW T).length=(AW U).length) (d:T.tracks=U.tracks) (id b:Int) (ws:List (Int × ByteArray)) (hp:(Ay (CK U id b).1 ws).2=0)
 (hc:Ac I.n (Bz T U++(Ay (CK U id b).1 ws).1)=0) (a:Int × ByteArray) (ha:a∈ws):(I.next (Bz T U++(Ay (CK U id b).1 ws).1)).cs (A0 (CK U id b).1.ext a.1).1.toNat=a.2:=by
 obtain ⟨h1,_,_,h4⟩:=UK hp;obtain ⟨q,hq⟩:∃q,(A0 (CK U id b).1.ext a.1).1=q:=⟨_,rfl⟩
 have hm:(q,a.2)∈(Ay (CK U id b).1 ws).1:=by
  rw [h1];exact gV.2 ⟨a,ha,by rw [hq]⟩
 have hf:=Hm hU id b ws _ hm;simp only at hf;have c:=(JH _ _ hc).2.1;rw [gm] at c;have e:=(jA.1 c).2.1;have g:0<=q:=oo;rw [hq,Mr q.toNat oo,Qg,Nf T U hl d,dif_neg oo]
 have:Kv (Ay (CK U id b).1 ws).1 q.toNat=some a.2:=by
  unfold Kv;rw [show ((q.toNat:Nat):Int)=q from oo,GX e _ hm];rfl
 rw [this];rfl
theorem Uo {T U:Tab} (hT:GoodT T) (hU:GoodT U) (ht:U.tracks=T.tracks) {n:Nat} (f:U.tracks=(n:Int)) (ps:List (Int × ByteArray)) (h1:∀e∈ps,e.2.size=128) (h2:(ps.map (·.1)).Nodup) (h3:∀e∈ps,((AW U).length:Int)<=e.1/\e.1<8*U.tracks) (h4:(Bz T U).length+ps.length<=64):
 Ac (8*n) (Bz T U++ps)=0:=by
 have hl:=Jm hT hU ht;obtain ⟨g1,g2⟩:=Ct hU;have g3:=Ce U.tracks;have g:ttS U.tracks<=U.tracks:=by unfold ttS;rw [if_pos hU.tr];have:=BT hU.tr;omega
 have hd:∀e∈Bz T U,e.2.size=128/\0<=e.1/\e.1<((AW U).length:Int):=by
  intro e he;unfold Bz at he;rw [if_pos ⟨hl,ht.symm⟩] at he;unfold C1 at he;obtain ⟨i,hi,rfl⟩:=gV.1 he;have h:=iP.1 (ip.1 hi).1;have c:i<(AW U).length:=oo;refine ⟨?_,by simp only;omega,by simp only;omega⟩;simp only;rw [iE,gJ c];exact g2 _ (gS c)
 have d:((Bz T U).map (·.1)).Nodup:=by
  unfold Bz;rw [if_pos ⟨hl,ht.symm⟩];unfold C1;rw [jM,Nodup,jh];exact (nodup_range.filter _).imp (λ{a b} hab he=>hab (by simp only [Function.comp] at he;omega))
 unfold Ac;rw [if_neg,if_neg,if_neg]
 . rw [iI];omega
 . rw [jE,im];intro e he;rcases iA.1 he with h9 | h9
   . have:=hd e h9;simp only [iV];omega
   . have:=h3 e h9;simp only [iV];omega
 . rw [not_or,io];refine ⟨?_,?_⟩
   . rw [jE,im];intro e he;rcases iA.1 he with h9 | h9
     . have:=(hd e h9).1;simp [this]
     . simp [h1 e h9]
   . rw [gm];refine jA.2 ⟨d,h2,λa ha b hb e=>?_⟩;obtain ⟨u,hu,rfl⟩:=gV.1 ha;obtain ⟨y,hy,rfl⟩:=gV.1 hb;have:=hd u hu;have:=h3 y hy;omega
def exT:Tab:=⟨⟨#[86,79,76]⟩,8,[BN]⟩
def exL:Lab:=⟨5,2,⟨#[65]⟩,⟨#[]⟩,[(2,1)]⟩
def exU:Tab:=⟨⟨#[86,79,76]⟩,8,[exL]⟩
theorem fU:NG ⟨#[86,79,76]⟩ 8=(exT,0):=qk
theorem Hb:CI exT 5 2 ⟨#[65]⟩ ⟨#[]⟩ 1=(exU,0):=qk
theorem Kz:CK exU 5 2=(exL,true):=qk
theorem LW:A0 [(2,1)] 3=(19,true):=by decide+kernel
def FY:ByteArray:=⟨#[116,101,120,116]⟩
def exW:List (Int × ByteArray):=[(3,BD FY)]
theorem aW:Ay exL exW=([(19,BD FY)],0):=by
 unfold Ay exW;rw [if_neg,if_neg]
 . show ([(A0 exL.ext 3).1].map λq=>(q,BD FY),(0:Int))=_;rw [show exL.ext=[(2,1)] from rfl,LW];rfl
 . show ¬([((3:Int),BD FY)].any λe=>!(A0 exL.ext e.1).2)=true;rw [any_cons,any_nil,show exL.ext=[(2,1)] from rfl];simp only [LW];decide
 . rw [not_or,io];exact ⟨by simp [DU],qs⟩
theorem fV {D:Dev} {I:Img} {T0 U0:Tab} (Hb:CI T0 5 2 ⟨#[65]⟩ ⟨#[]⟩ 1=(U0,0)) (Kz:CK U0 5 2=(exL,true)) (b:U0.tracks=T0.tracks) (c:U0.tracks=((8:Nat):Int)) (h:VGood D I T0 8) (hN:I.N=2):
 ∃D' I',chP D 1 0 ((8:Nat):Int) 5 2 exW (λT=>CI T 5 2 ⟨#[65]⟩ ⟨#[]⟩ 1)=(D',0)/\VGood D' I' U0 8/\rdP D' 2 0 ((8:Nat):Int) 5 2 3=(D',BD FY,0):=by
 have hU:=(EU T0 U0 5 2 _ _ 1 Hb).good;have a:(Ay (CK U0 5 2).1 exW)=([(19,BD FY)],0):=by rw [Kz];exact aW
 have hl:=Jm h.good hU b;have i:(AW U0).length=16:=by rw [(Ct hU).1,c];decide+kernel
 have j:(Bz T0 U0).length<=16:=by
  unfold Bz;rw [if_pos ⟨hl,b.symm⟩];unfold C1;rw [gO];refine gY (jY _ _) ?_;rw [jK];omega
 have d:Ac I.n (Bz T0 U0++(Ay (CK U0 5 2).1 exW).1)=0:=by
  rw [h.size];refine Uo h.good hU b c _ ?_ ?_ (Hm hU 5 2 exW) ?_
  . rw [a];intro e he;rw [gQ.1 he];exact DU _
  . rw [a];simp
  . rw [a];show _+1<=64;omega
 rcases dW h (sy:=1) oo oo 5 2 exW (λT=>CI T 5 2 ⟨#[65]⟩ ⟨#[]⟩ 1) (λU hUe=>by
  have hk:=EU T0 U 5 2 _ _ 1 hUe
  exact ⟨hk.good,hk.tracks⟩) with ⟨_,h9⟩ | ⟨U,hUe,hp,hc,he,hg⟩
 . exfalso;apply h9;unfold chP;rw [h.table 1 0];simp only;rw [if_neg qs,Hb];simp only;rw [if_neg qs,a];simp only;rw [if_neg qs];have:=(GY h.hist h.neat (sy:=1) oo (Bz T0 U0++(Ay (CK U0 5 2).1 exW).1) oo).1;rw [a] at this d;rw [this,d]
 . have g:U0=U:=by
    have:CI T0 5 2 ⟨#[65]⟩ ⟨#[]⟩ 1=(U,0):=hUe;rw [Hb] at this;injection this
   subst g;obtain ⟨D',f⟩:∃D',(chP D 1 0 ((8:Nat):Int) 5 2 exW (λT=>CI T 5 2 ⟨#[65]⟩ ⟨#[]⟩ 1)).1=D':=⟨_,rfl⟩;rw [f] at hg;refine ⟨D',_,Prod.ext f he,hg,?_⟩;have hw:=Zq hU h.size c hl b.symm 5 2 exW hp hc (3,BD FY) (gQ.2 rfl);have hq:A0 (CK U0 5 2).1.ext 3=(19,true):=by rw [Kz];exact LW
   have hr:=(hg.read 2 0 5 2 3 (by rw [Kz]) 19 hq).1;rw [hq] at hw;rw [hr];have:((I.next (Bz T0 U0++(Ay (CK U0 5 2).1 exW).1)).cs (19:Int).toNat)=BD FY:=hw;rw [this]
theorem Zc {D:Dev} {I:Img} (h:VGood D I exT 8) (hN:I.N=2):
 ∃D' I',chP D 1 0 ((8:Nat):Int) 5 2 exW (λT=>CI T 5 2 ⟨#[65]⟩ ⟨#[]⟩ 1)=(D',0)/\VGood D' I' exU 8/\rdP D' 2 0 ((8:Nat):Int) 5 2 3=(D',BD FY,0):=fV Hb Kz rfl rfl h hN

end
section
open Go.ChangeShapes Go.WideShapes Go.ChangeAt Go.RowKit Go.Deep
instance:Inhabited OpT:=⟨⟨0,0,⟨0,0,0,⟨#[]⟩,⟨#[]⟩,0,[]⟩,[],0,0,default,none,0,none,0⟩⟩
section
variable {H:Type} {enc:TypeId × Value->H} {w:World}
theorem YU {n:Nat} {cs:List Value} {y:DataW H × List MemPlace} (a:cs.length=20) (h:DataW.trod enc Tryz.prog w 0 (λ_=>true) true n 42 cs=some y):∃o:OpT,OpTIn w o/\cs=GR o:=by
 match cs,a with
 | [x0,x1,x2,x3,x4,x5,x6,x7,x8,x9,x10,x11,x12,x13,x14,x15,x16,x17,x18,x19],_=>
   have hf:=SP Tryz.underlying42 h;obtain ⟨_,_,f0⟩:=hf 0 _ rfl;obtain ⟨_,_,f1⟩:=hf 1 _ rfl;obtain ⟨_,_,f2⟩:=hf 2 _ rfl;obtain ⟨_,_,f3⟩:=hf 3 _ rfl;obtain ⟨_,_,f4⟩:=hf 4 _ rfl;obtain ⟨_,_,f5⟩:=hf 5 _ rfl;obtain ⟨_,_,f6⟩:=hf 6 _ rfl;simp only [jG,iw,il] at f0 f1 f2 f3 f4 f5 f6;rw [show Tryz.prog.cellsOf 5=1 from qk] at f0 f1;rw [show Tryz.prog.cellsOf 35=7 from qk] at f2;rw [show Tryz.prog.cellsOf 24=1 from qk] at f3;rw [show Tryz.prog.cellsOf 3=1 from qk] at f4 f5;rw [show Tryz.prog.cellsOf 40=8 from qk] at f6;simp only [drop_succ_cons,drop_zero,take_succ_cons,take_zero] at f0 f1 f2 f3 f4 f5 f6;obtain ⟨n0,b,_,w0⟩:=i0 Tryz.underlying5 f0;obtain ⟨n1,f,_,w1⟩:=i0 Tryz.underlying5 f1;obtain ⟨B,d,on,k,ho⟩:=Wv (by rfl) f2;obtain ⟨A,c,ws,h3,g1,g2,g3,g4⟩:=KB (α:=Int × ByteArray) (sz:=2) Tryz.underlying24 qk oo BM (λe=>okI e.1) (λn cs y a h=>bV a h) f3;obtain ⟨n4,g,_,w4⟩:=i0 Tryz.underlying3 f4;obtain ⟨n5,i,_,w5⟩:=i0 Tryz.underlying3 f5;obtain ⟨rw,l,j⟩:=Ze (by rfl) f6;injection b with b _;injection f with f _;injection g with g _;injection i with i _;subst b;subst f;subst g;subst i;subst h3;have b0:=Y6 w0;have b1:=Y6 w1;refine ⟨⟨n0.toNat,n1.toNat,on,ws,n4,n5,rw,B,d,A,c⟩,⟨by show n0.toNat<256;omega,by show n1.toNat<256;omega,ho,g4,gY g1 g2,g3,l⟩,?_⟩;unfold GR;unfold opC at j;simp only [cons.injEq] at k j;obtain ⟨rfl,rfl,rfl,rfl,rfl,rfl,rfl,_⟩:=k;obtain ⟨rfl,rfl,rfl,rfl,rfl,rfl,rfl,rfl,_⟩:=j;simp only [jf b0.1,jf b1.1]
theorem Xt {r:Reach} {b0:Nat} {v:Value} {d:DataW H} {ps:List MemPlace} (hv:Value.okWide Tryz.prog w r b0 22 v) (hd:DataW.Trod enc Tryz.prog w 0 (λ_=>true) true 22 v d ps):
 ∃A c,∃l:List OpT,v=.slice A l.length c/\l.length<=c/\c<=9223372036854775807/\(∀o∈l,OpTIn w o)/\ListAt w w.heap.size 20 A (l.map GR):=by
 obtain ⟨A,c,l,rfl,h1,h2,h3,h4⟩:=XI (α:=OpT) (sz:=20) Tryz.underlying22 qk oo GR (OpTIn w) (λn cs y hlen h=>YU hlen h) hv hd;exact ⟨A,c,l,rfl,h1,h2,h3,h4⟩
end

end
end Go.Proofs.YtfklieeipokllaaGreat
