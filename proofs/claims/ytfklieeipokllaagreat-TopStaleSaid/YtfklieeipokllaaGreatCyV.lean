/- Parts of the proof (packed), 22. -/
import Derived.Test.YtfklieeipokllaaGreatCyU
import Derived.Test.YtfklieeipokllaaGreatCyR
namespace Go.Proofs.YtfklieeipokllaaGreat
set_option linter.all false
set_option maxRecDepth 100000
set_option maxHeartbeats 16000000
open List
section
open Go.RowKit
theorem cM {l:List OpT} {most:Nat} (h:MN l most=true) {w:World} (hv:∀o∈l,OpTIn w o):l.length<=most/\∀o∈l,OpTOk w o:=by
 unfold MN at h;rw [gZ] at h;refine ⟨gV h.2,λo ho=>?_⟩;have h1:=iD.1 h.1 o ho;rw [gZ,gZ] at h1;have h2:=h1.2.1;unfold Du at h2;rw [gZ] at h2;have h3:=gV h2.2;have hi:=hv o ho;exact ⟨hi.kind,hi.on,hi.at_,oo,hi.ok,λe he=>by have:=gV (iD.1 h2.1 e he);omega⟩
theorem Sc {w0:World} {x s m v n:Nat} {sy:Int} {D:Dev} {out:Nat->Prop} {W:World} (h:VHeld w0 x s m v n sy 0 D out W) {I:Img} {T:Tab} (hG:VGood D I T n) (hs:1<=sy/\sy<=4) (hN:I.N+20<1000) (o:OpT) (ho:OpTOk W o):
 Calls Tryz.prog 10 #[ptrV v,.agg (Ux o)] W λe w'=>∃er D' out' I' T',e=.returned (.int .i64 er)/\VGood D' I' T' n/\I'.N<=I.N+18/\VDid w0 x s m v n sy 0 D' out W out' w':=by
 obtain ⟨h1,h2,I',T',h3,h4⟩:=dm hG hs hN o x s m;obtain ⟨g1,g2,_⟩:=SQ hG hs hN o.on.id o.on.unit x s m;refine (Rr h hG.lenOK hG.okn o ho h1 h2 g1 g2 _ _ rfl).mono ?_;rintro e w' ⟨rfl,out',hd⟩;exact ⟨_,_,out',I',T',rfl,h3,h4,hd⟩

theorem Im {l:List (Int × Int)} {k:Nat} (hk:k<AW l*8):∃q,AN l (k:Int)=(q,true):=by
 rcases E9 l (k:Int) oo with ⟨h1,_⟩ | ⟨q,_,_,_,_,h5⟩
 . exfalso;rw [show (k:Int) / 8=((k / 8:Nat):Int) by omega,R4] at h1;unfold Sp at h1;rw [if_pos (by rw [EY];omega)] at h1;simp at h1
 . exact ⟨_,h5⟩
def CS (I:Img) (l:Lab):List ByteArray:=(List.range (AW l.ext*8)).map λ(i:Nat)=>I.cs (AN l.ext (i:Int)).1.toNat
theorem Z9 {D:Dev} {I:Img} {T:Tab} {n:Nat} (h:VGood D I T n) (sy ep:Int) {id unit:Int} {l:Lab} (hl:Ba T id unit=(l,true)):du D sy ep n id unit=(D,(AW l.ext:Int)*8,0):=by
 have h1:=h.label sy ep id unit;rw [hl,if_pos rfl] at h1;unfold du;rw [h1];simp
theorem cP {D:Dev} {I:Img} {T:Tab} {n:Nat} (h:VGood D I T n) (sy ep:Int) {id unit:Int} {l:Lab} (hl:Ba T id unit=(l,true)) (k:Nat) (hk:k<(CS I l).length):rdP D sy ep n id unit (k:Int)=(D,(CS I l)[k],0):=by
 have a:k<AW l.ext*8:=by unfold CS at hk;rw [fm,io] at hk;exact hk
 obtain ⟨q,hq⟩:=Im a;have h1:=(h.read sy ep id unit (k:Int) (by rw [hl]) q (by rw [hl];exact hq)).1;rw [h1]
 have h2:(CS I l)[k]? =some (I.cs q.toNat):=by
  unfold CS;rw [fo,ic a];simp only [Option.map_some,hq]
 rw [fg hk] at h2;injection h2 with h2;rw [h2]

def Fit (F:Dev) (I:Img) (i:Nat):Prop:=F.at (1+i / 32)=I.mapR (i / 32)/\F.at (131+i)=I.datR i
section
variable {F:Dev} {I:Img} {H:List Nat} (h:Sick F I H)
include h
theorem NN (k:Nat) (hk:k<32):(F.at (1+k)=I.mapR k->mapI F k=⟨AI (I.mapL k),nv (I.ms k),true⟩)/\(F.at (1+k)≠I.mapR k->(mapI F k).ok=false\/((mapI F k).ok=true/\(mapI F k).ver≠nv (I.ms k))):=by
 have a:=h.img.N;have b:=h.img.ms k;constructor
 . intro hm;unfold Go.Proofs.YtfklieeipokllaaGreat.mapI;rw [h.content,hm];unfold Img.mapR;rw [C8];unfold Img.mapL;rw [Zn]
 . intro hm;have hb:=((h.map k hk).resolve_left hm).2;unfold Go.Proofs.YtfklieeipokllaaGreat.mapI;rw [h.content];exact Vj hb oo
theorem S8 (k:Nat) (hk:k<32):fld (topI F).data k=nv (I.ms k):=by
 rw [h.topI];show fld (AI I.tops) k=_;unfold Img.tops;rw [ME _ _ hk]
theorem Lg (i:Nat) (hi:i<I.n):(Fit F I i->C4 F i=(I.cs i,0))/\(¬Fit F I i->(C4 F i).2=11\/(C4 F i).2=12):=by
 have hn:=h.img.n1;have hk:i / 32<32:=oo;have j:=h.img.N;have k:=h.img.vs i;obtain ⟨m1,m2⟩:=NN h (i / 32) hk;have c:=S8 h (i / 32) hk
 have d:fld (AI (I.mapL (i / 32))) (i % 32)=nv (I.vs i):=by
  unfold Img.mapL;rw [ME _ _ (ja _ oo)];unfold Img.mv;rw [show 32*(i / 32)+i % 32=i from oo,if_pos hi]
 have e:(topI F).ok=true:=by rw [h.topI]
 unfold C4;rw [if_neg (by rw [e];simp)];by_cases hm:F.at (1+i / 32)=I.mapR (i / 32)
 . have f:=m1 hm;rw [f,if_neg qs,if_neg (λh9=>h9 c.symm)];by_cases hd:F.at (131+i)=I.datR i
   . have g:datI F i=⟨I.cs i,nv (I.vs i),true⟩:=by
      unfold Go.Proofs.YtfklieeipokllaaGreat.datI;rw [h.content,hd];unfold Img.datR;rw [C8,Hw _ (h.img.cs i hi)]
     rw [g,if_neg qs,if_neg (λh9=>h9 d.symm)];exact ⟨λ_=>rfl,λh9=>absurd ⟨hm,hd⟩ h9⟩
   . have hb:(datI F i).ok=false\/((datI F i).ok=true/\(datI F i).ver≠nv (I.vs i)):=by
      have hb:=((h.dat i hi).resolve_left hd).2;unfold Go.Proofs.YtfklieeipokllaaGreat.datI;rw [h.content];exact Vj hb oo
     refine ⟨λh9=>absurd h9.2 hd,λ_=>?_⟩;rcases hb with hb | ⟨a,b⟩
     . rw [if_pos hb];exact .inl rfl
     . rw [if_neg (by rw [a];simp),if_pos (by show (datI F i).ver≠fld (AI (I.mapL (i / 32))) (i % 32);rw [d];exact b)];exact .inr rfl
 . refine ⟨λh9=>absurd h9.1 hm,λ_=>?_⟩;rcases m2 hm with hb | ⟨a,b⟩
   . rw [if_pos hb];exact .inl rfl
   . rw [if_neg (by rw [a];simp),if_pos (by rw [c];exact b)];exact .inr rfl
theorem Wd:∀l:List Int,(∀i∈l,0<=i/\i<(I.n:Int))->((∀i∈l,Fit F I i.toNat)->BM F (I.n:Int) l=0)/\((BM F (I.n:Int) l=0/\∀i∈l,Fit F I i.toNat)\/BM F (I.n:Int) l=11\/BM F (I.n:Int) l=12):=by
 intro l
 induction l with
 | nil=>intro _;exact ⟨λ_=>rfl,.inl ⟨rfl,λi hi=>by cases hi⟩⟩
 | cons i l ih=>
   intro hl;obtain ⟨h1,h2⟩:=hl i (gS ..);obtain ⟨g1,g2⟩:=ih λj hj=>hl j (gM _ hj);obtain ⟨q1,q2⟩:=Lg h i.toNat oo;unfold BM;rw [if_neg oo];by_cases hf:Fit F I i.toNat
   . rw [q1 hf,if_neg qs];refine ⟨λh9=>g1 λj hj=>h9 j (gM _ hj),?_⟩;rcases g2 with ⟨g3,g4⟩ | g3
     . exact .inl ⟨g3,λj hj=>by rcases ia.1 hj with rfl | hj;exact hf;exact g4 j hj⟩
     . exact .inr g3
   . have q3:=q2 hf;rw [if_pos (by rcases q3 with q3 | q3<;>rw [q3]<;>simp)];exact ⟨λh9=>absurd (h9 i (gS ..)) hf,.inr q3⟩
theorem Xp:∀l:List Nat,(∀k∈l,k<32)->Ea F l=0->∀k∈l,F.at (1+k)=I.mapR k:=by
 intro l
 induction l with
 | nil=>intro _ _ k hk;cases hk
 | cons j l ih=>
   intro hl h0 k hk;have hj:=hl j (gS ..);obtain ⟨_,m2⟩:=NN h j hj;unfold Ea at h0;by_cases h1:(mapI F j).ok=false
   . rw [if_pos h1] at h0;cases h0
   rw [if_neg h1] at h0;by_cases h2:(mapI F j).ver≠fld (topI F).data j
   . rw [if_pos h2] at h0;cases h0
   rw [if_neg h2] at h0;rcases ia.1 hk with rfl | hk
   . refine Decidable.byContradiction λh9=>?_;rcases m2 h9 with h8 | ⟨_,h8⟩
     . exact h1 h8
     . exact h2 (by rw [S8 h k hj];exact h8)
   . exact ih (λx hx=>hl x (gM _ hx)) h0 k hk
end
structure SickC (F G:Dev) (I J:Img) (H:List Nat) (ws:List (Int × ByteArray)):Prop where
 sick:Sick G J H
 fen:G.fen=F.fen
 fuse:G.fuse=none
 kept:∀i,i<I.n->Fit F I i->Fit G J i
 new:∀e∈ws,Fit G J e.1.toNat
theorem SG {D F:Dev} {b:Bool} {I:Img} {H:List Nat} {sy:Int} (h:Sick F I H) (hc:Calm F sy 0) (g:F.fuse=none) (y:finD D sy 0=(F,b,0)) (hl:D.st.length=F.st.length) (ws:List (Int × ByteArray)) (hN:I.N<1000):
 ∃G er,Ak D sy 0 ws=(G,er)/\((er≠0/\G=F)\/(er=0/\AU I.n ws=0/\SickC F G I (I.next ws) H ws)):=by
 have hn:D.st.length - 131=I.n:=by rw [hl,h.len];omega
 have z:(topI F).ok=true:=by rw [h.topI]
 have m:(topI F).ver=nv I.N:=by rw [h.topI]
 unfold Ak;rw [y,hn,if_neg qs];simp only;by_cases h0:AU I.n ws≠0
 . rw [if_pos (.inl h0)];exact ⟨_,_,rfl,.inl ⟨h0,rfl⟩⟩
 have d:AU I.n ws=0:=iL.1 h0;by_cases f:ws=[]
 . rw [if_pos (.inr f)];refine ⟨_,_,rfl,.inr ⟨d,d,?_⟩⟩;have hx:I.next ws=I:=if_pos f;rw [hx];exact ⟨h,rfl,g,λ_ _ h9=>h9,λe he=>by rw [f] at he;cases he⟩
 have ht:=Mu I ws d f oo;obtain ⟨c1,c2,c3⟩:=FM I.n ws d;have hx:I.next ws=I.upd (B3 I.n ws):=if_neg f;obtain ⟨S,hS⟩:∃S,B3 I.n ws=S:=⟨_,rfl⟩
 have A:∀e∈ws,∃x∈S,x.1=e.1.toNat:=λe he=>by
  have hb:=(c1 e he).2;refine ⟨(e.1.toNat,e.2),?_,rfl⟩;rw [<-hS];refine (Dg I.n ws _).2 ⟨by show e.1.toNat<I.n;omega,?_⟩;have hq:(ws.find? λx=>x.1==((e.1.toNat:Nat):Int))=some e:=by rw [show ((e.1.toNat:Nat):Int)=e.1 from oo];exact EJ c2 e he
  show (ws.find? λx=>x.1==((e.1.toNat:Nat):Int)).map (·.2)=_;rw [hq];rfl
 rw [hS] at ht hx ⊢;rw [if_neg (by simp [d,f]),if_neg (by rw [z];simp)];by_cases hm:Ea F (ksW S)≠0
 . rw [if_pos hm];exact ⟨_,_,rfl,.inl ⟨hm,rfl⟩⟩
 have B:=Xp h (ksW S) (λk hk=>((Br S k).1 hk).1) (iL.1 hm)
 have hv:(topI F).ver≠4294967295#32:=by
  rw [m];intro hq;have:=gJ BitVec.toNat hq;rw [C0 _ oo] at this;simp at this;omega
 rw [if_neg hm,if_neg hv,m,QH,Vy h.topI (λk hk=>(NN h k ((Br S k).1 hk).1).1 (B k hk)) ht];have he:=Qp h.img ht;rw [<-h.len] at he;obtain ⟨k1,k2,k3,k4⟩:=KZ (v:=nv (I.N+1)) h.ok he;have o:=(JX (v:=nv (I.N+1)) h.ok he).2.2.2;have c:=λi hi=>Vv (v:=nv (I.N+1)) h.ok he i hi;have j:=Px (v:=nv (I.N+1)) h.ok he 33;rw [if_pos rfl] at j;rw [NL he hc g h.pend];have p:=k4.fen.trans (k3.fen.trans (k2.fen.trans k1.fen));have q:=k4.fuse.trans (k3.fuse.trans (k2.fuse.trans (k1.fuse.trans g)));have r:=k4.failed.trans (k3.failed.trans (k2.failed.trans (k1.failed.trans h.live)));have l:=k4.pend.trans (k3.pend.trans (k2.pend.trans (k1.pend.trans h.pend)));have s:=k4.ok;obtain ⟨G,hG⟩:∃G,ph4 F (En (I.upd S) S) (nv (I.N+1))=G:=⟨_,rfl⟩;rw [hG] at o c j p q r l s ⊢;have hu:=YU ht;have C:G.content 33=G.at 33:=by unfold Dev.content;rw [l];rfl
 have t:∀k,k<32->F.at (1+k)=I.mapR k->G.at (1+k)=(I.upd S).mapR k:=λk hk hF=>by
  rw [c (1+k) oo];by_cases a:k∈ksW S
  . rw [hu.map k a];rfl
  . obtain ⟨g1,g2,_⟩:=hu.mapN k hk a;rw [g1,g2];exact hF
 have u:∀i,F.at (131+i)=I.datR i->G.at (131+i)=(I.upd S).datR i:=λi hF=>by
  rw [c (131+i) oo];by_cases a:∃e∈S,e.1=i
  . obtain ⟨e,he,rfl⟩:=a;rw [hu.dat e he];rfl
  . obtain ⟨g1,g2,_⟩:=hu.datN i (λe he hq=>a ⟨e,he,hq⟩);rw [g1,g2];exact hF
 have J:=h.img.n1;refine ⟨G,0,rfl,.inr ⟨rfl,d,?_⟩⟩;rw [hx];refine ⟨⟨s,Zw h.img ht,o.trans h.len,r,l,FI G (by rw [C,j]),?_,λk hk=>?_,λi hi=>?_⟩,p,q,λi hi h9=>⟨t _ oo h9.1,u i h9.2⟩,λe hew=>?_⟩
 . rw [c 0 oo,hu.top];rfl
 . rcases h.map k hk with h9 | ⟨h9,h8⟩
   . exact .inl (t k hk h9)
   . rw [c (1+k) oo];by_cases a:k∈ksW S
     . rw [hu.map k a];exact .inl rfl
     . obtain ⟨g1,g2,g3⟩:=hu.mapN k hk a;rw [g1,g3];exact .inr ⟨h9,h8⟩
 . rcases h.dat i hi with h9 | ⟨h9,h8⟩
   . exact .inl (u i h9)
   . rw [c (131+i) oo];by_cases a:∃e∈S,e.1=i
     . obtain ⟨e,he,rfl⟩:=a;rw [hu.dat e he];exact .inl rfl
     . obtain ⟨g1,g2,g3⟩:=hu.datN i (λe he hq=>a ⟨e,he,hq⟩);rw [g1,g3];exact .inr ⟨h9,h8⟩
 . obtain ⟨x,w,E⟩:=A e hew;have hb:=(c1 e hew).2;rw [<-E];refine ⟨?_,?_⟩
   . rw [c (1+x.1 / 32) oo,hu.map _ ((Br S _).2 ⟨oo,x,w,rfl⟩)];rfl
   . rw [c (131+x.1) oo,hu.dat x w];rfl
structure SickV (D:Dev) (I:Img) (T:Tab) (n:Nat) (F:Dev) (b:Bool) (H:List Nat):Prop where
 fin:finD D 2 0=(F,b,0)
 sick:Sick F I H
 fen:F.fen=λ_=>0
 fuse:F.fuse=none
 len:D.st.length=131+I.n
 pend:D.pend=[]
 size:I.n=8*n
 tr:T.tracks=(n:Int)
 good:GoodT T
 tab:∀i (h:i<(AP T).length),I.cs i=(AP T)[i]
section
variable {D:Dev} {I:Img} {T:Tab} {n:Nat} {F:Dev} {b:Bool} {H:List Nat} (h:SickV D I T n F b H)
include h
theorem SickV.calm:Calm F 2 0:=⟨h.sick.ok,h.sick.live,qd,by rw [h.fen];show ¬(0:Int)<0;omega⟩
theorem SickV.okn:okT (n:Int)=true:=by rw [<-h.tr];exact h.good.tr
theorem SickV.next:SickV F I T n F false H:=⟨h.sick.finD 2 0,h.sick,h.fen,h.fuse,h.sick.len,h.sick.pend,h.size,h.tr,h.good,h.tab⟩
theorem SickV.tabs:(AP T).length=(tsI n).length/\(AP T).length<=8*n:=by
 have h1:=(Cn h.good).1;have h2:=DQ (n:Int);rw [h.tr] at h1;obtain ⟨h3,h4⟩:=B0 h.okn;have h5:ttS (n:Int)<=(n:Int):=by unfold ttS;rw [if_pos h.okn];omega
 rw [Km,h1];exact ⟨rfl,oo⟩
theorem SickV.reads (l:List Int) (hl:∀i∈l,0<=i/\i<(I.n:Int)):∃er ss,CQ D 2 0 l=(F,ss,er)/\((∀i∈l,Fit F I i.toNat)->er=0)/\((er=0/\(∀i∈l,Fit F I i.toNat)/\ss=l.map λi=>I.cs i.toNat)\/er=11\/er=12):=by
 obtain ⟨g1,g2⟩:=Wd h.sick l hl;unfold CQ;rw [h.fin,if_neg qs];simp only;rw [show (D.st.length:Int) - 131=(I.n:Int) from by rw [h.len];omega];refine ⟨_,_,rfl,g1,?_⟩;rcases g2 with ⟨g3,g4⟩ | g3
 . refine .inl ⟨g3,g4,?_⟩;rw [if_pos g3];unfold EF;apply iE;intro i hi;rw [(Lg h.sick i.toNat (by have:=hl i hi;omega)).1 (g4 i hi)]
 . exact .inr g3
def J0 (F:Dev) (I:Img) (T:Tab):Prop:=∀i,i<(AP T).length->Fit F I i
theorem SickV.table:∃er U,B9 D 2 0 n=(F,U,er)/\(J0 F I T->er=0)/\((er=0/\U=T/\J0 F I T)\/er=11\/er=12):=by
 obtain ⟨h1,h2⟩:=h.tabs;have d:=h.size
 have a:∀i,i∈tsI n↔∃j:Nat,j<(AP T).length/\(j:Int)=i:=λi=>by
  unfold tsI IB;rw [Km] at h1;rw [ft];exact ⟨λ⟨j,hj,hq⟩=>⟨j,by have:=gU.1 hj;omega,hq⟩,λ⟨j,hj,hq⟩=>⟨j,gU.2 oo,hq⟩⟩
 obtain ⟨er,ss,hr,g1,g2⟩:=h.reads (tsI n) (λi hi=>by obtain ⟨j,hj,rfl⟩:=(a i).1 hi;omega);have b:J0 F I T↔∀i∈tsI n,Fit F I i.toNat:=⟨λh9 i hi=>by obtain ⟨j,hj,rfl⟩:=(a i).1 hi;exact h9 j hj,λh9 i hi=>h9 (i:Int) ((a _).2 ⟨i,hi,rfl⟩)⟩;unfold B9;rw [hr];rcases g2 with ⟨rfl,g3,g4⟩ | g2
 . have c:ss=AP T:=by
    rw [g4];apply jY
    . rw [fm,h1]
    . intro i h3 h4;rw [jX];unfold tsI IB;rw [jX,List.getElem_range,gQ];exact h.tab i h4
   rw [c,Qs ⟨(AX T).2 h.good,rfl⟩ h.tr];exact ⟨0,T,rfl,λ_=>rfl,.inl ⟨rfl,rfl,b.2 g3⟩⟩
 . have h0:er≠0:=by rcases g2 with g2 | g2<;>rw [g2]<;>simp
   rw [VZ h0];exact ⟨er,Ca,rfl,λh9=>g1 (b.1 h9),.inr g2⟩
theorem SickV.label {id unit:Int} {l:Lab} (hl:Ba T id unit=(l,true)):∃er u,DP D 2 0 n id unit=(F,u,er)/\(J0 F I T->er=0)/\((er=0/\u=l/\J0 F I T)\/er=11\/er=12):=by
 obtain ⟨er,U,hr,g1,g2⟩:=h.table;unfold DP;rw [hr];simp only;rcases g2 with ⟨rfl,rfl,g3⟩ | g2
 . rw [if_neg qs,hl];exact ⟨0,l,rfl,λ_=>rfl,.inl ⟨rfl,rfl,g3⟩⟩
 . rw [if_pos (by rcases g2 with g2 | g2<;>rw [g2]<;>simp)];exact ⟨er,BH,rfl,g1,.inr g2⟩
theorem SickV.place {id unit:Int} {l:Lab} (hl:Ba T id unit=(l,true)) {i q:Int} (hq:AN l.ext i=(q,true)):0<=q/\q<(I.n:Int):=by
 obtain ⟨k,hk,c,h0⟩:=Fv hq;have h4:=Fl h.good id unit k (by rw [hl];exact hk);have h5:=DQ T.tracks;have a:=h.tr;have b:=h.size;omega
theorem SickV.read {id unit:Int} {l:Lab} (hl:Ba T id unit=(l,true)) {i q:Int} (hq:AN l.ext i=(q,true)):
 ∃er d,rdP D 2 0 n id unit i=(F,d,er)/\(J0 F I T->Fit F I q.toNat->er=0)/\((er=0/\d=I.cs q.toNat)\/((er=11\/er=12)/\d=Dt)):=by
 obtain ⟨er,u,hr,g1,g2⟩:=h.label hl;obtain ⟨p1,p2⟩:=h.place hl hq;unfold rdP;rw [hr];simp only;rcases g2 with ⟨rfl,rfl,g3⟩ | g2
 . rw [if_neg qs,hq,if_neg qs];unfold Lt;rw [h.next.fin,if_neg qs];simp only;rw [if_neg (by rw [h.sick.len];omega)];obtain ⟨q1,q2⟩:=Lg h.sick q.toNat oo;by_cases hf:Fit F I q.toNat
   . rw [q1 hf,if_pos rfl];exact ⟨0,_,rfl,λ_ _=>rfl,.inl ⟨rfl,rfl⟩⟩
   . have q3:=q2 hf;rw [if_neg (by rcases q3 with q3 | q3<;>rw [q3]<;>simp)];exact ⟨_,_,rfl,λ_ h9=>absurd h9 hf,.inr ⟨q3,rfl⟩⟩
 . rw [if_pos (by rcases g2 with g2 | g2<;>rw [g2]<;>simp)];exact ⟨er,Dt,rfl,λh9 _=>g1 h9,.inr ⟨g2,rfl⟩⟩
end

theorem XB {l:Lab} {ws:List (Int × ByteArray)} (h:(AQ l ws).2=0):(AQ l ws).1=(ws.map λe=>((AN l.ext e.1).1,e.2))/\∀e∈ws,(AN l.ext e.1).2=true:=by
 unfold AQ at h ⊢;split
 . rename_i h1;rw [if_pos h1] at h;cases h
 rename_i h1;rw [if_neg h1] at h;split
 . rename_i h2;rw [if_pos h2] at h;cases h
 rename_i h2;refine ⟨rfl,λe he=>?_⟩;rw [ie,iK] at h2;simpa using h2 e he
theorem RG:∀(ls:List Lab) (l:Lab),l∈ls->∀i∈BP l.ext,i∈BP (Bo ls)
 | [],_,h,_,_=>by cases h
 | x::ls,l,h,i,hi=>by
   rw [Ex,CY];rcases ia.1 h with rfl | h
   . exact iH _ hi
   . exact gw _ (RG ls l h i hi)
theorem LL:∀ls:List Lab,(BP (Bo ls)).Nodup->∀(j k:Nat) (hj:j<ls.length) (hk:k<ls.length),j<k->∀i∈BP ls[j].ext,i ∉ BP ls[k].ext
 | [],_,j,_,hj,_,_,_,_=>by cases hj
 | x::ls,h,j,k,hj,hk,hjk,i,hi=>by
   rw [Ex,CY,iZ] at h;obtain ⟨k,rfl⟩:∃q,k=q+1:=⟨k - 1,oo⟩;rw [iJ];cases j with
   | zero=>
     intro h9;exact h.2.2 i hi i (RG ls _ (fq _) i h9) rfl
   | succ j=>exact LL ls h.2.1 j k (by simpa using hj) (by simpa using hk) oo i (by rw [iJ] at hi;exact hi)
theorem R3 {T:Tab} (hg:GoodT T) {id unit id2 unit2:Int} {l l2:Lab} (hl:Ba T id unit=(l,true)) (d:Ba T id2 unit2=(l2,true)) (c:(id2,unit2)≠(id,unit)):∀i∈BP l.ext,i ∉ BP l2.ext:=by
 have a:∀id unit l,Ba T id unit=(l,true)->∃(k:Nat) (hk:k<T.labels.length),l=T.labels[k]/\l.id=id/\l.unit=unit:=λid unit l h=>by
  rcases Fw T id unit with ⟨k,hk,_,h2,h3⟩ | ⟨_,h2,_⟩
  . rw [h2] at h;injection h with h _;obtain ⟨_,h5,h6⟩:=(FL _ _ _).1 h3;rw [h] at h5 h6;exact ⟨k,hk,h.symm,h5,h6⟩
  . rw [h2] at h;cases h
 obtain ⟨k,hk,e1,e2,e3⟩:=a id unit l hl;obtain ⟨k2,b,f1,f2,f3⟩:=a id2 unit2 l2 d;rcases Nat.lt_trichotomy k k2 with h9 | h9 | h9
 . rw [e1,f1];exact LL T.labels hg.seq k k2 hk b h9
 . subst h9;exact absurd (by rw [<-e2,<-e3,<-f2,<-f3,e1,f1]) c
 . intro i hi h8;rw [e1] at hi;rw [f1] at h8;exact LL T.labels hg.seq k2 k b hk h9 i h8 hi
theorem Ox {T:Tab} (hg:GoodT T):(Lw T).Nodup/\∀r∈Lw T,(∃l,Ba T r.1 r.2=(l,true))/\okI r.1/\okI r.2:=by
 have hp:=GO (Gc T.labels);constructor
 . refine hp.symm.nodup ?_;have h:=hg.keys;unfold Bz at h;unfold Gc;have e:((T.labels.filter λl=>!emL l).map GR)=((T.labels.filter λl=>!emL l).map λl=>(l.id,l.unit)).map λr=>(r.1,decide (0<r.2)):=by rw [iq];rfl
   rw [e] at h;rw [Nodup,jL] at h;exact h.imp λhne e=>hne (by rw [e])
 . intro r hr;have a:=hp.subset hr;unfold Gc at a;obtain ⟨l,hl,rfl⟩:=ft.1 a;obtain ⟨h1,h2⟩:=iM.1 hl
   have hv:BO l T.tracks=true:=by
    rcases hg.ok l h1 with h9 | h9
    . rw [h9] at h2;cases h2
    . exact h9
   have b:=gV (DB l T.tracks hv).2.1;refine ⟨?_,by unfold okI;show _<=l.id/\l.id<=_;omega,by unfold okI;show _<=l.unit/\l.unit<=_;omega⟩;rcases Fw T l.id l.unit with ⟨k,hk,_,h4,_⟩ | ⟨_,_,h4⟩
   . exact ⟨_,h4⟩
   . have:=h4 l h1;rw [(FL l.id l.unit l).2 ⟨oo,rfl,rfl⟩] at this;cases this
section
variable {D:Dev} {I:Img} {T:Tab} {n:Nat} {F:Dev} {b:Bool} {H:List Nat} (h:SickV D I T n F b H)
include h
theorem SickV.write {id unit:Int} {l:Lab} (hl:Ba T id unit=(l,true)) (ws:List (Int × ByteArray)) (hN:I.N<1000):
 ∃G er,wrP D 2 0 n id unit ws=(G,er)/\((er≠0/\G=F)\/(er=0/\∃J,J.N<=I.N+1/\SickV G J T n G false H/\(∀e∈ws,rdP G 2 0 n id unit e.1=(G,e.2,0))/\∀id2 unit2 l2,Ba T id2 unit2=(l2,true)->(id2,unit2)≠(id,unit)->CS J l2=CS I l2)):=by
 obtain ⟨er,u,hr,g1,g2⟩:=h.label hl;unfold wrP;rw [hr];simp only;rcases g2 with ⟨rfl,rfl,g3⟩ | g2;rotate_left
 . have h0:er≠0:=by rcases g2 with g2 | g2<;>rw [g2]<;>simp
   rw [if_pos h0];exact ⟨F,er,rfl,.inl ⟨h0,rfl⟩⟩
 rw [if_neg qs];by_cases hp:(AQ u ws).2≠0
 . rw [if_pos hp];exact ⟨F,_,rfl,.inl ⟨hp,rfl⟩⟩
 rw [if_neg hp];obtain ⟨p1,p2⟩:=XB (iL.1 hp);obtain ⟨G,er,hc,o⟩:=SG h.sick h.calm h.fuse h.next.fin rfl (AQ u ws).1 hN;rw [hc];rcases o with ⟨h0,rfl⟩ | ⟨rfl,hck,hs⟩
 . exact ⟨G,er,rfl,.inl ⟨h0,rfl⟩⟩
 obtain ⟨c1,c2,c3⟩:=FM I.n _ hck;obtain ⟨t1,t2⟩:=h.tabs;have s:=h.size;have c:=λe he=>(Gp h.good id unit ws e (by rw [hl];exact he)).1;obtain ⟨ps,p⟩:∃ps,(AQ u ws).1=ps:=⟨_,rfl⟩;have f:=λ(e:Int × ByteArray) (he:e∈(AQ u ws).1)=>(PQ e he).2;rw [p] at hc hs hck c1 c2 c3 p1 c f
 have hV:SickV G (I.next ps) T n G false H:=⟨hs.sick.finD 2 0,hs.sick,by rw [hs.fen];exact h.fen,hs.fuse,hs.sick.len,hs.sick.pend,by rw [Tn];exact h.size,h.tr,h.good,λi hi=>by
  rw [I7 i oo,G9 (λe he=>by have:=c e he;omega)]
  exact h.tab i hi⟩
 have g:J0 G (I.next ps) T:=λi hi=>hs.kept i oo (g3 i hi);refine ⟨G,0,rfl,.inr ⟨rfl,_,by rw [LX];split<;>omega,hV,λe he=>?_,λid2 unit2 l2 hl2 hne=>?_⟩⟩
 . have hq:AN u.ext e.1=((AN u.ext e.1).1,true):=by rw [<-p2 e he]
   have b:((AN u.ext e.1).1,e.2)∈ps:=by rw [p1];exact ft.2 ⟨e,he,rfl⟩
   obtain ⟨er,d,hr,q1,q2⟩:=hV.read hl hq;have j:=q1 g (hs.new _ b);subst j;rw [hr];rcases q2 with ⟨_,q3⟩ | ⟨q3,_⟩
   . have hb:=(c1 _ b).2;simp only at hb;rw [q3,I7 _ oo]
     have hv:JN ps (AN u.ext e.1).1.toNat=some e.2:=by
      unfold JN;rw [show (((AN u.ext e.1).1.toNat:Nat):Int)=(AN u.ext e.1).1 from oo];have:=EJ c2 _ b;simp only at this;rw [this];rfl
     rw [hv];rfl
   . rcases q3 with q3 | q3<;>cases q3
 . unfold CS;apply iE;intro i hi;have m:=gU.1 hi;obtain ⟨q,hq⟩:=Im m;have t:=h.place hl2 hq;rw [hq];simp only;rw [I7 _ oo,G9 (λe he h9=>?_)]
   . rfl
   . obtain ⟨a,_,_,h8⟩:=f e he;obtain ⟨k,hk,v,w⟩:=Fv h8;obtain ⟨k2,r,x,_⟩:=Fv hq;have:k=k2:=oo;subst this;exact R3 h.good hl hl2 hne k hk r
end

end
end Go.Proofs.YtfklieeipokllaaGreat
