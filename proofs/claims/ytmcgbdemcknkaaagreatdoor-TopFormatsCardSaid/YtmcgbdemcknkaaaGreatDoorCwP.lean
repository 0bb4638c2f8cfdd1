/- Parts of the proof (packed), 16. -/
import Derived.Test.YtmcgbdemcknkaaaGreatDoorCwM
namespace Go.Proofs.YtmcgbdemcknkaaaGreatDoor
set_option linter.all false
set_option maxRecDepth 100000
set_option maxHeartbeats 16000000
open List
section
open Go.RowKit
def Ho (l:List ByteArray):ByteArray:=l.foldl (·++·) ⟨#[]⟩
theorem Y9:Ho []=⟨#[]⟩:=rfl
theorem Zg (l:List ByteArray):∀a:ByteArray,l.foldl (·++·) a=a++Ho l:=by
 induction l with
 | nil=>intro a;exact ByteArray.append_empty.symm
 | cons x l ih=>
   intro a;show l.foldl (·++·) (a++x)=a++l.foldl (·++·) (⟨#[]⟩++x);rw [ih (a++x),ih (⟨#[]⟩++x),jq];congr 2
theorem JG (x:ByteArray) (l:List ByteArray):Ho (x::l)=x++Ho l:=by
 show l.foldl (·++·) (⟨#[]⟩++x)=_;rw [Zg];congr 1
theorem Px (l:List ByteArray) (x:ByteArray):Ho (l++[x])=Ho l++x:=by unfold Ho;rw [jc];rfl
theorem Xp (m:Nat) (l:List ByteArray) (h:∀x∈l,x.size<=m):(Ho l).size<=m*l.length:=by
 induction l with
 | nil=>exact jL _
 | cons x l ih=>
   have h1:=ih (λy hy=>h y (iz _ hy));have h2:=h x (jA ..);rw [JG,io,jf,Nat.mul_add];omega
theorem bK (x:ByteArray) (h:x.size=128):D7 x=[x]:=by
 unfold D7;rw [h];simp only [show 128 / 128=1 from rfl,range_one,map_cons,map_nil,Nat.mul_zero,kF];rw [<-h];simp
theorem eJ (l:List ByteArray) (h:∀x∈l,x.size=128):D7 (Ho l)=l:=by
 induction l with
 | nil=>rfl
 | cons x l ih=>
   have hx:=h x (jA ..);rw [JG,SR _ _ (by rw [hx]),ih (λy hy=>h y (iz _ hy)),bK x hx];rfl
theorem bW (s:ByteArray):∀x∈D7 s,x.size=128:=by
 intro x hx;obtain ⟨i,hi,rfl⟩:=List.getElem_of_mem hx;rw [Bu] at hi;rw [Fr,i0];omega
theorem ao (s:ByteArray):∀k,128*k<=s.size->Ho ((D7 s).take k)=s.extract 0 (128*k):=by
 intro k
 induction k with
 | zero=>intro _;simp [Ho];rfl
 | succ k ih=>
   intro hk;rw [Pe s k oo,Px,ih oo];rw [ByteArray.extract_append_extract];congr 1<;>omega
theorem VV (s:ByteArray) (h:s.size % 128=0):Ho (D7 s)=s:=by
 have h1:=ao s (s.size / 128) oo;rw [i8 (by rw [Bu];omega)] at h1;rw [h1];have:128*(s.size / 128)=s.size:=oo;rw [this];simp
def Ce (ss:List ByteArray) (n:Nat):ByteArray:=Ho ((ss.drop (8*n)).take 8)
theorem Kr (m:Nat) (ss:List ByteArray) (n:Nat) (h:∀x∈ss,x.size<=m):(Ce ss n).size<=m*8:=by
 unfold Ce;have h1:=Xp m ((ss.drop (8*n)).take 8) (λx hx=>h x (mem_of_mem_drop (jw hx)));have h2:((ss.drop (8*n)).take 8).length<=8:=by rw [je];omega
 exact ij h1 (Nat.mul_le_mul_left m h2)
theorem Oo (T:Tab) (hv:Bf T=true):∀d k,k+d=T.labels.length->∃R,D7 (Em T T.labels.length)=D7 (Em T k)++R:=by
 intro d
 induction d with
 | zero=>intro k hk;exact ⟨[],by rw [append_nil];congr 2;omega⟩
 | succ d ih=>
   intro k hk;obtain ⟨R,hR⟩:=ih (k+1) oo;rw [hR,Rh T hv k oo,jK];exact ⟨_,rfl⟩
theorem Dh (T:Tab) (hv:Bf T=true) (ss:List ByteArray) (h:AQ T=ss):
 ss.length=8*(T.labels.length+1)/\(∀x∈ss,x.size=128)/\Ce ss 0=CJ T.name T.tracks/\∀k (hk:k<T.labels.length),Ce ss (k+1)=Cz T.labels[k] T.tracks:=by
 unfold AQ at h;rw [if_pos hv] at h;subst h;refine ⟨by rw [Bu,G2 T hv _ (iX _)];omega,bW _,?_,λk hk=>?_⟩
 . obtain ⟨R,hR⟩:=Oo T hv T.labels.length 0 oo;have h1:=Pz T hv;unfold Ce;rw [hR,Fu,Nat.mul_zero,drop_zero,take_append_of_le_length (by rw [Bu,h1];decide),i8 (by rw [Bu,h1];decide),VV _ (by rw [h1])]
 . obtain ⟨R,hR⟩:=Oo T hv (T.labels.length - (k+1)) (k+1) oo;have h1:=G2 T hv k oo;have h2:=NX T.tracks ((Af T).1 hv).tr T.labels[k] (((Af T).1 hv).ok _ (ib hk));unfold Ce;rw [hR,Rh T hv k hk,jK,drop_append_of_le_length (by rw [Bu,h1];omega),drop_of_length_le (by rw [Bu,h1];omega),nil_append];rw [take_append_of_le_length (by rw [Bu,h2];decide),i8 (by rw [Bu,h2];decide),VV _ (by rw [h2])]
theorem Xg (n:ByteArray) (t:Int) (hn:Cn n=true) (ht:okT t=true):E7 (CJ n t)=(n,t,0):=by
 have hp:JQ n:=jC hn;have hb:=Ck ht;have hl:n.data.toList.length=n.size:=jP
 have e0:CJ n t=⟨(enc n.data.toList.length++(n.data.toList++(enc t.toNat++List.replicate (1024 - (eB n.size++n++eB t.toNat).size) 0))).toArray⟩:=by
  unfold CJ;rw [if_pos ⟨hn,ht⟩];apply GA;unfold DF FL;rw [hl];simp only [ByteArray.data_append,Array.toList_append,Array.toList_replicate,jK];rfl
 have q1:=(ix hdN e0).trans (Mm n.data.toList _ 8 (by have:=hp.2.1;omega) (by have:=hp.2.1;omega));have q2:hdT (CJ n t)=BR (hdN (CJ n t)).2.1 (hdN (CJ n t)).2.2 128:=rfl;rw [q1] at q2;have q2:=q2.trans (Eb t.toNat _ 128 oo oo);have hN:(hdN (CJ n t)).1=n:=by rw [q1]
 have hT:((hdT (CJ n t)).1:Int)=t:=by rw [q2];exact kC oo
 have hE:hdE (CJ n t)=CJ n t:=by unfold hdE;rw [hN,hT]
 have hz:CJ n t≠⟨#[]⟩:=λe=>by
  have h1:(CJ n t).size=1024:=by
   unfold CJ;rw [if_pos ⟨hn,ht⟩];refine Fq _ _ ?_;have:=hp.2.1;have z1:=BG n.size;have z2:=BG t.toNat;rw [io,io];omega
  rw [e] at h1;exact absurd h1 qd
 unfold E7;rw [hE,if_neg (λh=>h.elim hz (λh=>h rfl)),hN,hT]
theorem Z8 (l:Lab) (t:Int) (ht:okT t=true) (h:emL l=true\/BZ l t=true):Dq (Cz l t) t=(l,0):=by
 rcases h with h | h
 . rw [(I8 l).1 h];have e1:Cz CN t=DF 1024 ⟨#[]⟩:=by unfold Cz;rw [if_pos ⟨ht,(J2 _ _).2 rfl⟩]
   have e2:(DF 1024 ⟨#[]⟩).size=1024:=Fq _ _ qd;unfold Dq;rw [e1,if_neg (by rw [ht,e2];simp),if_pos rfl]
 . exact RW l t h (O0 l t h)
def SecOf (ss:List ByteArray) (T:Tab):Prop:=Bf T=true/\AQ T=ss
theorem SecOf.head {ss:List ByteArray} {T:Tab} (h:SecOf ss T):E7 (Ce ss 0)=(T.name,T.tracks,0):=by
 have hg:=(Af T).1 h.1;rw [(Dh T h.1 ss h.2).2.2.1,Xg _ _ hg.nm hg.tr]
theorem SecOf.lab {ss:List ByteArray} {T:Tab} (h:SecOf ss T) (k:Nat) (hk:k<T.labels.length):Dq (Ce ss (k+1)) T.tracks=(T.labels[k],0):=by
 have hg:=(Af T).1 h.1;rw [(Dh T h.1 ss h.2).2.2.2 k hk,Z8 _ _ hg.tr (hg.ok _ (ib hk))]
theorem SecOf.unique {ss:List ByteArray} {T U:Tab} (h:SecOf ss T) (g:SecOf ss U):T=U:=by
 have e:=h.head.symm.trans g.head;injection e with e1 e2;injection e2 with e2 e3
 have hl:T.labels.length=U.labels.length:=by
  have g1:=(Dh T h.1 ss h.2).1;have g2:=(Dh U g.1 ss g.2).1;omega
 have hL:T.labels=U.labels:=by
  refine kR hl (λk h1 h2=>?_);have p1:=h.lab k h1;have p2:=g.lab k h2;rw [e2] at p1;exact ix Prod.fst (p1.symm.trans p2)
 cases T;cases U;simp only at e1 e2 hL;rw [e1,e2,hL]
def LdS (ss:List ByteArray) (T:Tab) (er:Int):Prop:=(SecOf ss T/\er=0)\/((∀U,¬SecOf ss U)/\T=C2/\er=11)

theorem cH (a b:List ByteArray):Ho (a++b)=Ho a++Ho b:=by
 induction a with
 | nil=>exact ByteArray.empty_append.symm
 | cons x a ih=>rw [cons_append,JG,JG,ih,jq]
def IP (ss:List ByteArray) (k:Nat):List ByteArray:=(List.range ((k+7) / 8)).map λn=>Ce (ss.take k) n
def Fb (ss:List ByteArray) (k:Nat):List ByteArray:=(List.range (k / 8+1)).map λn=>Ce (ss.take k) n
theorem Jy (ss:List ByteArray) (k:Nat):(IP ss k).length=(k+7) / 8:=by unfold IP;simp
theorem Ij (ss:List ByteArray) (k:Nat):(Fb ss k).length=k / 8+1:=by unfold Fb;simp
theorem SM (ss:List ByteArray) (k i:Nat) (h:i<(IP ss k).length):(IP ss k)[i]=Ce (ss.take k) i:=by simp [IP]
theorem Su (ss:List ByteArray) (k i:Nat) (h:i<(Fb ss k).length):(Fb ss k)[i]=Ce (ss.take k) i:=by simp [Fb]
theorem Gj (ss:List ByteArray) (k n:Nat):Ce (ss.take k) n=Ho ((ss.drop (8*n)).take (min 8 (k - 8*n))):=by
 unfold Ce;rw [drop_take,take_take]
theorem ar (ss:List ByteArray) (k:Nat) (h:k % 8=0):Fb ss k=IP ss k++[⟨#[]⟩]:=by
 unfold Fb IP;have e:(k+7) / 8=k / 8:=oo;rw [e,kP,il,map_cons,map_nil,Gj];have e2:min 8 (k - 8*(k / 8))=0:=oo;rw [e2,take_zero,Y9]
theorem cQ (ss:List ByteArray) (k:Nat) (h:¬k % 8=0):Fb ss k=IP ss k:=by
 unfold Fb IP;have e:(k+7) / 8=k / 8+1:=oo;rw [e]
theorem PD (ss:List ByteArray) (k:Nat) (hk:k<ss.length) (h:k / 8<(Fb ss k).length):IP ss (k+1)=(Fb ss k).set (k / 8) ((Fb ss k)[k / 8]++ss[k]):=by
 refine kR (by rw [length_set,Jy,Ij];omega) (λi h1 h2=>?_);rw [Jy] at h1;rw [List.getElem_set];by_cases hi:k / 8=i
 . subst hi;rw [if_pos rfl];rw [SM,Su,Gj,Gj];have e1:min 8 (k+1 - 8*(k / 8))=(k - 8*(k / 8))+1:=oo;have e2:min 8 (k - 8*(k / 8))=k - 8*(k / 8):=oo;rw [e1,e2,ic (by rw [length_drop];omega),Px,getElem_drop];congr 2;omega
 . rw [if_neg hi];rw [SM,Su,Gj,Gj];have e1:min 8 (k+1 - 8*i)=8:=oo;have e2:min 8 (k - 8*i)=8:=oo;rw [e1,e2]
theorem ai (ss:List ByteArray) (m:Nat) (h:ss.length=8*m):IP ss ss.length=(List.range m).map (Ce ss):=by
 unfold IP;rw [j1];congr 2;omega
theorem Pb (ss:List ByteArray) (k:Nat) (h:∀x∈ss,x.size<=1000):∀y∈Fb ss k,y.size<=8000:=by
 intro y hy;unfold Fb at hy;obtain ⟨n,_,rfl⟩:=ie.1 hy;exact Kr 1000 _ n (λx hx=>h x (jw hx))
theorem Zq (ss:List ByteArray) (n:ByteArray) (t:Int) (ls:List Lab) (hh:CJ n t=Ce ss 0) (hd:∀k (hk:k<ls.length),Cz ls[k] t=Ce ss (k+1)):
 ∀k,k<=ls.length->Em ⟨n,t,ls⟩ k=Ho (ss.take (8*(k+1))):=by
 intro k
 induction k with
 | zero=>intro _;rw [Fu];show CJ n t=_;rw [hh];unfold Ce;simp
 | succ k ih=>
   intro hk;rw [F9 ⟨n,t,ls⟩ k hk,ih oo];show _++Cz ls[k] t=_;rw [hd k hk];unfold Ce;rw [<-cH];congr 1;have e:8*(k+1+1)=8*(k+1)+8:=oo;rw [e,take_add]
theorem Vx (ss:List ByteArray) (n:ByteArray) (t:Int) (ls:List Lab) (a:∀x∈ss,x.size=128) (b:ss.length=8*(ls.length+1)) (hh:E7 (Ce ss 0)=(n,t,0))
 (hd:∀k (hk:k<ls.length),Dq (Ce ss (k+1)) t=(ls[k],0)) (hv:Bf ⟨n,t,ls⟩=true):SecOf ss ⟨n,t,ls⟩:=by
 refine ⟨hv,?_⟩
 have h1:CJ n t=Ce ss 0:=by
  rcases Lh (Ce ss 0) with h | ⟨n',t',h,g,_⟩
  . rw [hh] at h;exact absurd (ix (λx=>x.2.2) h) (by decide:¬((0:Int)=11))
  . rw [hh] at h;injection h with h2 h3;injection h3 with h3 _;rw [h2,h3];exact g
 have h2:∀k (hk:k<ls.length),Cz ls[k] t=Ce ss (k+1):=λk hk=>by
  rcases OB (Ce ss (k+1)) t with ⟨_,h⟩ | h
  . rw [hd k hk] at h;exact h
  . rw [hd k hk] at h;exact absurd (ix (λx=>x.2) h) (by decide:¬((0:Int)=11))
 unfold AQ;rw [if_pos hv,Zq ss n t ls h1 h2 _ (iX _)];show D7 (Ho (ss.take (8*(ls.length+1))))=ss;rw [<-b,j1,eJ ss a]
theorem SecOf.is {ss:List ByteArray} {U:Tab} (h:SecOf ss U) {n:ByteArray} {t:Int} {ls:List Lab} (hh:E7 (Ce ss 0)=(n,t,0)) (hl:(ls.length:Int)=Ca t)
 (hd:∀k (hk:k<ls.length),Dq (Ce ss (k+1)) t=(ls[k],0)):U=⟨n,t,ls⟩:=by
 have e:=h.head.symm.trans hh;injection e with e1 e2;injection e2 with e2 e3;have hU:=((Af U).1 h.1).len;rw [e2] at hU;have a:U.labels.length=ls.length:=oo
 have hL:U.labels=ls:=by
  refine kR a (λk h1 h2=>?_);have p1:=h.lab k h1;rw [e2] at p1;exact ix Prod.fst (p1.symm.trans (hd k h2))
 cases U;simp only at e1 e2 hL;rw [e1,e2,hL]
theorem LdS.no {ss:List ByteArray} (h:∀U,SecOf ss U->False):LdS ss C2 11:=.inr ⟨h,rfl,rfl⟩
theorem fP (ss:List ByteArray) (k:Nat) (hk:k<ss.length) (h:¬ss[k].size=128):LdS ss C2 11:=LdS.no λU hU=>h ((Dh U hU.1 ss hU.2).2.1 _ (ib hk))
theorem aQ (ss:List ByteArray) (h:ss.length=0\/¬ss.length % 8=0):LdS ss C2 11:=LdS.no λU hU=>by have:=(Dh U hU.1 ss hU.2).1;omega
theorem dj (ss:List ByteArray) (h:E7 (Ce ss 0)=(⟨#[]⟩,0,11)):LdS ss C2 11:=LdS.no λU hU=>by
 have e:=hU.head;rw [h] at e;exact absurd (ix (λx=>x.2.2) e) (by decide:¬((11:Int)=0))
theorem PP (U:Tab) (h:Bf U=true):(U.labels.length:Int)+1=ttS U.tracks:=by
 have h1:=((Af U).1 h).len;have h2:=((Af U).1 h).tr;have h3:=Ck h2;unfold Ca at h1;unfold ttS at h1 ⊢;rw [if_pos h2] at h1 ⊢;omega
theorem ZX (ss:List ByteArray) (n:ByteArray) (t:Int) (hh:E7 (Ce ss 0)=(n,t,0)) (h:¬((ss.length / 8:Nat):Int)=ttS t):LdS ss C2 11:=LdS.no λU hU=>by
 have e:=hU.head.symm.trans hh;have h1:=PP U hU.1;have et:U.tracks=t:=ix (λx=>x.2.1) e;rw [et] at h1;have h2:=(Dh U hU.1 ss hU.2).1;omega
theorem fT (ss:List ByteArray) (n:ByteArray) (t:Int) (hh:E7 (Ce ss 0)=(n,t,0)) (k:Nat) (hk:(k:Int)+1<ttS t) (h:Dq (Ce ss (k+1)) t=(CN,11)):LdS ss C2 11:=LdS.no λU hU=>by
 have e:=hU.head.symm.trans hh;have et:U.tracks=t:=ix (λx=>x.2.1) e;have h1:=PP U hU.1;rw [et] at h1;have h2:=hU.lab k oo;rw [et,h] at h2;exact absurd (ix (λx=>x.2) h2) (by decide:¬((11:Int)=0))
theorem ZU (ss:List ByteArray) (n:ByteArray) (t:Int) (ls:List Lab) (hh:E7 (Ce ss 0)=(n,t,0)) (hl:(ls.length:Int)=Ca t) (hd:∀k (hk:k<ls.length),Dq (Ce ss (k+1)) t=(ls[k],0))
 (h:¬(Bf ⟨n,t,ls⟩=true/\AQ ⟨n,t,ls⟩=ss)):LdS ss C2 11:=LdS.no λU hU=>by
 have e:=hU.is hh hl hd;subst e;exact h hU
theorem Zd {ss:List ByteArray} {t:Int} {ls:List Lab} {l:Lab} (h:∀j (hj:j<ls.length),Dq (Ce ss (j+1)) t=(ls[j],0)) (hl:Dq (Ce ss (ls.length+1)) t=(l,0)):
 ∀j (hj:j<(ls++[l]).length),Dq (Ce ss (j+1)) t=((ls++[l])[j],0):=by
 intro j hj;rw [iy,ju] at hj;by_cases a:j<ls.length
 . rw [List.getElem_append_left a];exact h j a
 . have e:j=ls.length:=oo;subst e;rw [List.getElem_append_right (iX _)];simpa using hl
theorem Yy {ls:List Lab} {l:Lab} (h:∀x∈ls,x.ext.length<=1000) (hl:l.ext.length<=1000):∀x∈ls++[l],x.ext.length<=1000:=by
 intro x hx;rcases ip.1 hx with hx | hx
 . exact h x hx
 . rw [ia.1 hx];exact hl

theorem P6 {W w':World} {row:Option Nat} (h:W.grownBy w' row):Turned (λk=>row=some k) W w':=⟨h.os,h.tape,h.output,h.size,λk hk hn=>h.block k hk (λe=>hn e.symm)⟩
theorem TabO.push {W w':World} {base:Nat} {v:Value} {ys:List LabE} {ls:List Lab} (h:TabO W base v ys ls) (y:LabE) {g n cap:Nat} (i:OwnL w' base 101 5 (.slice (some ⟨g,0,none⟩) n cap) (ys.map Dt++[Dt y]))
 (f:W.grownBy w' v.ownBlock) (a:v.ownBlock=some g\/g=W.heap.size) (hy:LabAt W y.A y.c y.l) (hf:0<y.l.ext.length->∀b off,y.A=some ⟨b,off,none⟩->v.ownBlock≠some b):
 TabO w' base (.slice (some ⟨g,0,none⟩) n cap) (ys++[y]) (ls++[y.l]):=by
 have d:∀z∈ys++[y],LabAt W z.A z.c z.l/\(0<z.l.ext.length->∀b off,z.A=some ⟨b,off,none⟩->v.ownBlock≠some b):=λz hz=>by
  rcases ip.1 hz with hz | hz
  . exact ⟨h.lab z hz,h.far z hz⟩
  . rw [ia.1 hz];exact ⟨hy,hf⟩
 refine ⟨by rw [il];exact i,λz hz=>?_,λz hz h0 b off e=>?_,by rw [il,h.eq];rfl⟩
 . exact (d z hz).1.turned (P6 f) (λh0 b off e=>(d z hz).2 h0 b off e)
 . have j:=(d z hz).2 h0 b off e;obtain ⟨b',k,e',m,_⟩:=(d z hz).1.runs.2 (by simpa using h0);rw [e] at e';injection e' with e';injection e' with e';subst e';intro e2;have e3:g=b:=by simpa [Value.ownBlock] using e2
   rcases a with a | a
   . exact j (by rw [a,e3])
   . omega
theorem Wa (s:ByteArray) (t:Int):(∃l,Dq s t=(l,0)/\l.ext.length<=1000)\/Dq s t=(CN,11):=by
 unfold Dq;split
 . exact .inr rfl
 . split
   . exact .inl ⟨CN,rfl,jL _⟩
   . split
     . rename_i h;obtain ⟨_,_,⟨_,v8⟩,_⟩:=EI _ t h.1;refine .inl ⟨rL 128 s,rfl,?_⟩;omega
     . exact .inr rfl
theorem Cj:SmallT C2:=⟨qd,λl hl=>by cases hl⟩

end
section
attribute [local go_sem ↓] Go.wp_at_zero Go.wp_at_succ
open Go.RowKit
def TabIn (P:Nat->Prop) (A:Option Addr) (xs:List LabE):Prop:=(0<xs.length->∀b off,A=some ⟨b,off,none⟩->P b)/\∀x∈xs,0<x.l.ext.length->∀b off,x.A=some ⟨b,off,none⟩->P b
theorem TabIn.nil (P:Nat->Prop):TabIn P none []:=⟨λh=>absurd h qs,λx hx=>(by cases hx)⟩
theorem bm (A:Option Addr) (c:Nat) (ss:List ByteArray) (w:World) (h:ListAt w w.heap.size 1 A (ss.map Eu)) (hl:ss.length<=100000) (hz:∀x∈ss,x.size<=1000):
 Calls Tryz.prog 138 #[.slice A ss.length c] w λe w'=>∃A c xs T er,e=.returned (.tuple #[.agg #[.string T.name,.int .i64 T.tracks,.slice A T.labels.length c],.int .i64 er])/\LdS ss T er/\SmallT T/\TabAt w' A c xs T/\TabIn (λq=>w.heap.size<=q) A xs/\Grew w w':=by
 have H:=zh h;have HZ:=zh hz;have fb:=zh (ik w 95 #[.string ⟨#[]⟩,.int .i64 0,.slice none 0 0] rfl);have fi:=zh ((iW w).alloc (.cells #[.string ⟨#[]⟩,.int .i64 0,.slice none 0 0] 95));clear h hz;go_enter Tryz.func138,Tryz.ntmps138;go_wp2_with fail
 go_loopg [4,17] ss.length (λgk tv0 i wr=>∃(k:Nat) (tv:Value),k<=ss.length/\gk=ss.length - k/\tv=tv0/\i=.int .i64 k/\(∀x∈ss.take k,x.size=128)/\OwnL wr (w.heap.size+1) 9 1 tv ((IP ss k).map Eu)/\Blk wr w.heap.size 95 #[.string ⟨#[]⟩,.int .i64 0,.slice none 0 0]/\Grew w wr)
 case atStart=>exact ⟨0,_,oo,oo,rfl,rfl,λx hx=>(by cases hx),OwnL.nil _ _ _ _,fb.out,fi.out⟩
 case round=>
  obtain ⟨k,tv,hk,M,gr,rfl,e2,N,hb,hg⟩:=hrel;subst gr;have ag:=zh M;have d0:=zh e2;clear M e2;by_cases I:k<ss.length
  . have fl:w.heap.size+1<=wr.heap.size:=hb.lt;obtain ⟨b1,o1,rfl,gs,e3⟩:=H.out (by rw [iY];omega);obtain ⟨x,hx⟩:∃x,ss[k]=x:=⟨_,rfl⟩
    have q0:wr.cell? ⟨b1,o1+k,none⟩=some (.string x):=by
     rw [hg.cellEq _ _ gs];have:=e3 k (Eu x) (by rw [iZ,iV I,hx];rfl) 0 _ rfl;simpa using this
    have gz:x.size<=1000:=by rw [<-hx];exact HZ.out _ (ib I)
    clear e3;by_cases a4:x.size=128;rotate_left
    . have hn:((x.size:Int) != 128)=true:=by rw [jH];omega
      have HE:=zh (fP ss k I (by rw [hx];exact a4));have z0:=hb.cell 0;have z1:=hb.cell 1;have z2:=hb.cell 2;have f0:=hb.frozen 0;have f1:=hb.frozen 1;have f2:=hb.frozen 2;have u:=hb.lt;have f:=hg;clear hb N hx a4;go_wp2_with fail;refine im (by first | (simp [*,results,Tryz.results138,go_sem];rfl) | simp [*,results,Tryz.results138,go_sem]) rfl ?_;exact ⟨none,0,[],C2,11,rfl,HE,Cj,TabAt.zero _,TabIn.nil _,gG⟩
    have hn:((x.size:Int) != 128)=false:=by rw [kS];omega
    have d1:=zh (show ∀z∈ss.take (k+1),z.size=128 from λz hz=>by
     rw [ic I] at hz
     rcases ip.1 hz with hz | hz
     . exact d0.out z hz
     . rw [ia.1 hz,hx];exact a4)
    by_cases h8:k % 8=0
    . have hm:((k:Int) % 8==0)=true:=by rw [jy];omega
      have hY:=ar ss k h8;have bc:=Jy ss k;have d2:=N.ne_blk hb qd;clear h8 a4
      go_upto_region 9 with (at_builtin;refine AY rfl _ _ 24 rfl (w.heap.size+1) 9 1 16 _ Tryz.underlying24 R3 rfl qd wr _ ((IP ss k).map Eu) (Eu ⟨#[]⟩) (by rfl) rfl rfl N (by first | rfl | (simp;done)) rfl rfl (by rw [iY];omega) (by rw [iY];omega) fl ?_;intro gl c3 J e0 e1 ht)
      have bf:=e1 _ _ _ hb d2;have ca:=e0 _ hg oo;rw [show (IP ss k).map Eu++[Eu ⟨#[]⟩]=(Fb ss k).map Eu from by rw [hY,il];rfl] at J;clear e0 e1 N hb hg hY hm bc d2 q0;have D:((Fb ss k).map Eu).length=k / 8+1:=by rw [iY,Ij]
      have E:k / 8<(Fb ss k).length:=by rw [Ij];omega
      have F:=PD ss k I E;have cb:=Pb ss k HZ _ (ib E);obtain ⟨y,hy⟩:∃y,(Fb ss k)[k / 8]=y:=⟨_,rfl⟩;rw [hy,hx] at F;rw [hy] at cb;have G:((Fb ss k).map Eu)[k / 8]? =some (Eu y):=by rw [iZ,iV E,hy];rfl
      obtain ⟨q,hq⟩:∃q,k / 8=q:=⟨_,rfl⟩;have fn:q<=100000:=oo;rw [hq] at G D F
      obtain ⟨g,cap,hv,gu,gv⟩:∃g cap,gl=.slice (some ⟨g,0,none⟩) (q+1) cap/\w.heap.size+1<=g/\g<c3.heap.size:=by
       rcases J.form with ⟨_,h0⟩ | ⟨g,cap,hv,h1,h2,_⟩
       . have:=ix length h0;rw [D,length_nil] at this;omega
       . rw [D] at hv;exact ⟨g,cap,hv,h1,h2⟩
      subst hv;have t0:c3.cell? ⟨g,q,none⟩=some (.string y):=by have:=J.cell G (i:=0) rfl;simpa using this
      have tf:=J.frozen q;have al:=J.set_ G (i:=0) (o:=q) qd oo (.string (y++x));have an:=zh (show OwnL (c3.setCell ⟨g,q,none⟩ (.string (y++x))) (w.heap.size+1) 9 1 (.slice (some ⟨g,0,none⟩) (q+1) cap) ((IP ss (k+1)).map Eu) from by rw [F,List.map_set];exact al);have cc:=zh (bf.far (p:=⟨g,q,none⟩) (by show w.heap.size≠g;omega) (.string (y++x)));have ce:=zh (ca.setCell (p:=⟨g,q,none⟩) (by show w.heap.size<=g;omega) (.string (y++x)));obtain ⟨n,B⟩:∃n,q+1=n:=⟨_,rfl⟩;have fp:(n:Int) - 1=(q:Int):=oo;rw [B] at an ⊢;clear al J bf ca F G D hy E hq;go_wp2_with fail
      go_roundg (ss.length - (k+1))
      case measure=>rw [ag.out];omega
      case rel=>exact ⟨k+1,_,oo,oo,rfl,by go_num,d1,an,cc,ce⟩
    . have hm:((k:Int) % 8==0)=false:=by rw [it];omega
      have hY:=cQ ss k h8;have ap:OwnL wr (w.heap.size+1) 9 1 tv ((Fb ss k).map Eu):=by rw [hY];exact N
      have d3:=hb;have bk:=hg;clear h8 a4 N hb hg hY;have D:((Fb ss k).map Eu).length=k / 8+1:=by rw [iY,Ij]
      have E:k / 8<(Fb ss k).length:=by rw [Ij];omega
      have F:=PD ss k I E;have cb:=Pb ss k HZ _ (ib E);obtain ⟨y,hy⟩:∃y,(Fb ss k)[k / 8]=y:=⟨_,rfl⟩;rw [hy,hx] at F;rw [hy] at cb;have G:((Fb ss k).map Eu)[k / 8]? =some (Eu y):=by rw [iZ,iV E,hy];rfl
      obtain ⟨q,hq⟩:∃q,k / 8=q:=⟨_,rfl⟩;have fn:q<=100000:=oo;rw [hq] at G D F
      obtain ⟨g,cap,hv,gu,gv⟩:∃g cap,tv=.slice (some ⟨g,0,none⟩) (q+1) cap/\w.heap.size+1<=g/\g<wr.heap.size:=by
       rcases ap.form with ⟨_,h0⟩ | ⟨g,cap,hv,h1,h2,_⟩
       . have:=ix length h0;rw [D,length_nil] at this;omega
       . rw [D] at hv;exact ⟨g,cap,hv,h1,h2⟩
      subst hv;have t0:wr.cell? ⟨g,q,none⟩=some (.string y):=by have:=ap.cell G (i:=0) rfl;simpa using this
      have tf:=ap.frozen q;have al:=ap.set_ G (i:=0) (o:=q) qd oo (.string (y++x));have an:=zh (show OwnL (wr.setCell ⟨g,q,none⟩ (.string (y++x))) (w.heap.size+1) 9 1 (.slice (some ⟨g,0,none⟩) (q+1) cap) ((IP ss (k+1)).map Eu) from by rw [F,List.map_set];exact al);have cc:=zh (d3.far (p:=⟨g,q,none⟩) (by show w.heap.size≠g;omega) (.string (y++x)));have ce:=zh (bk.setCell (p:=⟨g,q,none⟩) (by show w.heap.size<=g;omega) (.string (y++x)));obtain ⟨n,B⟩:∃n,q+1=n:=⟨_,rfl⟩;have fp:(n:Int) - 1=(q:Int):=oo;rw [B] at an ⊢;clear al ap d3 bk F G D hy E hq;go_wp2_with fail
      go_roundg (ss.length - (k+1))
      case measure=>rw [ag.out];omega
      case rel=>exact ⟨k+1,_,oo,oo,rfl,by go_num,d1,an,cc,ce⟩
  . skip;have fs:k=ss.length:=oo;subst fs;have d4:=zh (show ∀x∈ss,x.size=128 from by have:=d0.out;rwa [j1] at this);have bc:=Jy ss ss.length;obtain ⟨A5,c5,e4,e5,hu,e6⟩:=N.listAt;rw [iY] at e4 e5;subst e4;have bl:=zh e6;have fu:=zh bc;obtain ⟨q,hq⟩:∃q,(IP ss ss.length).length=q:=⟨_,rfl⟩;rw [hq] at e5 ⊢;have d5:q=(ss.length+7) / 8:=by rw [<-hq];exact fu.out
    have HQ:=zh hq;have cf:=zh d5;have f:=hg;have HB:=zh hb;have HG:=zh hg;have z0:=hb.cell 0;have z1:=hb.cell 1;have z2:=hb.cell 2;have f0:=hb.frozen 0;have f1:=hb.frozen 1;have f2:=hb.frozen 2;have u:=hb.lt;clear e6 bc hq N hb f hg d5;by_cases h0:ss.length=0
    . have hm:((q:Int)==0)=true:=by rw [jy];have:=cf.out;omega
      have HE:=zh (aQ ss (.inl h0));have f:=HG.out;clear h0;go_wp2_with fail;refine im (by first | (simp [*,results,Tryz.results138,go_sem];rfl) | simp [*,results,Tryz.results138,go_sem]) rfl ?_;exact ⟨none,0,[],C2,11,rfl,HE,Cj,TabAt.zero _,TabIn.nil _,gG⟩
    have hm:((q:Int)==0)=false:=by rw [it];have:=cf.out;omega
    by_cases h8:ss.length % 8=0;rotate_left
    . have fv:((ss.length:Int) % 8 != 0)=true:=by rw [jH];omega
      have HE:=zh (aQ ss (.inr h8));have f:=HG.out;clear h8;go_wp2_with fail;refine im (by first | (simp [*,results,Tryz.results138,go_sem];rfl) | simp [*,results,Tryz.results138,go_sem]) rfl ?_;exact ⟨none,0,[],C2,11,rfl,HE,Cj,TabAt.zero _,TabIn.nil _,gG⟩
    have fv:((ss.length:Int) % 8 != 0)=false:=by rw [kS];omega
    obtain ⟨m,c7⟩:∃m,ss.length=8*(m+1):=⟨ss.length / 8 - 1,oo⟩;have fx:q=m+1:=by have:=cf.out;omega
    subst fx;have ch:=ai ss (m+1) oo;rw [ch] at bl;have HR:=zh (show ListAt wr wr.heap.size 1 A5 (((List.range (m+1)).map (Ce ss)).map Eu) from bl.out);obtain ⟨b5,o5,rfl,bf,c9⟩:=HR.out qs
    have d6:=zh (show ∀j,j<m+1->∀w9,Grew wr w9->w9.cell? ⟨b5,o5+j,none⟩=some (.string (Ce ss j)) from λj hj w9 g9=>by
     rw [g9.cellEq _ _ bf]
     have:=c9 j (Eu (Ce ss j)) (by rw [iZ,iZ,jk hj];rfl) 0 _ rfl
     simpa using this)
    have ci:=zh c7;have q0:=d6.out 0 oo wr (iW _);rw [jo] at q0;have g0:(Ce ss 0).size<=8000:=Kr 1000 ss 0 HZ;have C:=λw9=>RS (Ce ss 0) w9 oo;rcases Lh (Ce ss 0) with hh | ⟨nm,tt,hh,_,hw,fa,h3,h4,h5⟩
    . have HE:=zh (dj ss hh);rw [hh] at C;clear hh h0 h8 c7 bl ch c9;go_wp2_with fail;refine (C _).mono ?_;rintro e w3 ⟨rfl,g3⟩;have d:=HB.grew g3;have f:=HG.out.trans g3;clear z0 z1 z2 f0 f1 f2 u g3;have z0:=d.cell 0;have z1:=d.cell 1;have z2:=d.cell 2;have f0:=d.frozen 0;have f1:=d.frozen 1;have f2:=d.frozen 2;have u:=d.lt;go_wp2_with fail;refine im (by first | (simp [*,results,Tryz.results138,go_sem];rfl) | simp [*,results,Tryz.results138,go_sem]) rfl ?_;exact ⟨none,0,[],C2,11,rfl,HE,Cj,TabAt.zero _,TabIn.nil _,gG⟩
    rw [hh] at C;have HH:=zh hh;have g1:=zh fa;clear hh h0 h8 c7 bl ch c9 fa;go_wp2_with fail;refine (C _).mono ?_;rintro e w3 ⟨rfl,g3⟩;have d:=HB.grew g3;have f:=HG.out.trans g3;have d7:=zh g3;have Z:=zh f;have bs:=zh d;clear z0 z1 z2 f0 f1 f2 u g3 q0 C;have z0:=d.cell 0;have z1:=d.cell 1;have z2:=d.cell 2;have f0:=d.frozen 0;have f1:=d.frozen 1;have f2:=d.frozen 2;have u:=d.lt;obtain ⟨e9,da⟩:∃x,ttS tt=x:=⟨_,rfl⟩;have ea:=zh da;by_cases b0:((m+1:Nat):Int)=ttS tt;rotate_left
    . have f3:((m:Int)+1 != e9)=true:=by rw [jH];omega
      have HE:=zh (ZX ss nm tt HH (by have:=ci.out;rw [show ss.length / 8=m+1 from oo];exact b0));clear b0 da;go_wp2_with fail;refine (CC _ _).mono ?_;rintro e w9 ⟨rfl,rfl⟩;rw [ea.out];go_wp2_with fail;refine im (by first | (simp [*,results,Tryz.results138,go_sem];rfl) | simp [*,results,Tryz.results138,go_sem]) rfl ?_;exact ⟨none,0,[],C2,11,rfl,HE,Cj,TabAt.zero _,TabIn.nil _,gG⟩
    have f3:((m:Int)+1 != e9)=false:=by rw [kS];omega
    have cl:=zh b0;have g2:m<=32:=by have:=EC tt;omega
    have eb:=ik w3 95 #[.string nm,.int .i64 tt,.slice none 0 0] rfl;have ee:=(iW w3).alloc (.cells #[.string nm,.int .i64 tt,.slice none 0 0] 95);have eg:=zh eb;have eh:=zh ee;clear b0 da eb ee f d z0 z1 z2 f0 f1 f2;go_wp2_with fail;refine (CC _ _).mono ?_;rintro e w9 ⟨rfl,rfl⟩;rw [ea.out];by_cases gj:c5=1
    . subst gj;have g6:m<1:=oo;go_wp2_with fail;obtain ⟨wo,dd⟩:∃wo:World,wo=wr:=⟨_,rfl⟩;subst dd
      go_loopg [76] m (λgk i wq=>∃(k:Nat) (v:Value) (ys:List LabE) (ls:List Lab),k<=m/\gk=m - k/\i=.int .i64 k/\ls.length=k/\(∀j (hj:j<ls.length),Dq (Ce ss (j+1)) tt=(ls[j],0))/\(∀l∈ls,l.ext.length<=1000)/\TabO wq (w3.heap.size+1) v ys ls/\Blk wq w3.heap.size 95 #[.string nm,.int .i64 tt,v]/\(∀y∈ys,∀b off,y.A=some ⟨b,off,none⟩->w3.heap.size<=b)/\Grew w3 wq)
      case atStart=>exact ⟨0,_,[],[],oo,oo,rfl,rfl,λj hj=>absurd hj (Nat.not_lt_zero _),λl hl=>(by cases hl),⟨OwnL.nil _ _ _ _,λy hy=>(by cases hy),λy hy=>(by cases hy),rfl⟩,eg.out,λy hy=>(by cases hy),eh.out⟩
      case round=>
       obtain ⟨wq,df⟩:∃wq:World,wq=wr:=⟨_,rfl⟩;subst df;obtain ⟨k,v,ys,ls,hk,M,rfl,s,a6,a7,Y,a8,a9,K⟩:=hrel;obtain ⟨Av,cv,hv,bb⟩:=Y.form;subst hv;have ag:=zh M;have bt:=zh a9;have ad:=zh a6;have bv:=zh a7;have O:=zh Y;have r:=zh a8;have cn:=zh K;have af:=zh (Z.out.trans K);have d:=bs.grew K;clear M a6 a7 Y a8 a9;by_cases I:k<m
       . exact absurd I oo
       . have co:k=m:=oo;subst co;have av:=zh s;have cp:=cl.out;have aw:(ls.length:Int)=Ca tt:=by unfold Ca;omega
         obtain ⟨T,hT⟩:∃T:Tab,T=⟨nm,tt,ls⟩:=⟨_,rfl⟩;have P:=bb nm tt oo oo oo;have Q:T.labels.length=ls.length:=by rw [hT]
         have R:SmallT T:=by rw [hT];exact ⟨by show ls.length<=1000;omega,bv⟩
         rw [<-hT] at P;have cq:=zh R;have CV:=λw9 (g9:Grew wq w9)=>G8 Av cv ys T w9 (P.hold g9) R k (Q.trans s).symm;have a0:=zh (λhno=>ZU ss nm tt ls HH aw ad hno);have a1:=zh (λhv=>Vx ss nm tt ls d4 (by rw [s];exact ci.out) HH ad hv);rw [<-hT] at a0 a1;have cr:=zh hT;have U:T.name=nm:=by rw [hT]
         have V:T.tracks=tt:=by rw [hT]
         rw [U,V] at CV;have cs:=zh U;have ct:=zh V;have cu:=zh Q;have x0:=r.cell 0;have x1:=r.cell 1;have x2:=r.cell 2;have L:=r.out.lt;clear bb P R hT U V Q cp aw;cases hv:Bf T with
         | false=>
           have HE:=zh (a0 (λh9=>by rw [hv] at h9;cases h9.1));rw [hv] at CV;clear hv;go_wp2_with fail;refine (CV _ (iW _)).mono ?_;rintro e w8 ⟨rfl,g8⟩;have a:=d.grew g8;have f:=af.out.trans g8;clear d x0 x1 x2 L g8;have z0:=a.cell 0;have z1:=a.cell 1;have z2:=a.cell 2;have f0:=a.frozen 0;have f1:=a.frozen 1;have f2:=a.frozen 2;have u:=a.lt;go_wp2_with fail;refine im (by first | (simp [*,results,Tryz.results138,go_sem];rfl) | simp [*,results,Tryz.results138,go_sem]) rfl ?_;exact ⟨none,0,[],C2,11,rfl,HE,Cj,TabAt.zero _,TabIn.nil _,gG⟩
         | true=>
           have HE:=zh (show LdS ss T 0 from .inl ⟨a1.out hv,rfl⟩);rw [hv] at CV;clear hv;go_wp2_with fail;refine (CV _ (iW _)).mono ?_;rintro e w8 ⟨rfl,g8⟩;have a:=d.grew g8;have f:=af.out.trans g8;have t:=r.grew g8;have W:=zh (show TabO w8 (w3.heap.size+1) (.slice Av k cv) ys ls from by rw [<-av.out];exact O.hold g8);have cw:=zh ((O.hold g8).apart a);clear d x0 x1 x2 L g8;have x0:=t.cell 0;have x1:=t.cell 1;have x2:=t.cell 2;have L:=t.lt;have z0:=a.cell 0;have z1:=a.cell 1;have z2:=a.cell 2;have f0:=a.frozen 0;have f1:=a.frozen 1;have f2:=a.frozen 2;have u:=a.lt;have cx:=zh f;clear a f t;have f4:=bs.out.lt;go_wp2_with fail;refine im (by first | (simp [*,results,Tryz.results138,go_sem];rfl) | simp [*,results,Tryz.results138,go_sem]) rfl ?_;refine ⟨Av,cv,ys,T,0,by rw [cs.out,ct.out,cu.out,av.out],HE,cq,?_,⟨λ_ b off e=>ij Z.size (ij (Nat.le_succ _) (W.own.own_ge (show (Value.slice Av k cv).ownBlock=some b from by rw [e];rfl)).1),λy hy _ b off e=>ij Z.size (bt y hy b off e)⟩,by have f:=cx.out;exact gG⟩;have cy:TabO (((w8.setCell ⟨w.heap.size,0,none⟩ (.string nm)).setCell ⟨w.heap.size,1,none⟩ (.int .i64 tt)).setCell ⟨w.heap.size,2,none⟩ (.slice Av k cv)) (w3.heap.size+1) (.slice Av k cv) ys ls:=W.turned (S:=λq=>q=w.heap.size) (gT) (λq hq=>by have h1:=(W.own.own_ge hq).1;omega) (λy hy h0 b off e=>cw y hy h0 b off e);obtain ⟨A8,c8,dk,dn⟩:=cy.form;injection dk with hv1 _ hv2;subst hv1;subst hv2;rw [cr.out];exact dn nm tt oo oo oo
    go_wp2_with fail;obtain ⟨wo,dd⟩:∃wo:World,wo=wr:=⟨_,rfl⟩;subst dd
    go_loopg [76] m (λgk i wq=>∃(k:Nat) (v:Value) (ys:List LabE) (ls:List Lab),k<=m/\gk=m - k/\i=.int .i64 k/\ls.length=k/\(∀j (hj:j<ls.length),Dq (Ce ss (j+1)) tt=(ls[j],0))/\(∀l∈ls,l.ext.length<=1000)/\TabO wq (w3.heap.size+1) v ys ls/\Blk wq w3.heap.size 95 #[.string nm,.int .i64 tt,v]/\(∀y∈ys,∀b off,y.A=some ⟨b,off,none⟩->w3.heap.size<=b)/\Grew w3 wq)
    case atStart=>exact ⟨0,_,[],[],oo,oo,rfl,rfl,λj hj=>absurd hj (Nat.not_lt_zero _),λl hl=>(by cases hl),⟨OwnL.nil _ _ _ _,λy hy=>(by cases hy),λy hy=>(by cases hy),rfl⟩,eg.out,λy hy=>(by cases hy),eh.out⟩
    case round=>
     obtain ⟨wq,df⟩:∃wq:World,wq=wr:=⟨_,rfl⟩;subst df;obtain ⟨k,v,ys,ls,hk,M,rfl,s,a6,a7,Y,a8,a9,K⟩:=hrel;obtain ⟨Av,cv,hv,bb⟩:=Y.form;subst hv;have ag:=zh M;have bt:=zh a9;have ad:=zh a6;have bv:=zh a7;have O:=zh Y;have r:=zh a8;have cn:=zh K;have af:=zh (Z.out.trans K);have d:=bs.grew K;clear M a6 a7 Y a8 a9;by_cases I:k<m
     . have q0:wq.cell? ⟨b5,o5+1+k,none⟩=some (.string (Ce ss (k+1))):=by have:=d6.out (k+1) oo wq (d7.out.trans K);rwa [show o5+(k+1)=o5+1+k from oo] at this
       have g7:(Ce ss (k+1)).size<=8000:=Kr 1000 ss (k+1) HZ;have ha:b5<wq.heap.size:=by have:=d7.size;have:=K.size;omega
       have CD:=λw9=>Tu (Ce ss (k+1)) tt w9 oo oo oo;have L:=r.out.lt;rcases Wa (Ce ss (k+1)) tt with ⟨l,hd,gx⟩ | hd;rotate_left
       . have HE:=zh (fT ss nm tt HH k (by have:=cl.out;omega) hd);rw [hd] at CD;clear hd;go_wp2_with fail;refine (CD _).mono ?_;rintro e w4 ⟨A4,c4,rfl,b2,g4,a5⟩;have X:=d.grew g4;have f:=af.out.trans g4;clear d b2 a5 q0;have z0:=X.cell 0;have z1:=X.cell 1;have z2:=X.cell 2;have f0:=X.frozen 0;have f1:=X.frozen 1;have f2:=X.frozen 2;have u:=X.lt;go_wp2_with fail;refine im (by first | (simp [*,results,Tryz.results138,go_sem];rfl) | simp [*,results,Tryz.results138,go_sem]) rfl ?_;exact ⟨none,0,[],C2,11,rfl,HE,Cj,TabAt.zero _,TabIn.nil _,gG⟩
       have HD:=zh hd;rw [hd] at CD;clear hd d;go_wp2_with fail;refine (CD _).mono ?_;rintro e w4 ⟨A4,c4,rfl,b2,g4,a5⟩;have f5:=zh (show ∀b off,A4=some ⟨b,off,none⟩->w3.heap.size<=b from λb off e=>ij cn.size (a5 b off e));clear q0;have cz:=r.grew g4;have ej:=O.hold g4;have ek:=cn.out.trans g4;have hc:=cz.lt;have he:wq.heap.size<=w4.heap.size:=g4.size
       have em:0<l.ext.length->∀b off,A4=some ⟨b,off,none⟩->(Value.slice Av k cv).ownBlock≠some b:=λ_ b off e hq=>by
        have h1:=a5 b off e;have h2:=(O.own.own_ge (show (Value.slice Av ls.length cv).ownBlock=some b from by rw [s];exact hq)).2;omega
       obtain ⟨W1,b4⟩:∃W1,W1=w4.alloc (.cells #[.int .i64 l.id,.int .i64 l.unit,.string l.name,.string l.note,.slice A4 l.ext.length c4] 101):=⟨_,rfl⟩;have ep:Grew w4 W1:=by rw [b4];exact (iW w4).alloc _
       have B:Blk W1 w4.heap.size 101 #[.int .i64 l.id,.int .i64 l.unit,.string l.name,.string l.note,.slice A4 l.ext.length c4]:=by rw [b4];exact ik w4 _ _ rfl
       have f6:W1.heap.size=w4.heap.size+1:=by rw [b4];simp
       obtain ⟨W2,b9⟩:∃W2,W2=W1.alloc (.cells #[.int .i64 l.id,.int .i64 l.unit,.string l.name,.string l.note,.slice A4 l.ext.length c4] 101):=⟨_,rfl⟩;have eq:Grew W1 W2:=by rw [b9];exact (iW W1).alloc _
       have hf:W2.heap.size=W1.heap.size+1:=by rw [b9];simp
       have es:Blk W2 W1.heap.size 101 (Dt ⟨A4,c4,l⟩).toArray:=by rw [b9];exact ik W1 _ _ rfl
       have a2:=ep.trans eq;have c0:=ej.hold a2;have c1:=cz.grew a2;have et:=ek.trans a2;have eu:=b2.hold a2;have c2:(ys.map Dt).length=k:=by rw [iY,c0.len,s]
       have y0:=B.cell 0;have y1:=B.cell 1;have y2:=B.cell 2;have y3:=B.cell 3;have y4:=B.cell 4;have hi:=B.lt;have t2:=cz.cell 2;have f9:=zh eu;have bx:=zh (show TabO W2 (w3.heap.size+1) (.slice Av k cv) ys ls from by rw [<-s];exact c0);have ga:=zh c1;have gb:=zh et;have gc:=zh (show Blk W2 (w4.heap.size+1) 101 (Dt ⟨A4,c4,l⟩).toArray from by rw [<-f6];exact es);have ge:=zh em;have ho:w3.heap.size<W2.heap.size:=c1.lt;clear ej ek b2 a5 em eu et es c1 c0 a2 ep eq;go_wp2_with (at_builtin;rw [<-b4,<-b9];refine Bh rfl _ _ 93 rfl (w3.heap.size+1) 101 5 72 _ Tryz.underlying93 Nx rfl qd W2 _ (ys.map Dt) (Dt ⟨A4,c4,l⟩) rfl (by rfl) bx.own (w4.heap.size+1) (by rfl) gc rfl (by rw [c2];omega) (by rw [c2];omega) oo _ c2 ?_;intro g5 b3 w5 J c6 go ca;have a3:=ga.own c6 (λhq=>by have:w3.heap.size+1<=w3.heap.size:=(bx.own.own_ge hq).1;omega);have u2:=a3.cell 2;have hp:=a3.frozen 2;have hr:=a3.lt);have ex:=bx.push ⟨A4,c4,l⟩ J c6 go f9 ge;have hs:w3.heap.size+1<=g5:=(J.own_ge (g:=g5) rfl).1;have gf:=ex.apart a3;have gg:=ex.turned (S:=λq=>q=w3.heap.size) ((jD (λq=>q=w3.heap.size) w5).setCell (p:=⟨w3.heap.size,2,none⟩) (λ_=>rfl) (.slice (some ⟨g5,0,none⟩) (k+1) b3)) (λg hq=>by simp only [Value.ownBlock,Option.some.injEq] at hq;omega) gf;have gh:=(a3.set_ 2 (.slice (some ⟨g5,0,none⟩) (k+1) b3)).conv (ds:=#[.string nm,.int .i64 tt,.slice (some ⟨g5,0,none⟩) (k+1) b3]) rfl;have bk:=(Grew.own gb c6 bx.own.row_ge oo).setCell (p:=⟨w3.heap.size,2,none⟩) (iX _) (.slice (some ⟨g5,0,none⟩) (k+1) b3);have gi:=zh (Zd ad (by rw [s];exact HD.out))
       go_roundg (m - (k+1))
       case measure=>rw [ag.out];omega
       case rel=>exact ⟨k+1,_,_,ls++[l],oo,oo,by go_num,by rw [iy,s];rfl,gi,Yy bv gx,gg,gh,λy hy b off e=>(ip.1 hy).elim (λh9=>bt y h9 b off e) (λh9=>by rw [ia.1 h9] at e;exact f5.out b off e),bk⟩
     . have co:k=m:=oo;subst co;have av:=zh s;have cp:=cl.out;have aw:(ls.length:Int)=Ca tt:=by unfold Ca;omega
       obtain ⟨T,hT⟩:∃T:Tab,T=⟨nm,tt,ls⟩:=⟨_,rfl⟩;have P:=bb nm tt oo oo oo;have Q:T.labels.length=ls.length:=by rw [hT]
       have R:SmallT T:=by rw [hT];exact ⟨by show ls.length<=1000;omega,bv⟩
       rw [<-hT] at P;have cq:=zh R;have CV:=λw9 (g9:Grew wq w9)=>G8 Av cv ys T w9 (P.hold g9) R k (Q.trans s).symm;have a0:=zh (λhno=>ZU ss nm tt ls HH aw ad hno);have a1:=zh (λhv=>Vx ss nm tt ls d4 (by rw [s];exact ci.out) HH ad hv);rw [<-hT] at a0 a1;have cr:=zh hT;have U:T.name=nm:=by rw [hT]
       have V:T.tracks=tt:=by rw [hT]
       rw [U,V] at CV;have cs:=zh U;have ct:=zh V;have cu:=zh Q;have x0:=r.cell 0;have x1:=r.cell 1;have x2:=r.cell 2;have L:=r.out.lt;clear bb P R hT U V Q cp aw;cases hv:Bf T with
       | false=>
         have HE:=zh (a0 (λh9=>by rw [hv] at h9;cases h9.1));rw [hv] at CV;clear hv;go_wp2_with fail;refine (CV _ (iW _)).mono ?_;rintro e w8 ⟨rfl,g8⟩;have a:=d.grew g8;have f:=af.out.trans g8;clear d x0 x1 x2 L g8;have z0:=a.cell 0;have z1:=a.cell 1;have z2:=a.cell 2;have f0:=a.frozen 0;have f1:=a.frozen 1;have f2:=a.frozen 2;have u:=a.lt;go_wp2_with fail;refine im (by first | (simp [*,results,Tryz.results138,go_sem];rfl) | simp [*,results,Tryz.results138,go_sem]) rfl ?_;exact ⟨none,0,[],C2,11,rfl,HE,Cj,TabAt.zero _,TabIn.nil _,gG⟩
       | true=>
         have HE:=zh (show LdS ss T 0 from .inl ⟨a1.out hv,rfl⟩);rw [hv] at CV;clear hv;go_wp2_with fail;refine (CV _ (iW _)).mono ?_;rintro e w8 ⟨rfl,g8⟩;have a:=d.grew g8;have f:=af.out.trans g8;have t:=r.grew g8;have W:=zh (show TabO w8 (w3.heap.size+1) (.slice Av k cv) ys ls from by rw [<-av.out];exact O.hold g8);have cw:=zh ((O.hold g8).apart a);clear d x0 x1 x2 L g8;have x0:=t.cell 0;have x1:=t.cell 1;have x2:=t.cell 2;have L:=t.lt;have z0:=a.cell 0;have z1:=a.cell 1;have z2:=a.cell 2;have f0:=a.frozen 0;have f1:=a.frozen 1;have f2:=a.frozen 2;have u:=a.lt;have cx:=zh f;clear a f t;have f4:=bs.out.lt;go_wp2_with fail;refine im (by first | (simp [*,results,Tryz.results138,go_sem];rfl) | simp [*,results,Tryz.results138,go_sem]) rfl ?_;refine ⟨Av,cv,ys,T,0,by rw [cs.out,ct.out,cu.out,av.out],HE,cq,?_,⟨λ_ b off e=>ij Z.size (ij (Nat.le_succ _) (W.own.own_ge (show (Value.slice Av k cv).ownBlock=some b from by rw [e];rfl)).1),λy hy _ b off e=>ij Z.size (bt y hy b off e)⟩,by have f:=cx.out;exact gG⟩;have cy:TabO (((w8.setCell ⟨w.heap.size,0,none⟩ (.string nm)).setCell ⟨w.heap.size,1,none⟩ (.int .i64 tt)).setCell ⟨w.heap.size,2,none⟩ (.slice Av k cv)) (w3.heap.size+1) (.slice Av k cv) ys ls:=W.turned (S:=λq=>q=w.heap.size) (gT) (λq hq=>by have h1:=(W.own.own_ge hq).1;omega) (λy hy h0 b off e=>cw y hy h0 b off e);obtain ⟨A8,c8,dk,dn⟩:=cy.form;injection dk with hv1 _ hv2;subst hv1;subst hv2;rw [cr.out];exact dn nm tt oo oo oo

end
section
open Go.RowKit
def Ax (l:List (Int × Int)) (s:Int):Int × Bool:=if s<0 then (0,false) else if (atS l (s / 8)).2=true then ((atS l (s / 8)).1*8+s % 8,true) else (0,false)
theorem gV (l:List (Int × Int)) (t:Int) (h0:0<=t) (h:(atS l t).2=true):∃k:Nat,(atS l t).1=(k:Int)/\k<128/\inT l (k:Int)=true/\(CZ l)[t.toNat]? =some k:=by
 obtain ⟨n,rfl⟩:∃n:Nat,t=(n:Int):=⟨t.toNat,oo⟩;rw [aD] at h ⊢;unfold Vt at h ⊢;by_cases hn:n<(CZ l).length
 . rw [if_pos hn];have hm:(CZ l)[n]∈CZ l:=ib hn;refine ⟨(CZ l)[n],by simp [hn],MF l _ hm,by rw [dc];exact (FG l _).1 hm,by rw [i9,iV hn]⟩
 . rw [if_neg hn] at h;cases h
theorem Ic (l:List (Int × Int)) (s:Int) (h:s<0):Ax l s=(0,false):=if_pos h
theorem Ga (l:List (Int × Int)) (s:Int) (h:0<=s):((atS l (s / 8)).2=false/\Ax l s=(0,false))\/∃k:Nat,atS l (s / 8)=((k:Int),true)/\k<128/\inT l (k:Int)=true/\(CZ l)[(s / 8).toNat]? =some k/\Ax l s=((k:Int)*8+s % 8,true):=by
 cases hc:(atS l (s / 8)).2 with
 | false=>exact .inl ⟨rfl,by unfold Ax;rw [if_neg oo,if_neg (by rw [hc];simp)]⟩
 | true=>
   obtain ⟨k,h1,h2,h3,h4⟩:=gV l (s / 8) oo hc;exact .inr ⟨k,Prod.ext h1 hc,h2,h3,h4,by unfold Ax;rw [if_neg oo,if_pos hc,h1]⟩
section
variable (A:Option Addr) (c:Nat) (l:Lab) (w:World)
theorem N9 (g:LabAt w A c l) (hs:l.ext.length<=1000) (s:Int) (s0:-9223372036854775808<=s) (s1:s<=9223372036854775807) (a:Int) (b:Bool) (d:Ax l.ext s=(a,b)):
 Calls Tryz.prog 48 #[.agg #[.int .i64 l.id,.int .i64 l.unit,.string l.name,.string l.note,.slice A l.ext.length c],.int .i64 s] w λe w'=>e=.returned (.tuple #[.int .i64 a,.bool b])/\Grew w w':=by
 have f:=(iW w).alloc (.cells #[.int .i64 l.id,.int .i64 l.unit,.string l.name,.string l.note,.slice A l.ext.length c] 101);by_cases hn:s<0
 . rw [Ic _ _ hn] at d;injection d with e1 e2;subst e1;subst e2;go_enter Tryz.func48,Tryz.ntmps48;go_wp2_with fail
   go_returns
   exact ⟨rfl,gG⟩
 have h:0<=s:=oo;have HC:=zh (λw1 (hg:Grew w w1)=>gD A c _ l.ext _ rfl oo (g.hold hg).runs (s / 8) oo oo);have hd:s.tdiv 8=s / 8:=Int.tdiv_eq_ediv_of_nonneg h;have hm:s.tmod 8=s % 8:=kB h;rcases Ga l.ext s h with ⟨h2,hx⟩ | ⟨k,h1,h2,_,_,hx⟩
 . rw [hx] at d;injection d with e1 e2;subst e1;subst e2;obtain ⟨⟨x,y⟩,i⟩:∃p,atS l.ext (s / 8)=p:=⟨_,rfl⟩;rw [i] at h2;simp only at h2;subst h2;have HX:=zh (show (if s / 8<0 then ((0,false):Int × Bool) else atS l.ext (s / 8))=(x,false) from by rw [if_neg oo,i]);clear hx i g;go_enter Tryz.func48,Tryz.ntmps48;go_wp2_with fail;refine (HC _ f _ _ HX).mono ?_;rintro e w2 ⟨rfl,g2⟩;go_wp2_with fail
   go_returns
   exact ⟨rfl,f.trans g2⟩
 . rw [hx] at d;injection d with e1 e2;subst e2;have HX:=zh (show (if s / 8<0 then ((0,false):Int × Bool) else atS l.ext (s / 8))=((k:Int),true) from by rw [if_neg oo,h1]);have j:0<=s % 8/\s % 8<8:=oo;have HA:=zh e1;clear hx h1 g e1;go_enter Tryz.func48,Tryz.ntmps48;go_wp2_with fail;refine (HC _ f _ _ HX).mono ?_;rintro e w2 ⟨rfl,g2⟩;go_wp2_with fail
   go_returns
   exact ⟨UE (by rw [<-HA.out]<;>omega) rfl,f.trans g2⟩
end

end
section
attribute [local go_sem ↓] Go.wp_at_zero Go.wp_at_succ
open Go.RowKit
section
variable (A:Option Addr) (c:Nat) (xs:List LabE) (T:Tab) (w:World)
theorem Ik (h:TabAt w A c xs T) (hs:SmallT T):
 Calls Tryz.prog 81 #[.agg #[.string T.name,.int .i64 T.tracks,.slice A T.labels.length c]] w λe w'=>∃v,e=.returned v/\OwnL w' w.heap.size 9 1 v ((AQ T).map Eu)/\Grew w w':=by
 have o:=(iW w).alloc (.cells #[.string T.name,.int .i64 T.tracks,.slice A T.labels.length c] 95);have I:=zh (ik w 95 #[.string T.name,.int .i64 T.tracks,.slice A T.labels.length c] rfl);have HV:=zh (G8 A c xs T _ (h.hold o) hs _ rfl);have J:=zh h;have HS:=zh hs;have C:=zh o;have K:=h.name;have aw:=hs.len;have D:=zh (show -9223372036854775808<=T.tracks/\T.tracks<=9223372036854775807 from ⟨h.tr0,h.tr1⟩);clear h hs o;cases hv:Bf T with
 | false=>
   have HE:=zh (show AQ T=[] from by unfold AQ;rw [if_neg (by rw [hv];simp)]);have p:=zh hv;clear hv;go_enter Tryz.func81,Tryz.ntmps81;go_wp2_with fail;refine HV.mono ?_;rintro e w1 ⟨rfl,g1⟩;rw [p.out];go_wp2_with fail;go_ret;exact ⟨_,rfl,by rw [HE.out];exact OwnL.nil _ _ _ _,C.out.trans g1⟩
 | true=>
   have HE:=zh (show AQ T=D7 (Em T T.labels.length) from by unfold AQ;rw [if_pos hv]);have p:=zh hv;have L:=zh (λk hk=>F9 T k hk);have M:=zh (λk hk=>G2 T hv k hk);have N:=zh (λk (hk:k<T.labels.length)=>NX T.tracks ((Af T).1 hv).tr T.labels[k] (((Af T).1 hv).ok _ (ib hk)));have O:=zh (Fu T);clear hv;go_enter Tryz.func81,Tryz.ntmps81;go_wp2_with fail;refine HV.mono ?_;rintro e w1 ⟨rfl,g1⟩;rw [p.out];have j:=zh (I.grew g1);have P:=zh (C.out.trans g1);have x0:=j.cell 0;have x1:=j.cell 1;have q:=j.out.lt;clear g1;go_wp2_with fail;refine (Ll T.name T.tracks _ K).mono ?_;rintro e w2 ⟨rfl,g2⟩;have r:=zh (j.grew g2);have Q:=zh (P.out.trans g2);clear x0 x1 q g2;have x2:=r.cell 2;have q:=r.out.lt;go_wp2_with fail
   go_loopg [3,18] T.labels.length (λgk sv i wr=>∃k:Nat,k<=T.labels.length/\gk=T.labels.length - k/\i=.int .i64 k/\sv=.string (Em T k)/\Blk wr w.heap.size 95 #[.string T.name,.int .i64 T.tracks,.slice A T.labels.length c]/\Grew w wr)
   case atStart=>exact ⟨0,oo,oo,rfl,by rw [O.out],r,Q⟩
   case round=>
    obtain ⟨k,hk,g,rfl,rfl,hb,hg⟩:=hrel;have t:=zh g;have HB:=zh hb;have HG:=zh hg;have m:=M.out k hk;clear g x2 q;by_cases f:k<T.labels.length
    . obtain ⟨b,a9,B,d,l,rfl,bb,ap,hv,H,c0,c1,c2,c3,c4⟩:=(J.hold hg).at_ f;have R:=HS.ext T.labels[k] (ib f);rw [hv] at R;have hn:=L.out k f;rw [hv] at hn;have HN:=zh hn;have hz:=N.out k f;rw [hv] at hz;have a0:(Cz l T.tracks).size<=1024:=oo;have a1:(Em T k).size<=2000000:=oo;have n:Grew wr (wr.alloc (.cells #[.int .i64 l.id,.int .i64 l.unit,.string l.name,.string l.note,.slice B l.ext.length d] 101)):=(iW wr).alloc _;have S:=zh (H.hold n);have a2:=zh (ik wr 101 #[.int .i64 l.id,.int .i64 l.unit,.string l.name,.string l.note,.slice B l.ext.length d] rfl);have U:=zh (hb.grew n);have V:=zh (hg.trans n);have x1:=hb.cell 1;have a3:=hb.lt;clear hn hz m hv ap H hb hg n;go_wp2_with fail;refine (Np B d l T.tracks _ S oo D.1 D.2).mono ?_;rintro e w4 ⟨rfl,g4⟩;have W:=zh (U.grew g4);have X:=zh (V.out.trans g4);clear c0 c1 c2 c3 c4 x1 g4;go_wp2_with fail
      go_roundg (T.labels.length - (k+1))
      case measure=>rw [t.out];omega
      case rel=>exact ⟨k+1,oo,oo,by go_num,by rw [HN.out],W,X⟩
    . have u:k=T.labels.length:=oo;subst u;obtain ⟨s,hs⟩:∃s,Em T T.labels.length=s:=⟨_,rfl⟩;rw [hs] at m ⊢;have Y:=zh (HE.out.trans (by rw [hs]));have x:=Bu s;have E:s.size=1024*(T.labels.length+1):=m;have Z:=zh E;have F:=TM s;have ad:=zh F;clear hs m hb hg F E;go_wp2_with fail
      go_loopg [3,6] (s.size / 128) (λgk av ov wr'=>∃k:Nat,k<=s.size / 128/\gk=s.size / 128 - k/\av=.string (Ek s k)/\OwnL wr' w.heap.size 9 1 ov (((D7 s).take k).map Eu)/\Grew w wr')
      case atStart=>exact ⟨0,oo,oo,by rw [ad.out],OwnL.nil _ _ _ _,HG⟩
      case round=>
       obtain ⟨k,hk,g,rfl,z,hg⟩:=hrel;have t:=zh g;have af:=hg.size;clear g;have y:=No s k oo;have G:=Z.out;by_cases f:k<s.size / 128
       . have a4:(Ek s k).toList.isEmpty=false:=by
          cases hq:(Ek s k).toList with
          | nil=>
            have h9:Ek s k=⟨#[]⟩:=GA (by rw [ByteArray.toList_eq] at hq;simpa using hq);have h8:=ix ByteArray.size h9;rw [y] at h8;have h6:s.size - 128*k=0:=h8;omega
          | cons a l=>rfl
         have a5:128<=(Ek s k).size:=oo;have HT:=zh (Pe s k oo);have HH:=zh (T6 s k oo);have HN:=zh (Ud s k oo);have a6:((D7 s).take k).length<=100000:=by rw [je];omega
         clear y x G;go_wp2_with (at_builtin;refine AY rfl _ _ 24 rfl w.heap.size 9 1 16 _ Tryz.underlying24 R3 rfl qd _ _ (((D7 s).take k).map Eu) (Eu ((Ek s k).extract 0 128)) (by rfl) rfl rfl z (by first | rfl | (simp;done)) rfl rfl (by rw [iY];omega) (by rw [iY];omega) af ?_;intro v' w5 al an a7 a8)
         go_roundg (s.size / 128 - (k+1))
         case measure=>rw [t.out];omega
         case rel=>exact ⟨k+1,oo,oo,by rw [<-HN.out],by rw [HT.out,il,<-HH.out];exact al,an _ hg (iX _)⟩
       . have u:128*k=s.size:=oo
         have he:Ek s k=⟨#[]⟩:=by
          apply ByteArray.ext;apply Array.eq_empty_of_size_eq_zero;show (Ek s k).size=0;omega
         have HF:=zh (show (D7 s).take k=D7 s from i8 (by rw [x];omega));have HO:=zh z;have ag:=zh hg;rw [he];clear u he z hg y x G;go_wp2_with fail;go_ret;exact ⟨_,rfl,by have:=HO.out;rw [HF.out] at this;rw [Y.out];exact this,ag⟩
end

theorem Nl (T U:Tab) (h:(AQ T).length=0\/(AQ U).length=0):B6 T U=[]:=by
 unfold B6;split
 . rename_i hc;have h0:(AQ T).length=0:=oo;rw [h0];rfl
 . rfl
theorem VJ (T U:Tab) (h:¬T.tracks=U.tracks):B6 T U=[]:=by
 unfold B6;rw [if_neg (λhc=>h hc.2)]
theorem Uc (T U:Tab) (h1:(AQ T).length≠0) (h2:(AQ U).length≠0) (ht:T.tracks=U.tracks):B6 T U=Cu (AQ T) (AQ U) (AQ U).length:=by
 have hl:=Sk T U h1 h2 ht;unfold B6;rw [if_pos ⟨hl,ht⟩,hl]
section
variable (A A2:Option Addr) (c c2:Nat) (xs ys:List LabE) (T U:Tab) (w:World)
theorem SX (h:TabAt w A c xs T) (hs:SmallT T) (h2:TabAt w A2 c2 ys U) (q:SmallT U):
 Calls Tryz.prog 85 #[.agg #[.string T.name,.int .i64 T.tracks,.slice A T.labels.length c],.agg #[.string U.name,.int .i64 U.tracks,.slice A2 U.labels.length c2]] w λe w'=>∃v,e=.returned v/\OwnL w' w.heap.size 41 2 v ((B6 T U).map wrC)/\Grew w w':=by
 have B:=((iW w).alloc (.cells #[.string T.name,.int .i64 T.tracks,.slice A T.labels.length c] 95)).alloc (.cells #[.string U.name,.int .i64 U.tracks,.slice A2 U.labels.length c2] 95);have f:=(ik w 95 #[.string T.name,.int .i64 T.tracks,.slice A T.labels.length c] rfl).alloc (.cells #[.string U.name,.int .i64 U.tracks,.slice A2 U.labels.length c2] 95);have a:=ik (w.alloc (.cells #[.string T.name,.int .i64 T.tracks,.slice A T.labels.length c] 95)) 95 #[.string U.name,.int .i64 U.tracks,.slice A2 U.labels.length c2] (n:=w.heap.size+1) qs;have C:=zh f;have D:=zh a;have HT:=zh h;have HU:=zh h2;have HS:=zh hs;have S:=zh q;have l:=zh B;have a6:=JC T hs.len;have a7:=JC U q.len;have b:=zh (show ∀w1:World,Grew ((w.alloc (.cells #[.string T.name,.int .i64 T.tracks,.slice A T.labels.length c] 95)).alloc (.cells #[.string U.name,.int .i64 U.tracks,.slice A2 U.labels.length c2] 95)) w1->(λw':World=>w'.cell? ⟨w.heap.size,0,none⟩=some (.string T.name)/\w'.cell? ⟨w.heap.size,1,none⟩=some (.int .i64 T.tracks)/\w'.cell? ⟨w.heap.size,2,none⟩=some (.slice A T.labels.length c)/\w'.cell? ⟨w.heap.size+1,0,none⟩=some (.string U.name)/\w'.cell? ⟨w.heap.size+1,1,none⟩=some (.int .i64 U.tracks)/\w'.cell? ⟨w.heap.size+1,2,none⟩=some (.slice A2 U.labels.length c2)) w1 from λw1 g=>⟨(f.grew g).cell 0,(f.grew g).cell 1,(f.grew g).cell 2,(a.grew g).cell 0,(a.grew g).cell 1,(a.grew g).cell 2⟩);have hS:=b.out _ (iW ((w.alloc (.cells #[.string T.name,.int .i64 T.tracks,.slice A T.labels.length c] 95)).alloc (.cells #[.string U.name,.int .i64 U.tracks,.slice A2 U.labels.length c2] 95))).drew;have m:=zh ((iW ((w.alloc (.cells #[.string T.name,.int .i64 T.tracks,.slice A T.labels.length c] 95)).alloc (.cells #[.string U.name,.int .i64 U.tracks,.slice A2 U.labels.length c2] 95))).drew);clear h hs h2 q f a B;go_enter Tryz.func85,Tryz.ntmps85;go_wp2_with fail;obtain ⟨w0,z⟩:∃w0,w0=(w.alloc (.cells #[.string T.name,.int .i64 T.tracks,.slice A T.labels.length c] 95)).alloc (.cells #[.string U.name,.int .i64 U.tracks,.slice A2 U.labels.length c2] 95):=⟨_,rfl⟩;have a8:w0.heap.size=w.heap.size+2:=by rw [z];simp
 rw [<-z] at C D l b m hS ⊢;clear z;refine AB [] (λw':World=>w'.cell? ⟨w.heap.size,0,none⟩=some (.string T.name)/\w'.cell? ⟨w.heap.size,1,none⟩=some (.int .i64 T.tracks)/\w'.cell? ⟨w.heap.size,2,none⟩=some (.slice A T.labels.length c)/\w'.cell? ⟨w.heap.size+1,0,none⟩=some (.string U.name)/\w'.cell? ⟨w.heap.size+1,1,none⟩=some (.int .i64 U.tracks)/\w'.cell? ⟨w.heap.size+1,2,none⟩=some (.slice A2 U.labels.length c2)) qk ?_;refine tT 0 (some 9) hS ?_;refine tT 2 (some 11) hS ?_;refine tO 1 λK' hK=>?_;go_wp2_with fail;refine (Ik A c xs T _ (HT.hold (l.out.trans m)) HS).mono ?_;rintro e w3 ⟨v3,rfl,I,g3⟩;have G3:=m.out.trans g3;obtain ⟨A3,c3,rfl,a2,a3,M⟩:=I.listAt;go_wp2_with fail;refine hK.out _ _ (.inr (λ_=>b _ G3)) ?_;clear hK hS;have hS:=b.out _ G3;refine tO 3 λK' hK=>?_;go_wp2_with fail;refine (Ik A2 c2 ys U _ (HU.hold (l.out.trans G3)) S).mono ?_;rintro e w4 ⟨v4,rfl,J,g4⟩;have G4:=G3.trans g4;obtain ⟨A4,c4,rfl,a4,a5,N⟩:=J.listAt;go_wp2_with fail;refine hK.out _ _ (.inr (λ_=>b _ G4)) ?_;clear hK hS;have hS:=b.out _ G4;refine tQ 4 5 ?_;refine tQ 5 6 ?_;refine AA qk ?_ _;have r:=zh (C.grew G4);have s:=zh (D.grew G4);have j:=zh (l.out.trans G4);have V:=zh (M.keep (iX _) g4);have W:=zh N;have a9:w3.heap.size<=w4.heap.size:=g4.size;have x1:=r.cell 1;have u1:=s.cell 1;have bb:=r.out.lt;have bc:=s.out.lt;clear hS I J M N g3 g4 G3 G4 a2 a4 a3 a5 b m;have bf:(((AQ T).map Eu).length)=(AQ T).length:=iY ..;by_cases h0:(AQ T).length=0
 . have hb:(((AQ T).length:Int)==0)=true:=by rw [jy];omega
   have HD:=zh (Nl T U (.inl h0));clear h0;go_wp2_with fail;go_ret;exact ⟨_,rfl,by rw [HD.out];exact OwnL.nil _ _ _ _,j⟩
 have hb:(((AQ T).length:Int)==0)=false:=by rw [it];omega
 by_cases h1:(AQ U).length=0
 . have hc:(((AQ U).length:Int)==0)=true:=by rw [jy];omega
   have HD:=zh (Nl T U (.inr h1));clear h0 h1;go_wp2_with fail;go_ret;exact ⟨_,rfl,by rw [HD.out];exact OwnL.nil _ _ _ _,j⟩
 have hc:(((AQ U).length:Int)==0)=false:=by rw [it];omega
 by_cases ht:T.tracks=U.tracks;rotate_left
 . have hd:(T.tracks != U.tracks)=true:=by rw [jH];exact ht
   have HD:=zh (VJ T U ht);clear h0 h1 ht;go_wp2_with fail;go_ret;exact ⟨_,rfl,by rw [HD.out];exact OwnL.nil _ _ _ _,j⟩
 have hd:(T.tracks != U.tracks)=false:=by rw [kS];exact ht
 have HD:=zh (Uc T U h0 h1 ht);have E:=Sk T U h0 h1 ht;have Z:=zh (λk (h1:k<(AQ T).length) (h2:k<(AQ U).length)=>Z2 (AQ T) (AQ U) k h1 h2);have ad:=zh (λk (h1:k<(AQ T).length) (h2:k<(AQ U).length)=>bA (AQ T) (AQ U) k h1 h2);have af:=zh E;clear h0 h1 ht x1 u1 E;have x1:=r.cell 1;have u1:=s.cell 1;generalize AQ T=X at*
 generalize AQ U=Y at*
 go_wp2_with fail
 go_loopg [7,30] Y.length (λgk ov i wr=>∃k:Nat,k<=Y.length/\gk=Y.length - k/\i=.int .i64 k/\OwnL wr w4.heap.size 41 2 ov ((Cu X Y k).map wrC)/\Grew w4 wr)
 case atStart=>exact ⟨0,oo,oo,rfl,OwnL.nil _ _ _ _,iW _⟩
 case round=>
  obtain ⟨k,hk,O,rfl,p,hg⟩:=hrel;have F:=zh O;have HG:=zh hg;have o:=hg.size;clear O hb hc hd x1 u1;by_cases u:k<Y.length
  . have t:k<X.length:=by have:=af.out;omega
    obtain ⟨b1,o1,rfl,a,P⟩:=V.out (by rw [iY];omega);obtain ⟨b2,o2,rfl,Q,R⟩:=W.out (by rw [iY];omega);obtain ⟨x,hx⟩:∃x,X[k]=x:=⟨_,rfl⟩;obtain ⟨y,hy⟩:∃y,Y[k]=y:=⟨_,rfl⟩;have a:b1<w4.heap.size:=oo
    have q0:wr.cell? ⟨b1,o1+k,none⟩=some (.string x):=by
     rw [hg.cellEq _ _ a];have:=P k (Eu x) (by rw [iZ,iV t,hx];rfl) 0 _ rfl;simpa using this
    have p0:wr.cell? ⟨b2,o2+k,none⟩=some (.string y):=by
     rw [hg.cellEq _ _ Q];have:=R k (Eu y) (by rw [iZ,iV u,hy];rfl) 0 _ rfl;simpa using this
    have ag:=ig a o;have G:=ig Q o;have hS:(λw':World=>w'.cell? ⟨b1,o1+k,none⟩=some (.string x)/\w'.cell? ⟨b2,o2+k,none⟩=some (.string y)) wr.drew:=⟨q0,p0⟩;have H:=zh p;have bk:=XS X Y k;clear P R hg p;by_cases he:x=y
    . have HQ:=zh (show (x.toList==y.toList)=true from by rw [he,jy]);have HN:=zh (show Cu X Y (k+1)=Cu X Y k from Z.out k t u (by rw [hx,hy,he]));clear he hx hy;go_wp2_with fail;refine AB [] (λw':World=>w'.cell? ⟨b1,o1+k,none⟩=some (.string x)/\w'.cell? ⟨b2,o2+k,none⟩=some (.string y)) qk ?_;refine tQ 0 33 ?_;refine tQ 1 34 ?_;refine tQ 2 35 ?_;refine tT 3 (some 36) hS ?_;refine tQ 4 37 ?_;refine tQ 5 38 ?_;refine tQ 6 39 ?_;refine tT 7 (some 40) hS ?_;refine tQ 8 41 ?_
      try rw [HQ.out]
      refine AA qk ?_ _;clear hS q0 p0;go_wp2_with fail
      go_roundg (Y.length - (k+1))
      case measure=>rw [F.out];omega
      case rel=>exact ⟨k+1,oo,oo,by go_num,by rw [HN.out];exact H.drew,HG.drew⟩
    . have HQ:=zh (show (x.toList==y.toList)=false from it.2 (λe=>he (GA (by simpa [ByteArray.toList_eq] using e))));have HN:=zh (show Cu X Y (k+1)=Cu X Y k++[((k:Int),y)] from by rw [ad.out k t u (by rw [hx,hy];exact he),hy]);clear he hx hy;go_wp2_with fail;refine AB [] (λw':World=>w'.cell? ⟨b1,o1+k,none⟩=some (.string x)/\w'.cell? ⟨b2,o2+k,none⟩=some (.string y)) qk ?_;refine tQ 0 33 ?_;refine tQ 1 34 ?_;refine tQ 2 35 ?_;refine tT 3 (some 36) hS ?_;refine tQ 4 37 ?_;refine tQ 5 38 ?_;refine tQ 6 39 ?_;refine tT 7 (some 40) hS ?_;refine tQ 8 41 ?_
      try rw [HQ.out]
      refine AA qk ?_ _;clear hS;obtain ⟨wz,d⟩:∃wz,wz=wr.drew:=⟨_,rfl⟩;have al:=zh (show OwnL wz w4.heap.size 41 2 _ ((Cu X Y k).map wrC) from by rw [d];exact H.drew);have an:=zh (show Grew w4 wz from by rw [d];exact HG.drew);have p0:wz.cell? ⟨b2,o2+k,none⟩=some (.string y):=by rw [d];exact p0
      have G:b2<wz.heap.size:=by rw [d];exact G
      have ap:w4.heap.size<=wz.heap.size:=by rw [d];exact o
      rw [<-d];clear d q0 o ag;go_wp2_with (at_builtin;refine AY rfl _ _ 37 rfl w4.heap.size 41 2 24 _ Tryz.underlying37 Ul rfl qd wz _ ((Cu X Y k).map wrC) (wrC ((k:Int),y)) (by rfl) rfl rfl al (by first | rfl | (simp;done)) rfl rfl (by rw [iY];omega) (by rw [iY];omega) ap ?_;intro v' w5 K L a1 bl);have av:=zh K;have aw:=zh (L _ an (iX _));clear K L a1 p0
      go_roundg (Y.length - (k+1))
      case measure=>rw [F.out];omega
      case rel=>exact ⟨k+1,oo,oo,by go_num,by rw [HN.out,il];exact av.out,aw⟩
  . have a0:k=Y.length:=oo;subst a0;have HO:=zh (p.lower2 (b':=w.heap.size) (by have:=j.size;omega));clear p hg;go_wp2_with fail;go_ret;exact ⟨_,rfl,by rw [HD.out];exact HO.out,j.out.trans HG⟩
end

end
section
open Go.RowKit
theorem YQ (a:List (Nat × Nat)) (t:Nat) (h:∀r∈a,1<=r.2):∀r∈GM a t,1<=r.2:=by
 rcases Hx a with rfl | ⟨i,x,rfl⟩
 . rw [LF];intro r hr;rw [ia.1 hr];exact iX _
 . rw [EB];split
   . intro r hr;rcases ip.1 hr with hr | hr
     . exact h r (jQ _ hr)
     . rw [ia.1 hr];exact Nat.le_add_left _ _
   . intro r hr;rcases ip.1 hr with hr | hr
     . exact h r hr
     . rw [ia.1 hr];exact iX _
theorem Wj (s:List Nat):∀r∈JM s,1<=r.2:=by
 have b:∀(s:List Nat) (a:List (Nat × Nat)),(∀r∈a,1<=r.2)->∀r∈s.foldl GM a,1<=r.2:=by
  intro s
  induction s with
  | nil=>intro a h;exact h
  | cons t s ih=>intro a h;exact ih _ (YQ a t h)
 exact b s [] (λr hr=>by cases hr)
theorem M4 (Z:List (Nat × Nat)) (hp:∀r∈Z,1<=r.2) (hg:Z.Pairwise λa b=>a.1+a.2≠b.1):JM (C7 Z)=Z:=by
 have c:∀(Z I:List (Nat × Nat)),(∀r∈Z,1<=r.2)->(I++Z).Pairwise (λa b=>a.1+a.2≠b.1)->(C7 Z).foldl GM I=I++Z:=by
  intro Z
  induction Z with
  | nil=>intro I _ _;simp [C7]
  | cons x Z ih=>
    intro I hp hg;have h1:=hp x (jA ..)
    have e:CP I (x.1,x.2)=I++[x]:=by
     rcases Hx I with rfl | ⟨i,y,rfl⟩
     . unfold CP;rw [if_neg (by simp only [];omega),if_neg (λh=>h.1 rfl)]
     . rw [H9 i y (x.1,x.2) (by simp only [];omega),if_neg (by
        have:=(pairwise_append.1 hg).2.2 y qs x qs
        exact this)]
    rw [Fi,jc,<-Ov I x.1 x.2,e,ih (I++[x]) (λr hr=>hp r (iz _ hr)) (by rw [jK];exact hg),jK];rfl
 have:=c Z [] hp (by simpa using hg);simpa [JM] using this
theorem Tz (l:List (Nat × Nat)):BA l 0=[]:=by cases l<;>simp [BA]
theorem PW:∀(l:List (Nat × Nat)) (n:Nat),∀b∈BA l n,∃c∈l,b.1=c.1
 | [],n,b,hb=>by simp [BA] at hb
 | r::l,n,b,hb=>by
   unfold BA at hb;split at hb
   . cases hb
   . rcases jh.1 hb with rfl | hb
     . exact ⟨r,jA ..,rfl⟩
     . obtain ⟨c,hc,e⟩:=PW l _ b hb;exact ⟨c,iz _ hc,e⟩
theorem NT:∀(l:List (Nat × Nat)) (n:Nat),l.Pairwise (λa b=>a.1+a.2≠b.1)->(BA l n).Pairwise (λa b=>a.1+a.2≠b.1)
 | [],n,_=>by simp [BA]
 | r::l,n,h=>by
   obtain ⟨h1,h2⟩:=jx.1 h;unfold BA;split
   . exact Pairwise.nil
   . refine jx.2 ⟨λb hb=>?_,NT l _ h2⟩;obtain ⟨c,hc,e⟩:=PW l _ b hb;by_cases h0:n - min r.2 n=0
     . rw [h0,Tz] at hb;cases hb
     . have:=h1 c hc;rw [e];simp only [];omega
theorem YF (S:Nat->Bool):(Bv (AK S)).Pairwise (λa b=>a.1+a.2≠b.1):=by
 have h0:(AK S).Pairwise (λa b=>a.1+a.2≠b.1/\b.1+b.2≠a.1):=(Jq S 128).1.imp (λ{a b} h=>⟨oo,oo⟩);have hp:=F3 _ (Cy S) (EN S);have h1:=(hp.pairwise_iff (λ{a b} h=>⟨h.2,h.1⟩)).1 h0;exact h1.imp (λh=>h.1)
theorem TK (S:Nat->Bool) (n a:Int) (h:(Bg S n a).2=0):JM (C7 (Bg S n a).1)=(Bg S n a).1:=by
 unfold Bg at h ⊢;by_cases h1:n<1\/a<1
 . rw [if_pos h1] at h;exact absurd h qd
 rw [if_neg h1] at h ⊢;by_cases h2:(Bw n (AK S)).2≠0
 . rw [if_pos h2];exact M4 _ (λr hr=>by rw [ia.1 hr];simp only [];omega) (pairwise_singleton ..)
 rw [if_neg h2] at h ⊢;by_cases h3:n.toNat - CM (Bv (AK S))≠0\/a<((BA (Bv (AK S)) n.toNat).length:Int)
 . rw [if_pos h3] at h;exact absurd h qd
 rw [if_neg h3];exact M4 _ (WW _ _ (λr hr=>(Cy S r ((Gi _ (Cy S) r).1 hr)).1)) (NT _ _ (YF S))
theorem fN (l:List (Int × Int)) (t:Int) (ht:okT t=true) (h:l.any (GH t)=false):∀i∈CZ l,ttS t<=(i:Int)/\(i:Int)<t:=by
 intro i hi;have a:=MF l i hi;have hm:=(FG l i).1 hi;unfold AH at hm;obtain ⟨r,hr,b⟩:=j6.1 hm;have hb:=jT.1 h r hr;have hs:=aP r.1 r.2 i a;rw [show (r.1,r.2)=r from rfl,b] at hs;have c:=jC hs.symm;unfold GH at hb;simp only [Bool.or_eq_true,jG,not_or] at hb;unfold ttS at hb ⊢;rw [if_pos ht] at hb ⊢;unfold okT at ht;have d:=jC ht;omega
theorem fQ (Z:List (Nat × Nat)) (t:Int) (hp:∀r∈Z,1<=r.2) (h:∀i∈C7 Z,ttS t<=(i:Int)/\(i:Int)<t):(Cq Z).any (GH t)=false:=by
 rw [jT];intro r hr;unfold Cq at hr;obtain ⟨z,hz,rfl⟩:=ie.1 hr;have a:=hp z hz;have h1:=h z.1 (List.mem_flatMap.2 ⟨z,hz,(Ka z _).2 ⟨iX _,oo⟩⟩);have h2:=h (z.1+z.2 - 1) (List.mem_flatMap.2 ⟨z,hz,(Ka z _).2 ⟨oo,oo⟩⟩);unfold GH;simp only [Bool.or_eq_true,jG,not_or];omega
theorem Zo (t:Int) (x:Lab) (Z:List (Nat × Nat)) (ht:okT t=true) (d:idB x=true) (b:txB x=true) (hZ:x.ext=Cq Z) (hj:JM (C7 Z)=Z) (hb:∀r∈Z,r.1+r.2<=128) (h1:1<=Z.length) (a:Z.length<=16) (e:(C7 Z).Nodup) (c:∀i∈C7 Z,ttS t<=(i:Int)/\(i:Int)<t):BZ x t=true:=by
 have f:∀r∈Z,1<=r.2:=λr hr=>Wj (C7 Z) r (by rw [hj];exact hr);have hc:cnB x=true:=by unfold cnB;rw [hZ,Dw];exact iq ⟨h1,a⟩
 have g:jnB x=true:=by
  unfold jnB;rw [hZ,Yk,Er Z hb,hj,jF];exact ⟨iq rfl,iq e⟩
 have hi:inB x t=true:=by unfold inB;rw [hZ,fQ Z t f c];rfl
 unfold BZ;rw [ht,d,b,hc,g,hi];rfl
theorem UN (l:Lab) (t:Int) (h:BZ l t=true):Cq (FK l.ext)=l.ext/\(CZ l.ext).Nodup/\(∀i∈CZ l.ext,ttS t<=(i:Int)/\(i:Int)<t)/\1<=l.ext.length/\l.ext.length<=16/\(FK l.ext).length=l.ext.length:=by
 obtain ⟨h1,h2,h3,h4,h5,h6⟩:=KI l t h;unfold jnB at h5;rw [jF] at h5;have e:=jC h5.1;unfold inB at h6;unfold cnB at h4;have a:=jC h4;have h7:(FK l.ext).length=l.ext.length:=by rw [<-Dw (FK l.ext),e]
 exact ⟨e,jC h5.2,fN _ t h1 (by simpa using h6),a.1,a.2,h7⟩

theorem YZ (l:Lab) (h:l.id≠0):emL l=false:=by
 cases he:emL l with
 | false=>rfl
 | true=>rw [(I8 l).1 he] at h;exact absurd rfl h
theorem fnd_len (T:Tab) (hs:SmallT T) (id a:Int):(C4 T id a).1.ext.length<=1000:=by
 rcases IB T id a with ⟨k,hk,_,h,_⟩ | ⟨_,h,_⟩
 . rw [h];exact hs.ext _ (ib hk)
 . rw [h];decide

theorem PG {α:Type _} (ls:List α) (k:Nat) (hk:k<ls.length) (x:α):ls.set k x=ls.take k++x::ls.drop (k+1):=by
 rw [set_eq_take_append_cons_drop,if_pos hk]
theorem Hy {α:Type _} (ls:List α) (k:Nat) (hk:k<ls.length):ls=ls.take k++ls[k]::ls.drop (k+1):=by
 rw [<-jz hk,kK]
theorem Pk (a b:List Lab):CK (a++b)=CK a++CK b:=by unfold CK;rw [j8,il]
theorem Md (x:Lab) (b:List Lab):CK (x::b)=(if emL x=true then [] else [Qc x])++CK b:=by
 unfold CK;rw [filter_cons];cases h:emL x<;>simp
theorem I4 (a b:List Lab):CG (a++b)=CG a++CG b:=by simp [CG]
theorem He (x:Lab) (b:List Lab):CG (x::b)=x.ext++CG b:=rfl
theorem Pv (ls:List Lab) (p:Int × Bool) (h:p∈CK ls):∃(j:Nat) (hj:j<ls.length),emL ls[j]=false/\Qc ls[j]=p:=by
 unfold CK at h;obtain ⟨l,hl,rfl⟩:=ie.1 h;obtain ⟨hm,he⟩:=jV.1 hl;obtain ⟨j,hj,rfl⟩:=List.getElem_of_mem hm;exact ⟨j,hj,by simpa using he,rfl⟩
theorem PV {α:Type _} {A K0 K D:List α} (h:(A++(K0++D)).Nodup) (hK:K.Nodup) (hA:∀a∈A,∀b∈K,a≠b) (hD:∀a∈K,∀b∈D,a≠b):(A++(K++D)).Nodup:=by
 obtain ⟨h1,h2,h3⟩:=jg.1 h;obtain ⟨_,h5,_⟩:=jg.1 h2;refine jg.2 ⟨h1,jg.2 ⟨hK,h5,hD⟩,λa ha b hb=>?_⟩;rcases ip.1 hb with hb | hb
 . exact hA a ha b hb
 . exact h3 a ha b (jI _ hb)
theorem aY (T:Tab) (h:GoodT T) (k:Nat) (hk:k<T.labels.length) (x:Lab) (hx:emL x=true\/BZ x T.tracks=true)
 (d:emL x=true\/∀j (hj:j<T.labels.length),j≠k->emL T.labels[j]=false->Qc T.labels[j]≠Qc x)
 (g:(CZ x.ext).Nodup) (f:∀t∈CZ x.ext,t∈CZ T.labels[k].ext\/t ∉ CZ (CG T.labels)):GoodT { T with labels:=T.labels.set k x }:=by
 refine ⟨h.tr,h.nm,?_,?_,?_,?_⟩
 . rw [<-h.len];simp
 . intro l hl;rcases jE hl with hl | rfl
   . exact h.ok l hl
   . exact hx
 . have h0:=h.keys;show (CK (T.labels.set k x)).Nodup;rw [Hy T.labels k hk,Pk,Md] at h0;rw [PG _ k hk,Pk,Md];refine PV h0 ?_ ?_ ?_
   . split<;>simp
   . intro a ha b hb;split at hb
     . cases hb
     . rename_i he;rw [ia.1 hb];obtain ⟨j,hj,e1,e2⟩:=Pv _ _ ha;rw [je] at hj;rw [getElem_take] at e1 e2;rw [<-e2];rcases d with c | c
       . exact absurd c he
       . exact c j oo oo e1
   . intro a ha b hb;split at ha
     . cases ha
     . rename_i he;rw [ia.1 ha];obtain ⟨j,hj,e1,e2⟩:=Pv _ _ hb;rw [length_drop] at hj;rw [getElem_drop] at e1 e2;rw [<-e2];rcases d with c | c
       . exact absurd c he
       . exact λe=>c (k+1+j) oo oo e1 e.symm
 . have h0:=h.seq;show (CZ (CG (T.labels.set k x))).Nodup;rw [Hy T.labels k hk,I4,He,DT,DT] at h0;rw [PG _ k hk,I4,He,DT,DT];obtain ⟨_,g2,g3⟩:=jg.1 h0;obtain ⟨_,_,g6⟩:=jg.1 g2;refine PV h0 g (λa ha b hb e=>?_) (λa ha b hb e=>?_)
   . subst e;rcases f a hb with hc | hc
     . exact g3 a ha a (jQ _ hc) rfl
     . refine hc ?_;rw [Hy T.labels k hk,I4,He,DT];exact jQ _ ha
   . subst e;rcases f a ha with hc | hc
     . exact g6 a hc a hb rfl
     . refine hc ?_;rw [Hy T.labels k hk,I4,He,DT,DT];exact jI _ (jI _ hb)
def Og (a b:List Lab):Nat:=(a.zip b).countP λp=>!eqL p.1 p.2
theorem Gs (x y:Lab) (a b:List Lab):Og (x::a) (y::b)=Og a b+if eqL x y=true then 0 else 1:=by
 unfold Og;rw [zip_cons_cons,countP_cons];cases h:eqL x y<;>simp
theorem XI (a:List Lab):Og a a=0:=by
 induction a with
 | nil=>rfl
 | cons x a ih=>rw [Gs,ih,if_pos ((J2 x x).2 rfl)]
theorem SO:∀(a c:List Lab) (k:Nat) (x:Lab),Og (a.set k x) c<=Og a c+1
 | [],c,k,x=>by simp [Og]
 | y::a,[],k,x=>by unfold Og;simp
 | y::a,z::c,0,x=>by
   rw [set_cons_zero,Gs,Gs];split<;>split<;>omega
 | y::a,z::c,k+1,x=>by
   rw [set_cons_succ,Gs,Gs];have:=SO a c k x;omega
structure KeepT (T U:Tab) (m:Nat):Prop where
 good:GoodT U
 name:U.name=T.name
 tracks:U.tracks=T.tracks
 len:U.labels.length=T.labels.length
 diff:Og U.labels T.labels<=m
theorem KeepT.refl (T:Tab) (h:GoodT T):KeepT T T 0:=⟨h,rfl,rfl,rfl,by rw [XI];exact iX _⟩
theorem KeepT.set {T U:Tab} {m:Nat} (h:KeepT T U m) (k:Nat) (x:Lab) (hg:GoodT { U with labels:=U.labels.set k x }):KeepT T { U with labels:=U.labels.set k x } (m+1):=
 ⟨hg,h.name,h.tracks,by rw [<-h.len];simp,by have:=SO U.labels T.labels k x;have:=h.diff;show Og (U.labels.set k x) T.labels<=_;omega⟩
theorem bp (T:Tab) (h:GoodT T) (i:Nat):AH (FU T) i=true->(ttS T.tracks<=(i:Int)/\(i:Int)<T.tracks)/\AH (CG T.labels) i=false:=by
 intro hm;have a:=di _ _ hm;unfold FU at hm;rw [if_pos ((Af T).2 h)] at hm;unfold OU at hm;rw [T1 _ i a,jF,kM] at hm;unfold PH at hm;exact ⟨jC hm.1,hm.2⟩
theorem Wg (T:Tab) (h:GoodT T) (id a:Int) (k:Nat) (hk:k<T.labels.length) (hh:MA id a T.labels[k]=true):emL T.labels[k]=false/\BZ T.labels[k] T.tracks=true:=by
 obtain ⟨h1,h2,_⟩:=(aE _ _ _).1 hh;have he:=YZ _ (by rw [h2];exact h1);refine ⟨he,?_⟩;rcases h.ok _ (ib hk) with h3 | h3
 . rw [he] at h3;cases h3
 . exact h3
theorem Qs (Z:List (Nat × Nat)) (h:(C7 Z).length≠0):1<=Z.length:=by
 cases Z with
 | nil=>exact absurd rfl h
 | cons x Z=>simp
theorem Hl (T U:Tab) (id a:Int) (nm nt:ByteArray) (n:Int) (h:CI T id a nm nt n=(U,0)):KeepT T U 1:=by
 unfold CI at h;by_cases h1:Bf T=true/\PX id a nm nt n;rotate_left
 . rw [if_neg h1] at h;injection h with _ h;exact absurd h qd
 rw [if_pos h1] at h;by_cases h2:T.labels.any (IM id)=true
 . rw [if_pos h2] at h;injection h with _ h;exact absurd h qd
 rw [if_neg h2] at h;by_cases h3:H6 emL T.labels<0
 . rw [if_pos h3] at h;injection h with _ h;exact absurd h qd
 rw [if_neg h3] at h;by_cases h4:(Bg (AH (FU T)) n 16).2=0;rotate_left
 . rw [if_neg h4] at h;injection h with _ h;exact absurd h qd
 rw [if_pos h4] at h;injection h with h _;subst h;obtain ⟨hv,i1,i2,i3,i4,i5,i6,i7⟩:=h1;have hg:=(Af T).1 hv;rcases Hh emL T.labels with ⟨k,hk,e,hp,_⟩ | ⟨e,_⟩;rotate_left
 . omega
 rw [e,i9];rcases ZO (FU T) n 16 i7 qd with ⟨x,hx,a1,a2,a3,a4,a5⟩ | ⟨hx,_⟩;rotate_left
 . rw [hx] at h4;exact absurd h4 qd
 have hj:=TK _ _ _ h4;rw [hx] at hj ⊢;simp only [] at hj ⊢;have b:CZ (Cq x)=C7 x:=Er x a5;have c:∀i∈CZ (Cq x),(ttS T.tracks<=(i:Int)/\(i:Int)<T.tracks)/\AH (CG T.labels) i=false:=λi hi=>bp T hg i (a4 i ((FG _ i).1 hi));refine (KeepT.refl T hg).set k _ (aY T hg k hk _ (.inr ?_) (.inr ?_) a3 (λt ht=>.inr (λhm=>?_)))
 . refine Zo T.tracks _ x hg.tr ?_ ?_ rfl hj a5 ?_ oo (by rw [<-b];exact a3) (λi hi=>(c i (by rw [b];exact hi)).1)
   . unfold idB;exact iq ⟨i1,i2,by show 0<=a;omega,i4⟩
   . unfold txB;exact iq ⟨i5,i6⟩
   . refine Qs x ?_;rw [<-b,KX];omega
 . intro j hj _ _ he;unfold Qc at he;injection he with e1 e2;have hu:decide (0<a)=true:=iq oo;refine h2 (j6.2 ⟨_,ib hj,?_⟩);unfold IM;simp only [] at e1 e2;rw [e2,e1,hu];simp
 . have:=(c t ht).2;rw [(FG _ t).1 hm] at this;cases this

end
end Go.Proofs.YtmcgbdemcknkaaaGreatDoor
