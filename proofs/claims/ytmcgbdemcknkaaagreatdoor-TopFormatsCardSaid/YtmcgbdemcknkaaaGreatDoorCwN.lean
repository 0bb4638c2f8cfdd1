/- Parts of the proof (packed), 14. -/
import Derived.Test.YtmcgbdemcknkaaaGreatDoorCwK
import Derived.Test.YtmcgbdemcknkaaaGreatDoorCwJ
namespace Go.Proofs.YtmcgbdemcknkaaaGreatDoor
set_option linter.all false
set_option maxRecDepth 100000
set_option maxHeartbeats 16000000
open List
section
open Go.RowKit
def En (s:ByteArray):ByteArray:=s++AO (128 - s.size)
theorem Je {s:ByteArray} (h:s.size<=128):(En s).size=128:=by unfold En;rw [io,BS];omega
def mxN:Int:=1099511627776
def Lm (a c b:Nat):ByteArray:=eB a++(eB c++eB b)
def BV (a c b:Nat):ByteArray:=En (Lm a c b)
theorem NU (a c b:Nat):(Lm a c b).size<=30:=by
 unfold Lm;rw [io,io];have:=BG a;have:=BG c;have:=BG b;omega
theorem Lr (a c b:Nat):(BV a c b).size=128:=Je (ij (NU a c b) oo)
def FH (s:ByteArray):=BR s 0 mxN
def Eq (s:ByteArray):=BR (FH s).2.1 (FH s).2.2 mxN
def Ej (s:ByteArray):=BR (Eq s).2.1 (Eq s).2.2 mxN
def Q1 (s:ByteArray):Bool:=decide ((Ej s).2.1.size≠0) && decide ((Ej s).2.1=AO (Ej s).2.1.size)
theorem Ng (e:Int) (a:Int) (he:e≠0):BR ⟨#[]⟩ e a=(0,⟨#[]⟩,e):=by
 unfold BR Eh;rw [if_pos he,if_pos he]
theorem Jw (s:ByteArray) (a:Int):((BR s 0 a).2.2=0/\eB (BR s 0 a).1++(BR s 0 a).2.1=s/\((BR s 0 a).1:Int)<=a)\/((BR s 0 a).2.2≠0/\(BR s 0 a).2.1=⟨#[]⟩):=by
 have hw:=UR s;unfold BR;rcases hw with ⟨h1,h2⟩ | ⟨h1,h2⟩
 . rw [if_pos h1];exact .inr ⟨h1,h2⟩
 . rw [if_neg (by rw [h1];simp)];split
   . exact .inr ⟨qs,rfl⟩
   . rename_i hc;exact .inl ⟨h1,h2,oo⟩
theorem Yb {s:ByteArray} (hs:s.size=128) (h:Q1 s=true):BV (FH s).1 (Eq s).1 (Ej s).1=s/\((FH s).1:Int)<=mxN/\((Eq s).1:Int)<=mxN/\((Ej s).1:Int)<=mxN:=by
 unfold Q1 at h;rw [jF,jG,jG] at h;obtain ⟨h1,h2⟩:=h;rcases Jw s mxN with ⟨a1,a2,a3⟩ | ⟨a1,a2⟩;rotate_left
 . exfalso;apply h1;unfold Ej Eq FH;rw [a2,Ng _ _ a1,Ng _ _ a1];rfl
 have e1:(FH s).2.2=0:=a1;rcases Jw (FH s).2.1 mxN with ⟨b1,b2,b3⟩ | ⟨b1,b2⟩;rotate_left
 . exfalso;apply h1;unfold Ej Eq;rw [e1,b2,Ng _ _ b1];rfl
 have e2:Eq s=BR (FH s).2.1 0 mxN:=by unfold Eq;rw [e1]
 rw [<-e2] at b1 b2 b3;rcases Jw (Eq s).2.1 mxN with ⟨c1,c2,c3⟩ | ⟨c1,c2⟩;rotate_left
 . exfalso;apply h1;unfold Ej;rw [b1,c2];rfl
 have e3:Ej s=BR (Eq s).2.1 0 mxN:=by unfold Ej;rw [b1]
 rw [<-e3] at c1 c2 c3;refine ⟨?_,a3,b3,c3⟩
 have a:Lm (FH s).1 (Eq s).1 (Ej s).1++(Ej s).2.1=s:=by
  unfold Lm;rw [jq,jq,c2,b2];exact a2
 have hz:=ix ByteArray.size a;rw [io,hs] at hz;unfold BV En;rw [show 128 - (Lm (FH s).1 (Eq s).1 (Ej s).1).size=(Ej s).2.1.size from oo,<-h2];exact a
theorem QD (n:Nat) (t:ByteArray) (h:(n:Int)<=mxN):BR (eB n++t) 0 mxN=(n,t,0):=by
 have e:eB n++t=⟨(enc n++t.data.toList).toArray⟩:=by
  apply EM;rw [ByteArray.data_append,Array.toList_append];unfold eB;simp
 unfold mxN at h ⊢;rw [e,Eb n t.data.toList 1099511627776 oo h]
theorem aN {a c b:Nat} (ha:(a:Int)<=mxN) (hc:(c:Int)<=mxN) (hb:(b:Int)<=mxN):Q1 (BV a c b)=true/\(FH (BV a c b)).1=a/\(Eq (BV a c b)).1=c/\(Ej (BV a c b)).1=b:=by
 obtain ⟨z,hz⟩:∃z,AO (128 - (Lm a c b).size)=z:=⟨_,rfl⟩;have hs:=NU a c b
 have e:BV a c b=eB a++(eB c++(eB b++z)):=by
  unfold BV En;rw [hz];unfold Lm;rw [jq,jq]
 have h1:FH (BV a c b)=(a,eB c++(eB b++z),0):=by unfold FH;rw [e];exact QD _ _ ha
 have h2:Eq (BV a c b)=(c,eB b++z,0):=by unfold Eq;rw [h1];exact QD _ _ hc
 have h3:Ej (BV a c b)=(b,z,0):=by unfold Ej;rw [h2];exact QD _ _ hb
 refine ⟨?_,by rw [h1],by rw [h2],by rw [h3]⟩;unfold Q1;rw [h3,jF,jG,jG];simp only;rw [<-hz,BS];exact ⟨oo,rfl⟩
def Dp (n:Nat):Nat:=(n+127) / 128
def BK (s:ByteArray):List ByteArray:=(List.range (Dp s.size)).map λi=>En (s.extract (128*i) (min s.size (128*i+128)))
theorem Ee (s:ByteArray):(BK s).length=Dp s.size:=by unfold BK;rw [iY,jr]
theorem PT (s:ByteArray):∀x∈BK s,x.size=128:=by
 intro x hx;unfold BK at hx;obtain ⟨i,_,rfl⟩:=ie.1 hx;exact Je (by rw [i0];omega)
theorem YU (m i j:Nat) (h:j<=m):(AO m).extract i j=AO (j - i):=by
 apply EM;rw [Fz];show ((List.replicate m (0:UInt8)).drop i).take (j - i)=List.replicate (j - i) 0;rw [drop_replicate,take_replicate,Nat.min_eq_left oo]
theorem SS (s:ByteArray):BK s=Eo 128 (s++AO (128*Dp s.size - s.size)) (Dp s.size):=by
 have hN:s.size<=128*Dp s.size:=by unfold Dp;omega
 have b:128*Dp s.size<s.size+128:=by unfold Dp;omega
 unfold BK Eo;apply jO;intro i hi;have a:=jB.1 hi;have c:128*i+128<=128*Dp s.size:=oo;rw [show i*128=128*i from oo,show (i+1)*128=128*i+128 from oo];have h1:128*i<s.size:=by unfold Dp at a;omega
 rw [ByteArray.extract_append,show 128*i - s.size=0 from oo];unfold En;rw [i0];congr 1
 . by_cases h2:128*i+128<=s.size
   . rw [Nat.min_eq_right h2]
   . rw [Nat.min_eq_left oo];have hl:s.data.toList.length=s.size:=qs;apply EM;rw [Fz,Fz,i8 (by rw [length_drop];omega),i8 (by rw [length_drop];omega)]
 . rw [YU _ _ _ oo];congr 1;omega
theorem bn (s:ByteArray):AP (BK s)=s++AO (128*Dp s.size - s.size):=by
 have hN:s.size<=128*Dp s.size:=by unfold Dp;omega
 rw [SS,K4];have hz:(s++AO (128*Dp s.size - s.size)).size=Dp s.size*128:=by rw [io,BS];omega
 rw [<-hz,ByteArray.extract_zero_size]
theorem d9 {ps:List ByteArray} (h:∀p∈ps,p.size=128) {n:Nat} (h1:n<=128*ps.length) (h2:128*ps.length<n+128) (h3:(AP ps).extract n (AP ps).size=AO ((AP ps).size - n)):BK ((AP ps).extract 0 n)=ps:=by
 have hc:=Fp 128 ps h;have hs:((AP ps).extract 0 n).size=n:=by rw [i0];omega
 have hN:Dp n=ps.length:=by unfold Dp;omega
 rw [SS,hs,hN]
 have e:(AP ps).extract 0 n++AO (128*ps.length - n)=AP ps:=by
  rw [show 128*ps.length - n=(AP ps).size - n from oo,<-h3,KA _ _ oo]
 rw [e];exact MT 128 ps h

def Ir (b:ByteArray):ByteArray:=⟨#[b8 b.size,b8 (b.size / 256)]⟩++b
def BB (bs:List ByteArray):ByteArray:=AP (bs.map Ir)
theorem EG (b:ByteArray):(Ir b).size=2+b.size:=by unfold Ir;rw [io];rfl
theorem Ey (b:ByteArray) (bs:List ByteArray):BB (b::bs)=Ir b++BB bs:=rfl
def FS (s:ByteArray):Nat:=at8 s 0+256*at8 s 1
def DR:Nat->ByteArray->List ByteArray × Bool
 | 0,s=>([],decide (s.size=0))
 | f+1,s=>if s.size=0 then ([],true) else if s.size<2 then ([],false) else if s.size<FS s+2 then ([],false)
   else (s.extract 2 (2+FS s)::(DR f (s.extract (2+FS s) s.size)).1,(DR f (s.extract (2+FS s) s.size)).2)
theorem Ze (s:ByteArray) (k:Nat):at8 s k=(J8 s k).toNat:=by
 unfold at8 J8;rw [Array.getD_eq_getD_getElem?,iu,j9]
theorem VL:∀(f:Nat) (s:ByteArray) (bs:List ByteArray),DR f s=(bs,true)->BB bs=s
 | 0,s,bs,h=>by
   unfold DR at h;injection h with h1 h2;subst h1;exact (ByteArray.size_eq_zero_iff.1 (jC h2)).symm
 | f+1,s,bs,h=>by
   unfold DR at h;split at h
   . rename_i h0;injection h with h1 _;subst h1;exact (ByteArray.size_eq_zero_iff.1 h0).symm
   split at h
   . injection h with _ h;cases h
   rename_i h0 h2;split at h
   . injection h with _ h;cases h
   rename_i h3;injection h with e1 e2;have ih:=VL f (s.extract (2+FS s) s.size) _ (Prod.ext rfl e2);subst e1;rw [Ey,ih];have hb:(s.extract 2 (2+FS s)).size=FS s:=by rw [i0];omega
   have hl:Ir (s.extract 2 (2+FS s))=s.extract 0 (2+FS s):=by
    unfold Ir;rw [hb]
    have e:(⟨#[b8 (FS s),b8 (FS s / 256)]⟩:ByteArray)=s.extract 0 2:=by
     have h0:=FP s 0;have h1:=FP s 1;have hn:FS s=at8 s 0+256*at8 s 1:=rfl;have f:∀(m k:Nat),m % 256=at8 s k->b8 m=J8 s k:=λm k h=>UInt8.toNat_inj.1 (by rw [Ba,h,Ze]);have hz:(s.extract 0 2).size=2:=by rw [i0];omega
     apply cP
     . rw [hz];rfl
     . intro k hk;have a:k<2:=hk;rw [XM s 0 2 k oo,kF];rcases (show k=0\/k=1 by omega) with rfl | rfl
       . exact f (FS s) 0 oo
       . exact f (FS s / 256) 1 oo
    rw [e,ByteArray.extract_append_extract,show min 0 2=0 from rfl,show max 2 (2+FS s)=2+FS s from oo]
   rw [hl,KA _ _ oo]
theorem Vp:∀(bs:List ByteArray) (f:Nat),(∀b∈bs,b.size<=65535)->(BB bs).size<=f->DR f (BB bs)=(bs,true)
 | [],f,_,_=>by
   have h0:(BB []).size=0:=rfl;cases f with
   | zero=>unfold DR;rw [iq h0]
   | succ f=>unfold DR;rw [if_pos h0]
 | b::bs,f,hb,hf=>by
   have hb0:=hb b (jA ..);have hs:(Ir b++BB bs).size=2+b.size+(BB bs).size:=by rw [io,EG]
   rw [Ey] at hf ⊢;obtain ⟨f,rfl⟩:∃g,f=g+1:=⟨f - 1,oo⟩;have ih:=Vp bs f (λx hx=>hb x (iz _ hx)) oo
   have hn:FS (Ir b++BB bs)=b.size:=by
    have a:∀k,k<2->at8 (Ir b++BB bs) k=at8 ⟨#[b8 b.size,b8 (b.size / 256)]⟩ k:=λk hk=>by
     unfold at8 Ir;rw [jq,ByteArray.data_append];congr 1;rw [Array.getD_eq_getD_getElem?,Array.getD_eq_getD_getElem?,Array.getElem?_append_left (by simpa using hk)]
    unfold FS;rw [a 0 oo,a 1 oo];show (b8 b.size).toNat+256*(b8 (b.size / 256)).toNat=_;rw [Ba,Ba];omega
   unfold DR;rw [if_neg oo,if_neg oo,hn,if_neg oo]
   have e1:(Ir b++BB bs).extract 2 (2+b.size)=b:=by
    unfold Ir;rw [jq,Ed _ _ _ _ (iX 2)];show (b++BB bs).extract (2 - 2) (2+b.size - 2)=_;rw [show 2 - 2=0 from rfl,show 2+b.size - 2=b.size from oo];exact DS _ _ _ rfl
   have e2:(Ir b++BB bs).extract (2+b.size) (Ir b++BB bs).size=BB bs:=by
    rw [hs,Ed _ _ _ _ (by rw [EG];exact iX _),EG,show 2+b.size - (2+b.size)=0 from oo,show 2+b.size+(BB bs).size - (2+b.size)=(BB bs).size from oo,ByteArray.extract_zero_size]
   rw [e1,e2,ih]
def fOk (F L B:Int):Bool:=if F=0 then JJ L B else if F=1 then vOk L B else sOk L B
def BI (F L B:Int) (rs:List ByteArray):List ByteArray:=if F=0 then (Ds L B rs).1 else if F=1 then (FT L B rs).1 else (C3 L B rs).1
def EP (F L B:Int) (bs:List ByteArray):List ByteArray × Int:=if F=0 then BC (BM L B) bs else if F=1 then BC (Bd L B) bs else Bi L B bs
def Di (F L:Int) (n:Nat):Bool:=if F=0 then decide ((n:Int)=L) else decide ((n:Int)<=L)
def FX (org F L B:Int):Bool:=decide (org=0) && (decide (0<=F/\F<=2) && (fOk F L B && decide ((if F=2 then 32 else 0)<=B)))
theorem cG {F L B:Int} {rs:List ByteArray} (h:¬∀r∈rs,Di F L r.size=true):BI F L B rs=[]:=by
 obtain ⟨r,hr,h2⟩:∃r∈rs,Di F L r.size=false:=by
  rcases Classical.em (∃r∈rs,Di F L r.size=false) with h9 | h9
  . exact h9
  . exact absurd (λr hr=>by
     cases hq:Di F L r.size with
     | true=>rfl
     | false=>exact absurd ⟨r,hr,hq⟩ h9) h
 unfold Di at h2;unfold BI;split
 . rename_i h0;rw [if_pos h0] at h2;have:=of_decide_eq_false h2;unfold Ds;split
   . rfl
   . rw [if_pos (j6.2 ⟨r,hr,iq this⟩)]
 . rename_i h0;rw [if_neg h0] at h2;have:=of_decide_eq_false h2;split
   . unfold FT;split
     . rfl
     . rw [if_pos (j6.2 ⟨r,hr,iq oo⟩)]
   . unfold C3;split
     . rfl
     . rw [if_pos (j6.2 ⟨r,hr,iq oo⟩)]
theorem QZ {F L B:Int} (h1:fOk F L B=true) {rs:List ByteArray} (h:∀r∈rs,Di F L r.size=true):EP F L B (BI F L B rs)=(rs,0):=by
 unfold fOk at h1;unfold Di at h;unfold EP BI;by_cases h0:F=0
 . rw [if_pos h0] at h1 ⊢;rw [if_pos h0];have ho:=Dc h1;have hs:∀r∈rs,(r.size:Int)=L:=λr hr=>by have:=h r hr;rw [if_pos h0] at this;exact jC this
   unfold Ds;rw [if_neg (by rw [h1];simp),if_neg (by rw [jl,jT];intro r hr;have:=hs r hr;simp;omega)];exact SF h1 _ rs (iX _) (λr hr=>by have:=hs r hr;omega)
 . rw [if_neg h0] at h1 ⊢;rw [if_neg h0];have hs:∀r∈rs,(r.size:Int)<=L:=λr hr=>by have:=h r hr;rw [if_neg h0] at this;exact jC this
   have a:¬(rs.any λr=>decide (L<(r.size:Int)))=true:=by rw [jl,jT];intro r hr;have:=hs r hr;simp;omega
   by_cases h2:F=1
   . rw [if_pos h2] at h1 ⊢;rw [if_pos h2];unfold FT;rw [if_neg (by rw [h1];simp),if_neg a];have:=Qq h1 rs [] hs (λr hr=>by cases hr) (λh9=>absurd rfl h9);exact this
   . rw [if_neg h2] at h1 ⊢;rw [if_neg h2];unfold C3;rw [if_neg (by rw [h1];simp),if_neg a];exact dE h1 hs
theorem e7 (F L B:Int) (h1:fOk F L B=true):EP F L B []=([],0):=by
 have:=QZ h1 (rs:=[]) (λr hr=>by cases hr)
 have e:BI F L B []=[]:=by
  unfold BI Ds FT C3;split
  . split
    . rfl
    . rfl
  . split
    . split
      . rfl
      . rfl
    . split
      . rfl
      . rfl
 rw [e] at this;exact this
theorem Xu {F L B:Int} (h1:fOk F L B=true) {rs bs:List ByteArray} (hu:EP F L B bs=(rs,0)) (hp:BI F L B rs=bs):∀r∈rs,Di F L r.size=true:=by
 rcases Classical.em (∀r∈rs,Di F L r.size=true) with h | h
 . exact h
 . rw [cG h] at hp;rw [<-hp,e7 F L B h1] at hu;injection hu with hu _;rw [<-hu];intro r hr;cases hr

def wtS:List ByteArray->Nat
 | []=>0
 | r::rs=>r.size+1+wtS rs
theorem Fg (a b:List ByteArray):wtS (a++b)=wtS a+wtS b:=by
 induction a with
 | nil=>show wtS b=0+wtS b;omega
 | cons r a ih=>show r.size+1+wtS (a++b)=r.size+1+wtS a+wtS b;rw [ih];omega
theorem DC (rs:List ByteArray):rs.length<=wtS rs:=by
 induction rs with
 | nil=>exact iX _
 | cons r rs ih=>show rs.length+1<=r.size+1+wtS rs;omega
theorem Gw (a b:List ByteArray):BB (a++b)=BB a++BB b:=by unfold BB;rw [il,Gm]
theorem Ig (b:ByteArray):(BB [b]).size=2+b.size:=by
 rw [Ey,io,EG];rfl
theorem NC (l:Nat):∀rs:List ByteArray,(∀r∈rs,r.size=l)->wtS rs=rs.length*(l+1)
 | [],_=>by simp [wtS]
 | r::rs,h=>by
   show r.size+1+wtS rs=(rs.length+1)*(l+1);rw [NC l rs (λx hx=>h x (iz _ hx)),h r (jA ..),Nat.succ_mul];omega
theorem Zj {m l:Nat} (hm:1<=m):∀(f:Nat) (rs:List ByteArray),rs.length<=f->(∀r∈rs,r.size=l)->rs.length*l<=(BB (BU m f rs)).size/\(BB (BU m f rs)).size<=rs.length*l+2*rs.length
 | 0,rs,hf,_=>by
   have:rs=[]:=kI.1 oo;subst this;exact ⟨qs,by show 0<=_;omega⟩
 | f+1,rs,hf,hs=>by
   unfold BU;by_cases hne:rs=[]
   . rw [if_pos hne,hne];exact ⟨qs,by show 0<=_;omega⟩
   rw [if_neg hne,Ey,io,EG,Fp l _ (λr hr=>hs r (jw hr)),je];have hlen:1<=rs.length:=length_pos_iff.2 hne;have ih:=Zj hm f (rs.drop m) (by rw [length_drop];omega) (λr hr=>hs r (mem_of_mem_drop hr));rw [length_drop] at ih
   have e:min m rs.length*l+(rs.length - m)*l=rs.length*l:=by
    rw [<-Nat.add_mul];congr 1;omega
   omega
theorem ZF (B:Nat):∀(rs:List ByteArray) (acc:ByteArray),acc.size+wtS rs<=(BB (vGo B acc rs)).size/\(BB (vGo B acc rs)).size<=acc.size+(if acc.size=0 then 0 else 6)+10*wtS rs
 | [],acc=>by
   show acc.size+0<=(BB (if acc.size=0 then [] else [Aa acc])).size/\(BB (if acc.size=0 then [] else [Aa acc])).size<=_;by_cases h:acc.size=0
   . rw [if_pos h,if_pos h,h];exact ⟨iX _,jL _⟩
   . rw [if_neg h,if_neg h,Ig,Bp];omega
 | r::rs,acc=>by
   have hf:=DE r;have e:wtS (r::rs)=r.size+1+wtS rs:=rfl;unfold vGo;split
   . rename_i hc;have ih:=ZF B rs (CH r);rw [if_neg (show ¬(CH r).size=0 by omega)] at ih;rw [Ey,io,EG,Bp,if_neg hc.1];omega
   . have ih:=ZF B rs (acc++CH r);rw [if_neg (show ¬(acc++CH r).size=0 by rw [io];omega),io] at ih;split
     . omega
     . omega
theorem Kw {m:Nat} (hm:1<=m):∀(f:Nat) (b:Bool) (r:ByteArray),r.size+1<=(BB ((Ay m f b r).map Df)).size/\(BB ((Ay m f b r).map Df)).size<=r.size+10*(r.size+1)
 | 0,b,r=>by
   show r.size+1<=(BB [Df ⟨b,false,r⟩]).size/\(BB [Df ⟨b,false,r⟩]).size<=_;have:(Df ⟨b,false,r⟩).size=8+r.size:=by unfold Df;rw [Bp,BE];show 4+(4+r.size)=_;omega
   rw [Ig,this];omega
 | f+1,b,r=>by
   unfold Ay;split
   . show r.size+1<=(BB [Df ⟨b,false,r⟩]).size/\(BB [Df ⟨b,false,r⟩]).size<=_;have:(Df ⟨b,false,r⟩).size=8+r.size:=by unfold Df;rw [Bp,BE];show 4+(4+r.size)=_;omega
     rw [Ig,this];omega
   . rename_i hc;have ih:=Kw hm f true (r.extract m r.size);have hs:(r.extract m r.size).size=r.size - m:=by rw [i0];omega
     have h1:(Df ⟨b,true,r.extract 0 m⟩).size=8+m:=by unfold Df;rw [Bp,BE,i0];omega
     rw [map_cons,Ey,io,EG,h1];omega
theorem Tw (B:Nat) (hB:9<=B) (last r:ByteArray):
 ((DD B last r).1.size=0/\r.size+1<=(BB (DD B last r).2).size/\(BB (DD B last r).2).size<=r.size+10*(r.size+1))\/
 (last.size≠0/\(DD B last r).1.size≠0/\last.size+r.size+1<=(DD B last r).1.size+(BB (DD B last r).2).size/\(DD B last r).1.size+(BB (DD B last r).2).size<=last.size+8+r.size+10*(r.size+1)):=by
 unfold DD;have hl:(last.extract 4 last.size).size=last.size - 4:=by rw [i0];omega
 split
 . rename_i hc;right;split
   . have hs:(Aa (last.extract 4 last.size++B1 ⟨false,false,r⟩)).size=4+(last.size - 4+(4+r.size)):=by rw [Bp,io,BE,hl]
     simp only;rw [hs,show (BB []).size=0 from rfl];omega
   . rename_i hc2;obtain ⟨k,hk⟩:∃k,B - last.size - 4=k:=⟨_,rfl⟩;rw [hk];have a:(r.extract 0 k).size=k:=by rw [i0];omega
     have b:(r.extract k r.size).size=r.size - k:=by rw [i0];omega
     have hs:(Aa (last.extract 4 last.size++B1 ⟨false,true,r.extract 0 k⟩)).size=4+(last.size - 4+(4+k)):=by rw [Bp,io,BE,hl,a]
     have hp:=Kw (m:=B - 8) oo r.size true (r.extract k r.size);rw [b] at hp;simp only;rw [hs];omega
 . left;exact ⟨rfl,Kw oo r.size false r⟩
theorem aR (B:Nat) (hB:9<=B) (a:List ByteArray) (r:ByteArray):(BB a).size+r.size+1<=(BB (CO B a r)).size/\(BB (CO B a r)).size<=(BB a).size+20*(r.size+1):=by
 unfold CO;obtain ⟨last,b⟩:∃last,a.getLast?.getD nilB=last:=⟨_,rfl⟩;rw [b];rcases Tw B hB last r with ⟨h1,h2,h3⟩ | ⟨h0,h1,h2,h3⟩
 . rw [if_pos h1,Gw,io];omega
 . rw [if_neg h1];rcases eq_nil_or_concat a with ho | ⟨cs,l,ho⟩
   . rw [ho] at b;rw [<-b] at h0;exact absurd rfl h0
   have ho:a=cs++[l]:=by simpa using ho
   have hl:l=last:=by rw [<-b,ho,C0]
   subst hl;rw [ho,dropLast_concat,Gw,Gw,Gw,io,io,io,Ig,Ig];omega
theorem fA (B:Nat) (hB:9<=B):∀(rs out:List ByteArray),(BB out).size+wtS rs<=(BB (rs.foldl (CO B) out)).size/\(BB (rs.foldl (CO B) out)).size<=(BB out).size+20*wtS rs
 | [],out=>⟨iX _,Nat.le_add_right _ _⟩
 | r::rs,out=>by
   have h1:=aR B hB out r;have h2:=fA B hB rs (CO B out r);have e:wtS (r::rs)=r.size+1+wtS rs:=rfl;rw [foldl_cons];omega
theorem Vi {F L B:Int} (h1:fOk F L B=true) {rs:List ByteArray} (h:∀r∈rs,Di F L r.size=true):wtS rs<=2*(BB (BI F L B rs)).size/\(BB (BI F L B rs)).size<=20*wtS rs:=by
 unfold fOk at h1;unfold Di at h;unfold BI;by_cases h0:F=0
 . rw [if_pos h0] at h1 ⊢;have ho:=Dc h1;have hs:∀r∈rs,(r.size:Int)=L:=λr hr=>by have:=h r hr;rw [if_pos h0] at this;exact jC this
   have a:∀r∈rs,r.size=L.toNat:=λr hr=>by have:=hs r hr;omega
   have hm:1<=B.toNat / L.toNat:=(Nat.le_div_iff_mul_le oo).2 oo;unfold Ds;rw [if_neg (by rw [h1];simp),if_neg (by rw [jl,jT];intro r hr;have:=hs r hr;simp;omega)];have hb:=Zj (l:=L.toNat) hm rs.length rs (iX _) a;have hw:=NC L.toNat rs a;have h2:rs.length<=rs.length*L.toNat:=Nat.le_mul_of_pos_right _ oo;rw [Nat.mul_add,Nat.mul_one] at hw;simp only;omega
 . rw [if_neg h0] at h1 ⊢;have hs:∀r∈rs,(r.size:Int)<=L:=λr hr=>by have:=h r hr;rw [if_neg h0] at this;exact jC this
   have b:¬(rs.any λr=>decide (L<(r.size:Int)))=true:=by rw [jl,jT];intro r hr;have:=hs r hr;simp;omega
   by_cases h2:F=1
   . rw [if_pos h2] at h1 ⊢;unfold FT;rw [if_neg (by rw [h1];simp),if_neg b];have hb:=ZF B.toNat rs nilB;rw [show nilB.size=0 from rfl,if_pos rfl] at hb;simp only;omega
   . rw [if_neg h2] at h1 ⊢;have ho:=Ea h1;unfold C3;rw [if_neg (by rw [h1];simp),if_neg b];have hb:=fA B.toNat oo rs [];rw [show (BB []).size=0 from rfl] at hb;simp only;omega

structure Cnt where
 app:Nat
 recs:List ByteArray
 blocks:List ByteArray
 str:ByteArray
def FZ:Cnt:=⟨0,[],[],nilB⟩
def pgP (l:List ByteArray) (n:Nat):ByteArray × Int:=
 match l[n]? with
 | none=>(nilB,2)
 | some s=>if s.size=128 then (s,0) else (nilB,11)
def Da:List ByteArray->Nat->ByteArray->ByteArray × Int
 | [],b,acc=>if acc.size<b then (nilB,2) else (acc,0)
 | p::ps,b,acc=>if acc.size<b then (if p.size=128 then Da ps b (acc++p) else (nilB,11)) else (acc,0)
def rdQ (F L B:Int) (a c b:Nat) (s:ByteArray):Cnt × Int:=
 if s.extract b s.size≠AO (s.size - b) then (FZ,11)
 else if (DR (s.extract 0 b).size (s.extract 0 b)).2=false then (FZ,11)
 else if (EP F L B (DR (s.extract 0 b).size (s.extract 0 b)).1).2≠0\/(EP F L B (DR (s.extract 0 b).size (s.extract 0 b)).1).1.length≠c\/BI F L B (EP F L B (DR (s.extract 0 b).size (s.extract 0 b)).1).1≠(DR (s.extract 0 b).size (s.extract 0 b)).1 then (FZ,11)
 else (⟨a,(EP F L B (DR (s.extract 0 b).size (s.extract 0 b)).1).1,(DR (s.extract 0 b).size (s.extract 0 b)).1,s.extract 0 b⟩,0)
def DM (l:List ByteArray):Nat × Nat × Nat × Int:=
 if (pgP l 0).2≠0 then (0,0,0,(pgP l 0).2) else if Q1 (pgP l 0).1=true then ((FH (pgP l 0).1).1,(Eq (pgP l 0).1).1,(Ej (pgP l 0).1).1,0) else (0,0,0,11)
def Hr (F L B:Int) (l:List ByteArray):Cnt × Int:=
 if (DM l).2.2.2≠0 then (FZ,(DM l).2.2.2)
 else if (Da (l.drop 1) (DM l).2.2.1 nilB).2≠0 then (FZ,(Da (l.drop 1) (DM l).2.2.1 nilB).2)
 else rdQ F L B (DM l).1 (DM l).2.1 (DM l).2.2.1 (Da (l.drop 1) (DM l).2.2.1 nilB).1
def Dz (F L B:Int) (a:Nat) (rs:List ByteArray):Cnt:=⟨a,rs,BI F L B rs,BB (BI F L B rs)⟩
def DY (c:Cnt):List ByteArray:=BV c.app c.recs.length c.str.size::BK c.str
theorem Vw {F L B:Int} (h1:fOk F L B=true) {rs bs:List ByteArray} (hu:EP F L B bs=(rs,0)):∀b∈bs,b.size<=65535:=by
 have c:∀(u:ByteArray->List ByteArray × Int) (hB:B<=1024),(∀s,(u s).2=0->(s.size:Int)<=B)->∀bs:List ByteArray,(BC u bs).2=0->∀b∈bs,b.size<=65535:=by
  intro u hB hs bs
  induction bs with
  | nil=>intro _ b hb;cases hb
  | cons x bs ih=>
    intro h b hb;unfold BC at h;split at h
    . rename_i hc;exact absurd h hc
    rename_i hc;split at h
    . rename_i hd;exact absurd h hd
    rename_i hd;rcases jh.1 hb with rfl | hb
    . have:=hs _ (by simpa using hc);omega
    . exact ih (by simpa using hd) b hb
 unfold fOk at h1;unfold EP at hu;split at hu
 . rename_i h0;rw [if_pos h0] at h1;have ho:=Dc h1;refine c _ oo (λs h=>?_) bs (by rw [hu]);unfold BM at h;rw [if_neg (by rw [h1];simp)] at h;split at h
   . simp at h
   . rename_i hc;have h2:s.size / L.toNat<=B.toNat / L.toNat:=oo;have h3:s.size % L.toNat=0:=oo;have h4:=Nat.div_add_mod s.size L.toNat;have h5:=Nat.div_mul_le_self B.toNat L.toNat;have h6:=Nat.mul_le_mul_right L.toNat h2;rw [Nat.mul_comm] at h4;omega
 rename_i h0;rw [if_neg h0] at h1;split at hu
 . rename_i h2;rw [if_pos h2] at h1;have ho:=Gh h1;refine c _ oo (λs h=>?_) bs (by rw [hu]);unfold Bd at h;rw [if_neg (by rw [h1];simp)] at h;split at h
   . simp at h
   . omega
 . rename_i h2;rw [if_neg h2] at h1;have ho:=Ea h1
   have a:(BT L B bs).2=0:=by
    unfold Bi at hu;rw [if_neg (by rw [h1];simp)] at hu;split at hu
    . rename_i hc;exact absurd (ix Prod.snd hu) hc
    . rename_i hc;simpa using hc
   clear hu
   induction bs with
   | nil=>intro b hb;cases hb
   | cons x bs ih=>
     intro b hb;unfold BT at a;split at a
     . rename_i hc;exact absurd a hc
     rename_i hc;split at a
     . rename_i hd;exact absurd a hd
     rename_i hd;rcases jh.1 hb with rfl | hb
     . have hc:(BO L B b).2=0:=by simpa using hc
       unfold BO at hc;rw [if_neg (by rw [h1];simp)] at hc;split at hc
       . simp at hc
       . omega
     . exact ih (by simpa using hd) b hb
theorem ZG:∀(ps:List ByteArray) (b:Nat) (acc s:ByteArray),Da ps b acc=(s,0)->∃qsq,qsq<+:ps/\(∀p∈qsq,p.size=128)/\s=acc++AP qsq/\b<=s.size/\(qsq≠[]->s.size<b+128)
 | [],b,acc,s,h=>by
   unfold Da at h;split at h
   . injection h with _ h;simp at h
   . injection h with h _;subst h;exact ⟨[],List.prefix_rfl,(λp hp=>by cases hp),ByteArray.append_empty.symm,oo,λh=>absurd rfl h⟩
 | p::ps,b,acc,s,h=>by
   unfold Da at h;split at h
   . rename_i hlt;split at h
     . rename_i hp;obtain ⟨qsq,h1,h2,h3,h4,h5⟩:=ZG ps b (acc++p) s h;refine ⟨p::qsq,?_,λx hx=>?_,?_,h4,λ_=>?_⟩
       . obtain ⟨t,ht⟩:=h1;exact ⟨t,by rw [<-ht];rfl⟩
       . rcases jh.1 hx with rfl | hx
         . exact hp
         . exact h2 x hx
       . rw [h3,jq];rfl
       . by_cases hq:qsq=[]
         . subst hq;rw [h3,io,io,hp];show acc.size+128+0<_;omega
         . exact h5 hq
     . injection h with _ h;simp at h
   . injection h with h _;subst h;exact ⟨[],List.nil_prefix,(λp hp=>by cases hp),ByteArray.append_empty.symm,oo,λh=>absurd rfl h⟩
theorem ZA:∀(c ps:List ByteArray) (b:Nat) (a:ByteArray),(∀p∈c,p.size=128)->b<=(a++AP c).size->(c≠[]->(a++AP c).size<b+128)->Da (c++ps) b a=(a++AP c,0)
 | [],ps,b,a,_,h2,_=>by
   have e:a++AP []=a:=j3;rw [e] at h2 ⊢;show Da ps b a=_;cases ps with
   | nil=>unfold Da;rw [if_neg oo]
   | cons p ps=>unfold Da;rw [if_neg oo]
 | q::c,ps,b,a,h1,h2,h3=>by
   have hq:=h1 q (jA ..);have e:a++AP (q::c)=(a++q)++AP c:=by rw [jq];rfl
   have h4:=h3 qs;have hs:(a++AP (q::c)).size=a.size+128+(AP c).size:=by rw [e,io,io,hq]
   show Da (q::(c++ps)) b a=_;unfold Da;rw [if_pos oo,if_pos hq,e];rw [e] at h2 h4;exact ZA c ps b (a++q) (λp hp=>h1 p (iz _ hp)) h2 (λ_=>h4)
theorem MX {F L B:Int} (h1:fOk F L B=true) {l:List ByteArray} {c:Cnt} (h:Hr F L B l=(c,0)):DM l=(c.app,c.recs.length,c.str.size,0)/\(c.app:Int)<=mxN/\DY c<+:l/\(∀r∈c.recs,Di F L r.size=true)/\c.blocks=BI F L B c.recs/\c.str=BB c.blocks:=by
 unfold Hr at h;split at h
 . rename_i hc;injection h with _ h;exact absurd h hc
 rename_i hc;have hc:(DM l).2.2.2=0:=by simpa using hc
 split at h
 . rename_i hd;injection h with _ h;exact absurd h hd
 rename_i hd;have hd:(Da (l.drop 1) (DM l).2.2.1 nilB).2=0:=by simpa using hd
 obtain ⟨s,hs⟩:∃s,(Da (l.drop 1) (DM l).2.2.1 nilB).1=s:=⟨_,rfl⟩;obtain ⟨a,q1,q2,q3,q4,q5⟩:=ZG _ _ _ s (Prod.ext hs hd);rw [hs] at h;have q3:s=AP a:=by rw [q3];exact kO
 unfold DM at hc;split at hc
 . rename_i h9;exact absurd hc h9
 rename_i h9;have h9:(pgP l 0).2=0:=by simpa using h9
 split at hc;rotate_left
 . simp at hc
 rename_i h8
 have hl:∃t,l=(pgP l 0).1::t/\(pgP l 0).1.size=128:=by
  cases l with
  | nil=>exact absurd h9 (by show (2:Int)≠0;simp)
  | cons x t=>
    have e:pgP (x::t) 0=if x.size=128 then (x,0) else (nilB,11):=rfl;rw [e] at h9 ⊢;split at h9
    . rename_i h7;rw [if_pos h7];exact ⟨t,rfl,h7⟩
    . simp at h9
 obtain ⟨t,hl,hz⟩:=hl
 have eh:DM l=((FH (pgP l 0).1).1,(Eq (pgP l 0).1).1,(Ej (pgP l 0).1).1,0):=by
  unfold DM;rw [if_neg (by rw [h9];simp),if_pos h8]
 obtain ⟨p,hp⟩:∃p,(pgP l 0).1=p:=⟨_,rfl⟩;rw [hp] at eh hl hz h8;rw [eh] at h q4 q5;obtain ⟨k1,k2,k3,k4⟩:=Yb hz h8;unfold rdQ at h;simp only at h q4 q5;obtain ⟨b,hb⟩:∃b,(Ej p).1=b:=⟨_,rfl⟩;rw [hb] at h q4 q5 k1 eh;split at h
 . injection h with _ h;simp at h
 rename_i m1;have m1:s.extract b s.size=AO (s.size - b):=by simpa using m1
 split at h
 . injection h with _ h;simp at h
 rename_i m2;obtain ⟨bs,k⟩:∃bs,(DR (s.extract 0 b).size (s.extract 0 b)).1=bs:=⟨_,rfl⟩;have d:DR (s.extract 0 b).size (s.extract 0 b)=(bs,true):=Prod.ext k (by simpa using m2);rw [d] at h;simp only at h;split at h
 . injection h with _ h;simp at h
 rename_i m3;rw [not_or,not_or] at m3;obtain ⟨m3,m4,m5⟩:=m3;have m3:(EP F L B bs).2=0:=by simpa using m3
 have m4:(EP F L B bs).1.length=(Eq p).1:=by simpa using m4
 have m5:BI F L B (EP F L B bs).1=bs:=by simpa using m5
 injection h with h _;subst h;have f:(s.extract 0 b).size=b:=by rw [i0];omega
 refine ⟨?_,k2,?_,?_,m5.symm,(VL _ _ _ d).symm⟩
 . rw [eh];simp only;rw [m4,f]
 . show BV (FH p).1 (EP F L B bs).1.length (s.extract 0 b).size::BK (s.extract 0 b)<+:l;rw [m4,f,k1,hl]
   have i:BK (s.extract 0 b)=a:=by
    have hq:=Fp 128 a q2;rw [q3] at m1 q4 q5 ⊢;by_cases g:a=[]
    . subst g;have h0:(AP []).size=0:=rfl;have j:b=0:=oo;subst j;rfl
    . have:=q5 g;exact d9 q2 oo oo m1
   rw [i];rw [hl] at q1;exact List.prefix_cons_inj p |>.2 q1
 . exact Xu h1 (rs:=(EP F L B bs).1) (bs:=bs) (Prod.ext rfl m3) m5
theorem ZN {F L B:Int} (h1:fOk F L B=true) {a:Nat} {rs:List ByteArray} (ha:(a:Int)<=mxN) (hr:∀r∈rs,Di F L r.size=true) (hn:(rs.length:Int)<=mxN) (hb:((BB (BI F L B rs)).size:Int)<=mxN) {l:List ByteArray} (hl:DY (Dz F L B a rs)<+:l):Hr F L B l=(Dz F L B a rs,0):=by
 obtain ⟨t,ht⟩:=hl;subst ht;obtain ⟨s,hs⟩:∃s,BB (BI F L B rs)=s:=⟨_,rfl⟩;have hA:=aN ha hn hb;rw [hs] at hb hA
 have c:DM (DY (Dz F L B a rs)++t)=(a,rs.length,s.size,0):=by
  have e:pgP (DY (Dz F L B a rs)++t) 0=(BV a rs.length s.size,0):=by
   rw [<-hs];show (if (BV a rs.length (BB (BI F L B rs)).size).size=128 then _ else _)=_;rw [if_pos (Lr _ _ _)];rfl
  unfold DM;rw [e,if_neg qs,if_pos hA.1,hA.2.1,hA.2.2.1,hA.2.2.2]
 have b:=bn s;have hN:s.size<=128*Dp s.size:=by unfold Dp;omega
 have f:128*Dp s.size<s.size+128:=by unfold Dp;omega
 have hz:(AP (BK s)).size=128*Dp s.size:=by rw [b,io,BS];omega
 have d:Da ((DY (Dz F L B a rs)++t).drop 1) s.size nilB=(AP (BK s),0):=by
  have e:(DY (Dz F L B a rs)++t).drop 1=BK s++t:=by rw [<-hs];rfl
  have e2:nilB++AP (BK s)=AP (BK s):=kO;rw [e,ZA (BK s) t s.size nilB (PT s) (by rw [e2];omega) (λ_=>by rw [e2];omega),e2]
 have hu:=QZ h1 hr;have hx:(AP (BK s)).extract 0 s.size=s:=by rw [b];exact DS _ _ _ rfl
 have hy:(AP (BK s)).extract s.size (AP (BK s)).size=AO ((AP (BK s)).size - s.size):=by
  have e:(AP (BK s)).size - s.size=128*Dp s.size - s.size:=oo;rw [e,b];exact E1 _ _ _ _ rfl ByteArray.size_append.symm
 unfold Hr;rw [c];simp only;rw [if_neg qs,d];simp only;rw [if_neg qs];unfold rdQ;rw [hx,if_neg (by rw [hy];simp)]
 have hc:DR s.size s=(BI F L B rs,true):=by
  rw [<-hs];exact Vp _ _ (Vw h1 hu) (iX _)
 rw [hc];simp only;rw [if_neg qs,hu];simp only;rw [if_neg qs];unfold Dz;rw [hs]
def DQ (l:List ByteArray) (w:Int × ByteArray):List ByteArray:=
 if w.1<0\/5000<w.1 then l else (l++List.replicate (w.1.toNat+1 - l.length) (AO 128)).set w.1.toNat w.2
def Ff (l:List ByteArray) (ws:List (Int × ByteArray)):List ByteArray:=ws.foldl DQ l
theorem MY {l:List ByteArray} {n:Nat} {d:ByteArray} (hn:n<=5000):(DQ l ((n:Int),d))[n]? =some d/\∀i,i≠n->∀x,l[i]? =some x->(DQ l ((n:Int),d))[i]? =some x:=by
 unfold DQ;simp only;rw [if_neg oo,i9];refine ⟨?_,λi hi x hx=>?_⟩
 . rw [jp (by rw [iy,j0];omega)]
 . rw [List.getElem?_set_ne (Ne.symm hi),jm (iw.1 hx).1,hx]
def E6 (old:List ByteArray):Nat->List ByteArray->List (Int × ByteArray)
 | _,[]=>[]
 | k,s::ss=>if old.length<=k\/old.getD k nilB≠s then (((1+k:Nat):Int),s)::E6 old (k+1) ss else E6 old (k+1) ss
theorem Rl (old:List ByteArray):∀(ss:List ByteArray) (k:Nat) (l:List ByteArray),k+ss.length<5000->(∀i x,old[i]? =some x->k<=i->l[1+i]? =some x)->(∀i x,ss[i]? =some x->(Ff l (E6 old k ss))[1+k+i]? =some x)/\∀i x,i<=k->l[i]? =some x->(Ff l (E6 old k ss))[i]? =some x
 | [],k,l,_,_=>⟨λi x h=>by simp at h,λi x _ h=>h⟩
 | s::ss,k,l,hk,ho=>by
   rw [jf] at hk;have key:∀l':List ByteArray,(∀i x,old[i]? =some x->k+1<=i->l'[1+i]? =some x)->l'[1+k]? =some s->(∀i x,i<=k->l[i]? =some x->l'[i]? =some x)->
    (∀i x,(s::ss)[i]? =some x->(Ff l' (E6 old (k+1) ss))[1+k+i]? =some x)/\∀i x,i<=k->l[i]? =some x->(Ff l' (E6 old (k+1) ss))[i]? =some x:=by
    intro l' h1 h2 h3;obtain ⟨a1,a2⟩:=Rl old ss (k+1) l' oo (λi x hx hi=>h1 i x hx hi);refine ⟨λi x hx=>?_,λi x hi hx=>a2 i x oo (h3 i x hi hx)⟩;cases i with
    | zero=>
      rw [getElem?_cons_zero] at hx;exact a2 (1+k) x oo (by rw [h2,hx])
    | succ i=>
      rw [getElem?_cons_succ] at hx;have:=a1 i x hx;rw [show 1+(k+1)+i=1+k+(i+1) from oo] at this;exact this
   unfold E6;split
   . have hg:=MY (l:=l) (n:=1+k) (d:=s) oo;exact key (DQ l (((1+k:Nat):Int),s)) (λi x hx hi=>hg.2 _ oo x (ho i x hx oo)) hg.1 (λi x hi hx=>hg.2 i oo x hx)
   . rename_i hc;rw [not_or] at hc;obtain ⟨c1,c2⟩:=hc;have c2:old.getD k nilB=s:=by simpa using c2
     have a:old[k]? =some s:=by
      rw [iu,iV oo] at c2;rw [iV oo];exact ix some c2
     exact key l (λi x hx hi=>ho i x hx oo) (ho k s a (iX _)) (λi x _ hx=>hx)
def QH (old c:Cnt):List (Int × ByteArray):=((0:Int),BV c.app c.recs.length c.str.size)::E6 (BK old.str) 0 (BK c.str)
theorem Uf {a b:List ByteArray} (h:∀(i:Nat) (x:ByteArray),a[i]? =some x->b[i]? =some x):a<+:b:=by
 refine ⟨b.drop a.length,?_⟩;apply kU;intro i;by_cases hi:i<a.length
 . rw [jm hi,iV hi];exact (h i _ (iV hi)).symm
 . rw [jW oo,getElem?_drop];congr 1;omega
theorem eC {old c:Cnt} {l:List ByteArray} (ho:DY old<+:l) (hs:c.str.size<=600000):DY c<+:Ff l (QH old c):=by
 obtain ⟨t,ht⟩:=ho;have hg:=MY (l:=l) (n:=0) (d:=BV c.app c.recs.length c.str.size) oo;have a:(BK c.str).length<=4900:=by rw [Ee];unfold Dp;omega
 obtain ⟨a1,a2⟩:=Rl (BK old.str) (BK c.str) 0 (DQ l (((0:Nat):Int),BV c.app c.recs.length c.str.size)) oo (λi x hx _=>by
  refine hg.2 _ oo x ?_
  rw [<-ht]
  rw [show 1+i=i+1 from oo]
  show (BK old.str++t)[i]? =some x
  rw [jm (iw.1 hx).1,hx])
 refine Uf λi x hx=>?_;show (Ff (DQ l (((0:Nat):Int),BV c.app c.recs.length c.str.size)) (E6 (BK old.str) 0 (BK c.str)))[i]? =some x;cases i with
 | zero=>exact a2 0 x (iX _) (by rw [hg.1];exact hx)
 | succ i=>
   have:=a1 i x hx;rw [show 1+0+i=i+1 from oo] at this;exact this
theorem ef {F L B:Int} (h1:fOk F L B=true) {l:List ByteArray} {c:Cnt} (h:Hr F L B l=(c,0)) (hl:l.length<=60) {r:ByteArray} (hr:r.size<=1000) (ha:Di F L r.size=true):Hr F L B (Ff l (QH c (Dz F L B c.app (c.recs++[r]))))=(Dz F L B c.app (c.recs++[r]),0):=by
 obtain ⟨e1,e2,e3,e4,e5,e6⟩:=MX h1 h
 have a:∀x∈c.recs++[r],Di F L x.size=true:=λx hx=>by
  rcases ip.1 hx with hx | hx
  . exact e4 x hx
  . rw [ia.1 hx];exact ha
 have b:(BK c.str).length<=60:=by
  obtain ⟨t,ht⟩:=e3;have:=ix length ht;rw [iy] at this;have e:(DY c).length=(BK c.str).length+1:=rfl;omega
 have j:c.str.size<=7680:=by rw [Ee] at b;unfold Dp at b;omega
 have d:=Vi h1 e4;rw [<-e5,<-e6] at d;have f:=Vi h1 a;rw [Fg] at f;have k:wtS [r]=r.size+1+0:=rfl;have g:=DC (c.recs++[r]);rw [Fg] at g;have i:(BB (BI F L B (c.recs++[r]))).size<=600000:=oo;exact ZN h1 e2 a (by unfold mxN;omega) (by unfold mxN;omega) (eC e3 i)

end
end Go.Proofs.YtmcgbdemcknkaaaGreatDoor
