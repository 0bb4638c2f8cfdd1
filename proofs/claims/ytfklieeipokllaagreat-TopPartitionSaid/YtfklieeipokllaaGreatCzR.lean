/- Parts of the proof (packed), 18. -/
import Derived.Test.YtfklieeipokllaaGreatCzP
namespace Go.Proofs.YtfklieeipokllaaGreat
set_option linter.all false
set_option maxRecDepth 100000
set_option maxHeartbeats 16000000
open List
section
open Go.RowKit
theorem VW (n i:Nat) (hi:i<n):(ER n).at i=blankR:=by
 unfold Dev.at ER;rw [iE,jp,if_pos hi];rfl
theorem WN (n i:Nat):(ER n).olds i=[]:=by
 unfold Dev.olds ER;rw [iE,jp];split<;>rfl
theorem eH (n:Nat) (e:Nat × ByteArray) (he:e∈Fe n) (a:e.1≠33):IL e.2=1:=by
 unfold Fe at he;rcases iA.1 he with he | he
 . obtain ⟨i,_,rfl⟩:=gV.1 he;exact E9 _ 1 _ qd
 rcases iA.1 he with he | he
 . obtain ⟨i,_,rfl⟩:=gV.1 he;exact E9 _ 1 _ qd
 . simp only [jB,not_mem_nil,or_false] at he;rcases he with rfl | rfl
   . exact E9 _ 1 _ qd
   . exact absurd rfl a
theorem WC (n:Nat) (e:Nat × ByteArray) (he:e∈Fe n):e.1<=33\/131<=e.1:=by
 unfold Fe at he;rcases iA.1 he with he | he
 . obtain ⟨i,_,rfl⟩:=gV.1 he;right;show 131<=131+i;omega
 rcases iA.1 he with he | he
 . obtain ⟨k,hk,rfl⟩:=gV.1 he;have:=iP.1 hk;left;show 1+k<=33;omega
 . simp only [jB,not_mem_nil,or_false] at he;rcases he with rfl | rfl
   . left;show 0<=33;omega
   . left;show 33<=33;omega
theorem Yk {n:Nat} (h1:1<=n) (h2:n<=1024) {E:Dev} (hE:Gh (ER (131+n)) 1 0=(E,0)) (hc:Clean E (LE n)):Hist E (LE n):=by
 have a:(ER (131+n)).st.length=131+n:=by unfold ER;simp
 have b:Calm (ER (131+n)) 1 0:=⟨QY _ oo oo,rfl,by unfold Cr;decide,by show ¬(0:Int)<0;omega⟩;have hw:=aY a;have f:=EK 1 0 (Fe n) (ER (131+n)) b rfl rfl hw;unfold Gh Fg at hE;rw [b.plain,iB (show 132<=(ER (131+n)).st.length/\(ER (131+n)).st.length<=1155 from oo),if_neg qs,a,show 131+n - 131=n from oo,f] at hE;injection hE with hE _;subst hE;have c:∀i,(BF (ER (131+n)) (Fe n)).at i=(Ak (Fe n) i).getD ((ER (131+n)).at i):=Fq _ _ hw;have g:=FO (Fe n) (ER (131+n)) b.ok.len hw (SH n)
 have hb:∀i,∀t∈(BF (ER (131+n)) (Fe n)).olds i,t=blankR/\∃s,Ak (Fe n) i=some s:=λi t ht=>by
  rcases g i t ht with h9 | ⟨h9,s,hs⟩
  . rw [WN] at h9;cases h9
  . have d:=(hw _ (Fz _ _ _ hs)).1;rw [a] at d;exact ⟨by rw [h9,VW _ _ d],s,hs⟩
 refine ⟨hc,gM 1,λi hi t ht=>?_,λj hj=>?_,λt ht=>.inl (hb 33 t ht).1⟩
 . obtain ⟨h9,s,hs⟩:=hb i t ht;have hv:IL s=1:=eH n (i,s) (Fz _ _ _ hs) hi;rw [c,hs,h9,NU];show 0<IL s;rw [hv];exact Nat.zero_lt_one
 . have h:Ak (Fe n) (34+j)=none:=B5 _ _ (λe he hq=>by rcases WC n e he with h9 | h9<;>omega);rw [c,h];show IL ((ER (131+n)).at (34+j))<=1;rw [VW _ _ oo,NU];exact ia _
theorem Ww {D:Dev} {I:Img} (h:Hist D I) (hn:Neat D I) {sy:Int} (hs:1<=sy/\sy<=4) (fl:List (Int × ByteArray)) (c:Ac I.n fl=0) (hN:I.N<1000):Hist (Al D sy 0 fl).1 (I.next fl)/\Neat (Al D sy 0 fl).1 (I.next fl):=by
 have a:=hn.clean;by_cases b:fl=[]
 . have hx:I.next fl=I:=if_pos b;rw [hx,(Dw a (hn.calm hs) hn.fuse fl oo).1 (.inr b)];exact ⟨h,hn⟩
 . have hx:I.next fl=I.upd (Bw I.n fl):=if_neg b;obtain ⟨q1,q2,q3,q4,q5⟩:=Mz (sy:=sy) (ep:=0) a fl oo c b;have ht:=NF I fl c b oo;obtain ⟨r1,r2,r3,r4⟩:=K1 a ht (hn.calm hs) hn.fuse;have he:=Mh a.img ht;rw [<-a.len] at he;rw [q1,Q5 a.toHolds ht,r1,hx];exact ⟨R3 h he oo r2 rfl,r2,r3.trans hn.fen,r4⟩

theorem Rk (a b:List UInt8) (x:BitVec 32):GS (a++b) x=GS b (GS a x):=iz ..
theorem Nv:∀(s:List UInt8) (x y:BitVec 32),GS s (x ^^^ y)=GS s x ^^^ shN (8*s.length) y
 | [],_,_=>rfl
 | c::s,x,y=>by
   show GS s (shN 8 ((x ^^^ y) ^^^ Bq c))=GS s (shN 8 (x ^^^ Bq c)) ^^^ shN (8*(s.length+1)) y;rw [show (x ^^^ y) ^^^ Bq c=(x ^^^ Bq c) ^^^ y from by rw [BitVec.xor_assoc,BitVec.xor_comm y,<-BitVec.xor_assoc],Dj,Nv s,<-FI,show 8+8*s.length=8*(s.length+1) from oo]
theorem LK (n i:Nat) (hi:i<32):(Bq (b8 n)).getLsbD i=(decide (i<8) && n.testBit i):=by
 unfold Bq;rw [DI,BitVec.getLsbD_ofNat,show 256=2 ^ 8 from rfl,Nat.testBit_mod_two_pow,iB hi,Bool.true_and]
theorem Xl (v:BitVec 32):v=Bq (b8 v.toNat) ^^^ (Bq (b8 (v.toNat / 256))<<<8) ^^^ (Bq (b8 (v.toNat / 65536))<<<16) ^^^ (Bq (b8 (v.toNat / 16777216))<<<24):=by
 apply BitVec.eq_of_getLsbD_eq;intro i hi;have e8:(v.toNat / 256).testBit (i - 8)=v.toNat.testBit (8+(i - 8)):=by rw [show 256=2 ^ 8 from rfl,Nat.testBit_div_two_pow,Nat.add_comm]
 have a:(v.toNat / 65536).testBit (i - 16)=v.toNat.testBit (16+(i - 16)):=by rw [show 65536=2 ^ 16 from rfl,Nat.testBit_div_two_pow,Nat.add_comm]
 have b:(v.toNat / 16777216).testBit (i - 24)=v.toNat.testBit (24+(i - 24)):=by rw [show 16777216=2 ^ 24 from rfl,Nat.testBit_div_two_pow,Nat.add_comm]
 simp only [BitVec.getLsbD_xor,BitVec.getLsbD_shiftLeft];rw [LK _ _ hi,LK _ _ oo,LK _ _ oo,LK _ _ oo,e8,a,b];show v.toNat.testBit i=_;have hc:i<8\/(8<=i/\i<16)\/(16<=i/\i<24)\/24<=i:=oo;rcases hc with h | h | h | h
 . simp [hi,h,show i<16 from oo,show i<24 from oo]
 . rw [show 8+(i - 8)=i from oo];simp [hi,h,show ¬i<8 from oo,show i - 8<8 from oo,show i<24 from oo]
 . rw [show 16+(i - 16)=i from oo];simp [hi,h,show ¬i<8 from oo,show ¬i<16 from oo,show ¬i - 8<8 from oo,show i - 16<8 from oo]
 . rw [show 24+(i - 24)=i from oo];simp [hi,show ¬i<8 from oo,show ¬i<16 from oo,show ¬i<24 from oo,show ¬i - 8<8 from oo,show ¬i - 16<8 from oo,show i - 24<8 from oo]
theorem fw (c:UInt8) (k:Nat) (h:k=8\/k=16\/k=24):shN k (Bq c<<<k)=Bq c:=by
 rw [Vi _ k (λi hi=>by rw [BitVec.getLsbD_shiftLeft,iB hi];simp)];have hc:=c.toNat_lt;apply BitVec.eq_of_toNat_eq;unfold Bq;rw [BitVec.toNat_ushiftRight,BitVec.toNat_shiftLeft,jC,Nat.shiftRight_eq_div_pow,Nat.shiftLeft_eq];rcases h with rfl | rfl | rfl<;>omega
theorem dw (v r:BitVec 32):GS (AJ v).data.toList r=shN 32 (r ^^^ v):=by
 have e:=Nv (AJ v).data.toList 0#32 r;rw [BitVec.zero_xor] at e;rw [e,Dj,BitVec.xor_comm];congr 1;conv=>rhs;rw [Xl v]
 have up:∀(c:UInt8) (k j:Nat),k=8\/k=16\/k=24->shN (k+j) (Bq c<<<k)=shN j (Bq c):=λc k j h=>by rw [FI,fw c k h]
 rw [Dj,Dj,Dj,show shN 32 (Bq (b8 (v.toNat / 256))<<<8)=_ from up _ 8 24 oo,show shN 32 (Bq (b8 (v.toNat / 65536))<<<16)=_ from up _ 16 16 oo,show shN 32 (Bq (b8 (v.toNat / 16777216))<<<24)=_ from up _ 24 8 oo];show shN 8 (shN 8 (shN 8 (shN 8 (0#32 ^^^ Bq _) ^^^ Bq _) ^^^ Bq _) ^^^ Bq _)=_;rw [BitVec.zero_xor,Dj,Dj,Dj,Dj,Dj,Dj,<-FI,<-FI,<-FI,<-FI,<-FI,<-FI]
def nxC (y:BitVec 32):BitVec 32:=shN 32 (~~~0#32) ^^^ shN 1120 (~~~0#32 ^^^ y)
theorem Zm (s:ByteArray) (i:Int) (h:okR s i) (y:BitVec 32):GS s.data.toList y=nxC y:=by
 obtain ⟨h1,h2,_⟩:=h;have hl:s.data.toList.length=140:=by simpa using h1
 have e1:=Nv s.data.toList (~~~0#32) (~~~0#32 ^^^ y);rw [<-BitVec.xor_assoc,BitVec.xor_self,BitVec.zero_xor,hl,show 8*140=1120 from rfl] at e1;rw [e1];unfold nxC;refine iH (· ^^^ shN 1120 (~~~0#32 ^^^ y)) ?_
 have e2:s.data.toList=(s.extract 0 136).data.toList++(s.extract 136 140).data.toList:=by
  rw [Eb,Eb,drop_zero,show 136 - 0=136 from rfl,iL (i:=140 - 136) (by rw [length_drop];omega),jo]
 have e3:s.extract 136 140=AJ (FF (s.extract 0 136)):=by rw [<-h2,Eu _ (by rw [iK];omega)]
 rw [e2,Rk,e3,dw];unfold FF;refine iH (shN 32) ?_;generalize GS (s.extract 0 136).data.toList (~~~0#32)=r;apply BitVec.eq_of_getLsbD_eq;intro k hk;rw [BitVec.getLsbD_xor,BitVec.getLsbD_not,BitVec.getLsbD_not,iB hk];cases r.getLsbD k<;>simp
def dF:Nat->BitVec 32->BitVec 32
 | 0,y=>y
 | c+1,y=>dF c (nxC y)
theorem Vy:∀l:List ByteArray,(∀s∈l,∃i,okR s i)->∀y,GS (DR l).data.toList y=dF l.length y
 | [],_,_=>rfl
 | s::l,h,y=>by
   obtain ⟨i,hi⟩:=h s (iO ..);show GS (s++DR l).data.toList y=_;rw [ByteArray.data_append,Array.toList_append,Rk,Zm s i hi,Vy l (λx hx=>h x (iJ _ hx)),i9,dF]
def Sc (c:Nat):BitVec 32:= ~~~(dF c (~~~0#32))
theorem Vx (l:List ByteArray) (h:∀s∈l,∃i,okR s i):FF (DR l)=Sc l.length:=by
 unfold FF Sc;rw [Vy l h]
def Dk (v:U32) (c:Nat):ByteArray:=AZ (AJ v++(AJ (nv c)++AJ (Sc c))) v 33
theorem dh (d:ByteArray) (v:U32) (i:Int):okR (AZ d v i) i:=by
 obtain ⟨h1,h2,_,_,h5⟩:=D6 d v i;exact ⟨An d v i,by rw [h1,h2,Cw],by rw [h5,Cw]⟩
theorem Yj {n:Nat} {l:Wl} {v:U32} (h:Entries n l v):CP l v=Dk v l.length:=by
 unfold CP Dk CG
 rw [Vx (DB l) (λs hs=>by
  unfold DB at hs
  obtain ⟨e,he,rfl⟩:=gV.1 hs
  obtain ⟨d,hd⟩:=h.pack e he
  exact ⟨e.1,by rw [hd];exact dh d v _⟩)]
 unfold DB;rw [gO]
theorem eR (x:ByteArray) (h:x.size=12):BD x=x++BI 116:=by
 unfold BD;have a:x.data.toList.length=12:=by simpa using h
 have h0:x.extract 0 128=x:=by
  apply Fv;rw [Eb,drop_zero,iL oo]
 rw [h,h0]
theorem S0 (D:Dev) (h:AU D≠[]):∃c,1<=c/\c<=97/\D.content 33=Dk (Bc D).ver c/\Qh D=true:=by
 have hB:De D=true:=by
  cases hb:De D with
  | true=>rfl
  | false=>exfalso;apply h;unfold AU;rw [hb];rfl
 unfold De Ez J6 TE at hB;simp only [iU,iV,jR] at hB;obtain ⟨⟨⟨⟨h1,h2⟩,h3⟩,h4⟩,h5,h6,h7⟩:=hB;rw [ic] at h5
 have b:=Vx (CM D (DQ D)) (λs hs=>⟨EZ s,by
  have:=h5 s hs
  unfold F9 at this
  simp only [iU,iV] at this
  exact this.1.1⟩)
 have hl:(CM D (DQ D)).length=DQ D:=by unfold CM;rw [gO,jK]
 rw [hl] at b;obtain ⟨s,hs⟩:∃s,D.content 33=s:=⟨_,rfl⟩;have e:Bc D=AQ s 33:=by unfold Bc;rw [hs]
 have a:okR s 33:=by
  rw [e] at h1;unfold AQ at h1;split at h1
  . assumption
  . cases h1
 have hH:Bc D=⟨s.extract 0 128,Cp (s.extract 128 132),true⟩:=by rw [e];unfold AQ;rw [if_pos a]
 refine ⟨DQ D,h3.1,h3.2,?_,h7⟩;have g:=a.1;obtain ⟨d,hd⟩:∃d,s.extract 0 128=d:=⟨_,rfl⟩;have f:d.size=128:=by rw [<-hd,iK];omega
 have hc:DQ D=(fld d 1).toNat:=by unfold DQ;rw [hH,hd]
 have f0:AJ (Bc D).ver=d.extract 0 4:=by
  rw [<-h2,hH];show AJ (Cp ((s.extract 0 128).extract 0 4))=_;rw [hd,Eu _ (by rw [iK];omega)]
 have f1:AJ (nv (DQ D))=d.extract 4 8:=by
  rw [hc];unfold nv;rw [BitVec.ofNat_toNat,BitVec.setWidth_eq];exact Eu _ (by rw [iK];omega)
 have f2:AJ (Sc (DQ D))=d.extract 8 12:=by
  rw [<-b,h6,hH,hd];show AJ (Cp (d.extract 8 12))=_;exact Eu _ (by rw [iK];omega)
 have f3:BI 116=d.extract 12 128:=by rw [<-h4,hH,hd]
 have hx:BD (AJ (Bc D).ver++(AJ (nv (DQ D))++AJ (Sc (DQ D))))=BD d:=by
  rw [eR _ (by rw [gy,gy,AN,AN,AN]),GH d f,f0,f1,f2,f3,ByteArray.extract_append_extract,show d.extract (min 4 8) (max 8 12)=d.extract 4 12 from rfl,ByteArray.extract_append_extract,show d.extract (min 0 4) (max 4 12)=d.extract 0 12 from rfl,ByteArray.extract_append_extract,show d.extract (min 0 12) (max 12 128)=d.extract 0 128 from rfl,<-f,ByteArray.extract_zero_size]
 rw [hs];unfold Dk AZ Gi;rw [hx];have hp:=S6 s 33 a;rw [hd] at hp;have hv:(Bc D).ver=Cp (s.extract 128 132):=by rw [hH]
 rw [hv];exact hp.symm

theorem KM (a b:ByteArray) (k:Nat) (h:k<a.size):Bm (a++b) k=Bm a k:=by
 have h':k<a.data.toList.length:=by simpa using h
 unfold Bm;rw [ByteArray.data_append,Array.toList_append,iE,jF h',iE]
theorem Sm (a b:ByteArray) (n k:Nat) (h:a.size=n):Bm (a++b) (n+k)=Bm b k:=by
 have h':a.data.toList.length=n:=by simpa using h
 unfold Bm;rw [ByteArray.data_append,Array.toList_append,iE,iq oo,h',show n+k - n=k from oo,iE]
theorem IZ (v:U32) (c:Nat):(∀k,k<4->Bm (Dk v c) k=Bm (AJ v) k)/\Bm (Dk v c) 4=Bm (AJ (nv c)) 0/\Bm (Dk v c) 128=Bm (AJ v) 0:=by
 obtain ⟨_,_,p3,p4,_⟩:=D6 (AJ v++(AJ (nv c)++AJ (Sc c))) v 33;have hx:(AJ v++(AJ (nv c)++AJ (Sc c))).size=12:=by rw [gy,gy,AN,AN,AN]
 have hd:∀k,k<12->Bm (Dk v c) k=Bm (AJ v++(AJ (nv c)++AJ (Sc c))) k:=λk hk=>by
  have e:=Gt (Dk v c) 0 128 k oo;rw [ji] at e;rw [<-e];unfold Dk;rw [p3,eR _ hx,KM _ _ _ oo]
 refine ⟨λk hk=>?_,?_,?_⟩
 . rw [hd k oo,KM _ _ _ (by rw [AN];exact hk)]
 . rw [hd 4 oo];rw [Sm (AJ v) _ 4 0 (AN v),KM _ _ _ (by rw [AN];omega)]
 . have e:=Gt (Dk v c) 128 132 0 oo;rw [<-e];unfold Dk;rw [p4]
theorem KQ (v:U32) (c:Nat):(Dk v c).size=140:=An ..
theorem L3 {a b:Nat} (ha:a<256) (hb:b<256) (h:b8 a=b8 b):a=b:=by
 have:=iH UInt8.toNat h;rw [DI,DI] at this;omega
structure Dead (N:Nat) (s:ByteArray):Prop where
 size:s.size=140
 non:∀m c,1<=m->m<256->1<=c->c<=97->s≠Dk (nv m) c
 old:Bm s 128=b8 (N+1)->∀k,k<4->Bm s k=Bm (AJ (nv (N+1))) k
theorem TF {s:ByteArray} (h:Bm s 0=0):∀m c,1<=m->m<256->1<=c->c<=97->s≠Dk (nv m) c:=by
 rintro m c h1 h2 _ _ rfl;rw [(IZ _ _).1 0 oo,(C3 m h2).1] at h;have:=L3 h2 oo (h.trans (show (0:UInt8)=b8 0 from qd));omega
theorem UT (N:Nat) (hN:N+1<256):Dead N blankR:=⟨Bn,TF (IK 0 oo),λh=>by
 rw [IK 128 oo] at h
 have:=L3 (a:=0) (b:=N+1) oo hN (Eq.trans qd h)
 omega⟩
theorem bD {N:Nat} {s:ByteArray} (h:Dead N s) (hN:N+1<256) {c:Nat} (hc:1<=c/\c<=97) {k:Nat} (hk:k<=140):Cf (Dk (nv (N+1)) c) k s=Dk (nv (N+1)) c\/Dead N (Cf (Dk (nv (N+1)) c) k s):=by
 have hH:=KQ (nv (N+1)) c;obtain ⟨b0,b4,i⟩:=IZ (nv (N+1)) c;have hb:=JT hH h.size hk;obtain ⟨t,ht⟩:∃t,Cf (Dk (nv (N+1)) c) k s=t:=⟨_,rfl⟩;have a:t.size=140:=by rw [<-ht];exact Hp hH h.size hk
 rw [ht] at hb ⊢;by_cases b:∃m d,1<=m/\m<256/\1<=d/\d<=97/\t=Dk (nv m) d
 . left;obtain ⟨m,d,m1,m2,d1,d2,he⟩:=b;obtain ⟨q0,q4,e⟩:=IZ (nv m) d;by_cases f:k=0
   . exfalso;refine h.non m d m1 m2 d1 d2 ?_;rw [<-he];apply LA (h.size.trans a.symm);intro j hj;rw [h.size] at hj;rw [hb j hj,if_neg oo]
   have hm:m=N+1:=by
    have h1:=hb 0 oo;rw [if_pos oo,he,q0 0 oo,b0 0 oo,(C3 m m2).1,(C3 _ hN).1] at h1;exact L3 m2 hN h1
   subst hm;by_cases g:5<=k
   . have h1:=hb 4 oo;rw [if_pos oo,he,q4,b4,(C3 d oo).1,(C3 c oo).1] at h1;rw [he,L3 oo oo h1]
   . exfalso;have h1:=hb 128 oo;rw [if_neg oo,he,e,(C3 _ hN).1] at h1;refine h.non (N+1) d m1 m2 d1 d2 ?_;rw [<-he];apply LA (h.size.trans a.symm);intro j hj;rw [h.size] at hj;rw [hb j hj];split
     . rw [h.old h1.symm j oo,b0 j oo]
     . rfl
 . right;refine ⟨a,λm d m1 m2 d1 d2 he=>b ⟨m,d,m1,m2,d1,d2,he⟩,λh128 j hj=>?_⟩;rw [hb j oo];split
   . exact b0 j hj
   . rw [hb 128 oo,if_neg oo] at h128;exact h.old h128 j hj
theorem Y7 {N c n:Nat} (hN:N+2<256) (h1:1<=n) (hn:n<=140):Dead (N+1) (Cf blankR n (Dk (nv (N+1)) c)):=by
 have hb:=JT Bn (KQ (nv (N+1)) c) hn;refine ⟨Hp Bn (KQ _ _) hn,TF ?_,λh=>?_⟩
 . rw [hb 0 oo,if_pos oo,IK 0 oo]
 . exfalso;rw [hb 128 oo] at h;split at h
   . rw [IK 128 oo] at h;have:=L3 (a:=0) (b:=N+1+1) oo oo (Eq.trans qd h);omega
   . rw [(IZ _ _).2.2,(C3 (N+1) oo).1] at h;have:=L3 oo oo h;omega
structure Rest (D:Dev) (I:Img):Prop extends Holds D I where
 pos:1<=I.N
 lim:I.N+1<256
 dead:Dead I.N (D.at 33)
theorem Rest.noint {D:Dev} {I:Img} (h:Rest D I):AU D=[]:=by
 rcases Classical.em (AU D=[]) with h9 | h9
 . exact h9
 . exfalso;obtain ⟨c,c1,c2,hc,ht⟩:=S0 D h9;rw [h.toHolds.content] at hc;have a:=h.lim;have b:=h.pos;unfold Qh at ht;rw [h.toHolds.topI] at ht;simp only [Bool.not_true,Bool.false_or,Bool.or_eq_true,jR,iV] at ht;rcases ht with ht | ht
   . rw [ht] at hc;exact h.dead.non I.N c h.pos oo c1 c2 hc
   . rw [Dt _ oo] at ht
     have hv:(Bc D).ver=nv (I.N+1):=by
      apply BitVec.eq_of_toNat_eq;rw [ht,Dt _ oo]
     rw [hv] at hc;exact h.dead.non (I.N+1) c oo h.lim c1 c2 hc
theorem Clean.rest {D:Dev} {I:Img} (h:Clean D I) (h1:1<=I.N) (h2:I.N+1<256):Rest D I:=⟨h.toHolds,h1,h2,by rw [h.head];exact UT _ h2⟩
theorem Rest.fin {D:Dev} {I:Img} (h:Rest D I) (sy ep:Int):Bs D sy ep=(D,false,0):=by
 unfold Bs;rw [if_neg (by rw [h.live];simp),if_pos h.noint]
def I3 (E:Dev) (J:Img):Prop:=∀sy ep,Calm E sy ep->∃F b,Bs E sy ep=(F,b,0)/\Rest F J/\F.fuse=none/\F.fen=E.fen
theorem Rest.after {E:Dev} {J:Img} (h:Rest E J) (hf:E.fuse=none):I3 E J:=λsy ep _=>⟨E,false,h.fin sy ep,h,hf,rfl⟩
theorem RN {D E:Dev} {I:Img} {ws:Wl} (h:Holds D I) (ht:Takes I ws) (hN:I.N+2<256) (hE:E.Ok) (a:E.st.length=D.st.length) (b:E.failed=false) (hp:E.pend=[]) (hf:E.fuse=none)
 (hi:AU E=wlI (DE (I.upd ws) ws)) (c:∀i,(i<=32\/131<=i)->Ak (DE (I.upd ws) ws) i=none->E.at i=D.at i):I3 E (I.upd ws):=by
 intro sy ep hc;have he:=Mh h.img ht;rw [<-h.len,<-a] at he;have e:=he.low;have r1:=EK sy ep (DE (I.upd ws) ws) E hc hf hp he.lt;have k1:=DA (DE (I.upd ws) ws) E hE he.lt;have c1:=hc.kept k1;have ho:okW (BF E (DE (I.upd ws) ws)) [(33,blankR)]:=EX (by rw [k1.len];omega) _ Bn;have r2:=EK sy ep [(33,blankR)] _ c1 (k1.fuse.trans hf) (k1.pend.trans hp) ho;have k2:=DA [(33,blankR)] _ k1.ok ho
 have d:BS sy ep (CN (AU E)) E=(BF (BF E (DE (I.upd ws) ws)) [(33,blankR)],0):=by
  rw [hi,PT,Ed,r1,if_pos rfl,r2]
 refine ⟨BF (BF E (DE (I.upd ws) ws)) [(33,blankR)],true,?_,?_,k2.fuse.trans (k1.fuse.trans hf),k2.fen.trans k1.fen⟩
 . unfold Bs;rw [if_neg (by rw [b];simp),if_neg (by rw [hi];unfold wlI DE;simp),d];rfl
 . have hh:Holds (BF (BF E (DE (I.upd ws) ws)) [(33,blankR)]) (I.upd ws):=Jl h ht _ k2.ok (k2.len.trans (k1.len.trans a)) (k2.failed.trans (k1.failed.trans b)) (k2.pend.trans (k1.pend.trans hp)) (λi hi2=>by
    rw [Qb _ _ _ ho,if_neg oo,Fq _ _ he.lt]
    cases hl:Ak (DE (I.upd ws) ws) i with
    | some s=>rfl
    | none=>exact c i hi2 hl)
   refine (Clean.mk hh ?_).rest (show 1<=I.N+1 by omega) (show I.N+1+1<256 by omega);rw [Qb _ _ _ ho,if_pos rfl]

structure Left (D E:Dev) (I J:Img) (er:Int):Prop where
 fen:E.fen=D.fen
 ok:E.Ok
 len:E.st.length=D.st.length
 pend:E.pend=[]
 done:(er=0/\Rest E J)\/(er=10/\E.failed=true/\(I3 (BR E) I\/I3 (BR E) J))
theorem Rs {D:Dev} {I:Img} {ws:Wl} {sy ep:Int} (h:Rest D I) (ht:Takes I ws) (hN:I.N+2<256) (hc:Calm D sy ep):
 ∃E er,BS sy ep (B3 (DE (I.upd ws) ws) (nv (I.N+1))) D=(E,er)/\Left D E I (I.upd ws) er:=by
 have he:=Mh h.img ht;rw [<-h.len] at he;cases hf:D.fuse with
 | none=>
   obtain ⟨k1,k2,k3,k4⟩:=Je (v:=nv (I.N+1)) h.ok he;have G:=(I7 (v:=nv (I.N+1)) h.ok he).2.2.2;have H:(ph4 D (DE (I.upd ws) ws) (nv (I.N+1))).pend=[]:=k4.pend.trans (k3.pend.trans (k2.pend.trans (k1.pend.trans h.pend)));refine ⟨_,0,Np he hc hf h.pend,k4.fen.trans (k3.fen.trans (k2.fen.trans k1.fen)),k4.ok,G,H,.inl ⟨rfl,(Clean.mk (Jl h.toHolds ht _ k4.ok G (k4.failed.trans (k3.failed.trans (k2.failed.trans (k1.failed.trans h.live)))) H (λi hi=>QP h.ok he i hi)) ?_).rest (show 1<=I.N+1 by omega) (show I.N+1+1<256 by omega)⟩⟩;rw [OU h.ok he,if_pos rfl]
 | some fu=>
 obtain ⟨f,sv⟩:=fu;obtain ⟨l,hl⟩:∃l,DE (I.upd ws) ws=l:=⟨_,rfl⟩;obtain ⟨v,hv⟩:∃v,nv (I.N+1)=v:=⟨_,rfl⟩;have Y:l[0]? =some (0,(I.upd ws).topR):=by rw [<-hl];rfl
 have x:=λ(E:Dev) a b c d e f g=>RN (D:=D) (E:=E) (I:=I) (ws:=ws) h.toHolds ht hN a b c d e f g;have B:=λ(E:Dev) a b c d e=>Jl (E:=E) h.toHolds ht a b c d e;have t:I.N+1<256:=oo;rw [hl] at he x B ⊢;rw [hv] at he ⊢;obtain ⟨k1,k2,k3,k4⟩:=Je (v:=v) h.ok he;obtain ⟨l1,l2,l3,l4⟩:=I7 (v:=v) h.ok he;have Z:=he.low;have ad:=he.lim;have C:CP l v=Dk (nv (I.N+1)) l.length:=by rw [Yj he,<-hv]
 have y:=he.nodup;have J:∀e∈l,e.1<=32\/131<=e.1:=λe hm=>(he.place e hm).imp id (λh=>h.1);have K:131<=D.st.length:=Z;have a1:∀i,(i<=33\/131<=i)->(ph1 D l).at i=D.at i:=λi hi=>by rw [RB he,dif_neg oo]
 have s1:∀j (hj:j<l.length),(ph1 D l).at (34+j)=l[j].2:=λj hj=>by
  rw [RB he,dif_pos ⟨oo,oo⟩];congr 2;omega
 have a2:∀i,i≠33->(ph2 D l v).at i=(ph1 D l).at i:=λi hi=>by rw [RD h.ok he,if_neg hi]
 have b2:(ph2 D l v).at 33=CP l v:=by rw [RD h.ok he,if_pos rfl]
 have L:Ak l 33=none:=B5 _ _ (λe hm hq=>by have:=J e hm;omega);have M:∀j,j<l.length->Ak l (34+j)=none:=λj hj=>B5 _ _ (λe hm hq=>by have:=J e hm;omega);have c1:=hc.kept k1;have c2:=c1.kept k2;have c3:=c2.kept k3
 have O:∀i,(i<=32\/131<=i)->(ph3 D l v).at i=(Ak l i).getD (D.at i):=λi hi=>by
  rw [NY h.ok he,a2 i oo,a1 i oo]
 rcases LG sy ep sv (Bf l) D f hc hf h.pend (Fw he) with ⟨_,r1⟩ | ⟨_,r1⟩;rotate_left
 . have ot:okW D ((Bf l).take f):=λe hm=>Fw he e (jP hm);obtain ⟨o1,o2⟩:=Ko D sy ((Bf l).take f) sv hc ot;have m:=(Kf D sy ((Bf l).take f) sv h.ok ot (Jj f (Hv l))).1
   have q:∀i,(i<=33\/131<=i)->(EL D (wrs sy ((Bf l).take f)) sv).at i=D.at i:=λi hi=>m i (λe hm hq=>by
    obtain ⟨j,hj,rfl⟩:=II l e (jP hm)
    simp only [] at hq
    omega)
   refine ⟨_,10,L4 r1,rfl,o1,o2,rfl,.inr ⟨rfl,rfl,.inl ?_⟩⟩;have hh:Holds (BR (EL D (wrs sy ((Bf l).take f)) sv)) I:=h.toHolds.same (E7 o1) o2 rfl rfl (λi hi=>q i oo);exact (Rest.mk hh h.pos h.lim (by rw [show (BR (EL D (wrs sy ((Bf l).take f)) sv)).at 33=D.at 33 from q 33 oo];exact h.dead)).after rfl
 have e1:B0 (BF D (Bf l)) [] (some (f - ((Bf l).length+1),sv))=B0 (ph1 D l) [] (some (f - ((Bf l).length+1),sv)):=rfl;rw [e1] at r1;generalize f - ((Bf l).length+1)=f1 at r1;have d1:=c1.setE (some (f1,sv));have P:(B0 (ph1 D l) [] (some (f1,sv))).st.length=D.st.length:=l1;have Q:∀s:ByteArray,s.size=140->okW (B0 (ph1 D l) [] (some (f1,sv))) [(33,s)]:=λs hs=>EX (by rw [P];exact K) s hs;rcases LG sy ep sv [(33,CP l v)] (B0 (ph1 D l) [] (some (f1,sv))) f1 d1 rfl rfl (Q _ (An ..)) with ⟨_,r2⟩ | ⟨_,r2⟩;rotate_left
 . have ot:okW (B0 (ph1 D l) [] (some (f1,sv))) ([(33,CP l v)].take f1):=λe hm=>Q _ (An ..) e (jP hm);obtain ⟨o1,o2⟩:=Ko _ sy ([(33,CP l v)].take f1) sv d1 ot;obtain ⟨m,r⟩:=Kf _ sy ([(33,CP l v)].take f1) sv d1.ok ot (Jj f1 qs);obtain ⟨E,hE⟩:∃E,EL (B0 (ph1 D l) [] (some (f1,sv))) (wrs sy ([(33,CP l v)].take f1)) sv=E:=⟨_,rfl⟩;rw [hE] at r2 o1 o2 m r
   have q:∀i,i≠33->E.at i=(ph1 D l).at i:=λi hi=>m i (λe hm hq=>by
    have:=jP hm
    rw [gQ.1 this] at hq
    exact hi hq.symm)
   have o:E.st.length=D.st.length:=o2.trans P;have k:E.pend=[]:=by rw [<-hE];rfl
   have u:E.fen=D.fen:=by rw [<-hE];exact k1.fen
   have w:E.failed=true:=by rw [<-hE];rfl
   have hh:Holds (BR E) I:=h.toHolds.same (E7 o1) o rfl k (λi hi=>(q i oo).trans (a1 i oo));refine ⟨E,10,by unfold B3;rw [Fk r1];exact L4 r2,u,o1,o,k,.inr ⟨rfl,w,?_⟩⟩
   have z:E.at 33=CP l v->I3 (BR E) (I.upd ws):=λp=>by
    refine x (BR E) (E7 o1) o rfl k rfl (LQ (BR E) l v (by rw [show (BR E).st.length=D.st.length from o];exact he) k p (λj hj=>(q (34+j) oo).trans (s1 j hj)) (λ_=>.inr ?_)) (λi hi _=>(q i oo).trans (a1 i oo));rw [hh.topI,<-hv];exact Oe I.N t
   have R:Dead I.N (E.at 33)->I3 (BR E) I:=λhd=>(Rest.mk hh h.pos h.lim hd).after rfl;have h0:(ph1 D l).at 33=D.at 33:=a1 33 oo;cases f1 with
   | zero=>exact .inl (R (by rw [m 33 (λe hm=>by cases hm)];exact h0▸h.dead))
   | succ g=>
     obtain ⟨n,hn,e⟩:=r (33,CP l v) qs;have e':E.at 33=Cf (CP l v) n ((ph1 D l).at 33):=e;rw [h0,C] at e';rcases bD h.dead t ⟨he.pos,ad⟩ hn with h9 | h9
     . exact .inr (z (by rw [e',h9,C]))
     . exact .inl (R (by rw [e'];exact h9))
 have e2:BF (B0 (ph1 D l) [] (some (f1,sv))) [(33,CP l v)]=B0 (ph2 D l v) [] (some (f1,sv)):=JB _ _ _ _;rw [e2,G2] at r2;generalize f1 - ([(33,CP l v)].length+1)=f2 at r2;have d2:=c2.setE (some (f2,sv));have S:(B0 (ph2 D l v) [] (some (f2,sv))).st.length=D.st.length:=l2;have T:okW (B0 (ph2 D l v) [] (some (f2,sv))) l:=λe hm=>by rw [S];exact he.lt e hm
 rcases LG sy ep sv l (B0 (ph2 D l v) [] (some (f2,sv))) f2 d2 rfl rfl T with ⟨_,r3⟩ | ⟨_,r3⟩;rotate_left
 . have ot:okW (B0 (ph2 D l v) [] (some (f2,sv))) (l.take f2):=λe hm=>T e (jP hm);obtain ⟨o1,o2⟩:=Ko _ sy (l.take f2) sv d2 ot;obtain ⟨m,r⟩:=Kf _ sy (l.take f2) sv d2.ok ot (Jj f2 y);obtain ⟨E,hE⟩:∃E,EL (B0 (ph2 D l v) [] (some (f2,sv))) (wrs sy (l.take f2)) sv=E:=⟨_,rfl⟩;rw [hE] at r3 o1 o2 m r;have o:E.st.length=D.st.length:=o2.trans S;have k:E.pend=[]:=by rw [<-hE];rfl
   have u:E.fen=D.fen:=by rw [<-hE];exact k2.fen.trans k1.fen
   have w:E.failed=true:=by rw [<-hE];rfl
   have F:∀i,(∀e∈l,e.1≠i)->E.at i=(ph2 D l v).at i:=λi hi=>m i (λe hm=>hi e (jP hm));have p:E.at 33=CP l v:=(F 33 (L6 y L)).trans b2;refine ⟨E,10,by unfold B3;rw [Fk r1,Fk r2];exact L4 r3,u,o1,o,k,.inr ⟨rfl,w,.inr ?_⟩⟩;refine x (BR E) (E7 o1) o rfl k rfl (LQ (BR E) l v (by rw [show (BR E).st.length=D.st.length from o];exact he) k p (λj hj=>?_) (λhok=>?_)) (λi hi hq=>?_)
   . exact (F (34+j) (L6 y (M j hj))).trans ((a2 _ oo).trans (s1 j hj))
   . have ae:E.at 0=I.topR\/∃n,n<=140/\E.at 0=Cf (I.upd ws).topR n I.topR:=by
      have U:(ph2 D l v).at 0=I.topR:=(a2 0 oo).trans ((a1 0 oo).trans h.top);cases f2 with
      | zero=>exact .inl ((m 0 (λe hm=>by cases hm)).trans U)
      | succ g=>
        have hm:(0,(I.upd ws).topR)∈l.take (g+1):=by
         refine jL (i:=0) ?_;rw [getElem?_take,if_pos oo];exact Y
        obtain ⟨n,hn,e⟩:=r _ hm;have e':E.at 0=Cf (I.upd ws).topR n ((ph2 D l v).at 0):=e;rw [U] at e';exact .inr ⟨n,hn,e'⟩
     have al:topI (BR E)=AQ (E.at 0) 0:=by unfold topI;rw [Qc (D:=BR E) k 0];rfl
     rw [al] at hok ⊢;rcases ae with h0 | ⟨n,hn,h0⟩
     . right;rw [h0];unfold Img.topR;rw [GL,<-hv];exact Oe I.N t
     . rw [h0] at hok ⊢;have V:=bK (AM (I.upd ws).tops) (AM I.tops) I.N 0 t n hn;have e9:Cf (AZ (AM (I.upd ws).tops) (nv (I.N+1)) ((0:Nat):Int)) n (AZ (AM I.tops) (nv I.N) ((0:Nat):Int))=Cf (I.upd ws).topR n I.topR:=rfl;rw [e9] at V;unfold AQ at hok ⊢;by_cases hk:okR (Cf (I.upd ws).topR n I.topR) 0
       . rw [if_pos hk];show v=Cp _\/v.toNat=(Cp _).toNat+1;rcases V with h9 | h9
         . left;rw [h9,hv]
         . right;rw [h9,<-hv];exact Oe I.N t
       . rw [if_neg hk] at hok;cases hok
   . exact (F i (L6 y hq)).trans ((a2 i oo).trans (a1 i oo))
 have e3:BF (B0 (ph2 D l v) [] (some (f2,sv))) l=B0 (ph3 D l v) [] (some (f2,sv)):=JB _ _ _ _;rw [e3,G2] at r3;generalize f2 - (l.length+1)=f3 at r3;have d3:=c3.setE (some (f3,sv));have W:(B0 (ph3 D l v) [] (some (f3,sv))).st.length=D.st.length:=l3;have X:okW (B0 (ph3 D l v) [] (some (f3,sv))) [(33,blankR)]:=EX (by rw [W];exact K) _ Bn;rcases LG sy ep sv [(33,blankR)] (B0 (ph3 D l v) [] (some (f3,sv))) f3 d3 rfl rfl X with ⟨_,r4⟩ | ⟨_,r4⟩
 . have e4:BF (B0 (ph3 D l v) [] (some (f3,sv))) [(33,blankR)]=B0 (ph4 D l v) [] (some (f3,sv)):=JB _ _ _ _;rw [e4,G2] at r4;generalize f3 - ([(33,blankR)].length+1)=f4 at r4;have c4:=(c3.kept k4).setE (some (f4,sv));refine ⟨B0 (ph4 D l v) [] (some (f4,sv)),0,by unfold B3;rw [Fk r1,Fk r2,Fk r3,r4],k4.fen.trans (k3.fen.trans (k2.fen.trans k1.fen)),c4.ok,l4,rfl,.inl ⟨rfl,?_⟩⟩;refine (Clean.mk (B _ c4.ok l4 c4.live rfl (λi hi=>?_)) ?_).rest (show 1<=I.N+1 by omega) (show I.N+1+1<256 by omega)
   . exact QP h.ok he i hi
   . show (ph4 D l v).at 33=_;rw [OU h.ok he,if_pos rfl]
 . have ot:okW (B0 (ph3 D l v) [] (some (f3,sv))) ([(33,blankR)].take f3):=λe hm=>X e (jP hm);obtain ⟨o1,o2⟩:=Ko _ sy ([(33,blankR)].take f3) sv d3 ot;obtain ⟨m,r⟩:=Kf _ sy ([(33,blankR)].take f3) sv d3.ok ot (Jj f3 qs);obtain ⟨E,hE⟩:∃E,EL (B0 (ph3 D l v) [] (some (f3,sv))) (wrs sy ([(33,blankR)].take f3)) sv=E:=⟨_,rfl⟩;rw [hE] at r4 o1 o2 m r
   have q:∀i,i≠33->E.at i=(ph3 D l v).at i:=λi hi=>m i (λe hm hq=>by
    have:=jP hm
    rw [gQ.1 this] at hq
    exact hi hq.symm)
   have o:E.st.length=D.st.length:=o2.trans W;have k:E.pend=[]:=by rw [<-hE];rfl
   have u:E.fen=D.fen:=by rw [<-hE];exact k3.fen.trans (k2.fen.trans k1.fen)
   have w:E.failed=true:=by rw [<-hE];rfl
   have hh:Holds (BR E) (I.upd ws):=B _ (E7 o1) o rfl k (λi hi=>(q i oo).trans (O i hi));have b3:(ph3 D l v).at 33=CP l v:=by rw [NY h.ok he,L];exact b2
   refine ⟨E,10,by unfold B3;rw [Fk r1,Fk r2,Fk r3,r4],u,o1,o,k,.inr ⟨rfl,w,.inr ?_⟩⟩
   have z:E.at 33=CP l v->I3 (BR E) (I.upd ws):=λp=>by
    refine x (BR E) (E7 o1) o rfl k rfl (LQ (BR E) l v (by rw [show (BR E).st.length=D.st.length from o];exact he) k p (λj hj=>?_) (λ_=>.inl ?_)) (λi hi hq=>?_)
    . refine (q (34+j) oo).trans ?_;rw [NY h.ok he,M j hj];exact (a2 _ oo).trans (s1 j hj)
    . rw [hh.topI];exact hv.symm
    . rw [show (BR E).at i=E.at i from rfl,q i oo,O i hi,hq];rfl
   have p:E.at 33=CP l v\/∃n,n<=140/\E.at 33=Cf blankR n (CP l v):=by
    cases f3 with
    | zero=>exact .inl ((m 33 (λe hm=>by cases hm)).trans b3)
    | succ g=>
      obtain ⟨n,hn,e⟩:=r (33,blankR) qs;have e':E.at 33=Cf blankR n ((ph3 D l v).at 33):=e;rw [b3] at e';exact .inr ⟨n,hn,e'⟩
   rcases p with p | ⟨n,hn,p⟩
   . exact z p
   . by_cases h0:n=0
     . subst h0;apply z;rw [p];have A:(CP l v).size=140:=An ..;apply LA ((Hp Bn A oo).trans A.symm);intro j hj;rw [Hp Bn A oo] at hj;rw [JT Bn A oo j hj,if_neg oo]
     . refine (Rest.mk hh (show 1<=I.N+1 by omega) (show I.N+1+1<256 by omega) ?_).after rfl;show Dead (I.N+1) (E.at 33);rw [p,C];exact Y7 oo oo hn

theorem Rest.calm {D:Dev} {I:Img} (h:Rest D I) (hf:D.fen=λ_=>0) {sy:Int} (hs:1<=sy/\sy<=4):Calm D sy 0:=⟨h.ok,h.live,by unfold Cr;exact iB ⟨hs.1,hs.2,oo,oo⟩,by rw [hf];show ¬(0:Int)<0;omega⟩
theorem Rest.topOK {D:Dev} {I:Img} (h:Rest D I):(topI D).ok=true/\(topI D).ver≠4294967295#32:=by
 have hl:=h.lim;refine ⟨by rw [h.topI],?_⟩;rw [h.topI];intro hq;have:=iH BitVec.toNat hq;rw [show (Raw.mk (AM I.tops) (nv I.N) true).ver=nv I.N from rfl,Dt _ oo] at this;simp at this;omega
theorem Qy {D:Dev} {I:Img} (h:Rest D I) (hf:D.fen=λ_=>0) {sy:Int} (hs:1<=sy/\sy<=4) (ws:List (Int × ByteArray)) (hN:I.N+2<256):
 (Ac I.n ws≠0/\Al D sy 0 ws=(D,Ac I.n ws))\/(Ac I.n ws=0/\∃E er,Al D sy 0 ws=(E,er)/\Left D E I (I.next ws) er):=by
 have hn:D.st.length - 131=I.n:=by rw [h.len];omega
 have b:=h.fin sy 0;by_cases h0:Ac I.n ws=0;rotate_left
 . refine .inl ⟨h0,?_⟩;unfold Al;rw [b,hn,if_neg qs,if_pos (.inl h0)]
 refine .inr ⟨h0,?_⟩;by_cases a:ws=[]
 . have hx:I.next ws=I:=if_pos a;refine ⟨D,0,?_,rfl,h.ok,rfl,h.pend,.inl ⟨rfl,by rw [hx];exact h⟩⟩;unfold Al;rw [b,hn,if_neg qs,if_pos (.inr a),h0]
 . have hx:I.next ws=I.upd (Bw I.n ws):=if_neg a;have ht:=NF I ws h0 a oo;obtain ⟨E,er,r1,r2⟩:=Rs h ht hN (h.calm hf hs);refine ⟨E,er,?_,by rw [hx];exact r2⟩;obtain ⟨t1,t2⟩:=h.topOK;unfold Al;rw [b,hn,if_neg qs,if_neg (by simp [h0,a])];show (if (topI D).ok=false then (D,11) else if El D (ksW (Bw I.n ws))≠0 then (D,El D (ksW (Bw I.n ws))) else if (topI D).ver=4294967295#32 then (D,8) else BS sy 0 (B3 (Gr D (Bw I.n ws) ((topI D).ver+1#32)) ((topI D).ver+1#32)) D)=_;rw [Ni h.toHolds _ (λk hk=>((CR _ k).1 hk).1),if_neg (by rw [t1];simp),if_neg qs,if_neg t2,h.topI];show BS sy 0 (B3 (Gr D (Bw I.n ws) (nv I.N+1#32)) (nv I.N+1#32)) D=_;rw [Qf,Q5 h.toHolds ht];exact r1

end
section
attribute [local go_sem ↓] Go.wp_at_zero Go.wp_at_succ
open Go.RowKit Go.MapKept
section
variable {w0:World} {x s m:Nat} {sy ep:Int} {D:Dev} {I:Img} {out:Nat->Prop} {W:World}
theorem cH (h:Held w0 x s m sy ep D out W) (a:Idle D I):Calls Tryz.prog 187 #[ptrV s] W λe w'=>e=.returned (.tuple #[.slice none 0 0,.int .i64 0])/\Done w0 x s m sy ep D out W w':=by
 have g:132<=D.st.length/\D.st.length<=1155:=by have:=a.len;have:=a.img.n0;have:=a.img.n1;omega
 have j:Bs D sy ep=(D,false,0):=by
  unfold Bs;rw [if_neg (by rw [a.live];simp),if_pos a.noint]
 have HF:=zh (Eo h g.1 (by rw [a.pend];simp) D false 0 j);obtain ⟨n,hn⟩:∃n:Nat,I.n=n:=⟨_,rfl⟩;have B:D.st.length=131+n:=by rw [a.len,hn]
 have T:n<=1024:=oo;have C:=zh (λ(i:Nat) (hi:i<n)=>a.toHolds.look i (by rw [hn];exact hi));have E:=zh a.live;have c:=zh B;have G:=h.store.lt;have U:=h.live.base.size;have HH:=zh h;clear h g j hn a;go_enter Tryz.func187,Tryz.ntmps187;go_wp2_with fail;refine HF.mono ?_;rintro e w1 ⟨rfl,hd⟩;have HD:=zh hd;have l:=Km (HH.done hd);have V:W.heap.size<=w1.heap.size:=hd.turned.size;have b:=zh (show (w0.heap.size<=w1.heap.size/\s<w1.heap.size)/\m<w1.heap.size from ⟨⟨oo,oo⟩,oo⟩);have d:=zh l;clear hd l HF G;go_wp2_with fail;refine (NV s D w1.heap.size w1 (gM _)).mono ?_;rintro e w2 ⟨gv,mm,rfl,w,g2⟩;have o:=zh (d.up b.1 b.2 (g2.turned _) (d.store.grew g2));have H:=zh w;have J:=zh (g2.turned (λq=>q=m\/w1.heap.size<=q));have p:=zh (IW o);rw [show (D.st.length:Int) - 131=(n:Int) from by have:=c.out;omega] at p;clear w g2;go_wp2_with fail;refine p.mono ?_;rintro e w3 ⟨rfl,g3⟩;have r:=zh (J.andGrew g3);have K:=zh (d.up b.1 b.2 r (o.store.grew g3));have L:=zh (H.grew g3);clear g3;go_wp2_with fail
 go_loopg [6,23] n (λgk u i' wr=>u=.slice none 0 0/\∃i:Nat,i<=n/\gk=n - i/\i'=.int .i64 i/\Held w0 x s m sy ep D (up out w1.heap.size wr) wr/\ViewM wr w1.heap.size gv s mm D/\Turned (λq=>q=m\/w1.heap.size<=q) w1 wr)
 case atStart=>exact ⟨rfl,0,oo,oo,rfl,K,L,r⟩
 case round=>
  obtain ⟨rfl,i,hi,A,rfl,hh,hv,ht⟩:=hrel;have M:=zh A;have t:=zh hh;have N:=zh hv;have v:=zh ht;clear A hh hv ht;by_cases S:i<n
  . have X:(i:Int)<(n:Int):=oo;have HG:=zh (V2 t b.1 (by have:=c.out;omega) E b.2 N i (by have:=c.out;omega) oo);rw [C.out i S] at HG;go_wp2_with fail;refine HG.mono ?_;rintro e w5 ⟨rfl,y,f,z⟩;have O:w1.heap.size<=gv/\w1.heap.size<=mm:=by obtain ⟨Y,F,hv⟩:=f;exact ⟨hv.lg,hv.lm⟩
    have P:Hid (Turned (λq=>q=m\/w1.heap.size<=q) w1 w5):=zh (v.out.trans (z.mono λk _ hk=>by rcases hk with hk | hk | hk;exact .inl hk;exact .inr oo;exact .inr oo));have Q:=zh y;have R:=zh f;clear y f z O;go_wp2_with fail
    go_roundg (n - (i+1))
    case measure=>rw [M.out];omega
    case rel=>exact ⟨rfl,i+1,oo,oo,by go_num,Q,R,P⟩
  . obtain rfl:i=n:=oo;go_wp2_with fail;go_ret2;exact ⟨rfl,WB HD t v⟩
end

end
section
open Go.RowKit Go.ChangeShapes Go.WideShapes Go.ChangeAt Go.Deep
theorem dr {x:Int} (h:Lit.wf (.int .i64 x)=true):okI x:=by
 simp only [Lit.wf,IntKind.min,IntKind.max,IntKind.signed,IntKind.bits] at h;unfold okI;simp at h;omega
section
variable {H:Type} {enc:TypeId × Value->H} {w:World}
theorem bV {n:Nat} {cs:List Value} {y:DataW H × List MemPlace} (c:cs.length=2) (h:DataW.trod enc Tryz.prog w 0 (λ_=>true) true n 65 cs=some y):∃e:Int × ByteArray,okI e.1/\cs=BM e:=by
 have hf:=FH Tryz.underlying65 qk h;obtain ⟨v0,_,_,e0,f0⟩:=hf 0 _ rfl oo;obtain ⟨v1,_,_,e1,f1⟩:=hf 1 _ rfl oo;obtain ⟨n0,a,_,w0⟩:=i0 Tryz.underlying3 f0;obtain ⟨n1,b,_,w1⟩:=DataW.trod_string Tryz.underlying9 f1;injection a with a _;injection b with b _;subst a;subst b;refine ⟨(n0,n1),dr w0,?_⟩
 match cs,c with
 | [x0,x1],_=>
   simp at e0 e1;rw [e0,e1];rfl
end

end
end Go.Proofs.YtfklieeipokllaaGreat
