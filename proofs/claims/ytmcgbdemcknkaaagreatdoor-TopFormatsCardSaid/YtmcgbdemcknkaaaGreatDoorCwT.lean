/- Parts of the proof (packed), 20. -/
import Derived.Test.YtmcgbdemcknkaaaGreatDoorCwR
namespace Go.Proofs.YtmcgbdemcknkaaaGreatDoor
set_option linter.all false
set_option maxRecDepth 100000
set_option maxHeartbeats 16000000
open List
section
attribute [local go_sem ↓] Go.wp_at_zero Go.wp_at_succ
open Go.RowKit
theorem Zc {D:Dev} {sy ep n:Int} {T:Tab} (h1:(Dd D sy ep n).2.1=T) (h2:(Dd D sy ep n).2.2=0):GoodT T:=by
 unfold Dd at h1 h2;simp only at h1 h2;unfold asT at h1 h2;split at h1
 . rename_i h3;rw [if_pos h3] at h2;exact absurd h2 h3
 . rename_i h3;rw [if_neg h3] at h2;split at h1
   . rename_i U hU;rw [hU] at h2;simp only at h2;split at h1
     . have h4:=YW hU;subst h1;exact (Af _).1 h4.1
     . rename_i h5;rw [if_neg h5] at h2;cases h2
   . rename_i hU;rw [hU] at h2;cases h2
theorem Jm {T:Tab} (h:GoodT T):SmallT T:=⟨by have:=h.small.1;omega,λl hl=>by have:=(h.small.2 l hl).1;omega⟩
theorem QI {w0:World} {out:Nat->Prop} {m v:Nat} {W W1 w':World} {b:Nat} {t:TypeId} {cs:Array Value} (hb:Blk W1 b t cs) (h1:W.heap.size<=b) (hm:m<W.heap.size) (hv:v<W.heap.size) (ht:Turned (VSet w0 (λk=>out k\/(W.heap.size<=k/\k<W1.heap.size)) m v) W1 w'):Blk w' b t cs:=
 hb.turned ht (λh9=>by
  rcases h9 with h9 | h9 | h9
  . exact h9.2 (.inr ⟨h1,hb.lt⟩)
  . omega
  . omega)
theorem bD {w0:World} {out:Nat->Prop} {m v:Nat} {P:Nat->Prop} {b:Nat} (h:Far w0 out m v b):Far w0 (λk=>out k\/P k) m v b:=h.mono λ_=>.inl
def QK (id unit:Int) (nm nt:ByteArray) (k:Int) (b1 b2 b3 b4:Nat) (w:World):Prop:=Blk w b1 53 #[.int .i64 id,.int .i64 unit]/\Blk w b2 9 #[.string nm]/\Blk w b3 9 #[.string nt]/\Blk w b4 3 #[.int .i64 k]
theorem V9 (T:Tab) (hs:SmallT T) (id a:Int) (nm nt:ByteArray) (g:nm.size<=9223372036854775807) (h:nt.size<=9223372036854775807) (k:Int) (hk:okI k) (b1 b2 b3 b4:Nat):fD (.func (.func 45) #[] #[.pointer (some ⟨b1,0,none⟩),.pointer (some ⟨b2,0,none⟩),.pointer (some ⟨b3,0,none⟩),.pointer (some ⟨b4,0,none⟩)]) (QK id a nm nt k b1 b2 b3 b4) T (CI T id a nm nt k):=by
 refine ⟨45,#[],_,rfl,BD Tryz.func45 qk qk,λw A c ys hP ht=>?_⟩;show Calls Tryz.prog 45 #[.agg #[.string T.name,.int .i64 T.tracks,.slice A T.labels.length c],.pointer (some ⟨b1,0,none⟩),.pointer (some ⟨b2,0,none⟩),.pointer (some ⟨b3,0,none⟩),.pointer (some ⟨b4,0,none⟩)] w _;obtain ⟨⟨T',er⟩,hr⟩:∃r,CI T id a nm nt k=r:=⟨_,rfl⟩;rw [hr];have b:Grew w ((w.alloc (.cells #[.string T.name,.int .i64 T.tracks,.slice A T.labels.length c] 95)).alloc (.cells #[.string ⟨#[]⟩,.int .i64 0,.slice none 0 0] 95)):=((iW w).alloc _).alloc _;have d:=ik (w.alloc (.cells #[.string T.name,.int .i64 T.tracks,.slice A T.labels.length c] 95)) 95 #[.string ⟨#[]⟩,.int .i64 0,.slice none 0 0] (n:=w.heap.size+1) qs;unfold QK at hP;obtain ⟨q1,q2,q3,q4⟩:=hP;have m:=q1.cell 0;have o:=q1.cell 1;have l1:=q1.lt;have p:=q2.cell 0;have l2:=q2.lt;have q:=q3.cell 0;have l3:=q3.lt;have s:=q4.cell 0;have l4:=q4.lt;have HK:=zh hk;unfold okI at hk;have HC:=zh (Uo A c ys T id a _ (ht.hold b) hs nm nt g h k hk.1 hk.2 _ _ hr);have HZ:=zh d;have HG:=zh b;clear b d q1 q2 q3 q4 hr;go_enter Tryz.func45,Tryz.ntmps45;go_wp2_with fail;refine HC.mono ?_;rintro e w1 ⟨A1,c1,zs,rfl,f,g1⟩;have hz:=HZ.grew g1;have i:=zh hz;have j:=zh (HG.out.trans g1);have l:=zh f;have z0:=hz.cell 0;have z1:=hz.cell 1;have z2:=hz.cell 2;have f0:=hz.frozen 0;have f1:=hz.frozen 1;have f2:=hz.frozen 2;have zl:=hz.lt;clear hz g1 f l1 l2 l3 l4;go_wp2_with fail;refine im (by first | (simp [*,results,Tryz.results45,go_sem];rfl) | simp [*,results,Tryz.results45,go_sem]) rfl ?_;exact ⟨A1,c1,zs,rfl,l.apart i (gT),by have hg:=j.out;exact gG⟩
section
variable {w0:World} {x s m v:Nat} {n sy ep:Int} {D:Dev} {out:Nat->Prop} {W:World} (h:VHeld w0 x s m v n sy ep D out W) (hlen:132<=D.st.length/\D.st.length<=1155) (hp:D.pend.length<=900000) (hn:okT n=true) (HCM:∀E,(Dd D sy ep n).1=E->(Dd D sy ep n).2.2=0->Nm x s m sy ep E)
include h hlen hp hn HCM
theorem Q2 (id a:Int) (nm nt:ByteArray) (o:nm.size<=9223372036854775807) (p:nt.size<=9223372036854775807) (k:Int) (hk:okI k) (ws:List (Int × ByteArray)) (hl:ws.length<=900000) (j:∀e∈ws,okI e.1) (B:Option Addr) (d:Nat) (l:ListAt W W.heap.size 2 B (ws.map B0)) (hB:ws≠[]->∀b off,B=some ⟨b,off,none⟩->Far w0 out m v b) (D':Dev) (er:Int) (hr:chP D sy ep n id a ws (λT=>CI T id a nm nt k)=(D',er)):
 Calls Tryz.prog 17 #[ptrV v,.agg #[.int .i64 id,.int .i64 a],.string nm,.string nt,.int .i64 k,.slice B ws.length d] W λe w'=>e=.returned (.int .i64 er)/\∃out',VDid w0 x s m v n sy ep D' out W out' w':=by
 have c:Grew W ((((W.alloc (.cells #[.int .i64 id,.int .i64 a] 53)).alloc (.cells #[.string nm] 9)).alloc (.cells #[.string nt] 9)).alloc (.cells #[.int .i64 k] 3)):=((((iW W).alloc _).alloc _).alloc _).alloc _;have f:=h.held.store.lt.2;have g:=h.vol.lt;have q1:=((((ik W 53 #[.int .i64 id,.int .i64 a] (n:=W.heap.size) qs).alloc (.cells #[.string nm] 9)).alloc (.cells #[.string nt] 9)).alloc (.cells #[.int .i64 k] 3));have q2:=(((ik (W.alloc (.cells #[.int .i64 id,.int .i64 a] 53)) 9 #[.string nm] (n:=W.heap.size+1) qs).alloc (.cells #[.string nt] 9)).alloc (.cells #[.int .i64 k] 3));have q3:=((ik ((W.alloc (.cells #[.int .i64 id,.int .i64 a] 53)).alloc (.cells #[.string nm] 9)) 9 #[.string nt] (n:=W.heap.size+1+1) qs).alloc (.cells #[.int .i64 k] 3));have q4:=ik (((W.alloc (.cells #[.int .i64 id,.int .i64 a] 53)).alloc (.cells #[.string nm] 9)).alloc (.cells #[.string nt] 9)) 3 #[.int .i64 k] (n:=W.heap.size+1+1+1) qs;obtain ⟨W1,i⟩:∃W1,W1=((((W.alloc (.cells #[.int .i64 id,.int .i64 a] 53)).alloc (.cells #[.string nm] 9)).alloc (.cells #[.string nt] 9)).alloc (.cells #[.int .i64 k] 3)):=⟨_,rfl⟩;rw [<-i] at c q1 q2 q3 q4
 have HC:=zh (RX (h.more c) hlen hp hn id a HCM ws hl j B d (AG l c) (λhne b off e=>bD (hB hne b off e)) (λT=>CI T id a nm nt k) _ (QK id a nm nt k (W.heap.size) (W.heap.size+1) (W.heap.size+1+1) (W.heap.size+1+1+1))
  (λw' ht=>⟨QI q1 oo f g ht,QI q2 oo f g ht,QI q3 oo f g ht,QI q4 oo f g ht⟩)
  (λT h1 h2=>⟨V9 T (Jm (Zc h1 h2)) id a nm nt o p k hk (W.heap.size) (W.heap.size+1) (W.heap.size+1+1) (W.heap.size+1+1+1),λh3=>by
    obtain ⟨⟨U,e3⟩,hu⟩:∃r,CI T id a nm nt k=r:=⟨_,rfl⟩
    simp only [hu] at h3 ⊢
    subst h3
    exact Jm (Hl T U id a nm nt k hu).good⟩) D' er hr)
 have HG:=zh c;have q:=q1.cell 0;have t:=q1.cell 1;have l1:=q1.lt;have u:=q2.cell 0;have l2:=q2.lt;have w:=q3.cell 0;have l3:=q3.lt;have y:=q4.cell 0;have l4:=q4.lt;unfold okI at hk;clear h hlen hp hn HCM c f g hr q1 q2 q3 q4 j l hB;go_enter Tryz.func17,Tryz.ntmps17;rw [i] at HC HG q t l1 u l2 w l3 y l4;clear i W1;go_wp2_with fail;refine HC.mono ?_;rintro e w1 ⟨rfl,o1,hd⟩;have HD:=zh (VDid.after2 HG hd);clear hd;go_wp2_with fail;go_ret;exact ⟨rfl,_,HD⟩
end

end
section
open Go.RowKit
structure VGood (D:Dev) (I:Img) (T:Tab) (n:Nat):Prop where
 hist:Hist D I
 neat:Neat D I
 size:I.n=8*n
 tr:T.tracks=(n:Int)
 good:GoodT T
 tab:∀i (h:i<(AQ T).length),I.cs i=(AQ T)[i]
theorem VGood.okn {D:Dev} {I:Img} {T:Tab} {n:Nat} (h:VGood D I T n):okT (n:Int)=true:=by rw [<-h.tr];exact h.good.tr
theorem DH {T:Tab} (h:GoodT T):(AQ T).length=8*(ttS T.tracks).toNat/\∀x∈AQ T,x.size=128:=by
 have h1:=Dh T ((Af T).2 h) _ rfl;have h2:=h.len;have h3:=EC T.tracks
 have h4:1<=ttS T.tracks:=by
  obtain ⟨h5,h6⟩:=Ck h.tr;unfold ttS;rw [if_pos h.tr];omega
 unfold Ca at h2;exact ⟨by rw [h1.1];omega,h1.2.1⟩
theorem VGood.len {D:Dev} {I:Img} {T:Tab} {n:Nat} (h:VGood D I T n):D.st.length=131+8*n:=by rw [h.neat.clean.len,h.size]
theorem VGood.tabs {D:Dev} {I:Img} {T:Tab} {n:Nat} (h:VGood D I T n):(AQ T).length=(tsI n).length/\(AQ T).length<=8*n:=by
 have h1:=(DH h.good).1;have h2:=EC (n:Int);rw [h.tr] at h1;obtain ⟨h3,h4⟩:=Ck h.okn;have h5:ttS (n:Int)<=(n:Int):=by unfold ttS;rw [if_pos h.okn];omega
 rw [QT,h1];exact ⟨rfl,oo⟩
theorem R2 {D:Dev} {I:Img} (h:Clean D I) (sy ep:Int) (l:List Int) (hl:∀i∈l,0<=i/\i<(I.n:Int)):DN D sy ep l=(D,l.map (λi=>I.cs i.toNat),0):=by
 have hn:(D.st.length:Int) - 131=(I.n:Int):=by rw [h.len];omega
 have a:∀k:List Int,(∀i∈k,0<=i/\i<(I.n:Int))->Bq D (I.n:Int) k=0:=by
  intro k
  induction k with
  | nil=>intro _;rfl
  | cons i k ih=>
    intro hk;obtain ⟨h1,h2⟩:=hk i (jA ..);unfold Bq;rw [if_neg oo,h.toHolds.look i.toNat oo,if_neg qs];exact ih λj hj=>hk j (iz _ hj)
 unfold DN;rw [E0 h,if_neg qs];simp only;rw [hn,a l hl,if_pos rfl]
 have:EU D l=l.map (λi=>I.cs i.toNat):=by
  unfold EU;apply jO;intro i hi;obtain ⟨h1,h2⟩:=hl i hi;rw [h.toHolds.look i.toNat oo]
 rw [this]
theorem VGood.table {D:Dev} {I:Img} {T:Tab} {n:Nat} (h:VGood D I T n) (sy ep:Int):Dd D sy ep n=(D,T,0):=by
 obtain ⟨h1,h2⟩:=h.tabs;have a:=h.size
 have hr:DN D sy ep (tsI n)=(D,AQ T,0):=by
  rw [R2 h.neat.clean sy ep (tsI n) (λi hi=>by
   unfold tsI JK at hi
   obtain ⟨j,hj,rfl⟩:=ie.1 hi
   have:=jB.1 hj
   rw [QT] at h1
   omega)]
  congr 2;apply kR
  . rw [iY,h1]
  . intro i h3 h4;rw [kQ];unfold tsI JK;rw [kQ,List.getElem_range,i9];exact h.tab i h4
 unfold Dd;rw [hr,UK ⟨(Af T).2 h.good,rfl⟩ h.tr]
theorem QW {I:Img} {ws:List (Int × ByteArray)} (i:Nat) (hi:i<I.n):(I.next ws).cs i=(KD ws i).getD (I.cs i):=by
 unfold Img.next;split
 . rename_i h;subst h;rfl
 . show (Ad (CS I.n ws) i).getD (I.cs i)=_;rw [UU I.n ws i hi]
theorem GS {D:Dev} {I:Img} (hh:Hist D I) (hn:Neat D I) {sy:Int} (hs:1<=sy/\sy<=4) (ws:List (Int × ByteArray)) (hN:I.N<1000):
 (Bk D sy 0 ws).2=Ae I.n ws/\(Ae I.n ws≠0->(Bk D sy 0 ws).1=D)/\(Ae I.n ws=0->Hist (Bk D sy 0 ws).1 (I.next ws)/\Neat (Bk D sy 0 ws).1 (I.next ws)):=by
 obtain ⟨h1,h2⟩:=Dy hn.clean (hn.calm hs) hn.fuse ws oo;refine ⟨?_,λh0=>by rw [h1 (.inl h0)],λh0=>V5 hh hn hs ws h0 hN⟩;by_cases h0:Ae I.n ws=0
 . by_cases a:ws=[]
   . rw [h1 (.inr a)]
   . obtain ⟨E,hE,_⟩:=h2 h0 a;rw [hE,h0]
 . rw [h1 (.inl h0)]
theorem Ox {D:Dev} {I:Img} (hn:Neat D I) (hN:I.N<1000) {x s m:Nat} {sy:Int} (hs:1<=sy/\sy<=4):Nm x s m sy 0 D:=by
 intro w0 f W h ws hl b A c d hA;refine (Rj h hs hn hN ws hl b A c d hA).mono ?_;rintro e w' ⟨he,D',hd,_,hD⟩
 have h2:(Bk D sy 0 ws).2=Ae I.n ws:=by
  obtain ⟨h1,h2⟩:=Dy hn.clean (hn.calm hs) hn.fuse ws oo;by_cases h0:Ae I.n ws=0
  . by_cases a:ws=[]
    . rw [h1 (.inr a)]
    . obtain ⟨E,hE,_⟩:=h2 h0 a;rw [hE,h0]
  . rw [h1 (.inl h0)]
 rw [h2,<-hD];exact ⟨he,hd⟩
theorem Kd {T:Tab} (hg:GoodT T) (id a:Int) (i:Nat) (hi:i∈CZ (C4 T id a).1.ext):ttS T.tracks<=(i:Int)/\(i:Int)<T.tracks:=by
 rcases IB T id a with ⟨k,hk,_,h2,h3⟩ | ⟨_,h2,_⟩
 . rw [h2] at hi;have hv:=(Wg T hg id a k hk h3).2;exact (UN _ _ hv).2.2.1 i hi
 . rw [h2] at hi;cases hi
theorem O5 {l:Lab} {s q:Int} (h:Ax l.ext s=(q,true)):∃k:Nat,k∈CZ l.ext/\q=(k:Int)*8+s % 8/\0<=s:=by
 rcases Int.lt_or_le s 0 with h9 | h9
 . rw [Ic l.ext s h9] at h;cases h
 . rcases Ga l.ext s h9 with ⟨_,h2⟩ | ⟨k,h1,_,_,h4,h5⟩
   . rw [h2] at h;cases h
   . rw [h5] at h;injection h with h _;exact ⟨k,js h4,h.symm,h9⟩
theorem Yj {l:Lab} {ws:List (Int × ByteArray)} (e:Int × ByteArray) (he:e∈(Am l ws).1):e.2.size=128/\∃a∈ws,a.2=e.2/\Ax l.ext a.1=(e.1,true):=by
 unfold Am at he;split at he
 . cases he
 rename_i h1;split at he
 . cases he
 rename_i h2;obtain ⟨a,ha,rfl⟩:=ie.1 he;simp only [not_or,jU] at h1
 have h3:a.2.size=128:=by
  rw [jl,jT] at h1;simpa using h1.1 a ha
 have h4:(Ax l.ext a.1).2=true:=by
  rw [jl,jT] at h2;simpa using h2 a ha
 exact ⟨h3,a,ha,rfl,by rw [<-h4]⟩
theorem KN {ws:List (Int × ByteArray)} {i:Nat} (h:∀e∈ws,e.1≠(i:Int)):KD ws i=none:=by
 unfold KD;rw [List.find?_eq_none.2 (λe he=>by simpa using h e he)];rfl
theorem Vq (a b:List (Int × ByteArray)) (i:Nat):KD (a++b) i=(KD a i).or (KD b i):=by
 unfold KD;rw [List.find?_append];cases a.find? (λx=>x.1==(i:Int)) with
 | none=>simp
 | some v=>simp
theorem Q3 (T U:Tab) (hl:(AQ T).length=(AQ U).length) (ht:T.tracks=U.tracks) (i:Nat):KD (B6 T U) i=if h:i<(AQ U).length then (if (AQ T)[i]'oo=(AQ U)[i] then none else some (AQ U)[i]) else none:=by
 unfold B6;rw [if_pos ⟨hl,ht⟩];by_cases h:i<(AQ U).length
 . rw [dif_pos h];have hT:i<(AQ T).length:=oo;have e1:(AQ T).getD i ⟨#[]⟩=(AQ T)[i]:=by rw [iu,iV hT];rfl
   have e2:(AQ U).getD i ⟨#[]⟩=(AQ U)[i]:=by rw [iu,iV h];rfl
   by_cases hq:(AQ T)[i]=(AQ U)[i]
   . rw [if_pos hq];refine KN λe he=>?_;unfold Cu at he;obtain ⟨j,hj,rfl⟩:=ie.1 he;have h1:=(jV.1 hj).2;intro h2;have h3:j=i:=by simp only at h2;omega
     subst h3;rw [e1,e2,hq] at h1;simp at h1
   . rw [if_neg hq];unfold KD
     have hm:((i:Int),(AQ U)[i])∈Cu (AQ T) (AQ U) (AQ T).length:=by
      unfold Cu;exact ie.2 ⟨i,jV.2 ⟨jB.2 hT,by rw [e1,e2];simpa using hq⟩,by rw [e2]⟩
     have c:((Cu (AQ T) (AQ U) (AQ T).length).map (·.1)).Nodup:=by
      unfold Cu;rw [jt,Nodup,kE];exact (nodup_range.filter _).imp (λ{a b} hab he=>hab (by simp only [Function.comp] at he;omega))
     rw [GV c _ hm];rfl
 . rw [dif_neg h];refine KN λe he=>?_;unfold Cu at he;obtain ⟨j,hj,rfl⟩:=ie.1 he;have h1:=jB.1 (jV.1 hj).1;simp only;omega
theorem LP {T U:Tab} (hT:GoodT T) (hU:GoodT U) (h:U.tracks=T.tracks):(AQ T).length=(AQ U).length:=by rw [(DH hT).1,(DH hU).1,h]
theorem Kx {U:Tab} (hU:GoodT U) (id b:Int) (ws:List (Int × ByteArray)):∀e∈(Am (C4 U id b).1 ws).1,((AQ U).length:Int)<=e.1/\e.1<8*U.tracks:=by
 intro e he;obtain ⟨_,a,_,_,h3⟩:=Yj e he;obtain ⟨k,hk,hq,h0⟩:=O5 h3;have h4:=Kd hU id b k hk;have h5:=EC U.tracks;rw [(DH hU).1];omega
theorem TH {D:Dev} {I:Img} {T U:Tab} {n:Nat} (h:VGood D I T n) (hU:GoodT U) (ht:U.tracks=T.tracks) {sy:Int} (hs:1<=sy/\sy<=4) (ps:List (Int × ByteArray)) (a:∀e∈ps,((AQ U).length:Int)<=e.1) (hN:I.N<1000) (h0:Ae I.n (B6 T U++ps)=0):
 VGood (Bk D sy 0 (B6 T U++ps)).1 (I.next (B6 T U++ps)) U n:=by
 obtain ⟨_,_,h3⟩:=GS h.hist h.neat hs (B6 T U++ps) hN;obtain ⟨h4,h5⟩:=h3 h0;have hl:=LP h.good hU ht;have h8:=h.tabs.2;have c:=h.size;refine ⟨h4,h5,by rw [Zu];exact h.size,by rw [ht];exact h.tr,hU,λi hi=>?_⟩;rw [QW i oo,Vq,Q3 T U hl ht.symm i,dif_pos hi];have b:i<(AQ T).length:=oo;by_cases hq:(AQ T)[i]=(AQ U)[i]
 . rw [if_pos hq,KN (λe he=>by have:=a e he;omega)];show I.cs i=_;rw [h.tab i b,hq]
 . rw [if_neg hq];rfl
theorem eE {D:Dev} {I:Img} {T:Tab} {n:Nat} (h:VGood D I T n) {sy:Int} (hs:1<=sy/\sy<=4) (hN:I.N<1000) (id a:Int) (ws:List (Int × ByteArray)) (g:Tab->Tab × Int) (hg:∀U,g T=(U,0)->GoodT U/\U.tracks=T.tracks):
 (chP D sy 0 n id a ws g=(D,(chP D sy 0 n id a ws g).2)/\(chP D sy 0 n id a ws g).2≠0)\/
 ∃U,g T=(U,0)/\(Am (C4 U id a).1 ws).2=0/\Ae I.n (B6 T U++(Am (C4 U id a).1 ws).1)=0/\(chP D sy 0 n id a ws g).2=0/\VGood (chP D sy 0 n id a ws g).1 (I.next (B6 T U++(Am (C4 U id a).1 ws).1)) U n:=by
 have c:=h.table sy 0;unfold chP;rw [c];simp only;rw [if_neg qs];obtain ⟨⟨U,ge⟩,b⟩:∃r,g T=r:=⟨_,rfl⟩;rw [b];simp only;by_cases h1:ge=0;rotate_left
 . rw [if_pos h1];exact .inl ⟨rfl,h1⟩
 subst h1;rw [if_neg qs];obtain ⟨hU,ht⟩:=hg U b;by_cases h2:(Am (C4 U id a).1 ws).2≠0
 . rw [if_pos h2];exact .inl ⟨rfl,h2⟩
 rw [if_neg h2];obtain ⟨c1,c2,c3⟩:=GS h.hist h.neat hs (B6 T U++(Am (C4 U id a).1 ws).1) hN;by_cases h3:Ae I.n (B6 T U++(Am (C4 U id a).1 ws).1)=0
 . exact .inr ⟨U,rfl,jU.1 h2,h3,by rw [c1,h3],TH h hU ht hs _ (λe he=>(Kx hU id a ws e he).1) hN h3⟩
 . have hD:=c2 h3;obtain ⟨⟨E,er⟩,hE⟩:∃r,Bk D sy 0 (B6 T U++(Am (C4 U id a).1 ws).1)=r:=⟨_,rfl⟩;rw [hE] at hD c1 ⊢;simp only at hD c1;exact .inl ⟨by rw [hD],by rw [c1];exact h3⟩
theorem VGood.label {D:Dev} {I:Img} {T:Tab} {n:Nat} (h:VGood D I T n) (sy ep id a:Int):Jv D sy ep n id a=(D,if (C4 T id a).2=true then ((C4 T id a).1,0) else (CN,6)):=by
 unfold Jv;rw [h.table sy ep];simp
theorem VGood.read {D:Dev} {I:Img} {T:Tab} {n:Nat} (h:VGood D I T n) (sy ep id a i:Int) (hf:(C4 T id a).2=true) (q:Int) (hq:Ax (C4 T id a).1.ext i=(q,true)):rdP D sy ep n id a i=(D,I.cs q.toNat,0)/\0<=q/\q<8*n/\((AQ T).length:Int)<=q:=by
 have hl:=h.label sy ep id a;rw [if_pos hf] at hl;obtain ⟨k,hk,f,h0⟩:=O5 hq;have h4:=Kd h.good id a k hk;have h5:=EC T.tracks;have d:=h.tr;have e:=h.size;have h6:=(DH h.good).1;have b:0<=q/\q<8*(n:Int):=oo;refine ⟨?_,b.1,b.2,by rw [h6];omega⟩;unfold rdP;rw [hl];simp only;rw [if_neg qs,hq,if_neg qs];have c:=Sj h.neat.clean sy ep h.neat.clean.len q.toNat oo;rw [show ((q.toNat:Nat):Int)=q from oo] at c;exact c

end
section
attribute [local go_sem ↓] Go.wp_at_zero Go.wp_at_succ
open Go.RowKit
theorem okN {n:Nat} (h:okT (n:Int)=true):4<=n/\n<=128/\ttS (n:Int)≠0:=by
 obtain ⟨h1,h2⟩:=Ck h;unfold ttS;rw [if_pos h];omega
theorem RT (n:Nat) (hn:okT (n:Int)=true) (w:World):Calls Tryz.prog 40 #[.int .i64 (n:Int)] w λe w'=>∃x,e=.returned (.tuple #[ptrV x,.int .i64 0])/\Live w x (EQ (131+8*n)) (λ_=>False) w':=by
 obtain ⟨h1,h2,h3⟩:=okN hn;have a:IntKind.i64.wrap ((n:Int)*8)=(n:Int)*8:=jJ _ oo;have b:IntKind.i64.wrap (131+(n:Int)*8)=131+(n:Int)*8:=jJ _ oo;have hb:(ttS (n:Int)==0)=false:=it.2 h3;have HN:=zh (ax (131+8*n) w oo oo);rw [show ((131+8*n:Nat):Int)=131+(n:Int)*8 from oo] at HN;clear h3 hn;go_enter Tryz.func40,Tryz.ntmps40;go_wp2_with fail;refine (CC (n:Int) w).mono ?_;rintro e w1 ⟨rfl,rfl⟩;go_wp2_with fail;refine HN.mono ?_;rintro e w1 ⟨x,rfl,hl⟩;have HL:=zh hl;clear hl;go_wp2_with fail;go_ret2;exact ⟨x,rfl,HL⟩
theorem KS {w0:World} {x:Nat} {D:Dev} {out:Nat->Prop} {W:World} (h:Live w0 x D out W) (n:Nat) (hn:okT (n:Int)=true) (hl:D.st.length=131+8*n):Calls Tryz.prog 77 #[ptrV x] W λe w'=>e=.returned (.int .i64 (n:Int))/\W=w':=by
 obtain ⟨h1,h2,h3⟩:=okN hn;have HS:=zh (DZ h);obtain ⟨k,hk⟩:∃k,D.st.length=k:=⟨_,rfl⟩;obtain ⟨p,hp⟩:∃p,p=8*n:=⟨_,rfl⟩;rw [hk] at HS hl;have a:IntKind.i64.wrap ((k:Int) - 131)=(p:Int):=by rw [jJ _ oo];omega
 have b:decide ((p:Int)<0)=false:=ir oo;have c:Int.tmod (p:Int) 8=0:=by rw [kB oo];omega
 have d:(p:Int) % 8=0:=oo;have f:Int.tdiv (p:Int) 8=(n:Int):=by rw [Int.tdiv_eq_ediv_of_nonneg oo];omega
 have g:(p:Int) / 8=(n:Int):=oo;have i:IntKind.i64.wrap (n:Int)=(n:Int):=jJ _ oo;have hb:(ttS (n:Int)==0)=false:=it.2 h3;have hx:x<W.heap.size:=by obtain ⟨q,hq,hd,_⟩:=h;exact hd.feet_lt x (.inl hq.symm)
 clear hk hp hl h3 hn h;go_enter Tryz.func77,Tryz.ntmps77;go_wp2_with fail;refine HS.mono ?_;rintro e w1 ⟨rfl,rfl⟩;go_wp2_with fail;refine (CC (n:Int) _).mono ?_;rintro e w1 ⟨rfl,rfl⟩;go_wp2_with fail;go_ret;exact ⟨rfl,rfl⟩
theorem WQ (a b:Nat):FL a++FL b=FL (a+b):=by
 apply EM;rw [ByteArray.data_append,Array.toList_append];show List.replicate a _++List.replicate b _=List.replicate (a+b) _;rw [List.replicate_append_replicate]
theorem YY (m i j:Nat) (h:j<=m):(FL m).extract i j=FL (j - i):=by
 apply EM;rw [Fz];show ((List.replicate m (0:UInt8)).drop i).take (j - i)=List.replicate (j - i) 0;rw [drop_replicate,take_replicate,Nat.min_eq_left oo]
theorem Y4 (s:ByteArray) (t:Int) (ho:okT t=true) (hn:Cn s=true):∃T,Nu s t=(T,0)/\GoodT T:=by
 refine ⟨_,by unfold Nu;rw [if_pos ⟨ho,hn⟩],ho,hn,?_,?_,?_,?_⟩
 . rw [j0];exact (Pf t).1
 . intro l hl;exact .inl (by rw [(kJ.1 hl).2];exact (I8 _).2 rfl)
 . have:CK (List.replicate (Ca t).toNat CN)=[]:=by
    unfold CK;rw [filter_eq_nil_iff.2 (λl hl=>by rw [(kJ.1 hl).2,(I8 CN).2 rfl];decide)];rfl
   show (CK _).Nodup;rw [this];exact nodup_nil
 . have:CG (List.replicate (Ca t).toNat CN)=[]:=by
    unfold CG;rw [flatMap_eq_nil_iff];intro l hl;rw [(kJ.1 hl).2];rfl
   show (CZ (CG _)).Nodup;rw [this];exact nodup_nil
theorem bE (nm:ByteArray) (n:Nat) (ho:okT (n:Int)=true) (hn:Cn nm=true) (L:Nat):∃x:ByteArray,x.size<=128/\∀k,k<=L->Em ⟨nm,n,List.replicate L CN⟩ k=x++FL (1024*(k+1) - x.size):=by
 have hs:nm.size<=8:=by
  unfold Cn at hn;exact (jC hn).2.1
 refine ⟨eB nm.size++nm++eB (n:Int).toNat,?_,?_⟩
 . rw [io,io];have:=BG nm.size;have:=BG (n:Int).toNat;omega
 obtain ⟨x,hx⟩:∃x,eB nm.size++nm++eB (n:Int).toNat=x:=⟨_,rfl⟩
 have b:x.size<=128:=by
  rw [<-hx,io,io];have:=BG nm.size;have:=BG (n:Int).toNat;omega
 rw [hx];intro k
 induction k with
 | zero=>
   intro _;rw [Fu];unfold CJ;rw [if_pos ⟨hn,ho⟩];show DF 1024 (eB nm.size++nm++eB (n:Int).toNat)=_;rw [hx];rfl
 | succ k ih=>
   intro hk;have a:k<(List.replicate L CN).length:=by rw [j0];omega
   rw [F9 _ k a,ih oo]
   have e:Cz (List.replicate L CN)[k] (n:Int)=FL 1024:=by
    rw [List.getElem_replicate];unfold Cz;rw [if_pos ⟨ho,(J2 CN CN).2 rfl⟩];show ByteArray.empty++FL (1024 - 0)=_;rw [kO]
   show _++Cz (List.replicate L CN)[k] (n:Int)=_;rw [e,jq,WQ];congr 2;omega
theorem Z6 (nm:ByteArray) (n:Nat) (ho:okT (n:Int)=true) (hn:Cn nm=true):∃T,Nu nm n=(T,0)/\GoodT T/\T.tracks=(n:Int)/\∀i (h:i<(AQ T).length),0<i->(AQ T)[i]=AO 128:=by
 obtain ⟨T,hT,hg⟩:=Y4 nm n ho hn;have a:=hT;unfold Nu at hT;rw [if_pos ⟨ho,hn⟩] at hT;injection hT with hT _;refine ⟨T,a,hg,by rw [<-hT],λi h h0=>?_⟩;have d:=(DH hg).1;obtain ⟨x,hx,hb⟩:=bE nm n ho hn (Ca n).toNat
 have b:Em T T.labels.length=x++FL (1024*(T.labels.length+1) - x.size):=by
  have:=hb T.labels.length (by rw [<-hT];show (List.replicate _ CN).length<=_;rw [j0];exact iX _);rw [<-this,<-hT]
 have c:=Dh T ((Af T).2 hg) _ rfl;have e:i<8*(T.labels.length+1):=by rw [<-c.1];exact h
 have e1:AQ T=D7 (Em T T.labels.length):=by unfold AQ;rw [if_pos ((Af T).2 hg)]
 simp only [e1];rw [Fr,b,Ed _ _ _ _ oo,YY _ _ _ oo,show 128*i+128 - x.size - (128*i - x.size)=128 from oo];rfl
def H5 (T:Tab):List (Int × ByteArray):=[(0,(AQ T).getD 0 ⟨#[]⟩)]
theorem cE {E:Dev} {n:Nat} (ho:okT (n:Int)=true) (hh:Hist E (KO (8*n))) (hn:Neat E (KO (8*n))) {T:Tab} (hg:GoodT T) (ht:T.tracks=(n:Int)) (hz:∀i (h:i<(AQ T).length),0<i->(AQ T)[i]=AO 128) {sy:Int} (hs:1<=sy/\sy<=4):
 (Bk E sy 0 (H5 T)).2=0/\VGood (Bk E sy 0 (H5 T)).1 ((KO (8*n)).next (H5 T)) T n/\((KO (8*n)).next (H5 T)).N=2:=by
 obtain ⟨h1,h2,_⟩:=okN ho;obtain ⟨g1,g2⟩:=DH hg;have g3:=EC T.tracks
 have c:1<=ttS T.tracks:=by
  have h5:=hg.tr;unfold ttS;rw [if_pos h5];omega
 have a:0<(AQ T).length:=by rw [g1];omega
 have d:(AQ T).length<=8*n:=by
  have h4:ttS T.tracks<=(n:Int):=by unfold ttS;rw [if_pos hg.tr];omega
  rw [g1];omega
 have e0:(AQ T).getD 0 ⟨#[]⟩=(AQ T)[0]:=by rw [iu,iV a];rfl
 have b:Ae (KO (8*n)).n (H5 T)=0:=by
  unfold H5;rw [e0];unfold Ae;rw [if_neg,if_neg,if_neg]
  . simp
  . show ¬([((0:Int),(AQ T)[0])].any λe=>decide (e.1<0\/((8*n:Nat):Int)<=e.1))=true;simp;omega
  . simp only [any_cons,any_nil,Bool.or_false,map_cons,map_nil,jG,not_or,jU];exact ⟨g2 _ (ib a),qs⟩
 obtain ⟨c1,_,c3⟩:=GS hh hn hs (H5 T) (by show 1<1000;omega);obtain ⟨c4,c5⟩:=c3 b;refine ⟨c1.trans b,⟨c4,c5,by rw [Zu];rfl,ht,hg,λi hi=>?_⟩,?_⟩
 . rw [QW i (by show i<8*n;omega)];unfold H5;by_cases h0:i=0
   . subst h0;rw [e0];rfl
   . rw [KN (λe he=>by rw [ia.1 he];show (0:Int)≠i;omega)];show AO 128=_;rw [hz i hi oo]
 . rw [ff,if_neg (by unfold H5;simp)];rfl

theorem Ss {w0:World} {x n:Nat} {out:Nat->Prop} {W:World} (h:Live w0 x (EQ (131+8*n)) out W) (hn:okT (n:Int)=true) (nm:ByteArray) (C:Cn nm=true) (T:Tab) (hT:Nu nm n=(T,0)) (hg:GoodT T) (ht:T.tracks=(n:Int)) (hz:∀i (h:i<(AQ T).length),0<i->(AQ T)[i]=AO 128):
 Calls Tryz.prog 41 #[ptrV x,.agg #[.int .i64 1,.int .i64 0],.string nm] W λe w'=>e=.returned (.int .i64 0)/\∃E I,VGood E I T n/\I.N=2/\Live w0 x E out w'/\Beside w0 out W w':=by
 obtain ⟨h1,h2,_⟩:=okN hn;have p:(EQ (131+8*n)).st.length=131+8*n:=by unfold EQ;simp
 have R:Calm (EQ (131+8*n)) 1 0:=⟨QE _ oo oo,rfl,by unfold DA;decide,by show ¬(0:Int)<0;omega⟩;obtain ⟨E,hE,a,bc,bf⟩:=QL (n:=8*n) R rfl rfl p oo oo;have S:=aZ oo oo hE a;have D:Neat E (KO (8*n)):=⟨a,by rw [bc];rfl,bf⟩;obtain ⟨c1,c2,c3⟩:=cE hn S D hg ht hz (sy:=1) oo
 have bk:nm.size<=9223372036854775807:=by
  unfold Cn at C;have:=(jC C).2.1;omega
 have bl:=zh (λ(w1:World) (hg:Grew W w1)=>KS (h.grew hg) n hn p);have bs:=zh (λ(w1:World)=>aa nm n w1 bk oo oo T 0 hT);have F:=zh (λ(o:Nat->Prop) (w1:World) (hl:Live w0 x (EQ (131+8*n)) o w1)=>UG hl (by rw [p];omega) (sy:=1) (ep:=0) oo oo (by show 0<=900000;omega));rw [hE] at F;have U:132<=E.st.length/\E.st.length<=1155:=by rw [a.len];show 132<=131+8*n/\131+8*n<=1155;omega
 have V:E.pend.length<=980000:=by rw [a.pend];simp
 have X:=L7 a 1 0 (by unfold II DA;simp;omega);have bt:=zh (λ(o:Nat->Prop) (w1:World) (hl:Live w0 x E o w1)=>PR hl U (by omega:(1:Int)<=1/\(1:Int)<=4) (by omega:(0:Int)<=0/\(0:Int)<=1099511627776) V E X);have bv:=zh (λ(s m:Nat)=>Ox D (by show 1<1000;omega) (x:=x) (s:=s) (m:=m) (sy:=1) oo);have bx:=zh (Jm hg);have HC:=zh (show (Bk E 1 0 (H5 T)).2=0/\VGood (Bk E 1 0 (H5 T)).1 ((KO (8*n)).next (H5 T)) T n/\((KO (8*n)).next (H5 T)).N=2 from ⟨c1,c2,c3⟩);have Y:Grew W (W.alloc (.cells #[.int .i64 1,.int .i64 0] 88)):=(iW W).alloc _;have Z:=ik W 88 #[.int .i64 1,.int .i64 0] rfl;have ad:=zh Y;have af:=zh Z;have HL:=zh h;obtain ⟨g1,g2⟩:=DH hg
 have ag:0<(AQ T).length:=by
  have:1<=ttS T.tracks:=by have:=hg.tr;unfold ttS;rw [if_pos this];have:=Ck this;omega
  rw [g1];omega
 have al:=zh ag;clear h hn C hT hg ht hz p R hE a bc bf S D c1 c2 c3 U V X Y Z g1 g2 ag;go_enter Tryz.func41,Tryz.ntmps41;go_wp2_with fail;refine (bl _ ad).mono ?_;rintro e w1 ⟨rfl,rfl⟩;go_wp2_with fail;refine (bs _).mono ?_;rintro e w2 ⟨A,c,xs,rfl,M,g2,a6,a7⟩;have t:Grew w2 (w2.alloc (.cells #[.string T.name,.int .i64 T.tracks,.slice A T.labels.length c] 95)):=(iW w2).alloc _;have G:=zh ((ad.out.trans g2).trans t);have H:=zh (show W.heap.size+1<=w2.heap.size from by have:=g2.size;simpa using this);have an:=zh (show TabIn (λk=>W.heap.size<=k/\k<w2.heap.size) A xs from (M.lt (P:=λk=>W.heap.size<=k) ⟨λ_ b off e=>by have:=a6 b off e;simp at this;omega,λx hx _ b off e=>by rw [a7 x hx] at e;cases e⟩));have ap:=zh (M.hold t);have av:=zh ((af.grew g2).grew t);have aw:=zh (ik w2 95 #[.string T.name,.int .i64 T.tracks,.slice A T.labels.length c] rfl);obtain ⟨w3,B⟩:∃w3,w3=w2.alloc (.cells #[.string T.name,.int .i64 T.tracks,.slice A T.labels.length c] 95):=⟨_,rfl⟩;have a0:w3.heap.size=w2.heap.size+1:=by rw [B];simp
 rw [<-B] at G ap av aw;have d:=zh a0;have b0:=zh (HL.more G);have v:=af.grew g2;have r0:=v.cell 0;have r1:=v.cell 1;have rl:=v.lt;clear M g2 a6 a7 t a0 v;go_wp2_with fail;rw [<-B];clear B;refine (F _ _ b0).mono ?_;rintro e w4 ⟨rfl,a8,l⟩;have b1:=zh l;have a1:=zh a8;have J:=zh (av.turned l (λh9=>h9.2 (.inr ⟨iX _,by have:=H.out;have:=d.out;omega⟩)));have b2:=zh (aw.turned l (λh9=>h9.2 (.inr ⟨by have:=H.out;omega,by have:=d.out;omega⟩)));have b3:=zh (ap.stay an l (λk hk h9=>h9.2 (.inr ⟨hk.1,by have:=d.out;omega⟩)));clear a8 l r0 r1 rl F;have r0:=J.cell 0;have r1:=J.cell 1;have rl:=J.out.lt;go_wp2_with fail;refine (bt _ _ a1).mono ?_;rintro e w5 ⟨s,m,rfl,a9,bb,L,z⟩;have b4:=zh L;have b5:=zh z;have b9:w0.heap.size<=w4.heap.size:=a1.base.size;have f:=zh (show Held w0 x s m 1 0 E (λq=>(out q\/(W.heap.size<=q/\q<w3.heap.size))\/q=s\/q=m) w5 from ⟨a9,bb,.inr (.inl rfl),.inr (.inr rfl),oo⟩);have w:=zh (b2.turned z (λh9=>h9.2 (.inr ⟨by have:=H.out;omega,by have:=d.out;omega⟩)));have ca:=zh (b3.stay an z (λk hk h9=>h9.2 (.inr ⟨hk.1,by have:=d.out;omega⟩)));clear a9 bb L z r0 r1 rl b9;have y0:=w.cell 0;have y1:=w.cell 1;have y2:=w.cell 2;have yl:=w.out.lt;go_wp2_with fail;refine (Ik A c xs T w5 ca bx).mono ?_;rintro e w6 ⟨u,rfl,O,g6⟩;have a2:=zh g6
 obtain ⟨gs,cs,hu,cl,cn,_,_⟩:∃g cap,u=.slice (some ⟨g,0,none⟩) (AQ T).length cap/\w5.heap.size<=g/\g<w6.heap.size/\True/\True:=by
  rcases O.form with ⟨_,h9⟩ | ⟨g,cap,h1,h2,h3,_⟩
  . have:=ix length h9;rw [iY,length_nil] at this;have:=al.out;omega
  . rw [iY] at h1;exact ⟨g,cap,h1,h2,h3,trivial,trivial⟩
 subst hu;have a3:=al.out;obtain ⟨d0,Q⟩:∃d0,(AQ T).getD 0 ⟨#[]⟩=d0:=⟨_,rfl⟩;have K:=zh (show H5 T=[(0,d0)] from by unfold H5;rw [Q])
 have u0:w6.cell? ⟨gs,0,none⟩=some (.string d0):=by
  rw [<-Q];have:=O.cell (j:=0) (i:=0) (r:=Eu (AQ T)[0]) (by rw [iZ,iV a3];rfl) rfl;rw [iu,iV a3];simpa using this
 clear O g6 y0 y1 y2 yl Q;have ch:(0:Int)<((AQ T).length:Int):=oo;go_wp2_with fail;have a4:=ik w6 41 #[.int .i64 0,.string d0] rfl;have y:Grew w5 (w6.alloc (.cells #[.int .i64 0,.string d0] 41)):=a2.alloc _;have cb:=zh (show Held w0 x s m 1 0 E _ (w6.alloc (.cells #[.int .i64 0,.string d0] 41)) from ⟨f.live.more y,f.store.grew y,.inl f.os,.inl f.om,f.m0⟩);have cc:=zh y;have HR:=zh (bv s m w0 _ _ cb (H5 T) (by unfold H5;simp) (λe he=>by unfold H5 at he;rw [ia.1 he];unfold okI;simp) (some ⟨w6.heap.size,0,none⟩) 1 (Ro a4 (by rw [K.out];rfl) (λr hr=>by rw [K.out] at hr;simp at hr;subst hr;rfl)) (λ_ b off e=>.inr (.inr (by injection e with e;injection e with e _ _;subst e;exact ⟨a2.size,qs⟩))));rw [HC.out.1] at HR;clear a4 y u0;rw [show (H5 T).length=1 from by rw [K.out];rfl] at HR;refine HR.mono ?_;rintro e w8 ⟨rfl,hd⟩;have HD:=zh hd;clear hd;go_wp2_with fail;go_ret;have a5:Beside w0 out W w4:=(G.turned _).trans (b1.mono λk _ hk=>⟨hk.1,λh9=>hk.2 (.inl h9)⟩);have ce:Beside w0 out W w5:=a5.trans (b5.mono λk _ hk=>⟨hk.1,λh9=>hk.2 (.inl h9)⟩);have cf:=ce.trans (cc.turned _);have ci:=a5.size;have L:=b4.out;exact ⟨rfl,_,_,HC.2.1,HC.2.2,HD.live.few (λk hk=>.inl (.inl (.inl hk))),cf.next HD.turned (λk hk h9=>h9.elim (λh8=>⟨h8.1,λh7=>h8.2 (.inl (.inl (.inl h7)))⟩) (λh8=>oo))⟩
structure Mounted (w0:World) (x:Nat) (n sy ep:Int) (D:Dev) (out:Nat->Prop) (W:World) (s m v:Nat) (out':Nat->Prop) (w':World):Prop where
 held:VHeld w0 x s m v n sy ep D out' w'
 sub:∀k,out k->out' k
 news:W.heap.size<=s/\W.heap.size<=m/\W.heap.size<=v
 beside:Beside w0 out W w'
 vol:VolM w' v s n (λk=>W.heap.size<=k/\Far w0 out' m v k)
theorem TN {w0:World} {x n:Nat} {D:Dev} {out:Nat->Prop} {W:World} (h:Live w0 x D out W) (hn:okT (n:Int)=true) (r:D.st.length=131+8*n) (hp:D.pend.length<=980000) {sy ep:Int} (hs:1<=sy/\sy<=4) (he:0<=ep/\ep<=1099511627776) (E E2:Dev) (T:Tab) (ho:TG D sy ep=(E,0)) (B:E.st.length=131+8*n) (t:E.pend.length<=980000) (ht:Dd E sy ep n=(E2,T,0)):
 Calls Tryz.prog 43 #[ptrV x,.agg #[.int .i64 sy,.int .i64 ep]] W λe w'=>∃s m v out',e=.returned (.tuple #[ptrV v,.int .i64 0])/\Mounted w0 x n sy ep E2 out W s m v out' w':=by
 obtain ⟨h1,h2,h3⟩:=okN hn;have a:Grew W (W.alloc (.cells #[.int .i64 sy,.int .i64 ep] 88)):=(iW W).alloc _;have b:=ik W 88 #[.int .i64 sy,.int .i64 ep] rfl;have C:=zh (KS (h.grew a) n hn r);have F:=zh (PR (h.grew a) oo hs he hp E ho);have G:=zh (λ(s m v:Nat) (o:Nat->Prop) (w1:World) (hv:VHeld w0 x s m v n sy ep E o w1)=>Jb hv oo t hn E2 T 0 ht);have M:((n:Int)==0)=false:=by rw [it];omega
 have HW:=zh (show w0.heap.size<=W.heap.size from h.base.size);have d:=zh a;have r0:=b.cell 0;have r1:=b.cell 1;have rl:=b.lt;clear h hn r hp hs he ho B t ht a b h1 h2 h3;go_enter Tryz.func43,Tryz.ntmps43;go_wp2_with fail;refine C.mono ?_;rintro e w1 ⟨rfl,rfl⟩;go_wp2_with fail;refine F.mono ?_;rintro e w2 ⟨s,m,rfl,y,z,p,q⟩;have H:=zh ((d.turned _).trans q);have f:=zh (show W.heap.size<=s/\W.heap.size<=m from ⟨ij d.size p.1,ij d.size p.2⟩);have i:W.heap.size<=w2.heap.size:=ij d.size q.size;have j:=zh i;have g:Grew w2 (w2.alloc (.cells (Gz s n (.slice none 0 0) C2 (.slice none 0 0)) 108)):=(iW w2).alloc _;have l:=ik w2 108 (Gz s n (.slice none 0 0) C2 (.slice none 0 0)) rfl;have u:VHeld w0 x s m w2.heap.size n sy ep E (λk=>(out k\/k=s\/k=m)\/(w2.heap.size<=k/\k<(w2.alloc (.cells (Gz s n (.slice none 0 0) C2 (.slice none 0 0)) 108)).heap.size)) (w2.alloc (.cells (Gz s n (.slice none 0 0) C2 (.slice none 0 0)) 108)):=
  ⟨⟨y.more g,z.grew g,.inl (.inr (.inl rfl)),.inl (.inr (.inr rfl)),by have:=f.out;have:=HW.out;omega⟩,.inr ⟨iX _,qs⟩,by have:=HW.out;omega,⟨_,_,_,l,CacheM.empty _ _ _⟩⟩
 have I:=zh (show VolM (w2.alloc (.cells (Gz s n (.slice none 0 0) C2 (.slice none 0 0)) 108)) w2.heap.size s n (λ_=>False) from ⟨_,_,_,l,CacheM.empty _ _ _⟩);have J:=zh (G s m w2.heap.size _ _ u);have w:=zh g;clear y z p q g l u r0 r1 rl i;go_wp2_with fail;refine J.mono ?_;rintro e w4 ⟨o4,A,c,ys,rfl,hd,_,_,_⟩;have HD:=zh (hd.grew ((iW w4).alloc (.cells #[.string T.name,.int .i64 T.tracks,.slice A T.labels.length c] 95)));clear hd;go_wp2_with fail;go_ret2;have i:=j.out;have K:=HD.fresh (λ_=>False) (λk hk=>hk.elim) I;refine ⟨s,m,_,o4,rfl,HD.held,λk hk=>HD.sub k (.inl (.inl hk)),⟨f.1,f.2,j⟩,?_,K.mono λk hk=>⟨hk.1.elim (λh9=>h9.elim) (λh9=>ij j (ij w.size h9)),hk.2⟩⟩;have L:=H.out.trans (w.turned _)
 exact L.next HD.turned (λk hk h9=>by
  have:=f.out
  rcases h9 with h9 | h9 | h9
  . exact ⟨h9.1,λh8=>h9.2 (.inl (.inl h8))⟩
  . omega
  . omega)

end
section
open Go.RowKit
theorem VH {l:Lab} {ws:List (Int × ByteArray)} (h:(Am l ws).2=0):Am l ws=(ws.map λe=>((Ax l.ext e.1).1,e.2),0)/\(∀e∈ws,e.2.size=128)/\(ws.map (·.1)).Nodup/\∀e∈ws,(Ax l.ext e.1).2=true:=by
 unfold Am at h ⊢;split at h
 . cases h
 rename_i h1;split at h
 . cases h
 rename_i h2;rw [if_neg h1,if_neg h2];simp only [not_or,jU] at h1;refine ⟨rfl,λe he=>?_,h1.2,λe he=>?_⟩
 . have:=h1.1;rw [jl,jT] at this;simpa using this e he
 . rw [jl,jT] at h2;simpa using h2 e he
theorem bi {I:Img} {T U:Tab} {n:Nat} (hU:GoodT U) (f:I.n=8*n) (ht:U.tracks=(n:Int)) (hl:(AQ T).length=(AQ U).length) (d:T.tracks=U.tracks) (id b:Int) (ws:List (Int × ByteArray)) (hp:(Am (C4 U id b).1 ws).2=0)
 (hc:Ae I.n (B6 T U++(Am (C4 U id b).1 ws).1)=0) (a:Int × ByteArray) (ha:a∈ws):(I.next (B6 T U++(Am (C4 U id b).1 ws).1)).cs (Ax (C4 U id b).1.ext a.1).1.toNat=a.2:=by
 obtain ⟨h1,_,_,h4⟩:=VH hp;obtain ⟨q,hq⟩:∃q,(Ax (C4 U id b).1.ext a.1).1=q:=⟨_,rfl⟩
 have hm:(q,a.2)∈(Am (C4 U id b).1 ws).1:=by
  rw [h1];exact ie.2 ⟨a,ha,by rw [hq]⟩
 have hf:=Kx hU id b ws _ hm;simp only at hf;have c:=(Iu _ _ hc).2.1;rw [il] at c;have e:=(jg.1 c).2.1;have g:0<=q:=oo;rw [hq,QW q.toNat oo,Vq,Q3 T U hl d,dif_neg oo]
 have:KD (Am (C4 U id b).1 ws).1 q.toNat=some a.2:=by
  unfold KD;rw [show ((q.toNat:Nat):Int)=q from oo,GV e _ hm];rfl
 rw [this];rfl
theorem T3 {T U:Tab} (hT:GoodT T) (hU:GoodT U) (ht:U.tracks=T.tracks) {n:Nat} (f:U.tracks=(n:Int)) (ps:List (Int × ByteArray)) (h1:∀e∈ps,e.2.size=128) (h2:(ps.map (·.1)).Nodup) (h3:∀e∈ps,((AQ U).length:Int)<=e.1/\e.1<8*U.tracks) (h4:(B6 T U).length+ps.length<=64):
 Ae (8*n) (B6 T U++ps)=0:=by
 have hl:=LP hT hU ht;obtain ⟨g1,g2⟩:=DH hU;have g3:=EC U.tracks;have g:ttS U.tracks<=U.tracks:=by unfold ttS;rw [if_pos hU.tr];have:=Ck hU.tr;omega
 have hd:∀e∈B6 T U,e.2.size=128/\0<=e.1/\e.1<((AQ U).length:Int):=by
  intro e he;unfold B6 at he;rw [if_pos ⟨hl,ht.symm⟩] at he;unfold Cu at he;obtain ⟨i,hi,rfl⟩:=ie.1 he;have h:=jB.1 (jV.1 hi).1;have c:i<(AQ U).length:=oo;refine ⟨?_,by simp only;omega,by simp only;omega⟩;simp only;rw [iu,iV c];exact g2 _ (ib c)
 have d:((B6 T U).map (·.1)).Nodup:=by
  unfold B6;rw [if_pos ⟨hl,ht.symm⟩];unfold Cu;rw [jt,Nodup,kE];exact (nodup_range.filter _).imp (λ{a b} hab he=>hab (by simp only [Function.comp] at he;omega))
 unfold Ae;rw [if_neg,if_neg,if_neg]
 . rw [iy];omega
 . rw [jl,jT];intro e he;rcases ip.1 he with h9 | h9
   . have:=hd e h9;simp only [jG];omega
   . have:=h3 e h9;simp only [jG];omega
 . rw [not_or,jU];refine ⟨?_,?_⟩
   . rw [jl,jT];intro e he;rcases ip.1 he with h9 | h9
     . have:=(hd e h9).1;simp [this]
     . simp [h1 e h9]
   . rw [il];refine jg.2 ⟨d,h2,λa ha b hb e=>?_⟩;obtain ⟨u,hu,rfl⟩:=ie.1 ha;obtain ⟨y,hy,rfl⟩:=ie.1 hb;have:=hd u hu;have:=h3 y hy;omega
def exT:Tab:=⟨⟨#[86,79,76]⟩,8,[CN]⟩
def exL:Lab:=⟨5,2,⟨#[65]⟩,⟨#[]⟩,[(2,1)]⟩
def exU:Tab:=⟨⟨#[86,79,76]⟩,8,[exL]⟩
theorem fr:Nu ⟨#[86,79,76]⟩ 8=(exT,0):=qk
theorem G5:CI exT 5 2 ⟨#[65]⟩ ⟨#[]⟩ 1=(exU,0):=qk
theorem KM:C4 exU 5 2=(exL,true):=qk
theorem Kq:Ax [(2,1)] 3=(19,true):=by decide+kernel
def FE:ByteArray:=⟨#[116,101,120,116]⟩
def exW:List (Int × ByteArray):=[(3,Bt FE)]
theorem Z1:Am exL exW=([(19,Bt FE)],0):=by
 unfold Am exW;rw [if_neg,if_neg]
 . show ([(Ax exL.ext 3).1].map λq=>(q,Bt FE),(0:Int))=_;rw [show exL.ext=[(2,1)] from rfl,Kq];rfl
 . show ¬([((3:Int),Bt FE)].any λe=>!(Ax exL.ext e.1).2)=true;rw [any_cons,any_nil,show exL.ext=[(2,1)] from rfl];simp only [Kq];decide
 . rw [not_or,jU];exact ⟨by simp [D9],qs⟩
theorem fL {D:Dev} {I:Img} {T0 U0:Tab} (G5:CI T0 5 2 ⟨#[65]⟩ ⟨#[]⟩ 1=(U0,0)) (KM:C4 U0 5 2=(exL,true)) (b:U0.tracks=T0.tracks) (c:U0.tracks=((8:Nat):Int)) (h:VGood D I T0 8) (hN:I.N=2):
 ∃D' I',chP D 1 0 ((8:Nat):Int) 5 2 exW (λT=>CI T 5 2 ⟨#[65]⟩ ⟨#[]⟩ 1)=(D',0)/\VGood D' I' U0 8/\rdP D' 2 0 ((8:Nat):Int) 5 2 3=(D',Bt FE,0):=by
 have hU:=(Hl T0 U0 5 2 _ _ 1 G5).good;have a:(Am (C4 U0 5 2).1 exW)=([(19,Bt FE)],0):=by rw [KM];exact Z1
 have hl:=LP h.good hU b;have i:(AQ U0).length=16:=by rw [(DH hU).1,c];decide+kernel
 have j:(B6 T0 U0).length<=16:=by
  unfold B6;rw [if_pos ⟨hl,b.symm⟩];unfold Cu;rw [iY];refine ij (j5 _ _) ?_;rw [jr];omega
 have d:Ae I.n (B6 T0 U0++(Am (C4 U0 5 2).1 exW).1)=0:=by
  rw [h.size];refine T3 h.good hU b c _ ?_ ?_ (Kx hU 5 2 exW) ?_
  . rw [a];intro e he;rw [ia.1 he];exact D9 _
  . rw [a];simp
  . rw [a];show _+1<=64;omega
 rcases eE h (sy:=1) oo oo 5 2 exW (λT=>CI T 5 2 ⟨#[65]⟩ ⟨#[]⟩ 1) (λU hUe=>by
  have hk:=Hl T0 U 5 2 _ _ 1 hUe
  exact ⟨hk.good,hk.tracks⟩) with ⟨_,h9⟩ | ⟨U,hUe,hp,hc,he,hg⟩
 . exfalso;apply h9;unfold chP;rw [h.table 1 0];simp only;rw [if_neg qs,G5];simp only;rw [if_neg qs,a];simp only;rw [if_neg qs];have:=(GS h.hist h.neat (sy:=1) oo (B6 T0 U0++(Am (C4 U0 5 2).1 exW).1) oo).1;rw [a] at this d;rw [this,d]
 . have g:U0=U:=by
    have:CI T0 5 2 ⟨#[65]⟩ ⟨#[]⟩ 1=(U,0):=hUe;rw [G5] at this;injection this
   subst g;obtain ⟨D',f⟩:∃D',(chP D 1 0 ((8:Nat):Int) 5 2 exW (λT=>CI T 5 2 ⟨#[65]⟩ ⟨#[]⟩ 1)).1=D':=⟨_,rfl⟩;rw [f] at hg;refine ⟨D',_,Prod.ext f he,hg,?_⟩;have hw:=bi hU h.size c hl b.symm 5 2 exW hp hc (3,Bt FE) (ia.2 rfl);have hq:Ax (C4 U0 5 2).1.ext 3=(19,true):=by rw [KM];exact Kq
   have hr:=(hg.read 2 0 5 2 3 (by rw [KM]) 19 hq).1;rw [hq] at hw;rw [hr];have:((I.next (B6 T0 U0++(Am (C4 U0 5 2).1 exW).1)).cs (19:Int).toNat)=Bt FE:=hw;rw [this]
theorem Z3 {D:Dev} {I:Img} (h:VGood D I exT 8) (hN:I.N=2):
 ∃D' I',chP D 1 0 ((8:Nat):Int) 5 2 exW (λT=>CI T 5 2 ⟨#[65]⟩ ⟨#[]⟩ 1)=(D',0)/\VGood D' I' exU 8/\rdP D' 2 0 ((8:Nat):Int) 5 2 3=(D',Bt FE,0):=fL G5 KM rfl rfl h hN

end
end Go.Proofs.YtmcgbdemcknkaaaGreatDoor
