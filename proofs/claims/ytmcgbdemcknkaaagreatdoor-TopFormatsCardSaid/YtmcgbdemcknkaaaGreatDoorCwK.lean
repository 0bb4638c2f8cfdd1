/- Parts of the proof (packed), 11. -/
import Derived.Test.YtmcgbdemcknkaaaGreatDoorCwI
namespace Go.Proofs.YtmcgbdemcknkaaaGreatDoor
set_option linter.all false
set_option maxRecDepth 100000
set_option maxHeartbeats 16000000
open List
section
open Go.RowKit
def nilB:ByteArray:=⟨#[]⟩
def JJ (L B:Int):Bool:=decide (1<=L/\L<=1000/\L<=B/\B<=1024)
theorem Dc {L B:Int} (h:JJ L B=true):1<=L/\L<=1000/\L<=B/\B<=1024:=jC h
def Eo (l:Nat) (s:ByteArray) (n:Nat):List ByteArray:=(List.range n).map λi=>s.extract (i*l) ((i+1)*l)
def BM (L B:Int) (s:ByteArray):List ByteArray × Int:=
 if JJ L B=false then ([],1) else if s.size / L.toNat<1\/B.toNat / L.toNat<s.size / L.toNat\/s.size % L.toNat≠0 then ([],11) else (Eo L.toNat s (s.size / L.toNat),0)
def BU (m:Nat):Nat->List ByteArray->List ByteArray
 | 0,_=>[]
 | f+1,rs=>if rs=[] then [] else AP (rs.take m)::BU m f (rs.drop m)
def Ds (L B:Int) (rs:List ByteArray):List ByteArray × Int:=
 if JJ L B=false then ([],1) else if (rs.any λr=>decide ((r.size:Int)≠L))=true then ([],2) else (BU (B.toNat / L.toNat) rs.length rs,0)
theorem Gm (a b:List ByteArray):AP (a++b)=AP a++AP b:=by
 induction a with
 | nil=>show AP b=ByteArray.empty++AP b;rw [kO]
 | cons x a ih=>show x++AP (a++b)=(x++AP a)++AP b;rw [ih,jq]
theorem Fp (l:Nat):∀rs:List ByteArray,(∀r∈rs,r.size=l)->(AP rs).size=rs.length*l
 | [],_=>by rw [length_nil,Nat.zero_mul];rfl
 | r::rs,h=>by
   show (r++AP rs).size=_;rw [io,h r (jA ..),Fp l rs (λx hx=>h x (iz _ hx)),jf,Nat.succ_mul,Nat.add_comm]
theorem Fn (l:Nat) (s:ByteArray) (n:Nat):(Eo l s n).length=n:=by unfold Eo;rw [iY,jr]
theorem Mz {l:Nat} {s:ByteArray} {n:Nat} (h:s.size=n*l):∀r∈Eo l s n,r.size=l:=by
 intro r hr;unfold Eo at hr;obtain ⟨i,hi,rfl⟩:=ie.1 hr;have a:=jB.1 hi;have h1:(i+1)*l<=n*l:=Nat.mul_le_mul_right l a;rw [i0,Nat.succ_mul];rw [Nat.succ_mul] at h1;omega
theorem U4 (l:Nat) (s:ByteArray) (n:Nat):Eo l s (n+1)=Eo l s n++[s.extract (n*l) ((n+1)*l)]:=by
 unfold Eo;rw [kP,il];rfl
theorem K4 (l:Nat) (s:ByteArray):∀n,AP (Eo l s n)=s.extract 0 (n*l)
 | 0=>by
   rw [Nat.zero_mul];show nilB=_;apply EM;rw [Fz];simp [nilB]
 | n+1=>by
   rw [U4,Gm,K4 l s n];show s.extract 0 (n*l)++(s.extract (n*l) ((n+1)*l)++nilB)=_;rw [show s.extract (n*l) ((n+1)*l)++nilB=s.extract (n*l) ((n+1)*l) from j3,ByteArray.extract_append_extract];have:n*l<=(n+1)*l:=Nat.mul_le_mul_right l (Nat.le_succ n);rw [Nat.min_eq_left (jL _),Nat.max_eq_right this]
theorem MT (l:Nat):∀rs:List ByteArray,(∀r∈rs,r.size=l)->Eo l (AP rs) rs.length=rs
 | [],_=>rfl
 | r::rs,h=>by
   have hr:=h r (jA ..);have ih:=MT l rs (λx hx=>h x (iz _ hx));unfold Eo at ih ⊢;apply kR
   . rw [iY,jr]
   . intro i h1 h2;rw [kQ,List.getElem_range];show (r++AP rs).extract (i*l) ((i+1)*l)=_;cases i with
     | zero=>
       rw [Nat.zero_mul,kF,Nat.one_mul];exact DS _ _ _ hr
     | succ i=>
       have hi:i<rs.length:=by simpa using h2
       have e:((List.range rs.length).map λi=>(AP rs).extract (i*l) ((i+1)*l))[i]? =rs[i]? :=by rw [ih]
       rw [iZ,jk hi,iV hi] at e;injection e with e;rw [jS,<-e];have a:l<=(i+1)*l:=by rw [Nat.succ_mul];omega
       rw [Ed _ _ _ _ (by rw [hr];exact a),hr];congr 1
       . rw [Nat.succ_mul];omega
       . rw [Nat.succ_mul (i+1)];omega
theorem ZH {L B:Int} {s:ByteArray} {l:List ByteArray} (h:BM L B s=(l,0)):Ds L B l=([s],0):=by
 unfold BM at h;split at h
 . cases h
 rename_i h1;split at h
 . cases h
 rename_i h2;simp only [not_or,Nat.not_lt,jU] at h2;injection h with h _;have ho:=Dc (by simpa using h1);obtain ⟨n,hn⟩:∃n,s.size / L.toNat=n:=⟨_,rfl⟩;rw [hn] at h h2
 have hs:s.size=n*L.toNat:=by
  have:=Nat.div_add_mod s.size L.toNat;rw [h2.2.2,hn,jo,Nat.mul_comm] at this;exact this.symm
 subst h;unfold Ds;rw [if_neg h1,if_neg]
 . rw [Fn];obtain ⟨k,rfl⟩:∃k,n=k+1:=⟨n - 1,oo⟩;have a:Eo L.toNat s (k+1)≠[]:=by intro e;have:=ix length e;rw [Fn] at this;simp at this
   unfold BU;rw [if_neg a,i8 (by rw [Fn];exact h2.2.1),drop_eq_nil_of_le (by rw [Fn];exact h2.2.1),K4,<-hs,ByteArray.extract_zero_size];cases k with
   | zero=>rfl
   | succ k=>unfold BU;rw [if_pos rfl]
 . rw [jl,jT];intro r hr;have:=Mz hs r hr;simp;omega
def BC (u:ByteArray->List ByteArray × Int):List ByteArray->List ByteArray × Int
 | []=>([],0)
 | b::bs=>if (u b).2≠0 then ([],(u b).2) else if (BC u bs).2≠0 then ([],(BC u bs).2) else ((u b).1++(BC u bs).1,0)
theorem YE {L B:Int} (h1:JJ L B=true) {rs:List ByteArray} (hs:∀r∈rs,r.size=L.toNat) (h2:1<=rs.length) (h3:rs.length<=B.toNat / L.toNat):BM L B (AP rs)=(rs,0):=by
 have ho:=Dc h1;have hc:=Fp _ rs hs;have hd:(AP rs).size / L.toNat=rs.length:=by rw [hc];exact Nat.mul_div_cancel _ oo
 have hm:(AP rs).size % L.toNat=0:=by rw [hc];exact Nat.mul_mod_left _ _
 unfold BM;rw [if_neg (by rw [h1];simp),if_neg (by rw [hd,hm];omega),hd,MT _ rs hs]
theorem SF {L B:Int} (h1:JJ L B=true):∀(f:Nat) (rs:List ByteArray),rs.length<=f->(∀r∈rs,r.size=L.toNat)->BC (BM L B) (BU (B.toNat / L.toNat) f rs)=(rs,0)
 | 0,rs,hf,_=>by
   have:rs=[]:=kI.1 oo;subst this;rfl
 | f+1,rs,hf,hs=>by
   have ho:=Dc h1;have hm:1<=B.toNat / L.toNat:=(Nat.le_div_iff_mul_le oo).2 oo;unfold BU;by_cases hne:rs=[]
   . rw [if_pos hne,hne];rfl
   rw [if_neg hne];have hlen:1<=rs.length:=length_pos_iff.2 hne;have h2:=YE h1 (rs:=rs.take (B.toNat / L.toNat)) (λr hr=>hs r (jw hr)) (by rw [je];omega) (by rw [je];omega);have h3:=SF h1 f (rs.drop (B.toNat / L.toNat)) (by rw [length_drop];omega) (λr hr=>hs r (mem_of_mem_drop hr));show (if (BM L B (AP (rs.take (B.toNat / L.toNat)))).2≠0 then _ else _)=_;rw [h2,if_neg qs,h3,if_neg qs,kK]

def D5 (n:Nat):ByteArray:=⟨#[b8 (n / 256),b8 n,0,0]⟩
def rdW (s:ByteArray):Nat × Bool:=if s.size≠4\/at8 s 2≠0\/at8 s 3≠0 then (0,false) else (256*at8 s 0+at8 s 1,true)
theorem Bb (n:Nat):(D5 n).size=4:=rfl
theorem OQ {n:Nat} (h:n<=65535):rdW (D5 n)=(n,true):=by
 unfold rdW;rw [if_neg (by rw [Bb];show ¬(4≠4\/(0:Nat)≠0\/(0:Nat)≠0);simp)];show (256*(b8 (n / 256)).toNat+(b8 n).toNat,true)=_;rw [Ba,Ba];congr 1;omega
theorem Sb {s:ByteArray} {n:Nat} (h:rdW s=(n,true)):D5 n=s/\n<=65535:=by
 unfold rdW at h;split at h
 . cases h
 rename_i hc;simp only [not_or,jU] at hc;injection h with h _;obtain ⟨⟨l⟩⟩:=s;obtain ⟨h4,h2,h3⟩:=hc
 match l,h4 with
 | [a,b,c,d],_=>
   have ha:=a.toNat_lt;have hb:=b.toNat_lt;have e:c.toNat=0:=h2;have g:d.toNat=0:=h3;have h':256*a.toNat+b.toNat=n:=h;refine ⟨?_,oo⟩;unfold D5;have f:∀(m:Nat) (u:UInt8),m % 256=u.toNat->b8 m=u:=λm u h=>UInt8.toNat_inj.1 (by rw [Ba,h]);rw [f _ a oo,f _ b oo,<-f 0 c oo,<-f 0 d oo];rfl
def CH (r:ByteArray):ByteArray:=D5 (4+r.size)++r
def Aa (f:ByteArray):ByteArray:=D5 (4+f.size)++f
def Cv (rs:List ByteArray):ByteArray:=AP (rs.map CH)
theorem DE (r:ByteArray):(CH r).size=4+r.size:=by unfold CH;rw [io,Bb]
theorem Bp (r:ByteArray):(Aa r).size=4+r.size:=by unfold Aa;rw [io,Bb]
theorem Gl (r:ByteArray) (rs:List ByteArray):Cv (r::rs)=CH r++Cv rs:=rfl
theorem Pj (rs:List ByteArray) (r:ByteArray):Cv (rs++[r])=Cv rs++CH r:=by
 unfold Cv;rw [il,Gm];show _++(CH r++nilB)=_;rw [show CH r++nilB=CH r from j3]
theorem MW {rs:List ByteArray} (h:rs≠[]):4<=(Cv rs).size:=by
 cases rs with
 | nil=>exact absurd rfl h
 | cons r rs=>rw [Gl,io,DE];omega
def vOk (L B:Int):Bool:=decide (1<=L/\L<=1000/\L+8<=B/\B<=1024)
theorem Gh {L B:Int} (h:vOk L B=true):1<=L/\L<=1000/\L+8<=B/\B<=1024:=jC h
def Ao (L:Int) (s:ByteArray):ByteArray × ByteArray × Bool:=
 if s.size<4 then (nilB,nilB,false) else if (rdW (s.extract 0 4)).2=false\/(rdW (s.extract 0 4)).1<4\/s.size<(rdW (s.extract 0 4)).1\/L<((rdW (s.extract 0 4)).1:Int) - 4 then (nilB,nilB,false)
 else (s.extract 4 (rdW (s.extract 0 4)).1,s.extract (rdW (s.extract 0 4)).1 s.size,true)
def BX (L:Int):Nat->ByteArray->List ByteArray × Bool
 | 0,s=>([],decide (s.size=0))
 | f+1,s=>if s.size=0 then ([],true) else if (Ao L s).2.2=false then ([],false) else ((Ao L s).1::(BX L f (Ao L s).2.1).1,(BX L f (Ao L s).2.1).2)
def Bd (L B:Int) (s:ByteArray):List ByteArray × Int:=
 if vOk L B=false then ([],1) else if s.size<=4\/B<(s.size:Int) then ([],11) else if rdW (s.extract 0 4)≠(s.size,true) then ([],11)
 else if (BX L s.size (s.extract 4 s.size)).2=true then ((BX L s.size (s.extract 4 s.size)).1,0) else ([],11)
def vGo (B:Nat):ByteArray->List ByteArray->List ByteArray
 | acc,[]=>if acc.size=0 then [] else [Aa acc]
 | acc,r::rs=>if acc.size≠0/\B<4+acc.size+(CH r).size then Aa acc::vGo B (CH r) rs else vGo B (acc++CH r) rs
def FT (L B:Int) (rs:List ByteArray):List ByteArray × Int:=
 if vOk L B=false then ([],1) else if (rs.any λr=>decide (L<(r.size:Int)))=true then ([],2) else (vGo B.toNat nilB rs,0)
theorem O6 {L:Int} {s r t:ByteArray} (h:Ao L s=(r,t,true)):CH r++t=s/\(r.size:Int)<=L/\t.size<s.size:=by
 unfold Ao at h;split at h
 . injection h with _ h;injection h with _ h;cases h
 rename_i h4;split at h
 . injection h with _ h;injection h with _ h;cases h
 rename_i hc;obtain ⟨⟨n,ok⟩,hn⟩:∃z,rdW (s.extract 0 4)=z:=⟨_,rfl⟩;rw [hn] at hc h;simp only [not_or,Bool.not_eq_false,Nat.not_lt,Int.not_lt] at hc h;obtain ⟨c1,c2,c3,c4⟩:=hc;subst c1;injection h with e1 e2;injection e2 with e2 _;obtain ⟨w1,w2⟩:=Sb hn;have hr:r.size=n - 4:=by rw [<-e1,i0];omega
 refine ⟨?_,oo,?_⟩
 . unfold CH;rw [hr,show 4+(n - 4)=n from oo,w1,<-e1,<-e2,ByteArray.extract_append_extract,show min 0 4=0 from rfl,show max 4 n=n from oo,ByteArray.extract_append_extract,show min 0 n=0 from oo,show max n s.size=s.size from oo,ByteArray.extract_zero_size]
 . rw [<-e2,i0];omega
theorem Sm {L:Int} {r:ByteArray} (h:(r.size:Int)<=L) (hL:L<=1000) (t:ByteArray):Ao L (CH r++t)=(r,t,true):=by
 have hs:(CH r++t).size=4+r.size+t.size:=by rw [io,DE]
 have he:(CH r++t).extract 0 4=D5 (4+r.size):=by
  unfold CH;rw [jq];exact DS _ _ 4 (Bb _)
 unfold Ao;rw [if_neg oo,he,OQ oo,if_neg (by simp only [hs];simp;omega)];simp only;congr 1
 . unfold CH;rw [jq,Ed _ _ _ _ (by rw [Bb];exact iX _),Bb,show 4 - 4=0 from rfl,show 4+r.size - 4=r.size from oo];exact DS _ _ _ rfl
 . congr 1;rw [Ed _ _ _ _ (by rw [DE];exact iX _),DE,hs,show 4+r.size - (4+r.size)=0 from oo,show 4+r.size+t.size - (4+r.size)=t.size from oo,ByteArray.extract_zero_size]
theorem Pg {L:Int}:∀(f:Nat) (s:ByteArray) (l:List ByteArray),BX L f s=(l,true)->Cv l=s/\∀r∈l,(r.size:Int)<=L
 | 0,s,l,h=>by
   unfold BX at h;injection h with h1 h2;have h0:=jC h2;subst h1;exact ⟨(ByteArray.size_eq_zero_iff.1 h0).symm,λr hr=>by cases hr⟩
 | f+1,s,l,h=>by
   unfold BX at h;split at h
   . rename_i h0;injection h with h1 _;subst h1;exact ⟨(ByteArray.size_eq_zero_iff.1 h0).symm,λr hr=>by cases hr⟩
   split at h
   . injection h with _ h;cases h
   rename_i h0 h1;obtain ⟨⟨r,t,ok⟩,hv⟩:∃z,Ao L s=z:=⟨_,rfl⟩;rw [hv] at h h1;simp only at h h1;have hok:ok=true:=by simpa using h1
   subst hok;injection h with e1 e2;obtain ⟨g1,g2,_⟩:=O6 hv;obtain ⟨i1,i2⟩:=Pg f t _ (Prod.ext rfl e2);subst e1;refine ⟨?_,λx hx=>?_⟩
   . rw [Gl,i1,g1]
   . rcases jh.1 hx with rfl | hx
     . exact g2
     . exact i2 x hx
theorem MS {L:Int} (hL:L<=1000):∀(l:List ByteArray) (f:Nat),(∀r∈l,(r.size:Int)<=L)->(Cv l).size<=f->BX L f (Cv l)=(l,true)
 | [],f,_,_=>by
   have h0:(Cv []).size=0:=rfl;cases f with
   | zero=>unfold BX;rw [iq h0]
   | succ f=>unfold BX;rw [if_pos h0]
 | r::l,f,hr,hf=>by
   have h4:=MW (rs:=r::l) qs;obtain ⟨f,rfl⟩:∃g,f=g+1:=⟨f - 1,oo⟩;have hv:=Sm (hr r (jA ..)) hL (Cv l);have ih:=MS hL l f (λx hx=>hr x (iz _ hx)) (by rw [Gl,io,DE] at hf;omega);unfold BX;rw [if_neg oo,Gl,hv,if_neg qs,ih]
theorem Vl (B:Nat):∀(rs:List ByteArray) (a:ByteArray),4+(a++Cv rs).size<=B->vGo B a rs=if (a++Cv rs).size=0 then [] else [Aa (a++Cv rs)]
 | [],a,_=>by
   show (if a.size=0 then [] else [Aa a])=_;rw [show a++Cv []=a from j3]
 | r::rs,a,h=>by
   rw [Gl] at h ⊢;have hs:(a++(CH r++Cv rs)).size=a.size+((CH r).size+(Cv rs).size):=by rw [io,io]
   unfold vGo;rw [if_neg oo,Vl B rs _ (by rw [jq];exact h),jq]
theorem Vc {L B:Int} {s:ByteArray} {l:List ByteArray} (h:Bd L B s=(l,0)):FT L B l=([s],0):=by
 unfold Bd at h;split at h
 . cases h
 rename_i h1;split at h
 . cases h
 rename_i h2;split at h
 . cases h
 rename_i h3;split at h;rotate_left
 . cases h
 rename_i h4;injection h with h5 _;have ho:=Gh (by simpa using h1);obtain ⟨f1,f2⟩:=Pg _ _ _ (Prod.ext h5 h4);have hw:=(Sb (jU.1 h3)).1;have a:(Cv l).size=s.size - 4:=by rw [f1,i0];omega
 unfold FT;rw [if_neg h1,if_neg (by rw [jl,jT];intro r hr;have:=f2 r hr;simp;omega)];have hg:=Vl B.toNat l nilB (by rw [show nilB++Cv l=Cv l from kO];omega);rw [show nilB++Cv l=Cv l from kO,if_neg oo] at hg;rw [hg];congr 2;unfold Aa;rw [a,show 4+(s.size - 4)=s.size from oo,hw,f1,ByteArray.extract_append_extract,show min 0 4=0 from rfl,show max 4 s.size=s.size from oo,ByteArray.extract_zero_size]
theorem Sl {L B:Int} (h1:vOk L B=true) {qs0:List ByteArray} (hs:∀r∈qs0,(r.size:Int)<=L) (a:qs0≠[]) (hb:4+(Cv qs0).size<=B.toNat):Bd L B (Aa (Cv qs0))=(qs0,0):=by
 have ho:=Gh h1;have h4:=MW a;have hz:=Bp (Cv qs0);have he:(Aa (Cv qs0)).extract 0 4=D5 (4+(Cv qs0).size):=DS _ _ 4 (Bb _)
 have hr:(Aa (Cv qs0)).extract 4 (Aa (Cv qs0)).size=Cv qs0:=by
  unfold Aa;exact E1 _ _ 4 _ (Bb _) (by rw [io,Bb])
 unfold Bd;rw [if_neg (by rw [h1];simp),if_neg oo,he,OQ oo,if_neg (by rw [hz];simp),hr,MS oo qs0 _ hs oo,if_pos rfl]
theorem Qq {L B:Int} (h1:vOk L B=true):∀(rs a:List ByteArray),(∀r∈rs,(r.size:Int)<=L)->(∀r∈a,(r.size:Int)<=L)->(a≠[]->4+(Cv a).size<=B.toNat)->BC (Bd L B) (vGo B.toNat (Cv a) rs)=(a++rs,0)
 | [],a,_,ha,hb=>by
   show BC _ (if (Cv a).size=0 then [] else [Aa (Cv a)])=_;by_cases hne:a=[]
   . subst hne;rfl
   . have h4:=MW hne;rw [if_neg oo];show (if (Bd L B (Aa (Cv a))).2≠0 then _ else _)=_;rw [Sl h1 ha hne (hb hne),if_neg qs];show (if (0:Int)≠0 then _ else (a++[],(0:Int)))=_;rw [if_neg qs]
 | r::rs,a,hr,ha,hb=>by
   have ho:=Gh h1;have hr0:=hr r (jA ..);have hrs:∀x∈rs,(x.size:Int)<=L:=λx hx=>hr x (iz _ hx);unfold vGo;by_cases hc:(Cv a).size≠0/\B.toNat<4+(Cv a).size+(CH r).size
   . rw [if_pos hc];have hne:a≠[]:=by rintro rfl;exact hc.1 rfl
     have ih:=Qq h1 rs [r] hrs (λx hx=>by rw [ia.1 hx];exact hr0) (λ_=>by rw [show Cv [r]=CH r from j3,DE];omega);rw [show Cv [r]=CH r from j3] at ih;show (if (Bd L B (Aa (Cv a))).2≠0 then _ else _)=_;rw [Sl h1 ha hne (hb hne),if_neg qs,ih,if_neg qs];rfl
   . rw [if_neg hc,<-Pj]
     have ih:=Qq h1 rs (a++[r]) hrs (λx hx=>by
      rcases ip.1 hx with h9 | h9
      . exact ha x h9
      . rw [ia.1 h9];exact hr0) (λ_=>by
      rw [Pj,io]
      by_cases h0:(Cv a).size=0
      . rw [h0,DE];omega
      . have:¬B.toNat<4+(Cv a).size+(CH r).size:=λh9=>hc ⟨h0,h9⟩
        omega)
     rw [ih,jK];rfl

structure Seg where
 bf:Bool
 af:Bool
 da:ByteArray
def IV (x:Seg):Nat:=(if x.bf then 2 else 0)+(if x.af then 1 else 0)
def B1 (x:Seg):ByteArray:=⟨#[b8 ((4+x.da.size) / 256),b8 (4+x.da.size),b8 (IV x),0]⟩++x.da
def C6 (l:List Seg):ByteArray:=AP (l.map B1)
def sOk (L B:Int):Bool:=decide (1<=L/\L<=1000/\9<=B/\B<=1024)
theorem Ea {L B:Int} (h:sOk L B=true):1<=L/\L<=1000/\9<=B/\B<=1024:=jC h
theorem BE (x:Seg):(B1 x).size=4+x.da.size:=by unfold B1;rw [io];rfl
theorem LM (x:Seg) (l:List Seg):C6 (x::l)=B1 x++C6 l:=rfl
theorem OL (a b:List Seg):C6 (a++b)=C6 a++C6 b:=by unfold C6;rw [il,Gm]
theorem IW (x:Seg):C6 [x]=B1 x:=j3
theorem S8 {l:List Seg} (h:l≠[]):4<=(C6 l).size:=by
 cases l with
 | nil=>exact absurd rfl h
 | cons x l=>rw [LM,io,BE];omega
def Ay (m:Nat):Nat->Bool->ByteArray->List Seg
 | 0,b,r=>[⟨b,false,r⟩]
 | f+1,b,r=>if r.size<=m then [⟨b,false,r⟩] else ⟨b,true,r.extract 0 m⟩::Ay m f true (r.extract m r.size)
def Df (x:Seg):ByteArray:=Aa (B1 x)
def DD (B:Nat) (last r:ByteArray):ByteArray × List ByteArray:=
 if last.size≠0/\(last.size+4+r.size<=B\/last.size+5<=B) then
  if last.size+4+r.size<=B then (Aa (last.extract 4 last.size++B1 ⟨false,false,r⟩),[])
  else (Aa (last.extract 4 last.size++B1 ⟨false,true,r.extract 0 (B - last.size - 4)⟩),(Ay (B - 8) r.size true (r.extract (B - last.size - 4) r.size)).map Df)
 else (nilB,(Ay (B - 8) r.size false r).map Df)
def CO (B:Nat) (out:List ByteArray) (r:ByteArray):List ByteArray:=
 (if (DD B (out.getLast?.getD nilB) r).1.size=0 then out else out.dropLast++[(DD B (out.getLast?.getD nilB) r).1])++(DD B (out.getLast?.getD nilB) r).2
def C3 (L B:Int) (rs:List ByteArray):List ByteArray × Int:=
 if sOk L B=false then ([],1) else if (rs.any λr=>decide (L<(r.size:Int)))=true then ([],2) else (rs.foldl (CO B.toNat) [],0)
def Ag (s:ByteArray):Nat × Nat:=(256*at8 s 0+at8 s 1,at8 s 2)
def BL (L:Int) (full:Bool):Nat->Bool->ByteArray->List Seg × Bool
 | 0,_,s=>([],decide (s.size=0))
 | f+1,st,s=>
   if s.size=0 then ([],true)
   else if s.size<4\/3<(Ag s).2\/at8 s 3≠0 then ([],false)
   else if (Ag s).1<4\/s.size<(Ag s).1\/L<((Ag s).1:Int) - 4\/((Ag s).1=4/\(Ag s).2≠0) then ([],false)
   else if (2<=(Ag s).2/\st=true)\/((Ag s).2 % 2=1/\(s.size≠(Ag s).1\/full=false)) then ([],false)
   else (⟨decide (2<=(Ag s).2),decide ((Ag s).2 % 2=1),s.extract 4 (Ag s).1⟩::(BL L full f true (s.extract (Ag s).1 s.size)).1,(BL L full f true (s.extract (Ag s).1 s.size)).2)
def BO (L B:Int) (s:ByteArray):List Seg × Int:=
 if sOk L B=false then ([],1) else if s.size<8\/B<(s.size:Int) then ([],11) else if rdW (s.extract 0 4)≠(s.size,true) then ([],11)
 else if (BL L (decide ((s.size:Int)=B)) s.size false (s.extract 4 s.size)).2=true then ((BL L (decide ((s.size:Int)=B)) s.size false (s.extract 4 s.size)).1,0) else ([],11)
def BT (L B:Int):List ByteArray->List Seg × Int
 | []=>([],0)
 | b::bs=>if (BO L B b).2≠0 then ([],(BO L B b).2) else if (BT L B bs).2≠0 then ([],(BT L B bs).2) else ((BO L B b).1++(BT L B bs).1,0)
def DV (out:List ByteArray) (op:Bool) (d:ByteArray):List ByteArray:=if op=true then out.dropLast++[out.getLast?.getD nilB++d] else out++[d]
def Bo (L:Int):List ByteArray->Bool->List Seg->List ByteArray × Int
 | out,op,[]=>if op=true then ([],11) else (out,0)
 | out,op,x::xs=>if x.bf≠op then ([],11) else if L<(((DV out op x.da).getLast?.getD nilB).size:Int) then ([],11) else Bo L (DV out op x.da) x.af xs
def Bi (L B:Int) (bs:List ByteArray):List ByteArray × Int:=
 if sOk L B=false then ([],1) else if (BT L B bs).2≠0 then ([],(BT L B bs).2) else if (Bo L [] false (BT L B bs).1).2≠0 then ([],(Bo L [] false (BT L B bs).1).2)
 else if (C3 L B (Bo L [] false (BT L B bs).1).1).2≠0\/(C3 L B (Bo L [] false (BT L B bs).1).1).1≠bs then ([],11) else ((Bo L [] false (BT L B bs).1).1,0)
def okG (L:Int) (full:Bool):Bool->List Seg->Prop
 | _,[]=>True
 | st,x::l=>(x.da.size:Int)<=L/\(x.da.size=0->x.bf=false/\x.af=false)/\(x.bf=true->st=false)/\(x.af=true->l=[]/\full=true)/\okG L full true l
theorem gP {L:Int} (hL:L<=1000) (x:Seg) (hx:(x.da.size:Int)<=L) (t:ByteArray):Ag (B1 x++t)=(4+x.da.size,IV x)/\at8 (B1 x++t) 3=0/\(B1 x++t).extract 4 (4+x.da.size)=x.da/\(B1 x++t).extract (4+x.da.size) (B1 x++t).size=t/\(B1 x++t).size=4+x.da.size+t.size:=by
 have hs:(B1 x++t).size=4+x.da.size+t.size:=by rw [io,BE]
 have a:∀k,k<4->at8 (B1 x++t) k=at8 ⟨#[b8 ((4+x.da.size) / 256),b8 (4+x.da.size),b8 (IV x),0]⟩ k:=λk hk=>by
  unfold at8 B1;rw [jq,ByteArray.data_append];congr 1;rw [Array.getD_eq_getD_getElem?,Array.getD_eq_getD_getElem?,Array.getElem?_append_left (by simpa using hk)]
 have hc:IV x<4:=by unfold IV;split<;>split<;>omega
 refine ⟨?_,?_,?_,?_,hs⟩
 . unfold Ag;rw [a 0 oo,a 1 oo,a 2 oo];show (256*(b8 ((4+x.da.size) / 256)).toNat+(b8 (4+x.da.size)).toNat,(b8 (IV x)).toNat)=_;rw [Ba,Ba,Ba];congr 1
   . omega
   . omega
 . rw [a 3 oo];rfl
 . unfold B1;rw [jq,Ed _ _ _ _ (iX 4)];show (x.da++t).extract (4 - 4) (4+x.da.size - 4)=_;rw [show 4 - 4=0 from rfl,show 4+x.da.size - 4=x.da.size from oo];exact DS _ _ _ rfl
 . rw [hs,Ed _ _ _ _ (by rw [BE];exact iX _),BE,show 4+x.da.size - (4+x.da.size)=0 from oo,show 4+x.da.size+t.size - (4+x.da.size)=t.size from oo,ByteArray.extract_zero_size]
theorem Wf (x:Seg):decide (2<=IV x)=x.bf/\decide (IV x % 2=1)=x.af/\IV x<=3/\(IV x=0↔x.bf=false/\x.af=false):=by
 unfold IV;cases x.bf<;>cases x.af<;>simp
theorem OA {L:Int} (hL:L<=1000) {full:Bool}:∀(l:List Seg) (f:Nat) (st:Bool),okG L full st l->(C6 l).size<=f->BL L full f st (C6 l)=(l,true)
 | [],f,st,_,_=>by
   have h0:(C6 []).size=0:=rfl;cases f with
   | zero=>unfold BL;rw [iq h0]
   | succ f=>unfold BL;rw [if_pos h0]
 | x::l,f,st,hk,hf=>by
   obtain ⟨k1,k2,k3,k4,k5⟩:=hk;have h4:=S8 (l:=x::l) qs;obtain ⟨f,rfl⟩:∃g,f=g+1:=⟨f - 1,oo⟩;obtain ⟨s1,s2,s3,s4,s5⟩:=gP hL x k1 (C6 l);obtain ⟨c1,c2,c3,c4⟩:=Wf x;have ih:=OA hL l f true k5 (by rw [LM,s5] at hf;omega);rw [LM] at h4 ⊢;unfold BL;rw [if_neg oo,s1,s2,if_neg (by rw [s5];simp only;omega),if_neg,if_neg,s3,s4,ih,c1,c2]
   . simp only;rintro (⟨h9,h8⟩ | ⟨h9,h8⟩)
     . have:=k3 (by rw [<-c1];exact iq h9);rw [this] at h8;cases h8
     . obtain ⟨e1,e2⟩:=k4 (by rw [<-c2];exact iq h9);subst e1;rcases h8 with h8 | h8
       . apply h8;rw [s5];rfl
       . rw [e2] at h8;cases h8
   . simp only;rintro (h9 | h9 | h9 | ⟨h9,h8⟩)
     . omega
     . rw [s5] at h9;omega
     . omega
     . exact h8 (c4.2 (k2 oo))
theorem Rc {L B:Int} (h1:sOk L B=true) {l:List Seg} (a:l≠[]) (hk:okG L (decide ((4+(C6 l).size:Nat)=B)) false l) (hb:4+(C6 l).size<=B.toNat):BO L B (Aa (C6 l))=(l,0):=by
 have ho:=Ea h1;have h4:=S8 a;have hz:=Bp (C6 l);have he:(Aa (C6 l)).extract 0 4=D5 (4+(C6 l).size):=DS _ _ 4 (Bb _)
 have hr:(Aa (C6 l)).extract 4 (Aa (C6 l)).size=C6 l:=by
  unfold Aa;exact E1 _ _ 4 _ (Bb _) (by rw [io,Bb])
 unfold BO;rw [if_neg (by rw [h1];simp),if_neg oo,he,OQ oo,if_neg (by rw [hz];simp),hr,hz,OA oo l _ false hk oo,if_pos rfl]

def Gf (l:List Seg):ByteArray:=Aa (C6 l)
theorem LC (l:List Seg):(Gf l).size=4+(C6 l).size:=Bp _
theorem de (x:Seg):Df x=Gf [x]:=by unfold Df Gf;rw [IW]
theorem Nz (l:List Seg):(Gf l).extract 4 (Gf l).size=C6 l:=by
 unfold Gf Aa;exact E1 _ _ 4 _ (Bb _) (by rw [io,Bb])
theorem Im {L:Int} {out:List ByteArray} {op b a:Bool} {d:ByteArray} {xs:List Seg} (h1:b=op) (h2:(((DV out op d).getLast?.getD nilB).size:Int)<=L):Bo L out op (⟨b,a,d⟩::xs)=Bo L (DV out op d) a xs:=by
 show (if b≠op then ([],11) else if L<(((DV out op d).getLast?.getD nilB).size:Int) then ([],11) else Bo L (DV out op d) a xs)=_;rw [if_neg (by simp [h1]),if_neg oo]
theorem Iy {L:Int}:∀(a b:List Seg) (c:List ByteArray) (op:Bool) (d:List ByteArray),Bo L c op a=(d,0)->Bo L c op (a++b)=Bo L d false b
 | [],b,c,op,d,h=>by
   unfold Bo at h;split at h
   . cases h
   rename_i h1;injection h with h _;subst h;have:op=false:=by simpa using h1
   rw [this];rfl
 | x::a,b,c,op,d,h=>by
   rw [cons_append];have h':(if x.bf≠op then ([],11) else if L<(((DV c op x.da).getLast?.getD nilB).size:Int) then ([],11) else Bo L (DV c op x.da) x.af a)=(d,0):=h;show (if x.bf≠op then ([],11) else if L<(((DV c op x.da).getLast?.getD nilB).size:Int) then ([],11) else Bo L (DV c op x.da) x.af (a++b))=_;split at h'
   . cases h'
   rename_i h1;split at h'
   . cases h'
   rename_i h2;rw [if_neg h1,if_neg h2];exact Iy a b _ _ d h'
theorem D8 (a:List ByteArray) (p d:ByteArray):DV (a++[p]) true d=a++[p++d]:=by
 unfold DV;rw [if_pos rfl,dropLast_concat,List.getLast?_concat];rfl
theorem Gt (a:List ByteArray) (d:ByteArray):DV a false d=a++[d]:=by unfold DV;rw [if_neg qs]
theorem C0 (a:List ByteArray) (p:ByteArray):(a++[p]).getLast?.getD nilB=p:=by rw [List.getLast?_concat];rfl
theorem KA (r:ByteArray) (m:Nat) (h:m<=r.size):r.extract 0 m++r.extract m r.size=r:=by
 rw [ByteArray.extract_append_extract,Nat.min_eq_left (jL _),Nat.max_eq_right h,ByteArray.extract_zero_size]
theorem L2 {L:Int} {m:Nat}:∀(f:Nat) (r:ByteArray) (a:List ByteArray) (p:ByteArray),((p++r).size:Int)<=L->Bo L (a++[p]) true (Ay m f true r)=(a++[p++r],0)
 | 0,r,a,p,h=>by
   show Bo L (a++[p]) true [⟨true,false,r⟩]=_;rw [Im rfl (by rw [D8,C0];exact h),D8];rfl
 | f+1,r,a,p,h=>by
   unfold Ay;by_cases hm:r.size<=m
   . rw [if_pos hm,Im rfl (by rw [D8,C0];exact h),D8];rfl
   . rw [if_neg hm];have e:(p++r.extract 0 m)++r.extract m r.size=p++r:=by rw [jq,KA r m oo]
     have hs:=ix ByteArray.size e;rw [io] at hs;rw [Im rfl (by rw [D8,C0];omega),D8,L2 f _ a _ (by rw [e];exact h),e]
theorem Li {L:Int} {m k:Nat} (f:Nat) (r:ByteArray) (a:List ByteArray) (hk:k<=r.size) (h:(r.size:Int)<=L):Bo L a false (⟨false,true,r.extract 0 k⟩::Ay m f true (r.extract k r.size))=(a++[r],0):=by
 rw [Im rfl (by rw [Gt,C0,i0];omega),Gt,L2 f _ a _ (by rw [KA r k hk];exact h),KA r k hk]
theorem Lo {L:Int} {m:Nat} (f:Nat) (r:ByteArray) (a:List ByteArray) (h:(r.size:Int)<=L):Bo L a false (Ay m f false r)=(a++[r],0):=by
 have h1:Bo L a false [⟨false,false,r⟩]=(a++[r],0):=by
  rw [Im rfl (by rw [Gt,C0];exact h),Gt];rfl
 cases f with
 | zero=>exact h1
 | succ f=>
   unfold Ay;by_cases hm:r.size<=m
   . rw [if_pos hm];exact h1
   . rw [if_neg hm];exact Li f r a oo h
theorem NP (m:Nat):∀(f:Nat) (b:Bool) (r:ByteArray),∃i x,Ay m f b r=i++[x]/\x.af=false
 | 0,b,r=>⟨[],_,rfl,rfl⟩
 | f+1,b,r=>by
   unfold Ay;split
   . exact ⟨[],_,rfl,rfl⟩
   . obtain ⟨i,x,h1,h2⟩:=NP m f true (r.extract m r.size);exact ⟨_::i,x,by rw [h1];rfl,h2⟩
theorem J9 {m:Nat} (hm:1<=m):∀(f:Nat) (b:Bool) (r:ByteArray),r.size<=f->(b=true->1<=r.size)->∀x∈Ay m f b r,x.da.size<=m/\x.da.size<=r.size/\(x.af=true->x.da.size=m)/\(x.da.size=0->x.bf=false/\x.af=false)
 | 0,b,r,hf,hb,x,hx=>by
   rw [show Ay m 0 b r=[⟨b,false,r⟩] from rfl,ia] at hx;subst hx;refine ⟨by simp only;omega,iX _,λh=>(by cases h),λ_=>⟨?_,rfl⟩⟩;cases b with
   | false=>rfl
   | true=>have:=hb rfl;omega
 | f+1,b,r,hf,hb,x,hx=>by
   unfold Ay at hx;split at hx
   . rename_i h;rw [ia] at hx;subst hx;refine ⟨h,iX _,λh=>(by cases h),λh0=>⟨?_,rfl⟩⟩;cases b with
     | false=>rfl
     | true=>have:=hb rfl;simp only at h0;omega
   . rename_i h;rcases jh.1 hx with rfl | hx
     . have hs:(r.extract 0 m).size=m:=by rw [i0];omega
       exact ⟨Nat.le_of_eq hs,by simp only;omega,λ_=>hs,λh0=>by simp only at h0;omega⟩
     . have hs:(r.extract m r.size).size=r.size - m:=by rw [i0];omega
       obtain ⟨p1,p2,p3,p4⟩:=J9 hm f true (r.extract m r.size) oo (λ_=>oo) x hx;exact ⟨p1,oo,p3,p4⟩
theorem M7 {L:Int} {full full':Bool}:∀(l:List Seg) (st:Bool) (x:Seg),okG L full st l->(∀y∈l,y.af=false)->(x.da.size:Int)<=L->(x.da.size=0->x.af=false)->x.bf=false->(x.af=true->full'=true)->okG L full' st (l++[x])
 | [],st,x,_,_,h1,h2,h3,h4=>⟨h1,λh=>⟨h3,h2 h⟩,(λh=>by rw [h3] at h;cases h),λh=>⟨rfl,h4 h⟩,trivial⟩
 | y::l,st,x,⟨k1,k2,k3,_,k5⟩,ha,h1,h2,h3,h4=>by
   have hy:=ha y (jA ..);exact ⟨k1,k2,k3,(λh=>by rw [hy] at h;cases h),M7 l true x k5 (λz hz=>ha z (iz _ hz)) h1 h2 h3 h4⟩
structure PackR (L:Int) (B:Nat) (out:List ByteArray) (bs:List (List Seg)) (recs:List ByteArray):Prop where
 out:out=bs.map Gf
 ok:∀l∈bs,l≠[]/\okG L (decide (((4+(C6 l).size:Nat):Int)=(B:Int))) false l/\4+(C6 l).size<=B
 join:Bo L [] false bs.flatten=(recs,0)
 clo:∀cs l,bs=cs++[l]->∀x∈l,x.af=false
theorem gS {L:Int} {B:Nat} (hB:9<=B) {x:Seg} (hL:(x.da.size:Int)<=L) (h1:x.da.size<=B - 8) (h3:x.af=true->x.da.size=B - 8) (h4:x.da.size=0->x.bf=false/\x.af=false):[x]≠[]/\okG L (decide (((4+(C6 [x]).size:Nat):Int)=(B:Int))) false [x]/\4+(C6 [x]).size<=B:=by
 have hs:(C6 [x]).size=4+x.da.size:=by rw [IW,BE]
 refine ⟨qs,⟨hL,h4,λ_=>rfl,λh=>⟨rfl,?_⟩,trivial⟩,oo⟩;have:=h3 h;exact iq oo
theorem Wh (l:List Seg):(l.map λx=>[x]).flatten=l:=by
 induction l with
 | nil=>rfl
 | cons x l ih=>rw [map_cons,flatten_cons,ih];rfl
theorem PackR.more {L:Int} {B:Nat} (hB:9<=B) {out:List ByteArray} {bs:List (List Seg)} {recs recs2:List ByteArray} (a:∀l∈bs,l≠[]/\okG L (decide (((4+(C6 l).size:Nat):Int)=(B:Int))) false l/\4+(C6 l).size<=B) (ho:out=bs.map Gf) {b:Bool} {r:ByteArray} (hr:(r.size:Int)<=L) (hb:b=true->1<=r.size) (hj:Bo L [] false (bs.flatten++Ay (B - 8) r.size b r)=(recs2,0)):
 PackR L B (out++(Ay (B - 8) r.size b r).map Df) (bs++(Ay (B - 8) r.size b r).map λx=>[x]) recs2:=by
 refine ⟨?_,λl hl=>?_,?_,λcs l he x hx=>?_⟩
 . rw [il,ho,jt];congr 1;apply jO;intro x _;exact de x
 . rcases ip.1 hl with h9 | h9
   . exact a l h9
   . obtain ⟨x,hx,rfl⟩:=ie.1 h9;obtain ⟨p1,p2,p3,p4⟩:=J9 oo r.size b r (iX _) hb x hx;exact gS hB oo p1 p3 p4
 . rw [List.flatten_append,Wh];exact hj
 . obtain ⟨i,y,h1,h2⟩:=NP (B - 8) r.size b r;rw [h1,il,<-jK] at he;have e:=(List.append_inj' he rfl).2;simp only [map_cons,map_nil,cons.injEq,and_true] at e;rw [<-e,ia] at hx;rw [hx];exact h2
theorem PackR.step {L:Int} {B:Nat} (hB:9<=B) {out:List ByteArray} {bs:List (List Seg)} {recs:List ByteArray} (h:PackR L B out bs recs) {r:ByteArray} (hr:(r.size:Int)<=L):∃bs',PackR L B (CO B out r) bs' (recs++[r]):=by
 have d:PackR L B (out++(Ay (B - 8) r.size false r).map Df) (bs++(Ay (B - 8) r.size false r).map λx=>[x]) (recs++[r]):=
  PackR.more (recs:=recs) hB h.ok h.out hr (λh9=>by cases h9) (by rw [Iy _ _ _ _ _ h.join,Lo _ _ _ hr])
 rcases eq_nil_or_concat bs with a | ⟨cs,l,a⟩
 . have ho:out=[]:=by rw [h.out,a];rfl
   refine ⟨bs++(Ay (B - 8) r.size false r).map λx=>[x],?_⟩
   have e:CO B out r=out++(Ay (B - 8) r.size false r).map Df:=by
    unfold CO;rw [ho];show (if (DD B nilB r).1.size=0 then _ else _)++(DD B nilB r).2=_;have:DD B nilB r=(nilB,(Ay (B - 8) r.size false r).map Df):=by unfold DD;rw [if_neg (λh9=>h9.1 rfl)]
    rw [this,if_pos (show nilB.size=0 from rfl)]
   rw [e];exact d
 have a:bs=cs++[l]:=by simpa using a
 have hl:=h.ok l (by rw [a];simp);have p:out.getLast?.getD nilB=Gf l:=by rw [h.out,a,il];exact C0 _ _
 have q:out.dropLast=cs.map Gf:=by rw [h.out,a,il];exact dropLast_concat ..
 have hz:=LC l;have c:=h.clo cs l a;have i:∀x∈cs,x≠[]/\okG L (decide (((4+(C6 x).size:Nat):Int)=(B:Int))) false x/\4+(C6 x).size<=B:=λx hx=>h.ok x (by rw [a];exact jQ _ hx);have j:∀x:Seg,(C6 (l++[x])).size=(C6 l).size+(4+x.da.size):=λx=>by rw [OL,io,IW,BE]
 have n:∀x,(cs++[l++[x]]).flatten=bs.flatten++[x]:=λx=>by rw [a];simp
 unfold CO;rw [p,q];unfold DD;by_cases hc:(Gf l).size≠0/\((Gf l).size+4+r.size<=B\/(Gf l).size+5<=B)
 . rw [if_pos hc];by_cases o:(Gf l).size+4+r.size<=B
   . rw [if_pos o,Nz];simp only;have e:Aa (C6 l++B1 ⟨false,false,r⟩)=Gf (l++[⟨false,false,r⟩]):=by unfold Gf;rw [OL,IW]
     rw [e,if_neg (by rw [LC];omega),append_nil];have hs:=j ⟨false,false,r⟩;simp only at hs;refine ⟨cs++[l++[⟨false,false,r⟩]],by rw [il];rfl,λx hx=>?_,?_,λc2 l2 he x hx=>?_⟩
     . rcases ip.1 hx with h9 | h9
       . exact i x h9
       . rw [ia.1 h9];exact ⟨qs,M7 l false _ hl.2.1 c hr (λ_=>rfl) rfl (λh8=>by cases h8),oo⟩
     . rw [n,Iy _ _ _ _ _ h.join];exact Lo (m:=r.size) 0 r recs hr
     . have e2:=(List.append_inj' he rfl).2;injection e2 with e2 _;rw [<-e2] at hx;rcases ip.1 hx with h9 | h9
       . exact c x h9
       . rw [ia.1 h9]
   . rw [if_neg o,Nz];simp only;obtain ⟨k,hk⟩:∃k,B - (Gf l).size - 4=k:=⟨_,rfl⟩;rw [hk];have u:1<=k/\k<r.size:=oo;have v:(r.extract 0 k).size=k:=by rw [i0];omega
     have e:Aa (C6 l++B1 ⟨false,true,r.extract 0 k⟩)=Gf (l++[⟨false,true,r.extract 0 k⟩]):=by unfold Gf;rw [OL,IW]
     rw [e,if_neg (by rw [LC];omega)];have hs:=j ⟨false,true,r.extract 0 k⟩;simp only at hs;have w:(r.extract k r.size).size=r.size - k:=by rw [i0];omega
     have t:∀(m f g:Nat) (b:Bool) (s:ByteArray),s.size<=f->s.size<=g->1<=m->Ay m f b s=Ay m g b s:=by
      intro m f
      induction f with
      | zero=>
        intro g b s h1 h2 h3;cases g with
        | zero=>rfl
        | succ g=>unfold Ay;rw [if_pos oo]
      | succ f ih=>
        intro g b s h1 h2 h3;cases g with
        | zero=>unfold Ay;rw [if_pos oo]
        | succ g=>
          unfold Ay;split
          . rfl
          . rw [ih g true _ (by rw [i0];omega) (by rw [i0];omega) h3]
     rw [t (B - 8) r.size (r.extract k r.size).size true _ oo (iX _) oo];refine ⟨_,PackR.more (recs:=recs) (bs:=cs++[l++[⟨false,true,r.extract 0 k⟩]]) hB (λx hx=>?_) (by rw [il];rfl) (r:=r.extract k r.size) (b:=true) oo (λ_=>oo) ?_⟩
     . rcases ip.1 hx with h9 | h9
       . exact i x h9
       . rw [ia.1 h9];exact ⟨qs,M7 l false _ hl.2.1 c (by simp only;omega) (λh8=>by simp only at h8;omega) rfl (λ_=>iq oo),oo⟩
     . rw [n,jK,Iy _ _ _ _ _ h.join];exact Li (m:=B - 8) (k:=k) _ r recs oo hr
 . rw [if_neg hc];simp only;rw [if_pos (show nilB.size=0 from rfl)];exact ⟨_,d⟩
theorem SE {L:Int} {B:Nat} (hB:9<=B):∀(rs:List ByteArray) (out:List ByteArray) (bs:List (List Seg)) (recs:List ByteArray),PackR L B out bs recs->(∀r∈rs,(r.size:Int)<=L)->∃bs',PackR L B (rs.foldl (CO B) out) bs' (recs++rs)
 | [],out,bs,recs,h,_=>⟨bs,by rw [append_nil];exact h⟩
 | r::rs,out,bs,recs,h,hr=>by
   obtain ⟨b1,h1⟩:=h.step hB (hr r (jA ..));obtain ⟨b2,h2⟩:=SE hB rs _ b1 _ h1 (λx hx=>hr x (iz _ hx));exact ⟨b2,by rw [jK] at h2;exact h2⟩
theorem MU {L B:Int} (h1:sOk L B=true):∀bs:List (List Seg),(∀l∈bs,l≠[]/\okG L (decide (((4+(C6 l).size:Nat):Int)=(B.toNat:Int))) false l/\4+(C6 l).size<=B.toNat)->BT L B (bs.map Gf)=(bs.flatten,0)
 | [],_=>rfl
 | l::bs,h=>by
   have ho:=Ea h1;obtain ⟨k1,k2,k3⟩:=h l (jA ..);have hs:=Rc h1 k1 (by rw [show ((B.toNat:Nat):Int)=B from oo] at k2;exact k2) k3;have ih:=MU h1 bs (λx hx=>h x (iz _ hx));rw [map_cons];unfold BT;rw [show Gf l=Aa (C6 l) from rfl,hs,if_neg qs,ih,if_neg qs,flatten_cons]
theorem dE {L B:Int} (h1:sOk L B=true) {rs:List ByteArray} (hr:∀r∈rs,(r.size:Int)<=L):Bi L B (rs.foldl (CO B.toNat) [])=(rs,0):=by
 have ho:=Ea h1;obtain ⟨bs,h⟩:=SE (L:=L) (B:=B.toNat) oo rs [] [] [] ⟨rfl,λl hl=>(by cases hl),rfl,λcs l he=>absurd he qs⟩ hr;rw [nil_append] at h;have ha:=MU h1 bs h.ok;unfold Bi;rw [if_neg (by rw [h1];simp),h.out,ha,if_neg qs];simp only;rw [h.join,if_neg qs]
 have hp:C3 L B rs=(rs.foldl (CO B.toNat) [],0):=by
  unfold C3;rw [if_neg (by rw [h1];simp),if_neg (by rw [jl,jT];intro r hq;have:=hr r hq;simp;omega)]
 simp only;rw [hp,if_neg (by rw [h.out];simp)]

end
end Go.Proofs.YtmcgbdemcknkaaaGreatDoor
