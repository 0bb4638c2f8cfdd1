/- Parts of the proof (packed), 19. -/
import Derived.Test.YtmcgbdemcknkaaaGreatDoorCwN
import Derived.Test.YtmcgbdemcknkaaaGreatDoorCwR
import Derived.Test.YtmcgbdemcknkaaaGreatDoorCwE
namespace Go.Proofs.YtmcgbdemcknkaaaGreatDoor
set_option linter.all false
set_option maxRecDepth 100000
set_option maxHeartbeats 16000000
open List
section
attribute [local go_sem ↓] Go.wp_at_zero Go.wp_at_succ
open Go.RowKit
def AI (s:ByteArray):List Value:=[.string s]
theorem BQ:(Tryz.prog.info? 9).map (λi=>(i.zero,i.size,i.bytes))=some (some (.string ⟨#[]⟩),1,16):=qk
theorem Hs (L B:Int) (w:World) (l0:-9223372036854775808<=L) (l1:L<=9223372036854775807) (b0:-9223372036854775808<=B) (b1:B<=9223372036854775807):Calls Tryz.prog 50 #[.int .i64 L,.int .i64 B] w λe w'=>e=.returned (.bool (JJ L B))/\w'=w:=by
 have HO:=zh (show JJ L B=decide (1<=L/\L<=1000/\L<=B/\B<=1024) from rfl);by_cases h1:1<=L
 . by_cases h2:L<=1000
   . by_cases h3:L<=B
     . by_cases h4:B<=1024
       . have HE:=zh (show JJ L B=true from by rw [HO.out];exact iq ⟨h1,h2,h3,h4⟩);go_enter Tryz.func50,Tryz.ntmps50
         go_wp2
         go_ret;exact ⟨AC (by rw [HE.out]),rfl⟩
       . have HE:=zh (show JJ L B=false from by rw [HO.out];simp [h1,h2,h3,h4]);go_enter Tryz.func50,Tryz.ntmps50
         go_wp2
         go_ret;exact ⟨AC (by rw [HE.out]),rfl⟩
     . have HE:=zh (show JJ L B=false from by rw [HO.out];simp [h1,h2,h3]);go_enter Tryz.func50,Tryz.ntmps50
       go_wp2
       go_ret;exact ⟨AC (by rw [HE.out]),rfl⟩
   . have HE:=zh (show JJ L B=false from by rw [HO.out];simp [h1,h2]);go_enter Tryz.func50,Tryz.ntmps50
     go_wp2
     go_ret;exact ⟨AC (by rw [HE.out]),rfl⟩
 . have HE:=zh (show JJ L B=false from by rw [HO.out];simp [h1]);go_enter Tryz.func50,Tryz.ntmps50
   go_wp2
   go_ret;exact ⟨AC (by rw [HE.out]),rfl⟩
theorem Jk (L B:Int) (w:World) (l0:-9223372036854775808<=L) (l1:L<=9223372036854775807) (b0:-9223372036854775808<=B) (b1:B<=9223372036854775807):Calls Tryz.prog 53 #[.int .i64 L,.int .i64 B] w λe w'=>e=.returned (.bool (vOk L B))/\w'=w:=by
 have HO:=zh (show vOk L B=decide (1<=L/\L<=1000/\L+8<=B/\B<=1024) from rfl);by_cases h1:1<=L
 . by_cases h2:L<=1000
   . by_cases h3:L+8<=B
     . by_cases h4:B<=1024
       . have HE:=zh (show vOk L B=true from by rw [HO.out];exact iq ⟨h1,h2,h3,h4⟩);go_enter Tryz.func53,Tryz.ntmps53
         go_wp2
         go_ret;exact ⟨AC (by rw [HE.out]),rfl⟩
       . have HE:=zh (show vOk L B=false from by rw [HO.out];simp [h1,h2,h3,h4]);go_enter Tryz.func53,Tryz.ntmps53
         go_wp2
         go_ret;exact ⟨AC (by rw [HE.out]),rfl⟩
     . have HE:=zh (show vOk L B=false from by rw [HO.out];simp [h1,h2,h3]);go_enter Tryz.func53,Tryz.ntmps53
       go_wp2
       go_ret;exact ⟨AC (by rw [HE.out]),rfl⟩
   . have HE:=zh (show vOk L B=false from by rw [HO.out];simp [h1,h2]);go_enter Tryz.func53,Tryz.ntmps53
     go_wp2
     go_ret;exact ⟨AC (by rw [HE.out]),rfl⟩
 . have HE:=zh (show vOk L B=false from by rw [HO.out];simp [h1]);go_enter Tryz.func53,Tryz.ntmps53
   go_wp2
   go_ret;exact ⟨AC (by rw [HE.out]),rfl⟩
theorem IC (L B:Int) (w:World) (l0:-9223372036854775808<=L) (l1:L<=9223372036854775807) (b0:-9223372036854775808<=B) (b1:B<=9223372036854775807):Calls Tryz.prog 59 #[.int .i64 L,.int .i64 B] w λe w'=>e=.returned (.bool (sOk L B))/\w'=w:=by
 have HO:=zh (show sOk L B=decide (1<=L/\L<=1000/\9<=B/\B<=1024) from rfl);by_cases h1:1<=L
 . by_cases h2:L<=1000
   . by_cases h3:9<=B
     . by_cases h4:B<=1024
       . have HE:=zh (show sOk L B=true from by rw [HO.out];exact iq ⟨h1,h2,h3,h4⟩);go_enter Tryz.func59,Tryz.ntmps59
         go_wp2
         go_ret;exact ⟨AC (by rw [HE.out]),rfl⟩
       . have HE:=zh (show sOk L B=false from by rw [HO.out];simp [h1,h2,h3,h4]);go_enter Tryz.func59,Tryz.ntmps59
         go_wp2
         go_ret;exact ⟨AC (by rw [HE.out]),rfl⟩
     . have HE:=zh (show sOk L B=false from by rw [HO.out];simp [h1,h2,h3]);go_enter Tryz.func59,Tryz.ntmps59
       go_wp2
       go_ret;exact ⟨AC (by rw [HE.out]),rfl⟩
   . have HE:=zh (show sOk L B=false from by rw [HO.out];simp [h1,h2]);go_enter Tryz.func59,Tryz.ntmps59
     go_wp2
     go_ret;exact ⟨AC (by rw [HE.out]),rfl⟩
 . have HE:=zh (show sOk L B=false from by rw [HO.out];simp [h1]);go_enter Tryz.func59,Tryz.ntmps59
   go_wp2
   go_ret;exact ⟨AC (by rw [HE.out]),rfl⟩
theorem Pc (L B:Int) (w:World) (h:JJ L B=true):Calls Tryz.prog 51 #[.int .i64 L,.int .i64 B] w λe w'=>e=.returned (.int .i64 ((B.toNat / L.toNat:Nat):Int))/\w'=w:=by
 have ho:=Dc h
 have hd:B.tdiv L=((B.toNat / L.toNat:Nat):Int):=by
  obtain ⟨l,rfl⟩:∃l:Nat,L=l:=⟨L.toNat,oo⟩;obtain ⟨b,rfl⟩:∃b:Nat,B=b:=⟨B.toNat,oo⟩;rw [i9,i9];rfl
 have a:B.toNat / L.toNat<=1024:=ij (Nat.div_le_self _ _) oo;have c:(L==0)=false:=by rw [it];omega
 have HV:=zh (Hs L B w oo oo oo oo);rw [h] at HV;obtain ⟨m,hm⟩:∃m,B.toNat / L.toNat=m:=⟨_,rfl⟩;rw [hm] at hd a ⊢;have HD:=zh hd;clear hm h;go_enter Tryz.func51,Tryz.ntmps51;go_wp2_with fail;refine HV.mono ?_;rintro e w1 ⟨rfl,rfl⟩;go_wp2_with fail;go_ret;exact ⟨by go_num,rfl⟩

end
section
open Go.RowKit
theorem fH:Builder.Extra Tryz.prog PQ where
 sizeBuilder:=qk
 liesBuilder:=qk
 t5:=Tryz.underlying5
 a5:=Tryz.isAgg5
 z5:=Tryz.sizeOf5
 v5:=Tryz.zeroValue5
 infoByte:=qk
 cellsByte:=qk
 sizeByte:=qk
 neB5:=qd
theorem Pn (xs:List ByteArray):Lib.join (xs.map (·.data.toList)) []=(AP xs).data.toList:=by
 induction xs with
 | nil=>rfl
 | cons x xs ih=>
   show _=(x++AP xs).data.toList;rw [ByteArray.data_append,Array.toList_append,<-ih];cases xs with
   | nil=>simp [Lib.join]
   | cons y ys=>simp [Lib.join]
theorem YO (A:Option Addr) (c:Nat) (xs:List ByteArray) (w:World) (h:ListAt w w.heap.size 1 A (xs.map AI)) (hc:xs.length<=c) (hn:xs.length<=1000000) (hl:(AP xs).size<=1000000):
 Calls Tryz.prog 52 #[.slice A xs.length c,.string ⟨#[]⟩] w λe w'=>e=.returned (.string (AP xs))/\Grew w w':=by
 have he:(⟨(Lib.join (xs.map (·.data.toList)) (ByteArray.mk #[]).data.toList).toArray⟩:ByteArray)=AP xs:=by
  apply ByteArray.ext;show (Lib.join (xs.map (·.data.toList)) []).toArray=_;rw [Pn]
 by_cases h0:xs=[]
 . subst h0;refine (Any.strings_Join_none fB fH A c _ w).mono λe w' h=>?_;rw [h.1,h.2];exact ⟨rfl,iW _⟩
 . obtain ⟨b,a,rfl,hb,d⟩:=h (by rw [iY];exact length_pos_iff.2 h0);refine (Any.strings_Join fB fH b a c xs ⟨#[]⟩ w (λj x hj=>?_) hb oo hc ?_).mono λe w' h=>?_
   . have:=d j (AI x) (by rw [iZ,hj];rfl) 0 _ rfl;rw [Nat.mul_one,jo] at this;exact this
   . show (Lib.join (xs.map (·.data.toList)) []).length<=_;rw [Pn];simp only [jP];show (AP xs).size<=_;omega
   . rw [h.1,he];exact ⟨rfl,h.2⟩

end
section
attribute [local go_sem ↓] Go.wp_at_zero Go.wp_at_succ
open Go.RowKit
theorem Cx {w:World} {B:Nat} {A:Option Addr} {l:List ByteArray} (h:ListAt w B 1 A (l.map AI)) {k:Nat} (hk:k<l.length):
 ∃b off,A=some ⟨b,off,none⟩/\b<B/\w.cell? ⟨b,off+k,none⟩=some (.string l[k]):=U5 h hk
theorem gL {w:World} {B:Nat} {A:Option Addr} {l:List ByteArray} (h:ListAt w B 1 A (l.map AI)) (n:Nat):ListAt w B 1 (Option.map (λx=>x.add n) A) ((l.drop n).map AI):=by
 intro hl;rw [iY,length_drop] at hl;obtain ⟨b,a,rfl,_,_⟩:=h (by rw [iY];omega);rw [map_drop];refine (show ListAt w B 1 (some ((⟨b,a,none⟩:Addr).add n)) ((l.map AI).drop n) from ?_) (by rw [length_drop,iY];omega);rw [Es];exact h.drop n oo
theorem Gd {m:Nat} (hm:1<=m):∀(f g:Nat) (rs:List ByteArray),rs.length<=f->rs.length<=g->BU m f rs=BU m g rs
 | 0,g,rs,hf,_=>by
   have:rs=[]:=kI.1 oo;subst this;cases g with
   | zero=>rfl
   | succ g=>unfold BU;rw [if_pos rfl]
 | f+1,0,rs,_,hg=>by
   have:rs=[]:=kI.1 oo;subst this;unfold BU;rw [if_pos rfl]
 | f+1,g+1,rs,hf,hg=>by
   unfold BU;by_cases h:rs=[]
   . rw [if_pos h,if_pos h]
   . rw [if_neg h,if_neg h,Gd hm f g _ (by rw [length_drop];omega) (by rw [length_drop];omega)]
theorem PI (L B:Int) (A:Option Addr) (c:Nat) (rs:List ByteArray) (w:World) (l0:-9223372036854775808<=L) (l1:L<=9223372036854775807) (b0:-9223372036854775808<=B) (b1:B<=9223372036854775807) (hA:ListAt w w.heap.size 1 A (rs.map AI)) (hc:rs.length<=c) (y:c<=9223372036854775807) (hn:rs.length<=1000000) (o:∀r∈rs,r.size<=1000000):
 Calls Tryz.prog 21 #[.int .i64 L,.int .i64 B,.slice A rs.length c] w λe w'=>∃v,e=.returned (.tuple #[v,.int .i64 (Ds L B rs).2])/\OwnL w' w.heap.size 9 1 v ((Ds L B rs).1.map AI)/\Grew w w':=by
 have HV:=zh (Hs L B w l0 l1 b0 b1);have HA:=zh hA;have z:=zh o;clear hA o;cases d:JJ L B with
 | false=>
   rw [d] at HV;have HP:=zh (show Ds L B rs=([],1) from by unfold Ds;rw [if_pos d]);clear d;go_enter Tryz.func21,Tryz.ntmps21;go_wp2_with fail;refine HV.mono ?_;rintro e w1 ⟨rfl,rfl⟩;go_wp2_with fail;refine im (by first | (simp [*,results,Tryz.results21,go_sem];rfl) | simp [*,results,Tryz.results21,go_sem]) rfl ?_;exact ⟨_,by rw [HP.out],by rw [HP.out];exact OwnL.nil _ _ _ _,iW _⟩
 | true=>
   rw [d] at HV;have ho:=Dc d;obtain ⟨m,hm⟩:∃m,B.toNat / L.toNat=m:=⟨_,rfl⟩;have p:1<=m:=by rw [<-hm];exact (Nat.le_div_iff_mul_le oo).2 oo
   have Q:m<=1024:=by rw [<-hm];exact ij (Nat.div_le_self _ _) oo
   have R:m*L.toNat<=B.toNat:=by rw [<-hm];exact Nat.div_mul_le_self _ _
   have HM:=zh (λw=>Pc L B w d);rw [hm] at HM;have HK:=zh d;have C:=zh hm;clear d hm;go_enter Tryz.func21,Tryz.ntmps21;go_wp2_with fail;refine HV.mono ?_;rintro e w1 ⟨rfl,rfl⟩;go_wp2_with fail
   go_loopg [19] rs.length (λgk i wr=>∃k:Nat,k<=rs.length/\gk=rs.length - k/\i=.int .i64 k/\wr=w1/\∀r∈rs.take k,(r.size:Int)=L)
   case atStart=>exact ⟨0,oo,oo,rfl,rfl,λr hr=>by simp at hr⟩
   case round=>
    obtain ⟨k,hk,t,rfl,rfl,u⟩:=hrel;have D:=zh t;have s:=zh u;clear t u;by_cases f:k<rs.length
    . obtain ⟨b,ad,rfl,af,P⟩:=Cx HA f;have E:=z.out rs[k] (ib f);obtain ⟨r,hr⟩:∃r,rs[k]=r:=⟨_,rfl⟩;rw [hr] at P E;have HR:=zh hr;clear hr;by_cases he:(r.size:Int)=L
      . have hb:((r.size:Int) != L)=false:=by rw [he];simp
        have HE:=zh he;clear he;go_wp2_with fail
        go_roundg (rs.length - (k+1))
        case measure=>rw [D.out];omega
        case rel=>exact ⟨k+1,oo,rfl,by go_num,rfl,λx hx=>by
         rw [ic f,ip] at hx
         rcases hx with hx | hx
         . exact s.out x hx
         . rw [ia.1 hx,HR.out,HE.out]⟩
      . have hb:((r.size:Int) != L)=true:=by rw [jH];exact he
        have HP:=zh (show Ds L B rs=([],2) from by
         unfold Ds
         rw [if_neg (by rw [HK.out];simp),if_pos (j6.2 ⟨r,by rw [<-HR.out];exact ib f,iq he⟩)])
        clear he;go_wp2_with fail;refine im (by first | (simp [*,results,Tryz.results21,go_sem];rfl) | simp [*,results,Tryz.results21,go_sem]) rfl ?_;exact ⟨_,by rw [HP.out],by rw [HP.out];exact OwnL.nil _ _ _ _,iW _⟩
    . obtain rfl:k=rs.length:=oo;have HS:=zh (show ∀r∈rs,(r.size:Int)=L from by have:=s.out;rw [j1] at this;exact this)
      have HP:=zh (show Ds L B rs=(BU m rs.length rs,0) from by
       unfold Ds
       rw [if_neg (by rw [HK.out];simp),if_neg (by rw [jl,jT];intro r hr;have:=HS.out r hr;simp;omega),C.out])
      go_wp2_with fail;refine (HM _).mono ?_;rintro e w1 ⟨rfl,rfl⟩;go_wp2_with fail
      go_loopg [2,10] rs.length (λgk rv ov wr=>∃(done a:List ByteArray) (A':Option Addr) (c':Nat),rv=.slice A' a.length c'/\gk=a.length/\a.length<=rs.length/\a.length<=c'/\c'<=9223372036854775807/\done.length<=rs.length - a.length/\BU m rs.length rs=done++BU m a.length a/\(∀r∈a,(r.size:Int)=L)/\ListAt w1 w1.heap.size 1 A' (a.map AI)/\OwnL wr w1.heap.size 9 1 ov (done.map AI)/\Grew w1 wr)
      case atStart=>exact ⟨[],rs,A,c,rfl,rfl,iX _,hc,y,qs,rfl,HS,HA,OwnL.nil _ _ _ _,iW _⟩
      case round=>
       obtain ⟨done,a,A',c',rfl,rfl,h1,h2,h3,h4,h5,h6,h7,h8,h9⟩:=hrel;have HX:=zh (And.intro h5 (And.intro h6 (And.intro h7 (And.intro h8 h9))));have F:=h9.size;clear h5 h6 h7 h8 h9;by_cases l:a=[]
       . subst l;go_wp2_with fail;refine im (by first | (simp [*,results,Tryz.results21,go_sem];rfl) | simp [*,results,Tryz.results21,go_sem]) rfl ?_;obtain ⟨h5,h6,h7,h8,h9⟩:=HX.out;exact ⟨_,by rw [HP.out],by rw [HP.out,h5];simpa [BU] using h8,h9⟩
       . have S:0<a.length:=length_pos_iff.2 l;have T:(0:Int)<(a.length:Int):=oo;obtain ⟨k,hk⟩:∃k,min m a.length=k:=⟨_,rfl⟩;have U:1<=k:=oo;have V:k<=a.length:=oo;have G:k<=m:=oo;have W:min (m:Int) (a.length:Int)=(k:Int):=oo;have g:(a.take k).length=k:=by rw [je];omega
         have HJ:=zh (λw' (hg:Grew wr w')=>YO A' c' (a.take k) w' (by rw [map_take];exact (AG HX.2.2.1 (HX.2.2.2.2.trans hg)).take k) oo oo (by
          rw [Fp L.toNat _ (λr hr=>by have:=HX.out.2.1 r (jw hr);omega),g]
          have:=Nat.mul_le_mul_right L.toNat G
          omega))
         rw [g] at HJ;obtain ⟨bs,n⟩:∃bs,AP (a.take k)=bs:=⟨_,rfl⟩;rw [n] at HJ;have HB:=zh n;have zK9:=zh hk;clear n g hk;go_wp2_with fail;refine (HJ _ (gG)).mono ?_;rintro e w3 ⟨rfl,g3⟩;have H:=HX.2.2.2.1.grew g3;have I:w1.heap.size<=w3.heap.size:=ij F g3.size;have J:=zh (HX.2.2.2.2.trans g3);clear g3;go_wp2_with (at_builtin;refine AY rfl _ _ 24 rfl w1.heap.size 9 1 16 _ Tryz.underlying24 BQ rfl qd w3 _ (done.map AI) (AI bs) (by rfl) rfl rfl H (by first | rfl | (simp;done)) rfl rfl (by rw [iY];omega) (by rw [iY];omega) I ?_;intro v' w5 N O Y Z)
         all_goals
          have j:(a.drop k).length=a.length - k:=length_drop
          have K:BU m rs.length rs=(done++[bs])++BU m (a.drop k).length (a.drop k):=by
           rw [HX.out.1,jK];congr 1;obtain ⟨q,hq⟩:∃q,a.length=q+1:=⟨a.length - 1,oo⟩;rw [hq];show (if a=[] then [] else AP (a.take m)::BU m q (a.drop m))=[bs]++_;rw [if_neg l,show a.take m=a.take k from by rw [<-zK9.out,List.take_eq_take_iff];omega,HB.out];show bs::_=bs::_;congr 1;by_cases X:m<=a.length
           . rw [show k=m from by have:=zK9.out;omega];exact Gd p _ _ _ (by rw [length_drop];omega) (iX _)
           . rw [drop_of_length_le oo,drop_of_length_le (by have:=zK9.out;omega)];exact Gd p _ _ _ qs qs
          have M:∀r∈a.drop k,(r.size:Int)=L:=λr hr=>HX.2.1 r (mem_of_mem_drop hr)
          go_roundg (a.length - k)
          case measure=>omega
          case rel=>exact ⟨done++[bs],a.drop k,_,_,by rw [j],j.symm,oo,oo,oo,by rw [iy,j];simp only [ju];omega,K,M,by
           first
           | exact gL HX.2.2.1 k
           | (rw [drop_of_length_le oo];exact ListAt.none _),by rw [il];exact N,O _ J (iX _)⟩

def JP (f:Nat->ByteArray) (n i:Nat):List (List Value):=(List.range n).map λj:Nat=>[Value.string (if j<i then f j else ⟨#[]⟩)]
theorem Tq (f:Nat->ByteArray) (n:Nat):JP f n 0=List.replicate n [.string ⟨#[]⟩]:=by
 unfold JP;apply kR
 . simp
 . intro i h1 h2;simp
theorem Oz (f:Nat->ByteArray) (n i j:Nat) (h:j<n):(JP f n i)[j]? =some [Value.string (if j<i then f j else ⟨#[]⟩)]:=by
 unfold JP;rw [iZ,jk h];rfl
theorem TY (f:Nat->ByteArray) (n i:Nat) (h:i<n):(JP f n i).set i [Value.string (f i)]=JP f n (i+1):=by
 unfold JP;apply kR
 . simp
 . intro j h1 h2;rw [List.getElem_set];simp only [kQ,List.getElem_range];by_cases hj:i=j
   . subst hj;rw [if_pos rfl,if_pos oo]
   . rw [if_neg hj];by_cases h3:j<i
     . rw [if_pos h3,if_pos oo]
     . rw [if_neg h3,if_neg oo]
theorem UD (f:Nat->ByteArray) (n:Nat):JP f n n=((List.range n).map f).map AI:=by
 unfold JP AI;rw [jt];apply jO;intro j hj;rw [if_pos (jB.1 hj)];rfl
theorem Ly (L B:Int) (s:ByteArray) (w:World) (l0:-9223372036854775808<=L) (l1:L<=9223372036854775807) (b0:-9223372036854775808<=B) (b1:B<=9223372036854775807) (hs:s.size<=1000000):
 Calls Tryz.prog 20 #[.int .i64 L,.int .i64 B,.string s] w λe w'=>∃v,e=.returned (.tuple #[v,.int .i64 (BM L B s).2])/\OwnL w' w.heap.size 9 1 v ((BM L B s).1.map AI)/\Grew w w':=by
 have HV:=zh (Hs L B w l0 l1 b0 b1);cases a:JJ L B with
 | false=>
   rw [a] at HV;have HP:=zh (show BM L B s=([],1) from by unfold BM;rw [if_pos a]);clear a;go_enter Tryz.func20,Tryz.ntmps20;go_wp2_with fail;refine HV.mono ?_;rintro e w1 ⟨rfl,rfl⟩;go_wp2_with fail;refine im (by first | (simp [*,results,Tryz.results20,go_sem];rfl) | simp [*,results,Tryz.results20,go_sem]) rfl ?_;exact ⟨_,by rw [HP.out],by rw [HP.out];exact OwnL.nil _ _ _ _,iW _⟩
 | true=>
   rw [a] at HV;have ho:=Dc a;obtain ⟨l,rfl⟩:∃l:Nat,L=(l:Int):=⟨L.toNat,oo⟩;obtain ⟨m,hm⟩:∃m,B.toNat / l=m:=⟨_,rfl⟩;have F:m<=1024:=by rw [<-hm];exact ij (Nat.div_le_self _ _) oo
   have G:((l:Int)==0)=false:=by rw [it];omega
   obtain ⟨n,hn⟩:∃n,s.size / l=n:=⟨_,rfl⟩;obtain ⟨r,hr⟩:∃r,s.size % l=r:=⟨_,rfl⟩;have H:n<=s.size:=by rw [<-hn];exact Nat.div_le_self _ _
   have I:r<l:=by rw [<-hr];exact kT _ oo
   have f:s.size=l*n+r:=by rw [<-hn,<-hr];exact (Nat.div_add_mod _ _).symm
   have hq:(s.size:Int) / (l:Int)=(n:Int):=by rw [<-hn];rfl
   have J:(s.size:Int) % (l:Int)=(r:Int):=by rw [<-hr];rfl
   have x:=zh f;clear f;have HM:=zh (λw=>Pc (l:Int) B w a);rw [i9,hm] at HM
   have HU:=zh (show BM (l:Int) B s=if n<1\/m<n\/r≠0 then ([],11) else (Eo l s n,0) from by
    unfold BM
    rw [if_neg (by rw [a];simp),i9,hm,hn,hr])
   have y:(Instr.makeSlice 24 (.int .i64 (n:Int)) (.int .i64 (n:Int))).run Tryz.prog w=.ok (.slice (some ⟨w.heap.size,0,none⟩) n n) (w.alloc (.cells (Array.replicate n (.string ⟨#[]⟩)) 9)):=ET w n Tryz.underlying24 BQ rfl oo oo;have HO:=zh (OwnL.made w w.heap.size 9 n (.string ⟨#[]⟩) (iX _) oo rfl);rw [<-Tq (λi=>s.extract (i*l) ((i+1)*l))] at HO;have HG:=zh ((iW w).alloc (.cells (Array.replicate n (.string ⟨#[]⟩)) 9));have K:1<=l/\l<=1000:=oo;clear a hm hn hr ho;by_cases h1:n<1
   . have HE:=zh (show BM (l:Int) B s=([],11) from by rw [HU.out,if_pos (.inl h1)]);have g:(n:Int)<1:=oo;go_enter Tryz.func20,Tryz.ntmps20;go_wp2_with fail;refine HV.mono ?_;rintro e w1 ⟨rfl,rfl⟩;go_wp2_with fail;refine im (by first | (simp [*,results,Tryz.results20,go_sem];rfl) | simp [*,results,Tryz.results20,go_sem]) rfl ?_;exact ⟨_,by rw [HE.out],by rw [HE.out];exact OwnL.nil _ _ _ _,iW _⟩
   . by_cases h2:m<n
     . have HE:=zh (show BM (l:Int) B s=([],11) from by rw [HU.out,if_pos (.inr (.inl h2))]);have g:¬(n:Int)<1:=oo;have z:(m:Int)<(n:Int):=oo;go_enter Tryz.func20,Tryz.ntmps20;go_wp2_with fail;refine HV.mono ?_;rintro e w1 ⟨rfl,rfl⟩;go_wp2_with fail;refine (HM _).mono ?_;rintro e w1 ⟨rfl,rfl⟩;go_wp2_with fail;refine im (by first | (simp [*,results,Tryz.results20,go_sem];rfl) | simp [*,results,Tryz.results20,go_sem]) rfl ?_;exact ⟨_,by rw [HE.out],by rw [HE.out];exact OwnL.nil _ _ _ _,iW _⟩
     . have g:¬(n:Int)<1:=oo;have z:¬(m:Int)<(n:Int):=oo;by_cases h3:r=0
       . have HE:=zh (show BM (l:Int) B s=(Eo l s n,0) from by rw [HU.out,if_neg oo]);subst h3;have A:=zh (show s.size=l*n by rw [x.out];omega);go_enter Tryz.func20,Tryz.ntmps20;go_wp2_with fail;refine HV.mono ?_;rintro e w1 ⟨rfl,rfl⟩;go_wp2_with fail;refine (HM _).mono ?_;rintro e w1 ⟨rfl,rfl⟩;go_wp2_with fail;clear y
         go_loopg [38] n (λgk i wr=>∃j:Nat,j<=n/\gk=n - j/\i=.int .i64 (j:Int)/\OwnL wr w1.heap.size 9 1 (.slice (some ⟨w1.heap.size,0,none⟩) n n) (JP (λi=>s.extract (i*l) ((i+1)*l)) n j)/\Grew w1 wr)
         case atStart=>exact ⟨0,oo,oo,rfl,HO,HG⟩
         case round=>
          obtain ⟨j,hj,u,rfl,b,hg⟩:=hrel;have C:=zh u;have D:=zh b;have E:=zh hg;clear u;by_cases d:j<n
          . have x0:=b.cell (j:=j) (i:=0) (Oz _ n j j d) rfl;simp only [Nat.mul_one,jo] at x0;have xf:=b.frozen j;have xl:=(b.own_ge rfl).2;have h:=zh (b.set_ (o:=j) (Oz _ n j j d) (by omega:0<1) oo (.string (s.extract (j*l) ((j+1)*l))));have k:=zh (hg.setCell (p:=⟨w1.heap.size,j,none⟩) (iX _) (.string (s.extract (j*l) ((j+1)*l))));obtain ⟨p,hp⟩:∃p:Nat,j*l=p:=⟨_,rfl⟩;obtain ⟨q,c⟩:∃q:Nat,(j+1)*l=q:=⟨_,rfl⟩;have t:q=p+l:=by rw [<-hp,<-c,Nat.succ_mul]
            have M:q<=s.size:=by rw [<-c,A.out,Nat.mul_comm];exact Nat.mul_le_mul_left _ d
            have N:(j:Int)*(l:Int)=(p:Int):=by rw [<-hp];exact (Int.natCast_mul _ _).symm
            have O:((j:Int)+1)*(l:Int)=(q:Int):=by rw [<-c];exact (Int.natCast_mul _ _).symm
            have HF:=zh (show s.extract (j*l) ((j+1)*l)=s.extract p (p+l) from by rw [hp,c,t]);rw [hp,c,t] at h k;clear b hg hp c;go_wp2_with fail
            go_roundg (n - (j+1))
            case measure=>rw [C.out];omega
            case rel=>exact ⟨j+1,oo,rfl,by go_num,by rw [<-TY _ n j d,HF.out];exact h.out,k⟩
          . obtain rfl:j=n:=oo;clear b hg;go_wp2_with fail;refine im (by first | (simp [*,results,Tryz.results20,go_sem];rfl) | simp [*,results,Tryz.results20,go_sem]) rfl ?_;exact ⟨_,by rw [HE.out],by rw [HE.out];have:=D.out;rw [UD] at this;exact this,E⟩
       . have HE:=zh (show BM (l:Int) B s=([],11) from by rw [HU.out,if_pos (.inr (.inr h3))]);have P:((r:Int) != 0)=true:=by rw [jH];omega
         go_enter Tryz.func20,Tryz.ntmps20;go_wp2_with fail;refine HV.mono ?_;rintro e w1 ⟨rfl,rfl⟩;go_wp2_with fail;refine (HM _).mono ?_;rintro e w1 ⟨rfl,rfl⟩;go_wp2_with fail;refine im (by first | (simp [*,results,Tryz.results20,go_sem];rfl) | simp [*,results,Tryz.results20,go_sem]) rfl ?_;exact ⟨_,by rw [HE.out],by rw [HE.out];exact OwnL.nil _ _ _ _,iW _⟩

theorem Ye (w:World) (n:Nat) (hn:n<=65535):(convert 74 9 (.slice (some ⟨w.heap.size,0,none⟩) 4 4)).run Tryz.prog (w.alloc (.cells #[.int .u8 ((n:Int) / 256),.int .u8 ((n:Int) % 256),.int .u8 0,.int .u8 0] 5))=.ok (.string (D5 n)) (w.alloc (.cells #[.int .u8 ((n:Int) / 256),.int .u8 ((n:Int) % 256),.int .u8 0,.int .u8 0] 5)):=by
 refine I1 _ _ 4 4 (D5 n) (Bb n) (λj hj=>?_);have hb:=ik w 5 #[.int .u8 ((n:Int) / 256),.int .u8 ((n:Int) % 256),.int .u8 0,.int .u8 0] rfl;rw [hb.cell j];rw [Bb] at hj;have h8:=Ba (n / 256);have h9:=Ba n;rcases (show j=0\/j=1\/j=2\/j=3 by omega) with rfl | rfl | rfl | rfl
 . show some (Value.int .u8 _)=some (Value.int .u8 ((b8 (n / 256)).toNat:Int));rw [h8];congr 2;omega
 . show some (Value.int .u8 _)=some (Value.int .u8 ((b8 n).toNat:Int));rw [h9];congr 2
 . rfl
 . rfl
theorem K8 (n:Nat) (w:World) (h:n<=65535):Calls Tryz.prog 99 #[.int .i64 n] w λe w'=>e=.returned (.string (D5 n))/\Grew w w':=by
 have a:=Ye w n h;have hn:¬(n:Int)<0:=oo;have b:¬(65535:Int)<(n:Int):=oo;go_enter Tryz.func99,Tryz.ntmps99;go_wp2_with fail;go_ret;exact ⟨rfl,gG⟩
theorem E4 {s:ByteArray} {k:Nat} (h:k<s.size):at8 s k=(s[k]'h).toNat:=by
 unfold at8;rw [Array.getD_eq_getD_getElem?,jR (show k<s.data.size from h)];rfl
theorem iI (a b:Nat) (ha:a<256) (hb:b<256):bits .or .i64 ((a:Int)*256) (b:Int)=((256*a+b:Nat):Int):=by
 have h1:(b ||| a*2 ^ 8:Nat)=b+a*2 ^ 8:=Nj b a 8 hb;show IntKind.i64.wrap ((BitVec.ofInt 64 ((a:Int)*256) ||| BitVec.ofInt 64 (b:Int)).toNat:Int)=_;rw [show ((a:Int)*256)=((a*256:Nat):Int) from oo,BitVec.ofInt_natCast,BitVec.ofInt_natCast,BitVec.toNat_or,ji,ji,jZ oo,jZ oo,Nat.or_comm,show a*256=a*2 ^ 8 from rfl,h1,IntKind.wrap_i64];omega
theorem Gb (s:ByteArray) (w:World) (hs:s.size<=1000000):Calls Tryz.prog 54 #[.string s] w λe w'=>e=.returned (.tuple #[.int .i64 ((rdW s).1:Int),.bool (rdW s).2])/\Grew w w':=by
 have HU:=zh (show rdW s=if s.size≠4\/at8 s 2≠0\/at8 s 3≠0 then (0,false) else (256*at8 s 0+at8 s 1,true) from rfl);by_cases h4:s.size=4
 . have h0:0<s.size:=oo;have h1:1<s.size:=oo;have h2:2<s.size:=oo;have h3:3<s.size:=oo;have i:((s.size:Int) != 4)=false:=by rw [h4];rfl
   obtain ⟨c0,d⟩:∃c,s[0]'h0=c:=⟨_,rfl⟩;obtain ⟨c1,f⟩:∃c,s[1]'h1=c:=⟨_,rfl⟩;obtain ⟨c2,g⟩:∃c,s[2]'h2=c:=⟨_,rfl⟩;obtain ⟨c3,h⟩:∃c,s[3]'h3=c:=⟨_,rfl⟩;have a0:=E4 h0;have a1:=E4 h1;have a2:=E4 h2;have a3:=E4 h3;rw [d] at a0;rw [f] at a1;rw [g] at a2;rw [h] at a3;rw [a0,a1,a2,a3] at HU;have b0:=c0.toNat_lt;have b1:=c1.toNat_lt;clear a0 a1 a2 a3;by_cases z2:c2.toNat=0
   . by_cases z3:c3.toNat=0
     . have HE:=zh (show rdW s=(256*c0.toNat+c1.toNat,true) from by rw [HU.out,if_neg (by simp [h4,z2,z3])]);have a:((c2.toNat:Int) != 0)=false:=by rw [z2];rfl
       have b:((c3.toNat:Int) != 0)=false:=by rw [z3];rfl
       have j:=iI c0.toNat c1.toNat b0 b1;have HS:=zh h4;clear h4 z2 z3;go_enter Tryz.func54,Tryz.ntmps54;go_wp2_with fail
       go_quiet (fail)
       go_wp2_with fail;refine im (by first | (simp [*,results,Tryz.results54,go_sem];rfl) | simp [*,results,Tryz.results54,go_sem]) rfl ?_;exact ⟨by rw [HE.out];rfl,gG⟩
     . have HE:=zh (show rdW s=(0,false) from by rw [HU.out,if_pos (.inr (.inr z3))]);have a:((c2.toNat:Int) != 0)=false:=by rw [z2];rfl
       have b:((c3.toNat:Int) != 0)=true:=by rw [jH];omega
       clear z2 z3;go_enter Tryz.func54,Tryz.ntmps54;go_wp2_with fail;refine im (by first | (simp [*,results,Tryz.results54,go_sem];rfl) | simp [*,results,Tryz.results54,go_sem]) rfl ?_;exact ⟨by rw [HE.out];rfl,iW _⟩
   . have HE:=zh (show rdW s=(0,false) from by rw [HU.out,if_pos (.inr (.inl z2))]);have a:((c2.toNat:Int) != 0)=true:=by rw [jH];omega
     clear z2;go_enter Tryz.func54,Tryz.ntmps54;go_wp2_with fail;refine im (by first | (simp [*,results,Tryz.results54,go_sem];rfl) | simp [*,results,Tryz.results54,go_sem]) rfl ?_;exact ⟨by rw [HE.out];rfl,iW _⟩
 . have HE:=zh (show rdW s=(0,false) from by rw [HU.out,if_pos (.inl h4)]);have hb:((s.size:Int) != 4)=true:=by rw [jH];omega
   go_enter Tryz.func54,Tryz.ntmps54;go_wp2_with fail;refine im (by first | (simp [*,results,Tryz.results54,go_sem];rfl) | simp [*,results,Tryz.results54,go_sem]) rfl ?_;exact ⟨by rw [HE.out];rfl,iW _⟩

theorem Hc (s:ByteArray):(⟨#[]⟩:ByteArray)++s=s:=kO
theorem Cp {s:ByteArray} (h:s.size≠0):s.toList.isEmpty=false:=by
 rw [ByteArray.toList_eq,List.isEmpty_eq_false_iff];intro hh;have:=ix length hh;rw [jP] at this;exact h this
theorem DX {s:ByteArray} (h:s.size=0):s=⟨#[]⟩:=ByteArray.size_eq_zero_iff.1 h
theorem XW (s:ByteArray) (w:World) (h:s.size<=60000):Calls Tryz.prog 57 #[.string s] w λe w'=>e=.returned (.string (CH s))/\Grew w w':=by
 have HW:=zh (K8 (4+s.size) w oo);have HE:=zh (show CH s=D5 (4+s.size)++s from rfl);have hc:(4:Int)+(s.size:Int)=((4+s.size:Nat):Int):=oo;obtain ⟨n,hn⟩:∃n,4+s.size=n:=⟨_,rfl⟩;rw [hn] at hc HW HE;have a:n<=60004:=oo;have hz:(D5 n).size=4:=rfl;obtain ⟨v,hv⟩:∃v,D5 n=v:=⟨_,rfl⟩;rw [hv] at HW HE hz;clear hn hv;go_enter Tryz.func57,Tryz.ntmps57;go_wp2_with fail;refine HW.mono ?_;rintro e w1 ⟨rfl,g1⟩;go_wp2_with fail;go_ret;exact ⟨DL (by rw [HE.out]),g1⟩
theorem M2 (s:ByteArray) (w:World) (h:s.size<=60000):Calls Tryz.prog 58 #[.string s] w λe w'=>e=.returned (.string (Aa s))/\Grew w w':=by
 have HW:=zh (K8 (4+s.size) w oo);have HE:=zh (show Aa s=D5 (4+s.size)++s from rfl);have hc:(4:Int)+(s.size:Int)=((4+s.size:Nat):Int):=oo;obtain ⟨n,hn⟩:∃n,4+s.size=n:=⟨_,rfl⟩;rw [hn] at hc HW HE;have a:n<=60004:=oo;have hz:(D5 n).size=4:=rfl;obtain ⟨v,hv⟩:∃v,D5 n=v:=⟨_,rfl⟩;rw [hv] at HW HE hz;clear hn hv;go_enter Tryz.func58,Tryz.ntmps58;go_wp2_with fail;refine HW.mono ?_;rintro e w1 ⟨rfl,g1⟩;go_wp2_with fail;go_ret;exact ⟨DL (by rw [HE.out]),g1⟩
theorem Jd (s:ByteArray) (w:World) (h:s.size<=60000):Calls Tryz.prog 102 #[.string s] w λe w'=>e=.returned (.string (Aa s))/\Grew w w':=by
 have HW:=zh (K8 (4+s.size) w oo);have HE:=zh (show Aa s=D5 (4+s.size)++s from rfl);have hc:(4:Int)+(s.size:Int)=((4+s.size:Nat):Int):=oo;obtain ⟨n,hn⟩:∃n,4+s.size=n:=⟨_,rfl⟩;rw [hn] at hc HW HE;have a:n<=60004:=oo;have hz:(D5 n).size=4:=rfl;obtain ⟨v,hv⟩:∃v,D5 n=v:=⟨_,rfl⟩;rw [hv] at HW HE hz;clear hn hv;go_enter Tryz.func102,Tryz.ntmps102;go_wp2_with fail;refine HW.mono ?_;rintro e w1 ⟨rfl,g1⟩;go_wp2_with fail;go_ret;exact ⟨DL (by rw [HE.out]),g1⟩
theorem LA (L B:Int) (A:Option Addr) (c:Nat) (rs:List ByteArray) (w:World) (l0:-9223372036854775808<=L) (l1:L<=9223372036854775807) (b0:-9223372036854775808<=B) (b1:B<=9223372036854775807) (hA:ListAt w w.heap.size 1 A (rs.map AI)) (hc:rs.length<=c) (R:c<=9223372036854775807) (hn:rs.length<=1000000) (z:∀r∈rs,r.size<=1000000):
 Calls Tryz.prog 23 #[.int .i64 L,.int .i64 B,.slice A rs.length c] w λe w'=>∃v,e=.returned (.tuple #[v,.int .i64 (FT L B rs).2])/\OwnL w' w.heap.size 9 1 v ((FT L B rs).1.map AI)/\Grew w w':=by
 have HV:=zh (Jk L B w l0 l1 b0 b1);have HA:=zh hA;have G:=zh z;clear hA z;cases g:vOk L B with
 | false=>
   rw [g] at HV;have HP:=zh (show FT L B rs=([],1) from by unfold FT;rw [if_pos g]);clear g;go_enter Tryz.func23,Tryz.ntmps23;go_wp2_with fail;refine HV.mono ?_;rintro e w1 ⟨rfl,rfl⟩;go_wp2_with fail;refine im (by first | (simp [*,results,Tryz.results23,go_sem];rfl) | simp [*,results,Tryz.results23,go_sem]) rfl ?_;exact ⟨_,by rw [HP.out],by rw [HP.out];exact OwnL.nil _ _ _ _,iW _⟩
 | true=>
   rw [g] at HV;have ho:=Gh g;have HK:=zh g;obtain ⟨Bn,rfl⟩:∃Bn:Nat,B=(Bn:Int):=⟨B.toNat,oo⟩;clear g;go_enter Tryz.func23,Tryz.ntmps23;go_wp2_with fail;refine HV.mono ?_;rintro e w1 ⟨rfl,rfl⟩;go_wp2_with fail
   go_loopg [21] rs.length (λgk i wr=>∃k:Nat,k<=rs.length/\gk=rs.length - k/\i=.int .i64 k/\wr=w1/\∀r∈rs.take k,(r.size:Int)<=L)
   case atStart=>exact ⟨0,oo,oo,rfl,rfl,λr hr=>by simp at hr⟩
   case round=>
    obtain ⟨k,hk,j,rfl,rfl,F⟩:=hrel;have h:=zh j;have C:=zh F;clear j F;by_cases d:k<rs.length
    . obtain ⟨b,P,rfl,Q,y⟩:=Cx HA d;have m:=G.out rs[k] (ib d);obtain ⟨r,hr⟩:∃r,rs[k]=r:=⟨_,rfl⟩;rw [hr] at y m;have HR:=zh hr;clear hr;by_cases he:(r.size:Int)<=L
      . have hb:¬L<(r.size:Int):=oo;have HE:=zh he;clear he;go_wp2_with fail
        go_roundg (rs.length - (k+1))
        case measure=>rw [h.out];omega
        case rel=>exact ⟨k+1,oo,rfl,by go_num,rfl,λx hx=>by
         rw [ic d,ip] at hx
         rcases hx with hx | hx
         . exact C.out x hx
         . rw [ia.1 hx,HR.out];exact HE.out⟩
      . have hb:L<(r.size:Int):=oo
        have HP:=zh (show FT L (Bn:Int) rs=([],2) from by
         unfold FT
         rw [if_neg (by rw [HK.out];simp),if_pos (j6.2 ⟨r,by rw [<-HR.out];exact ib d,iq hb⟩)])
        clear he;go_wp2_with fail;refine im (by first | (simp [*,results,Tryz.results23,go_sem];rfl) | simp [*,results,Tryz.results23,go_sem]) rfl ?_;exact ⟨_,by rw [HP.out],by rw [HP.out];exact OwnL.nil _ _ _ _,iW _⟩
    . obtain rfl:k=rs.length:=oo;have HS:=zh (show ∀r∈rs,(r.size:Int)<=L from by have:=C.out;rw [j1] at this;exact this)
      have HP:=zh (show FT L (Bn:Int) rs=(vGo Bn nilB rs,0) from by
       unfold FT
       rw [if_neg (by rw [HK.out];simp),if_neg (by rw [jl,jT];intro r hr;have:=HS.out r hr;simp;omega),i9])
      go_wp2_with fail
      go_loopg [10,11,32] rs.length (λgk ov fv iv wv=>∃(k:Nat) (done:List ByteArray) (a:ByteArray),k<=rs.length/\gk=rs.length - k/\iv=.int .i64 k/\fv=.string a/\done.length<=k/\4+a.size<=Bn/\vGo Bn nilB rs=done++vGo Bn a (rs.drop k)/\OwnL wv wr.heap.size 9 1 ov (done.map AI)/\Grew wr wv)
      case atStart=>exact ⟨0,[],⟨#[]⟩,oo,oo,rfl,rfl,qs,by show 4+0<=Bn;omega,by rw [drop_zero];rfl,OwnL.nil _ _ _ _,iW _⟩
      case round=>
       obtain ⟨k,done,a,hk,j,rfl,rfl,h1,h2,h3,h4,h5⟩:=hrel;have HX:=zh (And.intro h3 (And.intro h4 h5));have h:=zh j;have D:=h5.size;clear j h3 h4 h5;by_cases d:k<rs.length
       . have S:(k:Int)<(rs.length:Int):=oo;obtain ⟨b,P,rfl,Q,y⟩:=Cx (AG HA HX.2.2) d;have m:=HS.out rs[k] (ib d);have HD:=zh (show rs.drop k=rs[k]::rs.drop (k+1) from jz d);obtain ⟨r,hr⟩:∃r,rs[k]=r:=⟨_,rfl⟩;rw [hr] at y m HD;have H:=DE r;have HF:=zh (λw=>XW r w oo);obtain ⟨f,hf⟩:∃f,CH r=f:=⟨_,rfl⟩;have I:=zh hf;rw [hf] at HF H;have n:=zh (show vGo Bn nilB rs=done++(if a.size≠0/\Bn<4+a.size+f.size then Aa a::vGo Bn f (rs.drop (k+1)) else vGo Bn (a++f) (rs.drop (k+1))) from by rw [HX.out.1,HD.out];show done++(if a.size≠0/\Bn<4+a.size+(CH r).size then Aa a::vGo Bn (CH r) (rs.drop (k+1)) else vGo Bn (a++CH r) (rs.drop (k+1)))=_;rw [I.out]);clear hr hf;go_wp2_with fail;refine (HF _).mono ?_;rintro e w3 ⟨rfl,g3⟩;have o:=zh (HX.2.2.trans g3);have l:=HX.2.1.grew g3;have J:=ij D g3.size;clear g3;by_cases h0:a.size=0
         . obtain rfl:=DX h0;go_wp2_with fail
           go_roundg (rs.length - (k+1))
           case measure=>rw [h.out];omega
           case rel=>exact ⟨k+1,done,f,oo,rfl,by go_num,by rw [Hc],oo,oo,by have:=n.out;rw [if_neg (by simp [h0]),Hc] at this;exact this,l,o⟩
         . have K:=Cp h0;by_cases E:Bn<4+a.size+f.size
           . have M:(Bn:Int)<4+(a.size:Int)+(f.size:Int):=oo;have HW:=zh (λw=>M2 a w oo);go_wp2_with fail;refine (HW _).mono ?_;rintro e w4 ⟨rfl,g4⟩;have p:=l.grew g4;have q:=ij J g4.size;have s:=zh (o.out.trans g4);clear l g4;go_wp2_with (at_builtin;refine AY rfl _ _ 24 rfl _ 9 1 16 _ Tryz.underlying24 BQ rfl qd w4 _ (done.map AI) (AI (Aa a)) (by rfl) rfl rfl p (by first | rfl | (simp;done)) rfl rfl (by rw [iY];omega) (by rw [iY];omega) q ?_;intro v' w5 t u N O)
             go_roundg (rs.length - (k+1))
             case measure=>rw [h.out];omega
             case rel=>exact ⟨k+1,done++[Aa a],f,oo,rfl,by go_num,by rw [Hc],by rw [iy,ju];omega,oo,by have:=n.out;rw [if_pos ⟨h0,E⟩] at this;rw [this,jK];rfl,by rw [il];exact t,u _ s (iX _)⟩
           . have M:¬(Bn:Int)<4+(a.size:Int)+(f.size:Int):=oo;go_wp2_with fail
             go_roundg (rs.length - (k+1))
             case measure=>rw [h.out];omega
             case rel=>exact ⟨k+1,done,a++f,oo,rfl,by go_num,rfl,oo,by rw [io];omega,by have:=n.out;rw [if_neg (λh9=>E h9.2)] at this;exact this,l,o⟩
       . obtain rfl:k=rs.length:=oo;have HE:=zh (show vGo Bn nilB rs=done++(if a.size=0 then [] else [Aa a]) from by rw [HX.out.1,List.drop_length];rfl);by_cases h0:a.size=0
         . obtain rfl:=DX h0;go_wp2_with fail;refine im (by first | (simp [*,results,Tryz.results23,go_sem];rfl) | simp [*,results,Tryz.results23,go_sem]) rfl ?_;exact ⟨_,by rw [HP.out],by rw [HP.out];simp only;rw [HE.out,if_pos h0,append_nil];exact HX.2.1,HX.2.2⟩
         . have K:=Cp h0;have HW:=zh (λw=>M2 a w oo);go_wp2_with fail;refine (HW _).mono ?_;rintro e w4 ⟨rfl,g4⟩;have p:=HX.2.1.grew g4;have q:=ij D g4.size;have s:=zh (HX.2.2.trans g4);clear g4;go_wp2_with (at_builtin;refine AY rfl _ _ 24 rfl _ 9 1 16 _ Tryz.underlying24 BQ rfl qd w4 _ (done.map AI) (AI (Aa a)) (by rfl) rfl rfl p (by first | rfl | (simp;done)) rfl rfl (by rw [iY];omega) (by rw [iY];omega) q ?_;intro v' w5 t u N O);refine im (by first | (simp [*,results,Tryz.results23,go_sem];rfl) | simp [*,results,Tryz.results23,go_sem]) rfl ?_;exact ⟨_,by rw [HP.out],by rw [HP.out];simp only;rw [HE.out,if_neg h0,il];exact t,u _ s (iX _)⟩

theorem Tn (s:ByteArray):(rdW s).1<=65535:=by
 unfold rdW;have h0:=FP s 0;have h1:=FP s 1;split
 . exact jL _
 . show 256*at8 s 0+at8 s 1<=_;omega
theorem T4 (L:Int) (s:ByteArray) (w:World) (hL:1<=L/\L<=1000) (hs:s.size<=1000000):
 Calls Tryz.prog 56 #[.int .i64 L,.string s] w λe w'=>e=.returned (.tuple #[.string (Ao L s).1,.string (Ao L s).2.1,.bool (Ao L s).2.2])/\Grew w w':=by
 by_cases h4:s.size<4
 . have HE:=zh (show Ao L s=(nilB,nilB,false) from by unfold Ao;rw [if_pos h4]);have b:(s.size:Int)<4:=oo;go_enter Tryz.func56,Tryz.ntmps56;go_wp2_with fail;refine im (by first | (simp [*,results,Tryz.results56,go_sem];rfl) | simp [*,results,Tryz.results56,go_sem]) rfl ?_;exact ⟨by rw [HE.out];rfl,iW _⟩
 . have b:¬(s.size:Int)<4:=oo;have hz:(s.extract 0 4).size=4:=by rw [i0];omega
   have HR:=zh (Gb (s.extract 0 4) w oo);have a:=Tn (s.extract 0 4);have HU:=zh (show Ao L s=if (rdW (s.extract 0 4)).2=false\/(rdW (s.extract 0 4)).1<4\/s.size<(rdW (s.extract 0 4)).1\/L<((rdW (s.extract 0 4)).1:Int) - 4 then (nilB,nilB,false) else (s.extract 4 (rdW (s.extract 0 4)).1,s.extract (rdW (s.extract 0 4)).1 s.size,true) from by unfold Ao;rw [if_neg h4]);obtain ⟨⟨n,ok⟩,hn⟩:∃r,rdW (s.extract 0 4)=r:=⟨_,rfl⟩;rw [hn] at HR a HU;simp only at a;clear hn hz h4;by_cases hc:ok=false\/n<4\/s.size<n\/L<(n:Int) - 4
   . have HE:=zh (show Ao L s=(nilB,nilB,false) from by rw [HU.out];exact if_pos hc);clear HU;rcases (show ok=false\/(ok=true/\n<4)\/(ok=true/\¬n<4/\s.size<n)\/(ok=true/\¬n<4/\¬s.size<n/\L<(n:Int) - 4) from by cases ok<;>simp_all<;>omega) with rfl | ⟨rfl,h1⟩ | ⟨rfl,h1,h2⟩ | ⟨rfl,h1,h2,h3⟩
     all_goals
      clear hc;go_enter Tryz.func56,Tryz.ntmps56;go_wp2_with fail;refine HR.mono ?_;rintro e w1 ⟨rfl,g1⟩;go_wp2_with fail;refine im (by first | (simp [*,results,Tryz.results56,go_sem];rfl) | simp [*,results,Tryz.results56,go_sem]) rfl ?_;exact ⟨by rw [HE.out];rfl,g1⟩
   . have HE:=zh (show Ao L s=(s.extract 4 n,s.extract n s.size,true) from by rw [HU.out];exact if_neg hc);clear HU;rw [not_or,not_or,not_or] at hc;obtain ⟨c1,c2,c3,c4⟩:=hc;have c1:ok=true:=by simpa using c1
     subst c1;go_enter Tryz.func56,Tryz.ntmps56;go_wp2_with fail;refine HR.mono ?_;rintro e w1 ⟨rfl,g1⟩;go_wp2_with fail
     go_quiet (fail)
     go_wp2_with fail;refine im (by first | (simp [*,results,Tryz.results56,go_sem];rfl) | simp [*,results,Tryz.results56,go_sem]) rfl ?_;exact ⟨by rw [HE.out],gG⟩
theorem Xe (L:Int) (s:ByteArray) (w:World) (gl gb base:Nat) (v:Value) (done:List ByteArray) (hL:1<=L/\L<=1000) (hs:s.size<=1000000) (d:Blk w gl 3 #[.int .i64 L]) (c:Blk w gb 24 #[v]) (m:OwnL w base 9 1 v (done.map AI)) (hd:done.length<=1000000) (hb:base<=gb):
 Calls Tryz.prog 55 #[.string s,.pointer (some ⟨gl,0,none⟩),.pointer (some ⟨gb,0,none⟩)] w λe w'=>e=.returned (.tuple #[.string (Ao L s).2.1,.bool (Ao L s).2.2])/\∃v',Blk w' gl 3 #[.int .i64 L]/\Blk w' gb 24 #[v']/\OwnL w' base 9 1 v' ((done++[(Ao L s).1]).map AI)/\∀b,Grew b w->b.heap.size<=base->Grew b w':=by
 have HF:=zh (T4 L s w hL hs);obtain ⟨⟨r,t,ok⟩,hr⟩:∃r,Ao L s=r:=⟨_,rfl⟩;rw [hr] at HF ⊢;have x0:=d.cell 0;have xl:=d.lt;have y0:=c.cell 0;have yl:=c.lt;have z:gl≠gb:=d.ne_ c qd;have HB:=zh (And.intro d (And.intro c m));clear hr d c m;go_enter Tryz.func55,Tryz.ntmps55;go_wp2_with fail;refine HF.mono ?_;rintro e w1 ⟨rfl,g1⟩;have A:=zh g1;have h:=HB.1.grew g1;have a:=HB.2.1.grew g1;have i:=HB.2.2.grew g1;have z0:=a.cell 0;have zf:=a.frozen 0;have zl:=a.lt;have n:=i.ne_blk a qd;have o:=i.ne_blk h qd;have B:base<=w1.heap.size:=oo;have g:=zh (And.intro h (And.intro a (And.intro n o)));clear x0 y0 g1 h a n o HB;go_wp2_with (at_builtin;refine AY rfl _ _ 24 rfl base 9 1 16 _ Tryz.underlying24 BQ rfl qd w1 _ (done.map AI) (AI r) (by rfl) rfl rfl i (by first | rfl | (simp;done)) rfl rfl (by rw [iY];omega) (by rw [iY];omega) B ?_;intro v' w5 k x l D;rcases k.form with ⟨_,h9⟩ | ⟨g5,c5,y,_⟩;(exact absurd h9 qs);rw [show (List.map AI done++[AI r]).length=done.length+1 from qs] at y;subst y;have q:=zh k;have f:=l _ _ _ g.2.1 g.2.2.1;have u:=l _ _ _ g.1 g.2.2.2;have j:=zh (And.intro u f);have q0:=f.cell 0;have qf:=f.frozen 0;have ql:=f.lt;have C:=zh x;clear k f u l x);refine im (by first | (simp [*,results,Tryz.results55,go_sem];rfl) | simp [*,results,Tryz.results55,go_sem]) rfl ?_;exact ⟨rfl,_,j.1.far z _,j.2.set_ 0 _,by rw [il];exact q.far (p:=⟨gb,0,none⟩) (q.ne_blk j.2 qd) _,λb h1 h2=>(C b (h1.trans A) h2).setCell (by show b.heap.size<=gb;omega) _⟩

theorem TF {L:Int} {f:Nat} {s:ByteArray} (h:s.size≠0):BX L (f+1) s=if (Ao L s).2.2=false then ([],false) else ((Ao L s).1::(BX L f (Ao L s).2.1).1,(BX L f (Ao L s).2.1).2):=by
 show (if s.size=0 then ([],true) else if (Ao L s).2.2=false then ([],false) else ((Ao L s).1::(BX L f (Ao L s).2.1).1,(BX L f (Ao L s).2.1).2))=_;rw [if_neg h]
theorem UQ {L:Int} {f:Nat} {s:ByteArray} (h:s.size=0):BX L f s=([],true):=by
 cases f with
 | zero=>unfold BX;rw [iq h]
 | succ f=>unfold BX;rw [if_pos h]
theorem It (L B:Int) (s:ByteArray) (w:World) (l0:-9223372036854775808<=L) (l1:L<=9223372036854775807) (b0:-9223372036854775808<=B) (b1:B<=9223372036854775807) (hs:s.size<=1000000):
 Calls Tryz.prog 22 #[.int .i64 L,.int .i64 B,.string s] w λe w'=>∃v,e=.returned (.tuple #[v,.int .i64 (Bd L B s).2])/\OwnL w' w.heap.size 9 1 v ((Bd L B s).1.map AI)/\Grew w w':=by
 have k:=(iW w).alloc (.cells #[.int .i64 L] 3);have c:=ik w 3 #[.int .i64 L] rfl;have HV:=zh (Jk L B (w.alloc (.cells #[.int .i64 L] 3)) l0 l1 b0 b1);have x0:=c.cell 0;have xl:=c.lt;have a:=zh k;have z:=zh c;clear k c;cases b:vOk L B with
 | false=>
   rw [b] at HV;have HP:=zh (show Bd L B s=([],1) from by unfold Bd;rw [if_pos b]);clear b;go_enter Tryz.func22,Tryz.ntmps22;go_wp2_with fail;refine HV.mono ?_;rintro e w1 ⟨rfl,rfl⟩;go_wp2_with fail;refine im (by first | (simp [*,results,Tryz.results22,go_sem];rfl) | simp [*,results,Tryz.results22,go_sem]) rfl ?_;exact ⟨_,by rw [HP.out],by rw [HP.out];exact OwnL.nil _ _ _ _,a⟩
 | true=>
   rw [b] at HV;have ho:=Gh b;have HU:=zh (show Bd L B s=if s.size<=4\/B<(s.size:Int) then ([],11) else if rdW (s.extract 0 4)≠(s.size,true) then ([],11) else if (BX L s.size (s.extract 4 s.size)).2=true then ((BX L s.size (s.extract 4 s.size)).1,0) else ([],11) from by unfold Bd;rw [if_neg (by rw [b];simp)]);have A:1<=L/\L<=1000:=oo;clear b ho;by_cases h1:s.size<=4\/B<(s.size:Int)
   . have HE:=zh (show Bd L B s=([],11) from by rw [HU.out,if_pos h1]);rcases (show s.size<=4\/(¬s.size<=4/\B<(s.size:Int)) by omega) with h2 | ⟨h2,h3⟩
     . have l:(s.size:Int)<=4:=oo;clear h1;go_enter Tryz.func22,Tryz.ntmps22;go_wp2_with fail;refine HV.mono ?_;rintro e w1 ⟨rfl,rfl⟩;go_wp2_with fail;refine im (by first | (simp [*,results,Tryz.results22,go_sem];rfl) | simp [*,results,Tryz.results22,go_sem]) rfl ?_;exact ⟨_,by rw [HE.out],by rw [HE.out];exact OwnL.nil _ _ _ _,a⟩
     . have l:¬(s.size:Int)<=4:=oo;clear h1;go_enter Tryz.func22,Tryz.ntmps22;go_wp2_with fail;refine HV.mono ?_;rintro e w1 ⟨rfl,rfl⟩;go_wp2_with fail;refine im (by first | (simp [*,results,Tryz.results22,go_sem];rfl) | simp [*,results,Tryz.results22,go_sem]) rfl ?_;exact ⟨_,by rw [HE.out],by rw [HE.out];exact OwnL.nil _ _ _ _,a⟩
   . have h2:¬s.size<=4:=oo;have l:¬(s.size:Int)<=4:=oo;have h3:¬B<(s.size:Int):=oo;rw [if_neg h1] at HU;clear h1;have hz:(s.extract 0 4).size=4:=by rw [i0];omega
     have HR:=zh (λw=>Gb (s.extract 0 4) w oo);have m:=Tn (s.extract 0 4);obtain ⟨⟨n,ok⟩,hn⟩:∃r,rdW (s.extract 0 4)=r:=⟨_,rfl⟩;rw [hn] at HR m HU;simp only at m;clear hn hz;by_cases h4:ok=true/\n=s.size
     . obtain ⟨rfl,rfl⟩:=h4;rw [if_neg qs] at HU;obtain ⟨s0,g⟩:∃s0,s.extract 4 s.size=s0:=⟨_,rfl⟩;have I:s0.size=s.size - 4:=by rw [<-g,i0];omega
       have C:=zh g;rw [g] at HU;clear g;go_enter Tryz.func22,Tryz.ntmps22;go_wp2_with fail;refine HV.mono ?_;rintro e w1 ⟨rfl,rfl⟩;go_wp2_with fail;refine (HR _).mono ?_;rintro e w2 ⟨rfl,g2⟩;have D:=zh ((a.out.trans g2).alloc (.cells #[.slice none 0 0] 24));have E:=zh ((z.grew g2).alloc (.cells #[.slice none 0 0] 24));have o:=zh (ik w2 24 #[.slice none 0 0] rfl);have p:w.heap.size<=w2.heap.size:=(a.out.trans g2).size;obtain ⟨gb,j⟩:∃gb,gb=w2.heap.size:=⟨_,rfl⟩;rw [<-j] at o p;clear g2 x0 xl;go_wp2_with fail;rw [C.out,<-j];clear j
       go_loopg [12] s0.size (λgk sv wr=>∃(t:ByteArray) (bv:Value) (done:List ByteArray) (f:Nat),sv=.string t/\gk=t.size/\t.size<=f/\f<=s.size/\done.length+t.size<=s.size/\BX L s.size s0=(done++(BX L f t).1,(BX L f t).2)/\Blk wr w.heap.size 3 #[.int .i64 L]/\Blk wr gb 24 #[bv]/\OwnL wr w.heap.size 9 1 bv (done.map AI)/\Grew w wr)
       case atStart=>exact ⟨s0,_,[],s.size,rfl,oo,oo,oo,by simp;omega,rfl,E,o,OwnL.nil _ _ _ _,D⟩
       case round=>
        obtain ⟨t,bv,done,f,rfl,x,h4,h5,h6,h7,h8,h9,i,y⟩:=hrel;have HX:=zh h7;have HG:=zh y;have F:=zh x;clear h7 y x;by_cases ht:t.size=0
        . obtain rfl:=DX ht
          have HE:=zh (show Bd L B s=(done,0) from by
           have e:=HX.out
           rw [UQ (L:=L) (f:=f) (s:=⟨#[]⟩) rfl,append_nil] at e
           rw [HU.out,e,if_pos rfl])
          have y0:=h9.cell 0;have yl:=h9.lt;have HO:=zh i;clear HX h8 h9 i;go_wp2_with fail;refine im (by first | (simp [*,results,Tryz.results22,go_sem];rfl) | simp [*,results,Tryz.results22,go_sem]) rfl ?_;exact ⟨_,by rw [HE.out],by rw [HE.out];exact HO.out,HG⟩
        . have J:=Cp ht;have HN:=zh (Xe L t wr w.heap.size gb w.heap.size bv done A oo h8 h9 i oo p);have q:=zh (TF (L:=L) (f:=f - 1) ht);have u:f=f - 1+1:=oo;rw [u] at HX;rw [q.out] at HX;have d:(Ao L t).2.2=true->(Ao L t).2.1.size<t.size:=λh=>(O6 (show Ao L t=((Ao L t).1,(Ao L t).2.1,true) from by rw [<-h])).2.2;obtain ⟨⟨r,t',ok⟩,hr⟩:∃r,Ao L t=r:=⟨_,rfl⟩;rw [hr] at HN HX d;simp only at d;clear hr h8 h9 i q u;go_wp2_with fail;refine HN.mono ?_;rintro e w5 ⟨rfl,H,q1,q2,q3,q4⟩;have HQ:=zh (And.intro q1 (And.intro q2 (And.intro q3 (q4 _ HG (iX _)))));clear q1 q2 q3 q4 HN;cases ok with
          | false=>
            have HE:=zh (show Bd L B s=([],11) from by
             have e:=HX.out
             rw [if_pos rfl] at e
             rw [HU.out,e,if_neg qs])
            go_wp2_with fail;refine im (by first | (simp [*,results,Tryz.results22,go_sem];rfl) | simp [*,results,Tryz.results22,go_sem]) rfl ?_;exact ⟨_,by rw [HE.out],by rw [HE.out];exact OwnL.nil _ _ _ _,HQ.2.2.2⟩
          | true=>
            have d:=d rfl
            have G:=zh (show BX L s.size s0=((done++[r])++(BX L (f - 1) t').1,(BX L (f - 1) t').2) from by
             have e:=HX.out
             rw [if_neg qs] at e
             rw [e,jK]
             rfl)
            go_wp2_with fail
            go_roundg t'.size
            case measure=>rw [F.out];omega
            case rel=>exact ⟨t',H,done++[r],f - 1,rfl,rfl,oo,oo,by rw [iy,ju];omega,G,HQ⟩
     . have HE:=zh (show Bd L B s=([],11) from by rw [HU.out,if_pos (λh9=>h4 (by injection h9 with h8 h7;exact ⟨h7,h8⟩))]);clear HU;cases ok with
       | false=>
         clear h4;go_enter Tryz.func22,Tryz.ntmps22;go_wp2_with fail;refine HV.mono ?_;rintro e w1 ⟨rfl,rfl⟩;go_wp2_with fail;refine (HR _).mono ?_;rintro e w2 ⟨rfl,g2⟩;go_wp2_with fail;refine im (by first | (simp [*,results,Tryz.results22,go_sem];rfl) | simp [*,results,Tryz.results22,go_sem]) rfl ?_;exact ⟨_,by rw [HE.out],by rw [HE.out];exact OwnL.nil _ _ _ _,a.out.trans g2⟩
       | true=>
         have h5:((n:Int) != (s.size:Int))=true:=by rw [jH];intro h9;exact h4 ⟨rfl,oo⟩
         clear h4;go_enter Tryz.func22,Tryz.ntmps22;go_wp2_with fail;refine HV.mono ?_;rintro e w1 ⟨rfl,rfl⟩;go_wp2_with fail;refine (HR _).mono ?_;rintro e w2 ⟨rfl,g2⟩;go_wp2_with fail;refine im (by first | (simp [*,results,Tryz.results22,go_sem];rfl) | simp [*,results,Tryz.results22,go_sem]) rfl ?_;exact ⟨_,by rw [HE.out],by rw [HE.out];exact OwnL.nil _ _ _ _,a.out.trans g2⟩

structure CodesAt (w:World):Prop where
 lt:0<w.heap.size
 c0:w.cell? ⟨0,0,none⟩=some (.bool false)
 c1:w.cell? ⟨0,1,none⟩=some (.bool false)
 c2:w.cell? ⟨0,2,none⟩=some (.bool false)
 c3:w.cell? ⟨0,3,none⟩=some (.bool true)
 c4:w.cell? ⟨0,4,none⟩=some (.bool true)
 c5:w.cell? ⟨0,5,none⟩=some (.bool false)
 c6:w.cell? ⟨0,6,none⟩=some (.bool true)
 c7:w.cell? ⟨0,7,none⟩=some (.bool true)
theorem CodesAt.grew {w w':World} (h:CodesAt w) (g:Grew w w'):CodesAt w':=
 have k:=h.lt
 ⟨ig k g.size,(g.cellEq 0 0 k).trans h.c0,(g.cellEq 0 1 k).trans h.c1,(g.cellEq 0 2 k).trans h.c2,(g.cellEq 0 3 k).trans h.c3,(g.cellEq 0 4 k).trans h.c4,(g.cellEq 0 5 k).trans h.c5,(g.cellEq 0 6 k).trans h.c6,(g.cellEq 0 7 k).trans h.c7⟩
theorem GY (a b c d:Bool) (w:World):(Op.equalIn 10000 169 (.agg #[.bool a,.bool b]) (.agg #[.bool c,.bool d])).run Tryz.prog w=.ok (a==c && b==d) w:=by
 cases a<;>cases b<;>cases c<;>cases d<;>kernel_rfl
def Ls (a b:Bool):Nat:=(if a then 2 else 0)+(if b then 1 else 0)
theorem TP (a b:Bool) (w:World) (h:CodesAt w):
 Calls Tryz.prog 157 #[.slice (some ⟨0,0,none⟩) 4 4,.agg #[.bool a,.bool b]] w λe w'=>e=.returned (.int .i64 ((Ls a b:Nat):Int))/\Grew w w':=by
 have HB:=zh (ik w 169 #[.bool a,.bool b] rfl);have HG:=zh ((iW w).alloc (.cells #[.bool a,.bool b] 169));have HC:=zh h;clear h;have c:Ls a b<=3:=by unfold Ls;cases a<;>cases b<;>decide
 go_enter Tryz.func157,Tryz.ntmps157;go_wp2_with fail
 go_loopg [8] 4 (λgk iv wr=>∃i:Nat,i<=Ls a b/\gk=4 - i/\iv=.int .i64 (i:Int)/\Grew w wr/\Blk wr w.heap.size 169 #[.bool a,.bool b])
 case atStart=>exact ⟨0,oo,rfl,rfl,HG,HB⟩
 case round=>
  obtain ⟨i,hi,j,rfl,hg,hb⟩:=hrel;have f:=zh j;have d:=zh hg;have g:=zh hb;have y0:=hb.cell 0;have y1:=hb.cell 1;have yl:=hb.lt;obtain ⟨xl,x0,x1,x2,x3,x4,x5,x6,x7⟩:=HC.grew hg;clear j hg hb;have k:i<=3:=oo;rcases (show i=0\/i=1\/i=2\/i=3 by omega) with rfl | rfl | rfl | rfl
  . cases a<;>cases b
    . clear hi c;go_wp2_with fail;have hq:=GY false false false false;refine AB [] (λw':World=>w'.cell? ⟨w.heap.size,0,none⟩=some (.bool false)/\w'.cell? ⟨w.heap.size,1,none⟩=some (.bool false)/\w.heap.size<w'.heap.size/\w'.cell? ⟨0,0,none⟩=some (.bool false)/\w'.cell? ⟨0,1,none⟩=some (.bool false)/\0<w'.heap.size) qk ?_;have hS:=(show (λw':World=>w'.cell? ⟨w.heap.size,0,none⟩=some (.bool false)/\w'.cell? ⟨w.heap.size,1,none⟩=some (.bool false)/\w.heap.size<w'.heap.size/\w'.cell? ⟨0,0,none⟩=some (.bool false)/\w'.cell? ⟨0,1,none⟩=some (.bool false)/\0<w'.heap.size) wr.drew from ⟨y0,y1,yl,x0,x1,xl⟩);refine tT 0 (some 11) hS ?_;refine tQ 1 12 ?_;refine tQ 2 13 ?_;refine tQ 3 14 ?_;refine tT 4 (some 15) hS ?_;refine tQ 5 16 ?_;refine AA qk ?_ _;go_wp2_with fail;go_ret;exact ⟨rfl,d.drew⟩
    . clear hi c;go_wp2_with fail;have hq:=GY false true false false;refine AB [] (λw':World=>w'.cell? ⟨w.heap.size,0,none⟩=some (.bool false)/\w'.cell? ⟨w.heap.size,1,none⟩=some (.bool true)/\w.heap.size<w'.heap.size/\w'.cell? ⟨0,0,none⟩=some (.bool false)/\w'.cell? ⟨0,1,none⟩=some (.bool false)/\0<w'.heap.size) qk ?_;have hS:=(show (λw':World=>w'.cell? ⟨w.heap.size,0,none⟩=some (.bool false)/\w'.cell? ⟨w.heap.size,1,none⟩=some (.bool true)/\w.heap.size<w'.heap.size/\w'.cell? ⟨0,0,none⟩=some (.bool false)/\w'.cell? ⟨0,1,none⟩=some (.bool false)/\0<w'.heap.size) wr.drew from ⟨y0,y1,yl,x0,x1,xl⟩);refine tT 0 (some 11) hS ?_;refine tQ 1 12 ?_;refine tQ 2 13 ?_;refine tQ 3 14 ?_;refine tT 4 (some 15) hS ?_;refine tQ 5 16 ?_;refine AA qk ?_ _;go_wp2_with fail
      go_roundg (4 - (0+1))
      case measure=>rw [f.out];decide
      case rel=>exact ⟨0+1,qd,rfl,by go_num,d.drew,g.drew⟩
    . clear hi c;go_wp2_with fail;have hq:=GY true false false false;refine AB [] (λw':World=>w'.cell? ⟨w.heap.size,0,none⟩=some (.bool true)/\w'.cell? ⟨w.heap.size,1,none⟩=some (.bool false)/\w.heap.size<w'.heap.size/\w'.cell? ⟨0,0,none⟩=some (.bool false)/\w'.cell? ⟨0,1,none⟩=some (.bool false)/\0<w'.heap.size) qk ?_;have hS:=(show (λw':World=>w'.cell? ⟨w.heap.size,0,none⟩=some (.bool true)/\w'.cell? ⟨w.heap.size,1,none⟩=some (.bool false)/\w.heap.size<w'.heap.size/\w'.cell? ⟨0,0,none⟩=some (.bool false)/\w'.cell? ⟨0,1,none⟩=some (.bool false)/\0<w'.heap.size) wr.drew from ⟨y0,y1,yl,x0,x1,xl⟩);refine tT 0 (some 11) hS ?_;refine tQ 1 12 ?_;refine tQ 2 13 ?_;refine tQ 3 14 ?_;refine tT 4 (some 15) hS ?_;refine tQ 5 16 ?_;refine AA qk ?_ _;go_wp2_with fail
      go_roundg (4 - (0+1))
      case measure=>rw [f.out];decide
      case rel=>exact ⟨0+1,qd,rfl,by go_num,d.drew,g.drew⟩
    . clear hi c;go_wp2_with fail;have hq:=GY true true false false;refine AB [] (λw':World=>w'.cell? ⟨w.heap.size,0,none⟩=some (.bool true)/\w'.cell? ⟨w.heap.size,1,none⟩=some (.bool true)/\w.heap.size<w'.heap.size/\w'.cell? ⟨0,0,none⟩=some (.bool false)/\w'.cell? ⟨0,1,none⟩=some (.bool false)/\0<w'.heap.size) qk ?_;have hS:=(show (λw':World=>w'.cell? ⟨w.heap.size,0,none⟩=some (.bool true)/\w'.cell? ⟨w.heap.size,1,none⟩=some (.bool true)/\w.heap.size<w'.heap.size/\w'.cell? ⟨0,0,none⟩=some (.bool false)/\w'.cell? ⟨0,1,none⟩=some (.bool false)/\0<w'.heap.size) wr.drew from ⟨y0,y1,yl,x0,x1,xl⟩);refine tT 0 (some 11) hS ?_;refine tQ 1 12 ?_;refine tQ 2 13 ?_;refine tQ 3 14 ?_;refine tT 4 (some 15) hS ?_;refine tQ 5 16 ?_;refine AA qk ?_ _;go_wp2_with fail
      go_roundg (4 - (0+1))
      case measure=>rw [f.out];decide
      case rel=>exact ⟨0+1,qd,rfl,by go_num,d.drew,g.drew⟩
  . cases a<;>cases b
    . exact absurd hi qd
    . clear hi c;go_wp2_with fail;have hq:=GY false true false true;refine AB [] (λw':World=>w'.cell? ⟨w.heap.size,0,none⟩=some (.bool false)/\w'.cell? ⟨w.heap.size,1,none⟩=some (.bool true)/\w.heap.size<w'.heap.size/\w'.cell? ⟨0,2,none⟩=some (.bool false)/\w'.cell? ⟨0,3,none⟩=some (.bool true)/\0<w'.heap.size) qk ?_;have hS:=(show (λw':World=>w'.cell? ⟨w.heap.size,0,none⟩=some (.bool false)/\w'.cell? ⟨w.heap.size,1,none⟩=some (.bool true)/\w.heap.size<w'.heap.size/\w'.cell? ⟨0,2,none⟩=some (.bool false)/\w'.cell? ⟨0,3,none⟩=some (.bool true)/\0<w'.heap.size) wr.drew from ⟨y0,y1,yl,x2,x3,xl⟩);refine tT 0 (some 11) hS ?_;refine tQ 1 12 ?_;refine tQ 2 13 ?_;refine tQ 3 14 ?_;refine tT 4 (some 15) hS ?_;refine tQ 5 16 ?_;refine AA qk ?_ _;go_wp2_with fail;go_ret;exact ⟨rfl,d.drew⟩
    . clear hi c;go_wp2_with fail;have hq:=GY true false false true;refine AB [] (λw':World=>w'.cell? ⟨w.heap.size,0,none⟩=some (.bool true)/\w'.cell? ⟨w.heap.size,1,none⟩=some (.bool false)/\w.heap.size<w'.heap.size/\w'.cell? ⟨0,2,none⟩=some (.bool false)/\w'.cell? ⟨0,3,none⟩=some (.bool true)/\0<w'.heap.size) qk ?_;have hS:=(show (λw':World=>w'.cell? ⟨w.heap.size,0,none⟩=some (.bool true)/\w'.cell? ⟨w.heap.size,1,none⟩=some (.bool false)/\w.heap.size<w'.heap.size/\w'.cell? ⟨0,2,none⟩=some (.bool false)/\w'.cell? ⟨0,3,none⟩=some (.bool true)/\0<w'.heap.size) wr.drew from ⟨y0,y1,yl,x2,x3,xl⟩);refine tT 0 (some 11) hS ?_;refine tQ 1 12 ?_;refine tQ 2 13 ?_;refine tQ 3 14 ?_;refine tT 4 (some 15) hS ?_;refine tQ 5 16 ?_;refine AA qk ?_ _;go_wp2_with fail
      go_roundg (4 - (1+1))
      case measure=>rw [f.out];decide
      case rel=>exact ⟨1+1,qd,rfl,by go_num,d.drew,g.drew⟩
    . clear hi c;go_wp2_with fail;have hq:=GY true true false true;refine AB [] (λw':World=>w'.cell? ⟨w.heap.size,0,none⟩=some (.bool true)/\w'.cell? ⟨w.heap.size,1,none⟩=some (.bool true)/\w.heap.size<w'.heap.size/\w'.cell? ⟨0,2,none⟩=some (.bool false)/\w'.cell? ⟨0,3,none⟩=some (.bool true)/\0<w'.heap.size) qk ?_;have hS:=(show (λw':World=>w'.cell? ⟨w.heap.size,0,none⟩=some (.bool true)/\w'.cell? ⟨w.heap.size,1,none⟩=some (.bool true)/\w.heap.size<w'.heap.size/\w'.cell? ⟨0,2,none⟩=some (.bool false)/\w'.cell? ⟨0,3,none⟩=some (.bool true)/\0<w'.heap.size) wr.drew from ⟨y0,y1,yl,x2,x3,xl⟩);refine tT 0 (some 11) hS ?_;refine tQ 1 12 ?_;refine tQ 2 13 ?_;refine tQ 3 14 ?_;refine tT 4 (some 15) hS ?_;refine tQ 5 16 ?_;refine AA qk ?_ _;go_wp2_with fail
      go_roundg (4 - (1+1))
      case measure=>rw [f.out];decide
      case rel=>exact ⟨1+1,qd,rfl,by go_num,d.drew,g.drew⟩
  . cases a<;>cases b
    . exact absurd hi qd
    . exact absurd hi qd
    . clear hi c;go_wp2_with fail;have hq:=GY true false true false;refine AB [] (λw':World=>w'.cell? ⟨w.heap.size,0,none⟩=some (.bool true)/\w'.cell? ⟨w.heap.size,1,none⟩=some (.bool false)/\w.heap.size<w'.heap.size/\w'.cell? ⟨0,4,none⟩=some (.bool true)/\w'.cell? ⟨0,5,none⟩=some (.bool false)/\0<w'.heap.size) qk ?_;have hS:=(show (λw':World=>w'.cell? ⟨w.heap.size,0,none⟩=some (.bool true)/\w'.cell? ⟨w.heap.size,1,none⟩=some (.bool false)/\w.heap.size<w'.heap.size/\w'.cell? ⟨0,4,none⟩=some (.bool true)/\w'.cell? ⟨0,5,none⟩=some (.bool false)/\0<w'.heap.size) wr.drew from ⟨y0,y1,yl,x4,x5,xl⟩);refine tT 0 (some 11) hS ?_;refine tQ 1 12 ?_;refine tQ 2 13 ?_;refine tQ 3 14 ?_;refine tT 4 (some 15) hS ?_;refine tQ 5 16 ?_;refine AA qk ?_ _;go_wp2_with fail;go_ret;exact ⟨rfl,d.drew⟩
    . clear hi c;go_wp2_with fail;have hq:=GY true true true false;refine AB [] (λw':World=>w'.cell? ⟨w.heap.size,0,none⟩=some (.bool true)/\w'.cell? ⟨w.heap.size,1,none⟩=some (.bool true)/\w.heap.size<w'.heap.size/\w'.cell? ⟨0,4,none⟩=some (.bool true)/\w'.cell? ⟨0,5,none⟩=some (.bool false)/\0<w'.heap.size) qk ?_;have hS:=(show (λw':World=>w'.cell? ⟨w.heap.size,0,none⟩=some (.bool true)/\w'.cell? ⟨w.heap.size,1,none⟩=some (.bool true)/\w.heap.size<w'.heap.size/\w'.cell? ⟨0,4,none⟩=some (.bool true)/\w'.cell? ⟨0,5,none⟩=some (.bool false)/\0<w'.heap.size) wr.drew from ⟨y0,y1,yl,x4,x5,xl⟩);refine tT 0 (some 11) hS ?_;refine tQ 1 12 ?_;refine tQ 2 13 ?_;refine tQ 3 14 ?_;refine tT 4 (some 15) hS ?_;refine tQ 5 16 ?_;refine AA qk ?_ _;go_wp2_with fail
      go_roundg (4 - (2+1))
      case measure=>rw [f.out];decide
      case rel=>exact ⟨2+1,qd,rfl,by go_num,d.drew,g.drew⟩
  . cases a<;>cases b
    . exact absurd hi qd
    . exact absurd hi qd
    . exact absurd hi qd
    . clear hi c;go_wp2_with fail;have hq:=GY true true true true;refine AB [] (λw':World=>w'.cell? ⟨w.heap.size,0,none⟩=some (.bool true)/\w'.cell? ⟨w.heap.size,1,none⟩=some (.bool true)/\w.heap.size<w'.heap.size/\w'.cell? ⟨0,6,none⟩=some (.bool true)/\w'.cell? ⟨0,7,none⟩=some (.bool true)/\0<w'.heap.size) qk ?_;have hS:=(show (λw':World=>w'.cell? ⟨w.heap.size,0,none⟩=some (.bool true)/\w'.cell? ⟨w.heap.size,1,none⟩=some (.bool true)/\w.heap.size<w'.heap.size/\w'.cell? ⟨0,6,none⟩=some (.bool true)/\w'.cell? ⟨0,7,none⟩=some (.bool true)/\0<w'.heap.size) wr.drew from ⟨y0,y1,yl,x6,x7,xl⟩);refine tT 0 (some 11) hS ?_;refine tQ 1 12 ?_;refine tQ 2 13 ?_;refine tQ 3 14 ?_;refine tT 4 (some 15) hS ?_;refine tQ 5 16 ?_;refine AA qk ?_ _;go_wp2_with fail;go_ret;exact ⟨rfl,d.drew⟩
theorem aL (w:World) (n c:Nat) (hn:n<=65535) (hc:c<=3):(convert 74 9 (.slice (some ⟨w.heap.size,0,none⟩) 4 4)).run Tryz.prog (w.alloc (.cells #[.int .u8 ((n:Int) / 256),.int .u8 ((n:Int) % 256),.int .u8 (c:Int),.int .u8 0] 5))=.ok (.string ⟨#[b8 (n / 256),b8 n,b8 c,0]⟩) (w.alloc (.cells #[.int .u8 ((n:Int) / 256),.int .u8 ((n:Int) % 256),.int .u8 (c:Int),.int .u8 0] 5)):=by
 refine I1 _ _ 4 4 ⟨#[b8 (n / 256),b8 n,b8 c,0]⟩ rfl (λj hj=>?_);have hb:=ik w 5 #[.int .u8 ((n:Int) / 256),.int .u8 ((n:Int) % 256),.int .u8 (c:Int),.int .u8 0] rfl;rw [hb.cell j];have hj:j<4:=hj;have h7:=Ba c;have h8:=Ba (n / 256);have h9:=Ba n;rcases (show j=0\/j=1\/j=2\/j=3 by omega) with rfl | rfl | rfl | rfl
 . show some (Value.int .u8 _)=some (Value.int .u8 ((b8 (n / 256)).toNat:Int));rw [h8];congr 2;omega
 . show some (Value.int .u8 _)=some (Value.int .u8 ((b8 n).toNat:Int));rw [h9];congr 2
 . show some (Value.int .u8 _)=some (Value.int .u8 ((b8 c).toNat:Int));rw [h7];congr 2;omega
 . rfl
theorem Xi (x:Seg) (w:World) (hc:CodesAt w) (hs:x.da.size<=60000):Calls Tryz.prog 103 #[.agg #[.bool x.bf,.bool x.af,.string x.da]] w λe w'=>e=.returned (.string (B1 x))/\Grew w w':=by
 have hb:=ik w 172 #[.bool x.bf,.bool x.af,.string x.da] rfl;have hg:=(iW w).alloc (.cells #[.bool x.bf,.bool x.af,.string x.da] 172);have HI:=zh (λw' (g:Grew w w')=>TP x.bf x.af w' (hc.grew g));have a:Ls x.bf x.af<=3:=by unfold Ls;cases x.bf<;>cases x.af<;>decide
 have HE:=zh (show B1 x=⟨#[b8 ((4+x.da.size) / 256),b8 (4+x.da.size),b8 (Ls x.bf x.af),0]⟩++x.da from rfl);obtain ⟨bf,af,da⟩:=x;simp only at hs hb hg HI a HE ⊢;obtain ⟨c,d⟩:∃c,Ls bf af=c:=⟨_,rfl⟩;rw [d] at HI a HE;have hn:(da.size:Int)+4=((4+da.size:Nat):Int):=oo;obtain ⟨n,f⟩:∃n,4+da.size=n:=⟨_,rfl⟩;rw [f] at hn HE;have h:n<=60004:=oo;have i:IntKind.u8.wrap (c:Int)=(c:Int):=by rw [IntKind.wrap_u8];omega
 have j:=λw=>aL w n c oo a;have HB:=zh hb;have HG:=zh hg;have x0:=hb.cell 0;have x1:=hb.cell 1;have x2:=hb.cell 2;have xl:=hb.lt;clear hc d f hb;go_enter Tryz.func103,Tryz.ntmps103;go_wp2_with fail
 go_region_with ((go_at_call 157;refine (HI _ (by first | exact hg.drew | (exact hg.drewN _) | exact hg)).mono ?_;rintro e w' ⟨rfl,gI⟩;have b:=(show Blk w' w.heap.size 172 #[.bool bf,.bool af,.string da] from by first | exact HB.grew gI | exact HB.drew.grew gI | exact (HB.drewN _).grew gI);have z2:=b.cell 2;have zl:=b.lt;clear b))
 all_goals
  go_wp2_with fail;go_ret;exact ⟨DL (by rw [HE.out]),gG⟩

theorem Ma:(Tryz.prog.info? 172).map (·.size)=some 3:=qk
theorem P9 (a b:Bool) (s:ByteArray):(#[Value.bool a,.bool b,.string s]).all (·.oneCell')=true:=by simp [Value.oneCell']
abbrev partF (n:Nat):Value:=.func (.func 156) #[] #[.pointer (some ⟨n+2,0,none⟩),.pointer (some ⟨n,0,none⟩),.pointer (some ⟨n+1,0,none⟩)]
structure PartAt (w:World) (n:Nat) (r:ByteArray) (b d:Bool):Prop where
 rec_:Blk w n 9 #[.string r]
 beg:Blk w (n+1) 4 #[.bool b]
 don:Blk w (n+2) 4 #[.bool d]
theorem PartAt.grew {w w':World} {n:Nat} {r:ByteArray} {b d:Bool} (h:PartAt w n r b d) (g:Grew w w'):PartAt w' n r b d:=⟨h.rec_.grew g,h.beg.grew g,h.don.grew g⟩
theorem VE (r:ByteArray) (w:World):Calls Tryz.prog 101 #[.string r] w λe w'=>e=.returned (partF w.heap.size)/\PartAt w' w.heap.size r false false/\Grew w w':=by
 have hb:=ik w 9 #[.string r] rfl;go_enter Tryz.func101,Tryz.ntmps101;go_wp2_with fail;go_ret;exact ⟨rfl,⟨(hb.alloc _).alloc _,(ik _ _ _ qs).alloc _,ik _ _ _ qs⟩,gG⟩
def cM (n:Nat) (k:Nat):Prop:=n<=k/\k<=n+2
theorem LJ (m n:Nat) (r:ByteArray) (b:Bool) (w:World) (h:PartAt w n r b false) (hs:r.size<=60000) (hm:m<=60000):
 Calls Tryz.prog 156 #[.int .i64 m,.pointer (some ⟨n+2,0,none⟩),.pointer (some ⟨n,0,none⟩),.pointer (some ⟨n+1,0,none⟩)] w λe w'=>e=.returned (.tuple #[.agg #[.bool b,.bool (decide (m<r.size)),.string (r.extract 0 (min m r.size))],.bool true])/\PartAt w' n (r.extract (min m r.size) r.size) true (decide (r.size<=m))/\Turned (cM n) w w':=by
 have x0:=h.rec_.cell 0;have xl:=h.rec_.lt;have y0:=h.beg.cell 0;have yl:=h.beg.lt;have z0:=h.don.cell 0;have zl:=h.don.lt;have E:min (m:Int) (r.size:Int)=((min m r.size:Nat):Int):=oo;have d:n≠n+1/\n≠n+2/\n+1≠n+2:=oo;obtain ⟨k,hk⟩:∃k,min m r.size=k:=⟨_,rfl⟩;rw [hk] at E ⊢;have G:k<=r.size:=oo;have e1:decide (m<r.size)=decide (k<r.size):=by apply Bool.eq_iff_iff.2;rw [jG,jG];omega
 have e2:decide (r.size<=m)=decide (k=r.size):=by apply Bool.eq_iff_iff.2;rw [jG,jG];omega
 have HE:=zh (And.intro e1 e2);have HP:=zh h;clear e1 e2 hk h;go_enter Tryz.func156,Tryz.ntmps156;go_wp2_with fail;have q:PartAt ((w.alloc (.cells #[.bool false,.bool false,.string ⟨#[]⟩] 172)).drew) n r b false:=⟨(HP.rec_.alloc _).drew,(HP.beg.alloc _).drew,(HP.don.alloc _).drew⟩;refine AB [] (λw':World=>w'.cell? ⟨n,0,none⟩=some (.string r)/\n<w'.heap.size/\w'.cell? ⟨n+1,0,none⟩=some (.bool b)/\n+1<w'.heap.size) qk ?_;have hS:=(show (λw':World=>w'.cell? ⟨n,0,none⟩=some (.string r)/\n<w'.heap.size/\w'.cell? ⟨n+1,0,none⟩=some (.bool b)/\n+1<w'.heap.size) ((w.alloc (.cells #[.bool false,.bool false,.string ⟨#[]⟩] 172)).drew) from ⟨q.rec_.cell 0,q.rec_.lt,q.beg.cell 0,q.beg.lt⟩);refine tT 0 (some 15) hS ?_;refine tQ 1 16 ?_;refine tT 2 (some 17) hS ?_;refine tT 3 (some 18) hS ?_;refine tQ 4 19 ?_;refine tT 5 (some 20) hS ?_;refine tQ 6 21 ?_;refine tQ 7 22 ?_;refine tQ 8 23 ?_;refine tO 9 λK' hK=>?_;go_wp2_with fail;have o:PartAt (((w.alloc (.cells #[.bool false,.bool false,.string ⟨#[]⟩] 172)).alloc (.cells #[.bool false,.bool false,.string ⟨#[]⟩] 172)).drew) n r b false:=⟨((HP.rec_.alloc _).alloc _).drew,((HP.beg.alloc _).alloc _).drew,((HP.don.alloc _).alloc _).drew⟩;refine hK.out _ _ (.inr (λ_=>⟨o.rec_.cell 0,o.rec_.lt,o.beg.cell 0,o.beg.lt⟩)) ?_;clear hK hS o;refine tO 10 λK' hK=>?_;go_wp2_with fail;have g:PartAt (((w.alloc (.cells #[.bool false,.bool false,.string ⟨#[]⟩] 172)).alloc (.cells #[.bool b,.bool (decide (k<r.size)),.string (r.extract 0 k)] 172)).drew) n r b false:=⟨((HP.rec_.alloc _).alloc _).drew,((HP.beg.alloc _).alloc _).drew,((HP.don.alloc _).alloc _).drew⟩;have s:Turned (cM n) w (((w.alloc (.cells #[.bool false,.bool false,.string ⟨#[]⟩] 172)).alloc (.cells #[.bool b,.bool (decide (k<r.size)),.string (r.extract 0 k)] 172)).drew):=gT;have t:Blk (((w.alloc (.cells #[.bool false,.bool false,.string ⟨#[]⟩] 172)).alloc (.cells #[.bool b,.bool (decide (k<r.size)),.string (r.extract 0 k)] 172)).drew) (w.heap.size+1) 172 #[.bool b,.bool (decide (k<r.size)),.string (r.extract 0 k)]:=(ik _ _ _ qs).drew;have u:Blk (((w.alloc (.cells #[.bool false,.bool false,.string ⟨#[]⟩] 172)).alloc (.cells #[.bool b,.bool (decide (k<r.size)),.string (r.extract 0 k)] 172)).drew) w.heap.size 172 #[.bool false,.bool false,.string ⟨#[]⟩]:=((ik _ _ _ rfl).alloc _).drew;refine hK.out _ _ (.inr (λ_=>⟨g.rec_.cell 0,g.rec_.lt,g.beg.cell 0,g.beg.lt⟩)) ?_;clear hK;obtain ⟨w2,D⟩:∃w2,w2=(((w.alloc (.cells #[.bool false,.bool false,.string ⟨#[]⟩] 172)).alloc (.cells #[.bool b,.bool (decide (k<r.size)),.string (r.extract 0 k)] 172)).drew):=⟨_,rfl⟩;rw [<-D] at g s t u ⊢;have H:w2.heap.size=w.heap.size+2:=by rw [D];simp
 clear D x0 xl y0 yl z0 zl;refine AA qk ?_ _;have a:=zh g;have v:=zh (And.intro s (And.intro t u));clear g s t u;go_wp2_with fail;refine AB [7,8,9] (λw':World=>w'.cell? ⟨n,0,none⟩=some (.string r)/\n<w'.heap.size) qk ?_;have hS:=(show (λw':World=>w'.cell? ⟨n,0,none⟩=some (.string r)/\n<w'.heap.size) w2.drew from ⟨a.rec_.drew.cell 0,a.rec_.drew.lt⟩);have x0:=a.rec_.drew.cell 0;have xl:=a.rec_.drew.lt;have xf:=a.rec_.drew.frozen 0;have y0:=a.beg.drew.cell 0;have yl:=a.beg.drew.lt;have yf:=a.beg.drew.frozen 0;have z0:=a.don.drew.cell 0;have zl:=a.don.drew.lt;have zf:=a.don.drew.frozen 0;have hA:PartAt ((w2.setCell ⟨n,0,none⟩ (.string (r.extract k r.size))).drew) n (r.extract k r.size) b false:=⟨(a.rec_.set_ 0 _).drew,(a.beg.far d.1.symm _).drew,(a.don.far d.2.1.symm _).drew⟩;have x:=hA.beg.lt;have y:=hA.beg.frozen 0;have z:=hA.beg.cell 0;have hB:PartAt (((w2.setCell ⟨n,0,none⟩ (.string (r.extract k r.size))).setCell ⟨n+1,0,none⟩ (.bool true)).drew) n (r.extract k r.size) true false:=⟨((a.rec_.set_ 0 _).far d.1 _).drew,((a.beg.far d.1.symm _).set_ 0 _).drew,((a.don.far d.2.1.symm _).far d.2.2.symm _).drew⟩;have A:=hB.don.lt;have B:=hB.don.frozen 0;have C:=hB.don.cell 0;clear hA hB;have I:n+2<w.heap.size:=HP.don.lt
 have l:Hid (∀w3,w3=(((w2.setCell ⟨n,0,none⟩ (.string (r.extract k r.size))).setCell ⟨n+1,0,none⟩ (.bool true)).setCell ⟨n+2,0,none⟩ (.bool ((k:Int)==(r.size:Int)))).drew->PartAt w3 n (r.extract k r.size) true (decide (k=r.size))/\Turned (cM n) w w3/\Blk w3 (w.heap.size+1) 172 #[.bool b,.bool (decide (k<r.size)),.string (r.extract 0 k)]/\Blk w3 w.heap.size 172 #[.bool false,.bool false,.string ⟨#[]⟩]):=zh (by
  rintro w3 rfl
  have F:((k:Int)==(r.size:Int))=decide (k=r.size):=by
   apply Bool.eq_iff_iff.2
   rw [jy,jG]
   omega
  rw [F]
  refine ⟨⟨(((a.rec_.set_ 0 _).far d.1 _).far d.2.1 _).drew,(((a.beg.far d.1.symm _).set_ 0 _).far d.2.2 _).drew,(((a.don.far d.2.1.symm _).far d.2.2.symm _).set_ 0 _).drew⟩,?_,?_,?_⟩
  . exact ((((v.1.setCell (p:=⟨n,0,none⟩) (λ_=>⟨iX _,by show n<=n+2;omega⟩) _).setCell (p:=⟨n+1,0,none⟩) (λ_=>⟨by show n<=n+1;omega,by show n+1<=n+2;omega⟩) _).setCell (p:=⟨n+2,0,none⟩) (λ_=>⟨by show n<=n+2;omega,iX _⟩) _)).drew
  . exact (((v.2.1.far (by show w.heap.size+1≠n;omega) _).far (by show w.heap.size+1≠n+1;omega) _).far (by show w.heap.size+1≠n+2;omega) _).drew
  . exact (((v.2.2.far (by show w.heap.size≠n;omega) _).far (by show w.heap.size≠n+1;omega) _).far (by show w.heap.size≠n+2;omega) _).drew)
 refine tT 0 (some 24) hS ?_;refine tQ 1 25 ?_;refine tQ 2 26 ?_;refine tQ 3 27 ?_;refine tT 4 (some 28) hS ?_;refine Dk (i:=5) (j:=7) rfl rfl qk ?faa ?fab
 case' faa=>
  intro K' hK;rw [if_pos (by rfl)];simp only [jn,jS,ja];go_wp2_with fail;refine hK.out _ _ (.inr (λh=>h)) ?_;clear hK;refine tQ 6 30 ?_;refine tO 7 λK' hK=>?_;go_wp2_with fail;refine hK.out _ _ (.inl rfl) ?_;clear hK;refine tO 8 λK' hK=>?_;go_wp2_with fail;refine hK.out _ _ (.inl rfl) ?_;clear hK;refine tO 9 λK' hK=>?_;go_wp2_with fail;refine hK.out _ _ (.inl rfl) ?_;clear hK;refine AA qk ?_ _;obtain ⟨w3,f⟩:∃w3,w3=(((w2.setCell ⟨n,0,none⟩ (.string (r.extract k r.size))).setCell ⟨n+1,0,none⟩ (.bool true)).setCell ⟨n+2,0,none⟩ (.bool ((k:Int)==(r.size:Int)))).drew:=⟨_,rfl⟩;rw [<-f];obtain ⟨hC,hT,hB,hR⟩:=l.out w3 f;clear f l x y z A B C;have b0:=hB.cell 0;have b1:=hB.cell 1;have b2:=hB.cell 2;have bl:=hB.lt;have HZ:=zh (And.intro hC (And.intro hT hR));clear hC hT hB;have c:=HZ.2.2.setRow #[.bool b,.bool (decide (k<r.size)),.string (r.extract 0 k)];have q0:=c.cell 0;have q1:=c.cell 1;have q2:=c.cell 2;have ql:=c.lt;clear c hR;go_wp2_with (refine AF rfl 172 _ _ rfl w.heap.size #[.bool b,.bool (decide (k<r.size)),.string (r.extract 0 k)] (by rfl) (by rfl) 172 _ HZ.2.2 rfl Ma (P9 _ _ _) ?_);refine im (by first | (simp [*,results,Tryz.results156,go_sem];rfl) | simp [*,results,Tryz.results156,go_sem]) rfl ?_;exact ⟨by rw [HE.out.1],by rw [HE.out.2];exact ⟨HZ.1.rec_.farRow oo _,HZ.1.beg.farRow oo _,HZ.1.don.farRow oo _⟩,HZ.2.1.setRow (λh9=>absurd h9 oo) _⟩
 case' fab=>
  intro K' hK;rw [if_pos (by rfl)];simp only [jn,jS,ja];go_wp2_with fail;refine hK.out _ _ (.inl rfl) ?_;clear hK;refine Dk (i:=5) (j:=8) rfl rfl qk ?fba ?fbb
  case' fba=>
   intro K' hK;rw [if_pos (by rfl)];simp only [jn,jS,ja];go_wp2_with fail;refine hK.out _ _ (.inr (λh=>h)) ?_;clear hK;refine tQ 6 30 ?_;refine tO 8 λK' hK=>?_;go_wp2_with fail;refine hK.out _ _ (.inl rfl) ?_;clear hK;refine tO 9 λK' hK=>?_;go_wp2_with fail;refine hK.out _ _ (.inl rfl) ?_;clear hK;refine AA qk ?_ _;obtain ⟨w3,f⟩:∃w3,w3=(((w2.setCell ⟨n,0,none⟩ (.string (r.extract k r.size))).setCell ⟨n+1,0,none⟩ (.bool true)).setCell ⟨n+2,0,none⟩ (.bool ((k:Int)==(r.size:Int)))).drew:=⟨_,rfl⟩;rw [<-f];obtain ⟨hC,hT,hB,hR⟩:=l.out w3 f;clear f l x y z A B C;have b0:=hB.cell 0;have b1:=hB.cell 1;have b2:=hB.cell 2;have bl:=hB.lt;have HZ:=zh (And.intro hC (And.intro hT hR));clear hC hT hB;have c:=HZ.2.2.setRow #[.bool b,.bool (decide (k<r.size)),.string (r.extract 0 k)];have q0:=c.cell 0;have q1:=c.cell 1;have q2:=c.cell 2;have ql:=c.lt;clear c hR;go_wp2_with (refine AF rfl 172 _ _ rfl w.heap.size #[.bool b,.bool (decide (k<r.size)),.string (r.extract 0 k)] (by rfl) (by rfl) 172 _ HZ.2.2 rfl Ma (P9 _ _ _) ?_);refine im (by first | (simp [*,results,Tryz.results156,go_sem];rfl) | simp [*,results,Tryz.results156,go_sem]) rfl ?_;exact ⟨by rw [HE.out.1],by rw [HE.out.2];exact ⟨HZ.1.rec_.farRow oo _,HZ.1.beg.farRow oo _,HZ.1.don.farRow oo _⟩,HZ.2.1.setRow (λh9=>absurd h9 oo) _⟩
  case' fbb=>
   intro K' hK;rw [if_pos (by rfl)];simp only [jn,jS,ja];go_wp2_with fail;refine hK.out _ _ (.inl rfl) ?_;clear hK;refine tO 5 λK' hK=>?_;go_wp2_with fail;refine hK.out _ _ (.inr (λh=>h)) ?_;clear hK;refine tQ 6 30 ?_;refine tO 9 λK' hK=>?_;go_wp2_with fail;refine hK.out _ _ (.inl rfl) ?_;clear hK;refine AA qk ?_ _;obtain ⟨w3,f⟩:∃w3,w3=(((w2.setCell ⟨n,0,none⟩ (.string (r.extract k r.size))).setCell ⟨n+1,0,none⟩ (.bool true)).setCell ⟨n+2,0,none⟩ (.bool ((k:Int)==(r.size:Int)))).drew:=⟨_,rfl⟩;rw [<-f];obtain ⟨hC,hT,hB,hR⟩:=l.out w3 f;clear f l x y z A B C;have b0:=hB.cell 0;have b1:=hB.cell 1;have b2:=hB.cell 2;have bl:=hB.lt;have HZ:=zh (And.intro hC (And.intro hT hR));clear hC hT hB;have c:=HZ.2.2.setRow #[.bool b,.bool (decide (k<r.size)),.string (r.extract 0 k)];have q0:=c.cell 0;have q1:=c.cell 1;have q2:=c.cell 2;have ql:=c.lt;clear c hR;go_wp2_with (refine AF rfl 172 _ _ rfl w.heap.size #[.bool b,.bool (decide (k<r.size)),.string (r.extract 0 k)] (by rfl) (by rfl) 172 _ HZ.2.2 rfl Ma (P9 _ _ _) ?_);refine im (by first | (simp [*,results,Tryz.results156,go_sem];rfl) | simp [*,results,Tryz.results156,go_sem]) rfl ?_;exact ⟨by rw [HE.out.1],by rw [HE.out.2];exact ⟨HZ.1.rec_.farRow oo _,HZ.1.beg.farRow oo _,HZ.1.don.farRow oo _⟩,HZ.2.1.setRow (λh9=>absurd h9 oo) _⟩

theorem VG (m:Int) (n:Nat) (r:ByteArray) (b:Bool) (w:World) (h:PartAt w n r b true):
 Calls Tryz.prog 156 #[.int .i64 m,.pointer (some ⟨n+2,0,none⟩),.pointer (some ⟨n,0,none⟩),.pointer (some ⟨n+1,0,none⟩)] w λe w'=>e=.returned (.tuple #[.agg #[.bool false,.bool false,.string ⟨#[]⟩],.bool false])/\Grew w w':=by
 have hd:=h.don.alloc (.cells #[.bool false,.bool false,.string ⟨#[]⟩] 172);have z0:=hd.cell 0;have zl:=hd.lt;have hg:=(iW w).alloc (.cells #[.bool false,.bool false,.string ⟨#[]⟩] 172);clear h hd;go_enter Tryz.func156,Tryz.ntmps156;go_wp2_with fail;refine im (by first | (simp [*,results,Tryz.results156,go_sem];rfl) | simp [*,results,Tryz.results156,go_sem]) rfl ?_;exact ⟨rfl,hg⟩
theorem OO (s:ByteArray) (k:Nat) (h:s.size<=k):s.extract 0 (min k s.size)=s:=by
 rw [Nat.min_eq_right h,ByteArray.extract_zero_size]
theorem S6 {m:Nat} (hm:1<=m) {f:Nat} {b:Bool} {s:ByteArray} (h:s.size<=f):Ay m f b s=⟨b,decide (m<s.size),s.extract 0 (min m s.size)⟩::(if decide (s.size<=m)=true then [] else Ay m (f - 1) true (s.extract (min m s.size) s.size)):=by
 cases f with
 | zero=>
   rw [ir (show ¬m<s.size by omega),iq (show s.size<=m by omega),OO s m oo];rfl
 | succ f=>
   show (if s.size<=m then [⟨b,false,s⟩] else ⟨b,true,s.extract 0 m⟩::Ay m f true (s.extract m s.size))=_;by_cases hc:s.size<=m
   . rw [if_pos hc,ir (show ¬m<s.size by omega),iq hc,OO s m hc];rfl
   . rw [if_neg hc,iq (show m<s.size by omega),ir hc,Nat.min_eq_left oo];rfl
theorem Sv {B:Nat} {last r:ByteArray} {k:Nat} (h0:last.size≠0) (hk:last.size+4+k=B) (h:r.size<=k\/1<=k):
 DD B last r=(Aa (last.extract 4 last.size++B1 ⟨false,decide (k<r.size),r.extract 0 (min k r.size)⟩),if decide (r.size<=k)=true then [] else (Ay (B - 8) r.size true (r.extract (min k r.size) r.size)).map Df):=by
 unfold DD;rw [if_pos ⟨h0,oo⟩];by_cases hc:r.size<=k
 . rw [if_pos oo,ir (show ¬k<r.size by omega),iq hc,OO r k hc];rfl
 . rw [if_neg oo,iq (show k<r.size by omega),ir hc,Nat.min_eq_left (show k<=r.size by omega),show B - last.size - 4=k by omega];rfl
theorem SK {B:Nat} {last r:ByteArray} (h:¬(last.size≠0/\(last.size+4+r.size<=B\/last.size+5<=B))):DD B last r=(nilB,if (false:Bool)=true then [] else (Ay (B - 8) r.size false r).map Df):=by
 unfold DD;rw [if_neg h];rfl
theorem WG (x:Seg):(Df x).size=8+x.da.size:=by
 unfold Df;rw [Bp,BE];omega
theorem JX (m:Nat):∀(f:Nat) (b:Bool) (s:ByteArray),(Ay m f b s).length<=f+1
 | 0,b,s=>iX _
 | f+1,b,s=>by
   have ih:=JX m f true (s.extract m s.size);unfold Ay;split
   . simp
   . rw [jf];omega
theorem RY (B:Nat) (last r:ByteArray) (w:World) (hc:CodesAt w) (hB:9<=B/\B<=1024) (hl:last.size=0\/4<=last.size) (cy:last.size<=1024) (hr:r.size<=1000):
 Calls Tryz.prog 65 #[.int .i64 B,.string last,.string r] w λe w'=>∃v,e=.returned (.tuple #[.string (DD B last r).1,v])/\OwnL w' w.heap.size 9 1 v ((DD B last r).2.map AI)/\Grew w w':=by
 have HS:=zh (VE r w);have HF:=zh (λ(x:Seg) w' (g:Grew w w') (hs:x.da.size<=60000)=>Xi x w' (hc.grew g) hs);have bt:(last.extract 4 last.size).size=last.size - 4:=by rw [i0];omega
 obtain ⟨D,bf⟩:∃z,DD B last r=z:=⟨_,rfl⟩;rw [bf];have E:=zh bf;clear bf;obtain ⟨m,hm⟩:∃m,B - 8=m:=⟨_,rfl⟩;have cz:(B:Int) - 8=(m:Int):=oo;have cb:1<=m/\m<=1016:=oo
 rcases (show (last.size≠0/\∃k,last.size+4+k=B/\r.size<=k)\/(last.size≠0/\∃k,last.size+4+k=B/\¬r.size<=k/\1<=k)\/(last.size=0)\/(last.size≠0/\¬last.size+4+r.size<=B/\¬last.size+5<=B) by
  by_cases h0:last.size=0
  . exact .inr (.inr (.inl h0))
  . by_cases h1:last.size+4+r.size<=B
    . exact .inl ⟨h0,B - last.size - 4,oo,oo⟩
    . by_cases h2:last.size+5<=B
      . exact .inr (.inl ⟨h0,B - last.size - 4,oo,oo,oo⟩)
      . exact .inr (.inr (.inr ⟨h0,h1,h2⟩))) with ⟨h0,k,hk,h1⟩ | ⟨h0,k,hk,h1,h2⟩ | h0 | ⟨h0,h1,h2⟩
 case' inl=>
  have j:=Sv h0 hk (r:=r) (.inl h1);have a1:(B:Int) - (last.size:Int) - 4=(k:Int):=oo;have a2:k<=1024:=oo;have an:=Cp h0;have F:(r.extract (min k r.size) r.size).size<=1000/\(r.extract (min k r.size) r.size).size<=r.size:=by rw [i0];omega
  have M:(r.extract 0 (min k r.size)).size<=1000:=by rw [i0];omega
  have G:=λw1 (h:PartAt w1 w.heap.size r false false)=>LJ k w.heap.size r false w1 h oo oo;obtain ⟨xa,A⟩:∃a,decide (k<r.size)=a:=⟨_,rfl⟩;obtain ⟨xd,n⟩:∃a,r.extract 0 (min k r.size)=a:=⟨_,rfl⟩;obtain ⟨s,hs⟩:∃a,r.extract (min k r.size) r.size=a:=⟨_,rfl⟩;obtain ⟨d,hd⟩:∃a,decide (r.size<=k)=a:=⟨_,rfl⟩;rw [A,n,hs,hd] at G;rw [A,n,hs,hd] at j;rw [hs] at F;rw [n] at M;have N:=zh G;have O:(last.extract 4 last.size++B1 ⟨false,xa,xd⟩).size<=60000:=by rw [io,BE,bt];show last.size - 4+(4+xd.size)<=60000;omega
  have t:=zh (λw'=>Jd (last.extract 4 last.size++B1 ⟨false,xa,xd⟩) w' O);have C:=zh (λw' (g:Grew w w')=>HF ⟨false,xa,xd⟩ w' g (by show xd.size<=60000;omega));have P:(B1 ⟨false,xa,xd⟩).size<=2000:=by rw [BE];show 4+xd.size<=2000;omega
  obtain ⟨fx,q⟩:∃f,B1 ⟨false,xa,xd⟩=f:=⟨_,rfl⟩;rw [q] at P;obtain ⟨l4,J⟩:∃l,last.extract 4 last.size=l:=⟨_,rfl⟩;rw [q] at C;rw [q,J] at t j;obtain ⟨cv,al⟩:∃c,Aa (l4++fx)=c:=⟨_,rfl⟩;rw [al] at t j;have H:=zh j;have a3:=zh J;have a4:r.size<=k\/(1:Int)<=(k:Int):=oo
  try have cc:(1:Int)<=(k:Int):=oo
  clear j q O J hk G A n hs hd al a4;go_enter Tryz.func65,Tryz.ntmps65;go_wp2_with fail;refine HS.mono ?_;rintro e w1 ⟨rfl,y,g1⟩;have Q:=zh g1;have R:=zh y;clear y g1;go_wp2_with fail;refine (N w1 R).mono ?_;rintro e w2 ⟨rfl,af,ag⟩;have I:=zh ((Q.turn ag (λi hi=>hi.1)).alloc (.cells #[.bool false,.bool xa,.string xd] 172));have S:=zh af;have o:=(ik w2 172 #[.bool false,.bool xa,.string xd] rfl).drew;have T:=zh o;clear ag af;go_wp2_with fail;refine AB [] (λw':World=>w'.cell? ⟨w2.heap.size,0,none⟩=some (.bool false)/\w'.cell? ⟨w2.heap.size,1,none⟩=some (.bool xa)/\w'.cell? ⟨w2.heap.size,2,none⟩=some (.string xd)/\w2.heap.size<w'.heap.size) qk ?_;have hS:=(show (λw':World=>w'.cell? ⟨w2.heap.size,0,none⟩=some (.bool false)/\w'.cell? ⟨w2.heap.size,1,none⟩=some (.bool xa)/\w'.cell? ⟨w2.heap.size,2,none⟩=some (.string xd)/\w2.heap.size<w'.heap.size) (w2.alloc (.cells #[.bool false,.bool xa,.string xd] 172)).drew from ⟨o.cell 0,o.cell 1,o.cell 2,o.lt⟩);clear o;refine tQ 0 41 ?_;refine tQ 1 42 ?_;refine tT 2 (some 43) hS ?_;refine tO 3 λK' hK=>?_;go_wp2_with fail;refine (C _ I.drew).mono ?_;rintro e w3 ⟨rfl,g3⟩;have p:=T.grew g3;have U:=zh p;have V:=zh (I.drew.trans g3);have W:=zh (((S.grew ((iW w2).alloc _)).grew (iW _).drew).grew g3);go_wp2_with fail;refine hK.out _ _ (.inr (λ_=>⟨p.cell 0,p.cell 1,p.cell 2,p.lt⟩)) ?_;clear hK p g3;refine tQ 4 45 ?_;refine tO 5 λK' hK=>?_;go_wp2_with fail;rw [a3.out];refine (t _).mono ?_;rintro e w4 ⟨rfl,g4⟩;have u:=U.grew g4;have X:=zh (V.out.trans g4);have Y:=zh (W.grew g4);go_wp2_with fail;refine hK.out _ _ (.inr (λ_=>⟨u.cell 0,u.cell 1,u.cell 2,u.lt⟩)) ?_;clear hK u g4;refine tQ 6 9 ?_;refine AA qk ?_ _;clear hS an T U S W I V t C N HS R Q a1 a2;go_wp2_with fail;have Z:=zh (show D.1=cv from by rw [<-E.out,H.out]);have K:=zh (show D.2=[]++(if d=true then [] else (Ay (B - 8) r.size true s).map Df) from by rw [<-E.out,H.out];rfl);clear H hc
 case' inr.inl=>
  have j:=Sv h0 hk (r:=r) (.inr h2);have a1:(B:Int) - (last.size:Int) - 4=(k:Int):=oo;have a2:k<=1024:=oo;have an:=Cp h0;have F:(r.extract (min k r.size) r.size).size<=1000/\(r.extract (min k r.size) r.size).size<=r.size:=by rw [i0];omega
  have M:(r.extract 0 (min k r.size)).size<=1000:=by rw [i0];omega
  have G:=λw1 (h:PartAt w1 w.heap.size r false false)=>LJ k w.heap.size r false w1 h oo oo;obtain ⟨xa,A⟩:∃a,decide (k<r.size)=a:=⟨_,rfl⟩;obtain ⟨xd,n⟩:∃a,r.extract 0 (min k r.size)=a:=⟨_,rfl⟩;obtain ⟨s,hs⟩:∃a,r.extract (min k r.size) r.size=a:=⟨_,rfl⟩;obtain ⟨d,hd⟩:∃a,decide (r.size<=k)=a:=⟨_,rfl⟩;rw [A,n,hs,hd] at G;rw [A,n,hs,hd] at j;rw [hs] at F;rw [n] at M;have N:=zh G;have O:(last.extract 4 last.size++B1 ⟨false,xa,xd⟩).size<=60000:=by rw [io,BE,bt];show last.size - 4+(4+xd.size)<=60000;omega
  have t:=zh (λw'=>Jd (last.extract 4 last.size++B1 ⟨false,xa,xd⟩) w' O);have C:=zh (λw' (g:Grew w w')=>HF ⟨false,xa,xd⟩ w' g (by show xd.size<=60000;omega));have P:(B1 ⟨false,xa,xd⟩).size<=2000:=by rw [BE];show 4+xd.size<=2000;omega
  obtain ⟨fx,q⟩:∃f,B1 ⟨false,xa,xd⟩=f:=⟨_,rfl⟩;rw [q] at P;obtain ⟨l4,J⟩:∃l,last.extract 4 last.size=l:=⟨_,rfl⟩;rw [q] at C;rw [q,J] at t j;obtain ⟨cv,al⟩:∃c,Aa (l4++fx)=c:=⟨_,rfl⟩;rw [al] at t j;have H:=zh j;have a3:=zh J;have a4:r.size<=k\/(1:Int)<=(k:Int):=oo
  try have cc:(1:Int)<=(k:Int):=oo
  clear j q O J hk G A n hs hd al a4;go_enter Tryz.func65,Tryz.ntmps65;go_wp2_with fail;refine HS.mono ?_;rintro e w1 ⟨rfl,y,g1⟩;have Q:=zh g1;have R:=zh y;clear y g1;go_wp2_with fail;refine (N w1 R).mono ?_;rintro e w2 ⟨rfl,af,ag⟩;have I:=zh ((Q.turn ag (λi hi=>hi.1)).alloc (.cells #[.bool false,.bool xa,.string xd] 172));have S:=zh af;have o:=(ik w2 172 #[.bool false,.bool xa,.string xd] rfl).drew;have T:=zh o;clear ag af;go_wp2_with fail;refine AB [] (λw':World=>w'.cell? ⟨w2.heap.size,0,none⟩=some (.bool false)/\w'.cell? ⟨w2.heap.size,1,none⟩=some (.bool xa)/\w'.cell? ⟨w2.heap.size,2,none⟩=some (.string xd)/\w2.heap.size<w'.heap.size) qk ?_;have hS:=(show (λw':World=>w'.cell? ⟨w2.heap.size,0,none⟩=some (.bool false)/\w'.cell? ⟨w2.heap.size,1,none⟩=some (.bool xa)/\w'.cell? ⟨w2.heap.size,2,none⟩=some (.string xd)/\w2.heap.size<w'.heap.size) (w2.alloc (.cells #[.bool false,.bool xa,.string xd] 172)).drew from ⟨o.cell 0,o.cell 1,o.cell 2,o.lt⟩);clear o;refine tQ 0 41 ?_;refine tQ 1 42 ?_;refine tT 2 (some 43) hS ?_;refine tO 3 λK' hK=>?_;go_wp2_with fail;refine (C _ I.drew).mono ?_;rintro e w3 ⟨rfl,g3⟩;have p:=T.grew g3;have U:=zh p;have V:=zh (I.drew.trans g3);have W:=zh (((S.grew ((iW w2).alloc _)).grew (iW _).drew).grew g3);go_wp2_with fail;refine hK.out _ _ (.inr (λ_=>⟨p.cell 0,p.cell 1,p.cell 2,p.lt⟩)) ?_;clear hK p g3;refine tQ 4 45 ?_;refine tO 5 λK' hK=>?_;go_wp2_with fail;rw [a3.out];refine (t _).mono ?_;rintro e w4 ⟨rfl,g4⟩;have u:=U.grew g4;have X:=zh (V.out.trans g4);have Y:=zh (W.grew g4);go_wp2_with fail;refine hK.out _ _ (.inr (λ_=>⟨u.cell 0,u.cell 1,u.cell 2,u.lt⟩)) ?_;clear hK u g4;refine tQ 6 9 ?_;refine AA qk ?_ _;clear hS an T U S W I V t C N HS R Q a1 a2;go_wp2_with fail;have Z:=zh (show D.1=cv from by rw [<-E.out,H.out]);have K:=zh (show D.2=[]++(if d=true then [] else (Ay (B - 8) r.size true s).map Df) from by rw [<-E.out,H.out];rfl);clear H hc
 case' inr.inr.inl=>
  have j:=SK (B:=B) (last:=last) (r:=r) oo;have Z:=zh (show D.1=nilB from by rw [<-E.out,j]);have K:=zh (show D.2=[]++(if false=true then [] else (Ay (B - 8) r.size false r).map Df) from by rw [<-E.out,j];rfl);clear j hc;obtain rfl:=DX h0;have F:r.size<=1000/\r.size<=r.size:=⟨hr,iX _⟩;go_enter Tryz.func65,Tryz.ntmps65;go_wp2_with fail;refine HS.mono ?_;rintro e w1 ⟨rfl,y,g1⟩;have X:=zh g1;have Y:=zh y;clear y g1 HS;go_wp2_with fail
 case' inr.inr.inr=>
  have j:=SK (B:=B) (last:=last) (r:=r) oo;have Z:=zh (show D.1=nilB from by rw [<-E.out,j]);have K:=zh (show D.2=[]++(if false=true then [] else (Ay (B - 8) r.size false r).map Df) from by rw [<-E.out,j];rfl);clear j hc;have an:=Cp h0;have F:r.size<=1000/\r.size<=r.size:=⟨hr,iX _⟩;go_enter Tryz.func65,Tryz.ntmps65;go_wp2_with fail;refine HS.mono ?_;rintro e w1 ⟨rfl,y,g1⟩;have X:=zh g1;have Y:=zh y;clear y g1 HS;go_wp2_with fail
 all_goals
  rw [hm] at K
  go_loopg [13] (r.size+2) (λgk ov wr=>∃(s':ByteArray) (b' d':Bool) (done:List ByteArray) (f:Nat),PartAt wr w.heap.size s' b' d'/\s'.size<=f/\s'.size<=1000/\done.length+(if d'=true then 0 else s'.size+1)<=1001/\D.2=done++(if d'=true then [] else (Ay m f b' s').map Df)/\OwnL wr (w.heap.size+3) 9 1 ov (done.map AI)/\Grew w wr/\(if d'=true then 0 else s'.size+1)<=gk)
  case atStart=>exact ⟨_,_,_,[],r.size,Y,F.2,F.1,by simp only [length_nil];split<;>omega,K,OwnL.nil _ _ _ _,X,by split<;>omega⟩
  case round=>
   obtain ⟨s',b',d',done,f,b5,bk,cx,av,b9,ca,bl,bs⟩:=hrel;clear K Y X;have HX:=zh (And.intro b9 (And.intro ca bl));have bv:=zh b5;have c0:=bl.size;clear b5 b9 ca bl;cases d' with
   | true=>
     clear av bs;go_wp2_with fail;refine (VG (m:Int) w.heap.size s' b' wr bv).mono ?_;rintro e w5 ⟨rfl,g5⟩;have ad:=zh g5;clear g5;go_wp2_with fail;refine im (by first | (simp [*,results,Tryz.results65,go_sem];rfl) | simp [*,results,Tryz.results65,go_sem]) rfl ?_;exact ⟨_,by first | (rw [Z.out];done) | (rw [Z.out];rfl),by rw [HX.out.1];simp only [if_true,append_nil];exact ((HX.2.1.grew ad).alloc _).mono oo,(HX.2.2.trans ad).alloc _⟩
   | false=>
     have ce:m<=60000:=oo;have c1:done.length<=1000:=by simp only [Bool.false_eq_true,if_false] at av;omega
     have cf:s'.size<=60000:=oo;have ch:=bk;have a5:=S6 cb.1 (f:=f) (b:=b') bk;have a6:=λw1 (h:PartAt w1 w.heap.size s' b' false)=>LJ m w.heap.size s' b' w1 h cf ce;have M:(s'.extract 0 (min m s'.size)).size<=1000:=by rw [i0];omega
     have bx:(s'.extract (min m s'.size) s'.size).size=s'.size - min m s'.size:=by rw [i0];omega
     have b0:s'.size<=m\/(s'.extract (min m s'.size) s'.size).size+1<=s'.size:=oo;obtain ⟨xa,A⟩:∃a,decide (m<s'.size)=a:=⟨_,rfl⟩;obtain ⟨xd,n⟩:∃a,s'.extract 0 (min m s'.size)=a:=⟨_,rfl⟩;obtain ⟨s2,aw⟩:∃a,s'.extract (min m s'.size) s'.size=a:=⟨_,rfl⟩;obtain ⟨d2,a0⟩:∃a,decide (s'.size<=m)=a:=⟨_,rfl⟩;rw [A,n,aw,a0] at a6;rw [A,n,aw,a0] at a5;rw [aw] at bx b0;rw [n] at M
     have b1:s2.size<=f - 1/\s2.size<=1000/\(if d2=true then 0 else s2.size+1)<=s'.size:=by
      rw [<-a0];by_cases hc:s'.size<=m
      . rw [if_pos (iq hc)];omega
      . rw [if_neg (by simpa using hc)];omega
     have ap:=zh b1;have ci:=zh a5;have cl:=zh a6;have C:=zh (λw1 (g:Grew w w1)=>HF ⟨b',xa,xd⟩ w1 g (by show xd.size<=60000;omega));have P:(B1 ⟨b',xa,xd⟩).size<=2000:=by rw [BE];show 4+xd.size<=2000;omega
     have b2:=zh (show Df ⟨b',xa,xd⟩=Aa (B1 ⟨b',xa,xd⟩) from rfl);obtain ⟨fx,q⟩:∃f,B1 ⟨b',xa,xd⟩=f:=⟨_,rfl⟩;rw [q] at P C b2;have t:=zh (λw1=>Jd fx w1 oo);have b3:=zh (And.intro av bs);clear q b1 a5 a6 A n aw a0 bx b0 ch av bs bk cx;go_wp2_with fail;refine (cl wr bv).mono ?_;rintro e w5 ⟨rfl,a9,bb⟩;have cn:=zh a9;have ad:=zh (HX.2.2.turn bb (λi hi=>hi.1));have co:=zh (HX.2.1.kept bb (λg hg h9=>by have:=(HX.2.1.own_ge hg).1;have:=h9.2;omega));have c2:w.heap.size+3<=w5.heap.size:=by have:=a9.don.lt;omega
     clear a9 bb;have L:=(ik w5 172 #[.bool b',.bool xa,.string xd] rfl);have x0:=L.cell 0;have x1:=L.cell 1;have x2:=L.cell 2;have xl:=L.lt;have c3:=zh L;clear L;go_wp2_with fail;refine (C _ (ad.alloc _)).mono ?_;rintro e w6 ⟨rfl,g6⟩;have cp:=zh ((ad.alloc (.cells #[.bool b',.bool xa,.string xd] 172)).trans g6);have cq:=zh ((co.alloc (.cells #[.bool b',.bool xa,.string xd] 172)).grew g6);have cr:=zh ((cn.grew ((iW w5).alloc _)).grew g6);have c4:w5.heap.size+1<=w6.heap.size:=by have:=g6.size;simpa using this
     clear g6 x0 x1 x2 xl;go_wp2_with fail;refine (t _).mono ?_;rintro e w7 ⟨rfl,g7⟩;have b4:=cq.grew g7;have cs:=zh (cp.out.trans g7);have a7:=zh b4;have a8:=zh (cr.grew g7);have ct:w.heap.size+3<=w7.heap.size:=by have:=g7.size;omega
     clear g7;go_wp2_with (at_builtin;refine AY rfl _ _ 24 rfl _ 9 1 16 _ Tryz.underlying24 BQ rfl qd w7 _ (done.map AI) (AI (Aa fx)) (by rfl) rfl rfl b4 (by first | rfl | (simp;done)) rfl rfl (by rw [iY];omega) (by rw [iY];omega) ct ?_;intro v' w8 cu cw bc c5)
     go_roundg (if d2=true then 0 else s2.size+1)
     case measure=>have:=ap.2.2;have:=b3.2;simp only [Bool.false_eq_true,if_false] at this;omega
     case rel=>exact ⟨s2,true,d2,done++[Aa fx],f - 1,⟨bc _ _ _ a8.rec_ (λh9=>absurd (a7.own_ge h9).1 oo),bc _ _ _ a8.beg (λh9=>absurd (a7.own_ge h9).1 oo),bc _ _ _ a8.don (λh9=>absurd (a7.own_ge h9).1 oo)⟩,ap.1,ap.2.1,by rw [iy,ju];have h9:=ap.2.2;have h8:=b3.1;simp only [Bool.false_eq_true,if_false] at h8;omega,by rw [HX.out.1,ci.out,b2.out.symm];cases d2<;>simp,by rw [il];exact cu,cw _ cs oo,iX _⟩

section
variable (A:Option Addr) (c:Nat) (rs:List ByteArray) (p:ByteArray->Bool) (fi:FuncId) (cs:Array Value) (w:World)
theorem ZS (hE:CF Tryz.prog fi) (hA:ListAt w w.heap.size 1 A (rs.map AI)) (hn:rs.length<=1000000)
 (HC:∀r∈rs,Calls Tryz.prog fi (#[]++#[.string r]++cs) w λe w'=>e=.returned (.bool (p r))/\w'=w):
 Calls Tryz.prog 100 #[.slice A rs.length c,.func (.func fi) #[] cs] w λe w'=>((∃i:Nat,e=.returned (.int .i64 (i:Int))/\rs.any p=true)\/(e=.returned (.int .i64 (-1))/\rs.any p=false))/\w'=w:=by
 have HA:=zh hA;have HC:=zh HC;unfold CF at hE;have HE:=zh hE;clear hA hE;go_enter Tryz.func100,Tryz.ntmps100;go_wp2_with fail
 go_loopg [8] rs.length (λgk iv wr=>∃k:Nat,k<=rs.length/\gk=rs.length - k/\iv=.int .i64 k/\wr=w/\∀r∈rs.take k,p r=false)
 case atStart=>exact ⟨0,oo,oo,rfl,rfl,λr hr=>by simp at hr⟩
 case round=>
  obtain ⟨k,hk,f,rfl,rfl,g⟩:=hrel;have h:=zh f;have d:=zh g;clear f g;by_cases a:k<rs.length
  . obtain ⟨b,l,rfl,m,j⟩:=Cx HA a;have HR:=zh (HC rs[k] (ib a));have HM:=zh (ib a);have HT:=zh (ic a);obtain ⟨r,hr⟩:∃r,rs[k]=r:=⟨_,rfl⟩;rw [hr] at j HR HM HT;clear hr;have hE:=HE.out;cases hp:p r with
    | true=>
      have HF:=zh (show rs.any p=true from j6.2 ⟨r,HM.out,hp⟩);rw [hp] at HR;clear hp;go_wp2_with fail;refine HR.mono ?_;rintro e w1 ⟨rfl,rfl⟩;clear hE;go_wp2_with fail;go_ret;exact ⟨.inl ⟨k,rfl,HF⟩,rfl⟩
    | false=>
      have HF:=zh hp;rw [hp] at HR;clear hp;go_wp2_with fail;refine HR.mono ?_;rintro e w1 ⟨rfl,rfl⟩;clear hE;go_wp2_with fail
      go_roundg (rs.length - (k+1))
      case measure=>rw [h.out];omega
      case rel=>exact ⟨k+1,oo,rfl,by go_num,rfl,λx hx=>by
       rw [HT.out,ip] at hx
       rcases hx with hx | hx
       . exact d.out x hx
       . rw [ia.1 hx];exact HF.out⟩
  . obtain rfl:k=rs.length:=oo
    have HF:=zh (show rs.any p=false from by
     rw [jT]
     intro x hx
     have:=d.out
     rw [j1] at this
     rw [this x hx]
     simp)
    go_wp2_with fail;go_ret;exact ⟨.inr ⟨rfl,HF⟩,rfl⟩
theorem Sg (hE:CF Tryz.prog fi) (hA:ListAt w w.heap.size 1 A (rs.map AI)) (hn:rs.length<=1000000)
 (HC:∀r∈rs,Calls Tryz.prog fi (#[]++#[.string r]++cs) w λe w'=>e=.returned (.bool (p r))/\w'=w):
 Calls Tryz.prog 63 #[.slice A rs.length c,.func (.func fi) #[] cs] w λe w'=>e=.returned (.bool (rs.any p))/\w'=w:=by
 have HX:=zh (ZS A c rs p fi cs w hE hA hn HC);clear hE hA HC;go_enter Tryz.func63,Tryz.ntmps63;go_wp2_with fail;refine HX.mono ?_;rintro e w1 ⟨hi,rfl⟩;rcases hi with ⟨i,rfl,he⟩ | ⟨rfl,he⟩
 . have HF:=zh he;have a:(0:Int)<=(i:Int):=oo;clear he;go_wp2_with fail;go_ret;exact ⟨AC (by rw [HF.out]),rfl⟩
 . have HF:=zh he;clear he;go_wp2_with fail;go_ret;exact ⟨AC (by rw [HF.out]),rfl⟩
end
theorem XV (g:Nat) (L:Int) (r:ByteArray) (w:World) (hb:Blk w g 3 #[.int .i64 L]):Calls Tryz.prog 64 (#[]++#[.string r]++#[.pointer (some ⟨g,0,none⟩)]) w λe w'=>e=.returned (.bool (decide (L<(r.size:Int))))/\w'=w:=by
 have x0:=hb.cell 0;have xl:=hb.lt;clear hb;go_enter Tryz.func64,Tryz.ntmps64;go_wp2_with fail;go_ret;exact ⟨rfl,rfl⟩
theorem Qe:CF Tryz.prog 64:=BD Tryz.func64 qk qk
theorem M6 {B:Nat} (hB:9<=B) {last r:ByteArray} (hl:last.size=0\/(4<=last.size/\last.size<=B)):
 ((DD B last r).1.size=0\/(4<=(DD B last r).1.size/\(DD B last r).1.size<=B))/\(∀b∈(DD B last r).2,4<=b.size/\b.size<=B)/\(DD B last r).2.length<=r.size+1/\((DD B last r).1.size≠0->last.size≠0):=by
 have a:∀(x:Seg),x.da.size<=B - 8->4<=(Df x).size/\(Df x).size<=B:=λx hx=>by rw [WG];omega
 have hz:nilB.size=0:=rfl;unfold DD;by_cases h1:last.size≠0/\(last.size+4+r.size<=B\/last.size+5<=B)
 . rw [if_pos h1];have c:(last.extract 4 last.size).size=last.size - 4:=by rw [i0];omega
   by_cases h2:last.size+4+r.size<=B
   . rw [if_pos h2];have hs:(Aa (last.extract 4 last.size++B1 ⟨false,false,r⟩)).size=last.size+4+r.size:=by rw [Bp,io,BE,c];simp only;omega
     exact ⟨.inr (by simp only;rw [hs];omega),λb hb=>(by cases hb),jL _,λ_=>h1.1⟩
   . rw [if_neg h2];have hd:(r.extract 0 (B - last.size - 4)).size=B - last.size - 4:=by rw [i0];omega
     have hs:(Aa (last.extract 4 last.size++B1 ⟨false,true,r.extract 0 (B - last.size - 4)⟩)).size=B:=by rw [Bp,io,BE,c];simp only;omega
     have d:(r.extract (B - last.size - 4) r.size).size=r.size - (B - last.size - 4):=by rw [i0];omega
     refine ⟨.inr (by simp only;rw [hs];omega),λb hb=>?_,?_,λ_=>h1.1⟩
     . obtain ⟨x,hx,rfl⟩:=ie.1 hb;exact a x (J9 oo _ _ _ oo (λ_=>oo) x hx).1
     . show (List.map Df _).length<=_;rw [iY];have:=JX (B - 8) r.size true (r.extract (B - last.size - 4) r.size);omega
 . rw [if_neg h1];refine ⟨.inl hz,λb hb=>?_,?_,λh=>absurd hz h⟩
   . obtain ⟨x,hx,rfl⟩:=ie.1 hb;exact a x (J9 oo _ _ _ (iX _) (λh=>by cases h) x hx).1
   . show (List.map Df _).length<=_;rw [iY];exact JX (B - 8) r.size false r

end
end Go.Proofs.YtmcgbdemcknkaaaGreatDoor
