/- Parts of the proof (packed), 24. -/
import Derived.Test.YtmcgbdemcknkaaaGreatDoorCwW
namespace Go.Proofs.YtmcgbdemcknkaaaGreatDoor
set_option linter.all false
set_option maxRecDepth 100000
set_option maxHeartbeats 16000000
open List
section
attribute [local go_sem ↓] Go.wp_at_zero Go.wp_at_succ
open Go.RowKit
theorem LQ (old:List ByteArray) (k:Nat) (s:ByteArray) (ss:List ByteArray):E6 old k (s::ss)=if old.length<=k\/old.getD k nilB≠s then (((1+k:Nat):Int),s)::E6 old (k+1) ss else E6 old (k+1) ss:=rfl
theorem aM (old a b:List ByteArray) (k:Nat):E6 old k (a++b)=E6 old k a++E6 old (k+a.length) b:=by
 induction a generalizing k with
 | nil=>rfl
 | cons x a ih=>
   rw [cons_append,jf,show k+(a.length+1)=k+1+a.length by omega,LQ,LQ,ih];split<;>rfl
theorem Xz {old l:List ByteArray} {i:Nat} (hi:i<l.length):E6 old 0 (l.take (i+1))=E6 old 0 (l.take i)++(if old.length<=i\/old.getD i nilB≠l[i] then [(((1+i:Nat):Int),l[i])] else []):=by
 rw [ic hi,aM,je,Nat.min_eq_left oo,kF];rfl
theorem Nt (old:List ByteArray):∀(l:List ByteArray) (k:Nat),(E6 old k l).length<=l.length
 | [],k=>iX _
 | s::l,k=>by
   have ih:=Nt old l (k+1);unfold E6;split
   . rw [jf,jf];omega
   . rw [jf];omega
def iO (w:World) (ws:List (Int × ByteArray)) (al:Bool) (e:Ending) (w':World):Prop:=
 (al=true->∃v,e=.returned (.tuple #[v,.int .i64 0])/\OwnL w' w.heap.size 41 2 v (ws.map wrF)/\Grew w w')/\(al=false->e=.returned (.tuple #[.slice none 0 0,.int .i64 2])/\Grew w w')
theorem R8 (id f F L B:Int) (n:Nat) (A:Option Addr) (c:Nat) (l:List ByteArray) (Ar:Option Addr) (cr:Nat) (rs:List ByteArray) (old:Cnt) (w:World) (K:CodesAt w) (I:bd L B) (hv:FX f F L B=true) (hn:(n:Int)<=mxN) (hA:ListAt w w.heap.size 1 A (l.map AI)) (hl:l.length<=60) (hs:∀s∈l,s.size<=1000)
 (M:ListAt w w.heap.size 1 Ar (rs.map AI)) (a6:rs.length<=1000) (hold:Hr F L B l=(old,0)) (ls:List ByteArray) (J:old.recs++rs=ls) (hw:wtS ls<=100000) (ci:old.str.size<=1000000):
 Calls Tryz.prog 11 #[dsV id f F L B,pgV A l.length c,.int .i64 (n:Int),.slice Ar rs.length cr] w (iO w (QH old (Dz F L B n ls)) (rs.all λr=>Di F L r.size)):=by
 have i:=(iW w).alloc (.cells (dsC id f F L B) 29);have N:=ik w 29 (dsC id f F L B) rfl;have a7:=DC ls;obtain ⟨b9,ca,cb⟩:=EY (Fk hv) ls;have HM:=zh (XX id f F L B n A c l Ar cr rs old _ (K.grew i) I hv hn (AG hA i) hl hs (AG M i) a6 hold ls J hw);have O:=zh i;have a8:=zh N;have o:=zh (show QH old (Dz F L B n ls)=(0,BV n ls.length (BB (BI F L B ls)).size)::E6 (BK old.str) 0 (BK (BB (BI F L B ls))) from rfl);have a9:(BB (BI F L B ls)).size<=2000000:=oo;obtain ⟨st,D⟩:∃z,BB (BI F L B ls)=z:=⟨_,rfl⟩;have bb:=zh D;rw [D] at o a9;obtain ⟨aw,ap⟩:∃z,QH old (Dz F L B n ls)=z:=⟨_,rfl⟩;rw [ap] at o ⊢;have cl:=cD hn;have bc:(BK st).length<=100000:=by rw [Ee];unfold Dp;omega
 have bf:(BK old.str).length<=100000:=by rw [Ee];unfold Dp;omega
 have cn:ls.length<=100000:=oo;obtain ⟨al,av⟩:∃z,(rs.all λr=>Di F L r.size)=z:=⟨_,rfl⟩;rw [av] at HM ⊢;clear K I hv hA M hs hold hw i N b9 ca cb D ap av J a7 hn;go_enter Tryz.func11,Tryz.ntmps11;go_wp2_with (refine AJ rfl 29 _ rfl w.heap.size rfl 29 _ _ a8 Tryz.underlying29 rfl Bj ?_);refine HM.mono ?_;rintro e w1 q;cases al with
 | false=>
   obtain ⟨rfl,g1⟩:=q.2 rfl;have p:=zh (((O.out.trans g1).alloc (.cells cnt0 64)).alloc (.cells cnt0 64));clear q g1;go_wp2_with fail;refine im (by first | (simp [*,results,Tryz.results11,go_sem];rfl) | simp [*,results,Tryz.results11,go_sem]) rfl ?_;exact ⟨λh=>(by cases h),λ_=>⟨rfl,p.out⟩⟩
 | true=>
   obtain ⟨A1,n1,c1,A2,n2,c2,A3,c3,A4,n4,c4,rfl,g1⟩:=q.1 rfl;rw [bb.out];have p:=zh (((O.out.trans g1).alloc (.cells #[.int .i64 (old.app:Int),.slice A1 n1 c1,.slice A2 n2 c2,.string old.str] 64)).alloc (.cells #[.int .i64 (n:Int),.slice A3 ls.length c3,.slice A4 n4 c4,.string st] 64));have P:=(ik w1 64 #[.int .i64 (old.app:Int),.slice A1 n1 c1,.slice A2 n2 c2,.string old.str] rfl).alloc (.cells #[.int .i64 (n:Int),.slice A3 ls.length c3,.slice A4 n4 c4,.string st] 64);have Q:=ik (w1.alloc (.cells #[.int .i64 (old.app:Int),.slice A1 n1 c1,.slice A2 n2 c2,.string old.str] 64)) 64 #[.int .i64 (n:Int),.slice A3 ls.length c3,.slice A4 n4 c4,.string st] (n:=w1.heap.size+1) qs;have bk:=zh Q;have bl:=zh P;clear q g1 P Q;go_wp2_with (refine AJ rfl 64 _ rfl w1.heap.size rfl 64 _ _ bl Tryz.underlying64 rfl AZ ?_);refine (Hw _ _ _ old.str _ oo).mono ?_;rintro e w2 ⟨vo,rfl,u,g2⟩;obtain ⟨A5,c5,a0,a1,cs,-⟩:=u.listAt;rw [iY] at a0 a1;subst a0;have R:=zh (p.out.trans g2);have S:=zh (bk.grew g2);have bs:=zh (u.mono (base':=w.heap.size) p.size);clear g2 u;go_wp2_with (refine AJ rfl 64 _ rfl (w1.heap.size+1) rfl 64 _ _ S Tryz.underlying64 rfl AZ ?_);refine (P0 n ls.length A3 c3 _ st _ oo oo oo).mono ?_;rintro e w3 ⟨rfl,g3⟩;have T:=zh ((R.out.trans g3).alloc (.cells #[.int .i64 0,.string (BV n ls.length st.size)] 41));have bt:=zh ((S.grew g3).alloc (.cells #[.int .i64 0,.string (BV n ls.length st.size)] 41));have bv:=zh ((bs.grew g3).alloc (.cells #[.int .i64 0,.string (BV n ls.length st.size)] 41));have bx:=zh (OwnL.lit w3 w.heap.size 41 2 (wrF (0,BV n ls.length st.size)) rfl (R.out.trans g3).size rfl);clear g3;go_wp2_with (refine AJ rfl 64 _ rfl (w1.heap.size+1) rfl 64 _ _ bt Tryz.underlying64 rfl AZ ?_);refine (Hw _ _ _ st _ oo).mono ?_;rintro e w4 ⟨vs,rfl,v,g4⟩;obtain ⟨A6,c6,a2,a3,ct,-⟩:=v.listAt;rw [iY] at a2 a3;subst a2;have b0:=zh (T.out.trans g4);have U:=zh (bv.grew g4);have V:=zh (bx.grew g4);have W:=zh (v.mono (base':=w.heap.size) T.size);clear g4 v;go_wp2_with fail;obtain ⟨hd,E⟩:∃z,BV n ls.length st.size=z:=⟨_,rfl⟩;obtain ⟨ol,G⟩:∃z,BK old.str=z:=⟨_,rfl⟩;obtain ⟨nl,H⟩:∃z,BK st=z:=⟨_,rfl⟩;rw [E,G,H] at o;rw [E] at V;rw [G] at U bf a1 ⊢;rw [H] at W bc a3 ⊢;clear E G H
   go_loopg [14,37] nl.length (λgk ov iv wr=>∃k:Nat,k<=nl.length/\gk=nl.length - k/\iv=.int .i64 (k:Int)/\OwnL wr w.heap.size 41 2 ov (((0,hd)::E6 ol 0 (nl.take k)).map wrF)/\OwnL wr w.heap.size 9 1 (.slice A5 ol.length c5) (ol.map AI)/\OwnL wr w.heap.size 9 1 (.slice A6 nl.length c6) (nl.map AI)/\Grew w wr)
   case atStart=>exact ⟨0,oo,oo,rfl,V,U,W,b0⟩
   case round=>
    obtain ⟨k,hk,a4,rfl,h1,h2,h3,h4⟩:=hrel;have t:=zh a4;have HO:=zh h1;have HX:=zh h2;have HN:=zh h3;have HG:=zh h4;have co:=h4.size;clear a4 h1 h2 h3 h4;by_cases ag:k<nl.length
    . obtain ⟨b,cu,cc,cv,ce⟩:=Cx HN.listA ag;subst cc;have HT:=zh (Xz (old:=ol) ag);have X:=Nt ol (nl.take k) 0;rw [je] at X;obtain ⟨x,hx⟩:∃z,nl[k]=z:=⟨_,rfl⟩;rw [hx] at ce HT;obtain ⟨dn,a5⟩:∃z,E6 ol 0 (nl.take k)=z:=⟨_,rfl⟩;rw [a5] at HO HT X;have d:(((0,hd)::dn).map wrF).length=dn.length+1:=qs;have Y:=zh (LE HO HX qd);have Z:=zh (LE HO HN qd);have ad:((1+k:Nat):Int)=1+(k:Int):=oo;rw [ad] at HT;clear hx a5 ad;by_cases an:ol.length<=k
      . have b1:(ol.length:Int)<=(k:Int):=oo;have j:=zh (show E6 ol 0 (nl.take (k+1))=dn++[((1+(k:Int)),x)] from by rw [HT.out,if_pos (.inl an)]);clear HT;go_wp2_with (at_builtin;refine Bh rfl _ _ 37 rfl w.heap.size 41 2 24 (.agg #[.int .i64 0,.string ⟨#[]⟩]) Tryz.underlying37 NH rfl qd (wr.alloc (.cells #[.int .i64 (1+(k:Int)),.string x] 41)) _ (((0,hd)::dn).map wrF) [.int .i64 (1+(k:Int)),.string x] rfl (by first | rfl | (simp;done)) (HO.alloc _) wr.heap.size (by first | rfl | (simp;done)) (ik _ _ _ rfl) rfl (by rw [d];omega) (by rw [d];omega) (by simp;omega) (dn.length+1) d ?_;intro g cap w6 C a b4 b5)
        go_roundg (nl.length - (k+1))
        case measure=>rw [t.out];omega
        case rel=>exact ⟨k+1,oo,oo,by go_num,by rw [j.out,<-cons_append,il];exact C,(HX.alloc _).own a (λg h1 h2=>Y g h2 h1),(HN.alloc _).own a (λg h1 h2=>Z g h2 h1),Grew.own (HG.alloc _) a HO.row_ge (iX _)⟩
      . have b1:¬(ol.length:Int)<=(k:Int):=oo;obtain ⟨b2,cw,cf,cx,ch⟩:=Cx HX.listA (show k<ol.length by omega);subst cf;have af:ol.getD k nilB=ol[k]:=by rw [iu,iV oo];rfl
        rw [af] at HT;obtain ⟨y,hy⟩:∃z,ol[k]'oo=z:=⟨_,rfl⟩;rw [hy] at ch HT;clear af hy;by_cases m:y=x
        . subst m;have j:=zh (show E6 ol 0 (nl.take (k+1))=dn from by rw [HT.out,if_neg (by rintro (h | h);exact an h;exact h rfl),append_nil]);clear HT;go_wp2_with fail
          go_roundg (nl.length - (k+1))
          case measure=>rw [t.out];omega
          case rel=>exact ⟨k+1,oo,oo,by go_num,by rw [j.out];exact HO.out,HX,HN,HG⟩
        . have j:=zh (show E6 ol 0 (nl.take (k+1))=dn++[((1+(k:Int)),x)] from by rw [HT.out,if_pos (.inr m)]);have cp:(y.toList==x.toList)=false:=by rw [it];exact λh9=>m (IE h9)
          have cq:¬y.toList=x.toList:=λh9=>m (IE h9);clear HT m;go_wp2_with (at_builtin;refine Bh rfl _ _ 37 rfl w.heap.size 41 2 24 (.agg #[.int .i64 0,.string ⟨#[]⟩]) Tryz.underlying37 NH rfl qd (wr.alloc (.cells #[.int .i64 (1+(k:Int)),.string x] 41)) _ (((0,hd)::dn).map wrF) [.int .i64 (1+(k:Int)),.string x] rfl (by first | rfl | (simp;done)) (HO.alloc _) wr.heap.size (by first | rfl | (simp;done)) (ik _ _ _ rfl) rfl (by rw [d];omega) (by rw [d];omega) (by simp;omega) (dn.length+1) d ?_;intro g cap w6 C a b4 b5)
          go_roundg (nl.length - (k+1))
          case measure=>rw [t.out];omega
          case rel=>exact ⟨k+1,oo,oo,by go_num,by rw [j.out,<-cons_append,il];exact C,(HX.alloc _).own a (λg h1 h2=>Y g h2 h1),(HN.alloc _).own a (λg h1 h2=>Z g h2 h1),Grew.own (HG.alloc _) a HO.row_ge (iX _)⟩
    . obtain rfl:k=nl.length:=oo;have b3:=zh (show nl.take nl.length=nl from j1);go_wp2_with fail;refine im (by first | (simp [*,results,Tryz.results11,go_sem];rfl) | simp [*,results,Tryz.results11,go_sem]) rfl ?_;exact ⟨λ_=>⟨_,rfl,by have h9:=HO.out;rw [b3.out] at h9;rw [o.out];exact h9,HG⟩,λh=>(by cases h)⟩

end
end Go.Proofs.YtmcgbdemcknkaaaGreatDoor
