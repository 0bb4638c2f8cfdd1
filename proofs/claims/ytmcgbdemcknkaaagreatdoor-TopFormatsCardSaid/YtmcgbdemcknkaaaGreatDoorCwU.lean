/- Parts of the proof (packed), 21. -/
import Derived.Test.YtmcgbdemcknkaaaGreatDoorCwS
namespace Go.Proofs.YtmcgbdemcknkaaaGreatDoor
set_option linter.all false
set_option maxRecDepth 100000
set_option maxHeartbeats 16000000
open List
section
attribute [local go_sem ↓] Go.wp_at_zero Go.wp_at_succ
open Go.RowKit
theorem Eg (l:List ByteArray):∀r∈l.map AI,r.length=1:=λr hr=>by obtain ⟨x,_,rfl⟩:=ie.1 hr;rfl
theorem Ef (l:List ByteArray):∀r∈l.map AI,r.all (·.oneCell')=true:=λr hr=>by obtain ⟨x,_,rfl⟩:=ie.1 hr;rfl
theorem Lc {B:Nat} (hB:9<=B) {out:List ByteArray} (h:∀b∈out,4<=b.size/\b.size<=B) (r:ByteArray):(∀b∈CO B out r,4<=b.size/\b.size<=B)/\(CO B out r).length<=out.length+(r.size+1):=by
 have hl:(out.getLast?.getD nilB).size=0\/(4<=(out.getLast?.getD nilB).size/\(out.getLast?.getD nilB).size<=B):=by
  rcases eq_nil_or_concat out with rfl | ⟨i,b,rfl⟩
  . exact .inl rfl
  . rw [concat_eq_append,C0];exact .inr (h b qs)
 obtain ⟨h1,h2,h3,h4⟩:=M6 hB hl (r:=r);unfold CO;obtain ⟨⟨c,m⟩,hr⟩:∃z,DD B (out.getLast?.getD nilB) r=z:=⟨_,rfl⟩;rw [hr] at h1 h2 h3 h4 ⊢;simp only at h1 h2 h3 h4 ⊢;by_cases hc:c.size=0
 . rw [if_pos hc];refine ⟨λb hb=>?_,by rw [iy];omega⟩;rcases ip.1 hb with hb | hb
   . exact h b hb
   . exact h2 b hb
 . rw [if_neg hc];have a:out≠[]:=λh0=>h4 hc (by rw [h0];rfl);have d:1<=out.length:=length_pos_iff.2 a;refine ⟨λb hb=>?_,by rw [iy,iy,List.length_dropLast,ju];omega⟩;rcases ip.1 hb with hb | hb
   . rcases ip.1 hb with hb | hb
     . exact h b ((List.dropLast_sublist out).subset hb)
     . rw [ia.1 hb];exact h1.resolve_left hc
   . exact h2 b hb
theorem WB {B:Nat} {r c:ByteArray} {m:List ByteArray} (h:DD B ⟨#[]⟩ r=(c,m)) (hc:c.size=0):CO B [] r=[]++m:=by
 unfold CO;show (if (DD B ⟨#[]⟩ r).1.size=0 then [] else _)++(DD B ⟨#[]⟩ r).2=_;rw [h,if_pos hc]
theorem UL {B:Nat} {i:List ByteArray} {b r c:ByteArray} {m:List ByteArray} (h:DD B b r=(c,m)) (hc:c.size=0):CO B (i++[b]) r=(i++[b])++m:=by
 unfold CO;rw [C0,h,if_pos hc]
theorem XP {B:Nat} {i:List ByteArray} {b r c:ByteArray} {m:List ByteArray} (h:DD B b r=(c,m)) (hc:c.size≠0):CO B (i++[b]) r=(i++[c])++m:=by
 unfold CO;rw [C0,h,if_neg hc,dropLast_concat]
theorem Fm (L B:Int) (A:Option Addr) (c:Nat) (rs:List ByteArray) (w:World) (U:CodesAt w) (l0:-9223372036854775808<=L) (l1:L<=9223372036854775807) (b0:-9223372036854775808<=B) (b1:B<=9223372036854775807) (hA:ListAt w w.heap.size 1 A (rs.map AI)) (hc:rs.length<=c) (aw:c<=9223372036854775807) (hn:rs.length<=1000000):
 Calls Tryz.prog 25 #[.int .i64 L,.int .i64 B,.slice A rs.length c] w λe w'=>∃v,e=.returned (.tuple #[v,.int .i64 (C3 L B rs).2])/\OwnL w' w.heap.size 9 1 v ((C3 L B rs).1.map AI)/\Grew w w':=by
 have K:=(iW w).alloc (.cells #[.int .i64 L] 3);have C:=ik w 3 #[.int .i64 L] rfl;have HV:=zh (IC L B (w.alloc (.cells #[.int .i64 L] 3)) l0 l1 b0 b1);have x0:=C.cell 0;have xl:=C.lt;have M:=zh K;have af:=zh hA;have HA:=zh (AG hA K);have V:=zh U;have ag:=zh C;clear K C hA U;cases f:sOk L B with
 | false=>
   rw [f] at HV;have HP:=zh (show C3 L B rs=([],1) from by unfold C3;rw [if_pos f]);clear f;go_enter Tryz.func25,Tryz.ntmps25;go_wp2_with fail;refine HV.mono ?_;rintro e w1 ⟨rfl,rfl⟩;go_wp2_with fail;refine im (by first | (simp [*,results,Tryz.results25,go_sem];rfl) | simp [*,results,Tryz.results25,go_sem]) rfl ?_;exact ⟨_,by rw [HP.out],by rw [HP.out];exact OwnL.nil _ _ _ _,M⟩
 | true=>
   rw [f] at HV;have ho:=Ea f;have HK:=zh f;obtain ⟨Bn,rfl⟩:∃Bn:Nat,B=(Bn:Int):=⟨B.toNat,oo⟩;have HH:=zh (Sg A c rs (λr=>decide (L<(r.size:Int))) 64 #[.pointer (some ⟨w.heap.size,0,none⟩)] _ Qe HA hn (λr _=>XV w.heap.size L r _ ag));cases y:rs.any (λr=>decide (L<(r.size:Int))) with
   | true=>
     rw [y] at HH;have HP:=zh (show C3 L (Bn:Int) rs=([],2) from by unfold C3;rw [if_neg (by rw [f];simp),if_pos y]);clear y f;go_enter Tryz.func25,Tryz.ntmps25;go_wp2_with fail;refine HV.mono ?_;rintro e w1 ⟨rfl,rfl⟩;go_wp2_with fail;refine HH.mono ?_;rintro e w1 ⟨rfl,rfl⟩;go_wp2_with fail;refine im (by first | (simp [*,results,Tryz.results25,go_sem];rfl) | simp [*,results,Tryz.results25,go_sem]) rfl ?_;exact ⟨_,by rw [HP.out],by rw [HP.out];exact OwnL.nil _ _ _ _,M⟩
   | false=>
     rw [y] at HH;have HP:=zh (show C3 L (Bn:Int) rs=(rs.foldl (CO Bn) [],0) from by unfold C3;rw [if_neg (by rw [f];simp),if_neg (by rw [y];simp),i9])
     have al:=zh (show ∀r∈rs,r.size<=1000 from λr hr=>by
      have:=jT.1 y r hr
      simp only [jG] at this
      omega)
     have J:9<=Bn/\Bn<=1024:=oo;clear y f ho;go_enter Tryz.func25,Tryz.ntmps25;go_wp2_with fail;refine HV.mono ?_;rintro e w1 ⟨rfl,rfl⟩;go_wp2_with fail;refine HH.mono ?_;rintro e w1 ⟨rfl,rfl⟩;go_wp2_with fail
     go_loopg [8,23] rs.length (λgk ov iv wr=>∃(k:Nat) (done:List ByteArray),k<=rs.length/\gk=rs.length - k/\iv=.int .i64 k/\done.length<=1001*k/\(∀b∈done,4<=b.size/\b.size<=Bn)/\rs.foldl (CO Bn) []=(rs.drop k).foldl (CO Bn) done/\OwnL wr w.heap.size 9 1 ov (done.map AI)/\Grew w wr)
     case atStart=>exact ⟨0,[],oo,oo,rfl,qs,λb hb=>(by cases hb),by rw [drop_zero],OwnL.nil _ _ _ _,M.out⟩
     case round=>
      obtain ⟨k,done,hk,Z,rfl,h1,h2,h3,h4,h5⟩:=hrel;have HX:=zh (And.intro h3 h4);have HG:=zh h5;have N:=zh Z;have W:=zh h2;have a0:=h5.size;clear Z h2 h3 h4 h5 x0 xl;by_cases S:k<rs.length
      . obtain ⟨b,a3,rfl,a4,an⟩:=Cx (AG af HG) S;have O:=al.out rs[k] (ib S);have HD:=zh (show rs.drop k=rs[k]::rs.drop (k+1) from jz S);obtain ⟨r,hr⟩:∃r,rs[k]=r:=⟨_,rfl⟩;rw [hr] at an O HD;have P:=zh (show rs.foldl (CO Bn) []=(rs.drop (k+1)).foldl (CO Bn) (CO Bn done r) from by rw [HX.out.1,HD.out];rfl);have l:=zh (Lc J.1 W r);clear hr;rcases eq_nil_or_concat done with hd | ⟨a,b0,hd⟩
        . subst hd;have HO:=zh HX.2;obtain ⟨Av,cv,hv,k1,k2,_⟩:=HO.listAt;rw [show (List.map AI []).length=0 from rfl] at hv k1;subst hv;obtain ⟨⟨ch,mo⟩,hr⟩:∃z,DD Bn ⟨#[]⟩ r=z:=⟨_,rfl⟩
          have d:ch.size=0:=by
           have:=(M6 J.1 (last:=⟨#[]⟩) (r:=r) (.inl rfl)).2.2.2;rw [hr] at this;exact Classical.byContradiction λh=>this h rfl
          obtain rfl:=DX d;have n:=zh (WB hr d);have X:mo.length<=1001:=by have:=l.2;rw [n.out] at this;simp at this;omega
          have m:=λw1 (g:Grew w w1)=>RY Bn ⟨#[]⟩ r w1 (V.grew g) J (.inl rfl) (by show 0<=1024;omega) O;rw [hr] at m;dsimp only at m;have Q:=zh m;clear m hr d;go_wp2_with fail;refine (Q _ HG).mono ?_;rintro e w5 ⟨v9,rfl,x,g5⟩;obtain ⟨A9,c9,I,T,ap,D⟩:=x.listAt;rw [iY] at I T;subst I;have s:=zh (HO.grew g5);have t:=zh (HG.out.trans g5);have E:=zh D;have F:w.heap.size<=w5.heap.size:=t.size;clear x g5 D;go_wp2_with (at_builtin;refine Ab (by rfl) _ _ 24 rfl w.heap.size 9 1 16 _ Tryz.underlying24 BQ rfl qd _ (List.map AI []) (mo.map AI) (by rfl) s A9 mo.length c9 (by rfl) (by rw [iY]) (Eg _) E (Ef _) (by simp;omega) (by simp;omega) F ?_;intro v6 w6 G H Y)
          go_roundg (rs.length - (k+1))
          case measure=>rw [N.out];omega
          case rel=>exact ⟨k+1,CO Bn [] r,oo,rfl,by go_num,by have:=l.2;omega,l.1,P,by rw [n.out,il];exact G,Grew.own t H s.row_ge (iX _)⟩
        . rw [concat_eq_append] at hd;subst hd;have HO:=zh HX.2;obtain ⟨g,cap,hv,av,ad⟩:=HO.some_ qs;obtain ⟨q,hq⟩:∃q,a.length=q:=⟨_,rfl⟩;rw [show (List.map AI (a++[b0])).length=q+1 from by simp [hq]] at hv;rw [iy,ju,hq] at h1;subst hv;have HQ:=zh hq;have a1:a.length+1<=1001*k:=by rw [hq];exact h1
          have y0:wr.cell? ⟨g,q,none⟩=some (.string b0):=by
           have:=HO.cell (j:=q) (i:=0) (r:=[.string b0]) (u:=.string b0) (by rw [il,<-hq,jW qs];simp [AI]) rfl;rwa [Nat.mul_one,jo] at this
          have C:=W.out b0 qs;obtain ⟨⟨ch,mo⟩,hr⟩:∃z,DD Bn b0 r=z:=⟨_,rfl⟩;have m:=λw1 (g:Grew w w1)=>RY Bn b0 r w1 (V.grew g) J (.inr C.1) oo O;rw [hr] at m;dsimp only at m;have Q:=zh m;have HR:=zh hr;clear m hr hq;go_wp2_with fail;refine (Q _ HG).mono ?_;rintro e w5 ⟨v9,rfl,x,g5⟩;obtain ⟨A9,c9,I,T,ap,D⟩:=x.listAt;rw [iY] at I T;subst I;by_cases d:ch.size=0
          . obtain rfl:=DX d;have n:=zh (UL (i:=a) HR d);have X:mo.length<=1001:=by have:=l.2;rw [n.out,iy] at this;omega
            have s:=zh (HO.grew g5);have t:=zh (HG.out.trans g5);have E:=zh D;have F:w.heap.size<=w5.heap.size:=t.size;clear x g5 D d;go_wp2_with (at_builtin;refine Ab (by rfl) _ _ 24 rfl w.heap.size 9 1 16 _ Tryz.underlying24 BQ rfl qd _ (List.map AI (a++[b0])) (mo.map AI) (by rfl) s A9 mo.length c9 (by rfl) (by rw [iY]) (Eg _) E (Ef _) (by simp;omega) (by simp;omega) F ?_;intro v6 w6 G H Y)
            go_roundg (rs.length - (k+1))
            case measure=>rw [N.out];omega
            case rel=>exact ⟨k+1,CO Bn (a++[b0]) r,oo,rfl,by go_num,by have:=l.2;rw [iy,ju,HQ.out] at this;omega,l.1,P,by rw [n.out,il];exact G,Grew.own t H s.row_ge (iX _)⟩
          . have a2:=Cp d;have n:=zh (XP (i:=a) HR d);have X:mo.length<=1001:=by have:=l.2;rw [n.out] at this;simp at this;omega
            have R:=HO.grew g5;have y1:w5.cell? ⟨g,q,none⟩=some (.string b0):=(g5.cellEq g q ad).trans y0;have yf:=R.frozen q;have yl:g<w5.heap.size:=ig ad g5.size
            have s:=zh (show OwnL (w5.setCell ⟨g,q,none⟩ (.string ch)) w.heap.size 9 1 (.slice (some ⟨g,0,none⟩) (q+1) cap) ((a++[ch]).map AI) from by
             have:=R.set_ (j:=q) (i:=0) (o:=q) (r:=[.string b0]) (by rw [il,<-HQ.out,jW qs];simp [AI]) oo oo (.string ch)
             rw [show (List.map AI (a++[b0])).set q ([Value.string b0].set 0 (.string ch))=(a++[ch]).map AI from by rw [il,il,<-HQ.out,List.set_append_right _ _ qs];simp [AI]] at this
             exact this)
            have t:=zh ((HG.out.trans g5).setCell (p:=⟨g,q,none⟩) av (.string ch));have E:=zh (show ListAt (w5.setCell ⟨g,q,none⟩ (.string ch)) _ 1 A9 (mo.map AI) from (x.far (λh9=>by have:=(x.own_ge h9).1;show False;have:wr.heap.size<=g:=this;omega) (.string ch)).listA);have F:w.heap.size<=(w5.setCell ⟨g,q,none⟩ (.string ch)).heap.size:=t.size;clear x g5 D R d;go_wp2_with (at_builtin;refine Ab (by rfl) _ _ 24 rfl w.heap.size 9 1 16 _ Tryz.underlying24 BQ rfl qd _ (List.map AI (a++[ch])) (mo.map AI) (by rfl) s A9 mo.length c9 (by rfl) (by rw [iY]) (Eg _) E (Ef _) (by simp;omega) (by simp;omega) F ?_;intro v6 w6 G H Y)
            go_roundg (rs.length - (k+1))
            case measure=>rw [N.out];omega
            case rel=>exact ⟨k+1,CO Bn (a++[b0]) r,oo,rfl,by go_num,by have:=l.2;rw [iy,ju,HQ.out] at this;omega,l.1,P,by rw [n.out,il];exact G,Grew.own t H s.row_ge (iX _)⟩
      . obtain rfl:k=rs.length:=oo;have HE:=zh (show C3 L (Bn:Int) rs=(done,0) from by rw [HP.out,HX.out.1,List.drop_length];rfl);go_wp2_with fail;refine im (by first | (simp [*,results,Tryz.results25,go_sem];rfl) | simp [*,results,Tryz.results25,go_sem]) rfl ?_;exact ⟨_,by rw [HE.out],by rw [HE.out];exact HX.2,HG⟩

def Jp (x:Seg):List Value:=[.bool x.bf,.bool x.af,.string x.da]
theorem G6:(Tryz.prog.info? 172).map (λi=>(i.zero,i.size,i.bytes))=some (some (.agg #[.bool false,.bool false,.string ⟨#[]⟩]),3,24):=qk
theorem T7 {L:Int} {full:Bool} {f:Nat} {st:Bool} {s:ByteArray} (h:s.size=0):BL L full f st s=([],true):=by
 cases f with
 | zero=>unfold BL;rw [iq h]
 | succ f=>unfold BL;rw [if_pos h]
theorem Uu {L:Int} {full:Bool} {f:Nat} {st:Bool} {s:ByteArray} (hf:1<=f) (h:s.size≠0)
 (hb:(s.size<4\/3<(Ag s).2\/at8 s 3≠0)\/((Ag s).1<4\/s.size<(Ag s).1\/L<((Ag s).1:Int) - 4\/((Ag s).1=4/\(Ag s).2≠0))\/((2<=(Ag s).2/\st=true)\/((Ag s).2 % 2=1/\(s.size≠(Ag s).1\/full=false)))):BL L full f st s=([],false):=by
 cases f with
 | zero=>omega
 | succ f=>
   unfold BL;rw [if_neg h];by_cases h1:s.size<4\/3<(Ag s).2\/at8 s 3≠0
   . rw [if_pos h1]
   . rw [if_neg h1];by_cases h2:(Ag s).1<4\/s.size<(Ag s).1\/L<((Ag s).1:Int) - 4\/((Ag s).1=4/\(Ag s).2≠0)
     . rw [if_pos h2]
     . rw [if_neg h2,if_pos ((hb.resolve_left h1).resolve_left h2)]
theorem Rw {L:Int} {full:Bool} {f:Nat} {st:Bool} {s:ByteArray} (hf:1<=f) (h:s.size≠0) (h1:¬(s.size<4\/3<(Ag s).2\/at8 s 3≠0)) (h2:¬((Ag s).1<4\/s.size<(Ag s).1\/L<((Ag s).1:Int) - 4\/((Ag s).1=4/\(Ag s).2≠0)))
 (h3:¬((2<=(Ag s).2/\st=true)\/((Ag s).2 % 2=1/\(s.size≠(Ag s).1\/full=false)))):BL L full f st s=(⟨decide (2<=(Ag s).2),decide ((Ag s).2 % 2=1),s.extract 4 (Ag s).1⟩::(BL L full (f - 1) true (s.extract (Ag s).1 s.size)).1,(BL L full (f - 1) true (s.extract (Ag s).1 s.size)).2):=by
 cases f with
 | zero=>omega
 | succ f=>
   rw [Nat.add_sub_cancel];show (if s.size=0 then ([],true) else _)=_;rw [if_neg h,if_neg h1,if_neg h2,if_neg h3]
theorem Ko (n:Int) (h:-9223372036854775808<=n/\n<=9223372036854775807):wrap64 n=n:=by unfold wrap64;omega
theorem dt (c0 c1:UInt8):bits .or .i64 (wrap64 (wrap64 (c0.toNat:Int)*256)) (wrap64 (c1.toNat:Int))=((256*c0.toNat+c1.toNat:Nat):Int):=by
 have m0:=c0.toNat_lt;have m1:=c1.toNat_lt;rw [Ko (c0.toNat:Int) oo,Ko ((c0.toNat:Int)*256) oo,Ko (c1.toNat:Int) oo];exact iI c0.toNat c1.toNat m0 m1
theorem CodesAt.at_ {w:World} (h:CodesAt w) {k:Nat} (hk:k<4):w.cell? ⟨0,k*2,none⟩=some (.bool (decide (2<=k)))/\w.cell? ⟨0,k*2+1,none⟩=some (.bool (decide (k % 2=1))):=by
 rcases (show k=0\/k=1\/k=2\/k=3 by omega) with rfl | rfl | rfl | rfl
 . exact ⟨h.c0,h.c1⟩
 . exact ⟨h.c2,h.c3⟩
 . exact ⟨h.c4,h.c5⟩
 . exact ⟨h.c6,h.c7⟩
theorem X2 (L B:Int) (s:ByteArray) (w:World) (Z:CodesAt w) (l0:-9223372036854775808<=L) (l1:L<=9223372036854775807) (b0:-9223372036854775808<=B) (b1:B<=9223372036854775807) (hs:s.size<=1000000):
 Calls Tryz.prog 60 #[.int .i64 L,.int .i64 B,.string s] w λe w'=>∃v,e=.returned (.tuple #[v,.int .i64 (BO L B s).2])/\OwnL w' w.heap.size 172 3 v ((BO L B s).1.map Jp)/\Grew w w':=by
 have HV:=zh (IC L B w l0 l1 b0 b1);have ad:=zh Z;have cc:(s.size:Int)<=1000000:=oo;clear Z;cases u:sOk L B with
 | false=>
   rw [u] at HV;have HE:=zh (show BO L B s=([],1) from by unfold BO;rw [if_pos u]);clear u;go_enter Tryz.func60,Tryz.ntmps60;go_wp2_with fail;refine HV.mono ?_;rintro e w1 ⟨rfl,rfl⟩;go_wp2_with fail;refine im (by first | (simp [*,results,Tryz.results60,go_sem];rfl) | simp [*,results,Tryz.results60,go_sem]) rfl ?_;exact ⟨_,by rw [HE.out],by rw [HE.out];exact OwnL.nil _ _ _ _,iW _⟩
 | true=>
   rw [u] at HV;have ho:=Ea u;have HU:=zh (show BO L B s=if s.size<8\/B<(s.size:Int) then ([],11) else if rdW (s.extract 0 4)≠(s.size,true) then ([],11) else if (BL L (decide ((s.size:Int)=B)) s.size false (s.extract 4 s.size)).2=true then ((BL L (decide ((s.size:Int)=B)) s.size false (s.extract 4 s.size)).1,0) else ([],11) from by unfold BO;rw [if_neg (by rw [u];simp)]);clear u;by_cases h1:s.size<8\/B<(s.size:Int)
   . have HE:=zh (show BO L B s=([],11) from by rw [HU.out,if_pos h1]);clear HU;rcases (show (s.size:Int)<8\/(¬(s.size:Int)<8/\B<(s.size:Int)) by omega) with h2 | ⟨h2,h3⟩
     all_goals
      clear h1;go_enter Tryz.func60,Tryz.ntmps60;go_wp2_with fail;refine HV.mono ?_;rintro e w1 ⟨rfl,rfl⟩;go_wp2_with fail;refine im (by first | (simp [*,results,Tryz.results60,go_sem];rfl) | simp [*,results,Tryz.results60,go_sem]) rfl ?_;exact ⟨_,by rw [HE.out],by rw [HE.out];exact OwnL.nil _ _ _ _,iW _⟩
   . have h2:¬s.size<8:=oo;have ce:¬(s.size:Int)<8:=oo;have h3:¬B<(s.size:Int):=oo;rw [if_neg h1] at HU;clear h1;have hz:(s.extract 0 4).size=4:=by rw [i0];omega
     have HR:=zh (λw=>Gb (s.extract 0 4) w oo);have af:=Tn (s.extract 0 4);obtain ⟨⟨n,ok⟩,hn⟩:∃r,rdW (s.extract 0 4)=r:=⟨_,rfl⟩;rw [hn] at HR af HU;simp only at af;clear hn hz;by_cases h4:ok=true/\n=s.size
     . obtain ⟨rfl,rfl⟩:=h4;rw [if_neg qs] at HU;obtain ⟨full,U⟩:∃b,decide ((s.size:Int)=B)=b:=⟨_,rfl⟩;rw [U] at HU;obtain ⟨s0,M⟩:∃s0,s.extract 4 s.size=s0:=⟨_,rfl⟩;have cf:s0.size=s.size - 4:=by rw [<-M,i0];omega
       have bc:=zh M;have D:=zh U;rw [M] at HU;clear M U;go_enter Tryz.func60,Tryz.ntmps60;go_wp2_with fail;refine HV.mono ?_;rintro e w1 ⟨rfl,rfl⟩;go_wp2_with fail;refine (HR _).mono ?_;rintro e w2 ⟨rfl,g2⟩;have i:=zh g2;clear g2;go_wp2_with fail;rw [bc.out]
       go_loopg [10,11] s0.size (λgk ov sv wr=>∃(t:ByteArray) (done:List Seg) (f:Nat),sv=.string t/\gk=t.size/\t.size<=f/\done.length+t.size<=s.size/\BL L full s.size false s0=(done++(BL L full f (decide (0<done.length)) t).1,(BL L full f (decide (0<done.length)) t).2)/\OwnL wr w1.heap.size 172 3 ov (done.map Jp)/\Grew w1 wr)
       case atStart=>exact ⟨s0,[],s.size,rfl,oo,oo,by simp;omega,rfl,OwnL.nil _ _ _ _,i⟩
       case round=>
        obtain ⟨t,done,f,rfl,aw,h4,h5,h6,h7,h8⟩:=hrel;have HX:=zh (And.intro h6 (And.intro h7 h8));have E:=zh aw;have bf:=h8.size;clear h6 h7 h8 aw;by_cases ht:t.size=0
        . obtain rfl:=DX ht
          have HE:=zh (show BO L B s=(done,0) from by
           have e:=HX.1
           rw [T7 (L:=L) (full:=full) (f:=f) (st:=decide (0<done.length)) (s:=⟨#[]⟩) rfl,append_nil] at e
           rw [HU.out,e,if_pos rfl])
          go_wp2_with fail;refine im (by first | (simp [*,results,Tryz.results60,go_sem];rfl) | simp [*,results,Tryz.results60,go_sem]) rfl ?_;exact ⟨_,by rw [HE.out],by rw [HE.out];exact HX.2.1,HX.2.2⟩
        . have ch:=Cp ht
          have j:=zh (λhb=>(show BO L B s=([],11) from by
           have e:=HX.1
           rw [Uu (f:=f) (st:=decide (0<done.length)) oo ht hb] at e
           rw [HU.out,e,if_neg qs]))
          by_cases b3:t.size<4
          . have HE:=zh (j (.inl (.inl b3)));have bk:(t.size:Int)<4:=oo;clear j;go_wp2_with fail;refine im (by first | (simp [*,results,Tryz.results60,go_sem];rfl) | simp [*,results,Tryz.results60,go_sem]) rfl ?_;exact ⟨_,by rw [HE.out],by rw [HE.out];exact OwnL.nil _ _ _ _,HX.2.2⟩
          . have bk:¬(t.size:Int)<4:=oo;have k0:0<t.size:=oo;have k1:1<t.size:=oo;have k2:2<t.size:=oo;have k3:3<t.size:=oo;obtain ⟨c0,b4⟩:∃c,t[0]'k0=c:=⟨_,rfl⟩;obtain ⟨c1,b5⟩:∃c,t[1]'k1=c:=⟨_,rfl⟩;obtain ⟨c2,b9⟩:∃c,t[2]'k2=c:=⟨_,rfl⟩;obtain ⟨c3,ca⟩:∃c,t[3]'k3=c:=⟨_,rfl⟩;have O:Ag t=(256*c0.toNat+c1.toNat,c2.toNat):=by unfold Ag;rw [E4 k0,E4 k1,E4 k2,b4,b5,b9]
            have P:at8 t 3=c3.toNat:=by rw [E4 k3,ca]
            have m0:=c0.toNat_lt;have m1:=c1.toNat_lt;rw [O,P] at j;have o:=zh (λg1 g2 g3=>Rw (L:=L) (full:=full) (f:=f) (st:=decide (0<done.length)) (s:=t) oo ht g1 g2 g3);rw [O,P] at o;clear O P;by_cases z2:3<c2.toNat
            . have HE:=zh (j (.inl (.inr (.inl z2))));have F:(3:Int)<(c2.toNat:Int):=oo;clear j o;go_wp2_with fail;refine im (by first | (simp [*,results,Tryz.results60,go_sem];rfl) | simp [*,results,Tryz.results60,go_sem]) rfl ?_;exact ⟨_,by rw [HE.out],by rw [HE.out];exact OwnL.nil _ _ _ _,HX.2.2⟩
            . have F:¬(3:Int)<(c2.toNat:Int):=oo;by_cases z3:c3.toNat=0
              . have bl:((c3.toNat:Int) != 0)=false:=by rw [z3];rfl
                have ag:256*c0.toNat+c1.toNat<=65535:=oo;obtain ⟨n,hn⟩:∃n,256*c0.toNat+c1.toNat=n:=⟨_,rfl⟩;have Q:=zh (dt c0 c1);rw [hn] at Q j o ag;have bs:=zh z3;obtain ⟨kc,V⟩:∃k,c2.toNat=k:=⟨_,rfl⟩;rw [V] at j o z2 F;have d:=zh V;clear hn z3 m0 m1 V;by_cases hb:n<4\/t.size<n\/L<(n:Int) - 4\/(n=4/\kc≠0)
                . have HE:=zh (j (.inr (.inl hb)));rcases (show (n:Int)<4\/(¬(n:Int)<4/\(t.size:Int)<(n:Int))\/(¬(n:Int)<4/\¬(t.size:Int)<(n:Int)/\L<(n:Int) - 4)\/(¬(n:Int)<4/\¬(t.size:Int)<(n:Int)/\¬L<(n:Int) - 4/\n=4/\kc≠0) by omega) with p1 | ⟨p1,p2⟩ | ⟨p1,p2,p3⟩ | ⟨p1,p2,p3,p4,p5⟩
                  case' inr.inr.inr=>
                   have ci:((n:Int)==4)=true:=by rw [jy];omega
                   have cl:((c2.toNat:Int) != 0)=true:=by rw [jH,d.out];omega
                   clear p4 p5
                  all_goals
                   clear j o hb ag;rw [<-d.out] at z2 F;go_wp2_with fail
                   go_quiet (fail)
                   rw [Q.out];go_wp2_with fail;refine im (by first | (simp [*,results,Tryz.results60,go_sem];rfl) | simp [*,results,Tryz.results60,go_sem]) rfl ?_;exact ⟨_,by rw [HE.out],by rw [HE.out];exact OwnL.nil _ _ _ _,HX.2.2.drewN _⟩
                . have p1:¬(n:Int)<4:=oo;have p2:¬(t.size:Int)<(n:Int):=oo;have p3:¬L<(n:Int) - 4:=oo
                  have p4:(((n:Int)==4)=true/\((c2.toNat:Int) != 0)=false)\/((n:Int)==4)=false:=by
                   by_cases h9:n=4
                   . exact .inl ⟨by rw [jy];omega,by rw [kS,d.out];omega⟩
                   . exact .inr (by rw [it];omega)
                  have q1:(4:Int)<=(n:Int):=oo;have q2:(n:Int)<=(t.size:Int):=oo;have q3:n<=t.size:=oo;have q4:4<=n:=oo;have HB:=zh hb;rw [<-d.out] at z2 F;obtain ⟨fb,a0⟩:∃b,decide (2<=c2.toNat)=b:=⟨_,rfl⟩;obtain ⟨fa,a3⟩:∃b,decide (c2.toNat % 2=1)=b:=⟨_,rfl⟩;have a:=zh (And.intro a0 a3);have cn:(c2.toNat:Int)<4:=oo;clear hb a0 a3;rcases p4 with ⟨p4,p5⟩ | p4
                  all_goals
                   go_wp2_with fail
                   go_quiet (fail)
                   rw [Q.out];obtain ⟨wq,N⟩:∃W,W=wr.drewN nq:=⟨_,rfl⟩;have G:=zh (show Grew wr wq from by rw [N];exact (iW _).drewN _);have al:wr.heap.size=wq.heap.size:=by rw [N];simp
                   rw [<-N];clear N;obtain ⟨a4,a5⟩:=(ad.grew (HX.2.2.trans G)).at_ (k:=c2.toNat) oo;have bt:0<wq.heap.size:=(ad.grew (HX.2.2.trans G)).lt;rw [a.out.1] at a4;rw [a.out.2] at a5;have bv:w1.heap.size<=wq.heap.size:=by rw [<-al];exact bf
                   clear al;go_wp2_with fail;have m:=ik wq 169 #[.bool fb,.bool fa] rfl;have an:=zh ((HX.2.2.trans G).alloc (.cells #[.bool fb,.bool fa] 169));have ap:=zh ((HX.2.1.grew G).alloc (.cells #[.bool fb,.bool fa] 169));obtain ⟨W1,a6⟩:∃W,W=wq.alloc (.cells #[.bool fb,.bool fa] 169):=⟨_,rfl⟩;rw [<-a6] at m an ap ⊢;clear a6 a4 a5 bt;have x0:=m.cell 0;have x1:=m.cell 1;have xl:=m.lt;have bx:=zh m;obtain ⟨gc,a7⟩:∃g,wq.heap.size=g:=⟨_,rfl⟩;rw [a7] at x0 x1 xl m bx bv ⊢;clear a7;refine AB [] (λw':World=>w'.cell? ⟨gc,0,none⟩=some (.bool fb)/\w'.cell? ⟨gc,1,none⟩=some (.bool fa)/\gc<w'.heap.size) qk ?_;have hS:=(show (λw':World=>w'.cell? ⟨gc,0,none⟩=some (.bool fb)/\w'.cell? ⟨gc,1,none⟩=some (.bool fa)/\gc<w'.heap.size) W1.drew from ⟨x0,x1,xl⟩);refine tQ 0 94 ?_;refine tT 1 (some 95) hS ?_;refine tQ 2 96 ?_;refine tT 3 (some 97) hS ?_;refine tQ 4 98 ?_;refine tQ 5 99 ?_;refine tQ 6 100 ?_;refine tQ 7 101 ?_;refine tO 8 λK' hK=>?_;go_wp2_with fail;have h:=(m.drew).alloc (.cells #[.bool false,.bool false,.string ⟨#[]⟩] 172);refine hK.out _ _ (.inr (λ_=>⟨h.cell 0,h.cell 1,h.lt⟩)) ?_;clear hK h;refine tO 9 λK' hK=>?_;go_wp2_with fail;have h:=(m.alloc (.cells #[.bool fb,.bool fa,.string (t.extract 4 n)] 172)).drew;refine hK.out _ _ (.inr (λ_=>⟨h.cell 0,h.cell 1,h.lt⟩)) ?_;clear hK h;refine AA qk ?_ _;have h:=(ik W1 172 #[.bool fb,.bool fa,.string (t.extract 4 n)] rfl).drew;have i:=zh (an.alloc (.cells #[.bool fb,.bool fa,.string (t.extract 4 n)] 172)).drew;have A:=zh (ap.alloc (.cells #[.bool fb,.bool fa,.string (t.extract 4 n)] 172)).drew;obtain ⟨W2,a8⟩:∃W,W=(W1.alloc (.cells #[.bool fb,.bool fa,.string (t.extract 4 n)] 172)).drew:=⟨_,rfl⟩;rw [<-a8] at h i A ⊢;have H:w1.heap.size<=W2.heap.size:=i.size;have y0:=h.cell 0;have y1:=h.cell 1;have y2:=h.cell 2;have yl:=h.lt;obtain ⟨gx,a9⟩:∃g,W1.heap.size=g:=⟨_,rfl⟩;rw [a9] at y0 y1 y2 yl ⊢;clear a8 h x0 x1 xl m hS a9;obtain ⟨t2,X⟩:∃z,t.extract n t.size=z:=⟨_,rfl⟩;have co:t2.size=t.size - n:=by rw [<-X,i0];omega
                   obtain ⟨cq,cr,bb,cb,_,_⟩:=A.listAt;rw [iY] at bb cb;subst bb;obtain ⟨xd,Y⟩:∃z,t.extract 4 n=z:=⟨_,rfl⟩;rw [Y] at y2;have I:=zh Y
                   go_upto_region 19 with fail
                   have J:=zh X;have C:=zh (λhb3=>j (.inr (.inr hb3)));have K:=zh (λg3=>o (by rw [<-d.out];have:=bs.out;omega) HB g3);clear X Y j o
                   rcases (show (fb=true/\0<done.length)\/fb=false\/(fb=true/\¬0<done.length) from by
                    cases fb
                    . exact .inr (.inl rfl)
                    . rcases Nat.eq_zero_or_pos done.length with h9 | h9
                      . exact .inr (.inr ⟨rfl,oo⟩)
                      . exact .inl ⟨rfl,h9⟩) with ⟨rfl,hd⟩ | rfl | ⟨rfl,hd⟩
                   . have av:(0:Int)<(done.length:Int):=oo;have cp:decide ((0:Int)<(done.length:Int))=true:=iq av;have HE:=zh (C (.inl ⟨by have:=a.1;rw [d.out] at this;exact jC this,iq hd⟩));cases fa
                     all_goals
                      go_wp2_with fail;refine im (by first | (simp [*,results,Tryz.results60,go_sem];rfl) | simp [*,results,Tryz.results60,go_sem]) rfl ?_;exact ⟨_,by rw [HE.out],by rw [HE.out];exact OwnL.nil _ _ _ _,i⟩
                   . cases fa with
                     | false=>
                       have l:¬((2<=kc/\decide (0<done.length)=true)\/(kc % 2=1/\(t.size≠n\/full=false))):=by
                        have f1:=a.1;have f2:=a.2;rw [d.out] at f1 f2;simp only [jG,decide_eq_false_iff_not] at f1 f2;rintro (⟨a1,a2⟩ | ⟨a1,a2⟩)
                        . rw [jG] at a2;omega
                        . first | omega | (rcases a2 with a2 | a2<;>first | omega | cases a2)
                       have p:=zh (show BL L full s.size false s0=((done++[⟨false,false,xd⟩])++(BL L full (f - 1) (decide (0<(done++[(⟨false,false,xd⟩:Seg)]).length)) t2).1,(BL L full (f - 1) (decide (0<(done++[(⟨false,false,xd⟩:Seg)]).length)) t2).2) from by
                        have e:=HX.1
                        rw [K.out l] at e
                        rw [J.out,I.out,<-d.out,a.out.1,a.out.2] at e
                        rw [show decide (0<(done++[(⟨false,false,xd⟩:Seg)]).length)=true from iq qs,e,jK]
                        rfl)
                       clear l;go_wp2_with (at_builtin;refine AY rfl _ _ 118 rfl _ 172 3 24 _ Tryz.underlying118 G6 rfl qd W2 _ (done.map Jp) [.bool false,.bool false,.string xd] (by rfl) rfl rfl A (by first | rfl | (simp;done)) rfl rfl (by rw [iY];omega) (by rw [iY];omega) H ?_;intro v' w8 x y S T)
                       go_roundg t2.size
                       case measure=>rw [E.out];omega
                       case rel=>exact ⟨t2,done++[⟨false,false,xd⟩],f - 1,rfl,rfl,oo,by rw [iy,ju];omega,p.out,by rw [il];exact x,y _ i (iX _)⟩
                     | true=>
                       by_cases q:t2.size=0
                       . obtain rfl:=DX q;cases full with
                         | true=>
                           have R:((s.size:Int) != B)=false:=by rw [kS];exact jC D
                           have l:¬((2<=kc/\decide (0<done.length)=true)\/(kc % 2=1/\(t.size≠n\/true=false))):=by
                            have f1:=a.1;have f2:=a.2;rw [d.out] at f1 f2;simp only [jG,decide_eq_false_iff_not] at f1 f2;rintro (⟨a1,a2⟩ | ⟨a1,a2⟩)
                            . rw [jG] at a2;omega
                            . first | omega | (rcases a2 with a2 | a2<;>first | omega | cases a2)
                           have p:=zh (show BL L true s.size false s0=((done++[⟨false,true,xd⟩])++(BL L true (f - 1) (decide (0<(done++[(⟨false,true,xd⟩:Seg)]).length)) ⟨#[]⟩).1,(BL L true (f - 1) (decide (0<(done++[(⟨false,true,xd⟩:Seg)]).length)) ⟨#[]⟩).2) from by
                            have e:=HX.1
                            rw [K.out l] at e
                            rw [J.out,I.out,<-d.out,a.out.1,a.out.2] at e
                            rw [show decide (0<(done++[(⟨false,true,xd⟩:Seg)]).length)=true from iq qs,e,jK]
                            rfl)
                           clear l;go_wp2_with (at_builtin;refine AY rfl _ _ 118 rfl _ 172 3 24 _ Tryz.underlying118 G6 rfl qd W2 _ (done.map Jp) [.bool false,.bool true,.string xd] (by rfl) rfl rfl A (by first | rfl | (simp;done)) rfl rfl (by rw [iY];omega) (by rw [iY];omega) H ?_;intro v' w8 x y S T)
                           go_roundg (⟨#[]⟩:ByteArray).size
                           case measure=>rw [E.out];omega
                           case rel=>exact ⟨⟨#[]⟩,done++[⟨false,true,xd⟩],f - 1,rfl,rfl,oo,by rw [iy,ju];omega,p.out,by rw [il];exact x,y _ i (iX _)⟩
                         | false=>
                           have R:((s.size:Int) != B)=true:=by rw [jH];exact of_decide_eq_false D
                           have HE:=zh (C (.inr ⟨by have:=a.2;rw [d.out] at this;exact jC this,.inr rfl⟩));go_wp2_with fail;refine im (by first | (simp [*,results,Tryz.results60,go_sem];rfl) | simp [*,results,Tryz.results60,go_sem]) rfl ?_;exact ⟨_,by rw [HE.out],by rw [HE.out];exact OwnL.nil _ _ _ _,i⟩
                       . have b2:=Cp q;have HE:=zh (C (.inr ⟨by have:=a.2;rw [d.out] at this;exact jC this,.inl oo⟩));clear q;go_wp2_with fail;refine im (by first | (simp [*,results,Tryz.results60,go_sem];rfl) | simp [*,results,Tryz.results60,go_sem]) rfl ?_;exact ⟨_,by rw [HE.out],by rw [HE.out];exact OwnL.nil _ _ _ _,i⟩
                   . have av:¬(0:Int)<(done.length:Int):=oo;cases fa with
                     | false=>
                       have l:¬((2<=kc/\decide (0<done.length)=true)\/(kc % 2=1/\(t.size≠n\/full=false))):=by
                        have f1:=a.1;have f2:=a.2;rw [d.out] at f1 f2;simp only [jG,decide_eq_false_iff_not] at f1 f2;rintro (⟨a1,a2⟩ | ⟨a1,a2⟩)
                        . rw [jG] at a2;omega
                        . first | omega | (rcases a2 with a2 | a2<;>first | omega | cases a2)
                       have p:=zh (show BL L full s.size false s0=((done++[⟨true,false,xd⟩])++(BL L full (f - 1) (decide (0<(done++[(⟨true,false,xd⟩:Seg)]).length)) t2).1,(BL L full (f - 1) (decide (0<(done++[(⟨true,false,xd⟩:Seg)]).length)) t2).2) from by
                        have e:=HX.1
                        rw [K.out l] at e
                        rw [J.out,I.out,<-d.out,a.out.1,a.out.2] at e
                        rw [show decide (0<(done++[(⟨true,false,xd⟩:Seg)]).length)=true from iq qs,e,jK]
                        rfl)
                       clear l;go_wp2_with (at_builtin;refine AY rfl _ _ 118 rfl _ 172 3 24 _ Tryz.underlying118 G6 rfl qd W2 _ (done.map Jp) [.bool true,.bool false,.string xd] (by rfl) rfl rfl A (by first | rfl | (simp;done)) rfl rfl (by rw [iY];omega) (by rw [iY];omega) H ?_;intro v' w8 x y S T)
                       go_roundg t2.size
                       case measure=>rw [E.out];omega
                       case rel=>exact ⟨t2,done++[⟨true,false,xd⟩],f - 1,rfl,rfl,oo,by rw [iy,ju];omega,p.out,by rw [il];exact x,y _ i (iX _)⟩
                     | true=>
                       by_cases q:t2.size=0
                       . obtain rfl:=DX q;cases full with
                         | true=>
                           have R:((s.size:Int) != B)=false:=by rw [kS];exact jC D
                           have l:¬((2<=kc/\decide (0<done.length)=true)\/(kc % 2=1/\(t.size≠n\/true=false))):=by
                            have f1:=a.1;have f2:=a.2;rw [d.out] at f1 f2;simp only [jG,decide_eq_false_iff_not] at f1 f2;rintro (⟨a1,a2⟩ | ⟨a1,a2⟩)
                            . rw [jG] at a2;omega
                            . first | omega | (rcases a2 with a2 | a2<;>first | omega | cases a2)
                           have p:=zh (show BL L true s.size false s0=((done++[⟨true,true,xd⟩])++(BL L true (f - 1) (decide (0<(done++[(⟨true,true,xd⟩:Seg)]).length)) ⟨#[]⟩).1,(BL L true (f - 1) (decide (0<(done++[(⟨true,true,xd⟩:Seg)]).length)) ⟨#[]⟩).2) from by
                            have e:=HX.1
                            rw [K.out l] at e
                            rw [J.out,I.out,<-d.out,a.out.1,a.out.2] at e
                            rw [show decide (0<(done++[(⟨true,true,xd⟩:Seg)]).length)=true from iq qs,e,jK]
                            rfl)
                           clear l;go_wp2_with (at_builtin;refine AY rfl _ _ 118 rfl _ 172 3 24 _ Tryz.underlying118 G6 rfl qd W2 _ (done.map Jp) [.bool true,.bool true,.string xd] (by rfl) rfl rfl A (by first | rfl | (simp;done)) rfl rfl (by rw [iY];omega) (by rw [iY];omega) H ?_;intro v' w8 x y S T)
                           go_roundg (⟨#[]⟩:ByteArray).size
                           case measure=>rw [E.out];omega
                           case rel=>exact ⟨⟨#[]⟩,done++[⟨true,true,xd⟩],f - 1,rfl,rfl,oo,by rw [iy,ju];omega,p.out,by rw [il];exact x,y _ i (iX _)⟩
                         | false=>
                           have R:((s.size:Int) != B)=true:=by rw [jH];exact of_decide_eq_false D
                           have HE:=zh (C (.inr ⟨by have:=a.2;rw [d.out] at this;exact jC this,.inr rfl⟩));go_wp2_with fail;refine im (by first | (simp [*,results,Tryz.results60,go_sem];rfl) | simp [*,results,Tryz.results60,go_sem]) rfl ?_;exact ⟨_,by rw [HE.out],by rw [HE.out];exact OwnL.nil _ _ _ _,i⟩
                       . have b2:=Cp q;have HE:=zh (C (.inr ⟨by have:=a.2;rw [d.out] at this;exact jC this,.inl oo⟩));clear q;go_wp2_with fail;refine im (by first | (simp [*,results,Tryz.results60,go_sem];rfl) | simp [*,results,Tryz.results60,go_sem]) rfl ?_;exact ⟨_,by rw [HE.out],by rw [HE.out];exact OwnL.nil _ _ _ _,i⟩
              . have HE:=zh (j (.inl (.inr (.inr z3))));have bl:((c3.toNat:Int) != 0)=true:=by rw [jH];omega
                clear j o z3;go_wp2_with fail;refine im (by first | (simp [*,results,Tryz.results60,go_sem];rfl) | simp [*,results,Tryz.results60,go_sem]) rfl ?_;exact ⟨_,by rw [HE.out],by rw [HE.out];exact OwnL.nil _ _ _ _,HX.2.2⟩
     . have HE:=zh (show BO L B s=([],11) from by rw [HU.out,if_pos (λh9=>h4 (by injection h9 with h8 h7;exact ⟨h7,h8⟩))]);clear HU;cases ok with
       | false=>
         clear h4;go_enter Tryz.func60,Tryz.ntmps60;go_wp2_with fail;refine HV.mono ?_;rintro e w1 ⟨rfl,rfl⟩;go_wp2_with fail;refine (HR _).mono ?_;rintro e w2 ⟨rfl,g2⟩;go_wp2_with fail;refine im (by first | (simp [*,results,Tryz.results60,go_sem];rfl) | simp [*,results,Tryz.results60,go_sem]) rfl ?_;exact ⟨_,by rw [HE.out],by rw [HE.out];exact OwnL.nil _ _ _ _,g2⟩
       | true=>
         have h5:((n:Int) != (s.size:Int))=true:=by rw [jH];intro h9;exact h4 ⟨rfl,oo⟩
         clear h4;go_enter Tryz.func60,Tryz.ntmps60;go_wp2_with fail;refine HV.mono ?_;rintro e w1 ⟨rfl,rfl⟩;go_wp2_with fail;refine (HR _).mono ?_;rintro e w2 ⟨rfl,g2⟩;go_wp2_with fail;refine im (by first | (simp [*,results,Tryz.results60,go_sem];rfl) | simp [*,results,Tryz.results60,go_sem]) rfl ?_;exact ⟨_,by rw [HE.out],by rw [HE.out];exact OwnL.nil _ _ _ _,g2⟩

theorem fd {w:World} {B:Nat} {A:Option Addr} {l:List Seg} (h:ListAt w B 3 A (l.map Jp)) {k:Nat} (hk:k<l.length):
 ∃b off,A=some ⟨b,off,none⟩/\b<B/\w.cell? ⟨b,off+k*3,none⟩=some (.bool l[k].bf)/\w.cell? ⟨b,off+k*3+1,none⟩=some (.bool l[k].af)/\w.cell? ⟨b,off+k*3+2,none⟩=some (.string l[k].da):=by
 obtain ⟨b,off,e,hb,hc⟩:=h (by rw [iY];omega);have hg:(l.map Jp)[k]? =some (Jp l[k]):=by rw [iZ,iV hk];rfl
 exact ⟨b,off,e,hb,hc k _ hg 0 _ rfl,hc k _ hg 1 _ rfl,hc k _ hg 2 _ rfl⟩
theorem NZ (L:Int) (out:List ByteArray) (op:Bool) (x:Seg) (xs:List Seg):Bo L out op (x::xs)=if x.bf≠op then ([],11) else if L<(((DV out op x.da).getLast?.getD nilB).size:Int) then ([],11) else Bo L (DV out op x.da) x.af xs:=rfl
theorem KL {w:World} {base:Nat} {v:Value} {i:List ByteArray} {s:ByteArray} (h:OwnL w base 9 1 v ((i++[s]).map AI)) {q:Nat} (hq:i.length=q):
 ∃g cap,v=.slice (some ⟨g,0,none⟩) (q+1) cap/\base<=g/\g<w.heap.size/\w.cell? ⟨g,q,none⟩=some (.string s)/\w.frozen? ⟨g,q,none⟩=false/\
  ∀u,OwnL (w.setCell ⟨g,q,none⟩ (.string u)) base 9 1 v ((i++[u]).map AI):=by
 obtain ⟨g,cap,hv,a,b⟩:=h.some_ qs;have hr:((i++[s]).map AI)[q]? =some [.string s]:=by rw [il,<-hq,jW qs];simp [AI]
 rw [show (List.map AI (i++[s])).length=q+1 from by simp [hq]] at hv;subst hv;refine ⟨g,cap,rfl,a,b,?_,h.frozen q,λu=>?_⟩
 . have:=h.cell (j:=q) (i:=0) (r:=[.string s]) (u:=.string s) hr rfl;rwa [Nat.mul_one,jo] at this
 . have:=h.set_ (j:=q) (i:=0) (o:=q) (r:=[.string s]) hr oo oo (.string u);rw [show (List.map AI (i++[s])).set q ([Value.string s].set 0 (.string u))=(i++[u]).map AI from by rw [il,il,<-hq,List.set_append_right _ _ qs];simp [AI]] at this;exact this
theorem YV (L:Int) (A:Option Addr) (c:Nat) (l:List Seg) (w:World) (hL:1<=L/\L<=1000) (hA:ListAt w w.heap.size 3 A (l.map Jp)) (hn:l.length<=1000000) (P:∀x∈l,x.da.size<=1000000):
 Calls Tryz.prog 61 #[.int .i64 L,.slice A l.length c] w λe w'=>∃v,e=.returned (.tuple #[v,.int .i64 (Bo L [] false l).2])/\OwnL w' w.heap.size 9 1 v ((Bo L [] false l).1.map AI)/\Grew w w':=by
 have HA:=zh hA;have Z:=zh P;obtain ⟨f,N⟩:∃z,Bo L [] false l=z:=⟨_,rfl⟩;rw [N];have ad:=zh N;clear hA P N;go_enter Tryz.func61,Tryz.ntmps61;go_wp2_with fail
 go_loopg [6,7,12] l.length (λgk ov pv iv wr=>∃(k:Nat) (out:List ByteArray) (op:Bool),k<=l.length/\gk=l.length - k/\iv=.int .i64 k/\pv=.bool op/\out.length<=k/\(op=true->out≠[])/\(∀s∈out,s.size<=1000)/\f=Bo L out op (l.drop k)/\OwnL wr w.heap.size 9 1 ov (out.map AI)/\Grew w wr)
 case atStart=>exact ⟨0,[],false,oo,oo,rfl,rfl,qs,(λh=>by cases h),(λs hs=>by cases hs),by rw [drop_zero];exact ad.out.symm,OwnL.nil _ _ _ _,iW _⟩
 case round=>
  obtain ⟨k,out,op,hk,X,rfl,rfl,h1,h2,h3,h4,h5,h6⟩:=hrel;have HX:=zh (And.intro h2 (And.intro h3 (And.intro h4 h5)));have HG:=zh h6;have Q:=zh X;have av:=h6.size;clear h2 h3 h4 h5 h6 X;by_cases K:k<l.length
  . obtain ⟨b,a2,rfl,a3,c0,c1,c2⟩:=fd (AG HA HG) K;have R:=Z.out l[k] (ib K);have HD:=zh (show l.drop k=l[k]::l.drop (k+1) from jz K);obtain ⟨⟨bf,af,d⟩,hx⟩:∃x,l[k]=x:=⟨_,rfl⟩;rw [hx] at c0 c1 c2 R HD;simp only at c0 c1 c2 R;have G:=zh (show f=if bf≠op then ([],11) else if L<(((DV out op d).getLast?.getD nilB).size:Int) then ([],11) else Bo L (DV out op d) af (l.drop (k+1)) from by rw [HX.out.2.2.1,HD.out];exact NZ _ _ _ _ _);clear hx;have aw:(k:Int)<(l.length:Int):=oo;by_cases M:bf=op
    . subst M;have t:=zh (show f=if L<(((DV out bf d).getLast?.getD nilB).size:Int) then ([],11) else Bo L (DV out bf d) af (l.drop (k+1)) from by rw [G.out,if_neg qs]);clear G;cases bf with
      | true=>
        rcases eq_nil_or_concat out with ho | ⟨J,p,ho⟩
        . exact absurd ho (HX.1 rfl)
        . rw [concat_eq_append] at ho;subst ho;obtain ⟨q,hq⟩:∃q,J.length=q:=⟨_,rfl⟩;have HO:=zh (HX.2.2.2.alloc (.cells #[.bool true,.bool af,.string d] 172));have S:=zh HX.2.2.2;obtain ⟨g,cap,hv,O,u,y0,yf,y⟩:=KL HO hq;subst hv;have ag:g<wr.heap.size:=(S.own_ge rfl).2;have T:=zh y;have HQ:=zh hq;have a0:=HX.2.1 p qs;have al:=zh (λs (hs:s∈J)=>HX.2.1 s (by simp [hs]));rw [D8,C0] at t;rw [iy,ju,hq] at h1;have a1:IntKind.i64.wrap (q:Int)=(q:Int):=by rw [IntKind.wrap_i64];omega
          clear y hq HX S;have a:=ik wr 172 #[.bool true,.bool af,.string d] rfl;have j:=zh (HG.alloc (.cells #[.bool true,.bool af,.string d] 172))
          go_upto_region 8 with fail
          obtain ⟨W1,D⟩:∃W,W=wr.alloc (.cells #[.bool true,.bool af,.string d] 172):=⟨_,rfl⟩;rw [<-D] at y0 yf u a j T HO ⊢;clear D;obtain ⟨gx,E⟩:∃z,wr.heap.size=z:=⟨_,rfl⟩;rw [E] at a ag ⊢;have x1:=a.cell 1;have x2:=a.cell 2;have xl:=a.lt;have H:=zh a;clear E a;go_wp2_with fail;refine AB [10] (λw':World=>w'.cell? ⟨g,q,none⟩=some (.string p)/\g<w'.heap.size/\w'.cell? ⟨gx,2,none⟩=some (.string d)/\gx<w'.heap.size) qk ?_;have hS:=(show (λw':World=>w'.cell? ⟨g,q,none⟩=some (.string p)/\g<w'.heap.size/\w'.cell? ⟨gx,2,none⟩=some (.string d)/\gx<w'.heap.size) W1.drew from ⟨y0,u,x2,xl⟩);refine tQ 0 21 ?_;refine tQ 1 22 ?_;refine tT 2 (some 23) hS ?_;refine tQ 3 24 ?_;refine tQ 4 25 ?_;refine tT 5 (some 26) hS ?_;refine tQ 6 27 ?_;refine tT 7 (some 28) hS ?_;refine tQ 8 29 ?_;refine tQ 9 30 ?_;refine tO 10 λK' hK=>?_;go_wp2_with fail;refine hK.out _ _ (.inl rfl) ?_;clear hK;refine AA qk ?_ _;have m:=zh (T (p++d)).drew;have n:=zh (j.setCell (p:=⟨g,q,none⟩) O (.string (p++d))).drew;have I:=(H.far (p:=⟨g,q,none⟩) (by show gx≠g;omega) (.string (p++d))).drew;obtain ⟨W2,Y⟩:∃W,W=(W1.setCell ⟨g,q,none⟩ (.string (p++d))).drew:=⟨_,rfl⟩;rw [<-Y] at m n I ⊢;clear Y x1 x2 xl y0 yf u;obtain ⟨g',a4,hv,_,u,y0,_,_⟩:=KL m HQ;injection hv with hv1 _ hv2;injection hv1 with hv1;injection hv1 with hv1 _ _;subst hv1;have x1:=I.cell 1;have xl:=I.lt;clear hv2 I;by_cases r:L<((p++d).size:Int)
          . have HE:=zh (show f=([],11) from by rw [t.out,if_pos r]);obtain ⟨pd,F⟩:∃z,p++d=z:=⟨_,rfl⟩;rw [F] at y0 r ⊢;clear F;go_wp2_with fail;refine im (by first | (simp [*,results,Tryz.results61,go_sem];rfl) | simp [*,results,Tryz.results61,go_sem]) rfl ?_;exact ⟨_,by rw [HE.out],by rw [HE.out];exact OwnL.nil _ _ _ _,n⟩
          . have HE:=zh (show f=Bo L (J++[p++d]) af (l.drop (k+1)) from by rw [t.out,if_neg r]);obtain ⟨pd,F⟩:∃z,p++d=z:=⟨_,rfl⟩;rw [F] at y0 r HE m ⊢;clear F;go_wp2_with fail
            go_roundg (l.length - (k+1))
            case measure=>rw [Q.out];omega
            case rel=>exact ⟨k+1,J++[pd],af,oo,rfl,by go_num,rfl,by rw [iy,ju,HQ.out];omega,λ_=>qs,λs hs=>by
             rcases ip.1 hs with hs | hs
             . exact al.out s hs
             . rw [ia.1 hs];omega,HE,m,n⟩
      | false=>
        have HO:=zh (HX.2.2.2.alloc (.cells #[.bool false,.bool af,.string d] 172));have an:=zh HX.2.1;rw [Gt,C0] at t;clear HX;have a:=ik wr 172 #[.bool false,.bool af,.string d] rfl;have j:=zh (HG.alloc (.cells #[.bool false,.bool af,.string d] 172))
        go_upto_region 8 with fail
        obtain ⟨W1,D⟩:∃W,W=wr.alloc (.cells #[.bool false,.bool af,.string d] 172):=⟨_,rfl⟩;rw [<-D] at a j HO ⊢;clear D;obtain ⟨gx,E⟩:∃z,wr.heap.size=z:=⟨_,rfl⟩;rw [E] at a ⊢;have x1:=a.cell 1;have x2:=a.cell 2;have xl:=a.lt;have H:=zh a;have U:w.heap.size<=W1.heap.size:=j.size;have V:=zh (HO.ne_blk a qd);clear E a;by_cases r:L<(d.size:Int)
        . have HE:=zh (show f=([],11) from by rw [t.out,if_pos r]);go_wp2_with (at_builtin;refine AY rfl _ _ 24 rfl _ 9 1 16 _ Tryz.underlying24 BQ rfl qd W1 _ (out.map AI) (AI d) (by rfl) rfl rfl HO (by first | rfl | (simp;done)) rfl rfl (by rw [iY];omega) (by rw [iY];omega) U ?_;intro v' w8 i B C ap;have o:=C _ _ _ H V;have n:=zh (B _ j (iX _));rw [show List.map AI out++[AI d]=(out++[d]).map AI from by rw [il];rfl] at i;have m:=zh i;obtain ⟨g,cap,hv,O,u,y0,yf,y⟩:=KL i rfl;subst hv;clear x1 x2 xl y;have x1:=o.cell 1;have xl:=o.lt;clear o i B C);refine im (by first | (simp [*,results,Tryz.results61,go_sem];rfl) | simp [*,results,Tryz.results61,go_sem]) rfl ?_;exact ⟨_,by rw [HE.out],by rw [HE.out];exact OwnL.nil _ _ _ _,n⟩
        . have HE:=zh (show f=Bo L (out++[d]) af (l.drop (k+1)) from by rw [t.out,if_neg r]);go_wp2_with (at_builtin;refine AY rfl _ _ 24 rfl _ 9 1 16 _ Tryz.underlying24 BQ rfl qd W1 _ (out.map AI) (AI d) (by rfl) rfl rfl HO (by first | rfl | (simp;done)) rfl rfl (by rw [iY];omega) (by rw [iY];omega) U ?_;intro v' w8 i B C ap;have o:=C _ _ _ H V;have n:=zh (B _ j (iX _));rw [show List.map AI out++[AI d]=(out++[d]).map AI from by rw [il];rfl] at i;have m:=zh i;obtain ⟨g,cap,hv,O,u,y0,yf,y⟩:=KL i rfl;subst hv;clear x1 x2 xl y;have x1:=o.cell 1;have xl:=o.lt;clear o i B C)
          go_roundg (l.length - (k+1))
          case measure=>rw [Q.out];omega
          case rel=>exact ⟨k+1,out++[d],af,oo,rfl,by go_num,rfl,by rw [iy,ju];omega,λ_=>qs,λs hs=>by
           rcases ip.1 hs with hs | hs
           . exact an.out s hs
           . rw [ia.1 hs];omega,HE,m,n⟩
    . have HE:=zh (show f=([],11) from by rw [G.out,if_pos M]);clear G;rcases (show (bf=true/\op=false)\/(bf=false/\op=true) by cases bf<;>cases op<;>simp_all) with ⟨rfl,rfl⟩ | ⟨rfl,rfl⟩
      all_goals
       clear M;go_wp2_with fail;refine im (by first | (simp [*,results,Tryz.results61,go_sem];rfl) | simp [*,results,Tryz.results61,go_sem]) rfl ?_;exact ⟨_,by rw [HE.out],by rw [HE.out];exact OwnL.nil _ _ _ _,HG.alloc _⟩
  . obtain rfl:k=l.length:=oo;cases op with
    | true=>
      have HE:=zh (show f=([],11) from by rw [HX.out.2.2.1,List.drop_length];rfl);go_wp2_with fail;refine im (by first | (simp [*,results,Tryz.results61,go_sem];rfl) | simp [*,results,Tryz.results61,go_sem]) rfl ?_;exact ⟨_,by rw [HE.out],by rw [HE.out];exact OwnL.nil _ _ _ _,HG⟩
    | false=>
      have HE:=zh (show f=(out,0) from by rw [HX.out.2.2.1,List.drop_length];rfl);go_wp2_with fail;refine im (by first | (simp [*,results,Tryz.results61,go_sem];rfl) | simp [*,results,Tryz.results61,go_sem]) rfl ?_;exact ⟨_,by rw [HE.out],by rw [HE.out];exact HX.2.2.2,HG⟩

def wtG:List Seg->Nat
 | []=>0
 | x::xs=>x.da.size+1+wtG xs
theorem dW (a b:List Seg):wtG (a++b)=wtG a+wtG b:=by
 induction a with
 | nil=>show wtG b=0+wtG b;omega
 | cons r a ih=>show r.da.size+1+wtG (a++b)=r.da.size+1+wtG a+wtG b;rw [ih];omega
theorem Qx (l:List Seg):l.length<=wtG l/\∀x∈l,x.da.size<=wtG l:=by
 induction l with
 | nil=>exact ⟨iX _,λx hx=>by cases hx⟩
 | cons r l ih=>
   refine ⟨by show l.length+1<=r.da.size+1+wtG l;omega,λx hx=>?_⟩;show x.da.size<=r.da.size+1+wtG l;rcases jh.1 hx with rfl | hx
   . omega
   . have:=ih.2 x hx;omega
theorem PK (L:Int) (full:Bool):∀(f:Nat) (st:Bool) (s:ByteArray),wtG (BL L full f st s).1<=s.size
 | 0,st,s=>jL _
 | f+1,st,s=>by
   unfold BL;by_cases h0:s.size=0
   . rw [if_pos h0];exact jL _
   . rw [if_neg h0];by_cases h1:s.size<4\/3<(Ag s).2\/at8 s 3≠0
     . rw [if_pos h1];exact jL _
     . rw [if_neg h1];by_cases h2:(Ag s).1<4\/s.size<(Ag s).1\/L<((Ag s).1:Int) - 4\/((Ag s).1=4/\(Ag s).2≠0)
       . rw [if_pos h2];exact jL _
       . rw [if_neg h2];by_cases h3:(2<=(Ag s).2/\st=true)\/((Ag s).2 % 2=1/\(s.size≠(Ag s).1\/full=false))
         . rw [if_pos h3];exact jL _
         . rw [if_neg h3];have ih:=PK L full f true (s.extract (Ag s).1 s.size);show (s.extract 4 (Ag s).1).size+1+wtG (BL L full f true (s.extract (Ag s).1 s.size)).1<=s.size;rw [i0] at ih ⊢;omega
theorem Q7 (L B:Int) (s:ByteArray):wtG (BO L B s).1<=s.size:=by
 unfold BO;split
 . exact jL _
 . split
   . exact jL _
   . split
     . exact jL _
     . split
       . have:=PK L (decide ((s.size:Int)=B)) s.size false (s.extract 4 s.size);rw [i0] at this;show wtG (BL L (decide ((s.size:Int)=B)) s.size false (s.extract 4 s.size)).1<=s.size;omega
       . exact jL _
theorem MG (L B:Int):∀bs:List ByteArray,wtG (BT L B bs).1<=(AP bs).size
 | []=>jL _
 | b::bs=>by
   have h1:=Q7 L B b;have h2:=MG L B bs;unfold BT;rw [show (AP (b::bs)).size=b.size+(AP bs).size from io];split
   . exact jL _
   . split
     . exact jL _
     . show wtG ((BO L B b).1++(BT L B bs).1)<=_;rw [dW];omega
theorem bB (a:List ByteArray) (op:Bool) (d:ByteArray):wtS (DV a op d)<=wtS a+d.size+1:=by
 unfold DV;split
 . rcases eq_nil_or_concat a with rfl | ⟨i,b,rfl⟩
   . show (nilB++d).size+1+0<=0+d.size+1;rw [io];show 0+d.size+1+0<=_;omega
   . rw [concat_eq_append,dropLast_concat,C0,Fg,Fg];show wtS i+((b++d).size+1+0)<=wtS i+(b.size+1+0)+d.size+1;rw [io];omega
 . rw [Fg];show wtS a+(d.size+1+0)<=_;omega
theorem N2 (L:Int):∀(l:List Seg) (out:List ByteArray) (op:Bool),wtS (Bo L out op l).1<=wtS out+wtG l
 | [],out,op=>by
   unfold Bo;split
   . exact jL _
   . exact Nat.le_add_right _ _
 | x::xs,out,op=>by
   rw [NZ];split
   . exact jL _
   . split
     . exact jL _
     . have h1:=N2 L xs (DV out op x.da) x.af;have h2:=bB out op x.da;show _<=wtS out+(x.da.size+1+wtG xs);omega
theorem PJ {B:Nat} (hB:9<=B):∀(rs out:List ByteArray),(∀b∈out,4<=b.size/\b.size<=B)->(rs.foldl (CO B) out).length<=out.length+wtS rs
 | [],out,_=>Nat.le_add_right _ _
 | r::rs,out,h=>by
   obtain ⟨h1,h2⟩:=Lc hB h r;have ih:=PJ hB rs (CO B out r) h1;show _<=out.length+(r.size+1+wtS rs);exact ij ih oo
theorem Oy {L B:Int} (rs:List ByteArray):(C3 L B rs).1.length<=wtS rs:=by
 unfold C3;split
 . exact jL _
 . rename_i h;split
   . exact jL _
   . have ho:=Ea (by simpa using h);have:=PJ (B:=B.toNat) oo rs [] (λb hb=>by cases hb);simpa using this
theorem NR {b:ByteArray} {bs:List ByteArray} (h:b∈bs):b.size<=(AP bs).size:=by
 induction bs with
 | nil=>cases h
 | cons x xs ih=>
   rw [show (AP (x::xs)).size=x.size+(AP xs).size from io];rcases jh.1 h with rfl | h
   . omega
   . have:=ih h;omega
theorem Rv (L B:Int):∀(a b:List ByteArray),(BT L B a).2=0->(BT L B b).2=0->BT L B (a++b)=((BT L B a).1++(BT L B b).1,0)
 | [],b,_,h2=>by
   show BT L B b=([]++(BT L B b).1,0);rw [nil_append,<-h2]
 | x::a,b,h1,h2=>by
   unfold BT at h1;split at h1
   . rename_i h;exact absurd h1 h
   . rename_i h;split at h1
     . rename_i h3;exact absurd h1 h3
     . rename_i h3;have ih:=Rv L B a b (by simpa using h3) h2;show (if (BO L B x).2≠0 then ([],(BO L B x).2) else if (BT L B (a++b)).2≠0 then ([],(BT L B (a++b)).2) else ((BO L B x).1++(BT L B (a++b)).1,0))=_;rw [if_neg h,ih,if_neg qs]
       rw [show (BT L B (x::a)).1=(BO L B x).1++(BT L B a).1 from by
        show (if (BO L B x).2≠0 then ([],(BO L B x).2) else if (BT L B a).2≠0 then ([],(BT L B a).2) else ((BO L B x).1++(BT L B a).1,0)).1=_
        rw [if_neg h,if_neg h3]]
       rw [jK]
theorem Sd (L B:Int):∀(a b:List ByteArray),(BT L B a).2=0->(BT L B b).2≠0->BT L B (a++b)=([],(BT L B b).2)
 | [],b,_,h2=>by
   cases b with
   | nil=>exact absurd rfl h2
   | cons y b=>
     show BT L B (y::b)=([],(BT L B (y::b)).2);unfold BT at h2 ⊢;split
     . rfl
     . rename_i h;rw [if_neg h] at h2;split
       . rfl
       . rename_i h3;rw [if_neg h3] at h2;exact absurd rfl h2
 | x::a,b,h1,h2=>by
   unfold BT at h1;split at h1
   . rename_i h;exact absurd h1 h
   . rename_i h;split at h1
     . rename_i h3;exact absurd h1 h3
     . rename_i h3;have ih:=Sd L B a b (by simpa using h3) h2;show (if (BO L B x).2≠0 then ([],(BO L B x).2) else if (BT L B (a++b)).2≠0 then ([],(BT L B (a++b)).2) else ((BO L B x).1++(BT L B (a++b)).1,0))=_;rw [if_neg h,ih,if_pos h2]
theorem aV (L B:Int) (b:ByteArray):(BT L B [b]).2=(BO L B b).2/\((BO L B b).2=0->(BT L B [b]).1=(BO L B b).1):=by
 have e:BT L B [b]=if (BO L B b).2≠0 then ([],(BO L B b).2) else ((BO L B b).1++[],0):=by
  show (if (BO L B b).2≠0 then ([],(BO L B b).2) else if (BT L B []).2≠0 then ([],(BT L B []).2) else ((BO L B b).1++(BT L B []).1,0))=_;rw [show BT L B []=([],0) from rfl,if_neg (show ¬((([],0):List Seg × Int).2≠0) by simp)]
 rw [e];by_cases h:(BO L B b).2=0
 . rw [if_neg (by rw [h];simp)];exact ⟨h.symm,λ_=>append_nil _⟩
 . rw [if_pos h];exact ⟨rfl,λh9=>absurd h9 h⟩
theorem Yg {L B:Int} {bs:List ByteArray} {k:Nat} (hk:k<bs.length) (h:(BT L B (bs.take k)).2=0):
 ((BO L B bs[k]).2≠0->(BT L B bs).2=(BO L B bs[k]).2)/\((BO L B bs[k]).2=0->(BT L B (bs.take (k+1))).2=0/\(BT L B (bs.take (k+1))).1=(BT L B (bs.take k)).1++(BO L B bs[k]).1):=by
 obtain ⟨o1,o2⟩:=aV L B bs[k];constructor
 . intro hb
   have e:bs=bs.take k++([bs[k]]++bs.drop (k+1)):=by
    rw [singleton_append,<-jz hk,kK]
   have e2:(BT L B ([bs[k]]++bs.drop (k+1))).2=(BO L B bs[k]).2:=by
    show (if (BO L B bs[k]).2≠0 then ([],(BO L B bs[k]).2) else _:List Seg × Int).2=_;rw [if_pos hb]
   have e3:=Sd L B (bs.take k) ([bs[k]]++bs.drop (k+1)) h (by rw [e2];exact hb);rw [<-e] at e3;rw [e3];exact e2
 . intro hb;rw [ic hk,Rv L B _ _ h (by rw [o1];exact hb)];exact ⟨rfl,by rw [o2 hb]⟩

theorem Y8 (l:List Seg):∀r∈l.map Jp,r.length=3:=λr hr=>by obtain ⟨x,_,rfl⟩:=ie.1 hr;rfl
theorem am (l:List Seg):∀r∈l.map Jp,r.all (·.oneCell')=true:=λr hr=>by obtain ⟨x,_,rfl⟩:=ie.1 hr;rfl
theorem FB (L B:Int) (A:Option Addr) (c:Nat) (bs:List ByteArray) (w:World) (u:CodesAt w) (l0:-9223372036854775808<=L) (l1:L<=9223372036854775807) (b0:-9223372036854775808<=B) (b1:B<=9223372036854775807) (hA:ListAt w w.heap.size 1 A (bs.map AI)) (hc:bs.length<=c) (bx:c<=9223372036854775807) (hn:bs.length<=1000000) (hT:(AP bs).size<=900000):
 Calls Tryz.prog 24 #[.int .i64 L,.int .i64 B,.slice A bs.length c] w λe w'=>∃v,e=.returned (.tuple #[v,.int .i64 (Bi L B bs).2])/\OwnL w' w.heap.size 9 1 v ((Bi L B bs).1.map AI)/\Grew w w':=by
 have HV:=zh (IC L B w l0 l1 b0 b1);have HA:=zh hA;have y:=zh u;have a:=zh (And.intro l0 (And.intro l1 (And.intro b0 b1)));clear hA u l0 l1 b0 b1;cases f:sOk L B with
 | false=>
   rw [f] at HV;have HE:=zh (show Bi L B bs=([],1) from by unfold Bi;rw [if_pos f]);clear f;go_enter Tryz.func24,Tryz.ntmps24;go_wp2_with fail;refine HV.mono ?_;rintro e w1 ⟨rfl,rfl⟩;go_wp2_with fail;refine im (by first | (simp [*,results,Tryz.results24,go_sem];rfl) | simp [*,results,Tryz.results24,go_sem]) rfl ?_;exact ⟨_,by rw [HE.out],by rw [HE.out];exact OwnL.nil _ _ _ _,iW _⟩
 | true=>
   rw [f] at HV;have ho:=Ea f;have HU:=zh (show Bi L B bs=if (BT L B bs).2≠0 then ([],(BT L B bs).2) else if (Bo L [] false (BT L B bs).1).2≠0 then ([],(Bo L [] false (BT L B bs).1).2) else if (C3 L B (Bo L [] false (BT L B bs).1).1).2≠0\/(C3 L B (Bo L [] false (BT L B bs).1).1).1≠bs then ([],11) else ((Bo L [] false (BT L B bs).1).1,0) from by unfold Bi;rw [if_neg (by rw [f];simp)]);have HL:=zh (show 1<=L/\L<=1000 by omega);have HW:=zh (And.intro (MG L B bs) hT);clear f ho;go_enter Tryz.func24,Tryz.ntmps24;go_wp2_with fail;refine HV.mono ?_;rintro e w1 ⟨rfl,rfl⟩;go_wp2_with fail
   go_loopg [8,23] bs.length (λgk ov iv wr=>∃k:Nat,k<=bs.length/\gk=bs.length - k/\iv=.int .i64 k/\(BT L B (bs.take k)).2=0/\OwnL wr w1.heap.size 172 3 ov ((BT L B (bs.take k)).1.map Jp)/\Grew w1 wr)
   case atStart=>exact ⟨0,oo,oo,rfl,by rw [take_zero];rfl,by rw [take_zero];exact OwnL.nil _ _ _ _,iW _⟩
   case round=>
    obtain ⟨k,hk,N,rfl,h1,h2,h3⟩:=hrel;have Y:=zh N;have HG:=zh h3;have Z:=h3.size;clear N h3;by_cases s:k<bs.length
    . obtain ⟨b,cb,rfl,cc,a8⟩:=Cx (AG HA HG) s;obtain ⟨s1,s2⟩:=Yg s h1;have C:=NR (ib s);have j:=Q7 L B bs[k];have D:=MG L B (bs.take k)
      have ad:(AP (bs.take k)).size<=(AP bs).size:=by
       have e:=ix ByteArray.size (ix AP (kK k bs));rw [Gm,io] at e;omega
      have E:=(Qx (BT L B (bs.take k)).1).1;have l:=(Qx (BO L B bs[k]).1).1;have h:=λw2 (g:Grew w1 w2)=>X2 L B bs[k] w2 (y.grew g) a.1 a.2.1 a.2.2.1 a.2.2.2 oo;obtain ⟨al,i⟩:∃z,(BT L B (bs.take k)).1=z:=⟨_,rfl⟩;rw [i] at h2 s2 E D;obtain ⟨x,hx⟩:∃x,bs[k]=x:=⟨_,rfl⟩;rw [hx] at a8 s1 s2 C j l h;obtain ⟨⟨sl,er⟩,hr⟩:∃z,BO L B x=z:=⟨_,rfl⟩;rw [hr] at s1 s2 j l h;dsimp only at s1 s2 j l h;have b2:al.length<=900000:=oo;have b3:sl.length<=900000:=oo;have af:=zh h;have HO:=zh h2;have an:=zh s1;have F:=zh s2;clear i hx hr h h1 h2 s1 s2 C j D ad E l;go_wp2_with fail;refine (af _ HG).mono ?_;rintro e w2 ⟨v9,rfl,K,g2⟩;have d:=zh (HG.out.trans g2);by_cases he:er=0
      . subst he;obtain ⟨A9,c9,O,a9,ce,P⟩:=K.listAt;rw [iY] at O a9;subst O;have G:=zh (HO.grew g2);have ap:=zh P;have av:w1.heap.size<=w2.heap.size:=d.size;clear K P g2;go_wp2_with (at_builtin;refine Ab (by rfl) _ _ 118 rfl w1.heap.size 172 3 24 _ Tryz.underlying118 G6 rfl qd _ (al.map Jp) (sl.map Jp) (by rfl) G A9 sl.length c9 (by rfl) (by rw [iY]) (Y8 _) ap (am _) (by rw [iY];omega) (by rw [iY];omega) av ?_;intro v6 w6 a6 a7 b5)
        go_roundg (bs.length - (k+1))
        case measure=>rw [Y.out];omega
        case rel=>exact ⟨k+1,oo,rfl,by go_num,(F (by trivial)).1,by rw [(F.out (by trivial)).2,il];exact a6,Grew.own d a7 G.row_ge (iX _)⟩
      . have H:(er != 0)=true:=by rw [jH];exact he
        have HE:=zh (show Bi L B bs=([],er) from by rw [HU.out,an.out he,if_pos he]);clear he;go_wp2_with fail;refine im (by first | (simp [*,results,Tryz.results24,go_sem];rfl) | simp [*,results,Tryz.results24,go_sem]) rfl ?_;exact ⟨_,by rw [HE.out],by rw [HE.out];exact OwnL.nil _ _ _ _,d⟩
    . obtain rfl:k=bs.length:=oo;rw [j1] at h1 h2;rw [h1,if_neg qs] at HU;have aw:=ij HW.1 HW.2;obtain ⟨al,i⟩:∃z,(BT L B bs).1=z:=⟨_,rfl⟩;rw [i] at h2 HU aw;obtain ⟨cf,Q⟩:=Qx al;obtain ⟨A8,c8,R,bb,ch,S⟩:=h2.listAt;rw [iY] at R bb;subst R;have hJ:=YV L A8 c8 al wr HL S oo (λx hx=>by have:=Q x hx;omega);have o:=N2 L al [] false;obtain ⟨⟨rs,ej⟩,hr⟩:∃z,Bo L [] false al=z:=⟨_,rfl⟩;rw [hr] at hJ HU o;dsimp only at hJ o;rw [show wtS []=0 from rfl] at o;have HJ:=zh hJ;have b4:=DC rs;have I:=zh (Oy (L:=L) (B:=B) rs);clear i h1 h2 S Q hJ hr;go_wp2_with fail;refine HJ.mono ?_;rintro e w2 ⟨b9,rfl,t,g2⟩;have d:=zh (HG.out.trans g2);by_cases he:ej=0
      . subst he;obtain ⟨bc,bf,T,U,bk,V⟩:=t.listAt;rw [iY] at T U;subst T;have a0:=zh (t.mono (base':=w1.heap.size) Z);have m:=Fm L B bc bf rs w2 (y.grew d) a.1 a.2.1 a.2.2.1 a.2.2.2 V U bk oo;obtain ⟨⟨ag,ep⟩,hp⟩:∃z,C3 L B rs=z:=⟨_,rfl⟩;rw [hp] at m I;have p:=zh (show Bi L B bs=if ep≠0\/ag≠bs then ([],11) else (rs,0) from by rw [HU.out];show (if (0:Int)≠0 then _ else if (C3 L B rs).2≠0\/(C3 L B rs).1≠bs then _ else _)=_;rw [if_neg qs,hp]);dsimp only at m;have a1:=zh m;have a2:ag.length<=1000000:=by have:=I.out;dsimp only at this;omega
        clear t V g2 m hp;go_wp2_with fail;refine a1.mono ?_;rintro e w3 ⟨ca,rfl,M,g3⟩;obtain ⟨bl,bt,W,bv,ci,X⟩:=M.listAt;rw [iY] at W bv;subst W;have q:=zh (d.out.trans g3);have a3:=zh (a0.grew g3);have a4:=zh (Js ag bs bl A bt c w3 X (AG HA q) a2 hn);clear M g3 X;by_cases n:ep=0
        . subst n;go_wp2_with fail;refine a4.mono ?_;rintro e w4 ⟨rfl,g4⟩;have J:=zh (q.out.trans g4);have a5:=zh (a3.grew g4);clear g4;by_cases hq:ag=bs
          . have r:decide (ag=bs)=true:=iq hq;have HE:=zh (show Bi L B bs=(rs,0) from by rw [p.out,if_neg (by simp [hq])]);clear hq;rw [r];go_wp2_with fail;refine im (by first | (simp [*,results,Tryz.results24,go_sem];rfl) | simp [*,results,Tryz.results24,go_sem]) rfl ?_;exact ⟨_,by rw [HE.out],by rw [HE.out];exact a5.out,J⟩
          . have r:decide (ag=bs)=false:=ir hq;have HE:=zh (show Bi L B bs=([],11) from by rw [p.out,if_pos (.inr hq)]);clear hq;rw [r];go_wp2_with fail;refine im (by first | (simp [*,results,Tryz.results24,go_sem];rfl) | simp [*,results,Tryz.results24,go_sem]) rfl ?_;exact ⟨_,by rw [HE.out],by rw [HE.out];exact OwnL.nil _ _ _ _,J⟩
        . have H:(ep != 0)=true:=by rw [jH];exact n
          have HE:=zh (show Bi L B bs=([],11) from by rw [p.out,if_pos (.inl n)]);clear n;go_wp2_with fail;refine im (by first | (simp [*,results,Tryz.results24,go_sem];rfl) | simp [*,results,Tryz.results24,go_sem]) rfl ?_;exact ⟨_,by rw [HE.out],by rw [HE.out];exact OwnL.nil _ _ _ _,q⟩
      . have H:(ej != 0)=true:=by rw [jH];exact he
        have HE:=zh (show Bi L B bs=([],ej) from by rw [HU.out];exact if_pos he);clear he;go_wp2_with fail;refine im (by first | (simp [*,results,Tryz.results24,go_sem];rfl) | simp [*,results,Tryz.results24,go_sem]) rfl ?_;exact ⟨_,by rw [HE.out],by rw [HE.out];exact OwnL.nil _ _ _ _,d⟩

end
end Go.Proofs.YtmcgbdemcknkaaaGreatDoor
