/- Parts of the proof (packed), 17. -/
import Derived.Test.YtfklieeipokllaaGreatCyP
import Derived.Test.YtfklieeipokllaaGreatCyM
namespace Go.Proofs.YtfklieeipokllaaGreat
set_option linter.all false
set_option maxRecDepth 100000
set_option maxHeartbeats 16000000
open List
section
attribute [local go_sem ↓] Go.wp_at_zero Go.wp_at_succ
open Go.RowKit
def BM (E:Dev) (n:Int):List Int->Int
 | []=>0
 | i::l=>if i<0\/n<=i then 2 else if (C4 E i.toNat).2≠0 then (C4 E i.toNat).2 else BM E n l
def EF (E:Dev) (l:List Int):List ByteArray:=l.map λi=>(C4 E i.toNat).1
def CQ (D:Dev) (sy ep:Int) (l:List Int):Dev × List ByteArray × Int:=
 if (finD D sy ep).2.2≠0 then ((finD D sy ep).1,[],(finD D sy ep).2.2)
 else ((finD D sy ep).1,if BM (finD D sy ep).1 ((D.st.length:Int) - 131) l=0 then EF (finD D sy ep).1 l else [],BM (finD D sy ep).1 ((D.st.length:Int) - 131) l)
theorem Hz (E:Dev) (n:Int) (b:List Int):∀a:List Int,BM E n (a++b)=if BM E n a=0 then BM E n b else BM E n a
 | []=>rfl
 | i::a=>by
   show (if _ then _ else if _ then _ else BM E n (a++b))=if (if _ then _ else if _ then _ else BM E n a)=0 then _ else (if _ then _ else if _ then _ else BM E n a);by_cases h1:i<0\/n<=i
   . simp [h1]
   . rw [if_neg h1,if_neg h1];by_cases h2:(C4 E i.toNat).2≠0
     . rw [if_pos h2,if_pos h2,if_neg h2]
     . rw [if_neg h2,if_neg h2];exact Hz E n b a
theorem ak (E:Dev) (n:Int) (l:List Int) (k:Nat) (hk:k<l.length) (h0:BM E n (l.take k)=0):BM E n l=(if l[k]<0\/n<=l[k] then 2 else if (C4 E l[k].toNat).2≠0 then (C4 E l[k].toNat).2 else BM E n (l.drop (k+1))):=by
 have e:l=l.take k++l[k]::l.drop (k+1):=by rw [<-iz hk,jR]
 conv=>lhs;rw [e]
 rw [Hz,if_pos h0];rfl
theorem UR (E:Dev) (n:Int) (l:List Int) (k:Nat) (hk:k<l.length) (h0:BM E n (l.take k)=0) (h1:¬(l[k]<0\/n<=l[k])) (h2:(C4 E l[k].toNat).2=0):BM E n (l.take (k+1))=0:=by
 rw [fr hk,Hz,if_pos h0];show (if _ then _ else if _ then _ else _)=_;rw [if_neg h1,if_neg (by rw [h2];simp)];rfl
theorem Q9 (E:Dev) (l:List Int) (k:Nat) (hk:k<l.length):(EF E (l.take (k+1))).map BT=(EF E (l.take k)).map BT++[[.string (C4 E l[k].toNat).1]]:=by
 unfold EF;rw [fr hk,fz,fz];rfl
theorem Og (w:World) (n:Nat) (h:n<=1000000):(Instr.makeSlice 60 (.int .i64 0) (.int .i64 (n:Int))).run Tryz.prog w=.ok (.slice (some ⟨w.heap.size,0,none⟩) 0 n) (w.alloc (.cells (madeCells #[Value.string ⟨#[]⟩] n) 9)):=by
 obtain ⟨i,hi,a,b,c⟩:=info_parts Oy;have h:=run_make (P:=Tryz.prog) w 60 9 i _ Tryz.underlying60 hi a .i64 .i64 0 (n:Int) oo oo (by rw [c];omega) oo;rw [h,b,gQ,Nat.mul_one];rfl
theorem ST {w:World} {base g n:Nat} (hb:Blk w g 9 (madeCells #[Value.string ⟨#[]⟩] n)) (h:base<=g) (hn:n<=1000000):OwnL w base 9 1 (.slice (some ⟨g,0,none⟩) 0 n) []:=
 ⟨qs,qs,.inr ⟨g,n,_,rfl,h,hb,qs,by unfold maxLen;omega,by simp [madeCells],qs⟩⟩
structure Back (w0:World) (x s m:Nat) (sy ep:Int) (D':Dev) (out:Nat->Prop) (W:World) (lo:Nat) (w':World):Prop where
 lo0:W.heap.size<=lo
 lo1:lo<=w'.heap.size
 held:Held w0 x s m sy ep D' (up out lo w') w'
 turned:Turned (λk=>(w0.heap.size<=k/\¬out k)\/k=m) W w'
theorem V1 {out:Nat->Prop} {lo:Nat} {w1 w2:World} (hs:w1.heap.size<=w2.heap.size) {k:Nat} (h:up out lo w1 k):up out lo w2 k:=h.imp id (λh9=>⟨h9.1,fw h9.2 hs⟩)
theorem Ir {w0:World} {x s m:Nat} {sy ep:Int} {D:Dev} {out:Nat->Prop} {lo:Nat} {w1 w2:World} (h:Held w0 x s m sy ep D (up out lo w1) w1) (hg:Grew w1 w2):Held w0 x s m sy ep D (up out lo w2) w2:=
 ⟨(h.live.more hg).few (λk hk=>hk.elim (λh9=>.inl (.inl h9)) (λh9=>(iQ k w1.heap.size).elim (λh8=>.inl (.inr ⟨h9.1,h8⟩)) (λh8=>.inr ⟨h8,h9.2⟩))),h.store.grew hg,V1 hg.size h.os,V1 hg.size h.om,h.m0⟩
theorem Back.grew {w0:World} {x s m:Nat} {sy ep:Int} {D':Dev} {out:Nat->Prop} {W:World} {lo:Nat} {w1 w2:World} (h:Back w0 x s m sy ep D' out W lo w1) (hg:Grew w1 w2):Back w0 x s m sy ep D' out W lo w2:=
 ⟨h.lo0,fx h.lo1 hg.size,Ir h.held hg,h.turned.trans (hg.turned _)⟩
theorem Back.done {w0:World} {x s m:Nat} {sy ep:Int} {D':Dev} {out:Nat->Prop} {W:World} {lo:Nat} {w1:World} (h:Back w0 x s m sy ep D' out W lo w1):Done w0 x s m sy ep D' out W w1:=⟨h.held.live.few (λ_ hk=>.inl hk),h.held.store,h.turned⟩
theorem Done.back {w0:World} {x s m:Nat} {sy ep:Int} {D D':Dev} {out:Nat->Prop} {W w1:World} (h0:Held w0 x s m sy ep D out W) (h:Done w0 x s m sy ep D' out W w1):Back w0 x s m sy ep D' out W w1.heap.size w1:=⟨h.turned.size,fk _,M1 (h0.done h),h.turned⟩
def ew (w0:World) (x s m:Nat) (sy ep:Int) (D':Dev) (out:Nat->Prop) (W:World) (ss:List ByteArray) (er:Int) (e:Ending) (w':World):Prop:=
 ∃v lo,e=.returned (.tuple #[v,.int .i64 er])/\Back w0 x s m sy ep D' out W lo w'/\(er=0->OwnL w' lo 9 1 v (ss.map λs=>[Value.string s]))
theorem ViewM.row {w w':World} {lo g s mm:Nat} {D:Dev} {base e sz:Nat} {v:Value} {rows:List (List Value)} (h:ViewM w lo g s mm D) (ho:OwnL w base e sz v rows) (h1:e≠287) (h2:e≠185) (hg:w.grownBy w' v.ownBlock):ViewM w' lo g s mm D:=by
 obtain ⟨a,F,hv⟩:=h;have ht:Turned (λk=>v.ownBlock=some k) w w':=⟨hg.os,hg.tape,hg.output,hg.size,λk hk hn=>hg.block k hk (λe9=>hn e9.symm)⟩;refine ⟨a,F,hv.blk.turned ht (ho.ne_blk hv.blk h1),hv.lg,hv.lm,hv.map.turned ht (DX ho hv.map),?_,λk u hk=>?_⟩
 . rcases hv.top with q1 | ⟨t,q1,q2,q3,q4⟩
   . exact .inl q1
   . exact .inr ⟨t,q1,q2,q3.turned ht (ho.ne_blk q3 h2),q4⟩
 . obtain ⟨b,j,q1,q2,q3,q4,q5⟩:=hv.maps k u hk;exact ⟨b,j,q1,q2,q3,q4.turned ht (ho.ne_blk q4 h2),q5⟩
theorem JA {w:World} {B sz:Nat} {A:Option Addr} {rows:List (List Value)} (h:ListAt w B sz A rows) (hp:0<rows.length):∃bl off,A=some ⟨bl,off,none⟩/\bl<B/\∀(j:Nat) (cs:List Value),rows[j]? =some cs->∀(i:Nat) (u:Value),cs[i]? =some u->w.cell? ⟨bl,off+j*sz+i,none⟩=some u:=h hp
section
variable {w0:World} {x s m:Nat} {sy ep:Int} {D:Dev} {out:Nat->Prop} {W:World} (h:Held w0 x s m sy ep D out W) (hlen:132<=D.st.length/\D.st.length<=1155) (hp:D.pend.length<=980000)
include h hlen hp
theorem Ic (l:List Int) (w:∀i∈l,okI i) (cw:l.length<=100000) (A:Option Addr) (c:Nat) (hl:ListAt W W.heap.size 1 A (l.map Cq)) (hA:l≠[]->ED w0 out A) (D':Dev) (ss:List ByteArray) (er:Int) (hr:CQ D sy ep l=(D',ss,er)):
 Calls Tryz.prog 77 #[ptrV s,.slice A l.length c] W (ew w0 x s m sy ep D' out W ss er):=by
 obtain ⟨⟨E,b,f⟩,hE⟩:∃r,finD D sy ep=r:=⟨_,rfl⟩;have HF:=zh (Ho h hlen.1 hp E b f hE);have C:=IW D sy ep;unfold CQ at hr;rw [hE] at hr C;have HH:=zh h;by_cases h0:f=0
 . subst h0;rw [if_neg qs] at hr;have av:=C.2 rfl;have a0:E.st.length=D.st.length:=C.1;obtain ⟨n,hn⟩:∃n:Nat,D.st.length - 131=n:=⟨_,rfl⟩;have b3:(E.st.length:Int) - 131=(n:Int):=oo;have cx:1<=n/\n<=1024:=oo;rw [show (D.st.length:Int) - 131=(n:Int) from oo] at hr;injection hr with h1 h2;injection h2 with h2 h3;subst h1;have b4:=zh h2;have v:=zh h3;have b5:=zh w
   have a1:=zh (show ∀(k:Nat) (hk:k<l.length),∃bl d,A=some ⟨bl,d,none⟩/\bl<W.heap.size/\(bl<w0.heap.size\/out bl)/\W.cell? ⟨bl,d+k,none⟩=some (.int .i64 l[k]) from λk hk=>by
    obtain ⟨bl,d,e,h7,h8⟩:=JA hl (by rw [fm];omega)
    have h9:=h8 k (Cq l[k]) (by rw [fo,fg hk];rfl) 0 _ rfl
    exact ⟨bl,d,e,h7,hA (by intro e9;rw [e9] at hk;simp at hk) bl d e,by simpa using h9⟩)
   have a2:=h.store.lt;have cy:=h.live.base.size;have b6:=zh av;have a3:=zh a0;have b9:=zh hlen;have ca:=zh hn;have a4:=zh a2;clear h hlen hp hE C av a0 hl hA h2 h3 a2 hn w;go_enter Tryz.func77,Tryz.ntmps77;go_wp2_with fail;refine HF.mono ?_;rintro e w1 ⟨rfl,hd⟩;have HD:=zh hd;have a5:=M1 (HH.done hd);have cb:W.heap.size<=w1.heap.size:=hd.turned.size;have y:=zh (show (w0.heap.size<=w1.heap.size/\s<w1.heap.size)/\m<w1.heap.size from ⟨⟨oo,by have:=a4.1;omega⟩,by have:=a4.2;omega⟩)
   have cc:=zh (show ∀(k:Nat) (hk:k<l.length),∃bl d,A=some ⟨bl,d,none⟩/\bl<w1.heap.size/\bl≠m/\w1.cell? ⟨bl,d+k,none⟩=some (.int .i64 l[k]) from λk hk=>by
    obtain ⟨bl,d,e,hb,ha,hc⟩:=a1.out k hk
    obtain ⟨F,cu,_⟩:=HH.store.seen
    have a6:=Ff cu hc
    refine ⟨bl,d,e,oo,a6,?_⟩
    rw [hd.turned.cellEq bl _ hb (λhq=>?_)]
    . exact hc
    . rcases hq with hq | hq
      . rcases ha with h9 | h9
        . exact absurd hq.1 oo
        . exact hq.2 h9
      . exact a6 hq)
   have a7:=zh a5;clear hd a5 HF a1;go_wp2_with fail;refine AB [] (λw':World=>True) qk ?_;have hS:=trivial;refine tQ 0 22 ?_;refine tT 1 (some 23) hS ?_;refine tQ 3 25 ?_;refine E5 (i:=2) (j:=4) rfl rfl qk ?faa ?fab
   case' faa=>
    intro K' hK;rw [if_pos (by rfl)];simp only [ij,iJ,iT];have T:=Og w1.drew l.length oo;have G:Blk (w1.alloc (.cells (madeCells #[Value.string ⟨#[]⟩] l.length) 9)).drew w1.heap.size 9 (madeCells #[Value.string ⟨#[]⟩] l.length):=(fy w1 _ _ rfl).drew;have U:Grew w1 (w1.alloc (.cells (madeCells #[Value.string ⟨#[]⟩] l.length) 9)).drew:=((fh w1).alloc _).drew;go_wp2_with fail;refine hK.out _ _ (.inr id) ?_;clear hK T;refine tO 4 λK' hK=>?_;go_wp2_with fail;refine (SW s E w1.heap.size _ U.size).mono ?_;rintro e wz ⟨gv,mm,rfl,z,gz⟩;have H:OwnL wz w1.heap.size 9 1 (.slice (some ⟨w1.heap.size,0,none⟩) 0 l.length) []:=ST (G.grew gz) (fk _) oo;have N:Grew w1 wz:=U.trans gz;clear G U gz;go_wp2_with fail;refine hK.out _ _ (.inr id) ?_;clear hK;refine tQ 5 8 ?_;refine tQ 6 9 ?_;refine AA qk ?_ _;obtain ⟨vo,M⟩:∃vo,vo=Value.slice (some ⟨w1.heap.size,0,none⟩) 0 l.length:=⟨_,rfl⟩;rw [<-M] at H ⊢;clear M
   case' fab=>
    intro K' hK;rw [if_pos (by rfl)];simp only [ij,iJ,iT];go_wp2_with fail;refine (SW s E w1.heap.size w1.drew (fk _)).mono ?_;rintro e w2 ⟨gv,mm,rfl,bt,gz⟩;have T:=Og w2 l.length oo;have G:Blk (w2.alloc (.cells (madeCells #[Value.string ⟨#[]⟩] l.length) 9)) w2.heap.size 9 (madeCells #[Value.string ⟨#[]⟩] l.length):=fy w2 _ _ rfl;have N:Grew w1 (w2.alloc (.cells (madeCells #[Value.string ⟨#[]⟩] l.length) 9)):=(((fh w1).drew.trans gz)).alloc _;have z:=bt.grew ((fh w2).alloc (.cells (madeCells #[Value.string ⟨#[]⟩] l.length) 9));have H:OwnL (w2.alloc (.cells (madeCells #[Value.string ⟨#[]⟩] l.length) 9)) w1.heap.size 9 1 (.slice (some ⟨w2.heap.size,0,none⟩) 0 l.length) []:=ST G gz.size oo;clear bt gz G;go_wp2_with fail;refine hK.out _ _ (.inr id) ?_;clear hK;refine tO 2 λK' hK=>?_;go_wp2_with fail;refine hK.out _ _ (.inr id) ?_;clear hK T;refine tQ 5 8 ?_;refine tQ 6 9 ?_;refine AA qk ?_ _;obtain ⟨vo,M⟩:∃vo,vo=Value.slice (some ⟨w2.heap.size,0,none⟩) 0 l.length:=⟨_,rfl⟩;rw [<-M] at H ⊢;clear M;generalize hwz:w2.alloc (.cells (madeCells #[Value.string ⟨#[]⟩] l.length) 9)=wz at*;clear hwz
   all_goals
    have a8:=zh H;have a9:=zh z;have bb:=zh (Ir a7 N);have bc:=zh N;clear H z N;go_wp2_with fail
    go_loopg [8,29] l.length (λgk u i' wr=>∃k:Nat,k<=l.length/\gk=l.length - k/\i'=.int .i64 (k:Int)/\BM E n (l.take k)=0/\OwnL wr w1.heap.size 9 1 u ((EF E (l.take k)).map BT)/\ViewM wr w1.heap.size gv s mm E/\Held w0 x s m sy ep E (up out w1.heap.size wr) wr/\Turned (λq=>q=m\/w1.heap.size<=q) w1 wr)
    case atStart=>exact ⟨0,oo,oo,rfl,rfl,a8,a9,bb,bc.turned _⟩
    case round=>
     obtain ⟨k,hk,bw,rfl,t,bx,z,hh,ht⟩:=hrel;have ce:=zh bw;have V:=zh t;have I:=zh bx;have J:=zh hh;have B:=zh ht;have bd:=zh z;have O:=zh (show ∀w':World,Held w0 x s m sy ep E (up out w1.heap.size w') w'->Turned (λq=>q=m\/w1.heap.size<=q) w1 w'->Back w0 x s m sy ep E out W w1.heap.size w' from λw' h1 h2=>⟨cb,h2.size,h1,HD.turned.next h2 (λk hk hq=>hq.elim .inr (λh9=>absurd hk oo))⟩);clear bw t bx z hh ht a9 bb bc a8;by_cases L:k<l.length
     . obtain ⟨bl,d,rfl,b0,b1,hc⟩:=cc.out k L;have cf:wr.cell? ⟨bl,d+k,none⟩=some (.int .i64 l[k]):=by rw [B.out.cellEq bl _ b0 (λhq=>hq.elim b1 (λh9=>oo))];exact hc
       have cz:bl<wr.heap.size:=fw b0 B.size;have bf:=b5.out l[k] (fq L);unfold okI at bf;have K:=zh (ak E n l k L V);have P:=zh (UR E n l k L V);have Q:=zh (Q9 E l k L);obtain ⟨i,hi⟩:∃i,l[k]=i:=⟨_,rfl⟩;rw [hi] at cf K P Q bf;have X:=zh (KM J);rw [b3] at X;clear hc hi b1;by_cases ae:i<0
       . have ch:decide (i<0)=true:=gD ae;have hr:=K.out;rw [if_pos (.inl ae)] at hr;rw [hr] at v;have o:=zh v;clear hr;go_wp2_with fail;go_ret2;exact ⟨_,_,by rw [<-o.out];rfl,O _ J B,λh9=>absurd h9 (by rw [<-o.out];decide)⟩
       . have ch:decide (i<0)=false:=gE ae;obtain ⟨q,rfl⟩:∃q:Nat,i=(q:Int):=⟨i.toNat,oo⟩;by_cases c4:n<=q
         . have hib:decide ((n:Int)<=(q:Int))=true:=gD oo;have ci:(q:Int)>=(n:Int):=oo;have hr:=K.out;rw [if_pos (.inr oo)] at hr;rw [hr] at v;have o:=zh v;clear hr;go_wp2_with fail;refine X.mono ?_;rintro e w5 ⟨rfl,g5⟩;have p:=zh g5;clear g5;go_wp2_with fail;go_ret2;exact ⟨_,_,by rw [<-o.out];rfl,(O _ J B).grew p,λh9=>absurd h9 (by rw [<-o.out];decide)⟩
         . have hib:decide ((n:Int)<=(q:Int))=false:=gE oo;have ci:¬(q:Int)>=(n:Int):=oo;have hr:=K.out;rw [if_neg oo,gQ] at hr;rw [gQ] at P Q;have bk:=zh (λ(w5:World) (hg:Grew wr w5)=>bW (Ir J hg) y.1 (by rw [a3.out];exact b9.1) b6 y.2 (bd.grew hg) q (by have:=ca.out;have:=a3.out;omega) oo);obtain ⟨⟨dd,ee⟩,b2⟩:∃r,C4 E q=r:=⟨_,rfl⟩;rw [b2] at bk hr P Q;have cj:=zh hr;clear hr b2 K;go_wp2_with fail;refine X.mono ?_;rintro e w5 ⟨rfl,g5⟩;have p:=zh g5;clear g5;go_wp2_with fail;refine (bk w5 p).mono ?_;rintro e w6 ⟨rfl,bv,aj,al⟩;have cl:w1.heap.size<=gv/\w1.heap.size<=mm:=by obtain ⟨cv,F,hv⟩:=aj;exact ⟨hv.lg,hv.lm⟩
           have Y:Hid (Turned (λq=>q=m\/w1.heap.size<=q) w1 w6):=zh ((B.out.trans (p.turned _)).trans (al.mono λk _ hk=>by rcases hk with hk | hk | hk;exact .inl hk;exact .inr oo;exact .inr oo));have bn:=zh bv;have cm:=zh aj;have c0:=y.2
           have R:=zh ((I.grew p).kept al (λg hg e=>by
            have c1:=(I.own_ge hg).1
            obtain ⟨cv,F,hv⟩:=bd.grew p
            rcases e with e | e | e
            . omega
            . subst e;exact (I.grew p).ne_blk hv.blk qd hg
            . subst e;exact DX (I.grew p) hv.map hg))
           clear bv aj al cl;by_cases t:ee=0
           . subst t;have co:=zh (P oo rfl);have cp:=Y.size;have Z:((EF E (l.take k)).map BT).length=k:=by simp [EF];omega
             go_wp2_with (at_builtin;refine BZ rfl _ _ 60 rfl w1.heap.size 9 1 16 (.string ⟨#[]⟩) Tryz.underlying60 Oy rfl qd (w6.alloc (.cells #[.string dd] 9)) u8 ((EF E (l.take k)).map BT) [.string dd] rfl (by first | rfl | (simp;done)) (R.alloc _) w6.heap.size (by first | rfl | (simp;done)) (fy _ _ _ rfl) rfl (by rw [Z];omega) (by rw [Z];omega) (by simp;omega) k Z ?_);intro g9 c5 w9 an a _ _;rw [<-Q.out] at an;have aa:Turned (λq=>q=m\/w1.heap.size<=q) w1 w9:=Y.out.trans (((gW _ w6).alloc _).trans ⟨a.os,a.tape,a.output,a.size,λk hk hn=>a.block k hk (λe9=>hn (.inr (R.own_ge e9.symm).1))⟩);have bo:StoreM w9 s m x sy ep:=(bn.store.grew ((fh w6).alloc (.cells #[.string dd] 9))).kept (S:=λq=>w1.heap.size<=q) ⟨a.os,a.tape,a.output,a.size,λk hk hn=>a.block k hk (λe9=>hn (R.own_ge e9.symm).1)⟩ (by have:=y.1.2;omega) oo;have br:ViewM w9 w1.heap.size gv s mm E:=(cm.grew ((fh w6).alloc (.cells #[.string dd] 9))).row (R.alloc (.cells #[.string dd] 9)) qd qd a;have ad:=zh an;have cq:=zh aa;have cr:=zh (a7.up y.1 y.2 aa bo);have cs:=zh br;clear an a aa bo br cp;go_wp2_with fail
             go_roundg (l.length - (k+1))
             case measure=>rw [ce.out];omega
             case rel=>exact ⟨k+1,oo,rfl,by go_num,co,ad,cs,cr,cq⟩
           . have c2:(ee != 0)=true:=by rw [gu];exact t
             have hr:=cj.out;rw [if_pos t] at hr;rw [hr] at v;have o:=zh v;have H0:=zh t;clear hr t;go_wp2_with fail;go_ret2;exact ⟨_,_,by rw [<-o.out];rfl,O _ bn Y,λh9=>absurd (o.out.trans h9) H0⟩
     . have bs:k=l.length:=oo;have w:BM E n l=0:=by have:=V.out;rwa [bs,i8] at this
       have o:=zh (show (0:Int)=er/\EF E l=ss from ⟨by rw [<-v.out,w],by rw [<-b4.out,if_pos w]⟩);have ad:=zh (show OwnL wr w1.heap.size 9 1 u8 (ss.map BT) from by have:=I.out;rw [bs,i8,o.out.2] at this;exact this);clear w;go_wp2_with fail;go_ret2;exact ⟨_,_,by rw [<-o.out.1];rfl,O _ J B,λ_=>ad⟩
 . rw [if_pos (by simpa using h0)] at hr;injection hr with h1 h2;injection h2 with h2 h3;subst h1;subst h2;subst h3;have c3:(f != 0)=true:=by rw [gu];exact h0
   have H0:=zh h0;clear h hlen hp hE C h0;go_enter Tryz.func77,Tryz.ntmps77;go_wp2_with fail;refine HF.mono ?_;rintro e w1 ⟨rfl,hd⟩;have HD:=zh hd;clear hd;go_wp2_with fail;go_ret2;exact ⟨_,_,rfl,Done.back HH HD,λh9=>absurd h9 H0⟩
end

theorem Uo (la lb:List ByteArray) (A B:Option Addr) (ca cb:Nat) (w:World) (hA:ListAt w w.heap.size 1 A (la.map λs=>[.string s])) (hB:ListAt w w.heap.size 1 B (lb.map λs=>[.string s])) (hl:la.length<=1000000) (j:lb.length<=1000000):
 Calls Tryz.prog 92 #[.slice A la.length ca,.slice B lb.length cb] w λe w'=>e=.returned (.bool (decide (la=lb)))/\Grew w w':=by
 have HA:=zh hA;have HB:=zh hB;clear hA hB;by_cases hn:la.length=lb.length
 . have g:((la.length:Int) != (lb.length:Int))=false:=by rw [hn];simp
   have HN:=zh hn;clear hn;go_enter Tryz.func92,Tryz.ntmps92;go_wp2_with fail
   go_loopg [13] la.length (λgk i' wr=>∃i:Nat,i<=la.length/\gk=la.length - i/\i'=.int .i64 i/\Grew w wr/\la.take i=lb.take i)
   case atStart=>exact ⟨0,oo,oo,rfl,fh _,by rw [take_zero,take_zero]⟩
   case round=>
    obtain ⟨i,hi,c,rfl,hg,ht⟩:=hrel;have h:=zh c;have HG:=zh hg;have HT:=zh ht;clear c hg ht;by_cases a:i<la.length
    . have b:i<lb.length:=by rw [<-HN.out];exact a
      have k:(i:Int)<(la.length:Int):=oo;have hib:(i:Int)<(lb.length:Int):=oo;obtain ⟨b1,o1,rfl,d,c1⟩:=VH (AO HA HG) a;obtain ⟨b2,o2,rfl,f,c2⟩:=VH (AO HB HG) b;obtain ⟨x,hx⟩:∃x,la[i]=x:=⟨_,rfl⟩;obtain ⟨y,hy⟩:∃y,lb[i]=y:=⟨_,rfl⟩;rw [hx] at c1;rw [hy] at c2;have HX:=zh hx;have HY:=zh hy;clear hx hy;by_cases he:x=y
      . subst he;go_wp2_with fail;refine AB [] (λw':World=>w'.cell? ⟨b1,o1+i,none⟩=some (.string x)/\b1<w'.heap.size/\w'.cell? ⟨b2,o2+i,none⟩=some (.string x)/\b2<w'.heap.size) qk ?_;have hS:=(show (λw':World=>w'.cell? ⟨b1,o1+i,none⟩=some (.string x)/\b1<w'.heap.size/\w'.cell? ⟨b2,o2+i,none⟩=some (.string x)/\b2<w'.heap.size) wr.drew from ⟨c1,d,c2,f⟩);refine tQ 0 16 ?_;refine tQ 1 17 ?_;refine tQ 2 18 ?_;refine tT 3 (some 19) hS ?_;refine tQ 4 20 ?_;refine tQ 5 21 ?_;refine tQ 6 22 ?_;refine tT 7 (some 23) hS ?_;refine tQ 8 24 ?_;refine AA qk ?_ _;go_wp2_with fail
        go_roundg (la.length - (i+1))
        case measure=>rw [h.out];omega
        case rel=>exact ⟨i+1,oo,oo,by go_num,HG.drew,by rw [fr a,fr b,HT.out,HX.out,HY.out]⟩
      . have l:(x.toList==y.toList)=false:=by rw [gF];exact λh9=>he (VL h9)
        have HE:=zh (show la≠lb from λh9=>he (by rw [<-HX.out,<-HY.out];simp only [h9]));go_wp2_with fail;refine AB [] (λw':World=>w'.cell? ⟨b1,o1+i,none⟩=some (.string x)/\b1<w'.heap.size/\w'.cell? ⟨b2,o2+i,none⟩=some (.string y)/\b2<w'.heap.size) qk ?_;have hS:=(show (λw':World=>w'.cell? ⟨b1,o1+i,none⟩=some (.string x)/\b1<w'.heap.size/\w'.cell? ⟨b2,o2+i,none⟩=some (.string y)/\b2<w'.heap.size) wr.drew from ⟨c1,d,c2,f⟩);refine tQ 0 16 ?_;refine tQ 1 17 ?_;refine tQ 2 18 ?_;refine tT 3 (some 19) hS ?_;refine tQ 4 20 ?_;refine tQ 5 21 ?_;refine tQ 6 22 ?_;refine tT 7 (some 23) hS ?_;refine tQ 8 24 ?_;refine AA qk ?_ _;go_wp2_with fail;go_ret;exact ⟨by rw [gE HE.out];rfl,HG.drew⟩
    . obtain rfl:i=la.length:=oo
      have HE:Hid (la=lb):=zh (by
       have:=HT.out
       rw [gP (fk _),gP (by rw [HN.out];exact fk _)] at this
       exact this)
      go_wp2_with fail;go_ret;exact ⟨by rw [gD HE.out];rfl,HG⟩
 . have g:((la.length:Int) != (lb.length:Int))=true:=by rw [gu];omega
   have HE:=zh (show la≠lb from λh9=>hn (by rw [h9]));clear hn;go_enter Tryz.func92,Tryz.ntmps92;go_wp2_with fail;go_ret;exact ⟨by rw [gE HE.out];rfl,fh w⟩
def GD (s:Nat) (n:Int) (sv:Value) (T:Tab) (tv:Value):Array Value:=#[ptrV s,.int .i64 n,sv,.string T.name,.int .i64 T.tracks,tv]
def IB (n:Nat):List Int:=(List.range n).map λi:Nat=>(i:Int)
theorem XL (n:Nat):(IB n).length=n:=by simp [IB]
def JQ (n i:Nat):List (List Value):=(List.range n).map λj:Nat=>[.int .i64 (if j<i then (j:Int) else 0)]
theorem Tx (n:Nat):JQ n 0=List.replicate n [.int .i64 0]:=by
 unfold JQ;apply jY
 . simp
 . intro i h1 h2;simp
theorem Oj (n i j:Nat) (h:j<n):(JQ n i)[j]? =some [.int .i64 (if j<i then (j:Int) else 0)]:=by
 unfold JQ;rw [fo,ic h];rfl
theorem Ue (n i:Nat) (h:i<n):(JQ n i).set i [.int .i64 (i:Int)]=JQ n (i+1):=by
 unfold JQ;apply jY
 . simp
 . intro j h1 h2;rw [List.getElem_set];simp only [jX,List.getElem_range];by_cases hj:i=j
   . subst hj;rw [if_pos rfl,if_pos oo]
   . rw [if_neg hj];by_cases h3:j<i
     . rw [if_pos h3,if_pos oo]
     . rw [if_neg h3,if_neg oo]
theorem TX (n:Nat):JQ n n=(IB n).map OZ:=by
 unfold JQ IB OZ;rw [iq];apply iE;intro j hj;rw [if_pos (gU.1 hj)];rfl
theorem LN (w:World) (v s:Nat) (n:Int) (k:Nat) (hk:ttS n=(k:Int)) (sv:Value) (T:Tab) (tv:Value) (h:Blk w v 112 (GD s n sv T tv)):
 Calls Tryz.prog 91 #[ptrV v] w λe w'=>∃u,e=.returned u/\OwnL w' w.heap.size 3 1 u ((IB (8*k)).map OZ)/\Grew w w':=by
 have hb:=DQ n;have t:k<=32:=oo;have HT:=zh (B6 n);rw [hk] at HT;unfold GD at h;have q1:=h.cell 1;have ql:=h.lt;have HB:=zh h;obtain ⟨m,hm⟩:∃m:Nat,8*k=m:=⟨_,rfl⟩;have x:IntKind.i64.wrap ((k:Int)*8)=(m:Int):=by rw [gy _ oo];omega
 have y:m<=256:=oo;rw [hm];have d:(Instr.makeSlice 38 (.int .i64 (m:Int)) (.int .i64 (m:Int))).run Tryz.prog w=.ok (.slice (some ⟨w.heap.size,0,none⟩) m m) (w.alloc (.cells (Array.replicate m (.int .i64 0)) 3)):=Ij w m Tryz.underlying38 RT rfl oo oo;have HO:=zh (OwnL.made w w.heap.size 3 m (.int .i64 0) (fk _) oo rfl);rw [<-Tx] at HO;have HG:=zh ((fh w).alloc (.cells (Array.replicate m (.int .i64 0)) 3));clear h hb hk hm;go_enter Tryz.func91,Tryz.ntmps91;go_wp2_with fail;refine (HT w).mono ?_;rintro e w1 ⟨rfl,rfl⟩;go_wp2_with fail;clear d
 go_loopg [14] m (λgk i wr=>∃j:Nat,j<=m/\gk=m - j/\i=.int .i64 (j:Int)/\OwnL wr w.heap.size 3 1 (.slice (some ⟨w.heap.size,0,none⟩) m m) (JQ m j)/\Grew w wr)
 case atStart=>exact ⟨0,oo,oo,rfl,HO,HG⟩
 case round=>
  obtain ⟨j,hj,c,rfl,a,hg⟩:=hrel;have f:=zh c;have g:=zh a;have l:=zh hg;clear c;by_cases b:j<m
  . have x0:=a.cell (j:=j) (i:=0) (Oj m j j b) rfl;simp only [Nat.mul_one,ik] at x0;have xf:=a.frozen j;have xl:=(a.own_ge rfl).2;have q:=zh (a.set_ (o:=j) (Oj m j j b) (by omega:0<1) oo (.int .i64 (j:Int)));have r:=zh (hg.setCell (p:=⟨w.heap.size,j,none⟩) (fk _) (.int .i64 (j:Int)));clear a hg;go_wp2_with fail
    go_roundg (m - (j+1))
    case measure=>rw [f.out];omega
    case rel=>exact ⟨j+1,oo,rfl,by go_num,by rw [<-Ue m j b];exact q.out,r⟩
  . obtain rfl:j=m:=oo;clear a hg;go_wp2_with fail;go_ret;exact ⟨_,rfl,by rw [<-TX];exact g.out,l⟩

end
section
open Go.RowKit
theorem TabIn.mono {P Q:Nat->Prop} {A:Option Addr} {xs:List LabE} (h:TabIn P A xs) (hPQ:∀k,P k->Q k):TabIn Q A xs:=⟨λh0 b off e=>hPQ b (h.1 h0 b off e),λx hx h0 b off e=>hPQ b (h.2 x hx h0 b off e)⟩
theorem TabAt.stay {S P:Nat->Prop} {w w':World} {A:Option Addr} {c:Nat} {xs:List LabE} {T:Tab} (h:TabAt w A c xs T) (hi:TabIn P A xs) (ht:Turned S w w') (hS:∀k,P k->¬S k):TabAt w' A c xs T:=h.turned ht (λh0 b off e=>hS b (hi.1 h0 b off e)) (λx hx h0 b off e=>hS b (hi.2 x hx h0 b off e))
theorem CC {S:Nat->Prop} {w w':World} {sz:Nat} {A:Option Addr} {rows:List (List Value)} (h:ListAt w w.heap.size sz A rows) (ht:Turned S w w') (hS:0<rows.length->∀b off,A=some ⟨b,off,none⟩->¬S b):ListAt w' w'.heap.size sz A rows:=λh0=>by
 obtain ⟨b,off,e,hb,hc⟩:=h h0;refine ⟨b,off,e,fw hb ht.size,λj cs hj i v hi=>?_⟩;rw [ht.cellEq b _ hb (hS h0 b off e)];exact hc j cs hj i v hi
def QB (s:ByteArray):List Value:=[.string s]
structure CacheM (w:World) (n:Int) (P:Nat->Prop) (sv:Value) (T:Tab) (tv:Value):Prop where
 ss:∃(A:Option Addr) (c:Nat) (ss:List ByteArray),sv=.slice A ss.length c/\ListAt w w.heap.size 1 A (ss.map λs=>[.string s])/\(0<ss.length->∀b off,A=some ⟨b,off,none⟩->P b)/\ss.length<=100000/\(ss=[]\/(SecOf ss T/\T.tracks=n))
 tt:∃(A:Option Addr) (c:Nat) (xs:List LabE),tv=.slice A T.labels.length c/\TabAt w A c xs T/\TabIn P A xs/\SmallT T
theorem CacheM.turned {S P Q:Nat->Prop} {w w':World} {n:Int} {sv tv:Value} {T:Tab} (h:CacheM w n P sv T tv) (ht:Turned S w w') (hS:∀k,P k->¬S k) (a:∀k,P k->Q k):CacheM w' n Q sv T tv:=by
 obtain ⟨⟨A,c,ss,h1,h2,h3,h4,h5⟩,⟨B,d,xs,g1,g2,g3,g4⟩⟩:=h;refine ⟨⟨A,c,ss,h1,CC h2 ht (λh0 b off e=>hS b (h3 (by simpa using h0) b off e)),λh0 b off e=>a b (h3 h0 b off e),h4,h5⟩,⟨B,d,xs,g1,g2.stay g3 ht hS,g3.mono a,g4⟩⟩
theorem CacheM.empty (w:World) (n:Int) (P:Nat->Prop):CacheM w n P (.slice none 0 0) Ca (.slice none 0 0):=
 ⟨⟨none,0,[],rfl,λh=>absurd h qs,λh=>absurd h qs,qs,.inl rfl⟩,⟨none,0,[],rfl,TabAt.zero w,⟨λh=>absurd h qs,λx hx=>by cases hx⟩,⟨qd,by intro l hl;cases hl⟩⟩⟩
def VolM (w:World) (v s:Nat) (n:Int) (P:Nat->Prop):Prop:=∃sv T tv,Blk w v 112 (GD s n sv T tv)/\CacheM w n P sv T tv
theorem VolM.turned {S P Q:Nat->Prop} {w w':World} {v s:Nat} {n:Int} (h:VolM w v s n P) (ht:Turned S w w') (hv:¬S v) (hS:∀k,P k->¬S k) (a:∀k,P k->Q k):VolM w' v s n Q:=by
 obtain ⟨sv,T,tv,hb,hc⟩:=h;exact ⟨sv,T,tv,hb.turned ht hv,hc.turned ht hS a⟩
def Far (w0:World) (out:Nat->Prop) (m v:Nat) (k:Nat):Prop:=(k<w0.heap.size\/out k)/\k≠m/\k≠v
def VSet (w0:World) (out:Nat->Prop) (m v:Nat) (k:Nat):Prop:=(w0.heap.size<=k/\¬out k)\/k=m\/k=v
theorem Far.not {w0:World} {out:Nat->Prop} {m v k:Nat} (h:Far w0 out m v k):¬VSet w0 out m v k:=by
 rintro (h9 | h9 | h9)
 . rcases h.1 with h8 | h8
   . omega
   . exact h9.2 h8
 . exact h.2.1 h9
 . exact h.2.2 h9
structure VHeld (w0:World) (x s m v:Nat) (n:Int) (sy ep:Int) (D:Dev) (out:Nat->Prop) (W:World):Prop where
 held:Held w0 x s m sy ep D out W
 ov:out v
 v0:w0.heap.size<=v
 vol:VolM W v s n (Far w0 out m v)
theorem VHeld.grew {w0:World} {x s m v:Nat} {n sy ep:Int} {D:Dev} {out:Nat->Prop} {W W':World} (h:VHeld w0 x s m v n sy ep D out W) (hg:Grew W W'):VHeld w0 x s m v n sy ep D out W':=
 ⟨h.held.grew hg,h.ov,h.v0,h.vol.turned (hg.turned (λ_=>False)) id (λ_ _=>id) (λ_=>id)⟩
theorem VHeld.vm {w0:World} {x s m v:Nat} {n sy ep:Int} {D:Dev} {out:Nat->Prop} {W:World} (h:VHeld w0 x s m v n sy ep D out W):v≠m:=by
 obtain ⟨sv,T,tv,hb,_⟩:=h.vol;obtain ⟨F,hF,_⟩:=h.held.store.seen;exact Cd hb hF
theorem Live.turnS {w0 ws ws':World} {x:Nat} {D:Dev} {out S:Nat->Prop} (h:Live w0 x D out ws) (ht:Turned S ws ws') (hS:∀k,k<ws.heap.size->S k->out k/\w0.heap.size<=k):Live w0 x D out ws':=by
 obtain ⟨q,hx,hd,b,hf,hn⟩:=h;have a:Turned (λk=>S k/\k<ws.heap.size) ws ws':=ht.mono λk hk h=>⟨h,hk⟩;exact ⟨q,hx,hd.kept a (λk hk h=>(hn k (hS k h.2 h.1).1).2 hk),b.turn a (λk hk=>(hS k hk.2 hk.1).2),hf,λk hk=>⟨fw (hn k hk).1 ht.size,(hn k hk).2⟩⟩
theorem Held.turnS {w0:World} {x s m:Nat} {sy ep:Int} {D:Dev} {out S:Nat->Prop} {W W':World} (h:Held w0 x s m sy ep D out W) (ht:Turned S W W') (hS:∀k,k<W.heap.size->S k->out k/\w0.heap.size<=k) (hs:¬S s) (hm:¬S m):Held w0 x s m sy ep D out W':=
 ⟨h.live.turnS ht hS,h.store.kept ht hs hm,h.os,h.om,h.m0⟩
theorem Fo {w:World} {sz:Nat} {A:Option Addr} {rows:List (List Value)} (h:ListAt w w.heap.size sz A rows) (h0:0<rows.length):∀b off,A=some ⟨b,off,none⟩->b<w.heap.size:=λb off e=>by
 obtain ⟨b',off',e',hb',_⟩:=h h0;rw [e] at e';injection e' with e';injection e' with e';omega
theorem TabAt.lt {w:World} {A:Option Addr} {c:Nat} {xs:List LabE} {T:Tab} (h:TabAt w A c xs T) {P:Nat->Prop} (hi:TabIn P A xs):TabIn (λk=>P k/\k<w.heap.size) A xs:=
 ⟨λh0 b off e=>⟨hi.1 h0 b off e,Fo h.rows (by rw [fm];exact h0) b off e⟩,λx hx h0 b off e=>⟨hi.2 x hx h0 b off e,Fo (h.lab x hx).runs.2 (by rw [fm];exact h0) b off e⟩⟩
theorem CacheM.low {w:World} {n:Int} {P:Nat->Prop} {sv tv:Value} {T:Tab} (h:CacheM w n P sv T tv):CacheM w n (λk=>P k/\k<w.heap.size) sv T tv:=by
 obtain ⟨⟨A,c,ss,h1,h2,h3,h4,h5⟩,⟨B,d,xs,g1,g2,g3,g4⟩⟩:=h;exact ⟨⟨A,c,ss,h1,h2,λh0 b off e=>⟨h3 h0 b off e,Fo h2 (by rw [fm];exact h0) b off e⟩,h4,h5⟩,⟨B,d,xs,g1,g2,g2.lt g3,g4⟩⟩
theorem VolM.low {w:World} {v s:Nat} {n:Int} {P:Nat->Prop} (h:VolM w v s n P):VolM w v s n (λk=>P k/\k<w.heap.size):=by
 obtain ⟨sv,T,tv,hb,hc⟩:=h;exact ⟨sv,T,tv,hb,hc.low⟩
theorem VolM.lt {w:World} {v s:Nat} {n:Int} {P:Nat->Prop} (h:VolM w v s n P):v<w.heap.size:=by
 obtain ⟨sv,T,tv,hb,hc⟩:=h;exact hb.lt
theorem VolM.mono {w:World} {v s:Nat} {n:Int} {P Q:Nat->Prop} (h:VolM w v s n P) (hPQ:∀k,P k->Q k):VolM w v s n Q:=h.turned (gW (λ_=>False) w) id (λ_ _=>id) hPQ
structure VDid (w0:World) (x s m v:Nat) (n:Int) (sy ep:Int) (D':Dev) (out:Nat->Prop) (W:World) (out':Nat->Prop) (w':World):Prop where
 sub:∀k,out k->out' k
 held:VHeld w0 x s m v n sy ep D' out' w'
 turned:Turned (VSet w0 out m v) W w'
 fresh:∀P:Nat->Prop,(∀k,P k->Far w0 out m v k)->VolM W v s n P->VolM w' v s n (λk=>(P k\/W.heap.size<=k)/\Far w0 out' m v k)
theorem VSet.mono {w0:World} {out out':Nat->Prop} {m v k:Nat} (hs:∀k,out k->out' k) (h:VSet w0 out' m v k):VSet w0 out m v k:=h.imp (λh9=>⟨h9.1,λh8=>h9.2 (hs k h8)⟩) id
theorem Far.mono {w0:World} {out out':Nat->Prop} {m v k:Nat} (hs:∀k,out k->out' k) (h:Far w0 out m v k):Far w0 out' m v k:=⟨h.1.imp id (hs k),h.2⟩
theorem VDid.refl {w0:World} {x s m v:Nat} {n sy ep:Int} {D:Dev} {out:Nat->Prop} {W:World} (h:VHeld w0 x s m v n sy ep D out W):VDid w0 x s m v n sy ep D out W out W:=⟨λ_=>id,h,gW _ W,λP hP hv=>hv.mono λk hk=>⟨.inl hk,hP k hk⟩⟩
theorem VDid.trans {w0:World} {x s m v:Nat} {n sy ep:Int} {D1 D2:Dev} {out o1 o2:Nat->Prop} {W w1 w2:World} (h:VDid w0 x s m v n sy ep D1 out W o1 w1) (k:VDid w0 x s m v n sy ep D2 o1 w1 o2 w2):VDid w0 x s m v n sy ep D2 out W o2 w2:=
 ⟨λq hq=>k.sub q (h.sub q hq),k.held,h.turned.trans (k.turned.mono λ_ _ hk=>VSet.mono h.sub hk),λP hP hv=>(k.fresh _ (λq hq=>hq.2) (h.fresh P hP hv)).mono λq hq=>⟨hq.1.elim (λh9=>h9.1) (λh9=>.inr (fx h.turned.size h9)),hq.2⟩⟩
theorem VDid.grew {w0:World} {x s m v:Nat} {n sy ep:Int} {D1:Dev} {out o1:Nat->Prop} {W w1 w2:World} (h:VDid w0 x s m v n sy ep D1 out W o1 w1) (hg:Grew w1 w2):VDid w0 x s m v n sy ep D1 out W o1 w2:=
 ⟨h.sub,h.held.grew hg,h.turned.trans (hg.turned _),λP hP hv=>(h.fresh P hP hv).turned (hg.turned (λ_=>False)) id (λ_ _=>id) (λ_=>id)⟩
theorem VHeld.more {w0:World} {x s m v:Nat} {n sy ep:Int} {D:Dev} {out:Nat->Prop} {W W':World} (h:VHeld w0 x s m v n sy ep D out W) (hg:Grew W W'):VHeld w0 x s m v n sy ep D (λk=>out k\/(W.heap.size<=k/\k<W'.heap.size)) W':=
 ⟨⟨h.held.live.more hg,h.held.store.grew hg,.inl h.held.os,.inl h.held.om,h.held.m0⟩,.inl h.ov,h.v0,h.vol.turned (hg.turned (λ_=>False)) id (λ_ _=>id) (λ_ hk=>hk.mono λ_=>.inl)⟩
theorem VDid.more {w0:World} {x s m v:Nat} {n sy ep:Int} {D1:Dev} {out o1:Nat->Prop} {W w1 w2:World} (h:VDid w0 x s m v n sy ep D1 out W o1 w1) (hg:Grew w1 w2):VDid w0 x s m v n sy ep D1 out W (λk=>o1 k\/(w1.heap.size<=k/\k<w2.heap.size)) w2:=
 ⟨λk hk=>.inl (h.sub k hk),h.held.more hg,h.turned.trans (hg.turned _),λP hP hv=>(h.fresh P hP hv).turned (hg.turned (λ_=>False)) id (λ_ _=>id) (λ_ hk=>⟨hk.1,hk.2.mono λ_=>.inl⟩)⟩
theorem VHeld.step {w0:World} {x s m v:Nat} {n sy ep:Int} {D D':Dev} {out out':Nat->Prop} {W w':World} (h:VHeld w0 x s m v n sy ep D out W) (hs:∀k,out k->out' k) (hh:Held w0 x s m sy ep D' out' w') (ht:Turned (λk=>(w0.heap.size<=k/\¬out k)\/k=m) W w'):VDid w0 x s m v n sy ep D' out W out' w':=by
 have a:=h.vm;have hv:¬((w0.heap.size<=v/\¬out v)\/v=m):=λh9=>h9.elim (λh8=>h8.2 h.ov) a;have hF:∀k,Far w0 out m v k->¬((w0.heap.size<=k/\¬out k)\/k=m):=λk hk h9=>hk.not (h9.imp id .inl);exact ⟨hs,⟨hh,hs _ h.ov,h.v0,h.vol.turned ht hv hF (λk hk=>hk.mono hs)⟩,ht.mono λk _ hk=>hk.imp id .inl,λP hP hw=>hw.turned ht hv (λk hk=>hF k (hP k hk)) (λk hk=>⟨.inl hk,(hP k hk).mono hs⟩)⟩
theorem VHeld.back {w0:World} {x s m v:Nat} {n sy ep:Int} {D D':Dev} {out:Nat->Prop} {W:World} {lo:Nat} {w':World} (h:VHeld w0 x s m v n sy ep D out W) (hb:Back w0 x s m sy ep D' out W lo w'):VDid w0 x s m v n sy ep D' out W (up out lo w') w':=h.step (λk=>.inl) hb.held hb.turned
theorem VHeld.done {w0:World} {x s m v:Nat} {n sy ep:Int} {D D':Dev} {out:Nat->Prop} {W w':World} (h:VHeld w0 x s m v n sy ep D out W) (hd:Done w0 x s m sy ep D' out W w'):VDid w0 x s m v n sy ep D' out W out w':=h.step (λk=>id) (h.held.done hd) hd.turned
theorem VDid.local_ {w0:World} {x s m v:Nat} {n sy ep:Int} {D D1:Dev} {out o1:Nat->Prop} {W0 W w1 w2:World} {g:Nat} (h0:VHeld w0 x s m v n sy ep D out W0) (a:Grew W0 W) (h:VDid w0 x s m v n sy ep D1 (λk=>out k\/(W0.heap.size<=k/\k<W.heap.size)) W o1 w1)
 (hg:W0.heap.size<=g/\g<W.heap.size) (ht:Turned (λk=>k=g) w1 w2):VDid w0 x s m v n sy ep D1 out W0 o1 w2:=by
 have c:=h0.held.store.lt;have d:=h0.vol.lt;have f:=h0.held.live.base.size
 have b:∀P:Nat->Prop,(∀k,P k->Far w0 out m v k)->VolM W0 v s n P->VolM w2 v s n (λk=>(P k\/W0.heap.size<=k)/\Far w0 o1 m v k):=λP hP hv=>by
  have h1:=h.fresh (λk=>P k/\k<W0.heap.size) (λk hk=>(hP k hk.1).mono λ_=>.inl) (hv.low.turned (a.turned (λ_=>False)) id (λ_ _=>id) (λ_=>id));refine h1.turned ht oo (λk hk e=>?_) (λk hk=>⟨hk.1.imp (λh9=>h9.1) (λh9=>fx a.size h9),hk.2⟩);subst e;rcases hk.1 with h9 | h9
  . omega
  . omega
 refine ⟨λk hk=>h.sub k (.inl hk),⟨h.held.held.turnS ht (λk _ e=>by subst e;exact ⟨h.sub _ (.inr hg),oo⟩) oo oo,h.held.ov,h.held.v0,(b _ (λ_=>id) h0.vol).mono λk hk=>hk.2⟩,?_,b⟩;have h2:Turned (VSet w0 out m v) W0 w1:=(a.turned _).trans (h.turned.mono λk _ hk=>VSet.mono (λ_=>.inl) hk);exact h2.next ht (λi hi e=>oo)
open Classical in
noncomputable def Nx (ss:List ByteArray):Option Tab:=if h:∃T,SecOf ss T then some h.choose else none
theorem Nc {ss:List ByteArray} {T:Tab} (h:SecOf ss T):Nx ss=some T:=by
 have hx:∃T,SecOf ss T:=⟨T,h⟩;unfold Nx;rw [dif_pos hx];exact gJ some (hx.choose_spec.unique h)
theorem VB {ss:List ByteArray} (h:∀T,¬SecOf ss T):Nx ss=none:=by
 unfold Nx;exact dif_neg (λ⟨T,hT⟩=>h T hT)
theorem Wz {ss:List ByteArray} {T:Tab} (h:Nx ss=some T):SecOf ss T:=by
 unfold Nx at h;split at h
 . rename_i hx;injection h with h;rw [<-h];exact hx.choose_spec
 . cases h
def tsI (n:Int):List Int:=IB (8*(ttS n).toNat)
noncomputable def asT (n:Int) (r:List ByteArray × Int):Tab × Int:=
 if r.2≠0 then (Ca,r.2) else match Nx r.1 with
  | some T=>if T.tracks=n then (T,0) else (Ca,11)
  | none=>(Ca,11)
noncomputable def B9 (D:Dev) (sy ep n:Int):Dev × Tab × Int:=((CQ D sy ep (tsI n)).1,asT n (CQ D sy ep (tsI n)).2)
theorem VZ {n:Int} {ss:List ByteArray} {er:Int} (h:er≠0):asT n (ss,er)=(Ca,er):=by unfold asT;rw [if_pos h]
theorem Qs {n:Int} {ss:List ByteArray} {T:Tab} (h:SecOf ss T) (ht:T.tracks=n):asT n (ss,0)=(T,0):=by
 unfold asT;rw [if_neg qs,Nc h];exact if_pos ht
theorem WD {n:Int} {ss:List ByteArray} {T:Tab} (h:SecOf ss T) (ht:T.tracks≠n):asT n (ss,0)=(Ca,11):=by
 unfold asT;rw [if_neg qs,Nc h];exact if_neg ht
theorem aw {n:Int} {ss:List ByteArray} (h:∀T,¬SecOf ss T):asT n (ss,0)=(Ca,11):=by
 unfold asT;rw [if_neg qs,VB h]
theorem Za (t:ByteArray) (i:Int):(AJ t i).data.size<=128:=by
 unfold AJ;split
 . show (t.extract 0 128).size<=_;rw [gO];omega
 . show 0<=128;omega
theorem Xr (E:Dev) (i:Nat):(C4 E i).1.size<=128:=by
 unfold C4;split
 . exact iB _
 split
 . exact iB _
 split
 . exact iB _
 split
 . exact iB _
 split
 . exact iB _
 . exact Za _ _
theorem NB (D:Dev) (sy ep:Int) (l:List Int):∀s∈(CQ D sy ep l).2.1,s.size<=128:=by
 intro s hs;unfold CQ at hs;split at hs
 . cases hs
 . simp only at hs;split at hs
   . unfold EF at hs;obtain ⟨i,_,rfl⟩:=ft.1 hs;exact Xr _ _
   . cases hs
theorem Oo (D:Dev) (sy ep:Int) (l:List Int) (h:(CQ D sy ep l).2.2=0):(CQ D sy ep l).2.1.length=l.length:=by
 unfold CQ at h ⊢;split at h
 . rename_i h1;exact absurd h h1
 . rename_i h1;rw [if_neg h1];simp only at h ⊢;rw [if_pos h];unfold EF;rw [fm]
theorem Km (n:Int):(tsI n).length=8*(ttS n).toNat:=by unfold tsI;rw [XL]
theorem fF (n:Int):∀i∈tsI n,okI i:=by
 have:=DQ n;intro i hi;unfold tsI IB at hi;obtain ⟨j,hj,rfl⟩:=ft.1 hi;have:=gU.1 hj;unfold okI;omega

end
section
attribute [local go_sem ↓] Go.wp_at_zero Go.wp_at_succ
open Go.RowKit
def fR (w0:World) (x s m v:Nat) (n sy ep:Int) (D':Dev) (out:Nat->Prop) (W:World) (T:Tab) (er:Int) (e:Ending) (w':World):Prop:=
 ∃out' A c ys,e=.returned (.tuple #[.agg #[.string T.name,.int .i64 T.tracks,.slice A T.labels.length c],.int .i64 er])/\VDid w0 x s m v n sy ep D' out W out' w'/\TabAt w' A c ys T/\TabIn (λk=>W.heap.size<=k/\out' k) A ys/\SmallT T
theorem be {w0:World} {x s m v:Nat} {n sy ep:Int} {D:Dev} {out:Nat->Prop} {W W':World} (h:VHeld w0 x s m v n sy ep D out W) (ht:Turned (λk=>k=v) W W') (hv:VolM W' v s n (Far w0 out m v)):VHeld w0 x s m v n sy ep D out W':=
 ⟨⟨h.held.live.turn1 h.ov h.v0 ht,h.held.store.kept ht (λe=>by
  obtain ⟨sv,T,tv,hb,_⟩:=h.vol
  exact Blk.ne_ (h.held.store.blk) hb qd e) (λe=>h.vm e.symm),h.held.os,h.held.om,h.held.m0⟩,h.ov,h.v0,hv⟩
theorem VDid.refresh {w0:World} {x s m v:Nat} {n sy ep:Int} {D1:Dev} {out o1:Nat->Prop} {W w1 w2:World} (h:VDid w0 x s m v n sy ep D1 out W o1 w1) (ht:Turned (λk=>k=v) w1 w2) (hv:VolM w2 v s n (λk=>W.heap.size<=k/\Far w0 o1 m v k)):VDid w0 x s m v n sy ep D1 out W o1 w2:=
 ⟨h.sub,be h.held ht (hv.mono λk hk=>hk.2),h.turned.trans (ht.mono λk _ e=>.inr (.inr e)),λP hP hw=>hv.mono λk hk=>⟨.inr hk.1,hk.2⟩⟩
theorem K8 {w:World} {b v:Nat} {o:Nat} {u:Value} (h:b≠v):∀i,(w.setCell ⟨v,o,none⟩ u).cell? ⟨b,i,none⟩=w.cell? ⟨b,i,none⟩:=λi=>World.cell?_of_block (Below.heap_setCell w ⟨v,o,none⟩ u b h)
section
variable {w0:World} {x s m v:Nat} {n sy ep:Int} {D:Dev} {out:Nat->Prop} {W:World} (h:VHeld w0 x s m v n sy ep D out W) (hlen:132<=D.st.length/\D.st.length<=1155) (hp:D.pend.length<=980000) (hn:okT n=true)
include h hlen hp hn
theorem Fy (D':Dev) (T:Tab) (er:Int) (hr:B9 D sy ep n=(D',T,er)):Calls Tryz.prog 36 #[ptrV v] W (fR w0 x s m v n sy ep D' out W T er):=by
 obtain ⟨ji,jj⟩:=B0 hn;obtain ⟨q,hq,gi⟩:∃q:Nat,ttS n=(q:Int)/\0<q:=⟨(ttS n).toNat,by unfold ttS;rw [if_pos hn];omega,by unfold ttS;rw [if_pos hn];omega⟩;have d5:=DQ n;have d6:tsI n=IB (8*q):=by unfold tsI;rw [hq,gQ]
 obtain ⟨⟨E,ss,f⟩,hE⟩:∃r,CQ D sy ep (tsI n)=r:=⟨_,rfl⟩;have bd:=NB D sy ep (tsI n);have av:=Oo D sy ep (tsI n);rw [hE] at bd av;simp only at bd av;unfold B9 at hr;rw [hE] at hr;injection hr with h1 hr;simp only at h1 hr;subst h1;have bf:=Km n;rw [hq,gQ] at bf;rw [bf] at av;have d7:=zh (λ(w1:World) (o1:Nat->Prop) (h1:Held w0 x s m sy ep D o1 w1) (A:Option Addr) (c:Nat) (hl:ListAt w1 w1.heap.size 1 A ((tsI n).map OZ)) (hA:tsI n≠[]->ED w0 o1 A)=>Ic h1 hlen hp (tsI n) (fF n) (by rw [bf];omega) A c hl hA E ss f hE);have cc:=zh (fy W 50 #[.string ⟨#[]⟩,.int .i64 0,.slice none 0 0] rfl);have bk:Grew W (W.alloc (.cells #[.string ⟨#[]⟩,.int .i64 0,.slice none 0 0] 50)):=(fh W).alloc _;have HH:=zh h;have ce:=zh (h.more bk);have a0:=zh bk;have ea:m<W.heap.size:=h.held.store.lt.2;have eb:v<W.heap.size:=h.vol.lt;have cf:W.heap.size<(W.alloc (.cells #[.string ⟨#[]⟩,.int .i64 0,.slice none 0 0] 50)).heap.size:=qs;obtain ⟨sv,TC,tv,G,d2⟩:=h.vol.turned (bk.turned (λ_=>False)) id (λ_ _=>id) (λ_=>id);have bl:=zh (LN (W.alloc (.cells #[.string ⟨#[]⟩,.int .i64 0,.slice none 0 0] 50)).drew v s n q hq sv TC tv G.drew);rw [<-d6] at bl;unfold GD at G;have v0:=G.cell 0;have vl:=G.lt;have ec:=zh bd;have U:=zh av;have HR:=zh hr;have HQ:=zh gi;have gz:=zh (show q<=32 from oo);clear h hlen hp hr hE bd av bk G d2 d6 d5 hq hn bf gi;go_enter Tryz.func36,Tryz.ntmps36;go_wp2_with fail;obtain ⟨W1,gj⟩:∃W1,W1=W.alloc (.cells #[.string ⟨#[]⟩,.int .i64 0,.slice none 0 0] 50):=⟨_,rfl⟩;rw [<-gj] at cc ce a0 bl v0 vl cf ⊢;have t:=zh (show (m<W.heap.size/\v<W.heap.size)/\W.heap.size<W1.heap.size from ⟨⟨ea,eb⟩,cf⟩);clear gj ea eb cf;refine AB [6] (λw':World=>w'.cell? ⟨v,0,none⟩=some (ptrV s)/\v<w'.heap.size) qk ?_;have hS:=(show (λw':World=>w'.cell? ⟨v,0,none⟩=some (ptrV s)/\v<w'.heap.size) W1.drew from ⟨v0,vl⟩);refine tQ 0 11 ?_;refine tT 1 (some 12) hS ?_;refine tQ 2 13 ?_;refine tT 3 (some 14) hS ?_;refine tQ 4 15 ?_;refine tO 5 λK' hK=>?_;go_wp2_with fail;refine bl.mono ?_;rintro e w2 ⟨u,rfl,P,g2⟩;have ch:Grew W1 w2:=(fh W1).drew.trans g2;obtain ⟨Au,cu,hu,_,_,ad⟩:=P.listAt;rw [fm] at hu;subst hu;have a5:=zh ((VDid.refl ce).more ch)
 have ee:tsI n≠[]->ED w0 (λk=>(out k\/(W.heap.size<=k/\k<W1.heap.size))\/(W1.heap.size<=k/\k<w2.heap.size)) Au:=λ_ b off e=>.inr (.inr (by
  have:=P.own_ge (g:=b) (by rw [e];rfl)
  exact this))
 have eg:=zh (d7 w2 _ a5.held.held Au cu ad ee);have ei:=zh (cc.grew ch);have ek:=zh (λ(hS:W1.drew.cell? ⟨v,0,none⟩=some (ptrV s)/\v<W1.drew.heap.size)=>(show w2.cell? ⟨v,0,none⟩=some (ptrV s)/\v<w2.heap.size from ⟨BG g2 hS.1,fw hS.2 g2.size⟩));clear P ad ee g2 ch;go_wp2_with fail;refine hK.out _ _ (.inr ek) ?_;clear hK hS;refine tO 6 λK' hK=>?_;go_wp2_with fail;refine eg.mono ?_;rintro e w3 ⟨vs,lo,rfl,ca,bo⟩;have K:=zh (a5.out.trans (a5.held.back ca));have z:=zh (ei.turned ca.turned (λh9=>h9.elim (λh8=>h8.2 (.inl (.inr ⟨fk _,t.2⟩))) (λh8=>by have:=t.1.1;omega)));have el:=zh bo;have ci:=zh (show W1.heap.size<=lo from fx a5.turned.size ca.lo0);have cj:=zh (λb (hb:lo<=b/\b<w3.heap.size)=>(show up (λk=>(out k\/(W.heap.size<=k/\k<W1.heap.size))\/(W1.heap.size<=k/\k<w2.heap.size)) lo w3 b from .inr hb));obtain ⟨o3,gl⟩:∃o3,o3=up (λk=>(out k\/(W.heap.size<=k/\k<W1.heap.size))\/(W1.heap.size<=k/\k<w2.heap.size)) lo w3:=⟨_,rfl⟩;rw [<-gl] at K cj;clear ca bo gl;go_wp2_with fail;refine hK.out _ _ (.inl (by rfl)) ?_;clear hK;refine tQ 7 10 ?_;refine tQ 8 18 ?_;refine tQ 9 19 ?_;refine tQ 10 4 ?_;refine tQ 11 5 ?_;refine AA qk ?_ _;clear v0 vl d7 bl eg ek ei a5 cc ce;by_cases hf:f=0;rotate_left
 . have hr:=HR.out;rw [VZ hf] at hr;injection hr with h1 h2;subst h1;subst h2;have bn:(f != 0)=true:=by rw [gu];exact hf
   have z0:=z.cell 0;have z1:=z.cell 1;have z2:=z.cell 2;have f0:=z.frozen 0;have f1:=z.frozen 1;have f2:=z.frozen 2;have zl:=z.out.lt;clear hf;go_wp2_with fail;refine f7 (by first | (simp [*,results,Tryz.results36,go_sem];rfl) | simp [*,results,Tryz.results36,go_sem]) rfl ?_;exact ⟨o3,none,0,[],rfl,VDid.local_ HH a0 K ⟨fk _,t.2⟩ (gT),TabAt.zero _,TabIn.nil _,Cc⟩
 subst hf;have cl:=el.out rfl;obtain ⟨A3,c3,gn,_,_,d3⟩:=cl.listAt;rw [fm] at gn;subst gn;have cm:=zh d3;have co:=zh (show 0<ss.length->∀b off,A3=some ⟨b,off,none⟩->lo<=b/\b<w3.heap.size from λ_ b off e=>cl.own_ge (by rw [e];rfl));have bo:=U.out rfl;have g0:=gz.out;have g1:=HQ.out;have cr:=zh (show 0<ss.length/\ss.length<=1000 from oo);obtain ⟨sv,TC,tv,G,d2⟩:=K.held.vol;obtain ⟨⟨A1,c1,s1,rfl,go,i3,jk,gp⟩,⟨Az,cz,xz,rfl,gq,i4,aj⟩⟩:=d2;have cs:=zh G;unfold GD at G;have x2:=G.cell 2;have vl:=G.lt;have em:=zh (Uo ss s1 A3 A1 c3 c1 w3 d3 go oo oo);have cv:=zh gp;have cw:=zh gq;have cx:=zh aj;clear cl d3 go i3 gp gq i4 aj G el U bo g0 g1;go_wp2_with fail;refine em.mono ?_;rintro e w4 ⟨rfl,g4⟩;clear x2 vl em;by_cases ae:ss=s1
 case' pos=>
  have hd:decide (ss=s1)=true:=gD ae;rw [hd]
  have I:SecOf ss TC/\TC.tracks=n:=by
   rcases cv.out with h9 | h9
   . have:=cr.1;rw [ae,h9] at this;exact absurd this qs
   . rw [ae];exact h9
  have hr:=HR.out;rw [Qs I.1 I.2] at hr;injection hr with h1 h2;obtain rfl:T=TC:=h1.symm;subst h2;obtain ⟨wz,Q⟩:∃wz,wz=w4:=⟨_,rfl⟩;rw [<-Q] at g4 ⊢;obtain ⟨oz,al⟩:∃oz,oz=o3:=⟨_,rfl⟩;have br:=zh (K.grew g4);rw [<-al] at br;have es:=zh (z.grew g4);have HP:=zh (show ∃(A:Option Addr) (c:Nat) (xs:List LabE) (sv:Value),Blk wz v 112 (GD s n sv T (.slice A T.labels.length c))/\TabAt wz A c xs T/\SmallT T from ⟨Az,cz,xz,_,cs.grew g4,cw.hold g4,cx.out⟩);clear hd I ae Q al g4 cs cw cx cv HR K z cm co cj ci ec
 case' neg=>
  have hd:decide (ss=s1)=false:=gE ae;rw [hd];have g7:=cr.2;have et:=zh (YS A3 c3 ss w4 (AO cm g4) oo (λx hx=>by have:=ec.out x hx;omega));have a6:=zh g4;clear hd ae g4 g7 cw cx cv;go_wp2_with fail;refine et.mono ?_;rintro e w5 ⟨AL,cL,xL,TL,eL,rfl,bc,gh,d1,Y,g5⟩;have V:=zh (a6.out.trans g5);have bs:=zh (K.more V);obtain ⟨oz,al⟩:∃oz,oz=λk=>o3 k\/(w3.heap.size<=k/\k<w5.heap.size):=⟨_,rfl⟩;have eu:=zh (show (∀k,o3 k->oz k)/\∀k,w3.heap.size<=k->k<w5.heap.size->oz k from by rw [al];exact ⟨λk=>.inl,λk h1 h2=>.inr ⟨h1,h2⟩⟩);rw [<-al] at bs;obtain ⟨W6,N⟩:∃W6,W6=w5.alloc (.cells #[.string TL.name,.int .i64 TL.tracks,.slice AL TL.labels.length cL] 50):=⟨_,rfl⟩;have g6:Grew w5 W6:=by rw [N];exact (fh w5).alloc _
  have L:Blk W6 w5.heap.size 50 #[.string TL.name,.int .i64 TL.tracks,.slice AL TL.labels.length cL]:=by rw [N];exact fy w5 _ _ rfl
  have g8:=zh L;have cy:=zh g6;have g9:=zh (d1.hold g6);have ha:=zh (d1.lt Y);have U:=zh gh;have bt:=zh (V.out.trans g6);clear al d1 Y gh g5 g6 et;by_cases b9:eL=0;rotate_left
  . have hr:=HR.out;rw [aw (bc.resolve_left (λh9=>b9 h9.2)).1] at hr;injection hr with h1 h2;subst h1;subst h2;have bn:(eL != 0)=true:=by rw [gu];exact b9
    clear b9 bc;go_wp2_with fail;rw [<-N];clear N;refine AB [] (λw':World=>True) qk ?_;have hS:=trivial;refine tQ 0 36 ?_;refine tQ 1 37 ?_;refine tQ 2 38 ?_;refine tU 3 (some 39) ?_;refine tU 4 (some 40) ?_;refine tU 5 (some 41) ?_;refine tU 6 (some 42) ?_;refine tU 7 (some 43) ?_;refine tU 8 (some 44) ?_;refine tU 9 (some 45) ?_;refine tQ 10 46 ?_;refine AA qk ?_ _;have H:=zh (cy.drew);have J:=zh (z.grew bt.drew);obtain ⟨W7,w⟩:∃W7,W7=W6.drew:=⟨_,rfl⟩;rw [<-w] at H J ⊢;clear w;have a:Blk W7 W.heap.size 50 #[.string ⟨#[]⟩,.int .i64 0,.slice none 0 0]:=J.out;have c0:=zh (bs.grew H);have z0:=a.cell 0;have z1:=a.cell 1;have z2:=a.cell 2;have f0:=a.frozen 0;have f1:=a.frozen 1;have f2:=a.frozen 2;have zl:=a.lt;clear a L;go_wp2_with fail;refine f7 (by first | (simp [*,results,Tryz.results36,go_sem];rfl) | simp [*,results,Tryz.results36,go_sem]) rfl ?_;exact ⟨oz,none,0,[],rfl,VDid.local_ HH a0 c0 ⟨fk _,t.2⟩ (gT),TabAt.zero _,TabIn.nil _,Cc⟩
  subst b9;have I:SecOf ss TL:=(bc.resolve_right (λh9=>absurd h9.2.2 qd)).1;have hc:=zh I;have X:=cs.grew bt;have he:=zh X;unfold GD at X;have y1:=X.cell 1;have yl:=X.lt;have u1:=L.cell 1;have ul:=L.lt;by_cases O:TL.tracks=n;rotate_left
  . have hr:=HR.out;rw [WD I O] at hr;injection hr with h1 h2;subst h1;subst h2;have bn:(TL.tracks != n)=true:=by rw [gu];exact O
    clear O I bc X L;go_wp2_with fail;rw [<-N];clear N;refine AB [] (λw':World=>w'.cell? ⟨w5.heap.size,1,none⟩=some (.int .i64 TL.tracks)/\w5.heap.size<w'.heap.size/\w'.cell? ⟨v,1,none⟩=some (.int .i64 n)/\v<w'.heap.size) qk ?_;have hS:=(show (λw':World=>w'.cell? ⟨w5.heap.size,1,none⟩=some (.int .i64 TL.tracks)/\w5.heap.size<w'.heap.size/\w'.cell? ⟨v,1,none⟩=some (.int .i64 n)/\v<w'.heap.size) W6.drew from ⟨u1,ul,y1,yl⟩);refine tQ 0 36 ?_;refine tQ 1 37 ?_;refine tQ 2 38 ?_;refine tQ 3 39 ?_;refine tT 4 (some 40) hS ?_;refine tQ 5 41 ?_;refine tT 6 (some 42) hS ?_;refine tQ 7 43 ?_;refine tT 8 (some 44) hS ?_;refine tQ 9 45 ?_;refine tQ 10 46 ?_;refine AA qk ?_ _;have H:=zh (cy.drew);have J:=zh (z.grew bt.drew);obtain ⟨W7,w⟩:∃W7,W7=W6.drew:=⟨_,rfl⟩;rw [<-w] at H J ⊢;clear w;have a:Blk W7 W.heap.size 50 #[.string ⟨#[]⟩,.int .i64 0,.slice none 0 0]:=J.out;have c0:=zh (bs.grew H);have z0:=a.cell 0;have z1:=a.cell 1;have z2:=a.cell 2;have f0:=a.frozen 0;have f1:=a.frozen 1;have f2:=a.frozen 2;have zl:=a.lt;clear a hS u1 ul y1 yl;go_wp2_with fail;refine f7 (by first | (simp [*,results,Tryz.results36,go_sem];rfl) | simp [*,results,Tryz.results36,go_sem]) rfl ?_;exact ⟨oz,none,0,[],rfl,VDid.local_ HH a0 c0 ⟨fk _,t.2⟩ (gT),TabAt.zero _,TabIn.nil _,Cc⟩
  have hr:=HR.out;rw [Qs I O] at hr;injection hr with h1 h2;obtain rfl:T=TL:=h1.symm;subst h2;have hh:=zh O;have bn:(T.tracks != n)=false:=by rw [O];simp
  have u0:=L.cell 0;have u2:=L.cell 2;clear O I bc X L;go_wp2_with fail;rw [<-N];clear N;refine AB [] (λw':World=>w'.cell? ⟨w5.heap.size,1,none⟩=some (.int .i64 T.tracks)/\w5.heap.size<w'.heap.size/\w'.cell? ⟨v,1,none⟩=some (.int .i64 n)/\v<w'.heap.size) qk ?_;have hS:=(show (λw':World=>w'.cell? ⟨w5.heap.size,1,none⟩=some (.int .i64 T.tracks)/\w5.heap.size<w'.heap.size/\w'.cell? ⟨v,1,none⟩=some (.int .i64 n)/\v<w'.heap.size) W6.drew from ⟨u1,ul,y1,yl⟩);refine tQ 0 36 ?_;refine tQ 1 37 ?_;refine tQ 2 38 ?_;refine tQ 3 39 ?_;refine tT 4 (some 40) hS ?_;refine tQ 5 41 ?_;refine tT 6 (some 42) hS ?_;refine tQ 7 43 ?_;refine tT 8 (some 44) hS ?_;refine tQ 9 45 ?_;refine tQ 10 46 ?_;refine AA qk ?_ _;clear hS y1 bn;obtain ⟨W7,w⟩:∃W7,W7=W6.drew.drew:=⟨_,rfl⟩;have H:=zh (show Grew w5 W7 from by rw [w];exact cy.drew.drew);have hi:=zh (show Blk W7 v 112 (GD s n (.slice A1 s1.length c1) TC (.slice Az TC.labels.length cz)) from by rw [w];exact he.drew.drew);have J:=zh (show Blk W7 W.heap.size 50 #[.string ⟨#[]⟩,.int .i64 0,.slice none 0 0] from by rw [w];exact z.grew bt.drew.drew);have bv:=zh (show Blk W7 w5.heap.size 50 #[.string T.name,.int .i64 T.tracks,.slice AL T.labels.length cL] from by rw [w];exact g8.drew.drew);have hm:=zh (show TabAt W7 AL cL xL T from by rw [w];exact g9.hold ((fh W6).drew.drew));have ex:(W6.drew).drew=W7:=w.symm;have a7:=hi.out;unfold GD at a7;have y2:=a7.cell 2;have g2:=a7.frozen 2;have jd:=a7.lt;have u0:W7.cell? ⟨w5.heap.size,0,none⟩=some (.string T.name):=bv.cell 0;have u1:W7.cell? ⟨w5.heap.size,1,none⟩=some (.int .i64 T.tracks):=bv.cell 1;have u2:W7.cell? ⟨w5.heap.size,2,none⟩=some (.slice AL T.labels.length cL):=bv.cell 2;have ul:w5.heap.size<W7.heap.size:=bv.out.lt;have bw:w5.heap.size≠v:=by have:=t.1.2;have:=V.size;have:=K.turned.size;have:=t.2;omega
  go_wp2_with fail;refine AB [9] (λw':World=>w'.cell? ⟨w5.heap.size,0,none⟩=some (.string T.name)/\w'.cell? ⟨w5.heap.size,1,none⟩=some (.int .i64 T.tracks)/\w'.cell? ⟨w5.heap.size,2,none⟩=some (.slice AL T.labels.length cL)/\w5.heap.size<w'.heap.size) qk ?_;rw [ex];have hS:=(show (λw':World=>w'.cell? ⟨w5.heap.size,0,none⟩=some (.string T.name)/\w'.cell? ⟨w5.heap.size,1,none⟩=some (.int .i64 T.tracks)/\w'.cell? ⟨w5.heap.size,2,none⟩=some (.slice AL T.labels.length cL)/\w5.heap.size<w'.heap.size) W7 from ⟨u0,u1,u2,ul⟩);clear ex w;refine tQ 0 48 ?_;refine tQ 1 49 ?_;refine tQ 2 50 ?_;refine tT 3 (some 51) hS ?_;refine tT 4 (some 52) hS ?_;refine tQ 5 53 ?_;refine tO 6 λK' hK=>?_;go_wp2_with fail;have c2:(λw':World=>w'.cell? ⟨w5.heap.size,0,none⟩=some (.string T.name)/\w'.cell? ⟨w5.heap.size,1,none⟩=some (.int .i64 T.tracks)/\w'.cell? ⟨w5.heap.size,2,none⟩=some (.slice AL T.labels.length cL)/\w5.heap.size<w'.heap.size) (W7.setCell ⟨v,2,none⟩ (.slice A3 ss.length c3)):=⟨by rw [K8 bw];exact u0,by rw [K8 bw];exact u1,by rw [K8 bw];exact u2,by simpa using ul⟩;refine hK.out _ _ (.inr (λ_=>c2)) ?_;clear hK hS u0 u1 u2 ul y2 g2;refine tT 7 (some 54) c2 ?_;refine tQ 8 55 ?_;clear c2;have F:Blk (W7.setCell ⟨v,2,none⟩ (.slice A3 ss.length c3)) v 112 #[ptrV s,.int .i64 n,.slice A3 ss.length c3,.string TC.name,.int .i64 TC.tracks,.slice Az TC.labels.length cz]:=gB;have e0:=zh F;have e3:=zh (show Turned (λk=>k=v) W7 (W7.setCell ⟨v,2,none⟩ (.slice A3 ss.length c3)) from gT);obtain ⟨W8,gr⟩:∃W8,W8=W7.setCell ⟨v,2,none⟩ (.slice A3 ss.length c3):=⟨_,rfl⟩;rw [<-gr] at F e0 e3 ⊢;clear gr;have y3:=F.cell 3;have y4:=F.cell 4;have y5:=F.cell 5;have g3:=F.frozen 3;have g4:=F.frozen 4;have g5:=F.frozen 5;have ho:=F.lt;refine tO 9 λK' hK=>?_;go_wp2_with fail;refine hK.out _ _ (.inl (by rfl)) ?_;clear hK y3 y4 y5 g3 g4 g5 ho;refine AA qk ?_ _;obtain ⟨wz,Q⟩:∃wz,wz=(((W8.setCell ⟨v,3,none⟩ (.string T.name)).setCell ⟨v,4,none⟩ (.int .i64 T.tracks)).setCell ⟨v,5,none⟩ (.slice AL T.labels.length cL)):=⟨_,rfl⟩;have e4:Turned (λk=>k=v) W8 wz:=by rw [Q];exact gT
  have a8:Turned (λk=>k=v) W7 wz:=e3.out.trans e4
  have c5:Hid (Blk wz v 112 (GD s n (.slice A3 ss.length c3) T (.slice AL T.labels.length cL))):=zh (by
   rw [Q]
   unfold GD
   have F:=e0.out
   exact gB)
  rw [<-Q];clear Q;have es:=zh (J.turned a8 (by have:=t.1.2;omega));have e5:∀k,W.heap.size<=k->¬k=v:=λk hk e=>by have:=t.1.2;omega
  have Y:TabIn (λk=>W1.heap.size<=k/\Far w0 oz m v k) AL xL:=ha.mono λk hk=>by
   have h1:=K.turned.size;have h2:=a6.size;have h3:=t.out;exact ⟨oo,.inr (eu.2 k oo hk.2),oo,oo⟩
  have c6:=zh (hm.stay Y a8 (λk hk=>hk.2.2.2))
  have e6:=CC (AO cm (V.out.trans H)) a8 (λh0 b off e=>e5 b (by
   have:=co.out (by simpa using h0) b off e
   have:=ci.out
   have:=t.2
   omega))
  have br:=zh ((bs.grew H).refresh a8 ⟨_,T,_,c5,⟨⟨A3,c3,ss,rfl,e6,λh0 b off e=>(by
   have h1:=co.out h0 b off e
   have h2:=ci.out
   have h3:=t.out
   exact ⟨oo,.inr (eu.1 b (cj b h1)),oo,oo⟩),by have:=cr.2;omega,.inr ⟨hc,hh⟩⟩,⟨AL,cL,xL,rfl,c6,Y,U⟩⟩⟩)
  have a9:=zh U;have HP:=zh (show ∃(A:Option Addr) (c:Nat) (xs:List LabE) (sv:Value),Blk wz v 112 (GD s n sv T (.slice A T.labels.length c))/\TabAt wz A c xs T/\SmallT T from ⟨AL,cL,xL,_,c5.out,c6.out,U.out⟩);clear e4 a8 e5 Y e6 bw a7 F c5 c6 a9
 all_goals
  obtain ⟨Ap,cp,xp,sp,an,R,aj⟩:=HP.out;have e9:=aj.len;have fa:=R.xlen;unfold GD at an;have y3:=an.cell 3;have y4:=an.cell 4;have y5:=an.cell 5;have yl:=an.lt;have c7:Grew wz (wz.alloc (.cells #[.string T.name,.int .i64 T.tracks,.slice Ap T.labels.length cp] 50)):=(fh wz).alloc _;have fb:=fy wz 50 #[.string T.name,.int .i64 T.tracks,.slice Ap T.labels.length cp] rfl;have fi:=zh (Mf Ap cp T.labels.length xp _ fa.symm oo (R.hold c7).rows);have bx:=zh R;have Z:=zh (show T.name.size<=9223372036854775807/\-9223372036854775808<=T.tracks/\T.tracks<=9223372036854775807 from ⟨R.name,R.tr0,R.tr1⟩);have a9:=zh aj;have fj:=zh fb;have hs:=zh c7;have ht:=zh fa;clear an R aj c7 fb HP;go_wp2_with fail;refine fi.mono ?_;rintro e w6 ⟨vl,rfl,P,g6⟩;obtain ⟨Aq,cq,hv,_,_,_⟩:=P.listAt;rw [fm,ht.out] at hv;subst hv;have fl:=hs.out.trans g6;have je:wz.heap.size+1<=w6.heap.size:=by have:=g6.size;simp at this;omega
  have b2:OwnL w6 (wz.heap.size+1) 100 5 (.slice Aq T.labels.length cq) (xp.map DN):=by have:=P;simp only [World.alloc,Array.size_push] at this;exact this
  have c8:Grew wz (w6.setCell ⟨wz.heap.size,2,none⟩ (.slice Aq T.labels.length cq)):=fl.setCell (fk _) _;have fn:OwnL (w6.setCell ⟨wz.heap.size,2,none⟩ (.slice Aq T.labels.length cq)) (wz.heap.size+1) 100 5 (.slice Aq T.labels.length cq) (xp.map DN):=b2.far (λhk=>by have:=(b2.own_ge hk).1;simp at this;omega) _
  have C:TabO (w6.setCell ⟨wz.heap.size,2,none⟩ (.slice Aq T.labels.length cq)) (wz.heap.size+1) (.slice Aq T.labels.length cq) xp T.labels:=⟨fn,λy hy=>(bx.lab y hy).hold c8,λy hy h0 b off e hk=>by
   have h9:=(b2.own_ge hk).1
   have:=Fo (bx.lab y hy).runs.2 (by rw [fm];exact h0) b off e
   omega,bx.eq⟩
  have hb:=fj.grew g6;have x2:=hb.cell 2;have f2:=hb.frozen 2;have jf:=hb.lt;have aa:=zh C;have H:=zh c8;have J:=zh (hb.set_ 2 (.slice Aq T.labels.length cq));clear P b2 fn C fi c8 hb fl g6 fj bx y3 y4 y5 yl;go_wp2_with fail
  go_loopg [67] T.labels.length (λgk i wr=>∃(k:Nat) (ys:List LabE),k<=T.labels.length/\gk=T.labels.length - k/\i=.int .i64 k/\TabO wr (wz.heap.size+1) (.slice Aq T.labels.length cq) ys T.labels/\Blk wr wz.heap.size 50 #[.string T.name,.int .i64 T.tracks,.slice Aq T.labels.length cq]/\(∀j (hj:j<ys.length),j<k->∀b off,ys[j].A=some ⟨b,off,none⟩->wz.heap.size<=b)/\Grew wz wr)
  case atStart=>exact ⟨0,xp,oo,oo,rfl,aa,J,λj _ hj=>absurd hj (Nat.not_lt_zero j),H⟩
  case round=>
   obtain ⟨k,ys,hk,gs,rfl,C,hb,gt,hg⟩:=hrel;have fs:=zh gt;have hw:=zh gs;clear gs gt;have b3:=C.len;have da:=hb.lt;have x2:=hb.cell 2;by_cases d0:k<T.labels.length
   . obtain ⟨g,cap,hv,jl,d4⟩:∃g cap,Value.slice Aq T.labels.length cq=.slice (some ⟨g,0,none⟩) T.labels.length cap/\wz.heap.size+1<=g/\g<wr.heap.size:=by
      rcases C.own.form with ⟨_,h0⟩ | ⟨g,cap,hv,h1,h2,_⟩
      . have:=gJ length h0;rw [fm,b3,length_nil] at this;omega
      . rw [fm,b3] at hv;exact ⟨g,cap,hv,h1,h2⟩
     injection hv with hv1 _ hv2;subst hv1;subst hv2;have dd:k<ys.length:=oo;have b4:(ys.map DN)[k]? =some (DN ys[k]):=by rw [fo,fg dd];rfl
     have ad:=C.lab ys[k] (fq dd)
     have b5:T.labels[k]=ys[k].l:=by
      have:(ys.map (·.l))[k]? =some ys[k].l:=by rw [fo,fg dd];rfl
      rw [C.eq,fg d0] at this;exact Option.some.inj this
     have h4:=a9.ext T.labels[k] (fq d0);obtain ⟨B,d,l,hy⟩:∃B d l,ys[k]=⟨B,d,l⟩:=⟨_,_,_,rfl⟩;rw [hy] at b4 ad b5;rw [b5] at h4;have x4:wr.cell? ⟨g,k*5+4,none⟩=some (.slice B l.ext.length d):=C.own.cell b4 (i:=4) rfl;have aa:=zh C;have HB:=zh hb;have HG:=zh hg;have df:=zh ad;have fu:=zh b4;have h5:=zh b5
     have fv:∀w1 w2:World,Grew w1 w2->(w1.cell? ⟨wz.heap.size,2,none⟩=some (.slice (some ⟨g,0,none⟩) T.labels.length cq)/\w1.cell? ⟨g,k*5+4,none⟩=some (.slice B l.ext.length d)/\wz.heap.size<w1.heap.size/\g<w1.heap.size)->(w2.cell? ⟨wz.heap.size,2,none⟩=some (.slice (some ⟨g,0,none⟩) T.labels.length cq)/\w2.cell? ⟨g,k*5+4,none⟩=some (.slice B l.ext.length d)/\wz.heap.size<w2.heap.size/\g<w2.heap.size):=λw1 w2 h9 ⟨a1,a2,a3,a4⟩=>by
      rw [h9.cellEq _ _ a3,h9.cellEq _ _ a4];exact ⟨a1,a2,fw a3 h9.size,fw a4 h9.size⟩
     have h6:=zh fv;clear C hb hg ad b4 b5 hy b3 fv;go_wp2_with fail;refine AB [12] (λw':World=>w'.cell? ⟨wz.heap.size,2,none⟩=some (.slice (some ⟨g,0,none⟩) T.labels.length cq)/\w'.cell? ⟨g,k*5+4,none⟩=some (.slice B l.ext.length d)/\wz.heap.size<w'.heap.size/\g<w'.heap.size) qk ?_;have hS:(λw':World=>w'.cell? ⟨wz.heap.size,2,none⟩=some (.slice (some ⟨g,0,none⟩) T.labels.length cq)/\w'.cell? ⟨g,k*5+4,none⟩=some (.slice B l.ext.length d)/\wz.heap.size<w'.heap.size/\g<w'.heap.size) wr.drew:=⟨x2,x4,da,d4⟩;refine tQ 0 70 ?_;refine tT 1 (some 71) hS ?_;refine tQ 2 72 ?_;refine tQ 3 73 ?_;refine tT 4 (some 74) hS ?_;refine tQ 5 75 ?_;refine tQ 6 76 ?_;refine tQ 7 77 ?_;refine tT 8 (some 78) hS ?_;refine tO 9 λK' hK=>?_;go_wp2_with fail;refine (Hj B d l.ext.length l.ext _ rfl oo (df.hold ((fh wr).drew)).runs.2).mono ?_;rintro e w4 ⟨v4,rfl,cb,g4⟩;obtain ⟨A4,c4,i5,i6,i7,gv⟩:=Fu cb df.runs.1;subst i5;have bb:Grew wr w4:=(fh wr).drew.trans g4;have f3:=Qg cb (show g<wr.drew.heap.size from d4) rfl;have f5:=zh f3;have h7:=zh (show ∀b off,A4=some ⟨b,off,none⟩->wr.heap.size<=b from λb off e=>(cb.own_ge (by rw [e];rfl)).1);have ih:=zh gv;clear gv cb f3;go_wp2_with fail;refine hK.out _ _ (.inr (h6 _ _ g4)) ?_;clear hK hS x2 x4;have jg:wz.heap.size<w4.heap.size:=fw da bb.size;have jh:g<w4.heap.size:=fw d4 bb.size;have b6:=aa.hold bb;have x4:w4.cell? ⟨g,k*5+4,none⟩=some (.slice B l.ext.length d):=b6.own.cell fu (i:=4) rfl;have f4:=b6.own.frozen (k*5+4);have f6:=zh b6;have a6:=zh bb;clear b6 bb g4;refine tQ 10 80 ?_;refine tQ 11 81 ?_;refine tO 12 λK' hK=>?_;go_wp2_with fail;refine hK.out _ _ (.inl rfl) ?_;refine AA qk ?_ _;have f9:=(HB.grew a6).far (p:=⟨g,k*5+4,none⟩) (by simp;omega) (.slice A4 l.ext.length c4);have ga:=(HG.out.trans a6).setCell (p:=⟨g,k*5+4,none⟩) (by simp;omega) (.slice A4 l.ext.length c4);have gb:=fu.out;have gc:=f6.own.set_ gb (i:=4) (o:=k*5+4) qd rfl (.slice A4 l.ext.length c4);have dk:Turned (λx=>x=g) w4 (w4.setCell ⟨g,k*5+4,none⟩ (.slice A4 l.ext.length c4)):=(gW (λx=>x=g) w4).setCell (p:=⟨g,k*5+4,none⟩) (λ_=>rfl) _
     have gd:LabAt (w4.setCell ⟨g,k*5+4,none⟩ (.slice A4 l.ext.length c4)) A4 c4 l:=by
      have hl:=df.out;have:LabAt w4 A4 c4 l:=⟨hl.id0,hl.id1,hl.unit0,hl.unit1,hl.name,hl.note,ih,i6,i7⟩;exact this.turned dk (λ_ b off e hk=>f5 b off e hk)
     have ds:=f6.set_ k ⟨A4,c4,l⟩ d0 (by simpa [DN] using gc) dk gd (λ_ b off e=>f5 b off e);have ge:T.labels.set k l=T.labels:=by rw [<-h5.out];exact List.set_getElem_self ..
     rw [ge] at ds;have ii:=zh ds;have iv:=zh f9;have V:=zh ga
     have ix:=zh (show ∀j (hj:j<(ys.set k (⟨A4,c4,l⟩:LabE)).length),j<k+1->∀b off,(ys.set k (⟨A4,c4,l⟩:LabE))[j].A=some ⟨b,off,none⟩->wz.heap.size<=b from λj hj hjk b off e=>by
      rw [List.getElem_set] at e
      by_cases gg:k=j
      . rw [if_pos gg] at e
        exact fx (Nat.le_of_lt da) (h7 b off e)
      . rw [if_neg gg] at e
        exact fs.out j (by simpa using hj) oo b off e)
     clear f9 ga gb gc dk gd ds ge x4 f4;go_wp2_with fail
     go_roundg (T.labels.length - (k+1))
     case measure=>rw [hw.out];omega
     case rel=>exact ⟨k+1,_,oo,oo,by go_num,ii,iv,ix,V⟩
   . obtain rfl:k=T.labels.length:=oo;have b0:=hb.cell 0;have b1:=hb.cell 1;have aa:=zh C;have M:=es.grew hg;have i1:=zh (br.more hg);have z0:=M.cell 0;have z1:=M.cell 1;have z2:=M.cell 2;have f0:=M.frozen 0;have f1:=M.frozen 1;have f2:=M.frozen 2;have zl:=M.lt;have i2:=zh (show W1.heap.size<=wz.heap.size from br.turned.size);clear C hg hb M;go_wp2_with fail;refine f7 (by first | (simp [*,results,Tryz.results36,go_sem];rfl) | simp [*,results,Tryz.results36,go_sem]) rfl ?_;have hW:=t.out;have hz:=i2.out;obtain ⟨A9,c9,jc,gx⟩:=aa.form;injection jc with e1 _ e2;subst e1;subst e2
     have gf:TabIn (λb=>wz.heap.size<=b) Aq ys:=⟨λ_ b off e=>fx (Nat.le_succ _) (aa.own.own_ge (show (Value.slice Aq T.labels.length cq).ownBlock=some b from by rw [e];rfl)).1,λy hy _ b off e=>by
      obtain ⟨j,hj,rfl⟩:=List.getElem_of_mem hy
      exact fs.out j hj (by rw [<-b3];exact hj) b off e⟩
     have d5:=a9.out;exact ⟨_,Aq,cq,ys,rfl,VDid.local_ HH a0 i1 ⟨fk _,hW.2⟩ (gT),(gx T.name T.tracks Z.1 Z.2.1 Z.2.2).stay (S:=λk=>k=W.heap.size) gf (gT) (λk hk e=>oo),((gx T.name T.tracks Z.1 Z.2.1 Z.2.2).lt gf).mono (λk hk=>⟨oo,.inr hk⟩),a9⟩
end

theorem Xj {D:Dev} {sy ep i:Int} {D':Dev} {d:ByteArray} {er:Int} (hr:Lt D sy ep i=(D',d,er)):CQ D sy ep [i]=(D',if er=0 then [d] else [],er)/\(er≠0->d=⟨#[]⟩):=by
 unfold Lt at hr;unfold CQ;by_cases h1:(finD D sy ep).2.2≠0
 . rw [if_pos h1] at hr ⊢;injection hr with h2 h3;injection h3 with h3 h4;subst h2;subst h3;subst h4;exact ⟨by rw [if_neg h1],λ_=>rfl⟩
 rw [if_neg h1] at hr ⊢;unfold BM EF;by_cases h2:i<0\/(D.st.length:Int) - 131<=i
 . rw [if_pos h2] at hr;injection hr with h3 h4;injection h4 with h4 h5;subst h3;subst h4;subst h5;rw [if_pos h2];exact ⟨rfl,λ_=>rfl⟩
 rw [if_neg h2] at hr ⊢;injection hr with h3 h4;injection h4 with h4 h5;by_cases h6:(C4 (finD D sy ep).1 i.toNat).2≠0
 . rw [if_pos h6];rw [if_neg h6] at h4;subst h3;subst h4;subst h5;exact ⟨by rw [if_neg h6,if_neg h6],λ_=>rfl⟩
 . have h7:=iL.1 h6;rw [if_neg h6];rw [if_pos h7] at h4;subst h3;subst h4;subst h5;rw [h7];exact ⟨rfl,λh8=>absurd rfl h8⟩
section
variable {w0:World} {x s m:Nat} {sy ep:Int} {D:Dev} {out:Nat->Prop} {W:World} (h:Held w0 x s m sy ep D out W) (hlen:132<=D.st.length/\D.st.length<=1155) (hp:D.pend.length<=980000)
include h hlen hp
theorem Xh (i:Int) (hi:okI i) (D':Dev) (d:ByteArray) (er:Int) (hr:Lt D sy ep i=(D',d,er)):
 Calls Tryz.prog 49 #[ptrV s,.int .i64 i] W λe w'=>e=.returned (.tuple #[.string d,.int .i64 er])/\Done w0 x s m sy ep D' out W w':=by
 have hg:Grew W (W.alloc (.cells #[.int .i64 i] 3)):=(fh W).alloc _;have hb:Blk (W.alloc (.cells #[.int .i64 i] 3)) W.heap.size 3 #[.int .i64 i]:=fy W _ _ rfl;have hh:Held w0 x s m sy ep D (λk=>out k\/(W.heap.size<=k/\k<(W.alloc (.cells #[.int .i64 i] 3)).heap.size)) (W.alloc (.cells #[.int .i64 i] 3)):=⟨h.live.more hg,h.store.grew hg,.inl h.os,.inl h.om,h.m0⟩;have a:ListAt (W.alloc (.cells #[.int .i64 i] 3)) (W.alloc (.cells #[.int .i64 i] 3)).heap.size 1 (some ⟨W.heap.size,0,none⟩) [[.int .i64 i]]:=KT (l:=[.int .i64 i]) hb qs;obtain ⟨c,f⟩:=Xj hr;have HR:=zh (Ic hh hlen hp [i] (λj hj=>by rw [fp.1 hj];exact hi) qs (some ⟨W.heap.size,0,none⟩) 1 a (λ_ b off e=>by injection e with e;injection e with e _ _;subst e;exact .inr (.inr ⟨fk _,qs⟩)) D' _ er c);rw [show [i].length=1 from rfl] at HR;have HE:=zh f;have HG:=zh hg;clear h hlen hp hr hg hb hh a c f;by_cases h0:er=0
 . subst h0;rw [if_pos rfl] at HR;go_enter Tryz.func49,Tryz.ntmps49;go_wp2_with fail;refine HR.mono ?_;rintro e w1 ⟨v,lo,rfl,hd,hv⟩;have ho:=hv rfl
   obtain ⟨g,cap,rfl⟩:∃g cap,v=.slice (some ⟨g,0,none⟩) 1 cap:=by
    rcases ho.form with ⟨_,h9⟩ | ⟨g,cap,h1,_⟩
    . simp at h9
    . exact ⟨g,cap,h1⟩
   have hc:=ho.cell (j:=0) (i:=0) rfl rfl;have o:=(MV hc).1;have HD:=zh hd.done;clear hd hv ho;go_wp2_with fail;go_ret2;exact ⟨rfl,FF HD HG (λk hk=>.inl hk)⟩
 . have p:(er != 0)=true:=by rw [gu];exact h0
   have n:=HE.out h0;subst n;clear h0;go_enter Tryz.func49,Tryz.ntmps49;go_wp2_with fail;refine HR.mono ?_;rintro e w1 ⟨v,lo,rfl,hd,_⟩;have HD:=zh hd.done;clear hd;go_wp2_with fail;go_ret2;exact ⟨rfl,FF HD HG (λk hk=>.inl hk)⟩
end

noncomputable def DP (D:Dev) (sy ep n id unit:Int):Dev × Lab × Int:=
 ((B9 D sy ep n).1,if (B9 D sy ep n).2.2≠0 then (BH,(B9 D sy ep n).2.2) else if (Ba (B9 D sy ep n).2.1 id unit).2=true then ((Ba (B9 D sy ep n).2.1 id unit).1,0) else (BH,6))
def GG (l:Lab) (A:Option Addr) (c:Nat):Value:=.agg #[.int .i64 l.id,.int .i64 l.unit,.string l.name,.string l.note,.slice A l.ext.length c]
def fP (w0:World) (x s m v:Nat) (n sy ep:Int) (D':Dev) (out:Nat->Prop) (W:World) (l:Lab) (er:Int) (e:Ending) (w':World):Prop:=
 ∃out' A c,e=.returned (.tuple #[GG l A c,.int .i64 er])/\VDid w0 x s m v n sy ep D' out W out' w'/\LabAt w' A c l/\l.ext.length<=1000
theorem Ko {T:Tab} (h:SmallT T) (id a:Int):(Ba T id a).1.ext.length<=1000:=by
 rcases Fw T id a with ⟨k,hk,_,h2,_⟩ | ⟨_,h2,_⟩
 . rw [h2];exact h.ext _ (fq hk)
 . rw [h2];decide
theorem VDid.after {w0:World} {x s m v:Nat} {n sy ep:Int} {D1:Dev} {out o1:Nat->Prop} {W w1 w2:World} (hg:Grew W w1) (h:VDid w0 x s m v n sy ep D1 out w1 o1 w2):VDid w0 x s m v n sy ep D1 out W o1 w2:=
 ⟨h.sub,h.held,(hg.turned _).trans h.turned,λP hP hv=>(h.fresh P hP (hv.turned (hg.turned (λ_=>False)) id (λ_ _=>id) (λ_=>id))).mono λk hk=>⟨hk.1.imp id (λh9=>fx hg.size h9),hk.2⟩⟩
theorem LF {l:List (Int × Int)} {i q:Int} {ok:Bool} (h:AN l i=(q,ok)):okI q:=by
 rcases Int.lt_or_le i 0 with h9 | h9
 . rw [Ik l i h9] at h;injection h with h1 _;rw [<-h1];unfold okI;omega
 . rcases E9 l i h9 with ⟨_,h2⟩ | ⟨k,_,hk,_,_,h2⟩
   . rw [h2] at h;injection h with h1 _;rw [<-h1];unfold okI;omega
   . rw [h2] at h;injection h with h1 _;rw [<-h1];unfold okI;omega
section
variable {w0:World} {x s m v:Nat} {n sy ep:Int} {D:Dev} {out:Nat->Prop} {W:World} (h:VHeld w0 x s m v n sy ep D out W) (hlen:132<=D.st.length/\D.st.length<=1155) (hp:D.pend.length<=980000) (hn:okT n=true)
include h hlen hp hn
theorem Jt (id i:Int) (D':Dev) (l:Lab) (er:Int) (hr:DP D sy ep n id i=(D',l,er)):Calls Tryz.prog 47 #[ptrV v,.agg #[.int .i64 id,.int .i64 i]] W (fP w0 x s m v n sy ep D' out W l er):=by
 have o:Grew W ((W.alloc (.cells #[.int .i64 id,.int .i64 i] 32)).alloc (.cells #[.int .i64 0,.int .i64 0,.string ⟨#[]⟩,.string ⟨#[]⟩,.slice none 0 0] 100)):=((fh W).alloc _).alloc _;have t:=(fy W 32 #[.int .i64 id,.int .i64 i] rfl).alloc (.cells #[.int .i64 0,.int .i64 0,.string ⟨#[]⟩,.string ⟨#[]⟩,.slice none 0 0] 100);have u:=fy (W.alloc (.cells #[.int .i64 id,.int .i64 i] 32)) 100 #[.int .i64 0,.int .i64 0,.string ⟨#[]⟩,.string ⟨#[]⟩,.slice none 0 0] (n:=W.heap.size+1) qs;have w:W.heap.size+2=((W.alloc (.cells #[.int .i64 id,.int .i64 i] 32)).alloc (.cells #[.int .i64 0,.int .i64 0,.string ⟨#[]⟩,.string ⟨#[]⟩,.slice none 0 0] 100)).heap.size:=qs;obtain ⟨⟨E,T,f⟩,hE⟩:∃r,B9 D sy ep n=r:=⟨_,rfl⟩;unfold DP at hr;rw [hE] at hr;injection hr with h1 hr;simp only at h1 hr;subst h1;have HT:=zh (Fy (h.more o) hlen hp hn E T f hE);have H:=h.held.store.lt.2;have I:=h.vol.lt;have HH:=zh h;clear h hlen hp hn hE;go_enter Tryz.func47,Tryz.ntmps47;go_wp2_with fail;obtain ⟨W1,U⟩:∃W1,W1=((W.alloc (.cells #[.int .i64 id,.int .i64 i] 32)).alloc (.cells #[.int .i64 0,.int .i64 0,.string ⟨#[]⟩,.string ⟨#[]⟩,.slice none 0 0] 100)):=⟨_,rfl⟩;rw [<-U] at o t u w HT ⊢;have y:=zh o;have j:=zh (show (m<W.heap.size/\v<W.heap.size)/\W.heap.size+2=W1.heap.size from ⟨⟨H,I⟩,w⟩);have J:=zh t;have K:=zh u;clear U o t u w H I;refine HT.mono ?_;rintro e w1 ⟨o1,A1,c1,ys,rfl,q,O,Z,P⟩
 have z:∀k,W.heap.size<=k->k<W1.heap.size->¬VSet w0 (λk=>out k\/(W.heap.size<=k/\k<W1.heap.size)) m v k:=λk h1 h2 h9=>by
  rcases h9 with h9 | h9 | h9
  . exact h9.2 (.inr ⟨h1,h2⟩)
  . have:=j.1.1;omega
  . have:=j.1.2;omega
 have A:=zh (J.turned q.turned (z _ (fk _) (by have:=j.2;omega)));have a:=zh (K.turned q.turned (z _ (Nat.le_succ _) (by have:=j.2;omega)));have p:=zh q;have V:=zh O;have L:=zh P;clear z q O Z P HT J K;by_cases hf:f=0;rotate_left
 . rw [if_pos hf] at hr;injection hr with h1 h2;subst h1;subst h2;have aa:(f != 0)=true:=by rw [gu];exact hf
   have z0:=a.cell 0;have z1:=a.cell 1;have z2:=a.cell 2;have z3:=a.cell 3;have z4:=a.cell 4;have f0:=a.frozen 0;have f1:=a.frozen 1;have f2:=a.frozen 2;have f3:=a.frozen 3;have f4:=a.frozen 4;have zl:=a.out.lt;clear hf;go_wp2_with fail;refine f7 (by first | (simp [*,results,Tryz.results47,go_sem];rfl) | simp [*,results,Tryz.results47,go_sem]) rfl ?_;exact ⟨o1,none,0,rfl,VDid.local_ (g:=W.heap.size+1) HH y p ⟨Nat.le_succ _,by have:=j.2;omega⟩ (gT),LabAt.zero _,qd⟩
 subst hf;rw [if_neg qs] at hr;obtain ⟨⟨l',ok⟩,G⟩:∃r,Ba T id i=r:=⟨_,rfl⟩;have M:=Ko L id i;rw [G] at hr M;have C:Grew w1 (w1.alloc (.cells #[.string T.name,.int .i64 T.tracks,.slice A1 T.labels.length c1] 50)):=(fh w1).alloc _;have HF:=zh (LM A1 c1 ys T _ (V.hold C) L _ rfl id i l' ok G);have r0:=A.cell 0;have r1:=A.cell 1;have rl:=A.out.lt;have N:=zh C;clear C G;go_wp2_with fail;refine HF.mono ?_;rintro e w2 ⟨B,d,rfl,Q,g2,R⟩;have F:=zh (N.out.trans g2);have X:=zh Q;have c:=zh (a.grew F);have Y:=zh (show ∀b off,B=some ⟨b,off,none⟩->W.heap.size+2<=b from λb off e=>by have:=R b off e;have:=N.size;have:=p.turned.size;have:=j.2;omega);clear Q g2 r0 r1 rl R;have z0:=c.cell 0;have z1:=c.cell 1;have z2:=c.cell 2;have z3:=c.cell 3;have z4:=c.cell 4;have f0:=c.frozen 0;have f1:=c.frozen 1;have f2:=c.frozen 2;have f3:=c.frozen 3;have f4:=c.frozen 4;have zl:=c.out.lt;cases ok with
 | false=>
   rw [if_neg qs] at hr;injection hr with h1 h2;subst h1;subst h2;go_wp2_with fail;refine f7 (by first | (simp [*,results,Tryz.results47,go_sem];rfl) | simp [*,results,Tryz.results47,go_sem]) rfl ?_;exact ⟨o1,none,0,rfl,VDid.local_ (g:=W.heap.size+1) HH y (p.grew F) ⟨Nat.le_succ _,by have:=j.2;omega⟩ (gT),LabAt.zero _,qd⟩
 | true=>
   rw [if_pos rfl] at hr;injection hr with h1 h2;subst h1;subst h2;go_wp2_with fail;refine f7 (by first | (simp [*,results,Tryz.results47,go_sem];rfl) | simp [*,results,Tryz.results47,go_sem]) rfl ?_;exact ⟨o1,B,d,rfl,VDid.local_ (g:=W.heap.size+1) HH y (p.grew F) ⟨Nat.le_succ _,by have:=j.2;omega⟩ (gT),X.turned (S:=λk=>k=W.heap.size+1) (gT) (λ_ b off e hk=>by have:=Y.out b off e;omega),M⟩
end
noncomputable def du (D:Dev) (sy ep n id unit:Int):Dev × Int × Int:=((DP D sy ep n id unit).1,if (DP D sy ep n id unit).2.2≠0 then 0 else (AW (DP D sy ep n id unit).2.1.ext:Int)*8,(DP D sy ep n id unit).2.2)
noncomputable def rdP (D:Dev) (sy ep n id unit i:Int):Dev × ByteArray × Int:=
 if (DP D sy ep n id unit).2.2≠0 then ((DP D sy ep n id unit).1,Dt,(DP D sy ep n id unit).2.2)
 else if (AN (DP D sy ep n id unit).2.1.ext i).2=false then ((DP D sy ep n id unit).1,Dt,2)
 else Lt (DP D sy ep n id unit).1 sy ep (AN (DP D sy ep n id unit).2.1.ext i).1
theorem Xo (D:Dev) (sy ep:Int) (l:List Int):(CQ D sy ep l).1=(finD D sy ep).1:=by
 unfold CQ;split<;>rfl
theorem VY (D:Dev) (sy ep n id unit:Int):(DP D sy ep n id unit).1=(finD D sy ep).1:=Xo D sy ep _
theorem bi (D:Dev) (sy ep n id a:Int):(DP D sy ep n id a).1.st.length=D.st.length:=by rw [VY];exact (IW D sy ep).1
theorem aM (D:Dev) (sy ep n id a:Int):(DP D sy ep n id a).1.pend.length<=D.pend.length+100:=by rw [VY];exact Ot D sy ep
theorem RO (w:World) (A:Option Addr) (c:Nat) (l:Lab) (h:LabAt w A c l) (hs:l.ext.length<=1000):Calls Tryz.prog 76 #[GG l A c] w λe w'=>e=.returned (.int .i64 ((AW l.ext:Int)*8))/\Grew w w':=by
 have a:Grew w (w.alloc (.cells #[.int .i64 l.id,.int .i64 l.unit,.string l.name,.string l.note,.slice A l.ext.length c] 100)):=(fh w).alloc _;have b:=FH l.ext;have HC:=zh (Ki A c l.ext _ _ (fk _) oo (h.hold a).runs);obtain ⟨k,hk⟩:∃k,AW l.ext=k:=⟨_,rfl⟩;rw [hk] at HC b ⊢;have hw:IntKind.i64.wrap ((k:Int)*8)=(k:Int)*8:=gy _ oo;have HG:=zh a;clear h a hk;unfold GG;go_enter Tryz.func76,Tryz.ntmps76;go_wp2_with fail;refine HC.mono ?_;rintro e w1 ⟨rfl,g1⟩;have d:=zh (HG.out.trans g1);clear g1;go_wp2_with fail;go_ret;exact ⟨rfl,d⟩
section
variable {w0:World} {x s m v:Nat} {n sy ep:Int} {D:Dev} {out:Nat->Prop} {W:World} (h:VHeld w0 x s m v n sy ep D out W) (hlen:132<=D.st.length/\D.st.length<=1155) (hp:D.pend.length<=900000) (hn:okT n=true)
include h hlen hp hn
theorem Pu (id unit:Int) (D':Dev) (k er:Int) (hr:du D sy ep n id unit=(D',k,er)):Calls Tryz.prog 37 #[ptrV v,.agg #[.int .i64 id,.int .i64 unit]] W λe w'=>e=.returned (.tuple #[.int .i64 k,.int .i64 er])/\∃out',VDid w0 x s m v n sy ep D' out W out' w':=by
 have a:Grew W (W.alloc (.cells #[.int .i64 id,.int .i64 unit] 32)):=(fh W).alloc _;obtain ⟨⟨E,l,f⟩,hE⟩:∃r,DP D sy ep n id unit=r:=⟨_,rfl⟩;unfold du at hr;rw [hE] at hr;injection hr with h1 hr;injection hr with h2 h3;simp only at h1 h2 h3;subst h1;subst h3;have HC:=zh (Jt (h.grew a) hlen oo hn id unit E l f hE);have j:=zh a;clear h hlen hp hn hE a;go_enter Tryz.func37,Tryz.ntmps37;go_wp2_with fail;refine HC.mono ?_;rintro e w1 ⟨o1,A,c,rfl,hd,g,i⟩;unfold GG;have HD:=zh (VDid.after j hd);have b:Grew w1 (w1.alloc (.cells #[.int .i64 l.id,.int .i64 l.unit,.string l.name,.string l.note,.slice A l.ext.length c] 100)):=(fh w1).alloc _;have HS:=zh (RO _ A c l (g.hold b) i);have d:=zh b;clear hd g i b;by_cases hf:f=0
 . subst hf;rw [if_neg qs] at h2;subst h2;go_wp2_with fail;refine HS.mono ?_;rintro e w2 ⟨rfl,g2⟩;have o:=zh (HD.grew (d.out.trans g2));clear g2;go_wp2_with fail;go_ret2;exact ⟨rfl,_,o⟩
 . rw [if_pos hf] at h2;subst h2;have p:(f != 0)=true:=by rw [gu];exact hf
   clear hf;go_wp2_with fail;go_ret2;exact ⟨rfl,_,HD.grew d⟩
theorem I6 (id unit:Int) (i:Int) (hi:okI i) (D':Dev) (d:ByteArray) (er:Int) (hr:rdP D sy ep n id unit i=(D',d,er)):Calls Tryz.prog 15 #[ptrV v,.agg #[.int .i64 id,.int .i64 unit],.int .i64 i] W λe w'=>e=.returned (.tuple #[.string d,.int .i64 er])/\∃out',VDid w0 x s m v n sy ep D' out W out' w':=by
 have k:Grew W (W.alloc (.cells #[.int .i64 id,.int .i64 unit] 32)):=(fh W).alloc _;have a:=bi D sy ep n id unit;have p:=aM D sy ep n id unit;obtain ⟨⟨E,l,f⟩,hE⟩:∃r,DP D sy ep n id unit=r:=⟨_,rfl⟩;unfold rdP at hr;rw [hE] at hr a p;simp only at hr a p;have HC:=zh (Jt (h.grew k) hlen oo hn id unit E l f hE);have z:=zh k;have F:=zh hi;have B:=zh (λ(o:Nat->Prop) (w:World) (hh:VHeld w0 x s m v n sy ep E o w) (q:Int) (hq:okI q) (hr:Lt E sy ep q=(D',d,er))=>Xh hh.held (by rw [a];exact hlen) oo q hq D' d er hr);unfold okI at hi;clear h hlen hp hn hE k a p;go_enter Tryz.func15,Tryz.ntmps15;go_wp2_with fail;refine HC.mono ?_;rintro e w1 ⟨o1,A,c,rfl,hd,t,a⟩;unfold GG;have HD:=zh (VDid.after z hd);have g:Grew w1 (w1.alloc (.cells #[.int .i64 l.id,.int .i64 l.unit,.string l.name,.string l.note,.slice A l.ext.length c] 100)):=(fh w1).alloc _;have u:=zh g;by_cases hf:f=0
 . subst hf;rw [if_neg qs] at hr;obtain ⟨⟨q,ok⟩,hq⟩:∃r,AN l.ext i=r:=⟨_,rfl⟩;rw [hq] at hr;simp only at hr;have HS:=zh (Jb A c l _ (t.hold g) a i oo oo q ok hq);have HQ:=zh (LF hq);clear hd t a g hq;go_wp2_with fail;refine HS.mono ?_;rintro e w2 ⟨rfl,g2⟩;have b:=zh (HD.grew (u.out.trans g2));clear g2;cases ok with
   | false=>
     rw [if_pos rfl] at hr;injection hr with h1 h2;injection h2 with h2 h3;subst h1;subst h2;subst h3;go_wp2_with fail;go_ret2;exact ⟨rfl,_,b⟩
   | true=>
     rw [if_neg qs] at hr;obtain ⟨sv,T,tv,j,_⟩:=b.held.vol;unfold GD at j;have v0:=j.cell 0;have vl:=j.lt;have HR:=zh (B _ _ b.held q HQ hr);clear hr j;go_wp2_with fail;refine HR.mono ?_;rintro e w3 ⟨rfl,y⟩;have C:=zh (b.out.trans (b.held.done y));clear y v0 vl;go_wp2_with fail;go_ret2;exact ⟨rfl,_,C⟩
 . rw [if_pos hf] at hr;injection hr with h1 h2;injection h2 with h2 h3;subst h1;subst h2;subst h3;have G:(f != 0)=true:=by rw [gu];exact hf
   clear hf hd t a g;go_wp2_with fail;go_ret2;exact ⟨rfl,_,HD.grew u⟩
end

def AQ (l:Lab) (ws:List (Int × ByteArray)):List (Int × ByteArray) × Int:=
 if (ws.any λe=>decide (e.2.size≠128))=true\/¬(ws.map (·.1)).Nodup then ([],1) else if (ws.any λe=>!(AN l.ext e.1).2)=true then ([],2) else (ws.map λe=>((AN l.ext e.1).1,e.2),0)
theorem Um {l:Lab} {ws:List (Int × ByteArray)} (k:Nat) (hk:k<ws.length) (h:ws[k].2.size≠128):AQ l ws=([],1):=by
 unfold AQ;rw [if_pos (.inl (jD.2 ⟨ws[k],fq hk,by simpa using h⟩))]
theorem WX {l:Lab} {ws:List (Int × ByteArray)} (k:Nat) (hk:k<ws.length) (h:ws[k].1∈(ws.take k).map (·.1)):AQ l ws=([],1):=by
 have hn:¬(ws.map (·.1)).Nodup:=by
  intro hn;have h1:((ws.take (k+1)).map (·.1)).Nodup:=(hn.sublist ((take_sublist _ _).map _));rw [DM ws k hk] at h1;exact (iZ.1 h1).2.2 _ h _ (fp.2 rfl) rfl
 unfold AQ;rw [if_pos (.inr hn)]
theorem SV {l:Lab} {ws:List (Int × ByteArray)} (h1:∀e∈ws,e.2.size=128) (h2:(ws.map (·.1)).Nodup) (k:Nat) (hk:k<ws.length) (h:(AN l.ext ws[k].1).2=false):AQ l ws=([],2):=by
 unfold AQ;rw [if_neg (by simp only [not_or,iL];exact ⟨by rw [ie,iK];intro e he;simp [h1 e he],h2⟩),if_pos (jD.2 ⟨ws[k],fq hk,by rw [h];rfl⟩)]
theorem WW {l:Lab} {ws:List (Int × ByteArray)} (h1:∀e∈ws,e.2.size=128) (h2:(ws.map (·.1)).Nodup) (h3:∀e∈ws,(AN l.ext e.1).2=true):AQ l ws=(ws.map λe=>((AN l.ext e.1).1,e.2),0):=by
 unfold AQ;rw [if_neg (by simp only [not_or,iL];exact ⟨by rw [ie,iK];intro e he;simp [h1 e he],h2⟩),if_neg (by rw [ie,iK];intro e he;rw [h3 e he];decide)]
def V7 (l:Lab) (e:Int × ByteArray):List Value:=BB ((AN l.ext e.1).1,e.2)
theorem Oq (w:World) (A:Option Addr) (c:Nat) (l:Lab) (H:LabAt w A c l) (ad:l.ext.length<=1000) (ws:List (Int × ByteArray)) (hl:ws.length<=1000000) (I:∀e∈ws,okI e.1) (B:Option Addr) (d:Nat) (G:ListAt w w.heap.size 2 B (ws.map BB)):
 Calls Tryz.prog 50 #[GG l A c,.slice B ws.length d] w λe w'=>∃v,e=.returned (.tuple #[v,.int .i64 (AQ l ws).2])/\OwnL w' w.heap.size 65 2 v ((AQ l ws).1.map BB)/\Grew w w':=by
 have ae:=@run_makeMap Tryz.prog;have J:Grew w (w.alloc (.cells #[.int .i64 l.id,.int .i64 l.unit,.string l.name,.string l.note,.slice A l.ext.length c] 100)):=(fh w).alloc _;have K:=zh (fy w 100 #[.int .i64 l.id,.int .i64 l.unit,.string l.name,.string l.note,.slice A l.ext.length c] rfl);have aj:Hid (MapI ((w.alloc (.cells #[.int .i64 l.id,.int .i64 l.unit,.string l.name,.string l.note,.slice A l.ext.length c] 100)).alloc (.map #[] 0)) (w.heap.size+1) (Dj [])):=zh ((MapIs.made _ qs).congr (λa=>rfl));have L:=zh G;have M:=zh I;have al:=zh H;have an:=zh (J.alloc (.map #[] 0));have av:=zh (K.alloc (.map #[] 0));unfold GG;clear H G I J K;go_enter Tryz.func50,Tryz.ntmps50;go_wp2_with fail;clear ae
 go_loopg [17] ws.length (λgk i wr=>∃k:Nat,k<=ws.length/\gk=ws.length - k/\i=.int .i64 k/\MapI wr (w.heap.size+1) (Dj ((ws.take k).map (·.1)))/\Grew w wr/\Blk wr w.heap.size 100 #[.int .i64 l.id,.int .i64 l.unit,.string l.name,.string l.note,.slice A l.ext.length c]/\(∀j (hj:j<k) (hj2:j<ws.length),ws[j].2.size=128)/\((ws.take k).map (·.1)).Nodup)
 case atStart=>exact ⟨0,oo,oo,rfl,aj,an,av,λj hj=>absurd hj oo,qs⟩
 case round=>
  obtain ⟨k,hk,o,rfl,hm,hg,hb,X,Y⟩:=hrel;have a0:=zh o;have HM:=zh hm;have HG:=zh hg;have HB:=zh hb;have N:=zh X;have O:=zh Y;clear o hm hg hb X Y;by_cases f:k<ws.length
  . obtain ⟨b,bn,rfl,bo,c0,c1⟩:=Hq (L.keep (fk _) HG) f;have a1:(k:Int)<(ws.length:Int):=oo;by_cases hs:ws[k].2.size=128
    . have a2:((ws[k].2.size:Int) != 128)=false:=by rw [hs];rfl
      obtain ⟨kl,z⟩:=E8 ws[k].1 (M _ (fq f));have a3:=zh z;have s:=HM.alloc (.cells #[.int .i64 ws[k].1,.string ws[k].2] 65);have P:=s.lookup_val Al Bc Tryz.underlying91 (Hy _) ws[k].1 z;have a4:=zh s;by_cases n:ws[k].1∈(ws.take k).map (·.1)
      . rw [show Dj ((ws.take k).map (·.1)) ws[k].1=some (.bool true) from if_pos n,it] at P;have HC:=zh (WX (l:=l) k f n);clear n hs z s;go_wp2_with fail;go_ret2;rw [HC.out];exact ⟨_,rfl,OwnL.nil _ _ _ _,HG.alloc _⟩
      . rw [show Dj ((ws.take k).map (·.1)) ws[k].1=none from if_neg n,Option.getD_none] at P;have HS:=zh hs;have a5:=zh n;clear n hs z s;go_wp2_with (refine Bs rfl _ _ _ 91 rfl 4 Al Bc Tryz.underlying91 rfl a4 ws[k].1 a3 (.bool true) rfl rfl ?_;intro w3 U V;have a6:=zh U;have Q:=zh V;clear U V)
        go_roundg (ws.length - (k+1))
        case measure=>rw [a0.out];omega
        case rel=>
         refine ⟨k+1,oo,oo,by go_num,a6.congr (λa=>by rw [DM ws k f];exact KG _ _ a),(HG.alloc _).turn Q (λi e=>by rw [e];exact Nat.le_succ _),(HB.alloc _).turned Q oo,λj hj hj2=>?_,?_⟩
         . rcases iQ j k with h9 | h9
           . exact N.out j h9 hj2
           . have:j=k:=oo;subst this;exact HS.out
         . rw [DM ws k f];exact iZ.2 ⟨O,qs,λa ha b hb=>by rw [fp.1 hb];exact λe=>a5 (e▸ha)⟩
    . have a2:((ws[k].2.size:Int) != 128)=true:=by rw [gu];omega
      have HC:=zh (Um (l:=l) k f hs);clear hs;go_wp2_with fail;go_ret2;rw [HC.out];exact ⟨_,rfl,OwnL.nil _ _ _ _,HG.alloc _⟩
  . obtain rfl:ws.length=k:=oo
    have H1:Hid (∀e∈ws,e.2.size=128):=zh (λe he=>by
     obtain ⟨j,hj,rfl⟩:=jB.1 he
     exact N.out j hj hj)
    have H2:Hid ((ws.map (·.1)).Nodup):=zh (by have:=O.out;rw [gP (fk _)] at this;exact this);clear f;obtain ⟨wa,br⟩:∃wa:World,wa=wr:=⟨_,rfl⟩;subst br;have a7:=zh (show w.heap.size+1<=wa.heap.size from HB.out.lt);go_wp2_with fail
    go_loopg [9,37] ws.length (λgk u i wr=>∃k:Nat,k<=ws.length/\gk=ws.length - k/\i=.int .i64 k/\OwnL wr wa.heap.size 65 2 u ((ws.take k).map (V7 l))/\Blk wr w.heap.size 100 #[.int .i64 l.id,.int .i64 l.unit,.string l.name,.string l.note,.slice A l.ext.length c]/\Grew wa wr/\(∀j (hj:j<k) (hj2:j<ws.length),(AN l.ext ws[j].1).2=true))
    case atStart=>exact ⟨0,oo,oo,rfl,OwnL.nil _ _ _ _,HB,fh wa,λj hj=>absurd hj oo⟩
    case round=>
     obtain ⟨k,bv,o,rfl,Z,hb,hg,aa⟩:=hrel;have a8:=zh o;have t:=zh (HG.out.trans hg);have R:=zh hg;have S:=zh aa;have T:=zh Z;have h:=zh hb;clear o hg aa Z hb;by_cases f:k<ws.length
     . obtain ⟨b,bn,rfl,bo,c0,c1⟩:=Hq (L.keep (fk _) t) f;have a1:(k:Int)<(ws.length:Int):=oo;obtain ⟨⟨p,dd⟩,he⟩:∃e,ws[k]=e:=⟨_,rfl⟩;have HE:=zh he;have x:=M.out _ (fq f);rw [he] at c0 c1 x;simp only at c0 c1 x;have bs:=zh x;unfold okI at x;obtain ⟨⟨q,ok⟩,hq⟩:∃r,AN l.ext p=r:=⟨_,rfl⟩;have m:=zh ((fh wr).alloc (.cells #[.int .i64 p,.string dd] 65));have HX:=zh (fy wr 65 #[.int .i64 p,.string dd] rfl);have HS:=zh (Jb A c l _ (al.hold (t.out.trans m)) ad p oo oo q ok hq);have HQ:=zh hq;have a9:=h.grew m;have y0:=h.cell 0;have y1:=h.cell 1;have y2:=h.cell 2;have y3:=h.cell 3;have y4:=h.cell 4;have yl:=h.out.lt;clear hq he a9;cases ok with
       | false=>
         have HC:=zh (SV (l:=l) H1 H2 k f (by rw [HE.out,HQ.out]));go_wp2_with fail;refine HS.mono ?_;rintro e w3 ⟨rfl,g3⟩;have y:=zh (t.out.trans (m.out.trans g3));clear g3 y0 y1 y2 y3 y4 yl;go_wp2_with fail;go_ret2;rw [HC.out];exact ⟨_,rfl,OwnL.nil _ _ _ _,y⟩
       | true=>
         go_wp2_with fail;refine HS.mono ?_;rintro e w3 ⟨rfl,g3⟩;have y:=zh (m.out.trans g3);have C:=HX.grew g3;have bb:=C.cell 1;have xl:=C.lt;have D:=zh (T.grew (m.out.trans g3));have bt:wa.heap.size<=w3.heap.size:=fx R.size (m.out.trans g3).size;have E:((ws.take k).map (V7 l)).length=k:=by simp;omega
         clear g3 y0 y1 y2 y3 y4 yl C;go_wp2_with (at_builtin;refine BZ rfl _ _ 24 rfl wa.heap.size 65 2 24 _ Tryz.underlying24 KF rfl qd (w3.alloc (.cells #[.int .i64 q,.string dd] 65)) u9 ((ws.take k).map (V7 l)) (BB (q,dd)) rfl (by first | rfl | (simp;done)) (D.alloc _) w3.heap.size (by first | rfl | (simp;done)) (fy _ _ _ rfl) rfl (by rw [E];omega) (by rw [E];omega) (by simp;omega) k E ?_);intro g9 bl w9 W F _ _
         have bc:=zh (show OwnL w9 wa.heap.size 65 2 (.slice (some ⟨g9,0,none⟩) (k+1) bl) ((ws.take (k+1)).map (V7 l)) from by
          rw [fr f,fz,HE.out]
          have:V7 l (p,dd)=BB (q,dd):=by unfold V7;rw [HQ.out]
          rw [List.map_singleton,this,map_take]
          exact W)
         have bd:=zh (Grew.own ((R.out.trans y).alloc (.cells #[.int .i64 q,.string dd] 65)) F (λg e=>(D.own_ge e).1) (fk _));have bf:=zh (((h.grew y).alloc (.cells #[.int .i64 q,.string dd] 65)).own F (λe=>by have:=(D.own_ge e).1;have:=a7.out;omega))
         have bk:=zh (show ∀j (hj:j<k+1) (hj2:j<ws.length),(AN l.ext ws[j].1).2=true from λj hj hj2=>by
          rcases iQ j k with h9 | h9
          . exact S.out j h9 hj2
          . have:j=k:=oo
            subst this
            rw [HE.out,HQ.out])
         clear W F bb xl;go_wp2_with fail
         go_roundg (ws.length - (k+1))
         case measure=>rw [a8.out];omega
         case rel=>exact ⟨k+1,oo,rfl,by go_num,bc,bf,bd,bk⟩
     . obtain rfl:ws.length=k:=oo
       have HC:=zh (WW (l:=l) H1 H2 (λe he=>by
        obtain ⟨j,hj,rfl⟩:=jB.1 he
        exact S.out j hj hj))
       have HO:=zh (show OwnL wr wa.heap.size 65 2 u9 ((ws.map λe=>((AN l.ext e.1).1,e.2)).map BB) from by
        have:=T.out
        rw [gP (fk _)] at this
        rw [iq]
        exact this)
       clear f;go_wp2_with fail;go_ret2;rw [HC.out];exact ⟨_,rfl,HO.mono HG.size,t⟩
def CR (x s m:Nat) (sy ep:Int) (E:Dev):Prop:=∀(w0:World) (out:Nat->Prop) (W:World),Held w0 x s m sy ep E out W->∀(ws:List (Int × ByteArray)),ws.length<=1000000->(∀e∈ws,okI e.1)->∀(A:Option Addr) (c:Nat),ListAt W W.heap.size 2 A (ws.map BB)->(ws≠[]->ED w0 out A)->
 Calls Tryz.prog 51 #[ptrV s,.slice A ws.length c] W λe w'=>e=.returned (.int .i64 (Ak E sy ep ws).2)/\Done w0 x s m sy ep (Ak E sy ep ws).1 out W w'
noncomputable def wrP (D:Dev) (sy ep n id unit:Int) (ws:List (Int × ByteArray)):Dev × Int:=
 if (DP D sy ep n id unit).2.2≠0 then ((DP D sy ep n id unit).1,(DP D sy ep n id unit).2.2)
 else if (AQ (DP D sy ep n id unit).2.1 ws).2≠0 then ((DP D sy ep n id unit).1,(AQ (DP D sy ep n id unit).2.1 ws).2)
 else Ak (DP D sy ep n id unit).1 sy ep (AQ (DP D sy ep n id unit).2.1 ws).1
theorem PY (l:Lab) (ws:List (Int × ByteArray)):(AQ l ws).1.length<=ws.length:=by
 unfold AQ;split
 . exact iB _
 split
 . exact iB _
 . rw [fm];exact fk _
theorem RS (l:Lab) (ws:List (Int × ByteArray)):∀e∈(AQ l ws).1,okI e.1:=by
 unfold AQ;intro e he;split at he
 . cases he
 split at he
 . cases he
 . obtain ⟨a,_,rfl⟩:=ft.1 he;exact LF (ok:=(AN l.ext a.1).2) rfl
section
variable {w0:World} {x s m v:Nat} {n sy ep:Int} {D:Dev} {out:Nat->Prop} {W:World} (h:VHeld w0 x s m v n sy ep D out W) (hlen:132<=D.st.length/\D.st.length<=1155) (hp:D.pend.length<=900000) (hn:okT n=true)
include h hlen hp hn
theorem NA (id unit:Int) (H:∀E,(DP D sy ep n id unit).1=E->(DP D sy ep n id unit).2.2=0->CR x s m sy ep E) (ws:List (Int × ByteArray)) (hl:ws.length<=1000000) (G:∀e∈ws,okI e.1) (B:Option Addr) (d:Nat) (F:ListAt W W.heap.size 2 B (ws.map BB)) (hB:ws≠[]->∀b off,B=some ⟨b,off,none⟩->Far w0 out m v b) (D':Dev) (er:Int) (hr:wrP D sy ep n id unit ws=(D',er)):
 Calls Tryz.prog 16 #[ptrV v,.agg #[.int .i64 id,.int .i64 unit],.slice B ws.length d] W λe w'=>e=.returned (.int .i64 er)/\∃out',VDid w0 x s m v n sy ep D' out W out' w':=by
 have i:Grew W (W.alloc (.cells #[.int .i64 id,.int .i64 unit] 32)):=(fh W).alloc _;obtain ⟨⟨E,l,f⟩,hE⟩:∃r,DP D sy ep n id unit=r:=⟨_,rfl⟩;have j:=H E (by rw [hE]);unfold wrP at hr;rw [hE] at hr j;simp only at hr j;have P:=zh j;have HC:=zh (Jt (h.grew i) hlen oo hn id unit E l f hE);have Q:=zh i;have R:=zh G;have S:=zh (AO F i);have U:=zh hB;clear h hlen hp hn hE i j H G F hB;go_enter Tryz.func16,Tryz.ntmps16;go_wp2_with fail;refine HC.mono ?_;rintro e w1 ⟨o1,A,c,rfl,hd,z,C⟩;have HD:=zh (VDid.after Q hd);have a:Grew w1 (w1.alloc (.cells #[.int .i64 l.id,.int .i64 l.unit,.string l.name,.string l.note,.slice A l.ext.length c] 100)):=(fh w1).alloc _;have y:=zh a;have V:=zh (AO (CC S hd.turned (λh0 b off e=>(U (by intro h9;rw [h9] at h0;exact absurd h0 qs) b off e).not)) a);unfold GG;by_cases hf:f=0;rotate_left
 . rw [if_pos hf] at hr;injection hr with h1 h2;subst h1;subst h2;have X:(f != 0)=true:=by rw [gu];exact hf
   clear hf hd z C a;go_wp2_with fail;go_ret;exact ⟨rfl,_,HD.grew y⟩
 subst hf;rw [if_neg qs] at hr;have HP:=zh (Oq _ A c l (z.hold a) C ws hl R B d V);unfold GG at HP;obtain ⟨⟨ps,pe⟩,M⟩:∃r,AQ l ws=r:=⟨_,rfl⟩;have I:=PY l ws;have o:=RS l ws;rw [M] at HP hr I o;simp only at hr I o;have Y:=zh o;clear hd z C a M o;go_wp2_with fail;refine HP.mono ?_;rintro e w2 ⟨u,rfl,t,g2⟩;have J:=zh (y.out.trans g2);by_cases q:pe=0;rotate_left
 . rw [if_pos q] at hr;injection hr with h1 h2;subst h1;subst h2;have X:(pe != 0)=true:=by rw [gu];exact q
   clear q t g2;go_wp2_with fail;go_ret;exact ⟨rfl,_,HD.grew J⟩
 subst q;rw [if_neg qs] at hr;have p:=zh (HD.more J);obtain ⟨Au,cu,hu,_,_,N⟩:=t.listAt;rw [fm] at hu;subst hu
 have K:ps≠[]->ED w0 (λk=>o1 k\/(w1.heap.size<=k/\k<w2.heap.size)) Au:=λ_ b off e=>.inr (.inr (by
  have h1:=t.own_ge (g:=b) (by rw [e];rfl)
  have h2:=y.size
  exact ⟨fx h2 h1.1,h1.2⟩))
 have HR:=zh (P trivial w0 _ w2 p.held.held ps oo Y Au cu N K);obtain ⟨⟨D2,e2⟩,O⟩:∃r,Ak E sy ep ps=r:=⟨_,rfl⟩;rw [O] at hr HR;injection hr with h1 h2;subst h1;subst h2;obtain ⟨sv,T,tv,w,_⟩:=p.held.vol;unfold GD at w;have v0:=w.cell 0;have vl:=w.lt;clear t g2 N K O w;go_wp2_with fail;refine HR.mono ?_;rintro e w3 ⟨rfl,L⟩;have Z:=zh (p.out.trans (p.held.done L));clear L v0 vl;go_wp2_with fail;go_ret;exact ⟨rfl,_,Z⟩
end

end
end Go.Proofs.YtfklieeipokllaaGreat
