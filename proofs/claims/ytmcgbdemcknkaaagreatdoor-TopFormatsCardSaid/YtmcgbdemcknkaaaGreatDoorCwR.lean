/- Parts of the proof (packed), 18. -/
import Derived.Test.YtmcgbdemcknkaaaGreatDoorCwQ
import Derived.Test.YtmcgbdemcknkaaaGreatDoorCwP
namespace Go.Proofs.YtmcgbdemcknkaaaGreatDoor
set_option linter.all false
set_option maxRecDepth 100000
set_option maxHeartbeats 16000000
open List
section
attribute [local go_sem ↓] Go.wp_at_zero Go.wp_at_succ
open Go.RowKit
def Bq (E:Dev) (n:Int):List Int->Int
 | []=>0
 | i::l=>if i<0\/n<=i then 2 else if (Dl E i.toNat).2≠0 then (Dl E i.toNat).2 else Bq E n l
def EU (E:Dev) (l:List Int):List ByteArray:=l.map λi=>(Dl E i.toNat).1
def DN (D:Dev) (sy ep:Int) (l:List Int):Dev × List ByteArray × Int:=
 if (B9 D sy ep).2.2≠0 then ((B9 D sy ep).1,[],(B9 D sy ep).2.2)
 else ((B9 D sy ep).1,if Bq (B9 D sy ep).1 ((D.st.length:Int) - 131) l=0 then EU (B9 D sy ep).1 l else [],Bq (B9 D sy ep).1 ((D.st.length:Int) - 131) l)
theorem Hz (E:Dev) (n:Int) (b:List Int):∀a:List Int,Bq E n (a++b)=if Bq E n a=0 then Bq E n b else Bq E n a
 | []=>rfl
 | i::a=>by
   show (if _ then _ else if _ then _ else Bq E n (a++b))=if (if _ then _ else if _ then _ else Bq E n a)=0 then _ else (if _ then _ else if _ then _ else Bq E n a);by_cases h1:i<0\/n<=i
   . simp [h1]
   . rw [if_neg h1,if_neg h1];by_cases h2:(Dl E i.toNat).2≠0
     . rw [if_pos h2,if_pos h2,if_neg h2]
     . rw [if_neg h2,if_neg h2];exact Hz E n b a
theorem bU (E:Dev) (n:Int) (l:List Int) (k:Nat) (hk:k<l.length) (h0:Bq E n (l.take k)=0):Bq E n l=(if l[k]<0\/n<=l[k] then 2 else if (Dl E l[k].toNat).2≠0 then (Dl E l[k].toNat).2 else Bq E n (l.drop (k+1))):=by
 have e:l=l.take k++l[k]::l.drop (k+1):=by rw [<-jz hk,kK]
 conv=>lhs;rw [e]
 rw [Hz,if_pos h0];rfl
theorem Tm (E:Dev) (n:Int) (l:List Int) (k:Nat) (hk:k<l.length) (h0:Bq E n (l.take k)=0) (h1:¬(l[k]<0\/n<=l[k])) (h2:(Dl E l[k].toNat).2=0):Bq E n (l.take (k+1))=0:=by
 rw [ic hk,Hz,if_pos h0];show (if _ then _ else if _ then _ else _)=_;rw [if_neg h1,if_neg (by rw [h2];simp)];rfl
theorem SL (E:Dev) (l:List Int) (k:Nat) (hk:k<l.length):(EU E (l.take (k+1))).map BP=(EU E (l.take k)).map BP++[[.string (Dl E l[k].toNat).1]]:=by
 unfold EU;rw [ic hk,il,il];rfl
theorem O2 (w:World) (n:Nat) (h:n<=1000000):(Instr.makeSlice 24 (.int .i64 0) (.int .i64 (n:Int))).run Tryz.prog w=.ok (.slice (some ⟨w.heap.size,0,none⟩) 0 n) (w.alloc (.cells (madeCells #[Value.string ⟨#[]⟩] n) 9)):=by
 obtain ⟨i,hi,a,b,c⟩:=info_parts Ow;have h:=run_make (P:=Tryz.prog) w 24 9 i _ Tryz.underlying24 hi a .i64 .i64 0 (n:Int) oo oo (by rw [c];omega) oo;rw [h,b,i9,Nat.mul_one];rfl
theorem Rz {w:World} {base g n:Nat} (hb:Blk w g 9 (madeCells #[Value.string ⟨#[]⟩] n)) (h:base<=g) (hn:n<=1000000):OwnL w base 9 1 (.slice (some ⟨g,0,none⟩) 0 n) []:=
 ⟨qs,qs,.inr ⟨g,n,_,rfl,h,hb,qs,by unfold maxLen;omega,by simp [madeCells],qs⟩⟩
structure Back (w0:World) (x s m:Nat) (sy ep:Int) (D':Dev) (out:Nat->Prop) (W:World) (lo:Nat) (w':World):Prop where
 lo0:W.heap.size<=lo
 lo1:lo<=w'.heap.size
 held:Held w0 x s m sy ep D' (up out lo w') w'
 turned:Turned (λk=>(w0.heap.size<=k/\¬out k)\/k=m) W w'
theorem Vh {out:Nat->Prop} {lo:Nat} {w1 w2:World} (hs:w1.heap.size<=w2.heap.size) {k:Nat} (h:up out lo w1 k):up out lo w2 k:=h.imp id (λh9=>⟨h9.1,ig h9.2 hs⟩)
theorem Io {w0:World} {x s m:Nat} {sy ep:Int} {D:Dev} {out:Nat->Prop} {lo:Nat} {w1 w2:World} (h:Held w0 x s m sy ep D (up out lo w1) w1) (hg:Grew w1 w2):Held w0 x s m sy ep D (up out lo w2) w2:=
 ⟨(h.live.more hg).few (λk hk=>hk.elim (λh9=>.inl (.inl h9)) (λh9=>(jY k w1.heap.size).elim (λh8=>.inl (.inr ⟨h9.1,h8⟩)) (λh8=>.inr ⟨h8,h9.2⟩))),h.store.grew hg,Vh hg.size h.os,Vh hg.size h.om,h.m0⟩
theorem Back.grew {w0:World} {x s m:Nat} {sy ep:Int} {D':Dev} {out:Nat->Prop} {W:World} {lo:Nat} {w1 w2:World} (h:Back w0 x s m sy ep D' out W lo w1) (hg:Grew w1 w2):Back w0 x s m sy ep D' out W lo w2:=
 ⟨h.lo0,ij h.lo1 hg.size,Io h.held hg,h.turned.trans (hg.turned _)⟩
theorem Back.done {w0:World} {x s m:Nat} {sy ep:Int} {D':Dev} {out:Nat->Prop} {W:World} {lo:Nat} {w1:World} (h:Back w0 x s m sy ep D' out W lo w1):Done w0 x s m sy ep D' out W w1:=⟨h.held.live.few (λ_ hk=>.inl hk),h.held.store,h.turned⟩
theorem Done.back {w0:World} {x s m:Nat} {sy ep:Int} {D D':Dev} {out:Nat->Prop} {W w1:World} (h0:Held w0 x s m sy ep D out W) (h:Done w0 x s m sy ep D' out W w1):Back w0 x s m sy ep D' out W w1.heap.size w1:=⟨h.turned.size,iX _,Mk (h0.done h),h.turned⟩
def fK (w0:World) (x s m:Nat) (sy ep:Int) (D':Dev) (out:Nat->Prop) (W:World) (ss:List ByteArray) (er:Int) (e:Ending) (w':World):Prop:=
 ∃v lo,e=.returned (.tuple #[v,.int .i64 er])/\Back w0 x s m sy ep D' out W lo w'/\(er=0->OwnL w' lo 9 1 v (ss.map λs=>[Value.string s]))
theorem ViewM.row {w w':World} {lo g s mm:Nat} {D:Dev} {base e sz:Nat} {v:Value} {rows:List (List Value)} (h:ViewM w lo g s mm D) (ho:OwnL w base e sz v rows) (h1:e≠277) (h2:e≠201) (hg:w.grownBy w' v.ownBlock):ViewM w' lo g s mm D:=by
 obtain ⟨a,F,hv⟩:=h;have ht:Turned (λk=>v.ownBlock=some k) w w':=⟨hg.os,hg.tape,hg.output,hg.size,λk hk hn=>hg.block k hk (λe9=>hn e9.symm)⟩;refine ⟨a,F,hv.blk.turned ht (ho.ne_blk hv.blk h1),hv.lg,hv.lm,hv.map.turned ht (DP ho hv.map),?_,λk u hk=>?_⟩
 . rcases hv.top with q1 | ⟨t,q1,q2,q3,q4⟩
   . exact .inl q1
   . exact .inr ⟨t,q1,q2,q3.turned ht (ho.ne_blk q3 h2),q4⟩
 . obtain ⟨b,j,q1,q2,q3,q4,q5⟩:=hv.maps k u hk;exact ⟨b,j,q1,q2,q3,q4.turned ht (ho.ne_blk q4 h2),q5⟩
theorem X3 {w:World} {B sz:Nat} {A:Option Addr} {rows:List (List Value)} (h:ListAt w B sz A rows) (hp:0<rows.length):∃bl off,A=some ⟨bl,off,none⟩/\bl<B/\∀(j:Nat) (cs:List Value),rows[j]? =some cs->∀(i:Nat) (u:Value),cs[i]? =some u->w.cell? ⟨bl,off+j*sz+i,none⟩=some u:=h hp
section
variable {w0:World} {x s m:Nat} {sy ep:Int} {D:Dev} {out:Nat->Prop} {W:World} (h:Held w0 x s m sy ep D out W) (hlen:132<=D.st.length/\D.st.length<=1155) (hp:D.pend.length<=980000)
include h hlen hp
theorem L0 (l:List Int) (w:∀i∈l,okI i) (c1:l.length<=100000) (A:Option Addr) (c:Nat) (hl:ListAt W W.heap.size 1 A (l.map DJ)) (hA:l≠[]->Et w0 out A) (D':Dev) (ss:List ByteArray) (er:Int) (hr:DN D sy ep l=(D',ss,er)):
 Calls Tryz.prog 95 #[ptrV s,.slice A l.length c] W (fK w0 x s m sy ep D' out W ss er):=by
 obtain ⟨⟨E,b,f⟩,hE⟩:∃r,B9 D sy ep=r:=⟨_,rfl⟩;have HF:=zh (Hp h hlen.1 hp E b f hE);have C:=Ii D sy ep;unfold DN at hr;rw [hE] at hr C;have HH:=zh h;by_cases h0:f=0
 . subst h0;rw [if_neg qs] at hr;have av:=C.2 rfl;have aw:E.st.length=D.st.length:=C.1;obtain ⟨n,hn⟩:∃n:Nat,D.st.length - 131=n:=⟨_,rfl⟩;have ca:(E.st.length:Int) - 131=(n:Int):=oo;have c2:1<=n/\n<=1024:=oo;rw [show (D.st.length:Int) - 131=(n:Int) from oo] at hr;injection hr with h1 h2;injection h2 with h2 h3;subst h1;have cb:=zh h2;have v:=zh h3;have cc:=zh w
   have a0:=zh (show ∀(k:Nat) (hk:k<l.length),∃bl d,A=some ⟨bl,d,none⟩/\bl<W.heap.size/\(bl<w0.heap.size\/out bl)/\W.cell? ⟨bl,d+k,none⟩=some (.int .i64 l[k]) from λk hk=>by
    obtain ⟨bl,d,e,h7,h8⟩:=X3 hl (by rw [iY];omega)
    have h9:=h8 k (DJ l[k]) (by rw [iZ,iV hk];rfl) 0 _ rfl
    exact ⟨bl,d,e,h7,hA (by intro e9;rw [e9] at hk;simp at hk) bl d e,by simpa using h9⟩)
   have a1:=h.store.lt;have c3:=h.live.base.size;have ce:=zh av;have a2:=zh aw;have cf:=zh hlen;have ch:=zh hn;have a3:=zh a1;clear h hlen hp hE C av aw hl hA h2 h3 a1 hn w;go_enter Tryz.func95,Tryz.ntmps95;go_wp2_with fail;refine HF.mono ?_;rintro e w1 ⟨rfl,hd⟩;have HD:=zh hd;have a4:=Mk (HH.done hd);have ci:W.heap.size<=w1.heap.size:=hd.turned.size;have y:=zh (show (w0.heap.size<=w1.heap.size/\s<w1.heap.size)/\m<w1.heap.size from ⟨⟨oo,by have:=a3.1;omega⟩,by have:=a3.2;omega⟩)
   have cl:=zh (show ∀(k:Nat) (hk:k<l.length),∃bl d,A=some ⟨bl,d,none⟩/\bl<w1.heap.size/\bl≠m/\w1.cell? ⟨bl,d+k,none⟩=some (.int .i64 l[k]) from λk hk=>by
    obtain ⟨bl,d,e,hb,ha,hc⟩:=a0.out k hk
    obtain ⟨F,cz,_⟩:=HH.store.seen
    have a5:=FY cz hc
    refine ⟨bl,d,e,oo,a5,?_⟩
    rw [hd.turned.cellEq bl _ hb (λhq=>?_)]
    . exact hc
    . rcases hq with hq | hq
      . rcases ha with h9 | h9
        . exact absurd hq.1 oo
        . exact hq.2 h9
      . exact a5 hq)
   have a6:=zh a4;clear hd a4 HF a0;go_wp2_with fail;refine AB [] (λw':World=>True) qk ?_;have hS:=trivial;refine tQ 0 22 ?_;refine tT 1 (some 23) hS ?_;refine tQ 3 25 ?_;refine Dk (i:=2) (j:=4) rfl rfl qk ?faa ?fab
   case' faa=>
    intro K' hK;rw [if_pos (by rfl)];simp only [jn,jS,ja];have T:=O2 w1.drew l.length oo;have G:Blk (w1.alloc (.cells (madeCells #[Value.string ⟨#[]⟩] l.length) 9)).drew w1.heap.size 9 (madeCells #[Value.string ⟨#[]⟩] l.length):=(ik w1 _ _ rfl).drew;have U:Grew w1 (w1.alloc (.cells (madeCells #[Value.string ⟨#[]⟩] l.length) 9)).drew:=((iW w1).alloc _).drew;go_wp2_with fail;refine hK.out _ _ (.inr id) ?_;clear hK T;refine tO 4 λK' hK=>?_;go_wp2_with fail;refine (RH s E w1.heap.size _ U.size).mono ?_;rintro e wz ⟨gv,mm,rfl,z,gz⟩;have H:OwnL wz w1.heap.size 9 1 (.slice (some ⟨w1.heap.size,0,none⟩) 0 l.length) []:=Rz (G.grew gz) (iX _) oo;have N:Grew w1 wz:=U.trans gz;clear G U gz;go_wp2_with fail;refine hK.out _ _ (.inr id) ?_;clear hK;refine tQ 5 8 ?_;refine tQ 6 9 ?_;refine AA qk ?_ _;obtain ⟨vo,M⟩:∃vo,vo=Value.slice (some ⟨w1.heap.size,0,none⟩) 0 l.length:=⟨_,rfl⟩;rw [<-M] at H ⊢;clear M
   case' fab=>
    intro K' hK;rw [if_pos (by rfl)];simp only [jn,jS,ja];go_wp2_with fail;refine (RH s E w1.heap.size w1.drew (iX _)).mono ?_;rintro e w2 ⟨gv,mm,rfl,b0,gz⟩;have T:=O2 w2 l.length oo;have G:Blk (w2.alloc (.cells (madeCells #[Value.string ⟨#[]⟩] l.length) 9)) w2.heap.size 9 (madeCells #[Value.string ⟨#[]⟩] l.length):=ik w2 _ _ rfl;have N:Grew w1 (w2.alloc (.cells (madeCells #[Value.string ⟨#[]⟩] l.length) 9)):=(((iW w1).drew.trans gz)).alloc _;have z:=b0.grew ((iW w2).alloc (.cells (madeCells #[Value.string ⟨#[]⟩] l.length) 9));have H:OwnL (w2.alloc (.cells (madeCells #[Value.string ⟨#[]⟩] l.length) 9)) w1.heap.size 9 1 (.slice (some ⟨w2.heap.size,0,none⟩) 0 l.length) []:=Rz G gz.size oo;clear b0 gz G;go_wp2_with fail;refine hK.out _ _ (.inr id) ?_;clear hK;refine tO 2 λK' hK=>?_;go_wp2_with fail;refine hK.out _ _ (.inr id) ?_;clear hK T;refine tQ 5 8 ?_;refine tQ 6 9 ?_;refine AA qk ?_ _;obtain ⟨vo,M⟩:∃vo,vo=Value.slice (some ⟨w2.heap.size,0,none⟩) 0 l.length:=⟨_,rfl⟩;rw [<-M] at H ⊢;clear M;generalize hwz:w2.alloc (.cells (madeCells #[Value.string ⟨#[]⟩] l.length) 9)=wz at*
    clear hwz
   all_goals
    have a7:=zh H;have a8:=zh z;have a9:=zh (Io a6 N);have bb:=zh N;clear H z N;go_wp2_with fail
    go_loopg [8,29] l.length (λgk u i' wr=>∃k:Nat,k<=l.length/\gk=l.length - k/\i'=.int .i64 (k:Int)/\Bq E n (l.take k)=0/\OwnL wr w1.heap.size 9 1 u ((EU E (l.take k)).map BP)/\ViewM wr w1.heap.size gv s mm E/\Held w0 x s m sy ep E (up out w1.heap.size wr) wr/\Turned (λq=>q=m\/w1.heap.size<=q) w1 wr)
    case atStart=>exact ⟨0,oo,oo,rfl,rfl,a7,a8,a9,bb.turned _⟩
    case round=>
     obtain ⟨k,hk,b2,rfl,t,b3,z,hh,ht⟩:=hrel;have cn:=zh b2;have V:=zh t;have I:=zh b3;have J:=zh hh;have B:=zh ht;have bc:=zh z;have O:=zh (show ∀w':World,Held w0 x s m sy ep E (up out w1.heap.size w') w'->Turned (λq=>q=m\/w1.heap.size<=q) w1 w'->Back w0 x s m sy ep E out W w1.heap.size w' from λw' h1 h2=>⟨ci,h2.size,h1,HD.turned.next h2 (λk hk hq=>hq.elim .inr (λh9=>absurd hk oo))⟩);clear b2 t b3 z hh ht a8 a9 bb a7;by_cases L:k<l.length
     . obtain ⟨bl,d,rfl,b4,b5,hc⟩:=cl.out k L;have co:wr.cell? ⟨bl,d+k,none⟩=some (.int .i64 l[k]):=by rw [B.out.cellEq bl _ b4 (λhq=>hq.elim b5 (λh9=>oo))];exact hc
       have c4:bl<wr.heap.size:=ig b4 B.size;have bf:=cc.out l[k] (ib L);unfold okI at bf;have K:=zh (bU E n l k L V);have P:=zh (Tm E n l k L V);have Q:=zh (SL E l k L);obtain ⟨i,hi⟩:∃i,l[k]=i:=⟨_,rfl⟩;rw [hi] at co K P Q bf;have X:=zh (J0 J);rw [ca] at X;clear hc hi b5;by_cases ag:i<0
       . have cp:decide (i<0)=true:=iq ag;have hr:=K.out;rw [if_pos (.inl ag)] at hr;rw [hr] at v;have o:=zh v;clear hr;go_wp2_with fail;go_ret2;exact ⟨_,_,by rw [<-o.out];rfl,O _ J B,λh9=>absurd h9 (by rw [<-o.out];decide)⟩
       . have cp:decide (i<0)=false:=ir ag;obtain ⟨q,rfl⟩:∃q:Nat,i=(q:Int):=⟨i.toNat,oo⟩;by_cases c9:n<=q
         . have hib:decide ((n:Int)<=(q:Int))=true:=iq oo;have cq:(q:Int)>=(n:Int):=oo;have hr:=K.out;rw [if_pos (.inr oo)] at hr;rw [hr] at v;have o:=zh v;clear hr;go_wp2_with fail;refine X.mono ?_;rintro e w5 ⟨rfl,g5⟩;have p:=zh g5;clear g5;go_wp2_with fail;go_ret2;exact ⟨_,_,by rw [<-o.out];rfl,(O _ J B).grew p,λh9=>absurd h9 (by rw [<-o.out];decide)⟩
         . have hib:decide ((n:Int)<=(q:Int))=false:=ir oo;have cq:¬(q:Int)>=(n:Int):=oo;have hr:=K.out;rw [if_neg oo,i9] at hr;rw [i9] at P Q;have bk:=zh (λ(w5:World) (hg:Grew wr w5)=>dy (Io J hg) y.1 (by rw [a2.out];exact cf.1) ce y.2 (bc.grew hg) q (by have:=ch.out;have:=a2.out;omega) oo);obtain ⟨⟨dd,ee⟩,b9⟩:∃r,Dl E q=r:=⟨_,rfl⟩;rw [b9] at bk hr P Q;have cr:=zh hr;clear hr b9 K;go_wp2_with fail;refine X.mono ?_;rintro e w5 ⟨rfl,g5⟩;have p:=zh g5;clear g5;go_wp2_with fail;refine (bk w5 p).mono ?_;rintro e w6 ⟨rfl,b1,al,an⟩;have cs:w1.heap.size<=gv/\w1.heap.size<=mm:=by obtain ⟨c0,F,hv⟩:=al;exact ⟨hv.lg,hv.lm⟩
           have Y:Hid (Turned (λq=>q=m\/w1.heap.size<=q) w1 w6):=zh ((B.out.trans (p.turned _)).trans (an.mono λk _ hk=>by rcases hk with hk | hk | hk;exact .inl hk;exact .inr oo;exact .inr oo));have bs:=zh b1;have ct:=zh al;have c5:=y.2
           have R:=zh ((I.grew p).kept an (λg hg e=>by
            have c6:=(I.own_ge hg).1
            obtain ⟨c0,F,hv⟩:=bc.grew p
            rcases e with e | e | e
            . omega
            . subst e;exact (I.grew p).ne_blk hv.blk qd hg
            . subst e;exact DP (I.grew p) hv.map hg))
           clear b1 al an cs;by_cases t:ee=0
           . subst t;have cu:=zh (P oo rfl);have cv:=Y.size;have Z:((EU E (l.take k)).map BP).length=k:=by simp [EU];omega
             go_wp2_with (at_builtin;refine Bh rfl _ _ 24 rfl w1.heap.size 9 1 16 (.string ⟨#[]⟩) Tryz.underlying24 Ow rfl qd (w6.alloc (.cells #[.string dd] 9)) u8 ((EU E (l.take k)).map BP) [.string dd] rfl (by first | rfl | (simp;done)) (R.alloc _) w6.heap.size (by first | rfl | (simp;done)) (ik _ _ _ rfl) rfl (by rw [Z];omega) (by rw [Z];omega) (by simp;omega) k Z ?_);intro g9 da w9 ap a _ _;rw [<-Q.out] at ap;have ad:Turned (λq=>q=m\/w1.heap.size<=q) w1 w9:=Y.out.trans (((jD _ w6).alloc _).trans ⟨a.os,a.tape,a.output,a.size,λk hk hn=>a.block k hk (λe9=>hn (.inr (R.own_ge e9.symm).1))⟩);have bt:StoreM w9 s m x sy ep:=(bs.store.grew ((iW w6).alloc (.cells #[.string dd] 9))).kept (S:=λq=>w1.heap.size<=q) ⟨a.os,a.tape,a.output,a.size,λk hk hn=>a.block k hk (λe9=>hn (R.own_ge e9.symm).1)⟩ (by have:=y.1.2;omega) oo;have bv:ViewM w9 w1.heap.size gv s mm E:=(ct.grew ((iW w6).alloc (.cells #[.string dd] 9))).row (R.alloc (.cells #[.string dd] 9)) qd qd a;have af:=zh ap;have cw:=zh ad;have cx:=zh (a6.up y.1 y.2 ad bt);have cy:=zh bv;clear ap a ad bt bv cv;go_wp2_with fail
             go_roundg (l.length - (k+1))
             case measure=>rw [cn.out];omega
             case rel=>exact ⟨k+1,oo,rfl,by go_num,cu,af,cy,cx,cw⟩
           . have c7:(ee != 0)=true:=by rw [jH];exact t
             have hr:=cr.out;rw [if_pos t] at hr;rw [hr] at v;have o:=zh v;have H0:=zh t;clear hr t;go_wp2_with fail;go_ret2;exact ⟨_,_,by rw [<-o.out];rfl,O _ bs Y,λh9=>absurd (o.out.trans h9) H0⟩
     . have bx:k=l.length:=oo;have w:Bq E n l=0:=by have:=V.out;rwa [bx,j1] at this
       have o:=zh (show (0:Int)=er/\EU E l=ss from ⟨by rw [<-v.out,w],by rw [<-cb.out,if_pos w]⟩);have af:=zh (show OwnL wr w1.heap.size 9 1 u8 (ss.map BP) from by have:=I.out;rw [bx,j1,o.out.2] at this;exact this);clear w;go_wp2_with fail;go_ret2;exact ⟨_,_,by rw [<-o.out.1];rfl,O _ J B,λ_=>af⟩
 . rw [if_pos (by simpa using h0)] at hr;injection hr with h1 h2;injection h2 with h2 h3;subst h1;subst h2;subst h3;have c8:(f != 0)=true:=by rw [jH];exact h0
   have H0:=zh h0;clear h hlen hp hE C h0;go_enter Tryz.func95,Tryz.ntmps95;go_wp2_with fail;refine HF.mono ?_;rintro e w1 ⟨rfl,hd⟩;have HD:=zh hd;clear hd;go_wp2_with fail;go_ret2;exact ⟨_,_,rfl,Done.back HH HD,λh9=>absurd h9 H0⟩
end

theorem Js (la lb:List ByteArray) (A B:Option Addr) (ca cb:Nat) (w:World) (hA:ListAt w w.heap.size 1 A (la.map λs=>[.string s])) (hB:ListAt w w.heap.size 1 B (lb.map λs=>[.string s])) (hl:la.length<=1000000) (j:lb.length<=1000000):
 Calls Tryz.prog 62 #[.slice A la.length ca,.slice B lb.length cb] w λe w'=>e=.returned (.bool (decide (la=lb)))/\Grew w w':=by
 have HA:=zh hA;have HB:=zh hB;clear hA hB;by_cases hn:la.length=lb.length
 . have g:((la.length:Int) != (lb.length:Int))=false:=by rw [hn];simp
   have HN:=zh hn;clear hn;go_enter Tryz.func62,Tryz.ntmps62;go_wp2_with fail
   go_loopg [13] la.length (λgk i' wr=>∃i:Nat,i<=la.length/\gk=la.length - i/\i'=.int .i64 i/\Grew w wr/\la.take i=lb.take i)
   case atStart=>exact ⟨0,oo,oo,rfl,iW _,by rw [take_zero,take_zero]⟩
   case round=>
    obtain ⟨i,hi,c,rfl,hg,ht⟩:=hrel;have h:=zh c;have HG:=zh hg;have HT:=zh ht;clear c hg ht;by_cases a:i<la.length
    . have b:i<lb.length:=by rw [<-HN.out];exact a
      have k:(i:Int)<(la.length:Int):=oo;have hib:(i:Int)<(lb.length:Int):=oo;obtain ⟨b1,o1,rfl,d,c1⟩:=U5 (AG HA HG) a;obtain ⟨b2,o2,rfl,f,c2⟩:=U5 (AG HB HG) b;obtain ⟨x,hx⟩:∃x,la[i]=x:=⟨_,rfl⟩;obtain ⟨y,hy⟩:∃y,lb[i]=y:=⟨_,rfl⟩;rw [hx] at c1;rw [hy] at c2;have HX:=zh hx;have HY:=zh hy;clear hx hy;by_cases he:x=y
      . subst he;go_wp2_with fail;refine AB [] (λw':World=>w'.cell? ⟨b1,o1+i,none⟩=some (.string x)/\b1<w'.heap.size/\w'.cell? ⟨b2,o2+i,none⟩=some (.string x)/\b2<w'.heap.size) qk ?_;have hS:=(show (λw':World=>w'.cell? ⟨b1,o1+i,none⟩=some (.string x)/\b1<w'.heap.size/\w'.cell? ⟨b2,o2+i,none⟩=some (.string x)/\b2<w'.heap.size) wr.drew from ⟨c1,d,c2,f⟩);refine tQ 0 16 ?_;refine tQ 1 17 ?_;refine tQ 2 18 ?_;refine tT 3 (some 19) hS ?_;refine tQ 4 20 ?_;refine tQ 5 21 ?_;refine tQ 6 22 ?_;refine tT 7 (some 23) hS ?_;refine tQ 8 24 ?_;refine AA qk ?_ _;go_wp2_with fail
        go_roundg (la.length - (i+1))
        case measure=>rw [h.out];omega
        case rel=>exact ⟨i+1,oo,oo,by go_num,HG.drew,by rw [ic a,ic b,HT.out,HX.out,HY.out]⟩
      . have l:(x.toList==y.toList)=false:=by rw [it];exact λh9=>he (IE h9)
        have HE:=zh (show la≠lb from λh9=>he (by rw [<-HX.out,<-HY.out];simp only [h9]));go_wp2_with fail;refine AB [] (λw':World=>w'.cell? ⟨b1,o1+i,none⟩=some (.string x)/\b1<w'.heap.size/\w'.cell? ⟨b2,o2+i,none⟩=some (.string y)/\b2<w'.heap.size) qk ?_;have hS:=(show (λw':World=>w'.cell? ⟨b1,o1+i,none⟩=some (.string x)/\b1<w'.heap.size/\w'.cell? ⟨b2,o2+i,none⟩=some (.string y)/\b2<w'.heap.size) wr.drew from ⟨c1,d,c2,f⟩);refine tQ 0 16 ?_;refine tQ 1 17 ?_;refine tQ 2 18 ?_;refine tT 3 (some 19) hS ?_;refine tQ 4 20 ?_;refine tQ 5 21 ?_;refine tQ 6 22 ?_;refine tT 7 (some 23) hS ?_;refine tQ 8 24 ?_;refine AA qk ?_ _;go_wp2_with fail;go_ret;exact ⟨by rw [ir HE.out];rfl,HG.drew⟩
    . obtain rfl:i=la.length:=oo
      have HE:Hid (la=lb):=zh (by
       have:=HT.out
       rw [i8 (iX _),i8 (by rw [HN.out];exact iX _)] at this
       exact this)
      go_wp2_with fail;go_ret;exact ⟨by rw [iq HE.out];rfl,HG⟩
 . have g:((la.length:Int) != (lb.length:Int))=true:=by rw [jH];omega
   have HE:=zh (show la≠lb from λh9=>hn (by rw [h9]));clear hn;go_enter Tryz.func62,Tryz.ntmps62;go_wp2_with fail;go_ret;exact ⟨by rw [ir HE.out];rfl,iW w⟩
def Gz (s:Nat) (n:Int) (sv:Value) (T:Tab) (tv:Value):Array Value:=#[ptrV s,.int .i64 n,sv,.string T.name,.int .i64 T.tracks,tv]
def JK (n:Nat):List Int:=(List.range n).map λi:Nat=>(i:Int)
theorem X6 (n:Nat):(JK n).length=n:=by simp [JK]
def JN (n i:Nat):List (List Value):=(List.range n).map λj:Nat=>[.int .i64 (if j<i then (j:Int) else 0)]
theorem T9 (n:Nat):JN n 0=List.replicate n [.int .i64 0]:=by
 unfold JN;apply kR
 . simp
 . intro i h1 h2;simp
theorem PL (n i j:Nat) (h:j<n):(JN n i)[j]? =some [.int .i64 (if j<i then (j:Int) else 0)]:=by
 unfold JN;rw [iZ,jk h];rfl
theorem Tf (n i:Nat) (h:i<n):(JN n i).set i [.int .i64 (i:Int)]=JN n (i+1):=by
 unfold JN;apply kR
 . simp
 . intro j h1 h2;rw [List.getElem_set];simp only [kQ,List.getElem_range];by_cases hj:i=j
   . subst hj;rw [if_pos rfl,if_pos oo]
   . rw [if_neg hj];by_cases h3:j<i
     . rw [if_pos h3,if_pos oo]
     . rw [if_neg h3,if_neg oo]
theorem Uj (n:Nat):JN n n=(JK n).map dC:=by
 unfold JN JK dC;rw [jt];apply jO;intro j hj;rw [if_pos (jB.1 hj)];rfl
theorem Kn (w:World) (v s:Nat) (n:Int) (k:Nat) (hk:ttS n=(k:Int)) (sv:Value) (T:Tab) (tv:Value) (h:Blk w v 108 (Gz s n sv T tv)):
 Calls Tryz.prog 137 #[ptrV v] w λe w'=>∃u,e=.returned u/\OwnL w' w.heap.size 3 1 u ((JK (8*k)).map dC)/\Grew w w':=by
 have hb:=EC n;have t:k<=32:=oo;have HT:=zh (CC n);rw [hk] at HT;unfold Gz at h;have q1:=h.cell 1;have ql:=h.lt;have HB:=zh h;obtain ⟨m,hm⟩:∃m:Nat,8*k=m:=⟨_,rfl⟩;have x:IntKind.i64.wrap ((k:Int)*8)=(m:Int):=by rw [jJ _ oo];omega
 have y:m<=256:=oo;rw [hm];have d:(Instr.makeSlice 135 (.int .i64 (m:Int)) (.int .i64 (m:Int))).run Tryz.prog w=.ok (.slice (some ⟨w.heap.size,0,none⟩) m m) (w.alloc (.cells (Array.replicate m (.int .i64 0)) 3)):=ET w m Tryz.underlying135 aJ rfl oo oo;have HO:=zh (OwnL.made w w.heap.size 3 m (.int .i64 0) (iX _) oo rfl);rw [<-T9] at HO;have HG:=zh ((iW w).alloc (.cells (Array.replicate m (.int .i64 0)) 3));clear h hb hk hm;go_enter Tryz.func137,Tryz.ntmps137;go_wp2_with fail;refine (HT w).mono ?_;rintro e w1 ⟨rfl,rfl⟩;go_wp2_with fail;clear d
 go_loopg [14] m (λgk i wr=>∃j:Nat,j<=m/\gk=m - j/\i=.int .i64 (j:Int)/\OwnL wr w.heap.size 3 1 (.slice (some ⟨w.heap.size,0,none⟩) m m) (JN m j)/\Grew w wr)
 case atStart=>exact ⟨0,oo,oo,rfl,HO,HG⟩
 case round=>
  obtain ⟨j,hj,c,rfl,a,hg⟩:=hrel;have f:=zh c;have g:=zh a;have l:=zh hg;clear c;by_cases b:j<m
  . have x0:=a.cell (j:=j) (i:=0) (PL m j j b) rfl;simp only [Nat.mul_one,jo] at x0;have xf:=a.frozen j;have xl:=(a.own_ge rfl).2;have q:=zh (a.set_ (o:=j) (PL m j j b) (by omega:0<1) oo (.int .i64 (j:Int)));have r:=zh (hg.setCell (p:=⟨w.heap.size,j,none⟩) (iX _) (.int .i64 (j:Int)));clear a hg;go_wp2_with fail
    go_roundg (m - (j+1))
    case measure=>rw [f.out];omega
    case rel=>exact ⟨j+1,oo,rfl,by go_num,by rw [<-Tf m j b];exact q.out,r⟩
  . obtain rfl:j=m:=oo;clear a hg;go_wp2_with fail;go_ret;exact ⟨_,rfl,by rw [<-Uj];exact g.out,l⟩

end
section
open Go.RowKit
theorem TabIn.mono {P Q:Nat->Prop} {A:Option Addr} {xs:List LabE} (h:TabIn P A xs) (hPQ:∀k,P k->Q k):TabIn Q A xs:=⟨λh0 b off e=>hPQ b (h.1 h0 b off e),λx hx h0 b off e=>hPQ b (h.2 x hx h0 b off e)⟩
theorem TabAt.stay {S P:Nat->Prop} {w w':World} {A:Option Addr} {c:Nat} {xs:List LabE} {T:Tab} (h:TabAt w A c xs T) (hi:TabIn P A xs) (ht:Turned S w w') (hS:∀k,P k->¬S k):TabAt w' A c xs T:=h.turned ht (λh0 b off e=>hS b (hi.1 h0 b off e)) (λx hx h0 b off e=>hS b (hi.2 x hx h0 b off e))
theorem GX {S:Nat->Prop} {w w':World} {sz:Nat} {A:Option Addr} {rows:List (List Value)} (h:ListAt w w.heap.size sz A rows) (ht:Turned S w w') (hS:0<rows.length->∀b off,A=some ⟨b,off,none⟩->¬S b):ListAt w' w'.heap.size sz A rows:=λh0=>by
 obtain ⟨b,off,e,hb,hc⟩:=h h0;refine ⟨b,off,e,ig hb ht.size,λj cs hj i v hi=>?_⟩;rw [ht.cellEq b _ hb (hS h0 b off e)];exact hc j cs hj i v hi
structure CacheM (w:World) (n:Int) (P:Nat->Prop) (sv:Value) (T:Tab) (tv:Value):Prop where
 ss:∃(A:Option Addr) (c:Nat) (ss:List ByteArray),sv=.slice A ss.length c/\ListAt w w.heap.size 1 A (ss.map λs=>[.string s])/\(0<ss.length->∀b off,A=some ⟨b,off,none⟩->P b)/\ss.length<=100000/\(ss=[]\/(SecOf ss T/\T.tracks=n))
 tt:∃(A:Option Addr) (c:Nat) (xs:List LabE),tv=.slice A T.labels.length c/\TabAt w A c xs T/\TabIn P A xs/\SmallT T
theorem CacheM.turned {S P Q:Nat->Prop} {w w':World} {n:Int} {sv tv:Value} {T:Tab} (h:CacheM w n P sv T tv) (ht:Turned S w w') (hS:∀k,P k->¬S k) (a:∀k,P k->Q k):CacheM w' n Q sv T tv:=by
 obtain ⟨⟨A,c,ss,h1,h2,h3,h4,h5⟩,⟨B,d,xs,g1,g2,g3,g4⟩⟩:=h;refine ⟨⟨A,c,ss,h1,GX h2 ht (λh0 b off e=>hS b (h3 (by simpa using h0) b off e)),λh0 b off e=>a b (h3 h0 b off e),h4,h5⟩,⟨B,d,xs,g1,g2.stay g3 ht hS,g3.mono a,g4⟩⟩
theorem CacheM.empty (w:World) (n:Int) (P:Nat->Prop):CacheM w n P (.slice none 0 0) C2 (.slice none 0 0):=
 ⟨⟨none,0,[],rfl,λh=>absurd h qs,λh=>absurd h qs,qs,.inl rfl⟩,⟨none,0,[],rfl,TabAt.zero w,⟨λh=>absurd h qs,λx hx=>by cases hx⟩,⟨qd,by intro l hl;cases hl⟩⟩⟩
def VolM (w:World) (v s:Nat) (n:Int) (P:Nat->Prop):Prop:=∃sv T tv,Blk w v 108 (Gz s n sv T tv)/\CacheM w n P sv T tv
theorem VolM.turned {S P Q:Nat->Prop} {w w':World} {v s:Nat} {n:Int} (h:VolM w v s n P) (ht:Turned S w w') (hv:¬S v) (hS:∀k,P k->¬S k) (a:∀k,P k->Q k):VolM w' v s n Q:=by
 obtain ⟨sv,T,tv,hb,hc⟩:=h;exact ⟨sv,T,tv,hb.turned ht hv,hc.turned ht hS a⟩
def Far (w0:World) (out:Nat->Prop) (m v:Nat) (k:Nat):Prop:=(k<w0.heap.size\/out k)/\k≠m/\k≠v
def VSet (w0:World) (out:Nat->Prop) (m v:Nat) (k:Nat):Prop:=(w0.heap.size<=k/\¬out k)\/k=m\/k=v
theorem Far.not {w0:World} {out:Nat->Prop} {m v k:Nat} (h:Far w0 out m v k):¬VSet w0 out m v k:=by
 rintro (h9 | h9 | h9)
 . rcases h.1 with h8 | h8
   . omega
   . exact h9.2 h8
 . exact h.2.1 h9
 . exact h.2.2 h9
structure VHeld (w0:World) (x s m v:Nat) (n:Int) (sy ep:Int) (D:Dev) (out:Nat->Prop) (W:World):Prop where
 held:Held w0 x s m sy ep D out W
 ov:out v
 v0:w0.heap.size<=v
 vol:VolM W v s n (Far w0 out m v)
theorem VHeld.grew {w0:World} {x s m v:Nat} {n sy ep:Int} {D:Dev} {out:Nat->Prop} {W W':World} (h:VHeld w0 x s m v n sy ep D out W) (hg:Grew W W'):VHeld w0 x s m v n sy ep D out W':=
 ⟨h.held.grew hg,h.ov,h.v0,h.vol.turned (hg.turned (λ_=>False)) id (λ_ _=>id) (λ_=>id)⟩
theorem VHeld.vm {w0:World} {x s m v:Nat} {n sy ep:Int} {D:Dev} {out:Nat->Prop} {W:World} (h:VHeld w0 x s m v n sy ep D out W):v≠m:=by
 obtain ⟨sv,T,tv,hb,_⟩:=h.vol;obtain ⟨F,hF,_⟩:=h.held.store.seen;exact Ch hb hF
theorem Live.turnS {w0 ws ws':World} {x:Nat} {D:Dev} {out S:Nat->Prop} (h:Live w0 x D out ws) (ht:Turned S ws ws') (hS:∀k,k<ws.heap.size->S k->out k/\w0.heap.size<=k):Live w0 x D out ws':=by
 obtain ⟨q,hx,hd,b,hf,hn⟩:=h;have a:Turned (λk=>S k/\k<ws.heap.size) ws ws':=ht.mono λk hk h=>⟨h,hk⟩;exact ⟨q,hx,hd.kept a (λk hk h=>(hn k (hS k h.2 h.1).1).2 hk),b.turn a (λk hk=>(hS k hk.2 hk.1).2),hf,λk hk=>⟨ig (hn k hk).1 ht.size,(hn k hk).2⟩⟩
theorem Held.turnS {w0:World} {x s m:Nat} {sy ep:Int} {D:Dev} {out S:Nat->Prop} {W W':World} (h:Held w0 x s m sy ep D out W) (ht:Turned S W W') (hS:∀k,k<W.heap.size->S k->out k/\w0.heap.size<=k) (hs:¬S s) (hm:¬S m):Held w0 x s m sy ep D out W':=
 ⟨h.live.turnS ht hS,h.store.kept ht hs hm,h.os,h.om,h.m0⟩
theorem I3 {w:World} {sz:Nat} {A:Option Addr} {rows:List (List Value)} (h:ListAt w w.heap.size sz A rows) (h0:0<rows.length):∀b off,A=some ⟨b,off,none⟩->b<w.heap.size:=λb off e=>by
 obtain ⟨b',off',e',hb',_⟩:=h h0;rw [e] at e';injection e' with e';injection e' with e';omega
theorem TabAt.lt {w:World} {A:Option Addr} {c:Nat} {xs:List LabE} {T:Tab} (h:TabAt w A c xs T) {P:Nat->Prop} (hi:TabIn P A xs):TabIn (λk=>P k/\k<w.heap.size) A xs:=
 ⟨λh0 b off e=>⟨hi.1 h0 b off e,I3 h.rows (by rw [iY];exact h0) b off e⟩,λx hx h0 b off e=>⟨hi.2 x hx h0 b off e,I3 (h.lab x hx).runs.2 (by rw [iY];exact h0) b off e⟩⟩
theorem CacheM.low {w:World} {n:Int} {P:Nat->Prop} {sv tv:Value} {T:Tab} (h:CacheM w n P sv T tv):CacheM w n (λk=>P k/\k<w.heap.size) sv T tv:=by
 obtain ⟨⟨A,c,ss,h1,h2,h3,h4,h5⟩,⟨B,d,xs,g1,g2,g3,g4⟩⟩:=h;exact ⟨⟨A,c,ss,h1,h2,λh0 b off e=>⟨h3 h0 b off e,I3 h2 (by rw [iY];exact h0) b off e⟩,h4,h5⟩,⟨B,d,xs,g1,g2,g2.lt g3,g4⟩⟩
theorem VolM.low {w:World} {v s:Nat} {n:Int} {P:Nat->Prop} (h:VolM w v s n P):VolM w v s n (λk=>P k/\k<w.heap.size):=by
 obtain ⟨sv,T,tv,hb,hc⟩:=h;exact ⟨sv,T,tv,hb,hc.low⟩
theorem VolM.lt {w:World} {v s:Nat} {n:Int} {P:Nat->Prop} (h:VolM w v s n P):v<w.heap.size:=by
 obtain ⟨sv,T,tv,hb,hc⟩:=h;exact hb.lt
theorem VolM.mono {w:World} {v s:Nat} {n:Int} {P Q:Nat->Prop} (h:VolM w v s n P) (hPQ:∀k,P k->Q k):VolM w v s n Q:=h.turned (jD (λ_=>False) w) id (λ_ _=>id) hPQ
structure VDid (w0:World) (x s m v:Nat) (n:Int) (sy ep:Int) (D':Dev) (out:Nat->Prop) (W:World) (out':Nat->Prop) (w':World):Prop where
 sub:∀k,out k->out' k
 held:VHeld w0 x s m v n sy ep D' out' w'
 turned:Turned (VSet w0 out m v) W w'
 fresh:∀P:Nat->Prop,(∀k,P k->Far w0 out m v k)->VolM W v s n P->VolM w' v s n (λk=>(P k\/W.heap.size<=k)/\Far w0 out' m v k)
theorem VSet.mono {w0:World} {out out':Nat->Prop} {m v k:Nat} (hs:∀k,out k->out' k) (h:VSet w0 out' m v k):VSet w0 out m v k:=h.imp (λh9=>⟨h9.1,λh8=>h9.2 (hs k h8)⟩) id
theorem Far.mono {w0:World} {out out':Nat->Prop} {m v k:Nat} (hs:∀k,out k->out' k) (h:Far w0 out m v k):Far w0 out' m v k:=⟨h.1.imp id (hs k),h.2⟩
theorem VDid.refl {w0:World} {x s m v:Nat} {n sy ep:Int} {D:Dev} {out:Nat->Prop} {W:World} (h:VHeld w0 x s m v n sy ep D out W):VDid w0 x s m v n sy ep D out W out W:=⟨λ_=>id,h,jD _ W,λP hP hv=>hv.mono λk hk=>⟨.inl hk,hP k hk⟩⟩
theorem VDid.trans {w0:World} {x s m v:Nat} {n sy ep:Int} {D1 D2:Dev} {out o1 o2:Nat->Prop} {W w1 w2:World} (h:VDid w0 x s m v n sy ep D1 out W o1 w1) (k:VDid w0 x s m v n sy ep D2 o1 w1 o2 w2):VDid w0 x s m v n sy ep D2 out W o2 w2:=
 ⟨λq hq=>k.sub q (h.sub q hq),k.held,h.turned.trans (k.turned.mono λ_ _ hk=>VSet.mono h.sub hk),λP hP hv=>(k.fresh _ (λq hq=>hq.2) (h.fresh P hP hv)).mono λq hq=>⟨hq.1.elim (λh9=>h9.1) (λh9=>.inr (ij h.turned.size h9)),hq.2⟩⟩
theorem VDid.grew {w0:World} {x s m v:Nat} {n sy ep:Int} {D1:Dev} {out o1:Nat->Prop} {W w1 w2:World} (h:VDid w0 x s m v n sy ep D1 out W o1 w1) (hg:Grew w1 w2):VDid w0 x s m v n sy ep D1 out W o1 w2:=
 ⟨h.sub,h.held.grew hg,h.turned.trans (hg.turned _),λP hP hv=>(h.fresh P hP hv).turned (hg.turned (λ_=>False)) id (λ_ _=>id) (λ_=>id)⟩
theorem VHeld.more {w0:World} {x s m v:Nat} {n sy ep:Int} {D:Dev} {out:Nat->Prop} {W W':World} (h:VHeld w0 x s m v n sy ep D out W) (hg:Grew W W'):VHeld w0 x s m v n sy ep D (λk=>out k\/(W.heap.size<=k/\k<W'.heap.size)) W':=
 ⟨⟨h.held.live.more hg,h.held.store.grew hg,.inl h.held.os,.inl h.held.om,h.held.m0⟩,.inl h.ov,h.v0,h.vol.turned (hg.turned (λ_=>False)) id (λ_ _=>id) (λ_ hk=>hk.mono λ_=>.inl)⟩
theorem VDid.more {w0:World} {x s m v:Nat} {n sy ep:Int} {D1:Dev} {out o1:Nat->Prop} {W w1 w2:World} (h:VDid w0 x s m v n sy ep D1 out W o1 w1) (hg:Grew w1 w2):VDid w0 x s m v n sy ep D1 out W (λk=>o1 k\/(w1.heap.size<=k/\k<w2.heap.size)) w2:=
 ⟨λk hk=>.inl (h.sub k hk),h.held.more hg,h.turned.trans (hg.turned _),λP hP hv=>(h.fresh P hP hv).turned (hg.turned (λ_=>False)) id (λ_ _=>id) (λ_ hk=>⟨hk.1,hk.2.mono λ_=>.inl⟩)⟩
theorem VHeld.step {w0:World} {x s m v:Nat} {n sy ep:Int} {D D':Dev} {out out':Nat->Prop} {W w':World} (h:VHeld w0 x s m v n sy ep D out W) (hs:∀k,out k->out' k) (hh:Held w0 x s m sy ep D' out' w') (ht:Turned (λk=>(w0.heap.size<=k/\¬out k)\/k=m) W w'):VDid w0 x s m v n sy ep D' out W out' w':=by
 have a:=h.vm;have hv:¬((w0.heap.size<=v/\¬out v)\/v=m):=λh9=>h9.elim (λh8=>h8.2 h.ov) a;have hF:∀k,Far w0 out m v k->¬((w0.heap.size<=k/\¬out k)\/k=m):=λk hk h9=>hk.not (h9.imp id .inl);exact ⟨hs,⟨hh,hs _ h.ov,h.v0,h.vol.turned ht hv hF (λk hk=>hk.mono hs)⟩,ht.mono λk _ hk=>hk.imp id .inl,λP hP hw=>hw.turned ht hv (λk hk=>hF k (hP k hk)) (λk hk=>⟨.inl hk,(hP k hk).mono hs⟩)⟩
theorem VHeld.back {w0:World} {x s m v:Nat} {n sy ep:Int} {D D':Dev} {out:Nat->Prop} {W:World} {lo:Nat} {w':World} (h:VHeld w0 x s m v n sy ep D out W) (hb:Back w0 x s m sy ep D' out W lo w'):VDid w0 x s m v n sy ep D' out W (up out lo w') w':=h.step (λk=>.inl) hb.held hb.turned
theorem VHeld.done {w0:World} {x s m v:Nat} {n sy ep:Int} {D D':Dev} {out:Nat->Prop} {W w':World} (h:VHeld w0 x s m v n sy ep D out W) (hd:Done w0 x s m sy ep D' out W w'):VDid w0 x s m v n sy ep D' out W out w':=h.step (λk=>id) (h.held.done hd) hd.turned
theorem VDid.local_ {w0:World} {x s m v:Nat} {n sy ep:Int} {D D1:Dev} {out o1:Nat->Prop} {W0 W w1 w2:World} {g:Nat} (h0:VHeld w0 x s m v n sy ep D out W0) (a:Grew W0 W) (h:VDid w0 x s m v n sy ep D1 (λk=>out k\/(W0.heap.size<=k/\k<W.heap.size)) W o1 w1)
 (hg:W0.heap.size<=g/\g<W.heap.size) (ht:Turned (λk=>k=g) w1 w2):VDid w0 x s m v n sy ep D1 out W0 o1 w2:=by
 have c:=h0.held.store.lt;have d:=h0.vol.lt;have f:=h0.held.live.base.size
 have b:∀P:Nat->Prop,(∀k,P k->Far w0 out m v k)->VolM W0 v s n P->VolM w2 v s n (λk=>(P k\/W0.heap.size<=k)/\Far w0 o1 m v k):=λP hP hv=>by
  have h1:=h.fresh (λk=>P k/\k<W0.heap.size) (λk hk=>(hP k hk.1).mono λ_=>.inl) (hv.low.turned (a.turned (λ_=>False)) id (λ_ _=>id) (λ_=>id));refine h1.turned ht oo (λk hk e=>?_) (λk hk=>⟨hk.1.imp (λh9=>h9.1) (λh9=>ij a.size h9),hk.2⟩);subst e;rcases hk.1 with h9 | h9
  . omega
  . omega
 refine ⟨λk hk=>h.sub k (.inl hk),⟨h.held.held.turnS ht (λk _ e=>by subst e;exact ⟨h.sub _ (.inr hg),oo⟩) oo oo,h.held.ov,h.held.v0,(b _ (λ_=>id) h0.vol).mono λk hk=>hk.2⟩,?_,b⟩;have h2:Turned (VSet w0 out m v) W0 w1:=(a.turned _).trans (h.turned.mono λk _ hk=>VSet.mono (λ_=>.inl) hk);exact h2.next ht (λi hi e=>oo)
open Classical in
noncomputable def Nq (ss:List ByteArray):Option Tab:=if h:∃T,SecOf ss T then some h.choose else none
theorem Mc {ss:List ByteArray} {T:Tab} (h:SecOf ss T):Nq ss=some T:=by
 have hx:∃T,SecOf ss T:=⟨T,h⟩;unfold Nq;rw [dif_pos hx];exact ix some (hx.choose_spec.unique h)
theorem UT {ss:List ByteArray} (h:∀T,¬SecOf ss T):Nq ss=none:=by
 unfold Nq;exact dif_neg (λ⟨T,hT⟩=>h T hT)
theorem YW {ss:List ByteArray} {T:Tab} (h:Nq ss=some T):SecOf ss T:=by
 unfold Nq at h;split at h
 . rename_i hx;injection h with h;rw [<-h];exact hx.choose_spec
 . cases h
def tsI (n:Int):List Int:=JK (8*(ttS n).toNat)
noncomputable def asT (n:Int) (r:List ByteArray × Int):Tab × Int:=
 if r.2≠0 then (C2,r.2) else match Nq r.1 with
  | some T=>if T.tracks=n then (T,0) else (C2,11)
  | none=>(C2,11)
noncomputable def Dd (D:Dev) (sy ep n:Int):Dev × Tab × Int:=((DN D sy ep (tsI n)).1,asT n (DN D sy ep (tsI n)).2)
theorem eN {n:Int} {ss:List ByteArray} {er:Int} (h:er≠0):asT n (ss,er)=(C2,er):=by unfold asT;rw [if_pos h]
theorem UK {n:Int} {ss:List ByteArray} {T:Tab} (h:SecOf ss T) (ht:T.tracks=n):asT n (ss,0)=(T,0):=by
 unfold asT;rw [if_neg qs,Mc h];exact if_pos ht
theorem WC {n:Int} {ss:List ByteArray} {T:Tab} (h:SecOf ss T) (ht:T.tracks≠n):asT n (ss,0)=(C2,11):=by
 unfold asT;rw [if_neg qs,Mc h];exact if_neg ht
theorem bh {n:Int} {ss:List ByteArray} (h:∀T,¬SecOf ss T):asT n (ss,0)=(C2,11):=by
 unfold asT;rw [if_neg qs,UT h]
theorem cF (t:ByteArray) (i:Int):(AN t i).data.size<=128:=by
 unfold AN;split
 . show (t.extract 0 128).size<=_;rw [i0];omega
 . show 0<=128;omega
theorem Xv (E:Dev) (i:Nat):(Dl E i).1.size<=128:=by
 unfold Dl;split
 . exact jL _
 split
 . exact jL _
 split
 . exact jL _
 split
 . exact jL _
 split
 . exact jL _
 . exact cF _ _
theorem Us (D:Dev) (sy ep:Int) (l:List Int):∀s∈(DN D sy ep l).2.1,s.size<=128:=by
 intro s hs;unfold DN at hs;split at hs
 . cases hs
 . simp only at hs;split at hs
   . unfold EU at hs;obtain ⟨i,_,rfl⟩:=ie.1 hs;exact Xv _ _
   . cases hs
theorem XL (D:Dev) (sy ep:Int) (l:List Int) (h:(DN D sy ep l).2.2=0):(DN D sy ep l).2.1.length=l.length:=by
 unfold DN at h ⊢;split at h
 . rename_i h1;exact absurd h h1
 . rename_i h1;rw [if_neg h1];simp only at h ⊢;rw [if_pos h];unfold EU;rw [iY]
theorem QT (n:Int):(tsI n).length=8*(ttS n).toNat:=by unfold tsI;rw [X6]
theorem fJ (n:Int):∀i∈tsI n,okI i:=by
 have:=EC n;intro i hi;unfold tsI JK at hi;obtain ⟨j,hj,rfl⟩:=ie.1 hi;have:=jB.1 hj;unfold okI;omega

end
section
attribute [local go_sem ↓] Go.wp_at_zero Go.wp_at_succ
open Go.RowKit
def gU (w0:World) (x s m v:Nat) (n sy ep:Int) (D':Dev) (out:Nat->Prop) (W:World) (T:Tab) (er:Int) (e:Ending) (w':World):Prop:=
 ∃out' A c ys,e=.returned (.tuple #[.agg #[.string T.name,.int .i64 T.tracks,.slice A T.labels.length c],.int .i64 er])/\VDid w0 x s m v n sy ep D' out W out' w'/\TabAt w' A c ys T/\TabIn (λk=>W.heap.size<=k/\out' k) A ys/\SmallT T
theorem dv {w0:World} {x s m v:Nat} {n sy ep:Int} {D:Dev} {out:Nat->Prop} {W W':World} (h:VHeld w0 x s m v n sy ep D out W) (ht:Turned (λk=>k=v) W W') (hv:VolM W' v s n (Far w0 out m v)):VHeld w0 x s m v n sy ep D out W':=
 ⟨⟨h.held.live.turn1 h.ov h.v0 ht,h.held.store.kept ht (λe=>by
  obtain ⟨sv,T,tv,hb,_⟩:=h.vol
  exact Blk.ne_ (h.held.store.blk) hb qd e) (λe=>h.vm e.symm),h.held.os,h.held.om,h.held.m0⟩,h.ov,h.v0,hv⟩
theorem VDid.refresh {w0:World} {x s m v:Nat} {n sy ep:Int} {D1:Dev} {out o1:Nat->Prop} {W w1 w2:World} (h:VDid w0 x s m v n sy ep D1 out W o1 w1) (ht:Turned (λk=>k=v) w1 w2) (hv:VolM w2 v s n (λk=>W.heap.size<=k/\Far w0 o1 m v k)):VDid w0 x s m v n sy ep D1 out W o1 w2:=
 ⟨h.sub,dv h.held ht (hv.mono λk hk=>hk.2),h.turned.trans (ht.mono λk _ e=>.inr (.inr e)),λP hP hw=>hv.mono λk hk=>⟨.inr hk.1,hk.2⟩⟩
theorem K6 {w:World} {b v:Nat} {o:Nat} {u:Value} (h:b≠v):∀i,(w.setCell ⟨v,o,none⟩ u).cell? ⟨b,i,none⟩=w.cell? ⟨b,i,none⟩:=λi=>World.cell?_of_block (Below.heap_setCell w ⟨v,o,none⟩ u b h)
section
variable {w0:World} {x s m v:Nat} {n sy ep:Int} {D:Dev} {out:Nat->Prop} {W:World} (h:VHeld w0 x s m v n sy ep D out W) (hlen:132<=D.st.length/\D.st.length<=1155) (hp:D.pend.length<=980000) (hn:okT n=true)
include h hlen hp hn
theorem Jb (D':Dev) (T:Tab) (er:Int) (hr:Dd D sy ep n=(D',T,er)):Calls Tryz.prog 82 #[ptrV v] W (gU w0 x s m v n sy ep D' out W T er):=by
 obtain ⟨ko,kp⟩:=Ck hn;obtain ⟨q,hq,gs⟩:∃q:Nat,ttS n=(q:Int)/\0<q:=⟨(ttS n).toNat,by unfold ttS;rw [if_pos hn];omega,by unfold ttS;rw [if_pos hn];omega⟩;have eb:=EC n;have ee:tsI n=JK (8*q):=by unfold tsI;rw [hq,i9]
 obtain ⟨⟨E,ss,f⟩,hE⟩:∃r,DN D sy ep (tsI n)=r:=⟨_,rfl⟩;have bc:=Us D sy ep (tsI n);have av:=XL D sy ep (tsI n);rw [hE] at bc av;simp only at bc av;unfold Dd at hr;rw [hE] at hr;injection hr with h1 hr;simp only at h1 hr;subst h1;have bf:=QT n;rw [hq,i9] at bf;rw [bf] at av;have eg:=zh (λ(w1:World) (o1:Nat->Prop) (h1:Held w0 x s m sy ep D o1 w1) (A:Option Addr) (c:Nat) (hl:ListAt w1 w1.heap.size 1 A ((tsI n).map dC)) (hA:tsI n≠[]->Et w0 o1 A)=>L0 h1 hlen hp (tsI n) (fJ n) (by rw [bf];omega) A c hl hA E ss f hE);have cl:=zh (ik W 95 #[.string ⟨#[]⟩,.int .i64 0,.slice none 0 0] rfl);have bk:Grew W (W.alloc (.cells #[.string ⟨#[]⟩,.int .i64 0,.slice none 0 0] 95)):=(iW W).alloc _;have HH:=zh h;have cn:=zh (h.more bk);have aw:=zh bk;have eh:m<W.heap.size:=h.held.store.lt.2;have ej:v<W.heap.size:=h.vol.lt;have co:W.heap.size<(W.alloc (.cells #[.string ⟨#[]⟩,.int .i64 0,.slice none 0 0] 95)).heap.size:=qs;obtain ⟨sv,TC,tv,G,d6⟩:=h.vol.turned (bk.turned (λ_=>False)) id (λ_ _=>id) (λ_=>id);have bl:=zh (Kn (W.alloc (.cells #[.string ⟨#[]⟩,.int .i64 0,.slice none 0 0] 95)).drew v s n q hq sv TC tv G.drew);rw [<-ee] at bl;unfold Gz at G;have v0:=G.cell 0;have vl:=G.lt;have ek:=zh bc;have U:=zh av;have HR:=zh hr;have HQ:=zh gs;have he:=zh (show q<=32 from oo);clear h hlen hp hr hE bc av bk G d6 ee eb hq hn bf gs;go_enter Tryz.func82,Tryz.ntmps82;go_wp2_with fail;obtain ⟨W1,gu⟩:∃W1,W1=W.alloc (.cells #[.string ⟨#[]⟩,.int .i64 0,.slice none 0 0] 95):=⟨_,rfl⟩;rw [<-gu] at cl cn aw bl v0 vl co ⊢;have t:=zh (show (m<W.heap.size/\v<W.heap.size)/\W.heap.size<W1.heap.size from ⟨⟨eh,ej⟩,co⟩);clear gu eh ej co;refine AB [6] (λw':World=>w'.cell? ⟨v,0,none⟩=some (ptrV s)/\v<w'.heap.size) qk ?_;have hS:=(show (λw':World=>w'.cell? ⟨v,0,none⟩=some (ptrV s)/\v<w'.heap.size) W1.drew from ⟨v0,vl⟩);refine tQ 0 11 ?_;refine tT 1 (some 12) hS ?_;refine tQ 2 13 ?_;refine tT 3 (some 14) hS ?_;refine tQ 4 15 ?_;refine tO 5 λK' hK=>?_;go_wp2_with fail;refine bl.mono ?_;rintro e w2 ⟨u,rfl,P,g2⟩;have cr:Grew W1 w2:=(iW W1).drew.trans g2;obtain ⟨Au,cu,hu,_,_,af⟩:=P.listAt;rw [iY] at hu;subst hu;have a0:=zh ((VDid.refl cn).more cr)
 have em:tsI n≠[]->Et w0 (λk=>(out k\/(W.heap.size<=k/\k<W1.heap.size))\/(W1.heap.size<=k/\k<w2.heap.size)) Au:=λ_ b off e=>.inr (.inr (by
  have:=P.own_ge (g:=b) (by rw [e];rfl)
  exact this))
 have es:=zh (eg w2 _ a0.held.held Au cu af em);have et:=zh (cl.grew cr);have eu:=zh (λ(hS:W1.drew.cell? ⟨v,0,none⟩=some (ptrV s)/\v<W1.drew.heap.size)=>(show w2.cell? ⟨v,0,none⟩=some (ptrV s)/\v<w2.heap.size from ⟨CQ g2 hS.1,ig hS.2 g2.size⟩));clear P af em g2 cr;go_wp2_with fail;refine hK.out _ _ (.inr eu) ?_;clear hK hS;refine tO 6 λK' hK=>?_;go_wp2_with fail;refine es.mono ?_;rintro e w3 ⟨vs,lo,rfl,ch,bt⟩;have K:=zh (a0.out.trans (a0.held.back ch));have z:=zh (et.turned ch.turned (λh9=>h9.elim (λh8=>h8.2 (.inl (.inr ⟨iX _,t.2⟩))) (λh8=>by have:=t.1.1;omega)));have ex:=zh bt;have cs:=zh (show W1.heap.size<=lo from ij a0.turned.size ch.lo0);have ct:=zh (λb (hb:lo<=b/\b<w3.heap.size)=>(show up (λk=>(out k\/(W.heap.size<=k/\k<W1.heap.size))\/(W1.heap.size<=k/\k<w2.heap.size)) lo w3 b from .inr hb));obtain ⟨o3,gv⟩:∃o3,o3=up (λk=>(out k\/(W.heap.size<=k/\k<W1.heap.size))\/(W1.heap.size<=k/\k<w2.heap.size)) lo w3:=⟨_,rfl⟩;rw [<-gv] at K ct;clear ch bt gv;go_wp2_with fail;refine hK.out _ _ (.inl (by rfl)) ?_;clear hK;refine tQ 7 10 ?_;refine tQ 8 18 ?_;refine tQ 9 19 ?_;refine tQ 10 4 ?_;refine tQ 11 5 ?_;refine AA qk ?_ _;clear v0 vl eg bl es eu et a0 cl cn;by_cases hf:f=0;rotate_left
 . have hr:=HR.out;rw [eN hf] at hr;injection hr with h1 h2;subst h1;subst h2;have bs:(f != 0)=true:=by rw [jH];exact hf
   have z0:=z.cell 0;have z1:=z.cell 1;have z2:=z.cell 2;have f0:=z.frozen 0;have f1:=z.frozen 1;have f2:=z.frozen 2;have zl:=z.out.lt;clear hf;go_wp2_with fail;refine im (by first | (simp [*,results,Tryz.results82,go_sem];rfl) | simp [*,results,Tryz.results82,go_sem]) rfl ?_;exact ⟨o3,none,0,[],rfl,VDid.local_ HH aw K ⟨iX _,t.2⟩ (gT),TabAt.zero _,TabIn.nil _,Cj⟩
 subst hf;have cv:=ex.out rfl;obtain ⟨A3,c3,gx,_,_,d7⟩:=cv.listAt;rw [iY] at gx;subst gx;have cw:=zh d7;have cx:=zh (show 0<ss.length->∀b off,A3=some ⟨b,off,none⟩->lo<=b/\b<w3.heap.size from λ_ b off e=>cv.own_ge (by rw [e];rfl));have bt:=U.out rfl;have hh:=he.out;have hi:=HQ.out;have cy:=zh (show 0<ss.length/\ss.length<=1000 from oo);obtain ⟨sv,TC,tv,G,d6⟩:=K.held.vol;obtain ⟨⟨A1,c1,s1,rfl,gz,kd,kq,g0⟩,⟨Az,cz,xz,rfl,g1,ke,al⟩⟩:=d6;have c0:=zh G;unfold Gz at G;have x2:=G.cell 2;have vl:=G.lt;have e0:=zh (Js ss s1 A3 A1 c3 c1 w3 d7 gz oo oo);have c2:=zh g0;have c5:=zh g1;have c6:=zh al;clear cv d7 gz kd g0 g1 ke al G ex U bt hh hi;go_wp2_with fail;refine e0.mono ?_;rintro e w4 ⟨rfl,g4⟩;clear x2 vl e0;by_cases ag:ss=s1
 case' pos=>
  have hd:decide (ss=s1)=true:=iq ag;rw [hd]
  have I:SecOf ss TC/\TC.tracks=n:=by
   rcases c2.out with h9 | h9
   . have:=cy.1;rw [ag,h9] at this;exact absurd this qs
   . rw [ag];exact h9
  have hr:=HR.out;rw [UK I.1 I.2] at hr;injection hr with h1 h2;obtain rfl:T=TC:=h1.symm;subst h2;obtain ⟨wz,Q⟩:∃wz,wz=w4:=⟨_,rfl⟩;rw [<-Q] at g4 ⊢;obtain ⟨oz,an⟩:∃oz,oz=o3:=⟨_,rfl⟩;have bv:=zh (K.grew g4);rw [<-an] at bv;have e3:=zh (z.grew g4);have HP:=zh (show ∃(A:Option Addr) (c:Nat) (xs:List LabE) (sv:Value),Blk wz v 108 (Gz s n sv T (.slice A T.labels.length c))/\TabAt wz A c xs T/\SmallT T from ⟨Az,cz,xz,_,c0.grew g4,c5.hold g4,c6.out⟩);clear hd I ag Q an g4 c0 c5 c6 c2 HR K z cw cx ct cs ek
 case' neg=>
  have hd:decide (ss=s1)=false:=ir ag;rw [hd];have hm:=cy.2;have e4:=zh (bm A3 c3 ss w4 (AG cw g4) oo (λx hx=>by have:=ek.out x hx;omega));have a5:=zh g4;clear hd ag g4 hm c5 c6 c2;go_wp2_with fail;refine e4.mono ?_;rintro e w5 ⟨AL,cL,xL,TL,eL,rfl,bb,gr,d5,Y,g5⟩;have V:=zh (a5.out.trans g5);have bx:=zh (K.more V);obtain ⟨oz,an⟩:∃oz,oz=λk=>o3 k\/(w3.heap.size<=k/\k<w5.heap.size):=⟨_,rfl⟩;have e5:=zh (show (∀k,o3 k->oz k)/\∀k,w3.heap.size<=k->k<w5.heap.size->oz k from by rw [an];exact ⟨λk=>.inl,λk h1 h2=>.inr ⟨h1,h2⟩⟩);rw [<-an] at bx;obtain ⟨W6,N⟩:∃W6,W6=w5.alloc (.cells #[.string TL.name,.int .i64 TL.tracks,.slice AL TL.labels.length cL] 95):=⟨_,rfl⟩;have g6:Grew w5 W6:=by rw [N];exact (iW w5).alloc _
  have L:Blk W6 w5.heap.size 95 #[.string TL.name,.int .i64 TL.tracks,.slice AL TL.labels.length cL]:=by rw [N];exact ik w5 _ _ rfl
  have ho:=zh L;have c7:=zh g6;have hs:=zh (d5.hold g6);have ht:=zh (d5.lt Y);have U:=zh gr;have b2:=zh (V.out.trans g6);clear an d5 Y gr g5 g6 e4;by_cases cf:eL=0;rotate_left
  . have hr:=HR.out;rw [bh (bb.resolve_left (λh9=>cf h9.2)).1] at hr;injection hr with h1 h2;subst h1;subst h2;have bs:(eL != 0)=true:=by rw [jH];exact cf
    clear cf bb;go_wp2_with fail;rw [<-N];clear N;refine AB [] (λw':World=>True) qk ?_;have hS:=trivial;refine tQ 0 36 ?_;refine tQ 1 37 ?_;refine tQ 2 38 ?_;refine tU 3 (some 39) ?_;refine tU 4 (some 40) ?_;refine tU 5 (some 41) ?_;refine tU 6 (some 42) ?_;refine tU 7 (some 43) ?_;refine tU 8 (some 44) ?_;refine tU 9 (some 45) ?_;refine tQ 10 46 ?_;refine AA qk ?_ _;have H:=zh (c7.drew);have J:=zh (z.grew b2.drew);obtain ⟨W7,w⟩:∃W7,W7=W6.drew:=⟨_,rfl⟩;rw [<-w] at H J ⊢;clear w;have a:Blk W7 W.heap.size 95 #[.string ⟨#[]⟩,.int .i64 0,.slice none 0 0]:=J.out;have c8:=zh (bx.grew H);have z0:=a.cell 0;have z1:=a.cell 1;have z2:=a.cell 2;have f0:=a.frozen 0;have f1:=a.frozen 1;have f2:=a.frozen 2;have zl:=a.lt;clear a L;go_wp2_with fail;refine im (by first | (simp [*,results,Tryz.results82,go_sem];rfl) | simp [*,results,Tryz.results82,go_sem]) rfl ?_;exact ⟨oz,none,0,[],rfl,VDid.local_ HH aw c8 ⟨iX _,t.2⟩ (gT),TabAt.zero _,TabIn.nil _,Cj⟩
  subst cf;have I:SecOf ss TL:=(bb.resolve_right (λh9=>absurd h9.2.2 qd)).1;have hw:=zh I;have X:=c0.grew b2;have h4:=zh X;unfold Gz at X;have y1:=X.cell 1;have yl:=X.lt;have u1:=L.cell 1;have ul:=L.lt;by_cases O:TL.tracks=n;rotate_left
  . have hr:=HR.out;rw [WC I O] at hr;injection hr with h1 h2;subst h1;subst h2;have bs:(TL.tracks != n)=true:=by rw [jH];exact O
    clear O I bb X L;go_wp2_with fail;rw [<-N];clear N;refine AB [] (λw':World=>w'.cell? ⟨w5.heap.size,1,none⟩=some (.int .i64 TL.tracks)/\w5.heap.size<w'.heap.size/\w'.cell? ⟨v,1,none⟩=some (.int .i64 n)/\v<w'.heap.size) qk ?_;have hS:=(show (λw':World=>w'.cell? ⟨w5.heap.size,1,none⟩=some (.int .i64 TL.tracks)/\w5.heap.size<w'.heap.size/\w'.cell? ⟨v,1,none⟩=some (.int .i64 n)/\v<w'.heap.size) W6.drew from ⟨u1,ul,y1,yl⟩);refine tQ 0 36 ?_;refine tQ 1 37 ?_;refine tQ 2 38 ?_;refine tQ 3 39 ?_;refine tT 4 (some 40) hS ?_;refine tQ 5 41 ?_;refine tT 6 (some 42) hS ?_;refine tQ 7 43 ?_;refine tT 8 (some 44) hS ?_;refine tQ 9 45 ?_;refine tQ 10 46 ?_;refine AA qk ?_ _;have H:=zh (c7.drew);have J:=zh (z.grew b2.drew);obtain ⟨W7,w⟩:∃W7,W7=W6.drew:=⟨_,rfl⟩;rw [<-w] at H J ⊢;clear w;have a:Blk W7 W.heap.size 95 #[.string ⟨#[]⟩,.int .i64 0,.slice none 0 0]:=J.out;have c8:=zh (bx.grew H);have z0:=a.cell 0;have z1:=a.cell 1;have z2:=a.cell 2;have f0:=a.frozen 0;have f1:=a.frozen 1;have f2:=a.frozen 2;have zl:=a.lt;clear a hS u1 ul y1 yl;go_wp2_with fail;refine im (by first | (simp [*,results,Tryz.results82,go_sem];rfl) | simp [*,results,Tryz.results82,go_sem]) rfl ?_;exact ⟨oz,none,0,[],rfl,VDid.local_ HH aw c8 ⟨iX _,t.2⟩ (gT),TabAt.zero _,TabIn.nil _,Cj⟩
  have hr:=HR.out;rw [UK I O] at hr;injection hr with h1 h2;obtain rfl:T=TL:=h1.symm;subst h2;have h5:=zh O;have bs:(T.tracks != n)=false:=by rw [O];simp
  have u0:=L.cell 0;have u2:=L.cell 2;clear O I bb X L;go_wp2_with fail;rw [<-N];clear N;refine AB [] (λw':World=>w'.cell? ⟨w5.heap.size,1,none⟩=some (.int .i64 T.tracks)/\w5.heap.size<w'.heap.size/\w'.cell? ⟨v,1,none⟩=some (.int .i64 n)/\v<w'.heap.size) qk ?_;have hS:=(show (λw':World=>w'.cell? ⟨w5.heap.size,1,none⟩=some (.int .i64 T.tracks)/\w5.heap.size<w'.heap.size/\w'.cell? ⟨v,1,none⟩=some (.int .i64 n)/\v<w'.heap.size) W6.drew from ⟨u1,ul,y1,yl⟩);refine tQ 0 36 ?_;refine tQ 1 37 ?_;refine tQ 2 38 ?_;refine tQ 3 39 ?_;refine tT 4 (some 40) hS ?_;refine tQ 5 41 ?_;refine tT 6 (some 42) hS ?_;refine tQ 7 43 ?_;refine tT 8 (some 44) hS ?_;refine tQ 9 45 ?_;refine tQ 10 46 ?_;refine AA qk ?_ _;clear hS y1 bs;obtain ⟨W7,w⟩:∃W7,W7=W6.drew.drew:=⟨_,rfl⟩;have H:=zh (show Grew w5 W7 from by rw [w];exact c7.drew.drew);have h6:=zh (show Blk W7 v 108 (Gz s n (.slice A1 s1.length c1) TC (.slice Az TC.labels.length cz)) from by rw [w];exact h4.drew.drew);have J:=zh (show Blk W7 W.heap.size 95 #[.string ⟨#[]⟩,.int .i64 0,.slice none 0 0] from by rw [w];exact z.grew b2.drew.drew);have b3:=zh (show Blk W7 w5.heap.size 95 #[.string T.name,.int .i64 T.tracks,.slice AL T.labels.length cL] from by rw [w];exact ho.drew.drew);have h7:=zh (show TabAt W7 AL cL xL T from by rw [w];exact hs.hold ((iW W6).drew.drew));have e6:(W6.drew).drew=W7:=w.symm;have a6:=h6.out;unfold Gz at a6;have y2:=a6.cell 2;have g2:=a6.frozen 2;have kj:=a6.lt;have u0:W7.cell? ⟨w5.heap.size,0,none⟩=some (.string T.name):=b3.cell 0;have u1:W7.cell? ⟨w5.heap.size,1,none⟩=some (.int .i64 T.tracks):=b3.cell 1;have u2:W7.cell? ⟨w5.heap.size,2,none⟩=some (.slice AL T.labels.length cL):=b3.cell 2;have ul:w5.heap.size<W7.heap.size:=b3.out.lt;have b4:w5.heap.size≠v:=by have:=t.1.2;have:=V.size;have:=K.turned.size;have:=t.2;omega
  go_wp2_with fail;refine AB [9] (λw':World=>w'.cell? ⟨w5.heap.size,0,none⟩=some (.string T.name)/\w'.cell? ⟨w5.heap.size,1,none⟩=some (.int .i64 T.tracks)/\w'.cell? ⟨w5.heap.size,2,none⟩=some (.slice AL T.labels.length cL)/\w5.heap.size<w'.heap.size) qk ?_;rw [e6];have hS:=(show (λw':World=>w'.cell? ⟨w5.heap.size,0,none⟩=some (.string T.name)/\w'.cell? ⟨w5.heap.size,1,none⟩=some (.int .i64 T.tracks)/\w'.cell? ⟨w5.heap.size,2,none⟩=some (.slice AL T.labels.length cL)/\w5.heap.size<w'.heap.size) W7 from ⟨u0,u1,u2,ul⟩);clear e6 w;refine tQ 0 48 ?_;refine tQ 1 49 ?_;refine tQ 2 50 ?_;refine tT 3 (some 51) hS ?_;refine tT 4 (some 52) hS ?_;refine tQ 5 53 ?_;refine tO 6 λK' hK=>?_;go_wp2_with fail;have da:(λw':World=>w'.cell? ⟨w5.heap.size,0,none⟩=some (.string T.name)/\w'.cell? ⟨w5.heap.size,1,none⟩=some (.int .i64 T.tracks)/\w'.cell? ⟨w5.heap.size,2,none⟩=some (.slice AL T.labels.length cL)/\w5.heap.size<w'.heap.size) (W7.setCell ⟨v,2,none⟩ (.slice A3 ss.length c3)):=⟨by rw [K6 b4];exact u0,by rw [K6 b4];exact u1,by rw [K6 b4];exact u2,by simpa using ul⟩;refine hK.out _ _ (.inr (λ_=>da)) ?_;clear hK hS u0 u1 u2 ul y2 g2;refine tT 7 (some 54) da ?_;refine tQ 8 55 ?_;clear da;have F:Blk (W7.setCell ⟨v,2,none⟩ (.slice A3 ss.length c3)) v 108 #[ptrV s,.int .i64 n,.slice A3 ss.length c3,.string TC.name,.int .i64 TC.tracks,.slice Az TC.labels.length cz]:=gB;have e9:=zh F;have fa:=zh (show Turned (λk=>k=v) W7 (W7.setCell ⟨v,2,none⟩ (.slice A3 ss.length c3)) from gT);obtain ⟨W8,g7⟩:∃W8,W8=W7.setCell ⟨v,2,none⟩ (.slice A3 ss.length c3):=⟨_,rfl⟩;rw [<-g7] at F e9 fa ⊢;clear g7;have y3:=F.cell 3;have y4:=F.cell 4;have y5:=F.cell 5;have g3:=F.frozen 3;have g4:=F.frozen 4;have g5:=F.frozen 5;have ih:=F.lt;refine tO 9 λK' hK=>?_;go_wp2_with fail;refine hK.out _ _ (.inl (by rfl)) ?_;clear hK y3 y4 y5 g3 g4 g5 ih;refine AA qk ?_ _;obtain ⟨wz,Q⟩:∃wz,wz=(((W8.setCell ⟨v,3,none⟩ (.string T.name)).setCell ⟨v,4,none⟩ (.int .i64 T.tracks)).setCell ⟨v,5,none⟩ (.slice AL T.labels.length cL)):=⟨_,rfl⟩;have fb:Turned (λk=>k=v) W8 wz:=by rw [Q];exact gT
  have a7:Turned (λk=>k=v) W7 wz:=fa.out.trans fb
  have dd:Hid (Blk wz v 108 (Gz s n (.slice A3 ss.length c3) T (.slice AL T.labels.length cL))):=zh (by
   rw [Q]
   unfold Gz
   have F:=e9.out
   exact gB)
  rw [<-Q];clear Q;have e3:=zh (J.turned a7 (by have:=t.1.2;omega));have fi:∀k,W.heap.size<=k->¬k=v:=λk hk e=>by have:=t.1.2;omega
  have Y:TabIn (λk=>W1.heap.size<=k/\Far w0 oz m v k) AL xL:=ht.mono λk hk=>by
   have h1:=K.turned.size;have h2:=a5.size;have h3:=t.out;exact ⟨oo,.inr (e5.2 k oo hk.2),oo,oo⟩
  have df:=zh (h7.stay Y a7 (λk hk=>hk.2.2.2))
  have fl:=GX (AG cw (V.out.trans H)) a7 (λh0 b off e=>fi b (by
   have:=cx.out (by simpa using h0) b off e
   have:=cs.out
   have:=t.2
   omega))
  have bv:=zh ((bx.grew H).refresh a7 ⟨_,T,_,dd,⟨⟨A3,c3,ss,rfl,fl,λh0 b off e=>(by
   have h1:=cx.out h0 b off e
   have h2:=cs.out
   have h3:=t.out
   exact ⟨oo,.inr (e5.1 b (ct b h1)),oo,oo⟩),by have:=cy.2;omega,.inr ⟨hw,h5⟩⟩,⟨AL,cL,xL,rfl,df,Y,U⟩⟩⟩)
  have a8:=zh U;have HP:=zh (show ∃(A:Option Addr) (c:Nat) (xs:List LabE) (sv:Value),Blk wz v 108 (Gz s n sv T (.slice A T.labels.length c))/\TabAt wz A c xs T/\SmallT T from ⟨AL,cL,xL,_,dd.out,df.out,U.out⟩);clear fb a7 fi Y fl b4 a6 F dd df a8
 all_goals
  obtain ⟨Ap,cp,xp,sp,ap,R,al⟩:=HP.out;have fn:=al.len;have fp:=R.xlen;unfold Gz at ap;have y3:=ap.cell 3;have y4:=ap.cell 4;have y5:=ap.cell 5;have yl:=ap.lt;have dk:Grew wz (wz.alloc (.cells #[.string T.name,.int .i64 T.tracks,.slice Ap T.labels.length cp] 95)):=(iW wz).alloc _;have fs:=ik wz 95 #[.string T.name,.int .i64 T.tracks,.slice Ap T.labels.length cp] rfl;have fu:=zh (Nw Ap cp T.labels.length xp _ fp.symm oo (R.hold dk).rows);have b5:=zh R;have Z:=zh (show T.name.size<=9223372036854775807/\-9223372036854775808<=T.tracks/\T.tracks<=9223372036854775807 from ⟨R.name,R.tr0,R.tr1⟩);have a8:=zh al;have fv:=zh fs;have ii:=zh dk;have iv:=zh fp;clear ap R al dk fs HP;go_wp2_with fail;refine fu.mono ?_;rintro e w6 ⟨vl,rfl,P,g6⟩;obtain ⟨Aq,cq,hv,_,_,_⟩:=P.listAt;rw [iY,iv.out] at hv;subst hv;have fx:=ii.out.trans g6;have kk:wz.heap.size+1<=w6.heap.size:=by have:=g6.size;simp at this;omega
  have b9:OwnL w6 (wz.heap.size+1) 101 5 (.slice Aq T.labels.length cq) (xp.map Dt):=by have:=P;simp only [World.alloc,Array.size_push] at this;exact this
  have dn:Grew wz (w6.setCell ⟨wz.heap.size,2,none⟩ (.slice Aq T.labels.length cq)):=fx.setCell (iX _) _;have f3:OwnL (w6.setCell ⟨wz.heap.size,2,none⟩ (.slice Aq T.labels.length cq)) (wz.heap.size+1) 101 5 (.slice Aq T.labels.length cq) (xp.map Dt):=b9.far (λhk=>by have:=(b9.own_ge hk).1;simp at this;omega) _
  have C:TabO (w6.setCell ⟨wz.heap.size,2,none⟩ (.slice Aq T.labels.length cq)) (wz.heap.size+1) (.slice Aq T.labels.length cq) xp T.labels:=⟨f3,λy hy=>(b5.lab y hy).hold dn,λy hy h0 b off e hk=>by
   have h9:=(b9.own_ge hk).1
   have:=I3 (b5.lab y hy).runs.2 (by rw [iY];exact h0) b off e
   omega,b5.eq⟩
  have hb:=fv.grew g6;have x2:=hb.cell 2;have f2:=hb.frozen 2;have kl:=hb.lt;have ad:=zh C;have H:=zh dn;have J:=zh (hb.set_ 2 (.slice Aq T.labels.length cq));clear P b9 f3 C fu dn hb fx g6 fv b5 y3 y4 y5 yl;go_wp2_with fail
  go_loopg [67] T.labels.length (λgk i wr=>∃(k:Nat) (ys:List LabE),k<=T.labels.length/\gk=T.labels.length - k/\i=.int .i64 k/\TabO wr (wz.heap.size+1) (.slice Aq T.labels.length cq) ys T.labels/\Blk wr wz.heap.size 95 #[.string T.name,.int .i64 T.tracks,.slice Aq T.labels.length cq]/\(∀j (hj:j<ys.length),j<k->∀b off,ys[j].A=some ⟨b,off,none⟩->wz.heap.size<=b)/\Grew wz wr)
  case atStart=>exact ⟨0,xp,oo,oo,rfl,ad,J,λj _ hj=>absurd hj (Nat.not_lt_zero j),H⟩
  case round=>
   obtain ⟨k,ys,hk,g8,rfl,C,hb,g9,hg⟩:=hrel;have f5:=zh g9;have i1:=zh g8;clear g8 g9;have ca:=C.len;have ds:=hb.lt;have x2:=hb.cell 2;by_cases d4:k<T.labels.length
   . obtain ⟨g,cap,hv,kr,ea⟩:∃g cap,Value.slice Aq T.labels.length cq=.slice (some ⟨g,0,none⟩) T.labels.length cap/\wz.heap.size+1<=g/\g<wr.heap.size:=by
      rcases C.own.form with ⟨_,h0⟩ | ⟨g,cap,hv,h1,h2,_⟩
      . have:=ix length h0;rw [iY,ca,length_nil] at this;omega
      . rw [iY,ca] at hv;exact ⟨g,cap,hv,h1,h2⟩
     injection hv with hv1 _ hv2;subst hv1;subst hv2;have d0:k<ys.length:=oo;have cb:(ys.map Dt)[k]? =some (Dt ys[k]):=by rw [iZ,iV d0];rfl
     have af:=C.lab ys[k] (ib d0)
     have cc:T.labels[k]=ys[k].l:=by
      have:(ys.map (·.l))[k]? =some ys[k].l:=by rw [iZ,iV d0];rfl
      rw [C.eq,iV d4] at this;exact Option.some.inj this
     have i2:=a8.ext T.labels[k] (ib d4);obtain ⟨B,d,l,hy⟩:∃B d l,ys[k]=⟨B,d,l⟩:=⟨_,_,_,rfl⟩;rw [hy] at cb af cc;rw [cc] at i2;have x4:wr.cell? ⟨g,k*5+4,none⟩=some (.slice B l.ext.length d):=C.own.cell cb (i:=4) rfl;have ad:=zh C;have HB:=zh hb;have HG:=zh hg;have d1:=zh af;have f6:=zh cb;have i3:=zh cc
     have f9:∀w1 w2:World,Grew w1 w2->(w1.cell? ⟨wz.heap.size,2,none⟩=some (.slice (some ⟨g,0,none⟩) T.labels.length cq)/\w1.cell? ⟨g,k*5+4,none⟩=some (.slice B l.ext.length d)/\wz.heap.size<w1.heap.size/\g<w1.heap.size)->(w2.cell? ⟨wz.heap.size,2,none⟩=some (.slice (some ⟨g,0,none⟩) T.labels.length cq)/\w2.cell? ⟨g,k*5+4,none⟩=some (.slice B l.ext.length d)/\wz.heap.size<w2.heap.size/\g<w2.heap.size):=λw1 w2 h9 ⟨a1,a2,a3,a4⟩=>by
      rw [h9.cellEq _ _ a3,h9.cellEq _ _ a4];exact ⟨a1,a2,ig a3 h9.size,ig a4 h9.size⟩
     have i4:=zh f9;clear C hb hg af cb cc hy ca f9;go_wp2_with fail;refine AB [12] (λw':World=>w'.cell? ⟨wz.heap.size,2,none⟩=some (.slice (some ⟨g,0,none⟩) T.labels.length cq)/\w'.cell? ⟨g,k*5+4,none⟩=some (.slice B l.ext.length d)/\wz.heap.size<w'.heap.size/\g<w'.heap.size) qk ?_;have hS:(λw':World=>w'.cell? ⟨wz.heap.size,2,none⟩=some (.slice (some ⟨g,0,none⟩) T.labels.length cq)/\w'.cell? ⟨g,k*5+4,none⟩=some (.slice B l.ext.length d)/\wz.heap.size<w'.heap.size/\g<w'.heap.size) wr.drew:=⟨x2,x4,ds,ea⟩;refine tQ 0 70 ?_;refine tT 1 (some 71) hS ?_;refine tQ 2 72 ?_;refine tQ 3 73 ?_;refine tT 4 (some 74) hS ?_;refine tQ 5 75 ?_;refine tQ 6 76 ?_;refine tQ 7 77 ?_;refine tT 8 (some 78) hS ?_;refine tO 9 λK' hK=>?_;go_wp2_with fail;refine (Jn B d l.ext.length l.ext _ rfl oo (d1.hold ((iW wr).drew)).runs.2).mono ?_;rintro e w4 ⟨v4,rfl,ci,g4⟩;obtain ⟨A4,c4,kf,kg,kh,ha⟩:=Hd ci d1.runs.1;subst kf;have a9:Grew wr w4:=(iW wr).drew.trans g4;have ga:=VZ ci (show g<wr.drew.heap.size from ea) rfl;have gb:=zh ga;have i5:=zh (show ∀b off,A4=some ⟨b,off,none⟩->wr.heap.size<=b from λb off e=>(ci.own_ge (by rw [e];rfl)).1);have i6:=zh ha;clear ha ci ga;go_wp2_with fail;refine hK.out _ _ (.inr (i4 _ _ g4)) ?_;clear hK hS x2 x4;have km:wz.heap.size<w4.heap.size:=ig ds a9.size;have kn:g<w4.heap.size:=ig ea a9.size;have ce:=ad.hold a9;have x4:w4.cell? ⟨g,k*5+4,none⟩=some (.slice B l.ext.length d):=ce.own.cell f6 (i:=4) rfl;have f4:=ce.own.frozen (k*5+4);have gc:=zh ce;have a5:=zh a9;clear ce a9 g4;refine tQ 10 80 ?_;refine tQ 11 81 ?_;refine tO 12 λK' hK=>?_;go_wp2_with fail;refine hK.out _ _ (.inl rfl) ?_;refine AA qk ?_ _;have ge:=(HB.grew a5).far (p:=⟨g,k*5+4,none⟩) (by simp;omega) (.slice A4 l.ext.length c4);have gf:=(HG.out.trans a5).setCell (p:=⟨g,k*5+4,none⟩) (by simp;omega) (.slice A4 l.ext.length c4);have gg:=f6.out;have gh:=gc.own.set_ gg (i:=4) (o:=k*5+4) qd rfl (.slice A4 l.ext.length c4);have d2:Turned (λx=>x=g) w4 (w4.setCell ⟨g,k*5+4,none⟩ (.slice A4 l.ext.length c4)):=(jD (λx=>x=g) w4).setCell (p:=⟨g,k*5+4,none⟩) (λ_=>rfl) _
     have gi:LabAt (w4.setCell ⟨g,k*5+4,none⟩ (.slice A4 l.ext.length c4)) A4 c4 l:=by
      have hl:=d1.out;have:LabAt w4 A4 c4 l:=⟨hl.id0,hl.id1,hl.unit0,hl.unit1,hl.name,hl.note,i6,kg,kh⟩;exact this.turned d2 (λ_ b off e hk=>gb b off e hk)
     have d3:=gc.set_ k ⟨A4,c4,l⟩ d4 (by simpa [Dt] using gh) d2 gi (λ_ b off e=>gb b off e);have gj:T.labels.set k l=T.labels:=by rw [<-i3.out];exact List.set_getElem_self ..
     rw [gj] at d3;have i7:=zh d3;have jj:=zh ge;have V:=zh gf
     have ka:=zh (show ∀j (hj:j<(ys.set k (⟨A4,c4,l⟩:LabE)).length),j<k+1->∀b off,(ys.set k (⟨A4,c4,l⟩:LabE))[j].A=some ⟨b,off,none⟩->wz.heap.size<=b from λj hj hjk b off e=>by
      rw [List.getElem_set] at e
      by_cases go:k=j
      . rw [if_pos go] at e
        exact ij (Nat.le_of_lt ds) (i5 b off e)
      . rw [if_neg go] at e
        exact f5.out j (by simpa using hj) oo b off e)
     clear ge gf gg gh d2 gi d3 gj x4 f4;go_wp2_with fail
     go_roundg (T.labels.length - (k+1))
     case measure=>rw [i1.out];omega
     case rel=>exact ⟨k+1,_,oo,oo,by go_num,i7,jj,ka,V⟩
   . obtain rfl:k=T.labels.length:=oo;have b0:=hb.cell 0;have b1:=hb.cell 1;have ad:=zh C;have M:=e3.grew hg;have kb:=zh (bv.more hg);have z0:=M.cell 0;have z1:=M.cell 1;have z2:=M.cell 2;have f0:=M.frozen 0;have f1:=M.frozen 1;have f2:=M.frozen 2;have zl:=M.lt;have kc:=zh (show W1.heap.size<=wz.heap.size from bv.turned.size);clear C hg hb M;go_wp2_with fail;refine im (by first | (simp [*,results,Tryz.results82,go_sem];rfl) | simp [*,results,Tryz.results82,go_sem]) rfl ?_;have hW:=t.out;have hz:=kc.out;obtain ⟨A9,c9,ki,hc⟩:=ad.form;injection ki with e1 _ e2;subst e1;subst e2
     have gl:TabIn (λb=>wz.heap.size<=b) Aq ys:=⟨λ_ b off e=>ij (Nat.le_succ _) (ad.own.own_ge (show (Value.slice Aq T.labels.length cq).ownBlock=some b from by rw [e];rfl)).1,λy hy _ b off e=>by
      obtain ⟨j,hj,rfl⟩:=List.getElem_of_mem hy
      exact f5.out j hj (by rw [<-ca];exact hj) b off e⟩
     have eb:=a8.out;exact ⟨_,Aq,cq,ys,rfl,VDid.local_ HH aw kb ⟨iX _,hW.2⟩ (gT),(hc T.name T.tracks Z.1 Z.2.1 Z.2.2).stay (S:=λk=>k=W.heap.size) gl (gT) (λk hk e=>oo),((hc T.name T.tracks Z.1 Z.2.1 Z.2.2).lt gl).mono (λk hk=>⟨oo,.inr hk⟩),a8⟩
end

theorem WD {D:Dev} {sy ep i:Int} {D':Dev} {d:ByteArray} {er:Int} (hr:NQ D sy ep i=(D',d,er)):DN D sy ep [i]=(D',if er=0 then [d] else [],er)/\(er≠0->d=⟨#[]⟩):=by
 unfold NQ at hr;unfold DN;by_cases h1:(B9 D sy ep).2.2≠0
 . rw [if_pos h1] at hr ⊢;injection hr with h2 h3;injection h3 with h3 h4;subst h2;subst h3;subst h4;exact ⟨by rw [if_neg h1],λ_=>rfl⟩
 rw [if_neg h1] at hr ⊢;unfold Bq EU;by_cases h2:i<0\/(D.st.length:Int) - 131<=i
 . rw [if_pos h2] at hr;injection hr with h3 h4;injection h4 with h4 h5;subst h3;subst h4;subst h5;rw [if_pos h2];exact ⟨rfl,λ_=>rfl⟩
 rw [if_neg h2] at hr ⊢;injection hr with h3 h4;injection h4 with h4 h5;by_cases h6:(Dl (B9 D sy ep).1 i.toNat).2≠0
 . rw [if_pos h6];rw [if_neg h6] at h4;subst h3;subst h4;subst h5;exact ⟨by rw [if_neg h6,if_neg h6],λ_=>rfl⟩
 . have h7:=jU.1 h6;rw [if_neg h6];rw [if_pos h7] at h4;subst h3;subst h4;subst h5;rw [h7];exact ⟨rfl,λh8=>absurd rfl h8⟩
section
variable {w0:World} {x s m:Nat} {sy ep:Int} {D:Dev} {out:Nat->Prop} {W:World} (h:Held w0 x s m sy ep D out W) (hlen:132<=D.st.length/\D.st.length<=1155) (hp:D.pend.length<=980000)
include h hlen hp
theorem YC (i:Int) (hi:okI i) (D':Dev) (d:ByteArray) (er:Int) (hr:NQ D sy ep i=(D',d,er)):
 Calls Tryz.prog 49 #[ptrV s,.int .i64 i] W λe w'=>e=.returned (.tuple #[.string d,.int .i64 er])/\Done w0 x s m sy ep D' out W w':=by
 have hg:Grew W (W.alloc (.cells #[.int .i64 i] 3)):=(iW W).alloc _;have hb:Blk (W.alloc (.cells #[.int .i64 i] 3)) W.heap.size 3 #[.int .i64 i]:=ik W _ _ rfl;have hh:Held w0 x s m sy ep D (λk=>out k\/(W.heap.size<=k/\k<(W.alloc (.cells #[.int .i64 i] 3)).heap.size)) (W.alloc (.cells #[.int .i64 i] 3)):=⟨h.live.more hg,h.store.grew hg,.inl h.os,.inl h.om,h.m0⟩;have a:ListAt (W.alloc (.cells #[.int .i64 i] 3)) (W.alloc (.cells #[.int .i64 i] 3)).heap.size 1 (some ⟨W.heap.size,0,none⟩) [[.int .i64 i]]:=Ki (l:=[.int .i64 i]) hb qs;obtain ⟨c,f⟩:=WD hr;have HR:=zh (L0 hh hlen hp [i] (λj hj=>by rw [ia.1 hj];exact hi) qs (some ⟨W.heap.size,0,none⟩) 1 a (λ_ b off e=>by injection e with e;injection e with e _ _;subst e;exact .inr (.inr ⟨iX _,qs⟩)) D' _ er c);rw [show [i].length=1 from rfl] at HR;have HE:=zh f;have HG:=zh hg;clear h hlen hp hr hg hb hh a c f;by_cases h0:er=0
 . subst h0;rw [if_pos rfl] at HR;go_enter Tryz.func49,Tryz.ntmps49;go_wp2_with fail;refine HR.mono ?_;rintro e w1 ⟨v,lo,rfl,hd,hv⟩;have ho:=hv rfl
   obtain ⟨g,cap,rfl⟩:∃g cap,v=.slice (some ⟨g,0,none⟩) 1 cap:=by
    rcases ho.form with ⟨_,h9⟩ | ⟨g,cap,h1,_⟩
    . simp at h9
    . exact ⟨g,cap,h1⟩
   have hc:=ho.cell (j:=0) (i:=0) rfl rfl;have o:=(ME hc).1;have HD:=zh hd.done;clear hd hv ho;go_wp2_with fail;go_ret2;exact ⟨rfl,FJ HD HG (λk hk=>.inl hk)⟩
 . have p:(er != 0)=true:=by rw [jH];exact h0
   have n:=HE.out h0;subst n;clear h0;go_enter Tryz.func49,Tryz.ntmps49;go_wp2_with fail;refine HR.mono ?_;rintro e w1 ⟨v,lo,rfl,hd,_⟩;have HD:=zh hd.done;clear hd;go_wp2_with fail;go_ret2;exact ⟨rfl,FJ HD HG (λk hk=>.inl hk)⟩
end

noncomputable def Jv (D:Dev) (sy ep n id unit:Int):Dev × Lab × Int:=
 ((Dd D sy ep n).1,if (Dd D sy ep n).2.2≠0 then (CN,(Dd D sy ep n).2.2) else if (C4 (Dd D sy ep n).2.1 id unit).2=true then ((C4 (Dd D sy ep n).2.1 id unit).1,0) else (CN,6))
def OF (l:Lab) (A:Option Addr) (c:Nat):Value:=.agg #[.int .i64 l.id,.int .i64 l.unit,.string l.name,.string l.note,.slice A l.ext.length c]
def iK (w0:World) (x s m v:Nat) (n sy ep:Int) (D':Dev) (out:Nat->Prop) (W:World) (l:Lab) (er:Int) (e:Ending) (w':World):Prop:=
 ∃out' A c,e=.returned (.tuple #[OF l A c,.int .i64 er])/\VDid w0 x s m v n sy ep D' out W out' w'/\LabAt w' A c l/\l.ext.length<=1000
theorem RV {T:Tab} (h:SmallT T) (id a:Int):(C4 T id a).1.ext.length<=1000:=by
 rcases IB T id a with ⟨k,hk,_,h2,_⟩ | ⟨_,h2,_⟩
 . rw [h2];exact h.ext _ (ib hk)
 . rw [h2];decide
theorem VDid.after {w0:World} {x s m v:Nat} {n sy ep:Int} {D1:Dev} {out o1:Nat->Prop} {W w1 w2:World} (hg:Grew W w1) (h:VDid w0 x s m v n sy ep D1 out w1 o1 w2):VDid w0 x s m v n sy ep D1 out W o1 w2:=
 ⟨h.sub,h.held,(hg.turned _).trans h.turned,λP hP hv=>(h.fresh P hP (hv.turned (hg.turned (λ_=>False)) id (λ_ _=>id) (λ_=>id))).mono λk hk=>⟨hk.1.imp id (λh9=>ij hg.size h9),hk.2⟩⟩
theorem Pt {l:List (Int × Int)} {i q:Int} {ok:Bool} (h:Ax l i=(q,ok)):okI q:=by
 rcases Int.lt_or_le i 0 with h9 | h9
 . rw [Ic l i h9] at h;injection h with h1 _;rw [<-h1];unfold okI;omega
 . rcases Ga l i h9 with ⟨_,h2⟩ | ⟨k,_,hk,_,_,h2⟩
   . rw [h2] at h;injection h with h1 _;rw [<-h1];unfold okI;omega
   . rw [h2] at h;injection h with h1 _;rw [<-h1];unfold okI;omega
section
variable {w0:World} {x s m v:Nat} {n sy ep:Int} {D:Dev} {out:Nat->Prop} {W:World} (h:VHeld w0 x s m v n sy ep D out W) (hlen:132<=D.st.length/\D.st.length<=1155) (hp:D.pend.length<=980000) (hn:okT n=true)
include h hlen hp hn
theorem Un (id i:Int) (D':Dev) (l:Lab) (er:Int) (hr:Jv D sy ep n id i=(D',l,er)):Calls Tryz.prog 47 #[ptrV v,.agg #[.int .i64 id,.int .i64 i]] W (iK w0 x s m v n sy ep D' out W l er):=by
 have o:Grew W ((W.alloc (.cells #[.int .i64 id,.int .i64 i] 53)).alloc (.cells #[.int .i64 0,.int .i64 0,.string ⟨#[]⟩,.string ⟨#[]⟩,.slice none 0 0] 101)):=((iW W).alloc _).alloc _;have t:=(ik W 53 #[.int .i64 id,.int .i64 i] rfl).alloc (.cells #[.int .i64 0,.int .i64 0,.string ⟨#[]⟩,.string ⟨#[]⟩,.slice none 0 0] 101);have u:=ik (W.alloc (.cells #[.int .i64 id,.int .i64 i] 53)) 101 #[.int .i64 0,.int .i64 0,.string ⟨#[]⟩,.string ⟨#[]⟩,.slice none 0 0] (n:=W.heap.size+1) qs;have w:W.heap.size+2=((W.alloc (.cells #[.int .i64 id,.int .i64 i] 53)).alloc (.cells #[.int .i64 0,.int .i64 0,.string ⟨#[]⟩,.string ⟨#[]⟩,.slice none 0 0] 101)).heap.size:=qs;obtain ⟨⟨E,T,f⟩,hE⟩:∃r,Dd D sy ep n=r:=⟨_,rfl⟩;unfold Jv at hr;rw [hE] at hr;injection hr with h1 hr;simp only at h1 hr;subst h1;have HT:=zh (Jb (h.more o) hlen hp hn E T f hE);have H:=h.held.store.lt.2;have I:=h.vol.lt;have HH:=zh h;clear h hlen hp hn hE;go_enter Tryz.func47,Tryz.ntmps47;go_wp2_with fail;obtain ⟨W1,U⟩:∃W1,W1=((W.alloc (.cells #[.int .i64 id,.int .i64 i] 53)).alloc (.cells #[.int .i64 0,.int .i64 0,.string ⟨#[]⟩,.string ⟨#[]⟩,.slice none 0 0] 101)):=⟨_,rfl⟩;rw [<-U] at o t u w HT ⊢;have y:=zh o;have j:=zh (show (m<W.heap.size/\v<W.heap.size)/\W.heap.size+2=W1.heap.size from ⟨⟨H,I⟩,w⟩);have J:=zh t;have K:=zh u;clear U o t u w H I;refine HT.mono ?_;rintro e w1 ⟨o1,A1,c1,ys,rfl,q,O,Z,P⟩
 have z:∀k,W.heap.size<=k->k<W1.heap.size->¬VSet w0 (λk=>out k\/(W.heap.size<=k/\k<W1.heap.size)) m v k:=λk h1 h2 h9=>by
  rcases h9 with h9 | h9 | h9
  . exact h9.2 (.inr ⟨h1,h2⟩)
  . have:=j.1.1;omega
  . have:=j.1.2;omega
 have A:=zh (J.turned q.turned (z _ (iX _) (by have:=j.2;omega)));have a:=zh (K.turned q.turned (z _ (Nat.le_succ _) (by have:=j.2;omega)));have p:=zh q;have V:=zh O;have L:=zh P;clear z q O Z P HT J K;by_cases hf:f=0;rotate_left
 . rw [if_pos hf] at hr;injection hr with h1 h2;subst h1;subst h2;have ad:(f != 0)=true:=by rw [jH];exact hf
   have z0:=a.cell 0;have z1:=a.cell 1;have z2:=a.cell 2;have z3:=a.cell 3;have z4:=a.cell 4;have f0:=a.frozen 0;have f1:=a.frozen 1;have f2:=a.frozen 2;have f3:=a.frozen 3;have f4:=a.frozen 4;have zl:=a.out.lt;clear hf;go_wp2_with fail;refine im (by first | (simp [*,results,Tryz.results47,go_sem];rfl) | simp [*,results,Tryz.results47,go_sem]) rfl ?_;exact ⟨o1,none,0,rfl,VDid.local_ (g:=W.heap.size+1) HH y p ⟨Nat.le_succ _,by have:=j.2;omega⟩ (gT),LabAt.zero _,qd⟩
 subst hf;rw [if_neg qs] at hr;obtain ⟨⟨l',ok⟩,G⟩:∃r,C4 T id i=r:=⟨_,rfl⟩;have M:=RV L id i;rw [G] at hr M;have C:Grew w1 (w1.alloc (.cells #[.string T.name,.int .i64 T.tracks,.slice A1 T.labels.length c1] 95)):=(iW w1).alloc _;have HF:=zh (Pm A1 c1 ys T _ (V.hold C) L _ rfl id i l' ok G);have r0:=A.cell 0;have r1:=A.cell 1;have rl:=A.out.lt;have N:=zh C;clear C G;go_wp2_with fail;refine HF.mono ?_;rintro e w2 ⟨B,d,rfl,Q,g2,R⟩;have F:=zh (N.out.trans g2);have X:=zh Q;have c:=zh (a.grew F);have Y:=zh (show ∀b off,B=some ⟨b,off,none⟩->W.heap.size+2<=b from λb off e=>by have:=R b off e;have:=N.size;have:=p.turned.size;have:=j.2;omega);clear Q g2 r0 r1 rl R;have z0:=c.cell 0;have z1:=c.cell 1;have z2:=c.cell 2;have z3:=c.cell 3;have z4:=c.cell 4;have f0:=c.frozen 0;have f1:=c.frozen 1;have f2:=c.frozen 2;have f3:=c.frozen 3;have f4:=c.frozen 4;have zl:=c.out.lt;cases ok with
 | false=>
   rw [if_neg qs] at hr;injection hr with h1 h2;subst h1;subst h2;go_wp2_with fail;refine im (by first | (simp [*,results,Tryz.results47,go_sem];rfl) | simp [*,results,Tryz.results47,go_sem]) rfl ?_;exact ⟨o1,none,0,rfl,VDid.local_ (g:=W.heap.size+1) HH y (p.grew F) ⟨Nat.le_succ _,by have:=j.2;omega⟩ (gT),LabAt.zero _,qd⟩
 | true=>
   rw [if_pos rfl] at hr;injection hr with h1 h2;subst h1;subst h2;go_wp2_with fail;refine im (by first | (simp [*,results,Tryz.results47,go_sem];rfl) | simp [*,results,Tryz.results47,go_sem]) rfl ?_;exact ⟨o1,B,d,rfl,VDid.local_ (g:=W.heap.size+1) HH y (p.grew F) ⟨Nat.le_succ _,by have:=j.2;omega⟩ (gT),X.turned (S:=λk=>k=W.heap.size+1) (gT) (λ_ b off e hk=>by have:=Y.out b off e;omega),M⟩
end
noncomputable def rdP (D:Dev) (sy ep n id unit i:Int):Dev × ByteArray × Int:=
 if (Jv D sy ep n id unit).2.2≠0 then ((Jv D sy ep n id unit).1,ES,(Jv D sy ep n id unit).2.2)
 else if (Ax (Jv D sy ep n id unit).2.1.ext i).2=false then ((Jv D sy ep n id unit).1,ES,2)
 else NQ (Jv D sy ep n id unit).1 sy ep (Ax (Jv D sy ep n id unit).2.1.ext i).1
theorem Yi (D:Dev) (sy ep:Int) (l:List Int):(DN D sy ep l).1=(B9 D sy ep).1:=by
 unfold DN;split<;>rfl
theorem VW (D:Dev) (sy ep n id unit:Int):(Jv D sy ep n id unit).1=(B9 D sy ep).1:=Yi D sy ep _
theorem dS (D:Dev) (sy ep n id a:Int):(Jv D sy ep n id a).1.st.length=D.st.length:=by rw [VW];exact (Ii D sy ep).1
theorem ZT (D:Dev) (sy ep n id a:Int):(Jv D sy ep n id a).1.pend.length<=D.pend.length+100:=by rw [VW];exact PZ D sy ep
section
variable {w0:World} {x s m v:Nat} {n sy ep:Int} {D:Dev} {out:Nat->Prop} {W:World} (h:VHeld w0 x s m v n sy ep D out W) (hlen:132<=D.st.length/\D.st.length<=1155) (hp:D.pend.length<=900000) (hn:okT n=true)
include h hlen hp hn
theorem Xk (id unit:Int) (i:Int) (hi:okI i) (D':Dev) (d:ByteArray) (er:Int) (hr:rdP D sy ep n id unit i=(D',d,er)):Calls Tryz.prog 18 #[ptrV v,.agg #[.int .i64 id,.int .i64 unit],.int .i64 i] W λe w'=>e=.returned (.tuple #[.string d,.int .i64 er])/\∃out',VDid w0 x s m v n sy ep D' out W out' w':=by
 have k:Grew W (W.alloc (.cells #[.int .i64 id,.int .i64 unit] 53)):=(iW W).alloc _;have a:=dS D sy ep n id unit;have p:=ZT D sy ep n id unit;obtain ⟨⟨E,l,f⟩,hE⟩:∃r,Jv D sy ep n id unit=r:=⟨_,rfl⟩;unfold rdP at hr;rw [hE] at hr a p;simp only at hr a p;have HC:=zh (Un (h.grew k) hlen oo hn id unit E l f hE);have z:=zh k;have F:=zh hi;have B:=zh (λ(o:Nat->Prop) (w:World) (hh:VHeld w0 x s m v n sy ep E o w) (q:Int) (hq:okI q) (hr:NQ E sy ep q=(D',d,er))=>YC hh.held (by rw [a];exact hlen) oo q hq D' d er hr);unfold okI at hi;clear h hlen hp hn hE k a p;go_enter Tryz.func18,Tryz.ntmps18;go_wp2_with fail;refine HC.mono ?_;rintro e w1 ⟨o1,A,c,rfl,hd,t,a⟩;unfold OF;have HD:=zh (VDid.after z hd);have g:Grew w1 (w1.alloc (.cells #[.int .i64 l.id,.int .i64 l.unit,.string l.name,.string l.note,.slice A l.ext.length c] 101)):=(iW w1).alloc _;have u:=zh g;by_cases hf:f=0
 . subst hf;rw [if_neg qs] at hr;obtain ⟨⟨q,ok⟩,hq⟩:∃r,Ax l.ext i=r:=⟨_,rfl⟩;rw [hq] at hr;simp only at hr;have HS:=zh (N9 A c l _ (t.hold g) a i oo oo q ok hq);have HQ:=zh (Pt hq);clear hd t a g hq;go_wp2_with fail;refine HS.mono ?_;rintro e w2 ⟨rfl,g2⟩;have b:=zh (HD.grew (u.out.trans g2));clear g2;cases ok with
   | false=>
     rw [if_pos rfl] at hr;injection hr with h1 h2;injection h2 with h2 h3;subst h1;subst h2;subst h3;go_wp2_with fail;go_ret2;exact ⟨rfl,_,b⟩
   | true=>
     rw [if_neg qs] at hr;obtain ⟨sv,T,tv,j,_⟩:=b.held.vol;unfold Gz at j;have v0:=j.cell 0;have vl:=j.lt;have HR:=zh (B _ _ b.held q HQ hr);clear hr j;go_wp2_with fail;refine HR.mono ?_;rintro e w3 ⟨rfl,y⟩;have C:=zh (b.out.trans (b.held.done y));clear y v0 vl;go_wp2_with fail;go_ret2;exact ⟨rfl,_,C⟩
 . rw [if_pos hf] at hr;injection hr with h1 h2;injection h2 with h2 h3;subst h1;subst h2;subst h3;have G:(f != 0)=true:=by rw [jH];exact hf
   clear hf hd t a g;go_wp2_with fail;go_ret2;exact ⟨rfl,_,HD.grew u⟩
end

def Am (l:Lab) (ws:List (Int × ByteArray)):List (Int × ByteArray) × Int:=
 if (ws.any λe=>decide (e.2.size≠128))=true\/¬(ws.map (·.1)).Nodup then ([],1) else if (ws.any λe=>!(Ax l.ext e.1).2)=true then ([],2) else (ws.map λe=>((Ax l.ext e.1).1,e.2),0)
theorem Ur {l:Lab} {ws:List (Int × ByteArray)} (k:Nat) (hk:k<ws.length) (h:ws[k].2.size≠128):Am l ws=([],1):=by
 unfold Am;rw [if_pos (.inl (j6.2 ⟨ws[k],ib hk,by simpa using h⟩))]
theorem WL {l:Lab} {ws:List (Int × ByteArray)} (k:Nat) (hk:k<ws.length) (h:ws[k].1∈(ws.take k).map (·.1)):Am l ws=([],1):=by
 have hn:¬(ws.map (·.1)).Nodup:=by
  intro hn;have h1:((ws.take (k+1)).map (·.1)).Nodup:=(hn.sublist ((take_sublist _ _).map _));rw [DG ws k hk] at h1;exact (jg.1 h1).2.2 _ h _ (ia.2 rfl) rfl
 unfold Am;rw [if_pos (.inr hn)]
theorem TA {l:Lab} {ws:List (Int × ByteArray)} (h1:∀e∈ws,e.2.size=128) (h2:(ws.map (·.1)).Nodup) (k:Nat) (hk:k<ws.length) (h:(Ax l.ext ws[k].1).2=false):Am l ws=([],2):=by
 unfold Am;rw [if_neg (by simp only [not_or,jU];exact ⟨by rw [jl,jT];intro e he;simp [h1 e he],h2⟩),if_pos (j6.2 ⟨ws[k],ib hk,by rw [h];rfl⟩)]
theorem WM {l:Lab} {ws:List (Int × ByteArray)} (h1:∀e∈ws,e.2.size=128) (h2:(ws.map (·.1)).Nodup) (h3:∀e∈ws,(Ax l.ext e.1).2=true):Am l ws=(ws.map λe=>((Ax l.ext e.1).1,e.2),0):=by
 unfold Am;rw [if_neg (by simp only [not_or,jU];exact ⟨by rw [jl,jT];intro e he;simp [h1 e he],h2⟩),if_neg (by rw [jl,jT];intro e he;rw [h3 e he];decide)]
def Xl (l:Lab) (e:Int × ByteArray):List Value:=B0 ((Ax l.ext e.1).1,e.2)
theorem W5 (w:World) (A:Option Addr) (c:Nat) (l:Lab) (H:LabAt w A c l) (af:l.ext.length<=1000) (ws:List (Int × ByteArray)) (hl:ws.length<=1000000) (I:∀e∈ws,okI e.1) (B:Option Addr) (d:Nat) (G:ListAt w w.heap.size 2 B (ws.map B0)):
 Calls Tryz.prog 84 #[OF l A c,.slice B ws.length d] w λe w'=>∃v,e=.returned (.tuple #[v,.int .i64 (Am l ws).2])/\OwnL w' w.heap.size 41 2 v ((Am l ws).1.map B0)/\Grew w w':=by
 have ag:=@run_makeMap Tryz.prog;have J:Grew w (w.alloc (.cells #[.int .i64 l.id,.int .i64 l.unit,.string l.name,.string l.note,.slice A l.ext.length c] 101)):=(iW w).alloc _;have K:=zh (ik w 101 #[.int .i64 l.id,.int .i64 l.unit,.string l.name,.string l.note,.slice A l.ext.length c] rfl);have al:Hid (MapI ((w.alloc (.cells #[.int .i64 l.id,.int .i64 l.unit,.string l.name,.string l.note,.slice A l.ext.length c] 101)).alloc (.map #[] 0)) (w.heap.size+1) (EX [])):=zh ((MapIs.made _ qs).congr (λa=>rfl));have L:=zh G;have M:=zh I;have an:=zh H;have ap:=zh (J.alloc (.map #[] 0));have av:=zh (K.alloc (.map #[] 0));unfold OF;clear H G I J K;go_enter Tryz.func84,Tryz.ntmps84;go_wp2_with fail;clear ag
 go_loopg [17] ws.length (λgk i wr=>∃k:Nat,k<=ws.length/\gk=ws.length - k/\i=.int .i64 k/\MapI wr (w.heap.size+1) (EX ((ws.take k).map (·.1)))/\Grew w wr/\Blk wr w.heap.size 101 #[.int .i64 l.id,.int .i64 l.unit,.string l.name,.string l.note,.slice A l.ext.length c]/\(∀j (hj:j<k) (hj2:j<ws.length),ws[j].2.size=128)/\((ws.take k).map (·.1)).Nodup)
 case atStart=>exact ⟨0,oo,oo,rfl,al,ap,av,λj hj=>absurd hj oo,qs⟩
 case round=>
  obtain ⟨k,hk,o,rfl,hm,hg,hb,X,Y⟩:=hrel;have aw:=zh o;have HM:=zh hm;have HG:=zh hg;have HB:=zh hb;have N:=zh X;have O:=zh Y;clear o hm hg hb X Y;by_cases f:k<ws.length
  . obtain ⟨b,bs,rfl,bt,c0,c1⟩:=LN (L.keep (iX _) HG) f;have a0:(k:Int)<(ws.length:Int):=oo;by_cases hs:ws[k].2.size=128
    . have a1:((ws[k].2.size:Int) != 128)=false:=by rw [hs];rfl
      obtain ⟨kl,z⟩:=Fd ws[k].1 (M _ (ib f));have a2:=zh z;have s:=HM.alloc (.cells #[.int .i64 ws[k].1,.string ws[k].2] 41);have P:=s.lookup_val BH Bx Tryz.underlying231 (Ml _) ws[k].1 z;have a3:=zh s;by_cases n:ws[k].1∈(ws.take k).map (·.1)
      . rw [show EX ((ws.take k).map (·.1)) ws[k].1=some (.bool true) from if_pos n,jv] at P;have HC:=zh (WL (l:=l) k f n);clear n hs z s;go_wp2_with fail;go_ret2;rw [HC.out];exact ⟨_,rfl,OwnL.nil _ _ _ _,HG.alloc _⟩
      . rw [show EX ((ws.take k).map (·.1)) ws[k].1=none from if_neg n,Option.getD_none] at P;have HS:=zh hs;have a4:=zh n;clear n hs z s;go_wp2_with (refine CY rfl _ _ _ 231 rfl 4 BH Bx Tryz.underlying231 rfl a3 ws[k].1 a2 (.bool true) rfl rfl ?_;intro w3 U V;have a5:=zh U;have Q:=zh V;clear U V)
        go_roundg (ws.length - (k+1))
        case measure=>rw [aw.out];omega
        case rel=>
         refine ⟨k+1,oo,oo,by go_num,a5.congr (λa=>by rw [DG ws k f];exact Jx _ _ a),(HG.alloc _).turn Q (λi e=>by rw [e];exact Nat.le_succ _),(HB.alloc _).turned Q oo,λj hj hj2=>?_,?_⟩
         . rcases jY j k with h9 | h9
           . exact N.out j h9 hj2
           . have:j=k:=oo;subst this;exact HS.out
         . rw [DG ws k f];exact jg.2 ⟨O,qs,λa ha b hb=>by rw [ia.1 hb];exact λe=>a4 (e▸ha)⟩
    . have a1:((ws[k].2.size:Int) != 128)=true:=by rw [jH];omega
      have HC:=zh (Ur (l:=l) k f hs);clear hs;go_wp2_with fail;go_ret2;rw [HC.out];exact ⟨_,rfl,OwnL.nil _ _ _ _,HG.alloc _⟩
  . obtain rfl:ws.length=k:=oo
    have H1:Hid (∀e∈ws,e.2.size=128):=zh (λe he=>by
     obtain ⟨j,hj,rfl⟩:=j4.1 he
     exact N.out j hj hj)
    have H2:Hid ((ws.map (·.1)).Nodup):=zh (by have:=O.out;rw [i8 (iX _)] at this;exact this);clear f;obtain ⟨wa,bv⟩:∃wa:World,wa=wr:=⟨_,rfl⟩;subst bv;have a6:=zh (show w.heap.size+1<=wa.heap.size from HB.out.lt);go_wp2_with fail
    go_loopg [9,37] ws.length (λgk u i wr=>∃k:Nat,k<=ws.length/\gk=ws.length - k/\i=.int .i64 k/\OwnL wr wa.heap.size 41 2 u ((ws.take k).map (Xl l))/\Blk wr w.heap.size 101 #[.int .i64 l.id,.int .i64 l.unit,.string l.name,.string l.note,.slice A l.ext.length c]/\Grew wa wr/\(∀j (hj:j<k) (hj2:j<ws.length),(Ax l.ext ws[j].1).2=true))
    case atStart=>exact ⟨0,oo,oo,rfl,OwnL.nil _ _ _ _,HB,iW wa,λj hj=>absurd hj oo⟩
    case round=>
     obtain ⟨k,b1,o,rfl,Z,hb,hg,ad⟩:=hrel;have a7:=zh o;have t:=zh (HG.out.trans hg);have R:=zh hg;have S:=zh ad;have T:=zh Z;have h:=zh hb;clear o hg ad Z hb;by_cases f:k<ws.length
     . obtain ⟨b,bs,rfl,bt,c0,c1⟩:=LN (L.keep (iX _) t) f;have a0:(k:Int)<(ws.length:Int):=oo;obtain ⟨⟨p,dd⟩,he⟩:∃e,ws[k]=e:=⟨_,rfl⟩;have HE:=zh he;have x:=M.out _ (ib f);rw [he] at c0 c1 x;simp only at c0 c1 x;have bx:=zh x;unfold okI at x;obtain ⟨⟨q,ok⟩,hq⟩:∃r,Ax l.ext p=r:=⟨_,rfl⟩;have m:=zh ((iW wr).alloc (.cells #[.int .i64 p,.string dd] 41));have HX:=zh (ik wr 41 #[.int .i64 p,.string dd] rfl);have HS:=zh (N9 A c l _ (an.hold (t.out.trans m)) af p oo oo q ok hq);have HQ:=zh hq;have a8:=h.grew m;have y0:=h.cell 0;have y1:=h.cell 1;have y2:=h.cell 2;have y3:=h.cell 3;have y4:=h.cell 4;have yl:=h.out.lt;clear hq he a8;cases ok with
       | false=>
         have HC:=zh (TA (l:=l) H1 H2 k f (by rw [HE.out,HQ.out]));go_wp2_with fail;refine HS.mono ?_;rintro e w3 ⟨rfl,g3⟩;have y:=zh (t.out.trans (m.out.trans g3));clear g3 y0 y1 y2 y3 y4 yl;go_wp2_with fail;go_ret2;rw [HC.out];exact ⟨_,rfl,OwnL.nil _ _ _ _,y⟩
       | true=>
         go_wp2_with fail;refine HS.mono ?_;rintro e w3 ⟨rfl,g3⟩;have y:=zh (m.out.trans g3);have C:=HX.grew g3;have a9:=C.cell 1;have xl:=C.lt;have D:=zh (T.grew (m.out.trans g3));have b0:wa.heap.size<=w3.heap.size:=ij R.size (m.out.trans g3).size;have E:((ws.take k).map (Xl l)).length=k:=by simp;omega
         clear g3 y0 y1 y2 y3 y4 yl C;go_wp2_with (at_builtin;refine Bh rfl _ _ 37 rfl wa.heap.size 41 2 24 _ Tryz.underlying37 QX rfl qd (w3.alloc (.cells #[.int .i64 q,.string dd] 41)) u9 ((ws.take k).map (Xl l)) (B0 (q,dd)) rfl (by first | rfl | (simp;done)) (D.alloc _) w3.heap.size (by first | rfl | (simp;done)) (ik _ _ _ rfl) rfl (by rw [E];omega) (by rw [E];omega) (by simp;omega) k E ?_);intro g9 bl w9 W F _ _
         have bb:=zh (show OwnL w9 wa.heap.size 41 2 (.slice (some ⟨g9,0,none⟩) (k+1) bl) ((ws.take (k+1)).map (Xl l)) from by
          rw [ic f,il,HE.out]
          have:Xl l (p,dd)=B0 (q,dd):=by unfold Xl;rw [HQ.out]
          rw [List.map_singleton,this,map_take]
          exact W)
         have bc:=zh (Grew.own ((R.out.trans y).alloc (.cells #[.int .i64 q,.string dd] 41)) F (λg e=>(D.own_ge e).1) (iX _));have bf:=zh (((h.grew y).alloc (.cells #[.int .i64 q,.string dd] 41)).own F (λe=>by have:=(D.own_ge e).1;have:=a6.out;omega))
         have bk:=zh (show ∀j (hj:j<k+1) (hj2:j<ws.length),(Ax l.ext ws[j].1).2=true from λj hj hj2=>by
          rcases jY j k with h9 | h9
          . exact S.out j h9 hj2
          . have:j=k:=oo
            subst this
            rw [HE.out,HQ.out])
         clear W F a9 xl;go_wp2_with fail
         go_roundg (ws.length - (k+1))
         case measure=>rw [a7.out];omega
         case rel=>exact ⟨k+1,oo,rfl,by go_num,bb,bf,bc,bk⟩
     . obtain rfl:ws.length=k:=oo
       have HC:=zh (WM (l:=l) H1 H2 (λe he=>by
        obtain ⟨j,hj,rfl⟩:=j4.1 he
        exact S.out j hj hj))
       have HO:=zh (show OwnL wr wa.heap.size 41 2 u9 ((ws.map λe=>((Ax l.ext e.1).1,e.2)).map B0) from by
        have:=T.out
        rw [i8 (iX _)] at this
        rw [jt]
        exact this)
       clear f;go_wp2_with fail;go_ret2;rw [HC.out];exact ⟨_,rfl,HO.mono HG.size,t⟩
def Nm (x s m:Nat) (sy ep:Int) (E:Dev):Prop:=∀(w0:World) (out:Nat->Prop) (W:World),Held w0 x s m sy ep E out W->∀(ws:List (Int × ByteArray)),ws.length<=1000000->(∀e∈ws,okI e.1)->∀(A:Option Addr) (c:Nat),ListAt W W.heap.size 2 A (ws.map B0)->(ws≠[]->Et w0 out A)->
 Calls Tryz.prog 80 #[ptrV s,.slice A ws.length c] W λe w'=>e=.returned (.int .i64 (Bk E sy ep ws).2)/\Done w0 x s m sy ep (Bk E sy ep ws).1 out W w'
theorem Xc (l:Lab) (ws:List (Int × ByteArray)):(Am l ws).1.length<=ws.length:=by
 unfold Am;split
 . exact jL _
 split
 . exact jL _
 . rw [iY];exact iX _
theorem ay (l:Lab) (ws:List (Int × ByteArray)):∀e∈(Am l ws).1,okI e.1:=by
 unfold Am;intro e he;split at he
 . cases he
 split at he
 . cases he
 . obtain ⟨a,_,rfl⟩:=ie.1 he;exact Pt (ok:=(Ax l.ext a.1).2) rfl

def fD (fv:Value) (P:World->Prop) (T:Tab) (r:Tab × Int):Prop:=
 ∃fn first caps,fv=.func (.func fn) first caps/\CF Tryz.prog fn/\∀(w:World) (A:Option Addr) (c:Nat) (xs:List LabE),P w->TabAt w A c xs T->Calls Tryz.prog fn (first++#[.agg #[.string T.name,.int .i64 T.tracks,.slice A T.labels.length c]]++caps) w (gn w r.1 r.2)
noncomputable def chP (D:Dev) (sy ep n id unit:Int) (ws:List (Int × ByteArray)) (g:Tab->Tab × Int):Dev × Int:=
 if (Dd D sy ep n).2.2≠0 then ((Dd D sy ep n).1,(Dd D sy ep n).2.2)
 else if (g (Dd D sy ep n).2.1).2≠0 then ((Dd D sy ep n).1,(g (Dd D sy ep n).2.1).2)
 else if (Am (C4 (g (Dd D sy ep n).2.1).1 id unit).1 ws).2≠0 then ((Dd D sy ep n).1,(Am (C4 (g (Dd D sy ep n).2.1).1 id unit).1 ws).2)
 else Bk (Dd D sy ep n).1 sy ep (B6 (Dd D sy ep n).2.1 (g (Dd D sy ep n).2.1).1++(Am (C4 (g (Dd D sy ep n).2.1).1 id unit).1 ws).1)
theorem Zm (T U:Tab) (h:U.labels.length<=1000):(B6 T U).length<=20000:=by
 have hs:=JC U h;unfold B6;split
 . rename_i hc;unfold Cu;rw [iY];refine ij (j5 _ _) ?_;rw [jr,hc.1];omega
 . exact jL _
theorem eU (T U:Tab) (h:U.labels.length<=1000):∀e∈B6 T U,okI e.1:=by
 have hs:=JC U h;intro e he;unfold B6 at he;split at he
 . rename_i hc;unfold Cu at he;obtain ⟨i,hi,rfl⟩:=ie.1 he;have:=jB.1 (jV.1 hi).1;rw [hc.1] at this;unfold okI;simp only;omega
 . cases he
theorem VDid.after2 {w0:World} {x s m v:Nat} {n sy ep:Int} {D1:Dev} {out o1:Nat->Prop} {W W1 w1:World} (hg:Grew W W1) (h:VDid w0 x s m v n sy ep D1 (λk=>out k\/(W.heap.size<=k/\k<W1.heap.size)) W1 o1 w1):VDid w0 x s m v n sy ep D1 out W o1 w1:=
 ⟨λk hk=>h.sub k (.inl hk),h.held,(hg.turned _).trans (h.turned.mono λk _ hk=>VSet.mono (λ_=>.inl) hk),λP hP hv=>(h.fresh P (λk hk=>(hP k hk).mono λ_=>.inl) (hv.turned (hg.turned (λ_=>False)) id (λ_ _=>id) (λ_=>id))).mono λk hk=>⟨hk.1.imp id (λh9=>ij hg.size h9),hk.2⟩⟩
theorem cg (l:List (Int × ByteArray)):∀r∈l.map B0,r.length=2:=by intro r hr;obtain ⟨e,_,rfl⟩:=ie.1 hr;rfl
theorem cR (l:List (Int × ByteArray)):∀r∈l.map B0,r.all (·.oneCell')=true:=by intro r hr;obtain ⟨e,_,rfl⟩:=ie.1 hr;rfl
section
variable {w0:World} {x s m v:Nat} {n sy ep:Int} {D:Dev} {out:Nat->Prop} {W:World} (h:VHeld w0 x s m v n sy ep D out W) (hlen:132<=D.st.length/\D.st.length<=1155) (hp:D.pend.length<=900000) (hn:okT n=true)
include h hlen hp hn
theorem RX (id unit:Int) (av:∀E,(Dd D sy ep n).1=E->(Dd D sy ep n).2.2=0->Nm x s m sy ep E) (ws:List (Int × ByteArray)) (hl:ws.length<=900000) (an:∀e∈ws,okI e.1) (B:Option Addr) (d:Nat) (ap:ListAt W W.heap.size 2 B (ws.map B0)) (hB:ws≠[]->∀b off,B=some ⟨b,off,none⟩->Far w0 out m v b)
 (g:Tab->Tab × Int) (fv:Value) (Pw:World->Prop) (hP:∀w',Turned (VSet w0 out m v) W w'->Pw w') (hg:∀T,(Dd D sy ep n).2.1=T->(Dd D sy ep n).2.2=0->fD fv Pw T (g T)/\((g T).2=0->SmallT (g T).1)) (D':Dev) (er:Int) (hr:chP D sy ep n id unit ws g=(D',er)):
 Calls Tryz.prog 44 #[ptrV v,.agg #[.int .i64 id,.int .i64 unit],.slice B ws.length d,fv] W λe w'=>e=.returned (.int .i64 er)/\∃out',VDid w0 x s m v n sy ep D' out W out' w':=by
 have a:Grew W (W.alloc (.cells #[.int .i64 id,.int .i64 unit] 53)):=(iW W).alloc _;have aw:=ik W 53 #[.int .i64 id,.int .i64 unit] rfl;obtain ⟨⟨E,T,f⟩,hE⟩:∃r,Dd D sy ep n=r:=⟨_,rfl⟩;have t:=av E (by rw [hE]);have w:=hg T (by rw [hE]);unfold chP at hr;rw [hE] at hr t w;simp only at hr t w;have cn:=zh t;have HC:=zh (Jb (h.more a) hlen oo hn E T f hE);have co:=zh a;have cp:=zh aw;have cq:=zh an;have cr:=zh (AG ap a);have ct:=zh hB;have a0:=zh w;have cv:=zh hP;have HH:=zh h;have a1:=h.held.store.lt.2;have a2:=h.vol.lt;have a3:=zh (And.intro a1 a2);clear h hlen hp hn hE a aw t av an ap hB hg w hP a1 a2;go_enter Tryz.func44,Tryz.ntmps44;go_wp2_with fail;refine HC.mono ?_;rintro e w1 ⟨o1,A,c,ys,rfl,hd,ad,b0,af⟩;have HD:=zh (VDid.after2 co hd);have y:=HD.turned
 have cw:=zh (cp.turned hd.turned (λh9=>by
  rcases h9 with h9 | h9 | h9
  . exact h9.2 (.inr ⟨iX _,qs⟩)
  . have:=a3.1;omega
  . have:=a3.2;omega))
 have eb:=zh y;have j:Grew w1 (w1.alloc (.cells #[.string T.name,.int .i64 T.tracks,.slice A T.labels.length c] 95)):=(iW w1).alloc _;have a4:=zh j;have cx:=zh (ik w1 95 #[.string T.name,.int .i64 T.tracks,.slice A T.labels.length c] rfl);have cy:=zh (AG (GX cr hd.turned (λh0 b off e=>((ct (by intro h9;rw [h9] at h0;exact absurd h0 qs) b off e).mono λ_=>.inl).not)) j);have a5:=zh (ad.hold j);have cz:=zh af;by_cases hf:f=0;rotate_left
 . rw [if_pos hf] at hr;injection hr with h1 h2;subst h1;subst h2;have a6:(f != 0)=true:=by rw [jH];exact hf
   clear hf hd ad b0 af j y;go_wp2_with fail;go_ret;exact ⟨rfl,_,HD.grew a4⟩
 subst hf;rw [if_neg qs] at hr;obtain ⟨⟨fn,first,eg,d7,b9,ca⟩,M⟩:=a0.out rfl;subst d7;have HF:=zh (ca _ A c ys (cv _ (y.trans (j.turned _))) a5);obtain ⟨⟨U,ge⟩,cb⟩:∃r,g T=r:=⟨_,rfl⟩;rw [cb] at hr HF M;simp only at hr HF M;have a7:=zh M;unfold CF at b9;clear hd ad b0 af j y ca cb M a0;go_wp2_with fail;refine HF.mono ?_;rintro e w2 ⟨A2,c2,zs,rfl,b1,g2⟩;have c0:=zh (a4.out.trans g2);have c1:=zh (cx.grew g2);have c3:=zh (AG cy g2);have c4:=zh (a5.hold g2);have i:Grew w2 (w2.alloc (.cells #[.string U.name,.int .i64 U.tracks,.slice A2 U.labels.length c2] 95)):=(iW w2).alloc _;have N:=zh (c0.out.trans i);have c5:=zh (ik w2 95 #[.string U.name,.int .i64 U.tracks,.slice A2 U.labels.length c2] rfl);have c6:=zh (c1.grew i);have c7:=zh (AG c3 i);have c9:=zh (c4.hold i);have a8:=zh (b1.hold i);clear g2 b1 b9;by_cases a:ge=0;rotate_left
 . rw [if_pos a] at hr;injection hr with h1 h2;subst h1;subst h2;have a6:(ge != 0)=true:=by rw [jH];exact a
   clear a i;go_wp2_with fail;go_ret;exact ⟨rfl,_,HD.grew N⟩
 subst a;rw [if_neg qs] at hr;have z:=a7.out rfl;obtain ⟨⟨l,ok⟩,al⟩:∃r,C4 U id unit=r:=⟨_,rfl⟩;have C:=RV z id unit;rw [al] at hr C;simp only at hr C;have da:=zh (Pm A2 c2 zs U _ a8 z _ rfl id unit l ok al);have dd:=zh C;have O:=zh z;have F:=cw.grew N;have r0:=F.cell 0;have r1:=F.cell 1;have rl:=F.lt;clear i al C z F a7;go_wp2_with fail;refine da.mono ?_;rintro e w4 ⟨B4,d4,rfl,b2,g4,_⟩;have P:Grew w4 (w4.alloc (.cells #[.int .i64 l.id,.int .i64 l.unit,.string l.name,.string l.note,.slice B4 l.ext.length d4] 101)):=(iW w4).alloc _;have Q:=zh (g4.trans P);have dk:=zh (N.out.trans Q);have R:=zh (W5 _ B4 d4 l (b2.hold P) dd ws oo cq B d (AG c7 Q));unfold OF at R;obtain ⟨⟨ps,pe⟩,cc⟩:∃r,Am l ws=r:=⟨_,rfl⟩;have a9:=Xc l ws;have G:=ay l ws;rw [cc] at R hr a9 G;simp only at hr a9 G;have dn:=zh G;clear b2 P cc G g4 r0 r1 rl;go_wp2_with fail;refine R.mono ?_;rintro e w6 ⟨u,rfl,ag,g6⟩;have H:=zh (Q.out.trans g6);have S:=zh (dk.out.trans g6);clear g6;by_cases K:pe=0;rotate_left
 . rw [if_pos K] at hr;injection hr with h1 h2;subst h1;subst h2;have a6:(pe != 0)=true:=by rw [jH];exact K
   clear K ag;go_wp2_with fail;go_ret;exact ⟨rfl,_,HD.grew S⟩
 subst K;rw [if_neg qs] at hr;obtain ⟨Au,cu,hu,ea,_,ce⟩:=ag.listAt;rw [iY] at hu ea;subst hu;have ds:=zh ce;have I:=zh (c6.grew H);have J:=zh (c5.grew H);have d0:=zh (c9.hold H);have d1:=zh (a8.hold H);obtain ⟨sv,TC,tv,p,_⟩:=(HD.grew S).held.vol;have ee:=zh p;unfold Gz at p;have v0:w6.cell? ⟨v,0,none⟩=some (ptrV s):=p.cell 0;have vl:=p.lt;have V:=zh (λ(w9:World) (hg9:Grew w6 w9)=>(show (λw':World=>(w'.cell? ⟨v,0,none⟩=some (ptrV s)/\v<w'.heap.size)/\(w'.cell? ⟨w1.heap.size,0,none⟩=some (.string T.name)/\w'.cell? ⟨w1.heap.size,1,none⟩=some (.int .i64 T.tracks)/\w'.cell? ⟨w1.heap.size,2,none⟩=some (.slice A T.labels.length c)/\w1.heap.size<w'.heap.size)/\(w'.cell? ⟨w2.heap.size,0,none⟩=some (.string U.name)/\w'.cell? ⟨w2.heap.size,1,none⟩=some (.int .i64 U.tracks)/\w'.cell? ⟨w2.heap.size,2,none⟩=some (.slice A2 U.labels.length c2)/\w2.heap.size<w'.heap.size)) w9 from ⟨⟨CQ hg9 v0,ig vl hg9.size⟩,⟨(I.grew hg9).cell 0,(I.grew hg9).cell 1,(I.grew hg9).cell 2,(I.grew hg9).lt⟩,⟨(J.grew hg9).cell 0,(J.grew hg9).cell 1,(J.grew hg9).cell 2,(J.grew hg9).lt⟩⟩));clear ag ce p v0 vl;go_wp2_with fail;refine AB [9] (λw':World=>(w'.cell? ⟨v,0,none⟩=some (ptrV s)/\v<w'.heap.size)/\(w'.cell? ⟨w1.heap.size,0,none⟩=some (.string T.name)/\w'.cell? ⟨w1.heap.size,1,none⟩=some (.int .i64 T.tracks)/\w'.cell? ⟨w1.heap.size,2,none⟩=some (.slice A T.labels.length c)/\w1.heap.size<w'.heap.size)/\(w'.cell? ⟨w2.heap.size,0,none⟩=some (.string U.name)/\w'.cell? ⟨w2.heap.size,1,none⟩=some (.int .i64 U.tracks)/\w'.cell? ⟨w2.heap.size,2,none⟩=some (.slice A2 U.labels.length c2)/\w2.heap.size<w'.heap.size)) qk ?_;have hS:=V.out _ (iW w6).drew;refine tQ 0 47 ?_;refine tT 1 (some 48) hS ?_;refine tQ 2 49 ?_;refine tT 3 (some 50) hS ?_;refine tT 4 (some 51) hS ?_;refine tT 5 (some 52) hS ?_;refine tQ 7 54 ?_;refine tO 6 λK' hK=>?_;go_wp2_with fail;refine (SX A A2 c c2 ys zs T U _ (d0.hold (iW w6).drew) cz (d1.hold (iW w6).drew) O).mono ?_;rintro e w7 ⟨u7,rfl,L,g7⟩;have o:Grew w6 w7:=(iW w6).drew.trans g7;have bb:=AG ds o;have d2:=zh o;have bc:=zh L;go_wp2_with fail;refine hK.out _ _ (.inr (λ_=>V _ d2)) ?_;clear hK hS;refine tO 8 λK' hK=>?_;have bf:=Zm T U O.len;have bk:=eU T U O.len;have bl:=zh bk;obtain ⟨df,cf⟩:∃df,B6 T U=df:=⟨_,rfl⟩;rw [cf] at hr bf bl bc L;have bs:(df.map wrC).length=df.length:=by rw [iY]
 refine Hj (.tmp 53) (.tmp 54) 37 rfl w6.heap.size 41 2 24 _ Tryz.underlying37 QX rfl qd _ _ (ps.map B0) rfl (show OwnL w7 w6.heap.size 41 2 u7 (df.map wrC) from L) Au ps.length cu rfl (by rw [iY]) (cg ps) bb (cR ps) (by rw [bs];omega) (by rw [bs];omega) o.size ?_;intro u8 w8 b3 b4 d6;obtain ⟨cs,q⟩:∃cs,cs=df++ps:=⟨_,rfl⟩;have X:OwnL w8 w6.heap.size 41 2 u8 (cs.map B0):=by rw [q,il];exact b3
 have bt:cs.length<=1000000:=by rw [q,iy];omega
 have bv:∀e∈cs,okI e.1:=λe he=>by rw [q] at he;exact (ip.1 he).elim (bl e) (dn e)
 rw [<-q] at hr;have Y:Grew w6 w8:=Grew.own o b4 (λk e=>(bc.own_ge e).1) (iX _);have d3:=zh (V _ Y);obtain ⟨A8,c8,ch,_,_,ci⟩:=X.listAt;rw [iY] at ch;subst ch;have Z:=zh ((HD.grew S).more Y);have bx:cs≠[]->Et w0 (λk=>o1 k\/(w6.heap.size<=k/\k<w8.heap.size)) A8:=λ_ b off e=>.inr (.inr (X.own_ge (g:=b) (by rw [e];rfl)));have HR:=zh (cn (by first | trivial | rfl) w0 _ w8 Z.held.held cs bt bv A8 c8 ci bx);obtain ⟨⟨D2,e2⟩,cl⟩:∃r,Bk E sy ep cs=r:=⟨_,rfl⟩;rw [cl] at hr HR;injection hr with h1 h2;subst h1;subst h2;clear b3 q bt bv X b4 d6 Y ci bx cl L bb bf bk cf o g7;refine hK.out _ _ (.inr (λ_=>d3)) ?_;clear hK;refine tO 9 λK' hK=>?_;go_wp2_with fail;refine HR.mono ?_;rintro e w9 ⟨rfl,b5⟩;have d5:=zh (Z.out.trans (Z.held.done b5));clear b5;go_wp2_with fail;refine hK.out _ _ (.inl (by rfl)) ?_;clear hK;refine tQ 10 8 ?_;refine AA qk ?_ _;go_wp2_with fail;go_ret;exact ⟨rfl,_,d5⟩
end

end
end Go.Proofs.YtmcgbdemcknkaaaGreatDoor
