/- Parts of the proof (packed), 15. -/
import Derived.Shelf.SlSortCmp.NoneTotal
import Derived.Test.YtfklieeipokllaaGreatCyN
import Derived.Test.YtfklieeipokllaaGreatCyC
namespace Go.Proofs.YtfklieeipokllaaGreat
set_option linter.all false
set_option maxRecDepth 100000
set_option maxHeartbeats 16000000
open List
section
attribute [local go_sem ↓] Go.wp_at_zero Go.wp_at_succ
open Go.RowKit
def F1 (k:Nat):List (Int × ByteArray):=(List.range k).map λi:Nat=>(131+(i:Int),Ao Dt (nv 1) (131+(i:Int)))
def F2 (n k:Nat):List (Int × ByteArray):=(List.range k).map λj:Nat=>(1+(j:Int),Ao (AI (GA n j)) (nv 1) (1+(j:Int)))
theorem bK (k:Nat):F1 (k+1)=F1 k++[(131+(k:Int),Ao Dt (nv 1) (131+(k:Int)))]:=by unfold F1;rw [jW,fz];rfl
theorem dg (n k:Nat):F2 n (k+1)=F2 n k++[(1+(k:Int),Ao (AI (GA n k)) (nv 1) (1+(k:Int)))]:=by unfold F2;rw [jW,fz];rfl
def WO:List (Int × ByteArray):=[(0,Ao (AI ((List.range 32).map λ_=>nv 1)) (nv 1) 0)]
def dv (sy ep:Int) (n:Nat):List (Dev->Dev × Int):=(F1 n++F2 n 32++WO).map (λe D=>BN D sy ep e.1 e.2)++[λD=>BN D sy ep 33 blankR,λD=>Ci D sy ep]
theorem Yp (sy ep:Int) (n:Nat) (D:Dev):Dh (dv sy ep n) D=Bk sy ep (puts (FX n)++[.sync]) D:=by
 rw [<-UT];congr 1;unfold dv FX puts F1 F2 WO;simp only [fz,iq,map_cons,map_nil,iA,cons_append,nil_append];congr 1
theorem PutsAt.ver {W W':World} {lo s g:Nat} {L:List (Int × ByteArray)} {vs:List Value} {cs:Array Value} (h:PutsAt W lo s L vs) (hb:Blk W g 185 cs) (ht:Turned (λq=>q=g) W W'):PutsAt W' lo s L vs:=by
 refine ⟨h.1,λk e v h1 h2=>?_⟩;obtain ⟨a,b,c,rfl,la,lb,lc,ha,d,hc⟩:=h.2 k e v h1 h2;exact ⟨a,b,c,rfl,la,lb,lc,ha.turned ht (Blk.ne_ ha hb qd),d.turned ht (Blk.ne_ d hb qd),hc.turned ht (Blk.ne_ hc hb qd)⟩
theorem OwnL.ver {W W':World} {base g:Nat} {v:Value} {rows:List (List Value)} {cs:Array Value} (h:OwnL W base 196 1 v rows) (hb:Blk W g 185 cs) (ht:Turned (λq=>q=g) W W'):OwnL W' base 196 1 v rows:=
 h.kept ht (λq hq e=>h.ne_blk hb qd (by rw [hq,e]))
theorem VS:u32 (nv 1)=1:=qd
theorem CN (i:Int) (h:0<=i/\i<=100000):okI i:=by unfold okI;omega
theorem OD (d:ByteArray) (i:Int) (w:World) (hd:d.size<=1000000) (hi:0<=i/\i<=100000):Calls Tryz.prog 110 #[.string d,.int .u32 1,.int .i64 i] w λe w'=>e=.returned (.string (Ao d (nv 1) i))/\Grew w w':=by
 have h:=Il d (nv 1) i w oo (CN i hi);rw [VS] at h;exact h
theorem V2 (S:Nat->BitVec 32) (k:Nat):(AC S).setIfInBounds k (.int .u32 1)=AC λi=>if i=k then nv 1 else S i:=by
 rw [show (Value.int IntKind.u32 1)=.int .u32 (u32 (nv 1)) from by rw [VS],Hc]
theorem bJ (n q j:Nat) (h:32*q+j<n):(AC λp=>if p<j then (if 32*q+p<n then nv 1 else nv 0) else 0#32).setIfInBounds j (.int .u32 1)=AC λp=>if p<j+1 then (if 32*q+p<n then nv 1 else nv 0) else 0#32:=by
 rw [V2];refine BJ λi _=>?_;rw [<-J7 (λp=>if 32*q+p<n then nv 1 else nv 0) (λ_=>0#32) j i];by_cases a:i=j
 . subst a;rw [if_pos rfl,if_pos rfl,if_pos h]
 . rw [if_neg a,if_neg a]
theorem fC (n q j:Nat) (h:¬32*q+j<n):(AC λp=>if p<j then (if 32*q+p<n then nv 1 else nv 0) else 0#32)=AC λp=>if p<j+1 then (if 32*q+p<n then nv 1 else nv 0) else 0#32:=by
 refine BJ λi _=>?_;rw [<-J7 (λp=>if 32*q+p<n then nv 1 else nv 0) (λ_=>0#32) j i];by_cases a:i=j
 . subst a;rw [if_pos rfl,if_neg oo,if_neg h];rfl
 . rw [if_neg a]
theorem dT (q:Nat):(AC λj=>if j<q then nv 1 else 0#32).setIfInBounds q (.int .u32 1)=AC λj=>if j<q+1 then nv 1 else 0#32:=by
 rw [V2];exact BJ λi _=>J7 (λ_=>nv 1) (λ_=>0#32) q i
theorem Wt {w0:World} {x s m:Nat} {sy ep:Int} {D:Dev} {out:Nat->Prop} {W w9:World} (hL:Live w0 x D out W) (hg:Grew W w9) (c:StoreM w9 s m x sy ep) (hs:W.heap.size<=s) (hp:D.pend.length<=900000) {base:Nat} (t:W.heap.size<=base) (n:Nat) (hn:n<=1024) {vs:List Value} {F:Value} {v2:Value}
 (h:PutsAt w9 base s (F1 n++F2 n 32++WO) (vs++[F])) (j:OwnL w9 base 196 1 v2 ((vs++[F,.func (.func 143) #[ptrV s] #[],.func (.func 115) #[ptrV s] #[]]).map λv=>[v])):
 ∃A2 n2 c2,v2=.slice A2 n2 c2/\Calls Tryz.prog 118 #[.slice A2 n2 c2] w9 λe w'=>e=.returned (.int .i64 (Bk sy ep (puts (FX n)++[.sync]) D).2)/\Live w0 x (Bk sy ep (puts (FX n)++[.sync]) D).1 out w'/\Beside w0 out W w':=by
 obtain ⟨A2,c2,a,_,_,r⟩:=j.listAt;rw [fm] at a;have d:=h.1;have l:(F1 n++F2 n 32++WO).length=n+33:=by unfold F1 F2 WO;simp
 have o:(vs++[F,.func (.func 143) #[ptrV s] #[],.func (.func 115) #[ptrV s] #[]]).length=n+35:=by
  rw [gK] at d ⊢;rw [l] at d;simp at d ⊢;omega
 refine ⟨A2,_,c2,a,?_⟩;have p:∀k,base<=k->k<w9.heap.size->(λk=>out k\/(W.heap.size<=k/\k<w9.heap.size)) k:=λk h1 h2=>.inr ⟨oo,h2⟩;have f:(λk=>out k\/(W.heap.size<=k/\k<w9.heap.size)) s:=.inr ⟨hs,c.lt.1⟩
 have q:∀e∈F1 n++F2 n 32++WO,e.2.size<=9223372036854775807:=by
  intro e he
  have:e.2.size=140:=by
   rcases gC.1 he with he | he
   . rcases gC.1 he with he | he
     . obtain ⟨i,_,rfl⟩:=ft.1 he;exact BS ..
     . obtain ⟨i,_,rfl⟩:=ft.1 he;exact BS ..
   . rw [fp.1 he];exact BS ..
  omega
 have hw:WorksL w0 x (λk=>out k\/(W.heap.size<=k/\k<w9.heap.size)) w9 1 (dv sy ep n) (vs++[F,.func (.func 143) #[ptrV s] #[],.func (.func 115) #[ptrV s] #[]]):=by
  have:=(WorksL.puts (w0:=w0) (x:=x) c.blk f p q h).app (WorksL.cons (MG c.blk f) (WorksL.cons ((F8 c.blk f).more oo) (WorksL.nil ..)));rw [iA vs] at this;exact this
 refine (SU (hL.more hg) 1 (dv sy ep n) _ hw oo oo A2 c2 r (λb off e=>?_)).mono ?_
 . rcases j.form with ⟨_,h0⟩ | ⟨g,cap,e1,h1,h2,_⟩
   . have:=gJ length h0;rw [fm,o,length_nil] at this;omega
   . rw [e1] at a;injection a with a _ _;rw [e] at a;injection a with a;injection a with a _ _;subst a;exact .inr (.inr ⟨oo,h2⟩)
 . rintro e w' ⟨he,h1,h2,_⟩;rw [Yp] at he h1;exact ⟨he,h1.few (λk hk=>.inl hk),Beside.wide hg h2 (λk hk=>.inl hk)⟩
section
variable {w0:World} {x:Nat} {sy ep:Int} {D:Dev} {out:Nat->Prop} {W:World}
theorem UG (h:Live w0 x D out W) (F:132<=D.st.length/\D.st.length<=1155) (hs:1<=sy/\sy<=4) (he:0<=ep/\ep<=1099511627776) (hp:D.pend.length<=900000):
 Calls Tryz.prog 71 #[ptrV x,.agg #[.int .i64 sy,.int .i64 ep]] W λe w'=>e=.returned (.int .i64 (GW D sy ep).2)/\Live w0 x (GW D sy ep).1 out w'/\Beside w0 out W w':=by
 have co:=zh (λ(w1:World) (hg:Grew W w1)=>Q1 (h.grew hg) sy ep F hs he);have cp:=zh (λ(w1:World) (hg:Grew W w1)=>Kc (h.grew hg) sy ep);have cq:=zh (λ(w1:World) (hg:Grew W w1)=>DD (h.grew hg));have ae:IG D sy ep=true:=by unfold IG DA;simp;omega
 obtain ⟨n,hn⟩:∃n:Nat,D.st.length - 131=n:=⟨_,rfl⟩;have eq:(D.st.length:Int) - 131=(n:Int):=oo;have er:1<=n/\n<=1024:=oo;have es:(D.st.length:Int)<=1155:=oo;have cr:Hid (GW D sy ep=Bk sy ep (puts (FX n)++[.sync]) D):=zh (by unfold GW;rw [if_neg (by rw [ae];simp),hn]);have HL:=zh h;have HP:=zh hp;have L:Grew W (W.alloc (.cells #[.int .i64 sy,.int .i64 ep] 37)):=(fh W).alloc _;have hz:=GE;have cs:=zh (λ(i:Int) (w:World) (hi:0<=i/\i<=100000)=>OD Dt i w (by show 0<=1000000;omega) hi);clear h F hs he hp ae hn;go_enter Tryz.func71,Tryz.ntmps71;go_wp2_with fail;refine (co _ L).mono ?_;rintro e w1 ⟨rfl,g1⟩;have aj:Grew W w1:=L.trans g1;have G:=(fy W 37 #[.int .i64 sy,.int .i64 ep] rfl).grew g1;have c0:=G.cell 0;have c1:=G.cell 1;have cl:=G.lt;have M:=zh aj;clear aj G g1 L;go_wp2_with fail;refine (cp _ M).mono ?_;rintro e w2 ⟨s,m,rfl,b2,g2,b3,ee⟩;have y:Grew W w2:=M.out.trans g2;have al:W.heap.size<=s:=fx M.size b3;have cu:=zh b2;have N:=zh y;have cv:=zh al;clear b2 g2 b3 ee y c0 c1 cl al;go_wp2_with fail;refine (cq _ N).mono ?_;rintro e w3 ⟨rfl,rfl⟩;go_wp2_with fail
 go_loopg [7,24] n (λgk u i wr=>∃(k:Nat) (vs:List Value),k<=n/\gk=n - k/\i=.int .i64 k/\OwnL wr w2.heap.size 196 1 u (vs.map λv=>[v])/\PutsAt wr w2.heap.size s (F1 k) vs/\Grew w2 wr)
 case atStart=>exact ⟨0,[],oo,oo,rfl,OwnL.nil ..,PutsAt.nil ..,fh _⟩
 case round=>
  obtain ⟨k,vs,hk,ca,rfl,cb,cc,hg⟩:=hrel;have cw:=zh ca;have an:=zh cb;have O:=zh cc;have HG:=zh hg;clear ca cb cc hg;by_cases ec:k<n
  . have et:(k:Int)<(n:Int):=oo;have cx:=zh (cs (131+(k:Int)) wr oo);go_wp2_with fail;refine cx.mono ?_;rintro e wA ⟨rfl,gA⟩;go_wp2_with fail;refine (JD _ _ _ _).mono ?_;rintro e wB ⟨v,rfl,l,gB⟩;obtain ⟨a,rfl⟩:=l.form;have b:Grew wr wB:=gA.trans gB;have z:PutAt wB w2.heap.size s (131+(k:Int)) (Ao Dt (nv 1) (131+(k:Int))) (.func (.func 182) #[] a):=l.low (by have:=HG.size;have:=gA.size;omega);have f:=zh (an.grew b);have P:=zh ((O.grew b).snoc (e:=(131+(k:Int),Ao Dt (nv 1) (131+(k:Int)))) z);have Q:=O.1;have A:=zh (HG.out.trans b);have cy:w2.heap.size<=wB.heap.size:=A.size;have F:vs.length<=1100:=by rw [Q];simp [F1,F2];omega
    clear l gA gB b z Q;go_wp2_with (at_builtin;refine BZ rfl _ _ 195 rfl w2.heap.size 196 1 8 .nilFunc Tryz.underlying195 F9 rfl qd (wB.alloc (.cells #[.func (.func 182) #[] a] 196)) u7 (vs.map λv=>[v]) [.func (.func 182) #[] a] rfl rfl (f.alloc _) wB.heap.size (by rfl) (fy _ _ _ rfl) rfl (by rw [fm];omega) (by rw [fm];omega) (by simp;omega) vs.length (by rw [fm]) ?_);intro g9 e2 wC b4 Y _ _;have av:Grew w2 wC:=(A.alloc _).own Y f.row_ge (fk _);have a0:=(P.grew ((fh wB).alloc (.cells #[.func (.func 182) #[] a] 196))).own (f.alloc (.cells #[.func (.func 182) #[] a] 196)) Y;have cz:=zh b4;have c3:=zh av;have c4:=zh a0;clear b4 Y av a0 cy F;have c5:=zh (bK k);go_wp2_with fail
    go_roundg (n - (k+1))
    case measure=>rw [cw.out];omega
    case rel=>exact ⟨k+1,vs++[.func (.func 182) #[] a],oo,oo,by go_num,by rw [fz];exact cz.out,by rw [c5.out];exact c4.out,c3⟩
  . obtain rfl:n=k:=oo;have a1:w2.heap.size<=wr.heap.size:=HG.size;obtain ⟨wa,el⟩:∃wa:World,wa=wr:=⟨_,rfl⟩;subst el;clear ec;have a2:Blk (wa.alloc (.cells (AC λ_=>0#32) 185)) wa.heap.size 185 (AC λ_=>0#32):=fy wa _ _ rfl;have c6:=zh a2;have H:Grew wa (wa.alloc (.cells (AC λ_=>0#32) 185)):=(fh wa).alloc _;have c7:=zh (an.grew H);have c8:=zh (O.grew H);have c9:=zh (HG.out.trans H);clear a2 H;go_wp2_with fail
    go_loopg [7,38] 32 (λgk u i wr=>∃(q:Nat) (d:List Value),q<=32/\gk=32 - q/\i=.int .i64 q/\OwnL wr w2.heap.size 196 1 u (d.map λv=>[v])/\PutsAt wr w2.heap.size s (F1 n++F2 n q) d/\Blk wr wa.heap.size 185 (AC λj=>if j<q then nv 1 else 0#32)/\Grew w2 wr)
    case atStart=>exact ⟨0,vs,oo,oo,rfl,c7,by rw [show F2 n 0=[] from rfl,append_nil];exact c8.out,by (apply Blk.conv;(· exact c6.out);(· exact BJ λi _=>qs)),c9⟩
    case round=>
     obtain ⟨q,d,hq,ce,rfl,cf,ch,r,y⟩:=hrel;have da:=zh ce;have a3:=zh cf;have a4:=zh ch;have R:=zh r;have S:=zh y;clear ce cf ch r y;by_cases bx:q<32
     . have eu:(q:Int)<32:=oo;obtain ⟨wb,em⟩:∃wb:World,wb=wr:=⟨_,rfl⟩;subst em;go_wp2_with fail;have c:Blk (wb.alloc (.cells (AC λ_=>0#32) 185)) wb.heap.size 185 (AC λ_=>0#32):=fy wb _ _ rfl;have T:=zh c;clear c
       go_loopg [41] 32 (λg3 i wr=>∃j:Nat,j<=32/\g3=32 - j/\i=.int .i64 j/\Blk wr wb.heap.size 185 (AC λp=>if p<j then (if 32*q+p<n then nv 1 else nv 0) else 0#32)/\Turned (λp=>p=wb.heap.size) (wb.alloc (.cells (AC λ_=>0#32) 185)) wr)
       case atStart=>exact ⟨0,oo,oo,rfl,by (apply Blk.conv;(· exact T.out);(· exact BJ λi _=>qs)),gW _ _⟩
       case round=>
        obtain ⟨j,hj,ci,rfl,c,cj⟩:=hrel;have a5:=zh ci;have o:=zh cj;clear ci cj;by_cases b0:j<32
        . have ex:(j:Int)<32:=oo;by_cases b1:32*q+j<n
          . have dd:decide (32*(q:Int)+(j:Int)<(n:Int))=true:=gD oo;have ha:=c.cell j;rw [Cf _ _ b0] at ha;have hf:=c.frozen j;have Q:=c.lt;go_wp2_with fail
            go_roundg (32 - (j+1))
            case measure=>rw [a5.out];omega
            case rel=>exact ⟨j+1,oo,oo,by go_num,by (apply Blk.conv;(· (repeat' first | (with_reducible assumption) | (with_reducible apply Blk.setRow) | ((with_reducible apply Blk.farRow);rotate_left;(focus (first | (simp;done) | (simp;omega) | omega))) | (with_reducible apply Blk.drew) | (with_reducible apply Blk.drewN) | (with_reducible apply Blk.set_) | (with_reducible exact fy _ _ _ (by first | rfl | (simp;done) | (simp;omega))) | (with_reducible apply Blk.alloc) | ((with_reducible apply Blk.far);rotate_left;(focus (first | (simp;done) | (simp;omega) | omega))) | ((with_reducible apply Blk.grew);rotate_left;(with_reducible assumption)) | ((with_reducible apply Blk.turned);rotate_left;(with_reducible assumption);(focus (first | (simp;done) | (simp;omega) | omega))) | fail));(· exact bJ n q j b1)),o.setCell (λ_=>rfl) _⟩
          . have dd:decide (32*(q:Int)+(j:Int)<(n:Int))=false:=gE oo;go_wp2_with fail
            go_roundg (32 - (j+1))
            case measure=>rw [a5.out];omega
            case rel=>exact ⟨j+1,oo,oo,by go_num,by (apply Blk.conv;(· (repeat' first | (with_reducible assumption) | (with_reducible apply Blk.setRow) | ((with_reducible apply Blk.farRow);rotate_left;(focus (first | (simp;done) | (simp;omega) | omega))) | (with_reducible apply Blk.drew) | (with_reducible apply Blk.drewN) | (with_reducible apply Blk.set_) | (with_reducible exact fy _ _ _ (by first | rfl | (simp;done) | (simp;omega))) | (with_reducible apply Blk.alloc) | ((with_reducible apply Blk.far);rotate_left;(focus (first | (simp;done) | (simp;omega) | omega))) | ((with_reducible apply Blk.grew);rotate_left;(with_reducible assumption)) | ((with_reducible apply Blk.turned);rotate_left;(with_reducible assumption);(focus (first | (simp;done) | (simp;omega) | omega))) | fail));(· exact fC n q j b1)),o⟩
        . obtain rfl:j=32:=oo;clear b0;have hS:(AC λp=>if p<32 then (if 32*q+p<n then nv 1 else nv 0) else 0#32)=AC λp=>if 32*q+p<n then nv 1 else nv 0:=BJ λi hi=>by rw [if_pos hi]
          rw [hS] at c;have df:=R.out.lt;have a6:¬wa.heap.size=wb.heap.size:=oo;have g:=(R.alloc (.cells (AC λ_=>0#32) 185)).turned o a6;have a7:Grew w2 wr:=(S.alloc (.cells (AC λ_=>0#32) 185)).turn o (λp e=>by rw [e];exact S.size);have a8:=(a3.alloc (.cells (AC λ_=>0#32) 185)).ver T o;have a9:=(a4.grew ((fh wb).alloc (.cells (AC λ_=>0#32) 185))).ver T o;have I:Turned (λp=>p=wa.heap.size) wr (wr.setCell ⟨wa.heap.size,q,none⟩ (.int .u32 1)):=(gW (λp=>p=wa.heap.size) wr).setCell (p:=⟨wa.heap.size,q,none⟩) (λ_=>rfl) _;have bb:=zh (c.turned I (λe=>a6 e.symm));have bc:=zh ((g.set_ q (.int .u32 1)).conv (dT q));have bd:=zh (a8.ver g I);have bf:=zh (a9.ver g I);have bk:=zh (a7.setCell (p:=⟨wa.heap.size,q,none⟩) (by exact HG.size) (.int .u32 1));have bl:=g.cell q;rw [Cf _ _ bx] at bl;have dk:=g.frozen q;have ds:=g.lt;clear c g a7 a8 a9 I hS df;go_wp2_with fail;obtain ⟨wd,cm⟩:∃wd,wd=wr.setCell ⟨wa.heap.size,q,none⟩ (.int .u32 1):=⟨_,rfl⟩;rw [<-cm] at bb bc bd bf bk ⊢;clear cm bl dk ds;refine (JB _ _ _ bb).mono ?_;rintro e we ⟨rfl,ge⟩;have d0:=zh (bc.grew ge);have U:=zh (bd.grew ge);have B:=zh (bf.grew ge);have C:=zh (bk.out.trans ge);clear ge;have V:=zh (OD (AI (GA n q)) (1+(q:Int)) we (by rw [EH];unfold GA;rw [fm,io];omega) oo);rw [show (List.range 32).map (λp=>if 32*q+p<n then nv 1 else nv 0)=GA n q from rfl];go_wp2_with fail;refine V.mono ?_;rintro e e3 ⟨rfl,Z⟩;go_wp2_with fail;refine (JD _ _ _ _).mono ?_;rintro e t ⟨v2,rfl,aa,b5⟩;obtain ⟨a,rfl⟩:=aa.form;have E:Grew we t:=Z.trans b5;have bn:PutAt t w2.heap.size s (1+(q:Int)) (Ao (AI (GA n q)) (nv 1) (1+(q:Int))) (.func (.func 182) #[] a):=aa.low (by have:=C.size;have:=Z.size;omega);have J:=zh (U.grew E);have d1:=zh ((B.grew E).snoc (e:=(1+(q:Int),Ao (AI (GA n q)) (nv 1) (1+(q:Int)))) bn);have bo:=B.1;have br:=zh (C.out.trans E);have a1:w2.heap.size<=t.heap.size:=br.size;have d2:d.length<=1100:=by rw [bo];simp [F1,F2];omega
          have bs:=zh (d0.grew E);clear aa Z b5 E bn bo;go_wp2_with (at_builtin;refine BZ rfl _ _ 195 rfl w2.heap.size 196 1 8 .nilFunc Tryz.underlying195 F9 rfl qd (t.alloc (.cells #[.func (.func 182) #[] a] 196)) u7 (d.map λv=>[v]) [.func (.func 182) #[] a] rfl rfl (J.alloc _) t.heap.size (by rfl) (fy _ _ _ rfl) rfl (by rw [fm];omega) (by rw [fm];omega) (by simp;omega) d.length (by rw [fm]) ?_);intro e4 e5 eg b6 K _ _;have bt:Grew w2 eg:=(br.alloc _).own K J.row_ge (fk _);have bv:=(d1.grew ((fh t).alloc (.cells #[.func (.func 182) #[] a] 196))).own (J.alloc (.cells #[.func (.func 182) #[] a] 196)) K;have d3:=zh ((bs.out.alloc (.cells #[.func (.func 182) #[] a] 196)).own K (J.ne_blk bs.out qd));have d4:=zh b6;have d5:=zh bt;have d6:=zh bv;clear b6 K bt bv a1 d2;have d7:=zh (dg n q);go_wp2_with fail
          go_roundg (32 - (q+1))
          case measure=>rw [da.out];omega
          case rel=>exact ⟨q+1,d++[.func (.func 182) #[] a],oo,oo,by go_num,by rw [fz];exact d4.out,by rw [d7.out,<-iA];exact d6.out,d3,d5⟩
     . obtain rfl:q=32:=oo;have hS:(AC λj=>if j<32 then nv 1 else 0#32)=AC λ_=>nv 1:=BJ λi hi=>by rw [if_pos hi]
       have r:=R.out;rw [hS] at r;have ea:=zh r;clear r hS bx;go_wp2_with fail;refine (JB _ _ _ ea).mono ?_;rintro e we ⟨rfl,ge⟩;have U:=zh (a3.grew ge);have B:=zh (a4.grew ge);have C:=zh (S.out.trans ge);clear ge;have V:=zh (OD (AI ((List.range 32).map λ_=>nv 1)) 0 we (by rw [EH,fm,io];omega) oo);go_wp2_with fail;refine V.mono ?_;rintro e wA ⟨rfl,gA⟩;go_wp2_with fail;refine (JD _ _ _ _).mono ?_;rintro e wB ⟨v,rfl,l,gB⟩;obtain ⟨a,rfl⟩:=l.form;have b:Grew we wB:=gA.trans gB;have z:PutAt wB w2.heap.size s 0 (Ao (AI ((List.range 32).map λ_=>nv 1)) (nv 1) 0) (.func (.func 182) #[] a):=l.low (by have:=C.size;have:=gA.size;omega);have f:=zh (U.grew b);have P:=zh ((B.grew b).snoc (e:=(0,Ao (AI ((List.range 32).map λ_=>nv 1)) (nv 1) 0)) z);have A:=zh (C.out.trans b);have e0:w2.heap.size<=wB.heap.size:=A.size;have e1:d.length<=1100:=by rw [B.out.1];simp [F1,F2];omega
       clear l gA gB b z;go_wp2_with (at_builtin;refine CF (by rfl) _ _ 195 rfl w2.heap.size 196 1 8 .nilFunc Tryz.underlying195 F9 rfl qd u7 (d.map λv=>[v]) (([.func (.func 182) #[] a,.func (.func 143) #[ptrV s] #[],.func (.func 115) #[ptrV s] #[]]:List Value).map λv=>[v]) rfl (f.alloc _) (some ⟨wB.heap.size,0,none⟩) 3 3 (by rfl) rfl (OA _) (KT (fy _ _ _ rfl) qs) (Nr (by rfl)) (by rw [fm];omega) (by rw [fm];omega) (by simp;omega) ?_);intro v9 w9 b9 ad _;have X:Grew w2 w9:=(A.alloc _).own ad f.row_ge (fk _);have bw:=(P.grew ((fh wB).alloc (.cells #[.func (.func 182) #[] a,.func (.func 143) #[ptrV s] #[],.func (.func 115) #[ptrV s] #[]] 196))).own (f.alloc (.cells #[.func (.func 182) #[] a,.func (.func 143) #[ptrV s] #[],.func (.func 115) #[ptrV s] #[]] 196)) ad;have HD:=zh (Wt HL (N.out.trans X) (cu.grew X) cv HP N.size n oo bw (by rw [fz];exact b9));clear b9 ad bw X;obtain ⟨A2,n2,c2,rfl,hd⟩:=HD.out;have eb:=zh hd;clear hd;go_wp2_with fail;refine eb.mono ?_;rintro e e6 ⟨rfl,ei,ek⟩;go_wp2_with fail;go_ret;rw [cr.out];exact ⟨rfl,ei,ek⟩
end

def Cy (D:Dev) (k:Nat):Prop:=(topI D).ok=true/\(mapI D k).ok=true/\(mapI D k).ver=fld (topI D).data k
instance (D:Dev) (k:Nat):Decidable (Cy D k):=by unfold Cy;exact inferInstance
def Ds (D:Dev) (k:Nat):Int:=if (topI D).ok=false then 11 else if (mapI D k).ok=false then 11 else 12
structure ViewAt (w:World) (lo g s mm:Nat) (topv:Value) (F:Int->Option Value) (D:Dev):Prop where
 blk:Blk w g 287 #[ptrV s,topv,.map (some mm)]
 lg:lo<=g
 lm:lo<=mm
 map:MapI w mm F
 top:topv=.pointer none\/∃t,lo<=t/\topv=ptrV t/\Blk w t 185 (AC (fld (topI D).data))/\(topI D).ok=true
 maps:∀k v,F k=some v->∃(b j:Nat),k=(j:Int)/\v=ptrV b/\lo<=b/\Blk w b 185 (AC (fld (mapI D j).data))/\Cy D j
def ViewM (w:World) (lo g s mm:Nat) (D:Dev):Prop:=∃topv F,ViewAt w lo g s mm topv F D
theorem ViewAt.kept {w w':World} {lo g s mm:Nat} {topv:Value} {F:Int->Option Value} {D:Dev} (h:ViewAt w lo g s mm topv F D) {S:Nat->Prop} (ht:Turned S w w') (hS:∀k,lo<=k->k<w.heap.size->¬S k):ViewAt w' lo g s mm topv F D:=by
 refine ⟨h.blk.turned ht (hS g h.lg h.blk.lt),h.lg,h.lm,h.map.turned ht (hS mm h.lm h.map.lt),?_,λk v hk=>?_⟩
 . rcases h.top with h1 | ⟨t,h1,h2,h3,h4⟩
   . exact .inl h1
   . exact .inr ⟨t,h1,h2,h3.turned ht (hS t h1 h3.lt),h4⟩
 . obtain ⟨b,j,h1,h2,h3,h4,h5⟩:=h.maps k v hk;exact ⟨b,j,h1,h2,h3,h4.turned ht (hS b h3 h4.lt),h5⟩
theorem ViewAt.grew {w w':World} {lo g s mm:Nat} {topv:Value} {F:Int->Option Value} {D:Dev} (h:ViewAt w lo g s mm topv F D) (hg:Grew w w'):ViewAt w' lo g s mm topv F D:=h.kept (hg.turned (λ_=>False)) (λ_ _ _ h=>h)
theorem ViewAt.looked {w0:World} {x s' m:Nat} {sy ep:Int} {E:Dev} {out:Nat->Prop} {w w':World} {lo g s mm:Nat} {topv:Value} {F:Int->Option Value} {D:Dev} (h:ViewAt w lo g s mm topv F D) (hl:Looked w0 x s' m sy ep E out w w') (hm:m<lo):ViewAt w' lo g s mm topv F D:=h.kept hl.turned (λk hk _ e=>oo)
theorem ViewAt.ver_ne {w:World} {lo g s mm:Nat} {topv:Value} {F:Int->Option Value} {D:Dev} (h:ViewAt w lo g s mm topv F D) {b:Nat} {cs:Array Value} (hb:Blk w b 185 cs):¬b=g/\¬b=mm:=⟨Blk.ne_ hb h.blk qd,Cd hb h.map⟩
theorem ViewAt.setTop {w:World} {lo g s mm:Nat} {topv:Value} {F:Int->Option Value} {D:Dev} (h:ViewAt w lo g s mm topv F D) {t:Nat} (ht:lo<=t) (hb:Blk w t 185 (AC (fld (topI D).data))) (a:(topI D).ok=true):ViewAt (w.setCell ⟨g,1,none⟩ (ptrV t)) lo g s mm (ptrV t) F D:=by
 have hT:Turned (λk=>k=g) w (w.setCell ⟨g,1,none⟩ (ptrV t)):=(gW (λk=>k=g) w).setCell (p:=⟨g,1,none⟩) (λ_=>rfl) _;refine ⟨h.blk.set_ 1 _,h.lg,h.lm,h.map.turned hT (λe=>Cd h.blk h.map e.symm),.inr ⟨t,ht,rfl,hb.turned hT (h.ver_ne hb).1,a⟩,λk v hk=>?_⟩;obtain ⟨b,j,h1,h2,h3,h4,h5⟩:=h.maps k v hk;exact ⟨b,j,h1,h2,h3,h4.turned hT (h.ver_ne h4).1,h5⟩
theorem ViewAt.setMap {w w':World} {lo g s mm:Nat} {topv:Value} {F:Int->Option Value} {D:Dev} (h:ViewAt w lo g s mm topv F D) {b k:Nat} (c:lo<=b) (hb:Blk w b 185 (AC (fld (mapI D k).data))) (d:Cy D k) (hm:MapI w' mm (upd F (k:Int) (some (ptrV b)))) (ht:Turned (λq=>q=mm) w w'):ViewAt w' lo g s mm topv (upd F (k:Int) (some (ptrV b))) D:=by
 refine ⟨h.blk.turned ht (Cd h.blk h.map),h.lg,h.lm,hm,?_,λq v hq=>?_⟩
 . rcases h.top with h1 | ⟨t,h1,h2,h3,h4⟩
   . exact .inl h1
   . exact .inr ⟨t,h1,h2,h3.turned ht (h.ver_ne h3).2,h4⟩
 . by_cases a:q=(k:Int)
   . subst a;rw [DI] at hq;exact ⟨b,k,rfl,(Option.some.inj hq).symm,c,hb.turned ht (h.ver_ne hb).2,d⟩
   . rw [DK _ _ a] at hq;obtain ⟨b',j,h1,h2,h3,h4,h5⟩:=h.maps q v hq;exact ⟨b',j,h1,h2,h3,h4.turned ht (h.ver_ne h4).2,h5⟩
theorem TT {D:Dev} (hf:D.failed=false) (k:Nat) (hk:k<32) (hl:132<=D.st.length) (v:BitVec 32):C1 D (1+(k:Int)) v=(if (mapI D k).ok=false then (KV,11) else if (mapI D k).ver≠v then (KV,12) else (mapI D k,0)):=by
 unfold C1;rw [show (1+(k:Int))=((1+k:Nat):Int) from oo,Dx hf (1+k) oo,if_neg qs];rfl
theorem SW (s:Nat) (D:Dev) (lo:Nat) (w:World) (a:lo<=w.heap.size):Calls Tryz.prog 150 #[ptrV s] w λe w'=>∃g mm,e=.returned (ptrV g)/\ViewM w' lo g s mm D/\Grew w w':=by
 have b:=@run_makeMap Tryz.prog;have HB:Hid (Blk ((w.alloc (.map #[] 0)).alloc (.cells #[ptrV s,.pointer none,.map (some w.heap.size)] 287)) (w.heap.size+1) 287 #[ptrV s,.pointer none,.map (some w.heap.size)]):=zh (fy _ _ _ qs);have HM:Hid (MapI ((w.alloc (.map #[] 0)).alloc (.cells #[ptrV s,.pointer none,.map (some w.heap.size)] 287)) w.heap.size (λ_=>none)):=zh ((MapIs.made _ rfl).alloc _);go_enter Tryz.func150,Tryz.ntmps150;go_wp2_with fail;go_ret;exact ⟨_,_,rfl,⟨_,_,⟨HB,oo,oo,HM,.inl rfl,λk v h=>by cases h⟩⟩,gG⟩

theorem F4 (w:World):(zeroValue 188).run Tryz.prog w=.ok (.pointer none) w:=qk
theorem BG {w1 w2:World} (hg:Grew w1 w2) {b o:Nat} {v:Value} (h:w1.cell? ⟨b,o,none⟩=some v):w2.cell? ⟨b,o,none⟩=some v:=(hg.cellEq b o (MV h).1).trans h
theorem Qt {w1 w2:World} {g t' k s:Nat} {ver:BitVec 32} (hg:Grew w1 w2) (h:(λw':World=>w'.cell? ⟨g,0,none⟩=some (ptrV s)/\w'.cell? ⟨g,1,none⟩=some (ptrV t')/\g<w'.heap.size/\w'.cell? ⟨t',k,none⟩=some (.int .u32 (u32 ver))/\t'<w'.heap.size) w1):(λw':World=>w'.cell? ⟨g,0,none⟩=some (ptrV s)/\w'.cell? ⟨g,1,none⟩=some (ptrV t')/\g<w'.heap.size/\w'.cell? ⟨t',k,none⟩=some (.int .u32 (u32 ver))/\t'<w'.heap.size) w2:=⟨BG hg h.1,BG hg h.2.1,fw h.2.2.1 hg.size,BG hg h.2.2.2.1,fw h.2.2.2.2 hg.size⟩
def up (out:Nat->Prop) (lo:Nat) (w:World) (k:Nat):Prop:=out k\/(lo<=k/\k<w.heap.size)
theorem Held.up {w0:World} {x s m lo:Nat} {sy ep:Int} {D:Dev} {out:Nat->Prop} {W w':World} (h:Held w0 x s m sy ep D (up out lo W) W) (hl:w0.heap.size<=lo/\s<lo) (hm:m<lo) (ht:Turned (λq=>q=m\/lo<=q) W w') (c:StoreM w' s m x sy ep):Held w0 x s m sy ep D (up out lo w') w':=by
 have d:=h.os;have a:=h.om;obtain ⟨q,hx,hd,e,hf,hn⟩:=h.live
 have b:∀k,q.feet k->k<lo:=λk hk=>by
  rcases iQ k lo with h9 | h9
  . exact h9
  . exact absurd hk (hn k (.inr ⟨h9,hd.feet_lt k hk⟩)).2
 refine ⟨⟨q,hx,hd.kept ht (λk hk h9=>?_),e.turn ht (λk hk=>?_),hf,λk hk=>?_⟩,c,?_,?_,h.m0⟩
 . rcases h9 with h9 | h9
   . rw [h9] at hk;exact (hn m a).2 hk
   . exact absurd (b k hk) oo
 . rcases hk with hk | hk
   . rw [hk];exact h.m0
   . omega
 . rcases hk with hk | hk
   . exact ⟨fw (hn k (.inl hk)).1 ht.size,(hn k (.inl hk)).2⟩
   . exact ⟨hk.2,λh9=>absurd (b k h9) oo⟩
 . rcases d with h9 | h9
   . exact .inl h9
   . exact absurd h9.1 oo
 . rcases a with h9 | h9
   . exact .inl h9
   . exact absurd h9.1 oo
def Zz (w0:World) (x s m:Nat) (sy ep:Int) (D:Dev) (out:Nat->Prop) (W:World) (lo g mm k:Nat) (e:Ending) (w':World):Prop:=
 ((Cy D k->∃b,e=.returned (.tuple #[ptrV b,.int .i64 0])/\Blk w' b 185 (AC (fld (mapI D k).data))/\lo<=b)/\(¬Cy D k->e=.returned (.tuple #[.pointer none,.int .i64 (Ds D k)])))/\
 Held w0 x s m sy ep D (up out lo w') w'/\ViewM w' lo g s mm D/\Turned (λq=>q=m\/q=g\/q=mm) W w'
section
variable {w0:World} {x s m:Nat} {sy ep:Int} {D:Dev} {out:Nat->Prop} {W:World} {lo g mm:Nat} (h:Held w0 x s m sy ep D (up out lo W) W) (hlow:w0.heap.size<=lo/\s<lo) (hlen:132<=D.st.length) (hf:D.failed=false) {F:Int->Option Value} (hm:m<lo) (k:Nat) (hk:k<32)
include h hlow hlen hf hm hk
theorem Zt (t:Nat) (hv:ViewAt W lo g s mm (ptrV t) F D):Calls Tryz.prog 204 #[ptrV g,.int .i64 (k:Int)] W (Zz w0 x s m sy ep D out W lo g mm k):=by
 have A:=zh (λ(w':World) (ht:Turned (λq=>q=m\/lo<=q) W w') (hst:StoreM w' s m x sy ep)=>h.up hlow hm ht hst);have a5:Held w0 x s m sy ep D (up out lo W) W:=h;obtain ⟨out',a0⟩:∃o,o=up out lo W:=⟨_,rfl⟩;rw [<-a0] at h;have B:Hid (Turned (λq=>q=m\/q=g\/q=mm) W W):=zh (gW _ _);clear a5 a0;have c:=hv.blk;have g0:=c.cell 0;have g1:=c.cell 1;have g2:=c.cell 2;have gl:=c.lt;obtain ⟨kl,G⟩:=E8 (k:Int) (CN _ oo);have bt:(0:Int)<=(k:Int)/\(k:Int)<32:=oo;have I:=hv.map.lookup_val Al Bc Tryz.underlying187 (F4 _) (k:Int) G;have HV:=zh hv;have HH:=zh h;cases hF:F (k:Int) with
 | some v=>
   obtain ⟨b,j,hj,rfl,br,a1,a2⟩:=hv.maps _ _ hF;obtain rfl:k=j:=oo;rw [hF,it] at I;have HP:=zh (show Cy D k/\Blk W b 185 (AC (fld (mapI D k).data))/\lo<=b from ⟨a2,a1,br⟩);clear h hv G hF a1 a2 c hf hlen;go_enter Tryz.func204,Tryz.ntmps204;go_wp2_with fail;go_ret2;exact ⟨⟨λ_=>⟨b,rfl,HP.2.1,HP.2.2⟩,λhn=>absurd HP.1 hn⟩,A _ (gW _ _) HH.store,⟨_,_,HV⟩,B⟩
 | none=>
   rw [hF,Option.getD_none] at I
   obtain ⟨t',b5,bs,H,a3⟩:∃t',lo<=t'/\t'=t/\Blk W t' 185 (AC (fld (topI D).data))/\(topI D).ok=true:=by
    rcases hv.top with h1 | ⟨t',h1,h2,h3,h4⟩
    . cases h1
    . refine ⟨t',h1,?_,h3,h4⟩;injection h2 with h2;injection h2 with h2;injection h2 with h2 _ _;exact h2.symm
   subst bs;obtain ⟨ver,U⟩:∃ver,fld (topI D).data k=ver:=⟨_,rfl⟩;have tc:=H.cell k;rw [Cf _ _ hk,U] at tc;have tl:=H.lt;have J:=zh (λ(w1:World) (hh:Held w0 x s m sy ep D out' w1)=>Iv hh (1+(k:Int)) (CN _ oo) ver);have V:=zh (TT hf k hk hlen ver);have bw:IntKind.i64.wrap (1+(k:Int))=1+(k:Int):=gy _ oo;have bx:(0:Int)<=1+(k:Int):=oo;have b0:=zh hF;have K:=zh a3;have b1:=zh H;have X:=zh G;have Y:=zh U;obtain ⟨⟨⟨bd,bv,bb⟩,er⟩,a4⟩:∃r,C1 D (1+(k:Int)) ver=r:=⟨_,rfl⟩;rw [a4] at J V;clear h hv G hF c hf hlen H a3 U a4;go_enter Tryz.func204,Tryz.ntmps204;go_wp2_with fail;refine AB [14,19] (λw':World=>w'.cell? ⟨g,0,none⟩=some (ptrV s)/\w'.cell? ⟨g,1,none⟩=some (ptrV t')/\g<w'.heap.size/\w'.cell? ⟨t',k,none⟩=some (.int .u32 (u32 ver))/\t'<w'.heap.size) qk ?_;have hS:=(show (λw':World=>w'.cell? ⟨g,0,none⟩=some (ptrV s)/\w'.cell? ⟨g,1,none⟩=some (ptrV t')/\g<w'.heap.size/\w'.cell? ⟨t',k,none⟩=some (.int .u32 (u32 ver))/\t'<w'.heap.size) W.drew from ⟨g0,g1,gl,tc,tl⟩);refine tQ 0 42 ?_;refine tT 1 (some 43) hS ?_;refine tQ 2 44 ?_;refine tT 3 (some 45) hS ?_;refine tQ 4 46 ?_;refine tQ 5 47 ?_;refine tQ 6 48 ?_;refine tT 7 (some 49) hS ?_;refine tQ 8 50 ?_;refine tT 9 (some 51) hS ?_;refine tQ 10 52 ?_;refine tT 11 (some 53) hS ?_;refine tQ 12 54 ?_;refine tT 13 (some 55) hS ?_;refine E5 (i:=14) (j:=18) rfl rfl qk ?faa ?fab
   case' faa=>
    intro K' hK;rw [if_pos (by rfl)];simp only [ij,iJ,iT];go_wp2_with fail;refine (J _ (HH.grew (fh W).drew)).mono ?_;rintro e w1 ⟨rfl,l⟩;unfold LK;have u:Looked w0 x s m sy ep D out' W (w1.alloc (.cells #[.string bd,.int .u32 (u32 bv),.bool bb] 178)):=((HH.same (fh W).drew).trans l).grew ((fh w1).alloc _);have w:Blk (w1.alloc (.cells #[.string bd,.int .u32 (u32 bv),.bool bb] 178)) w1.heap.size 178 #[.string bd,.int .u32 (u32 bv),.bool bb]:=fy w1 _ _ rfl;have Z:W.heap.size<=w1.heap.size:=l.turned.size;have a6:Blk (w1.alloc (.cells #[.string ⟨#[]⟩,.int .u32 0,.bool false] 178)) w1.heap.size 178 #[.string ⟨#[]⟩,.int .u32 0,.bool false]:=fy w1 _ _ rfl;clear l;go_wp2_with fail;refine hK.out _ _ (.inl (by rfl)) ?_;clear hK;refine tQ 15 41 ?_;refine tQ 16 57 ?_;refine tQ 17 58 ?_;refine tO 18 λK' hK=>?_;go_wp2_with fail;refine hK.out _ _ (.inr (λhS=>Qt ((fh w1).alloc _) hS)) ?_;clear hK;refine tO 19 λK' hK=>?_;go_wp2_with fail;refine hK.out _ _ (.inl (by rfl)) ?_;clear hK a6;refine tQ 20 10 ?_;refine AA qk ?_ _;generalize hwz:w1.alloc (.cells #[.string bd,.int .u32 (u32 bv),.bool bb] 178)=wz at*;generalize hgz:w1.heap.size=gx at*;clear hwz hgz
   case' fab=>
    intro K' hK;rw [if_pos (by rfl)];simp only [ij,iJ,iT];go_wp2_with fail;have c:Grew W (W.alloc (.cells #[.string ⟨#[]⟩,.int .u32 0,.bool false] 178)).drew:=((fh W).alloc _).drew;have aa:Blk (W.alloc (.cells #[.string ⟨#[]⟩,.int .u32 0,.bool false] 178)).drew W.heap.size 178 #[.string ⟨#[]⟩,.int .u32 0,.bool false]:=(fy W _ _ rfl).drew;refine hK.out _ _ (.inr (λhS=>Qt ((fh W.drew).alloc _) hS)) ?_;clear hK;refine tO 14 λK' hK=>?_;go_wp2_with fail;refine (J _ (HH.grew c)).mono ?_;rintro e w1 ⟨rfl,l⟩;unfold LK;have a7:=HH.store.lt.2;have f:=aa.looked l oo;have z0:=f.cell 0;have z1:=f.cell 1;have z2:=f.cell 2;have f0:=f.frozen 0;have f1:=f.frozen 1;have f2:=f.frozen 2;have zl:=f.lt;have Z:W.heap.size<=W.heap.size:=fk _;have u:Looked w0 x s m sy ep D out' W (((w1.setCell ⟨W.heap.size,0,none⟩ (.string bd)).setCell ⟨W.heap.size,1,none⟩ (.int .u32 (u32 bv))).setCell ⟨W.heap.size,2,none⟩ (.bool bb)):=CP HH ((HH.same c).trans l) (gT);have w:Blk (((w1.setCell ⟨W.heap.size,0,none⟩ (.string bd)).setCell ⟨W.heap.size,1,none⟩ (.int .u32 (u32 bv))).setCell ⟨W.heap.size,2,none⟩ (.bool bb)) W.heap.size 178 #[.string bd,.int .u32 (u32 bv),.bool bb]:=gB;clear l f a7 c aa;go_wp2_with fail;refine hK.out _ _ (.inl (by rfl)) ?_;clear hK;refine tQ 15 41 ?_;refine tQ 16 57 ?_;refine tQ 17 58 ?_;refine tO 19 λK' hK=>?_;go_wp2_with fail;refine hK.out _ _ (.inl (by rfl)) ?_;clear hK z0 z1 z2 f0 f1 f2 zl;refine tQ 20 10 ?_;refine AA qk ?_ _;generalize hwz:((w1.setCell ⟨W.heap.size,0,none⟩ (.string bd)).setCell ⟨W.heap.size,1,none⟩ (.int .u32 (u32 bv))).setCell ⟨W.heap.size,2,none⟩ (.bool bb)=wz at u w ⊢;obtain ⟨gx,hgz⟩:∃gx,gx=W.heap.size:=⟨_,rfl⟩;rw [<-hgz] at w Z ⊢;clear hwz hgz
   all_goals
    have y:=HV.looked u hm;have d:=zh u;have ad:=zh w;have n:=V.out;clear u w g0 g1 g2 gl tc tl I;by_cases a:(mapI D k).ok=false
    . rw [if_pos a] at n;injection n with h1 h2;subst h2;have L:Hid (¬Cy D k):=zh (λhn=>by rw [hn.2.1] at a;cases a);have M:Hid (Ds D k=11):=zh (by unfold Ds;rw [if_neg (by rw [K.out];simp),if_pos a]);clear a h1 y;go_wp2_with fail;go_ret2;exact ⟨⟨λhn=>absurd hn L,λ_=>by rw [M.out];rfl⟩,A _ (d.turned.mono λ_ _ hq=>.inl hq) d.store,⟨_,_,HV.looked d hm⟩,B.out.trans (d.turned.mono λ_ _ hq=>.inl hq)⟩
    by_cases p:(mapI D k).ver≠ver
    . rw [if_neg a,if_pos p] at n;injection n with h1 h2;subst h2;have L:Hid (¬Cy D k):=zh (λhn=>p (by rw [<-Y.out];exact hn.2.2));have M:Hid (Ds D k=12):=zh (by unfold Ds;rw [if_neg (by rw [K.out];simp),if_neg a]);clear a p h1 y;go_wp2_with fail;go_ret2;exact ⟨⟨λhn=>absurd hn L,λ_=>by rw [M.out];rfl⟩,A _ (d.turned.mono λ_ _ hq=>.inl hq) d.store,⟨_,_,HV.looked d hm⟩,B.out.trans (d.turned.mono λ_ _ hq=>.inl hq)⟩
    rw [if_neg a,if_neg p] at n;injection n with h1 h2;subst h2;have N:(mapI D k).ok=true:=by simpa using a
    have O:Hid ((mapI D k).data=bd):=zh (by rw [<-h1]);have ae:bd.size=128:=by rw [<-O.out];exact Cr N
    have aj:Hid (Cy D k):=zh ⟨K,N,by rw [Y.out];simpa using p⟩;have a8:=zh (Ip bd ae);have a9:=zh y;have x0:=ad.cell 0;have xl:=ad.out.lt;have b2:=GE;have bc:lo<=g:=y.lg;have bf:=zh (show lo<=W.heap.size from fx HV.lg (Nat.le_of_lt HV.blk.lt));clear a p h1 y ae N bc;go_wp2_with fail;refine (a8 _).mono ?_;rintro e w4 ⟨rfl,g4⟩;have al:Blk ((w4.alloc (.cells (AC λ_=>0#32) 185)).setRow w4.heap.size (AC (fld bd))) w4.heap.size 185 (AC (fld bd)):=(fy w4 _ _ rfl).setRow _;have P:Grew wz ((w4.alloc (.cells (AC λ_=>0#32) 185)).setRow w4.heap.size (AC (fld bd))):=(g4.alloc _).setRow g4.size _;have C:=a9.grew P;have y2:=C.blk.cell 2;have yl:=C.blk.lt;have Q:=zh C;have R:=zh al;have S:=zh (d.grew P);have an:lo<=w4.heap.size:=by have:=bf.out;have:=d.turned.size;have:=g4.size;omega
    clear al P C g4 x0 xl;go_wp2_with (first | (refine Ae rfl 185 _ _ rfl w4.heap.size (AC (fld bd)) rfl rfl 185 (AC λ_=>0#32) (fy w4 _ _ rfl) (by rw [AY,AY]) (by rw [AY];exact EX) (D8 _) ?_) | (refine Bs rfl _ _ _ 187 rfl 188 Al Bc Tryz.underlying187 rfl Q.map (k:Int) X (ptrV w4.heap.size) rfl rfl ?_;intro w6 av T;have z:=Q.setMap an (by rw [O.out];exact R.out) aj av T;have q2:=z.blk.cell 2;have ql:=z.blk.lt;have bk:=z.map.lookup_val Al Bc Tryz.underlying187 (F4 _) (k:Int) X;rw [DI,it] at bk;have bl:=zh z;have E:=zh T;clear z T av));go_ret2;have bn:Turned (λq=>q=m\/lo<=q) W w6:=(S.turned.mono λ_ _ hq=>.inl hq).trans (E.mono λq _ hq=>.inr (by rw [hq];exact HV.lm));have bo:Turned (λq=>q=m\/q=g\/q=mm) W w6:=(S.turned.mono λ_ _ hq=>.inl hq).trans (E.mono λq _ hq=>.inr (.inr hq));have b3:=HV.lm;have b4:=hlow.2;exact ⟨⟨λ_=>⟨w4.heap.size,rfl,by rw [O.out];exact R.turned E (Q.ver_ne R).2,an⟩,λhn=>absurd aj hn⟩,A _ bn (S.store.kept E oo oo),⟨_,_,bl⟩,B.out.trans bo⟩
theorem bA (hv:ViewAt W lo g s mm (.pointer none) F D):Calls Tryz.prog 204 #[ptrV g,.int .i64 (k:Int)] W (Zz w0 x s m sy ep D out W lo g mm k):=by
 have R:=zh (λ(w':World) (ht:Turned (λq=>q=m\/lo<=q) W w') (hst:StoreM w' s m x sy ep)=>h.up hlow hm ht hst);have a:=hv.blk;have g0:=a.cell 0;have g1:=a.cell 1;have g2:=a.cell 2;have gl:=a.lt;obtain ⟨kl,K⟩:=E8 (k:Int) (CN _ oo);have ci:(0:Int)<=(k:Int)/\(k:Int)<32:=oo;have T:=zh hv;have U:=zh (P2 h);have V:=Qm hf oo;obtain ⟨⟨td,tv,tk⟩,ht⟩:∃r,topI D=r:=⟨_,rfl⟩;have a4:lo<=W.heap.size:=fx hv.lg (Nat.le_of_lt hv.blk.lt);rw [V,ht] at U;cases tk with
 | false=>
   have B:Hid (¬Cy D k):=zh (λhn=>by have:=hn.1;rw [ht] at this;cases this);have C:Hid (Ds D k=11):=zh (by unfold Ds;rw [ht];rfl);clear h hv K a hf hlen V ht;go_enter Tryz.func204,Tryz.ntmps204;go_wp2_with fail;refine U.mono ?_;rintro e w1 ⟨rfl,d⟩;unfold LK;have c:=zh (d.grew ((fh w1).alloc (.cells #[.string td,.int .u32 (u32 tv),.bool false] 178)));clear d;go_wp2_with fail;go_ret2;exact ⟨⟨λhn=>absurd hn B,λ_=>by rw [C.out];rfl⟩,R _ (c.turned.mono λ_ _ hq=>.inl hq) c.store,⟨_,_,T.looked c hm⟩,c.turned.mono λ_ _ hq=>.inl hq⟩
 | true=>
   have E:td.size=128:=by
    have e9:AJ (D.content 0) 0=topI D:=rfl;have:=Cr (t:=D.content 0) (i:=0) (by rw [e9,ht]);rw [e9,ht] at this;exact this
   have L:(topI D).ok=true:=by rw [ht]
   have M:(topI D).data=td:=by rw [ht]
   have X:=zh (Ip td E);have b1:=zh (λv=>TT hf k hk hlen v);have b2:=GE;clear E V ht;go_enter Tryz.func204,Tryz.ntmps204;go_wp2_with fail;refine U.mono ?_;rintro e w1 ⟨rfl,d⟩;unfold LK;have n:=d.grew ((fh w1).alloc (.cells #[.string td,.int .u32 (u32 tv),.bool true] 178));clear d;go_wp2_with fail;refine (X _).mono ?_;rintro e w3 ⟨rfl,g3⟩;have w:=n.grew g3;have a5:lo<=w3.heap.size:=fx a4 (w.turned.size);have G:Grew w3 ((w3.alloc (.cells (AC λ_=>0#32) 185)).setRow w3.heap.size (AC (fld td))):=((fh w3).alloc _).setRow (fk _) _;have N:Blk ((w3.alloc (.cells (AC λ_=>0#32) 185)).setRow w3.heap.size (AC (fld td))) w3.heap.size 185 (AC (fld td)):=(fy w3 _ _ rfl).setRow _;have y:=(T.looked w hm).grew G;have k1:=y.blk.cell 1;have kf:=y.blk.frozen 1;have b3:=y.blk.lt;have f:=y.setTop a5 (by rw [M];exact N) L;have Y:Turned (λq=>q=m\/lo<=q) W (((w3.alloc (.cells (AC λ_=>0#32) 185)).setRow w3.heap.size (AC (fld td))).setCell ⟨g,1,none⟩ (ptrV w3.heap.size)):=(((w.turned.mono λ_ _ hq=>.inl hq).trans (G.turned _))).setCell (p:=⟨g,1,none⟩) (λ_=>.inr hv.lg) _;have a6:StoreM (((w3.alloc (.cells (AC λ_=>0#32) 185)).setRow w3.heap.size (AC (fld td))).setCell ⟨g,1,none⟩ (ptrV w3.heap.size)) s m x sy ep:=(w.store.grew G).kept (S:=λq=>q=g) ((gW (λq=>q=g) _).setCell (p:=⟨g,1,none⟩) (λ_=>rfl) _) (by have:=hv.lg;have:=hlow.2;omega) (by have:=hv.lg;omega);have a7:=R.out _ Y a6;have a:=f.blk;have g0:=a.cell 0;have g1:=a.cell 1;have g2:=a.cell 2;have gl:=a.lt;have Z:=f.map.lookup_val Al Bc Tryz.underlying187 (F4 _) (k:Int) K;have O:=zh (λ(w':World) (ht:Turned (λq=>q=m\/lo<=q) (((w3.alloc (.cells (AC λ_=>0#32) 185)).setRow w3.heap.size (AC (fld td))).setCell ⟨g,1,none⟩ (ptrV w3.heap.size)) w') (hst:StoreM w' s m x sy ep)=>R w' (Y.trans ht) hst);have P:Hid (Turned (λq=>q=m\/q=g\/q=mm) W (((w3.alloc (.cells (AC λ_=>0#32) 185)).setRow w3.heap.size (AC (fld td))).setCell ⟨g,1,none⟩ (ptrV w3.heap.size))):=zh ((((w.turned.mono λ_ _ hq=>.inl hq).trans (G.turned _))).setCell (p:=⟨g,1,none⟩) (λ_=>.inr (.inl rfl)) _);have h':=a7;obtain ⟨out',bt⟩:∃o,o=up out lo (((w3.alloc (.cells (AC λ_=>0#32) 185)).setRow w3.heap.size (AC (fld td))).setCell ⟨g,1,none⟩ (ptrV w3.heap.size)):=⟨_,rfl⟩;rw [<-bt] at h';have HH:=zh h';have HV:=zh f;have aa:=zh (show lo<=w3.heap.size/\Blk (((w3.alloc (.cells (AC λ_=>0#32) 185)).setRow w3.heap.size (AC (fld td))).setCell ⟨g,1,none⟩ (ptrV w3.heap.size)) w3.heap.size 185 (AC (fld (topI D).data)) from ⟨a5,by rw [M];exact N.turned (S:=λq=>q=g) ((gW (λq=>q=g) _).setCell (p:=⟨g,1,none⟩) (λ_=>rfl) _) (y.ver_ne N).1⟩);clear bt Y a6 a7 h' w n G N y;cases hF:F (k:Int) with
   | some v=>
     obtain ⟨b,j,hj,rfl,ch,bw,bx⟩:=f.maps _ _ hF;obtain rfl:k=j:=oo;rw [hF,it] at Z;have HP:=zh (show Cy D k/\Blk (((w3.alloc (.cells (AC λ_=>0#32) 185)).setRow w3.heap.size (AC (fld td))).setCell ⟨g,1,none⟩ (ptrV w3.heap.size)) b 185 (AC (fld (mapI D k).data))/\lo<=b from ⟨bx,bw,ch⟩);clear h hv K hF bw bx a hf hlen f L M;go_wp2_with (first | (refine Ae rfl 185 _ _ rfl w3.heap.size (AC (fld td)) rfl rfl 185 (AC λ_=>0#32) (fy w3 _ _ rfl) (by rw [AY,AY]) (by rw [AY];exact EX) (D8 _) ?_));go_ret2;exact ⟨⟨λ_=>⟨b,rfl,HP.2.1,HP.2.2⟩,λhn=>absurd HP.1 hn⟩,O _ (gW _ _) HH.store,⟨_,_,HV⟩,P⟩
   | none=>
     rw [hF,Option.getD_none] at Z;obtain ⟨ver,a3⟩:∃ver,fld (topI D).data k=ver:=⟨_,rfl⟩;have tc:=aa.2.cell k;rw [Cf _ _ hk,a3] at tc;have tl:=aa.2.lt;have ad:=zh (λ(w1:World) (hh:Held w0 x s m sy ep D out' w1)=>Iv hh (1+(k:Int)) (CN _ oo) ver);have a8:=zh (b1 ver);have cj:IntKind.i64.wrap (1+(k:Int))=1+(k:Int):=gy _ oo;have cl:(0:Int)<=1+(k:Int):=oo;have cm:=zh hF;have ae:=zh L;have a9:=zh K;have bc:=zh a3;obtain ⟨⟨⟨bd,bv,bb⟩,er⟩,b0⟩:∃r,C1 D (1+(k:Int)) ver=r:=⟨_,rfl⟩;rw [b0] at ad a8;clear h hv K hF a hf hlen L a3 b0 f M;go_wp2_with (first | (refine Ae rfl 185 _ _ rfl w3.heap.size (AC (fld td)) rfl rfl 185 (AC λ_=>0#32) (fy w3 _ _ rfl) (by rw [AY,AY]) (by rw [AY];exact EX) (D8 _) ?_));clear k1 kf b3 T aa;generalize hW5:(((w3.alloc (.cells (AC λ_=>0#32) 185)).setRow w3.heap.size (AC (fld td))).setCell ⟨g,1,none⟩ (ptrV w3.heap.size))=w5 at*;clear hW5;generalize hgt:w3.heap.size=t' at*;clear hgt;refine AB [14,19] (λw':World=>w'.cell? ⟨g,0,none⟩=some (ptrV s)/\w'.cell? ⟨g,1,none⟩=some (ptrV t')/\g<w'.heap.size/\w'.cell? ⟨t',k,none⟩=some (.int .u32 (u32 ver))/\t'<w'.heap.size) qk ?_;have hS:=(show (λw':World=>w'.cell? ⟨g,0,none⟩=some (ptrV s)/\w'.cell? ⟨g,1,none⟩=some (ptrV t')/\g<w'.heap.size/\w'.cell? ⟨t',k,none⟩=some (.int .u32 (u32 ver))/\t'<w'.heap.size) w5.drew from ⟨g0,g1,gl,tc,tl⟩);refine tQ 0 42 ?_;refine tT 1 (some 43) hS ?_;refine tQ 2 44 ?_;refine tT 3 (some 45) hS ?_;refine tQ 4 46 ?_;refine tQ 5 47 ?_;refine tQ 6 48 ?_;refine tT 7 (some 49) hS ?_;refine tQ 8 50 ?_;refine tT 9 (some 51) hS ?_;refine tQ 10 52 ?_;refine tT 11 (some 53) hS ?_;refine tQ 12 54 ?_;refine tT 13 (some 55) hS ?_;refine E5 (i:=14) (j:=18) rfl rfl qk ?faa ?fab
     case' faa=>
      intro K' hK;rw [if_pos (by rfl)];simp only [ij,iJ,iT];go_wp2_with fail;refine (ad _ (HH.grew (fh w5).drew)).mono ?_;rintro e w1 ⟨rfl,d⟩;unfold LK;have n:Looked w0 x s m sy ep D out' w5 (w1.alloc (.cells #[.string bd,.int .u32 (u32 bv),.bool bb] 178)):=((HH.same (fh w5).drew).trans d).grew ((fh w1).alloc _);have H:Blk (w1.alloc (.cells #[.string bd,.int .u32 (u32 bv),.bool bb] 178)) w1.heap.size 178 #[.string bd,.int .u32 (u32 bv),.bool bb]:=fy w1 _ _ rfl;have bf:w5.heap.size<=w1.heap.size:=d.turned.size;have b4:Blk (w1.alloc (.cells #[.string ⟨#[]⟩,.int .u32 0,.bool false] 178)) w1.heap.size 178 #[.string ⟨#[]⟩,.int .u32 0,.bool false]:=fy w1 _ _ rfl;clear d;go_wp2_with fail;refine hK.out _ _ (.inl (by rfl)) ?_;clear hK;refine tQ 15 41 ?_;refine tQ 16 57 ?_;refine tQ 17 58 ?_;refine tO 18 λK' hK=>?_;go_wp2_with fail;refine hK.out _ _ (.inr (λhS=>Qt ((fh w1).alloc _) hS)) ?_;clear hK;refine tO 19 λK' hK=>?_;go_wp2_with fail;refine hK.out _ _ (.inl (by rfl)) ?_;clear hK b4;refine tQ 20 10 ?_;refine AA qk ?_ _;generalize hwz:w1.alloc (.cells #[.string bd,.int .u32 (u32 bv),.bool bb] 178)=wz at*;generalize hgz:w1.heap.size=gx at*;clear hwz hgz
     case' fab=>
      intro K' hK;rw [if_pos (by rfl)];simp only [ij,iJ,iT];go_wp2_with fail;have a:Grew w5 (w5.alloc (.cells #[.string ⟨#[]⟩,.int .u32 0,.bool false] 178)).drew:=((fh w5).alloc _).drew;have bk:Blk (w5.alloc (.cells #[.string ⟨#[]⟩,.int .u32 0,.bool false] 178)).drew w5.heap.size 178 #[.string ⟨#[]⟩,.int .u32 0,.bool false]:=(fy w5 _ _ rfl).drew;refine hK.out _ _ (.inr (λhS=>Qt ((fh w5.drew).alloc _) hS)) ?_;clear hK;refine tO 14 λK' hK=>?_;go_wp2_with fail;refine (ad _ (HH.grew a)).mono ?_;rintro e w1 ⟨rfl,d⟩;unfold LK;have b5:=HH.store.lt.2;have u:=bk.looked d oo;have z0:=u.cell 0;have z1:=u.cell 1;have z2:=u.cell 2;have f0:=u.frozen 0;have f1:=u.frozen 1;have f2:=u.frozen 2;have zl:=u.lt;have bf:w5.heap.size<=w5.heap.size:=fk _;have n:Looked w0 x s m sy ep D out' w5 (((w1.setCell ⟨w5.heap.size,0,none⟩ (.string bd)).setCell ⟨w5.heap.size,1,none⟩ (.int .u32 (u32 bv))).setCell ⟨w5.heap.size,2,none⟩ (.bool bb)):=CP HH ((HH.same a).trans d) (gT);have H:Blk (((w1.setCell ⟨w5.heap.size,0,none⟩ (.string bd)).setCell ⟨w5.heap.size,1,none⟩ (.int .u32 (u32 bv))).setCell ⟨w5.heap.size,2,none⟩ (.bool bb)) w5.heap.size 178 #[.string bd,.int .u32 (u32 bv),.bool bb]:=gB;clear d u b5 a bk;go_wp2_with fail;refine hK.out _ _ (.inl (by rfl)) ?_;clear hK;refine tQ 15 41 ?_;refine tQ 16 57 ?_;refine tQ 17 58 ?_;refine tO 19 λK' hK=>?_;go_wp2_with fail;refine hK.out _ _ (.inl (by rfl)) ?_;clear hK z0 z1 z2 f0 f1 f2 zl;refine tQ 20 10 ?_;refine AA qk ?_ _;generalize hwz:((w1.setCell ⟨w5.heap.size,0,none⟩ (.string bd)).setCell ⟨w5.heap.size,1,none⟩ (.int .u32 (u32 bv))).setCell ⟨w5.heap.size,2,none⟩ (.bool bb)=wz at n H ⊢;obtain ⟨gx,hgz⟩:∃gx,gx=w5.heap.size:=⟨_,rfl⟩;rw [<-hgz] at H bf ⊢;clear hwz hgz
     all_goals
      have I:=HV.looked n hm;have c:=zh n;have bl:=zh H;have z:=a8.out;clear n H g0 g1 g2 gl tc tl Z;by_cases l:(mapI D k).ok=false
      . rw [if_pos l] at z;injection z with h1 h2;subst h2;have B:Hid (¬Cy D k):=zh (λhn=>by rw [hn.2.1] at l;cases l);have C:Hid (Ds D k=11):=zh (by unfold Ds;rw [if_neg (by rw [ae.out];simp),if_pos l]);clear l h1 I;go_wp2_with fail;go_ret2;exact ⟨⟨λhn=>absurd hn B,λ_=>by rw [C.out];rfl⟩,O _ (c.turned.mono λ_ _ hq=>.inl hq) c.store,⟨_,_,HV.looked c hm⟩,P.out.trans (c.turned.mono λ_ _ hq=>.inl hq)⟩
      by_cases A:(mapI D k).ver≠ver
      . rw [if_neg l,if_pos A] at z;injection z with h1 h2;subst h2;have B:Hid (¬Cy D k):=zh (λhn=>A (by rw [<-bc.out];exact hn.2.2));have C:Hid (Ds D k=12):=zh (by unfold Ds;rw [if_neg (by rw [ae.out];simp),if_neg l]);clear l A h1 I;go_wp2_with fail;go_ret2;exact ⟨⟨λhn=>absurd hn B,λ_=>by rw [C.out];rfl⟩,O _ (c.turned.mono λ_ _ hq=>.inl hq) c.store,⟨_,_,HV.looked c hm⟩,P.out.trans (c.turned.mono λ_ _ hq=>.inl hq)⟩
      rw [if_neg l,if_neg A] at z;injection z with h1 h2;subst h2;have aj:(mapI D k).ok=true:=by simpa using l
      have al:Hid ((mapI D k).data=bd):=zh (by rw [<-h1]);have E:bd.size=128:=by rw [<-al.out];exact Cr aj
      have bn:Hid (Cy D k):=zh ⟨ae,aj,by rw [bc.out];simpa using A⟩;have X:=zh (Ip bd E);have b6:=zh I;have x0:=bl.cell 0;have xl:=bl.out.lt;have b2:=GE;have b9:lo<=g:=I.lg;have ca:=zh (show lo<=w5.heap.size from fx HV.lg (Nat.le_of_lt HV.blk.lt));clear l A h1 I E aj b9;go_wp2_with fail;refine (X _).mono ?_;rintro e w4 ⟨rfl,g4⟩;have bo:Blk ((w4.alloc (.cells (AC λ_=>0#32) 185)).setRow w4.heap.size (AC (fld bd))) w4.heap.size 185 (AC (fld bd)):=(fy w4 _ _ rfl).setRow _;have an:Grew wz ((w4.alloc (.cells (AC λ_=>0#32) 185)).setRow w4.heap.size (AC (fld bd))):=(g4.alloc _).setRow g4.size _;have f:=b6.grew an;have y2:=f.blk.cell 2;have yl:=f.blk.lt;have av:=zh f;have a0:=zh bo;have a1:=zh (c.grew an);have br:lo<=w4.heap.size:=by have:=ca.out;have:=c.turned.size;have:=g4.size;omega
      clear bo an f g4 x0 xl;go_wp2_with (first | (refine Ae rfl 185 _ _ rfl w4.heap.size (AC (fld bd)) rfl rfl 185 (AC λ_=>0#32) (fy w4 _ _ rfl) (by rw [AY,AY]) (by rw [AY];exact EX) (D8 _) ?_) | (refine Bs rfl _ _ _ 187 rfl 188 Al Bc Tryz.underlying187 rfl av.map (k:Int) a9 (ptrV w4.heap.size) rfl rfl ?_;intro w6 bs a2;have J:=av.setMap br (by rw [al.out];exact a0.out) bn bs a2;have q2:=J.blk.cell 2;have ql:=J.blk.lt;have cb:=J.map.lookup_val Al Bc Tryz.underlying187 (F4 _) (k:Int) a9;rw [DI,it] at cb;have cc:=zh J;have Q:=zh a2;clear J a2 bs));go_ret2;have ce:Turned (λq=>q=m\/lo<=q) w5 w6:=(a1.turned.mono λ_ _ hq=>.inl hq).trans (Q.mono λq _ hq=>.inr (by rw [hq];exact HV.lm));have cf:Turned (λq=>q=m\/q=g\/q=mm) w5 w6:=(a1.turned.mono λ_ _ hq=>.inl hq).trans (Q.mono λq _ hq=>.inr (.inr hq));have a4:=HV.lm;have co:=hlow.2;exact ⟨⟨λ_=>⟨w4.heap.size,rfl,by rw [al.out];exact a0.turned Q (av.ver_ne a0).2,br⟩,λhn=>absurd bn hn⟩,O _ ce (a1.store.kept Q oo oo),⟨_,_,cc⟩,P.out.trans cf⟩
end

section
variable {w0:World} {x s m:Nat} {sy ep:Int} {D:Dev} {out:Nat->Prop} {W:World} {lo g mm:Nat} (h:Held w0 x s m sy ep D (up out lo W) W) (hlow:w0.heap.size<=lo/\s<lo) (hlen:132<=D.st.length) (hf:D.failed=false) (hm:m<lo)
include h hlow hlen hf hm
theorem X2 (hv:ViewM W lo g s mm D) (k:Nat) (hk:k<32):Calls Tryz.prog 204 #[ptrV g,.int .i64 (k:Int)] W (Zz w0 x s m sy ep D out W lo g mm k):=by
 obtain ⟨a,F,hv⟩:=hv;rcases hv.top with h1 | ⟨t,_,h2,_,_⟩
 . subst h1;exact bA h hlow hlen hf hm k hk hv
 . subst h2;exact Zt h hlow hlen hf hm k hk t hv
end
theorem dL {D:Dev} {i:Nat} (h:¬Cy D (i / 32)):C4 D i=(⟨#[]⟩,Ds D (i / 32)):=by
 unfold C4 Ds;by_cases h1:(topI D).ok=false
 . rw [if_pos h1,if_pos h1]
 . rw [if_neg h1,if_neg h1];by_cases h2:(mapI D (i / 32)).ok=false
   . rw [if_pos h2,if_pos h2]
   . rw [if_neg h2,if_neg h2,if_pos];intro h3;exact h ⟨by simpa using h1,by simpa using h2,h3⟩
theorem YP (D:Dev) (k:Nat):Ds D k≠0:=by
 unfold Ds;split
 . decide
 split
 . decide
 . decide
theorem eo {D:Dev} (hf:D.failed=false) (i:Nat) (hi:131+i<D.st.length) (v:BitVec 32):C1 D (131+(i:Int)) v=(if (datI D i).ok=false then (KV,11) else if (datI D i).ver≠v then (KV,12) else (datI D i,0)):=by
 unfold C1;rw [show (131+(i:Int))=((131+i:Nat):Int) from oo,Dx hf (131+i) hi,if_neg qs];rfl
theorem aN {D:Dev} {i:Nat} (h:Cy D (i / 32)) (hf:D.failed=false) (hi:131+i<D.st.length):C4 D i=((C1 D (131+(i:Int)) (fld (mapI D (i / 32)).data (i % 32))).1.data,(C1 D (131+(i:Int)) (fld (mapI D (i / 32)).data (i % 32))).2):=by
 obtain ⟨h1,h2,h3⟩:=h;rw [eo hf i hi];unfold C4;rw [if_neg (by rw [h1];simp),if_neg (by rw [h2];simp),if_neg (by simpa using h3)];by_cases h4:(datI D i).ok=false
 . rw [if_pos h4,if_pos h4];rfl
 . rw [if_neg h4,if_neg h4];by_cases h5:(datI D i).ver≠fld (mapI D (i / 32)).data (i % 32)
   . rw [if_pos h5,if_pos h5];rfl
   . rw [if_neg h5,if_neg h5]
theorem d9 {w1 w2:World} {g b J s:Nat} {ver:BitVec 32} (hg:Grew w1 w2) (h:(λw':World=>w'.cell? ⟨g,0,none⟩=some (ptrV s)/\g<w'.heap.size/\w'.cell? ⟨b,J,none⟩=some (.int .u32 (u32 ver))/\b<w'.heap.size) w1):(λw':World=>w'.cell? ⟨g,0,none⟩=some (ptrV s)/\g<w'.heap.size/\w'.cell? ⟨b,J,none⟩=some (.int .u32 (u32 ver))/\b<w'.heap.size) w2:=⟨BG hg h.1,fw h.2.1 hg.size,BG hg h.2.2.1,fw h.2.2.2 hg.size⟩
theorem Rb {w0:World} {x s' m:Nat} {sy ep:Int} {E:Dev} {out:Nat->Prop} {w w':World} {lo g s mm:Nat} {D:Dev} (h:ViewM w lo g s mm D) (hl:Looked w0 x s' m sy ep E out w w') (hm:m<lo):ViewM w' lo g s mm D:=by
 obtain ⟨a,F,hv⟩:=h;exact ⟨a,F,hv.looked hl hm⟩
theorem ViewM.grew {w w':World} {lo g s mm:Nat} {D:Dev} (h:ViewM w lo g s mm D) (hg:Grew w w'):ViewM w' lo g s mm D:=by
 obtain ⟨a,F,hv⟩:=h;exact ⟨a,F,hv.grew hg⟩
def fd (w0:World) (x s m:Nat) (sy ep:Int) (D:Dev) (out:Nat->Prop) (W:World) (lo g mm:Nat) (r:ByteArray × Int) (e:Ending) (w':World):Prop:=
 e=.returned (.tuple #[.string r.1,.int .i64 r.2])/\Held w0 x s m sy ep D (up out lo w') w'/\ViewM w' lo g s mm D/\Turned (λq=>q=m\/q=g\/q=mm) W w'
section
variable {w0:World} {x s m:Nat} {sy ep:Int} {D:Dev} {out:Nat->Prop} {W:World} {lo g mm:Nat} (h:Held w0 x s m sy ep D (up out lo W) W) (hlow:w0.heap.size<=lo/\s<lo) (hlen:132<=D.st.length) (hf:D.failed=false) (hm:m<lo)
include h hlow hlen hf hm
theorem bW (hv:ViewM W lo g s mm D) (i:Nat) (hi:131+i<D.st.length) (O:i<1024):Calls Tryz.prog 152 #[ptrV g,.int .i64 (i:Int)] W (fd w0 x s m sy ep D out W lo g mm (C4 D i)):=by
 have HL:=zh (X2 h hlow hlen hf hm hv (i / 32) oo);obtain ⟨K,hK⟩:∃K,i / 32=K:=⟨_,rfl⟩;obtain ⟨J,hJ⟩:∃J,i % 32=J:=⟨_,rfl⟩;have hq:(i:Int) / 32=(K:Int):=oo;have hr:(i:Int).tmod 32=(J:Int):=by rw [jI oo];omega
 have P:J<32:=oo;rw [hK] at HL;have E:=zh (λ(hn:¬Cy D K)=>dL (D:=D) (i:=i) (by rw [hK];exact hn));have G:=zh (λ(hn:Cy D K)=>aN (D:=D) (i:=i) (by rw [hK];exact hn) hf hi);rw [hK,hJ] at G;rw [hK] at E;have hib:(0:Int)<=(i:Int)/\(i:Int)<=1024:=oo;clear hK hJ h hv hi hlen hf O;by_cases l:Cy D K
 . have HE:=zh (G l);have w:=zh l;clear l;go_enter Tryz.func152,Tryz.ntmps152;go_wp2_with fail;refine HL.mono ?_;rintro e w1 ⟨⟨hy,_⟩,d,n,p⟩;obtain ⟨b,rfl,hb,X⟩:=hy w;have HR:=zh (show Held w0 x s m sy ep D (up out lo w1) w1/\ViewM w1 lo g s mm D/\Turned (λq=>q=m\/q=g\/q=mm) W w1 from ⟨d,n,p⟩);have Q:=zh (λ(w':World) (ht:Turned (λq=>q=m\/lo<=q) w1 w') (hst:StoreM w' s m x sy ep)=>d.up hlow hm ht hst);obtain ⟨out',M⟩:∃o,o=up out lo w1:=⟨_,rfl⟩;rw [<-M] at d;have HH:=zh d;obtain ⟨ver,B⟩:∃ver,fld (mapI D K).data J=ver:=⟨_,rfl⟩;have y:=hb.cell J;rw [Cf _ _ P,B] at y;have H:=hb.lt;have a:∃v,Blk w1 g 287 #[ptrV s,v,.map (some mm)]:=by obtain ⟨v,F,hv⟩:=n;exact ⟨v,hv.blk⟩
   obtain ⟨v,a⟩:=a;have g0:=a.cell 0;have gl:=a.lt;rw [B] at HE;have z:=zh (λ(w2:World) (hh:Held w0 x s m sy ep D out' w2)=>Iv hh (131+(i:Int)) (CN _ oo) ver);obtain ⟨⟨⟨bd,bv,bb⟩,er⟩,N⟩:∃r,C1 D (131+(i:Int)) ver=r:=⟨_,rfl⟩;rw [N] at z HE;have T:IntKind.i64.wrap (131+(i:Int))=131+(i:Int):=gy _ oo;have U:(0:Int)<=(J:Int)/\(J:Int)<32:=oo;clear hy d n p hb a B N M;go_wp2_with fail;refine AB [12,17] (λw':World=>w'.cell? ⟨g,0,none⟩=some (ptrV s)/\g<w'.heap.size/\w'.cell? ⟨b,J,none⟩=some (.int .u32 (u32 ver))/\b<w'.heap.size) qk ?_;have hS:=(show (λw':World=>w'.cell? ⟨g,0,none⟩=some (ptrV s)/\g<w'.heap.size/\w'.cell? ⟨b,J,none⟩=some (.int .u32 (u32 ver))/\b<w'.heap.size) w1.drew from ⟨g0,gl,y,H⟩);refine tQ 0 20 ?_;refine tT 1 (some 21) hS ?_;refine tQ 2 22 ?_;refine tT 3 (some 23) hS ?_;refine tQ 4 24 ?_;refine tQ 5 25 ?_;refine tQ 6 26 ?_;refine tQ 7 27 ?_;refine tQ 8 28 ?_;refine tT 9 (some 29) hS ?_;refine tQ 10 30 ?_;refine tT 11 (some 31) hS ?_;clear hS;refine E5 (i:=12) (j:=16) rfl rfl qk ?faa ?fab
   case' faa=>
    intro K' hK;rw [if_pos (by rfl)];simp only [ij,iJ,iT];go_wp2_with fail;refine (z _ (HH.grew (fh w1).drew)).mono ?_;rintro e w2 ⟨rfl,f⟩;unfold LK;have t:Looked w0 x s m sy ep D out' w1 (w2.alloc (.cells #[.string bd,.int .u32 (u32 bv),.bool bb] 178)):=((HH.same (fh w1).drew).trans f).grew ((fh w2).alloc _);have k:Blk (w2.alloc (.cells #[.string bd,.int .u32 (u32 bv),.bool bb] 178)) w2.heap.size 178 #[.string bd,.int .u32 (u32 bv),.bool bb]:=fy w2 _ _ rfl;have I:w1.heap.size<=w2.heap.size:=f.turned.size;clear f;go_wp2_with fail;refine hK.out _ _ (.inl (by rfl)) ?_;clear hK;refine tQ 13 19 ?_;refine tQ 14 33 ?_;refine tQ 15 34 ?_;refine tO 16 λK' hK=>?_;go_wp2_with fail;refine hK.out _ _ (.inr (λhS=>d9 ((fh w2).alloc _) hS)) ?_;clear hK;refine tO 17 λK' hK=>?_;go_wp2_with fail;refine hK.out _ _ (.inl (by rfl)) ?_;clear hK;refine tQ 18 7 ?_;refine AA qk ?_ _;generalize hwz:w2.alloc (.cells #[.string bd,.int .u32 (u32 bv),.bool bb] 178)=wz at*;generalize hgz:w2.heap.size=gx at*;clear hwz hgz
   case' fab=>
    intro K' hK;rw [if_pos (by rfl)];simp only [ij,iJ,iT];go_wp2_with fail;have a:Grew w1 (w1.alloc (.cells #[.string ⟨#[]⟩,.int .u32 0,.bool false] 178)).drew:=((fh w1).alloc _).drew;have L:Blk (w1.alloc (.cells #[.string ⟨#[]⟩,.int .u32 0,.bool false] 178)).drew w1.heap.size 178 #[.string ⟨#[]⟩,.int .u32 0,.bool false]:=(fy w1 _ _ rfl).drew;refine hK.out _ _ (.inr (λhS=>d9 ((fh w1.drew).alloc _) hS)) ?_;clear hK;refine tO 12 λK' hK=>?_;go_wp2_with fail;refine (z _ (HH.grew a)).mono ?_;rintro e w2 ⟨rfl,f⟩;unfold LK;have R:=HH.store.lt.2;have c:=L.looked f oo;have z0:=c.cell 0;have z1:=c.cell 1;have z2:=c.cell 2;have f0:=c.frozen 0;have f1:=c.frozen 1;have f2:=c.frozen 2;have zl:=c.lt;have I:w1.heap.size<=w1.heap.size:=fk _;have t:Looked w0 x s m sy ep D out' w1 (((w2.setCell ⟨w1.heap.size,0,none⟩ (.string bd)).setCell ⟨w1.heap.size,1,none⟩ (.int .u32 (u32 bv))).setCell ⟨w1.heap.size,2,none⟩ (.bool bb)):=CP HH ((HH.same a).trans f) (gT);have k:Blk (((w2.setCell ⟨w1.heap.size,0,none⟩ (.string bd)).setCell ⟨w1.heap.size,1,none⟩ (.int .u32 (u32 bv))).setCell ⟨w1.heap.size,2,none⟩ (.bool bb)) w1.heap.size 178 #[.string bd,.int .u32 (u32 bv),.bool bb]:=gB;clear f c R a L;go_wp2_with fail;refine hK.out _ _ (.inl (by rfl)) ?_;clear hK;refine tQ 13 19 ?_;refine tQ 14 33 ?_;refine tQ 15 34 ?_;refine tO 17 λK' hK=>?_;go_wp2_with fail;refine hK.out _ _ (.inl (by rfl)) ?_;clear hK z0 z1 z2 f0 f1 f2 zl;refine tQ 18 7 ?_;refine AA qk ?_ _;generalize hwz:((w2.setCell ⟨w1.heap.size,0,none⟩ (.string bd)).setCell ⟨w1.heap.size,1,none⟩ (.int .u32 (u32 bv))).setCell ⟨w1.heap.size,2,none⟩ (.bool bb)=wz at t k ⊢;obtain ⟨gx,hgz⟩:∃gx,gx=w1.heap.size:=⟨_,rfl⟩;rw [<-hgz] at k I ⊢;clear hwz hgz
   all_goals
    have u:=zh t;have x0:=k.cell 0;have xl:=k.lt;clear t k g0 gl y H;go_wp2_with fail;go_ret2;exact ⟨by rw [HE.out];rfl,Q _ (u.turned.mono λ_ _ hq=>.inl hq) u.store,Rb HR.2.1 u hm,HR.2.2.trans (u.turned.mono λ_ _ hq=>.inl hq)⟩
 . have HE:=zh (E l);have w:=zh l;have A:=YP D K;obtain ⟨er,C⟩:∃er,Ds D K=er:=⟨_,rfl⟩;rw [C] at HE A;have V:(er != 0)=true:=by rw [gu];exact A
   have S:=zh C;clear l A C;go_enter Tryz.func152,Tryz.ntmps152;go_wp2_with fail;refine HL.mono ?_;rintro e w1 ⟨⟨_,hn⟩,d,n,p⟩;obtain rfl:=hn w;rw [S.out];have HR:=zh (show Held w0 x s m sy ep D (up out lo w1) w1/\ViewM w1 lo g s mm D/\Turned (λq=>q=m\/q=g\/q=mm) W w1 from ⟨d,n,p⟩);clear hn d n p;go_wp2_with fail;go_ret2;exact ⟨by rw [HE.out];rfl,HR⟩
end

theorem M1 {w0:World} {x s m:Nat} {sy ep:Int} {D:Dev} {out:Nat->Prop} {W:World} (h:Held w0 x s m sy ep D out W):Held w0 x s m sy ep D (up out W.heap.size W) W:=
 ⟨h.live.few (λk hk=>hk.elim id (λh9=>absurd h9.1 oo)),h.store,.inl h.os,.inl h.om,h.m0⟩
theorem bG {w0:World} {x s m:Nat} {sy ep:Int} {E:Dev} {out:Nat->Prop} {W w1 w':World} (hd:Done w0 x s m sy ep E out W w1) (hh:Held w0 x s m sy ep E (up out w1.heap.size w') w') (ht:Turned (λq=>q=m\/w1.heap.size<=q) w1 w'):Done w0 x s m sy ep E out W w':=
 ⟨hh.live.few (λk hk=>.inl hk),hh.store,hd.turned.next ht (λk hk hq=>by
  rcases hq with hq | hq
  . exact .inr hq
  . exact absurd hk (by have:=hd.turned.size;omega))⟩
theorem Oy:(Tryz.prog.info? 9).map (λi=>(i.zero,i.size,i.bytes))=some (some (.string ⟨#[]⟩),1,16):=qk
theorem Ff {w:World} {m b o:Nat} {F:Int->Option Value} {v:Value} (hm:MapI w m F) (h:w.cell? ⟨b,o,none⟩=some v):b≠m:=by
 rintro rfl;obtain ⟨es,a,l,hb,_⟩:=hm;unfold World.cell? at h;simp [hb] at h
theorem FF {w0:World} {x s m:Nat} {sy ep:Int} {E:Dev} {out out':Nat->Prop} {W w1 w':World} (hd:Done w0 x s m sy ep E out' w1 w') (hg:Grew W w1) (ho:∀k,out k->out' k):Done w0 x s m sy ep E out W w':=
 ⟨hd.live.few ho,hd.store,(hg.turned _).trans (hd.turned.mono λk _ hk=>hk.elim (λh9=>.inl ⟨h9.1,λh8=>h9.2 (ho k h8)⟩) .inr)⟩

end
section
open Go.RowKit
theorem Dg (n:Nat) (ws:List (Int × ByteArray)) (e:Nat × ByteArray):e∈B3 n ws↔e.1<n/\(ws.find? λx=>x.1==(e.1:Int)).map (·.2)=some e.2:=by
 unfold B3;rw [List.mem_filterMap];constructor
 . rintro ⟨i,hi,h⟩;obtain ⟨x,hx,rfl⟩:=jN.1 h;exact ⟨gU.1 hi,by show (ws.find? λx=>x.1==(i:Int)).map (·.2)=_;rw [hx];rfl⟩
 . rintro ⟨h1,h2⟩;obtain ⟨x,hx,a⟩:=jN.1 h2;exact ⟨e.1,gU.2 h1,by rw [hx];show some (e.1,x.2)=some e;rw [a]⟩
theorem Gs (n:Nat) (ws:List (Int × ByteArray)):(B3 n ws).Pairwise λa b=>a.1<b.1:=by
 unfold B3;rw [pairwise_filterMap];refine pairwise_lt_range.imp ?_;intro a b c x hx y hy;obtain ⟨u,_,rfl⟩:=jN.1 hx;obtain ⟨v,_,rfl⟩:=jN.1 hy;exact c
theorem EJ {ws:List (Int × ByteArray)} (hn:(ws.map (·.1)).Nodup) (x:Int × ByteArray) (hx:x∈ws):(ws.find? λy=>y.1==x.1)=some x:=by
 induction ws with
 | nil=>cases hx
 | cons y ws ih=>
   rw [map_cons,nodup_cons] at hn;rw [find?_cons];rcases ia.1 hx with rfl | hx
   . rw [beq_self_eq_true]
   . have:(y.1==x.1)=false:=gF.2 (λe=>hn.1 (by rw [e];exact List.mem_map_of_mem hx));rw [this];exact ih hn.2 hx
def JN (ws:List (Int × ByteArray)) (i:Nat):Option ByteArray:=(ws.find? λx=>x.1==(i:Int)).map (·.2)
theorem Ug (n:Nat) (ws:List (Int × ByteArray)) (i:Nat) (hi:i<n):Ad (B3 n ws) i=JN ws i:=by
 have c:((B3 n ws).map (·.1)).Nodup:=by
  rw [Nodup,jL];exact (Gs n ws).imp (λ{a b} hab=>oo)
 cases hv:JN ws i with
 | some s=>exact Et _ c (i,s) ((Dg n ws (i,s)).2 ⟨hi,hv⟩)
 | none=>
   refine B7 _ _ (λe he hq=>?_);obtain ⟨_,h2⟩:=(Dg n ws e).1 he;rw [hq] at h2;unfold JN at hv;rw [hv] at h2;cases h2
theorem FM (n:Nat) (ws:List (Int × ByteArray)) (h:AU n ws=0):(∀e∈ws,e.2.size=128/\0<=e.1/\e.1<(n:Int))/\(ws.map (·.1)).Nodup/\ws.length<=64:=by
 unfold AU at h;split at h
 . cases h
 rename_i h1;split at h
 . cases h
 rename_i h2;split at h
 . cases h
 rename_i h3;simp only [not_or,iL,ie,iK,gm] at h1 h2;refine ⟨λe he=>⟨?_,?_⟩,h1.2,oo⟩
 . have:=h1.1 e he;exact this
 . have:=h2 e he;omega
theorem O7 (n:Nat) (ws:List (Int × ByteArray)) (h:∀e∈ws,0<=e.1/\e.1<(n:Int)) (hn:(ws.map (·.1)).Nodup):(B3 n ws).length=ws.length:=by
 have hp:((B3 n ws).map (λe=>(e.1:Int))).Perm (ws.map (·.1)):=by
  refine (perm_ext_iff_of_nodup ?_ hn).2 (λi=>?_)
  . rw [Nodup,jL];exact (Gs n ws).imp (λ{a b} hab=>oo)
  . constructor
    . intro hi;obtain ⟨e,he,rfl⟩:=ft.1 hi;obtain ⟨_,h2⟩:=(Dg n ws e).1 he;obtain ⟨x,hx,_⟩:=jN.1 h2;have h3:=List.find?_some hx;exact ft.2 ⟨x,List.mem_of_find?_eq_some hx,by simpa using h3⟩
    . intro hi;obtain ⟨x,hx,rfl⟩:=ft.1 hi;have hb:=h x hx;refine ft.2 ⟨(x.1.toNat,x.2),(Dg n ws _).2 ⟨by show x.1.toNat<n;omega,?_⟩,by show ((x.1.toNat:Nat):Int)=x.1;omega⟩;show (ws.find? λy=>y.1==((x.1.toNat:Nat):Int)).map (·.2)=some x.2;rw [show ((x.1.toNat:Nat):Int)=x.1 from oo,EJ hn x hx];rfl
 have:=hp.length_eq;simpa using this
theorem Mu (I:Img) (ws:List (Int × ByteArray)) (h:AU I.n ws=0) (h0:ws≠[]) (hr:I.N+1<4294967296):Takes I (B3 I.n ws):=by
 obtain ⟨h1,h2,h3⟩:=FM I.n ws h;have hl:=O7 I.n ws (λe he=>(h1 e he).2) h2;refine ⟨λe he=>?_,Gs _ _,?_,oo,hr⟩
 . obtain ⟨g1,g2⟩:=(Dg I.n ws e).1 he;obtain ⟨x,hx,a⟩:=jN.1 g2;exact ⟨g1,by rw [<-a];exact (h1 x (List.mem_of_find?_eq_some hx)).1⟩
 . rw [hl];cases ws with
   | nil=>exact absurd rfl h0
   | cons x l=>simp
theorem Dy {D:Dev} {I:Img} {sy ep:Int} (h:Clean D I) (hc:Calm D sy ep) (hf:D.fuse=none) (ws:List (Int × ByteArray)) (hr:I.N+1<4294967295):
 (AU I.n ws≠0\/ws=[]->Ak D sy ep ws=(D,AU I.n ws))/\
 (AU I.n ws=0->ws≠[]->∃E,Ak D sy ep ws=(E,0)/\Clean E (I.upd (B3 I.n ws))/\E.fen=D.fen/\E.fuse=none):=by
 have hn:D.st.length - 131=I.n:=by rw [h.len];omega
 have a:=Eq h sy ep;constructor
 . intro c;unfold Ak;rw [a,hn,if_neg qs,if_pos c]
 . intro h0 b;have ht:=Mu I ws h0 b oo;obtain ⟨r1,r2,r3,r4⟩:=J6 h ht hc hf;refine ⟨_,?_,r2,r3,r4⟩;unfold Ak;rw [a,hn,if_neg qs,if_neg (by simp [h0,b])];show (if (topI D).ok=false then (D,11) else if Ea D (ksW (B3 I.n ws))≠0 then (D,Ea D (ksW (B3 I.n ws))) else if (topI D).ver=4294967295#32 then (D,8) else Bk sy ep (Cv (Hm D (B3 I.n ws) ((topI D).ver+1#32)) ((topI D).ver+1#32)) D)=_;rw [RM h.toHolds _ (λk hk=>((Br _ k).1 hk).1),h.topI,if_neg qs,if_neg qs,if_neg]
   . show Bk sy ep (Cv (Hm D (B3 I.n ws) (nv I.N+1#32)) (nv I.N+1#32)) D=_;rw [QH,Vx h.toHolds ht];exact r1
   . intro hq;have:=gJ BitVec.toNat hq;rw [show (Raw.mk (AI I.tops) (nv I.N) true).ver=nv I.N from rfl,C0 _ oo] at this;simp at this;omega

end
section
attribute [local go_sem ↓] Go.wp_at_zero Go.wp_at_succ
open Go.RowKit
def Dj (l:List Int):Int->Option Value:=λa=>if a∈l then some (.bool true) else none
theorem KG (l:List Int) (a:Int):∀b,upd (Dj l) a (some (.bool true)) b=Dj (l++[a]) b:=by
 intro b;unfold Dj;by_cases h:b=a
 . subst h;rw [DI,if_pos qs]
 . rw [DK _ _ h];by_cases h2:b∈l
   . rw [if_pos h2,if_pos (by simp [h2])]
   . rw [if_neg h2,if_neg (by simp [h2,h])]
theorem Hy (w:World):(zeroValue 4).run Tryz.prog w=.ok (.bool false) w:=qk
theorem DM (ws:List (Int × ByteArray)) (k:Nat) (hk:k<ws.length):((ws.take (k+1)).map (·.1))=(ws.take k).map (·.1)++[ws[k].1]:=by
 rw [fr hk,fz]
 try rfl
theorem Tf {n:Nat} {ws:List (Int × ByteArray)} (k:Nat) (hk:k<ws.length) (h:ws[k].2.size≠128):AU n ws=1:=by
 unfold AU;rw [if_pos (.inl (jD.2 ⟨ws[k],fq hk,by simpa using h⟩))]
theorem WE {n:Nat} {ws:List (Int × ByteArray)} (k:Nat) (hk:k<ws.length) (h:ws[k].1∈(ws.take k).map (·.1)):AU n ws=1:=by
 have hn:¬(ws.map (·.1)).Nodup:=by
  intro hn;have h1:((ws.take (k+1)).map (·.1)).Nodup:=(hn.sublist ((take_sublist _ _).map _));rw [DM ws k hk] at h1;exact (iZ.1 h1).2.2 _ h _ (fp.2 rfl) rfl
 unfold AU;rw [if_pos (.inr hn)]
theorem MD {n:Nat} {ws:List (Int × ByteArray)} (h1:∀e∈ws,e.2.size=128) (h2:(ws.map (·.1)).Nodup) (k:Nat) (hk:k<ws.length) (h:ws[k].1<0\/(n:Int)<=ws[k].1):AU n ws=2:=by
 unfold AU;rw [if_neg (by simp only [not_or,iL];exact ⟨by rw [ie,iK];intro e he;simp [h1 e he],h2⟩),if_pos (jD.2 ⟨ws[k],fq hk,by simpa using h⟩)]
theorem Xf {n:Nat} {ws:List (Int × ByteArray)} (h1:∀e∈ws,e.2.size=128) (h2:(ws.map (·.1)).Nodup) (h3:∀e∈ws,¬(e.1<0\/(n:Int)<=e.1)):AU n ws=if 64<ws.length then 8 else 0:=by
 unfold AU;rw [if_neg (by simp only [not_or,iL];exact ⟨by rw [ie,iK];intro e he;simp [h1 e he],h2⟩),if_neg (by rw [ie,iK];intro e he;simpa using h3 e he)]
section
variable {w0:World} {x s m:Nat} {sy ep:Int} {D:Dev} {out:Nat->Prop} {W:World}
theorem LY (h:Held w0 x s m sy ep D out W) (P:132<=D.st.length/\D.st.length<=1155) (ws:List (Int × ByteArray)) (hl:ws.length<=1000000) (w:∀e∈ws,okI e.1) (A:Option Addr) (c:Nat) (v:ListAt W W.heap.size 2 A (ws.map BB)):
 Calls Tryz.prog 103 #[ptrV s,.slice A ws.length c] W λe w'=>e=.returned (.int .i64 (AU (D.st.length - 131) ws))/\Grew W w':=by
 have Q:=@run_makeMap Tryz.prog;have R:Hid (MapI (W.alloc (.map #[] 0)) W.heap.size (Dj [])):=zh ((MapIs.made _ rfl).congr (λa=>rfl));obtain ⟨n,hn⟩:∃n:Nat,D.st.length - 131=n:=⟨_,rfl⟩;rw [hn];have y:(D.st.length:Int) - 131=(n:Int):=oo;have z:=zh (λ(w1:World) (hg:Grew W w1)=>KM (h.grew hg));rw [y] at z;have B:=zh v;have S:=zh w;clear h P v hn w y;go_enter Tryz.func103,Tryz.ntmps103;go_wp2_with fail;clear Q
 go_loopg [13] ws.length (λgk i wr=>∃k:Nat,k<=ws.length/\gk=ws.length - k/\i=.int .i64 k/\MapI wr W.heap.size (Dj ((ws.take k).map (·.1)))/\Grew W wr/\(∀j (hj:j<k) (hj2:j<ws.length),ws[j].2.size=128)/\((ws.take k).map (·.1)).Nodup)
 case atStart=>exact ⟨0,oo,oo,rfl,R,gG,λj hj=>absurd hj oo,qs⟩
 case round=>
  obtain ⟨k,hk,l,rfl,hm,hg,M,N⟩:=hrel;have T:=zh l;have HM:=zh hm;have HG:=zh hg;have C:=zh M;have E:=zh N;clear l hm hg M N;by_cases d:k<ws.length
  . obtain ⟨b,an,rfl,av,c0,c1⟩:=Hq (B.keep (fk _) HG) d;have U:(k:Int)<(ws.length:Int):=oo;by_cases hs:ws[k].2.size=128
    . have V:((ws[k].2.size:Int) != 128)=false:=by rw [hs];rfl
      obtain ⟨kl,r⟩:=E8 ws[k].1 (S _ (fq d));have X:=zh r;have o:=HM.alloc (.cells #[.int .i64 ws[k].1,.string ws[k].2] 65);have F:=o.lookup_val Al Bc Tryz.underlying91 (Hy _) ws[k].1 r;have Y:=zh o;by_cases g:ws[k].1∈(ws.take k).map (·.1)
      . rw [show Dj ((ws.take k).map (·.1)) ws[k].1=some (.bool true) from if_pos g,it] at F;have HC:=zh (WE (n:=n) k d g);clear g hs r o;go_wp2_with fail;go_ret;rw [HC.out];exact ⟨rfl,HG.alloc _⟩
      . rw [show Dj ((ws.take k).map (·.1)) ws[k].1=none from if_neg g,Option.getD_none] at F;have HS:=zh hs;have Z:=zh g;clear g hs r o;go_wp2_with (refine Bs rfl _ _ _ 91 rfl 4 Al Bc Tryz.underlying91 rfl Y ws[k].1 X (.bool true) rfl rfl ?_;intro w3 K L;have aa:=zh K;have ad:=zh L;clear K L)
        go_roundg (ws.length - (k+1))
        case measure=>rw [T.out];omega
        case rel=>
         refine ⟨k+1,oo,oo,by go_num,aa.congr (λa=>by rw [DM ws k d];exact KG _ _ a),(HG.alloc _).turn ad (λi e=>by rw [e];exact fk _),λj hj hj2=>?_,?_⟩
         . rcases iQ j k with h9 | h9
           . exact C.out j h9 hj2
           . have:j=k:=oo;subst this;exact HS.out
         . rw [DM ws k d];exact iZ.2 ⟨E,qs,λa ha b hb=>by rw [fp.1 hb];exact λe=>Z (e▸ha)⟩
    . have V:((ws[k].2.size:Int) != 128)=true:=by rw [gu];omega
      have HC:=zh (Tf (n:=n) k d hs);clear hs;go_wp2_with fail;go_ret;rw [HC.out];exact ⟨rfl,HG.alloc _⟩
  . obtain rfl:ws.length=k:=oo
    have H1:Hid (∀e∈ws,e.2.size=128):=zh (λe he=>by
     obtain ⟨j,hj,rfl⟩:=jB.1 he
     exact C.out j hj hj)
    have H2:Hid ((ws.map (·.1)).Nodup):=zh (by have:=E.out;rw [gP (fk _)] at this;exact this);clear d;obtain ⟨wa,a0⟩:∃wa:World,wa=wr:=⟨_,rfl⟩;subst a0;go_wp2_with fail
    go_loopg [33] ws.length (λgk i wr=>∃k:Nat,k<=ws.length/\gk=ws.length - k/\i=.int .i64 k/\Grew W wr/\(∀j (hj:j<k) (hj2:j<ws.length),¬(ws[j].1<0\/(n:Int)<=ws[j].1)))
    case atStart=>exact ⟨0,oo,oo,rfl,HG,λj hj=>absurd hj oo⟩
    case round=>
     obtain ⟨k,a1,l,rfl,hg,O⟩:=hrel;have ae:=zh l;have p:=zh hg;have G:=zh O;clear l hg O;by_cases d:k<ws.length
     . obtain ⟨b,an,rfl,av,c0,c1⟩:=Hq (B.keep (fk _) p) d;have U:(k:Int)<(ws.length:Int):=oo;have hx:Blk (wr.alloc (.cells #[.int .i64 ws[k].1,.string ws[k].2] 65)) wr.heap.size 65 #[.int .i64 ws[k].1,.string ws[k].2]:=fy wr _ _ rfl;have HX:=zh hx;have t:=zh (p.alloc (.cells #[.int .i64 ws[k].1,.string ws[k].2] 65));clear hx;go_wp2_with fail;refine AB [] (λw':World=>w'.cell? ⟨wr.heap.size,0,none⟩=some (.int .i64 ws[k].1)/\wr.heap.size<w'.heap.size) qk ?_;have hS:=(show (λw':World=>w'.cell? ⟨wr.heap.size,0,none⟩=some (.int .i64 ws[k].1)/\wr.heap.size<w'.heap.size) (wr.alloc (.cells #[.int .i64 ws[k].1,.string ws[k].2] 65)).drew from ⟨HX.drew.cell 0,HX.drew.lt⟩);by_cases q:ws[k].1<0
       . have g:decide (ws[k].1<0)=true:=gD q;have HC:=zh (MD (n:=n) H1 H2 k d (.inl q));refine tQ 0 37 ?_;refine tT 1 (some 38) hS ?_;refine tQ 2 39 ?_;refine tQ 3 40 ?_;refine tU 4 (some 41) ?_;refine tU 5 (some 42) ?_;refine tU 6 (some 43) ?_;refine tU 7 (some 44) ?_;refine tU 8 (some 45) ?_;refine tQ 9 46 ?_;refine AA qk ?_ _;go_wp2_with fail;go_ret;rw [HC.out];exact ⟨rfl,t.drew⟩
       . have g:decide (ws[k].1<0)=false:=gE q;refine tQ 0 37 ?_;refine tT 1 (some 38) hS ?_;refine tQ 2 39 ?_;refine tQ 3 40 ?_;refine tQ 4 41 ?_;refine tT 5 (some 42) hS ?_;refine tQ 6 43 ?_;refine tO 7 λK' hK=>?_;go_wp2_with fail;refine (z _ t.drew).mono ?_;rintro e w5 ⟨rfl,g5⟩;have H:=zh (t.drew.trans g5);have u:=HX.drew.grew g5;have I:=u.cell 0;have J:=u.lt;clear g5 u;go_wp2_with fail;refine hK.out _ _ (.inr (λ_=>⟨I,J⟩)) ?_;clear hK hS;have hS:=(show (λw':World=>w'.cell? ⟨wr.heap.size,0,none⟩=some (.int .i64 ws[k].1)/\wr.heap.size<w'.heap.size) w5 from ⟨I,J⟩);refine tQ 8 45 ?_;refine tQ 9 46 ?_;refine AA qk ?_ _;by_cases f:(n:Int)<=ws[k].1
         . have hib:decide ((n:Int)<=ws[k].1)=true:=gD f;have aj:ws[k].1>=(n:Int):=f;have HC:=zh (MD (n:=n) H1 H2 k d (.inr f));clear f;go_wp2_with fail;go_ret;rw [HC.out];exact ⟨rfl,H⟩
         . have hib:decide ((n:Int)<=ws[k].1)=false:=gE f;have aj:¬ws[k].1>=(n:Int):=f;have al:Hid (¬(ws[k].1<0\/(n:Int)<=ws[k].1)):=zh oo;clear f q;go_wp2_with fail
           go_roundg (ws.length - (k+1))
           case measure=>rw [ae.out];omega
           case rel=>
            refine ⟨k+1,oo,oo,by go_num,H,λj hj hj2=>?_⟩;rcases iQ j k with h9 | h9
            . exact G.out j h9 hj2
            . have:j=k:=oo;subst this;exact al.out
     . obtain rfl:ws.length=k:=oo
       have HC:=zh (Xf (n:=n) H1 H2 (λe he=>by
        obtain ⟨j,hj,rfl⟩:=jB.1 he
        exact G.out j hj hj))
       by_cases f:64<ws.length
       . have hb:(ws.length:Int)>64:=oo;rw [if_pos f] at HC;clear d;go_wp2_with fail;go_ret;rw [HC.out];exact ⟨rfl,p⟩
       . have hb:¬(ws.length:Int)>64:=oo;rw [if_neg f] at HC;clear d;go_wp2_with fail;go_ret;rw [HC.out];exact ⟨rfl,p⟩
end

end
section
open Go.RowKit
theorem KF:(Tryz.prog.info? 65).map (λi=>(i.zero,i.size,i.bytes))=some (some (.agg #[.int .i64 0,.string ⟨#[]⟩]),2,24):=qk
theorem dJ:∀(a b:List (Int × ByteArray)),a.Perm b->(a.Pairwise λx y=>x.1<y.1)->(b.Pairwise λx y=>x.1<y.1)->a=b:=by
 intro a
 induction a with
 | nil=>intro b hp _ _;exact hp.nil_eq
 | cons x a ih=>
   intro b hp ha hb;cases b with
   | nil=>exact absurd hp.length_eq qs
   | cons y b=>
     have c:x=y:=by
      have h1:x∈y::b:=hp.subset (gS ..);have h2:y∈x::a:=hp.symm.subset (gS ..);rcases ia.1 h1 with h1 | h1
      . exact h1
      . rcases ia.1 h2 with h2 | h2
        . exact h2.symm
        . have e1:=(iw.1 ha).1 y h2;have e2:=(iw.1 hb).1 x h1;omega
     subst c;rw [ih b ((perm_cons x).1 hp) (iw.1 ha).2 (iw.1 hb).2]
theorem Ws (n:Nat) (ws d:List (Int × ByteArray)) (hn:(ws.map (·.1)).Nodup) (hb:∀e∈ws,0<=e.1/\e.1<(n:Int)) (hp:d.Perm ws) (hs:d.Pairwise λa b=>¬b.1<a.1):d=wlI (B3 n ws):=by
 have f:ws.Nodup:=by
  have h:=hn;rw [Nodup,jL] at h;exact h.imp (λ{a b} hab e=>hab (by rw [e]))
 have c:(wlI (B3 n ws)).Pairwise λa b=>a.1<b.1:=by
  unfold wlI;rw [jL];exact (Gs n ws).imp (λ{a b} h=>oo)
 have g:(wlI (B3 n ws)).Perm ws:=by
  refine (perm_ext_iff_of_nodup (c.imp (λ{a b} h e=>by rw [e] at h;omega)) f).2 (λe=>?_);unfold wlI;rw [ft];constructor
  . rintro ⟨x,hx,rfl⟩;obtain ⟨h1,h2⟩:=(Dg n ws x).1 hx;obtain ⟨y,hy,k⟩:=jN.1 h2;have h3:=List.find?_some hy;have h4:=List.mem_of_find?_eq_some hy;have:y=((x.1:Int),x.2):=Prod.ext (by simpa using h3) k;rw [<-this];exact h4
  . intro he;have l:=hb e he;refine ⟨(e.1.toNat,e.2),(Dg n ws _).2 ⟨by show e.1.toNat<n;omega,?_⟩,Prod.ext (by show ((e.1.toNat:Nat):Int)=e.1;omega) rfl⟩;show (ws.find? λy=>y.1==((e.1.toNat:Nat):Int)).map (·.2)=some e.2;rw [show ((e.1.toNat:Nat):Int)=e.1 from oo,EJ hn e he];rfl
 have i:d.Pairwise λa b=>a.1<b.1:=by
  have j:d.Pairwise λa b=>a.1≠b.1:=by
   have:=(hp.map (·.1)).nodup_iff.2 hn;rw [Nodup,jL] at this;exact this
  exact (hs.and j).imp (λ{a b} h=>oo)
 exact dJ d _ (hp.trans g.symm) i c
attribute [local go_sem ↓] Go.wp_at_zero Go.wp_at_succ
theorem Zo (A:Option Addr) (c n:Nat) (l:List (Int × ByteArray)) (w:World) (hn:n=l.length) (hl:l.length<=1000000) (hr:ListAt w w.heap.size 2 A (l.map BB)):
 Calls Tryz.prog 105 #[.slice A n c] w λe w'=>∃v,e=.returned v/\OwnL w' w.heap.size 65 2 v (l.map BB)/\Grew w w':=by
 subst hn;cases A with
 | none=>
   have h0:l=[]:=by
    rcases Nat.eq_zero_or_pos l.length with h0 | h0
    . exact jP.1 h0
    . obtain ⟨b,i,e,_⟩:=hr (by rw [fm];exact h0);cases e
   subst h0;have a:=λ(W:World)=>Lib.run_eql_slice_nil (P:=Tryz.prog) W 24 65 none 0 c 0 0 Tryz.underlying24;go_enter Tryz.func105,Tryz.ntmps105
   go_wp2
   go_ret;exact ⟨_,rfl,OwnL.nil _ _ _ _,gG⟩
 | some ad=>
   have a:=λ(W:World)=>Lib.run_eql_slice_nil (P:=Tryz.prog) W 24 65 (some ad) l.length c 0 0 Tryz.underlying24;have d:=ListAt.mono (B':=w.heap.size+1) (hr.keep (fk _) ((fh w).alloc (.cells #[] 65))) oo;go_enter Tryz.func105,Tryz.ntmps105;go_wp2_with (at_builtin;refine CF (by rfl) _ _ 24 rfl w.heap.size 65 2 24 _ Tryz.underlying24 KF rfl qd _ [] (l.map BB) (by rfl) (OwnL.empty w _ _ _ (fk _) rfl) _ l.length _ (by rfl) qs (by intro r hr;obtain ⟨x,_,rfl⟩:=ft.1 hr;rfl) (by simpa using d) (by intro r hr;obtain ⟨x,_,rfl⟩:=ft.1 hr;rfl) (by simp;omega) (by simp;omega) qs ?_;intro v1 w3 f g h);go_ret;exact ⟨v1,rfl,f,Grew.own ((fh w).alloc _) g (by simp [Value.ownBlock]) (fk _)⟩

theorem VW:∀(a b:List Nat),(a.Pairwise λx y=>x<y)->(b.Pairwise λx y=>x<y)->(∀x,x∈a↔x∈b)->a=b:=by
 intro a
 induction a with
 | nil=>
   intro b _ _ h;cases b with
   | nil=>rfl
   | cons y b=>exact absurd ((h y).2 (gS ..)) qs
 | cons x a ih=>
   intro b ha hb h;cases b with
   | nil=>exact absurd ((h x).1 (gS ..)) qs
   | cons y b=>
     obtain ⟨c,f⟩:=iw.1 ha;obtain ⟨d,g⟩:=iw.1 hb
     have e:x=y:=by
      rcases ia.1 ((h x).1 (gS ..)) with h1 | h1
      . exact h1
      . rcases ia.1 ((h y).2 (gS ..)) with h2 | h2
        . exact h2.symm
        . have:=c y h2;have:=d x h1;omega
     subst e
     rw [ih b f g (λz=>by
      have hz:=h z
      constructor
      . intro h9
        rcases ia.1 (hz.1 (gM _ h9)) with h8 | h8
        . have:=c z h9;omega
        . exact h8
      . intro h9
        rcases ia.1 (hz.2 (gM _ h9)) with h8 | h8
        . have:=d z h9;omega
        . exact h8)]
theorem MU (S:Wl):(ksW S).Pairwise λx y=>x<y:=pairwise_lt_range.filter _
theorem VX (S:Wl) (i:Nat) (hi:i<S.length) (h:S[i].1 / 32∈ksW (S.take i)):ksW (S.take (i+1))=ksW (S.take i):=by
 refine VW _ _ (MU _) (MU _) (λx=>?_);rw [fr hi,Br,Br];constructor
 . rintro ⟨h1,e,he,hx⟩;rcases gC.1 he with he | he
   . exact ⟨h1,e,he,hx⟩
   . rw [fp.1 he] at hx;rw [<-hx];exact (Br _ _).1 h
 . rintro ⟨h1,e,he,hx⟩;exact ⟨h1,e,iH _ he,hx⟩
theorem Vh (S:Wl) (hS:S.Pairwise λa b=>a.1<b.1) (i:Nat) (hi:i<S.length) (c:S[i].1 / 32<32) (h:¬S[i].1 / 32∈ksW (S.take i)):ksW (S.take (i+1))=ksW (S.take i)++[S[i].1 / 32]:=by
 refine VW _ _ (MU _) (pairwise_append.2 ⟨MU _,pairwise_singleton _ _,λa ha b hb=>?_⟩) (λx=>?_)
 . rw [fp.1 hb];obtain ⟨_,e,he,hx⟩:=(Br _ _).1 ha;obtain ⟨j,hj,rfl⟩:=jB.1 he;rw [iX] at hj;rw [getElem_take] at hx;have h1:=jU.1 hS j i oo hi oo;have h2:S[j].1 / 32≠S[i].1 / 32:=λe9=>h (by rw [<-e9,hx];exact ha);omega
 . rw [fr hi,gC,fp,Br,Br];constructor
   . rintro ⟨h1,e,he,hx⟩;rcases gC.1 he with he | he
     . exact .inl ⟨h1,e,he,hx⟩
     . rw [fp.1 he] at hx;exact .inr hx.symm
   . rintro (⟨h1,e,he,hx⟩ | rfl)
     . exact ⟨h1,e,iH _ he,hx⟩
     . exact ⟨c,S[i],gw _ (fp.2 rfl),rfl⟩
theorem Oi (l:Wl) (q:Nat):(Ad l q).isSome=true↔∃e∈l,e.1=q:=by
 induction l with
 | nil=>simp [Ad]
 | cons e l ih=>
   unfold Ad;cases hq:Ad l q with
   | some s=>
     rw [hq] at ih;obtain ⟨e',h1,h2⟩:=ih.1 rfl;exact ⟨λ_=>⟨e',gM _ h1,h2⟩,λ_=>rfl⟩
   | none=>
     rw [hq] at ih;constructor
     . intro h;by_cases a:q=e.1
       . exact ⟨e,gS ..,a.symm⟩
       . simp [a] at h
     . rintro ⟨e',h1,h2⟩;rcases ia.1 h1 with rfl | h1
       . simp [h2]
       . exact absurd (ih.2 ⟨e',h1,h2⟩) qs
def nm (E:Dev) (S:Wl) (v:U32) (i k j:Nat):U32:=if (Ad (S.take i) (32*k+j)).isSome=true then v else fld (mapI E k).data j
theorem bR (E:Dev) (S:Wl) (v:U32) (k j:Nat):nm E S v 0 k j=fld (mapI E k).data j:=by unfold nm;rw [take_zero];rfl
theorem ed (E:Dev) (S:Wl) (v:U32) (k:Nat):(List.range 32).map (nm E S v S.length k)=E6 E S v k:=by
 unfold E6 nm;rw [gP (fk _)]
theorem dh (E:Dev) (S:Wl) (v:U32) (i:Nat) (hi:i<S.length) (k j:Nat) (hj:j<32):nm E S v (i+1) k j=if k=S[i].1 / 32/\j=S[i].1 % 32 then v else nm E S v i k j:=by
 unfold nm
 have h1:(Ad (S.take (i+1)) (32*k+j)).isSome=true↔((Ad (S.take i) (32*k+j)).isSome=true\/S[i].1=32*k+j):=by
  rw [Oi,Oi,fr hi];constructor
  . rintro ⟨e,he,hq⟩;rcases gC.1 he with he | he
    . exact .inl ⟨e,he,hq⟩
    . rw [fp.1 he] at hq;exact .inr hq
  . rintro (⟨e,he,hq⟩ | hq)
    . exact ⟨e,iH _ he,hq⟩
    . exact ⟨S[i],gw _ (fp.2 rfl),hq⟩
 have h2:S[i].1=32*k+j↔(k=S[i].1 / 32/\j=S[i].1 % 32):=oo;by_cases h3:(Ad (S.take i) (32*k+j)).isSome=true
 . rw [if_pos (h1.2 (.inl h3)),if_pos h3];split<;>rfl
 . rw [if_neg h3];by_cases h4:k=S[i].1 / 32/\j=S[i].1 % 32
   . rw [if_pos h4,if_pos (h1.2 (.inr (h2.2 h4)))]
   . rw [if_neg h4,if_neg (λh9=>(h1.1 h9).elim h3 (λh8=>h4 (h2.1 h8)))]
def Xu (ks:List Nat) (bk:Nat->Nat):Int->Option Value:=λa=>if 0<=a/\a.toNat∈ks then some (ptrV (bk a.toNat)) else none
theorem Ma (ks:List Nat) (bk:Nat->Nat) (k:Nat):Xu ks bk (k:Int)=if k∈ks then some (ptrV (bk k)) else none:=by
 unfold Xu;rw [gQ];by_cases h:k∈ks
 . rw [if_pos ⟨oo,h⟩,if_pos h]
 . rw [if_neg (λh9=>h h9.2),if_neg h]
structure MapsM (w:World) (lo mm:Nat) (ks:List Nat) (bk:Nat->Nat) (V:Nat->Nat->U32):Prop where
 map:MapI w mm (Xu ks bk)
 lm:lo<=mm
 low:∀k∈ks,lo<=bk k
 blk:∀k∈ks,Blk w (bk k) 185 (AC (V k))
 inj:∀k∈ks,∀k'∈ks,bk k=bk k'->k=k'
theorem MapsM.kept {w w':World} {lo mm:Nat} {ks:List Nat} {bk:Nat->Nat} {V:Nat->Nat->U32} (h:MapsM w lo mm ks bk V) {S:Nat->Prop} (ht:Turned S w w') (hm:¬S mm) (hS:∀k∈ks,¬S (bk k)):MapsM w' lo mm ks bk V:=
 ⟨h.map.turned ht hm,h.lm,h.low,λk hk=>(h.blk k hk).turned ht (hS k hk),h.inj⟩
theorem MapsM.grew {w w':World} {lo mm:Nat} {ks:List Nat} {bk:Nat->Nat} {V:Nat->Nat->U32} (h:MapsM w lo mm ks bk V) (hg:Grew w w'):MapsM w' lo mm ks bk V:=h.kept (hg.turned (λ_=>False)) (λh=>h) (λ_ _ h=>h)
theorem MapsM.lookd {w w':World} {lo mm m:Nat} {ks:List Nat} {bk:Nat->Nat} {V:Nat->Nat->U32} (h:MapsM w lo mm ks bk V) (ht:Turned (λq=>q=m) w w') (hm:m<lo):MapsM w' lo mm ks bk V:=h.kept ht (by have:=h.lm;omega) (λk hk e=>by have:=h.low k hk;omega)
theorem MapsM.own {w w':World} {lo mm base e sz:Nat} {v:Value} {rows:List (List Value)} {ks:List Nat} {bk:Nat->Nat} {V:Nat->Nat->U32} (h:MapsM w lo mm ks bk V) (ho:OwnL w base e sz v rows) (hne:e≠185) (hg:w.grownBy w' v.ownBlock):MapsM w' lo mm ks bk V:=
 h.kept (S:=λq=>v.ownBlock=some q) ⟨hg.os,hg.tape,hg.output,hg.size,λk hk hn=>hg.block k hk (λe9=>hn e9.symm)⟩ (λe9=>DX ho h.map e9) (λk hk e9=>ho.ne_blk (h.blk k hk) hne e9)
theorem MapsM.snoc {w w':World} {lo mm b k:Nat} {ks:List Nat} {bk:Nat->Nat} {V:Nat->Nat->U32} {X:Nat->U32} (h:MapsM w lo mm ks bk V) (hk:¬k∈ks) (g:lo<=b) (hb:Blk w b 185 (AC X)) (f:∀j∈ks,¬bk j=b) (hm:MapI w' mm (upd (Xu ks bk) (k:Int) (some (ptrV b)))) (ht:Turned (λq=>q=mm) w w'):
 MapsM w' lo mm (ks++[k]) (λj=>if j=k then b else bk j) (λj=>if j=k then X else V j):=by
 have d:∀j∈ks,¬j=k:=λj hj e=>hk (e▸hj);refine ⟨hm.congr (λa=>?_),h.lm,λj hj=>?_,λj hj=>?_,λj hj j' c he=>?_⟩
 . by_cases ha:a=(k:Int)
   . subst ha;rw [DI,Ma,if_pos qs,if_pos rfl]
   . rw [DK _ _ ha];unfold Xu;by_cases h1:0<=a/\a.toNat∈ks
     . rw [if_pos h1,if_pos ⟨h1.1,iH _ h1.2⟩];show _=some (ptrV (if a.toNat=k then b else bk a.toNat));rw [if_neg oo]
     . rw [if_neg h1,if_neg];rintro ⟨h2,h3⟩;rcases gC.1 h3 with h3 | h3
       . exact h1 ⟨h2,h3⟩
       . have:=fp.1 h3;omega
 . rcases gC.1 hj with hj | hj
   . show lo<=if j=k then b else bk j;rw [if_neg (d j hj)];exact h.low j hj
   . rw [fp.1 hj];show lo<=if k=k then b else bk k;rw [if_pos rfl];exact g
 . rcases gC.1 hj with hj | hj
   . simp only [if_neg (d j hj)];exact (h.blk j hj).turned ht (Cd (h.blk j hj) h.map)
   . rw [fp.1 hj];simp only [if_true];exact hb.turned ht (Cd hb h.map)
 . change (if j=k then b else bk j)=(if j'=k then b else bk j') at he;rcases gC.1 hj with hj | hj<;>rcases gC.1 c with c | c
   . rw [if_neg (d j hj),if_neg (d j' c)] at he;exact h.inj j hj j' c he
   . rw [fp.1 c] at he ⊢;rw [if_neg (d j hj),if_pos rfl] at he;exact absurd he (f j hj)
   . rw [fp.1 hj] at he ⊢;rw [if_pos rfl,if_neg (d j' c)] at he;exact absurd he.symm (f j' c)
   . rw [fp.1 hj,fp.1 c]
theorem MapsM.store {w:World} {lo mm k j:Nat} {ks:List Nat} {bk:Nat->Nat} {V:Nat->Nat->U32} (h:MapsM w lo mm ks bk V) (hk:k∈ks) (v:U32):MapsM (w.setCell ⟨bk k,j,none⟩ (.int .u32 (u32 v))) lo mm ks bk (λk' i=>if k'=k/\i=j then v else V k' i):=by
 have hT:Turned (λq=>q=bk k) w (w.setCell ⟨bk k,j,none⟩ (.int .u32 (u32 v))):=(gW (λq=>q=bk k) w).setCell (p:=⟨bk k,j,none⟩) (λ_=>rfl) _;refine ⟨h.map.turned hT (λe=>Cd (h.blk k hk) h.map e.symm),h.lm,h.low,λk' hk'=>?_,h.inj⟩;by_cases b:k'=k
 . subst b;have:=(h.blk k' hk').set_ j (.int .u32 (u32 v));rw [Hc] at this;refine this.conv (BJ λi _=>?_);by_cases a:i=j
   . rw [if_pos a,if_pos ⟨rfl,a⟩]
   . rw [if_neg a,if_neg (λh9=>a h9.2)]
 . have:=(h.blk k' hk').turned hT (λe=>b (h.inj k' hk' k hk e));exact this.conv (BJ λi _=>by rw [if_neg (λh9=>b h9.1)])
theorem MapsM.conv {w:World} {lo mm:Nat} {ks:List Nat} {bk:Nat->Nat} {V V':Nat->Nat->U32} (h:MapsM w lo mm ks bk V) (e:∀k∈ks,∀j,j<32->V k j=V' k j):MapsM w lo mm ks bk V':=
 ⟨h.map,h.lm,h.low,λk hk=>(h.blk k hk).conv (BJ λj hj=>e k hk j hj),h.inj⟩

end
section
attribute [local go_sem ↓] Go.wp_at_zero Go.wp_at_succ
open Go.RowKit Go.Shelf Go.Lib
abbrev EltW:=Fin 1024 × ByteArray
def Gw (a:EltW):List Value:=[.int .i64 ((a.1.1:Nat):Int),.string a.2]
def XH (x y:EltW):Int:=((x.1.1:Nat):Int) - ((y.1.1:Nat):Int)
theorem MO (x y:EltW):Go.Proofs.ltOf XH x y=true↔x.1.1<y.1.1:=by
 unfold Go.Proofs.ltOf XH;rw [gm];omega
theorem swW:Go.Sort.SWO (Go.Proofs.ltOf XH) where
 irrefl x:=by
  cases h:Go.Proofs.ltOf XH x x with
  | false=>rfl
  | true=>have:=(MO x x).1 h;omega
 trans x y z h1 h2:=by
  rw [MO] at h1 h2 ⊢;omega
 ntrans x y z h1 h2:=by
  rw [<-ie] at h1 h2 ⊢;rw [MO] at h1 h2 ⊢;omega
def toW (e:Int × ByteArray):EltW:=(⟨e.1.toNat % 1024,ja _ qd⟩,e.2)
def ofW (a:EltW):Int × ByteArray:=(((a.1.1:Nat):Int),a.2)
theorem dz (e:Int × ByteArray) (h:0<=e.1/\e.1<1024):ofW (toW e)=e:=by
 unfold ofW toW;refine Prod.ext ?_ rfl;show ((e.1.toNat % 1024:Nat):Int)=e.1;omega
theorem cJ (x y:EltW) (W:World):Calls Tryz.prog 107 #[.agg (Gw x).toArray,.agg (Gw y).toArray] W λe w'=>e=.returned (.int .i64 (XH x y))/\∃q os',w'=Go.Sort.grow (W.drewN q) os':=by
 obtain ⟨⟨a,ha⟩,s⟩:=x;obtain ⟨⟨b,hb⟩,t⟩:=y;show Calls Tryz.prog 107 #[.agg #[.int .i64 (a:Int),.string s],.agg #[.int .i64 (b:Int),.string t]] W _;have c:-1024<=(a:Int) - (b:Int)/\(a:Int) - (b:Int)<=1024:=oo;go_enter Tryz.func107,Tryz.ntmps107;go_wp2_with fail;go_ret;exact ⟨rfl,0,_,by rw [Go.Sort.alloc_eq_grow,Go.Sort.alloc_eq_grow,Go.Sort.grow_grow];rfl⟩
theorem N6 (w:World) (g m:Nat) (d:Array EltW) (os:Array Obj):Turned (λi=>i=g) w (Go.Proofs.sortWorldK Gw 2 w g 0 m d os):=by
 refine ⟨rfl,rfl,rfl,?_,λk hk hs=>?_⟩
 . exact Go.Proofs.size_sortWorldK_c Gw 2 w g 0 m d os
 . unfold Go.Proofs.sortWorldK Go.Sort.grow Go.Sort.putRowK Go.Sort.putRow Go.Sort.mapBlock Go.Sort.ahead;show (w.heap.modify g _++os)[k]? =w.heap[k]?;rw [Array.getElem?_append_left (by rw [Array.size_modify];exact hk),jH,if_neg (λe=>hs e.symm)]
theorem QK (d:Array EltW) (i:Nat) (h:i<d.size):d[i]! =d.toList[i]'(by rw [iG];exact h):=by
 rw [getElem!_pos d i h,Array.getElem_toList]
theorem T8 {w:World} {base g cap:Nat} {N:List EltW} (h:OwnL w base 65 2 (.slice (some ⟨g,0,none⟩) N.length cap) (N.map Gw)):Go.Sort.HoldsK Gw 2 w g 0 N.toArray:=by
 intro t ht;have a:t<N.length*2:=by simpa using ht
 have hj:t / 2<N.length:=oo;rw [Go.Sort.get_flatK _ _ _ _ (by simpa using a),jM]
 have b:(N.toArray)[t / 2]! =N[t / 2]:=by
  rw [getElem!_pos _ _ (by simpa using hj)];simp
 have c:(N.map Gw)[t / 2]? =some (Gw N[t / 2]):=by rw [fo,fg hj];rfl
 rw [b];refine ⟨?_,h.frozen t⟩;have hm:t=t / 2*2+t % 2:=oo;have d:t % 2<2:=ja _ qd
 have hu:(Gw N[t / 2])[t % 2]? =some ((Gw N[t / 2])[t % 2]!):=by
  have e:(Gw N[t / 2]).length=2:=rfl;rw [fg oo,getElem!_pos _ _ oo]
 have:=h.cell (j:=t / 2) (i:=t % 2) c hu;rwa [<-hm] at this
theorem ct {w:World} {g:Nat} {d:Array EltW} (h:Go.Sort.HoldsK Gw 2 w g 0 d) (hg:g<w.heap.size):ListAt w w.heap.size 2 (some ⟨g,0,none⟩) (d.toList.map Gw):=by
 refine λ_=>⟨g,0,rfl,hg,λj cs hj i v hi=>?_⟩;rw [fo] at hj;cases hx:d.toList[j]? with
 | none=>rw [hx] at hj;cases hj
 | some x=>
   rw [hx] at hj;have f:j<d.toList.length:=(gI.1 hx).1;have b:j<d.size:=by rw [<-iG];exact f
   injection hj with hj;have e:cs=Gw x:=hj.symm;have a:i<cs.length:=(gI.1 hi).1;have k:i<2:=by rw [e] at a;exact a
   have hc:=(h.cell (i:=j) (c:=i) b k).1
   have l:d[j]! =x:=by
    rw [QK d j b];exact (gI.1 hx).2
   rw [l,<-e,getElem!_pos cs i a] at hc;rw [hc,(gI.1 hi).2]
theorem Xl (g cap n:Nat) (ws:List (Int × ByteArray)) (hl:0<ws.length/\ws.length<=100000) (hn:(ws.map (·.1)).Nodup) (hb:∀e∈ws,0<=e.1/\e.1<(n:Int)) (s:n<=1024) (w:World) (base:Nat) (b:OwnL w base 65 2 (.slice (some ⟨g,0,none⟩) ws.length cap) (ws.map BB)):
 Calls Tryz.prog 106 #[.slice (some ⟨g,0,none⟩) ws.length cap,.func (.func 107) #[] #[]] w λe w'=>e=.returned (.tuple #[])/\Turned (λi=>i=g) w w'/\ListAt w' w'.heap.size 2 (some ⟨g,0,none⟩) ((wlI (B3 n ws)).map BB):=by
 obtain ⟨N,hN⟩:∃N:List EltW,ws.map toW=N:=⟨_,rfl⟩;have f:N.length=ws.length:=by rw [<-hN,fm]
 have o:N.map Gw=ws.map BB:=by
  rw [<-hN,iq];apply iE;intro e he;have:=hb e he;show BB (ofW (toW e))=BB e;rw [dz e ⟨this.1,oo⟩]
 have p:N.map ofW=ws:=by
  rw [<-hN,iq];conv=>rhs;rw [<-List.map_id ws]
  apply iE;intro e he;have:=hb e he;exact dz e ⟨this.1,oo⟩
 rw [<-o,<-f] at b;rw [<-f];have hg:g<w.heap.size:=(b.own_ge rfl).2;have hH:=T8 b;have a:N.toArray.size=N.length:=qs;have h:N.toArray.toList=N:=qs;obtain ⟨d,hd⟩:∃d,N.toArray=d:=⟨_,rfl⟩;rw [hd] at hH a h;have eg:∀args w,(callFunc 107 args).run Tryz.prog w=.ok (.enter 107 args) w:=BQ Tryz.func107 qk qk;have c:=Go.Proofs.AnyQ.slices_SortFunc eZ 2 Tryz.isAgg65 Tryz.sizeOf65 Gw (λ_=>rfl) (λx v hv=>by simp [Gw] at hv;rcases hv with rfl | rfl<;>rfl) XH swW 107 #[] g 0 cap d w eg (λm os dk hs x y=>cJ x y _) hH hg (by rw [a];omega);change Calls Tryz.prog 106 _ _ _ at c;rw [a] at c;refine c.mono ?_;rintro e w' ⟨rfl,d',n',os,hp,hs,rfl⟩;refine ⟨rfl,N6 w g n' d' os,?_⟩;have k:d'.size=d.size:=hp.1;have hh:=ct (d:=d') (Go.Proofs.holdsK_sortWorldK_c Gw 2 w g 0 d d' n' os hH hg k) (fw hg (Go.Proofs.size_sortWorldK_c Gw 2 w g 0 n' d' os))
 have he:d'.toList.map ofW=wlI (B3 n ws):=by
  refine Ws n ws _ hn hb ?_ ?_
  . have h3:=hp.2.2;rw [<-a,Array.extract_size,<-k,Array.extract_size] at h3;have h4:=(h3.map ofW);rw [h,p] at h4;exact h4
  . rw [jL,jU];intro i j hi hj r l;rw [iG] at hi hj;have h4:=hs i j (iB _) r oo;rw [QK d' j hj,QK d' i hi] at h4;rw [(MO _ _).2 (by unfold ofW at l;simp only at l;omega)] at h4;cases h4
 have q:d'.toList.map Gw=(wlI (B3 n ws)).map BB:=by
  rw [<-he,iq];rfl
 rw [q] at hh;exact hh

end
section
open Go.RowKit
theorem Da {w w':World} {sz:Nat} {A:Option Addr} {rows:List (List Value)} {S:Nat->Prop} (h:ListAt w w.heap.size sz A rows) (ht:Turned S w w') (hS:∀b off o u,A=some ⟨b,off,none⟩->w.cell? ⟨b,o,none⟩=some u->¬S b):ListAt w' w'.heap.size sz A rows:=λhl=>by
 obtain ⟨b,off,e,hb,hc⟩:=h hl;refine ⟨b,off,e,fw hb ht.size,λj cs hj i v hi=>?_⟩;have hv:=hc j cs hj i v hi;rw [ht.cellEq b _ hb (hS b off _ v e hv)];exact hv
theorem AO {w w':World} {sz:Nat} {A:Option Addr} {cells:List (List Value)} (h:ListAt w w.heap.size sz A cells) (hg:Grew w w'):ListAt w' w'.heap.size sz A cells:=(h.keep (fk _) hg).mono hg.size
theorem OwnL.some_ {w:World} {base e sz:Nat} {v:Value} {rows:List (List Value)} (h:OwnL w base e sz v rows) (a:rows≠[]):∃g cap,v=.slice (some ⟨g,0,none⟩) rows.length cap/\base<=g/\g<w.heap.size:=by
 rcases h.form with ⟨_,h0⟩ | ⟨g,cap,e1,h1,h2,_⟩
 . exact absurd h0 a
 . exact ⟨g,cap,e1,h1,h2⟩
theorem US {w0:World} {x s m:Nat} {sy ep:Int} {E R:Dev} {out:Nat->Prop} {b:Nat} {W wA w1 w9 w10:World} (c:Grew W wA) (hd:Done w0 x s m sy ep E (λk=>out k\/k=b) wA w1) (a:StoreM w9 s m x sy ep) (hT:Turned (λq=>q=m\/w1.heap.size<=q) w1 w9)
 (hL:Live w0 x R (up (λk=>out k\/k=b) w1.heap.size w9) w10) (hB:Beside w0 (up (λk=>out k\/k=b) w1.heap.size w9) w9 w10) (e:out s) (d:out m):Done w0 x s m sy ep R out W w10:=by
 have f:=a.lt.2;refine ⟨hL.few (λk hk=>.inl (.inl hk)),a.kept hB (λhk=>hk.2 (.inl (.inl e))) (λhk=>hk.2 (.inl (.inl d))),?_⟩;have h1:Turned (λk=>(w0.heap.size<=k/\¬out k)\/k=m) W w1:=(c.turned _).trans (hd.turned.mono λk _ hk=>hk.elim (λh9=>.inl ⟨h9.1,λh8=>h9.2 (.inl h8)⟩) .inr)
 have h2:Turned (λk=>(w0.heap.size<=k/\¬out k)\/k=m) W w9:=h1.next hT (λk hk hq=>by
  rcases hq with hq | hq
  . exact .inr hq
  . exact absurd hk (by have:=h1.size;omega))
 exact h2.trans (hB.mono λk _ hk=>.inl ⟨hk.1,λh9=>hk.2 (.inl (.inl h9))⟩)
theorem KL {w:World} {g k:Nat} {l:Wl} (h:ListAt w w.heap.size 2 (some ⟨g,0,none⟩) ((wlI l).map BB)) (hk:k<l.length):g<w.heap.size/\w.cell? ⟨g,k*2,none⟩=some (.int .i64 ((l[k].1:Nat):Int))/\w.cell? ⟨g,k*2+1,none⟩=some (.string l[k].2):=by
 obtain ⟨b,a,e,hb,c0,c1⟩:=Hq h (k:=k) (by unfold wlI;rw [fm];exact hk);injection e with e;injection e with e1 e2 _;subst e1;subst e2;have he:(wlI l)[k]'(by unfold wlI;rw [fm];exact hk)=(((l[k].1:Nat):Int),l[k].2):=by simp [wlI]
 rw [he] at c0 c1;simp only [jM] at c0 c1;exact ⟨hb,c0,c1⟩
theorem QW:ksW []=[]:=qd
theorem MapsM.made {w:World} (V:Nat->Nat->U32):MapsM (w.alloc (.map #[] 0)) w.heap.size w.heap.size (ksW []) (λ_=>0) V:=by
 rw [QW];exact ⟨(MapIs.made w rfl).congr (λa=>by unfold Xu;rw [if_neg (λh=>absurd h.2 not_mem_nil)]),fk _,(λk hk=>absurd hk (not_mem_nil)),(λk hk=>absurd hk (not_mem_nil)),(λk hk=>absurd hk (not_mem_nil))⟩
theorem d8 {w1 w2:World} {b s t' k:Nat} {ver:BitVec 32} (hg:Grew w1 w2) (h:(λw':World=>w'.cell? ⟨b,0,none⟩=some (ptrV s)/\b<w'.heap.size/\w'.cell? ⟨t',k,none⟩=some (.int .u32 (u32 ver))/\t'<w'.heap.size) w1):(λw':World=>w'.cell? ⟨b,0,none⟩=some (ptrV s)/\b<w'.heap.size/\w'.cell? ⟨t',k,none⟩=some (.int .u32 (u32 ver))/\t'<w'.heap.size) w2:=⟨BG hg h.1,fw h.2.1 hg.size,BG hg h.2.2.1,fw h.2.2.2 hg.size⟩
theorem eF {tv v:U32} (h:tv+1#32=v) (hn:tv≠4294967295#32):(u32 tv==4294967295)=false/\u32 tv+1=u32 v/\u32 tv+1<=4294967295/\IntKind.u32.wrap (u32 tv+1)=u32 v:=by
 have h1:tv.toNat≠4294967295:=λe=>hn (BitVec.eq_of_toNat_eq (by rw [e];rfl));have h2:=tv.isLt
 have h3:u32 tv+1=u32 v:=by
  unfold u32;rw [<-h,BitVec.toNat_add];have:(1#32:BitVec 32).toNat=1:=rfl;omega
 have h4:u32 tv+1<=4294967295:=by unfold u32;omega
 refine ⟨by rw [gF];unfold u32;omega,h3,h4,?_⟩;rw [h3];exact IntWalk.u32_in _ (BD v)
theorem VQ {w:World} {base g cap:Nat} {ks:List Nat} (h:OwnL w base 3 1 (.slice (some ⟨g,0,none⟩) ks.length cap) (ks.map λk:Nat=>[.int .i64 (k:Int)])) {j:Nat} (hj:j<ks.length):w.cell? ⟨g,j,none⟩=some (.int .i64 ((ks[j]:Nat):Int))/\g<w.heap.size:=by
 have h1:(ks.map λk:Nat=>[Value.int .i64 (k:Int)])[j]? =some [.int .i64 ((ks[j]:Nat):Int)]:=by rw [fo,fg hj];rfl
 have h2:=h.cell (j:=j) (i:=0) h1 rfl;exact ⟨by simpa using h2,(h.own_ge rfl).2⟩
def nt (td:ByteArray) (S:Wl) (v:U32) (q p:Nat):U32:=if p∈(ksW S).take q then v else fld td p
theorem cX (td:ByteArray) (S:Wl) (v:U32) (p:Nat):nt td S v 0 p=fld td p:=by unfold nt;rw [take_zero,if_neg not_mem_nil]
theorem dK (td:ByteArray) (S:Wl) (v:U32) (q:Nat) (hq:q<(ksW S).length) (p:Nat):(if p=(ksW S)[q] then v else nt td S v q p)=nt td S v (q+1) p:=by
 unfold nt;rw [fr hq];by_cases h:p=(ksW S)[q]
 . rw [if_pos h,if_pos (gw _ (fp.2 h))]
 . rw [if_neg h];by_cases h2:p∈(ksW S).take q
   . rw [if_pos h2,if_pos (iH _ h2)]
   . rw [if_neg h2,if_neg (λh9=>(gC.1 h9).elim h2 (λh8=>h (fp.1 h8)))]
theorem e7 (E:Dev) (td:ByteArray) (S:Wl) (v:U32) (h:(topI E).data=td):(List.range 32).map (nt td S v (ksW S).length)=GM E S v:=by
 unfold GM;apply iE;intro p hp;have a:=gU.1 hp;unfold nt;rw [gP (fk _),h]
 have:p∈ksW S↔(S.any λe=>e.1 / 32==p)=true:=by
  unfold ksW;rw [iM];exact ⟨λh=>h.2,λh=>⟨hp,h⟩⟩
 by_cases h2:p∈ksW S
 . rw [if_pos h2,if_pos (this.1 h2)]
 . rw [if_neg h2,if_neg (λh9=>h2 (this.2 h9))]
theorem Nh {go g n c:Nat} (h:(Value.slice (some ⟨go,0,none⟩) n c).ownBlock=some g):g=go:=by
 have e1:go=g:=by simpa [Value.ownBlock] using h
 exact e1.symm
def en0 (E:Dev) (S:Wl) (v:U32):Int × ByteArray:=(0,Ao (AI (GM E S v)) v 0)
def enM (E:Dev) (S:Wl) (v:U32) (q:Nat):List (Int × ByteArray):=((ksW S).take q).map λk:Nat=>(1+(k:Int),Ao (AI (E6 E S v k)) v (1+(k:Int)))
def enD (S:Wl) (v:U32) (q:Nat):List (Int × ByteArray):=(S.take q).map λe=>(131+((e.1:Nat):Int),Ao e.2 v (131+((e.1:Nat):Int)))
theorem am (E:Dev) (S:Wl) (v:U32) (q:Nat) (hq:q<(ksW S).length):enM E S v (q+1)=enM E S v q++[(1+(((ksW S)[q]:Nat):Int),Ao (AI (E6 E S v (ksW S)[q])) v (1+(((ksW S)[q]:Nat):Int)))]:=by
 unfold enM;rw [fr hq,fz];rfl
theorem aq (S:Wl) (v:U32) (q:Nat) (hq:q<S.length):enD S v (q+1)=enD S v q++[(131+((S[q].1:Nat):Int),Ao S[q].2 v (131+((S[q].1:Nat):Int)))]:=by
 unfold enD;rw [fr hq,fz];rfl
theorem Vp (E:Dev) (S:Wl) (v:U32) (q:Nat):(enM E S v q).length<=(ksW S).length:=by unfold enM;rw [fm,iX];omega
theorem b7 (S:Wl) (v:U32) (q:Nat):(enD S v q).length<=S.length:=by unfold enD;rw [fm,iX];omega
theorem eQ (E:Dev) (S:Wl) (v:U32):en0 E S v::(enM E S v (ksW S).length++enD S v S.length)=wlI (Hm E S v):=by
 unfold wlI Hm enM enD en0;rw [gP (fk _),gP (fk _),map_cons,fz,iq,iq];congr 1
def slU (l:Wl) (q:Nat):List (Int × ByteArray):=(List.range q).map λi:Nat=>(34+(i:Int),(l.getD i (0,⟨#[]⟩)).2)
theorem Zy (l:Wl) (q:Nat) (hq:q<l.length):slU l (q+1)=slU l q++[(34+(q:Int),l[q].2)]:=by
 unfold slU;rw [jW,fz];simp [gH,fg hq]
theorem Qq (l:Wl) (q:Nat):(slU l q).length=q:=by unfold slU;rw [fm,io]
theorem bU (l:Wl):slU l l.length=wlI (CU l):=by
 unfold slU wlI CU;rw [iq];apply iE;intro j _;show (34+(j:Int),_)=(((34+j:Nat):Int),_);rw [show (((34+j:Nat)):Int)=34+(j:Int) from oo]
theorem VD (l:Wl) (q:Nat) (hq:q<l.length):Dp (DT (l.take (q+1)))=Dp (DT (l.take q))++l[q].2:=by
 unfold DT;rw [fr hq,fz];exact LD _ _
theorem K9 (l:Wl):((wlI l).map BB).length=l.length:=by unfold wlI;rw [fm,fm]
theorem Ye (E:Dev) (S:Wl) (v:U32) (h:S.length<=64):0<(Hm E S v).length/\(Hm E S v).length<=97:=by
 have h1:(ksW S).length<=32:=by unfold ksW;exact fx (jC _ _) (by rw [io];exact fk _)
 unfold Hm;rw [iY,gK,fm,fm];omega
theorem YO (E:Dev) (S:Wl) (v:U32):∀e∈Hm E S v,e.2.size=140:=by
 intro e he;unfold Hm at he;rcases ia.1 he with rfl | he
 . exact BS ..
 . rcases gC.1 he with he | he
   . obtain ⟨k,_,rfl⟩:=ft.1 he;exact BS ..
   . obtain ⟨k,_,rfl⟩:=ft.1 he;exact BS ..
def Z0:Prop:=∀(g cap n:Nat) (ws:List (Int × ByteArray)) (_:0<ws.length/\ws.length<=100000) (_:(ws.map (·.1)).Nodup) (_:∀e∈ws,0<=e.1/\e.1<(n:Int)) (_:n<=1024) (w:World) (base:Nat) (_:OwnL w base 65 2 (.slice (some ⟨g,0,none⟩) ws.length cap) (ws.map BB)),
 Calls Tryz.prog 106 #[.slice (some ⟨g,0,none⟩) ws.length cap,.func (.func 107) #[] #[]] w λe w'=>e=.returned (.tuple #[])/\Turned (λi=>i=g) w w'/\ListAt w' w'.heap.size 2 (some ⟨g,0,none⟩) ((wlI (B3 n ws)).map BB)
theorem Vq:Z0:=λg cap n ws a b c d w base e=>Xl g cap n ws a b c d w base e

end
end Go.Proofs.YtfklieeipokllaaGreat
