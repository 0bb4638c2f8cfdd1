/- Parts of the proof (packed), 15. -/
import Derived.Shelf.SlSortCmp.NoneTotal
import Derived.Test.YtfklieeipokllaaGreatCzN
import Derived.Test.YtfklieeipokllaaGreatCzC
namespace Go.Proofs.YtfklieeipokllaaGreat
set_option linter.all false
set_option maxRecDepth 100000
set_option maxHeartbeats 16000000
open List
section
attribute [local go_sem ↓] Go.wp_at_zero Go.wp_at_succ
open Go.RowKit
theorem Rc (p:Wr->Bool) (sv:Nat->Nat) (l:List Wr):∀s:Dev × Nat,(l.foldl (AK p sv) s).1.st.length=s.1.st.length/\(l.foldl (AK p sv) s).1.failed=s.1.failed:=by
 induction l with
 | nil=>intro s;exact ⟨rfl,rfl⟩
 | cons r l ih=>
   intro s;rw [foldl_cons];have h:=ih (AK p sv s r)
   have e:(AK p sv s r).1.st.length=s.1.st.length/\(AK p sv s r).1.failed=s.1.failed:=by
    unfold AK;split
    . exact ⟨Cx ..,GF ..⟩
    . exact ⟨rfl,rfl⟩
   exact ⟨h.1.trans e.1,h.2.trans e.2⟩
theorem MZ (D:Dev) (p:Wr->Bool) (sv:Nat->Nat):(BQ D p sv).st.length=D.st.length/\(BQ D p sv).failed=D.failed:=Rc p sv D.pend (D,0)
theorem Y4 (D:Dev):(JQ D).1.st.length=D.st.length/\((JQ D).2=false->(JQ D).1.failed=D.failed):=by
 unfold JQ;split
 . exact ⟨rfl,λ_=>rfl⟩
 . exact ⟨rfl,λ_=>rfl⟩
 . exact ⟨(MZ D _ _).1,λh=>by cases h⟩
theorem VD (D:Dev) (sy ep:Int):(AY D sy ep).1.st.length=D.st.length/\((AY D sy ep).2=0->D.failed=false/\(AY D sy ep).1.failed=false):=by
 have hu:=Y4 D;unfold AY;cases hf:D.failed with
 | true=>rw [if_pos rfl];exact ⟨rfl,λh=>by cases h⟩
 | false=>
   rw [if_neg qs];split
   . exact ⟨rfl,λh=>by cases h⟩
   split
   . exact ⟨hu.1,λh=>by cases h⟩
   . rename_i h2;exact ⟨hu.1,λ_=>⟨rfl,(hu.2 (by simpa using h2)).trans hf⟩⟩
theorem dq (D:Dev) (sy ep:Int) (t:St):(stD D sy ep t).1.st.length=D.st.length/\((stD D sy ep t).2=0->(stD D sy ep t).1.failed=false):=by
 have ha:=VD D sy ep;cases t with
 | put i s=>
   show (BC D sy ep i s).1.st.length=_/\((BC D sy ep i s).2=0->(BC D sy ep i s).1.failed=false);unfold BC;split
   . exact ⟨rfl,λh=>by cases h⟩
   split
   . exact ⟨rfl,λh=>by cases h⟩
   split
   . rename_i h;exact ⟨ha.1,λe=>absurd e h⟩
   . rename_i h;exact ⟨ha.1,λ_=>(ha.2 (by simpa using h)).2⟩
 | sync=>
   show (CW D sy ep).1.st.length=_/\((CW D sy ep).2=0->(CW D sy ep).1.failed=false);unfold CW;split
   . exact ⟨rfl,λh=>by cases h⟩
   split
   . rename_i h;exact ⟨ha.1,λe=>absurd e h⟩
   . rename_i h;have hf:=MZ (AY D sy ep).1 (DG sy) (λ_=>140);exact ⟨hf.1.trans ha.1,λ_=>hf.2.trans (ha.2 (by simpa using h)).2⟩
theorem be (sy ep:Int) (l:List St):∀D,(BS sy ep l D).1.st.length=D.st.length/\(D.failed=false->(BS sy ep l D).2=0->(BS sy ep l D).1.failed=false):=by
 induction l with
 | nil=>intro D;exact ⟨rfl,λh _=>h⟩
 | cons t l ih=>
   intro D;have h:=dq D sy ep t;show (if (stD D sy ep t).2=0 then BS sy ep l (stD D sy ep t).1 else stD D sy ep t).1.st.length=_/\(_->(if (stD D sy ep t).2=0 then BS sy ep l (stD D sy ep t).1 else stD D sy ep t).2=0->(if (stD D sy ep t).2=0 then BS sy ep l (stD D sy ep t).1 else stD D sy ep t).1.failed=false);split
   . rename_i h0;have k:=ih (stD D sy ep t).1;exact ⟨k.1.trans h.1,λ_=>k.2 (h.2 h0)⟩
   . rename_i h0;exact ⟨h.1,λ_ e=>absurd e h0⟩
theorem JI (D:Dev) (sy ep:Int):(Bs D sy ep).1.st.length=D.st.length/\((Bs D sy ep).2.2=0->(Bs D sy ep).1.failed=false):=by
 have hr:=be sy ep (CN (AU D)) D;unfold Bs;cases hf:D.failed with
 | true=>rw [if_pos rfl];exact ⟨rfl,λh=>by cases h⟩
 | false=>
   rw [if_neg qs];split
   . exact ⟨rfl,λ_=>hf⟩
   . exact ⟨hr.1,λh=>hr.2 hf h⟩
theorem QH {D:Dev} (hf:D.failed=false) (hl:1<=D.st.length):Oy D=(topI D,if (topI D).ok=true then 0 else 11):=by
 unfold Oy;rw [show Dm D 0=(topI D,0) from Du hf 0 oo];rfl
section
variable {w0:World} {x s m:Nat} {sy ep:Int} {D:Dev} {out:Nat->Prop} {W:World}
def fr (w0:World) (x:Nat) (sy ep:Int) (D':Dev) (out:Nat->Prop) (W:World) (e:Ending) (w':World):Prop:=
 ∃s m,e=.returned (.tuple #[ptrV s,.int .i64 0])/\Live w0 x D' (λk=>out k\/k=s\/k=m) w'/\StoreM w' s m x sy ep/\(W.heap.size<=s/\W.heap.size<=m)/\Beside w0 out W w'
theorem Pc (h:Live w0 x D out W) (d:132<=D.st.length/\D.st.length<=1155) (hs:1<=sy/\sy<=4) (he:0<=ep/\ep<=1099511627776) (hp:D.pend.length<=980000) (D':Dev) (hr:Io D sy ep=(D',0)):
 Calls Tryz.prog 72 #[ptrV x,.agg #[.int .i64 sy,.int .i64 ep]] W (fr w0 x sy ep D' out W):=by
 have B:=zh (λ(w1:World) (hg:Grew W w1)=>M1 (h.grew hg) sy ep d hs he);have C:=zh (λ(w1:World) (hg:Grew W w1)=>IA (h.grew hg) sy ep);obtain ⟨⟨E,b,f⟩,hE⟩:∃r,Bs D sy ep=r:=⟨_,rfl⟩;have F:=zh (λ(s m:Nat) (out2:Nat->Prop) (w1:World) (h2:Held w0 x s m sy ep D out2 w1)=>Eo h2 d.1 hp E b f hE);have hl:=JI D sy ep;have o:Fg D sy ep=true:=by unfold Fg Cr;simp;omega
 unfold Io at hr;rw [hE,if_neg (by rw [o];simp)] at hr;rw [hE] at hl
 have h0:f=0:=by
  rcases Decidable.em (f=0) with h0 | h0
  . exact h0
  . rw [if_pos (by simpa using h0)] at hr;injection hr with _ h2
 rw [if_neg (by simpa using h0)] at hr;subst h0;have p:=hl.2 rfl;have q:E.st.length=D.st.length:=hl.1;have g:=QH p (by rw [q];omega);obtain ⟨⟨td,tv,tk⟩,ht⟩:∃r,topI E=r:=⟨_,rfl⟩;rw [ht] at g hr
 have hk:tk=true:=by
  cases tk with
  | true=>rfl
  | false=>rw [if_pos rfl] at hr;injection hr with _ h2;cases h2
 subst hk;rw [if_neg qs] at hr;injection hr with h1 _;subst h1;have G:=zh g;have HL:=zh h;have M:=h.base.size;have i:Grew W (W.alloc (.cells #[.int .i64 sy,.int .i64 ep] 37)):=(gK W).alloc _;clear h d hs he hp hE hl o p q g ht;go_enter Tryz.func72,Tryz.ntmps72;go_wp2_with fail;refine (B _ i).mono ?_;rintro e w1 ⟨rfl,g1⟩;have t:Grew W w1:=i.trans g1;have a:=(gZ W 37 #[.int .i64 sy,.int .i64 ep] rfl).grew g1;have c0:=a.cell 0;have c1:=a.cell 1;have cl:=a.lt;have c:=zh t;clear t a g1 i;go_wp2_with fail;refine (C _ c).mono ?_;rintro e w2 ⟨s,m,rfl,n,g2,y,z⟩;have j:Grew W w2:=c.out.trans g2;have H:W.heap.size<=s:=gY c.size y;have I:W.heap.size<=m:=gY c.size z;have J:=n.lt
 have u:Live w0 x D (λk=>out k\/k=s\/k=m) w2:=(HL.more j).few (λk hk=>by
  rcases hk with hk | hk | hk
  . exact .inl hk
  . exact .inr ⟨oo,oo⟩
  . exact .inr ⟨oo,oo⟩)
 have v:Held w0 x s m sy ep D (λk=>out k\/k=s\/k=m) w2:=⟨u,n,.inr (.inl rfl),.inr (.inr rfl),oo⟩;have w:=zh v;have K:=zh j;clear n g2 y z J u v j c0 c1 cl;go_wp2_with fail;refine (F s m _ w2 w).mono ?_;rintro e w3 ⟨rfl,hd⟩;have HT:=zh (RG (w.done hd));rw [G.out] at HT;have HD:=zh hd;clear hd;go_wp2_with fail;refine HT.mono ?_;rintro e w4 ⟨rfl,A⟩;unfold L7;have L:=zh A;clear A;go_wp2_with fail;go_ret2;have l:=(HD.look L).grew ((gK w4).alloc (.cells #[.string td,.int .u32 (u32 tv),.bool true] 178))
 exact ⟨s,m,rfl,l.live,l.store,⟨H,I⟩,(K.turned _).next (l.turned) (λk hk hS=>by
  rcases hS with hS | hS
  . exact ⟨hS.1,λh9=>hS.2 (.inl h9)⟩
  . exact absurd hk oo)⟩
end

def F1 (k:Nat):List (Int × ByteArray):=(List.range k).map λi:Nat=>(131+(i:Int),AZ Ec (nv 1) (131+(i:Int)))
def F2 (n k:Nat):List (Int × ByteArray):=(List.range k).map λj:Nat=>(1+(j:Int),AZ (AM (GK n j)) (nv 1) (1+(j:Int)))
theorem dV (k:Nat):F1 (k+1)=F1 k++[(131+(k:Int),AZ Ec (nv 1) (131+(k:Int)))]:=by unfold F1;rw [jt,gm];rfl
theorem cZ (n k:Nat):F2 n (k+1)=F2 n k++[(1+(k:Int),AZ (AM (GK n k)) (nv 1) (1+(k:Int)))]:=by unfold F2;rw [jt,gm];rfl
def WF:List (Int × ByteArray):=[(0,AZ (AM ((List.range 32).map λ_=>nv 1)) (nv 1) 0)]
def de (sy ep:Int) (n:Nat):List (Dev->Dev × Int):=(F1 n++F2 n 32++WF).map (λe D=>BC D sy ep e.1 e.2)++[λD=>BC D sy ep 33 blankR,λD=>CW D sy ep]
theorem Zd (sy ep:Int) (n:Nat) (D:Dev):Dd (de sy ep n) D=BS sy ep (puts (Fe n)++[.sync]) D:=by
 rw [<-TX];congr 1;unfold de Fe puts F1 F2 WF;simp only [gm,jM,map_cons,map_nil,iZ,cons_append,nil_append];congr 1
theorem PutsAt.ver {W W':World} {lo s g:Nat} {L:List (Int × ByteArray)} {vs:List Value} {cs:Array Value} (h:PutsAt W lo s L vs) (hb:Blk W g 185 cs) (ht:Turned (λq=>q=g) W W'):PutsAt W' lo s L vs:=by
 refine ⟨h.1,λk e v h1 h2=>?_⟩;obtain ⟨a,b,c,rfl,la,lb,lc,ha,d,hc⟩:=h.2 k e v h1 h2;exact ⟨a,b,c,rfl,la,lb,lc,ha.turned ht (Blk.ne_ ha hb qd),d.turned ht (Blk.ne_ d hb qd),hc.turned ht (Blk.ne_ hc hb qd)⟩
theorem OwnL.ver {W W':World} {base g:Nat} {v:Value} {rows:List (List Value)} {cs:Array Value} (h:OwnL W base 196 1 v rows) (hb:Blk W g 185 cs) (ht:Turned (λq=>q=g) W W'):OwnL W' base 196 1 v rows:=
 h.kept ht (λq hq e=>h.ne_blk hb qd (by rw [hq,e]))
theorem VV:u32 (nv 1)=1:=qd
theorem Cb (i:Int) (h:0<=i/\i<=100000):okI i:=by unfold okI;omega
theorem Nx (d:ByteArray) (i:Int) (w:World) (hd:d.size<=1000000) (hi:0<=i/\i<=100000):Calls Tryz.prog 110 #[.string d,.int .u32 1,.int .i64 i] w λe w'=>e=.returned (.string (AZ d (nv 1) i))/\Grew w w':=by
 have h:=JM d (nv 1) i w oo (Cb i hi);rw [VV] at h;exact h
theorem V4 (S:Nat->BitVec 32) (k:Nat):(AC S).setIfInBounds k (.int .u32 1)=AC λi=>if i=k then nv 1 else S i:=by
 rw [show (Value.int IntKind.u32 1)=.int .u32 (u32 (nv 1)) from by rw [VV],IO]
theorem bq (n q j:Nat) (h:32*q+j<n):(AC λp=>if p<j then (if 32*q+p<n then nv 1 else nv 0) else 0#32).setIfInBounds j (.int .u32 1)=AC λp=>if p<j+1 then (if 32*q+p<n then nv 1 else nv 0) else 0#32:=by
 rw [V4];refine BP λi _=>?_;rw [<-Ks (λp=>if 32*q+p<n then nv 1 else nv 0) (λ_=>0#32) j i];by_cases a:i=j
 . subst a;rw [if_pos rfl,if_pos rfl,if_pos h]
 . rw [if_neg a,if_neg a]
theorem ej (n q j:Nat) (h:¬32*q+j<n):(AC λp=>if p<j then (if 32*q+p<n then nv 1 else nv 0) else 0#32)=AC λp=>if p<j+1 then (if 32*q+p<n then nv 1 else nv 0) else 0#32:=by
 refine BP λi _=>?_;rw [<-Ks (λp=>if 32*q+p<n then nv 1 else nv 0) (λ_=>0#32) j i];by_cases a:i=j
 . subst a;rw [if_pos rfl,if_neg oo,if_neg h];rfl
 . rw [if_neg a]
theorem dS (q:Nat):(AC λj=>if j<q then nv 1 else 0#32).setIfInBounds q (.int .u32 1)=AC λj=>if j<q+1 then nv 1 else 0#32:=by
 rw [V4];exact BP λi _=>Ks (λ_=>nv 1) (λ_=>0#32) q i
theorem XQ {w0:World} {x s m:Nat} {sy ep:Int} {D:Dev} {out:Nat->Prop} {W w9:World} (hL:Live w0 x D out W) (hg:Grew W w9) (c:StoreM w9 s m x sy ep) (hs:W.heap.size<=s) (hp:D.pend.length<=900000) {base:Nat} (t:W.heap.size<=base) (n:Nat) (hn:n<=1024) {vs:List Value} {F:Value} {v2:Value}
 (j:PutsAt w9 base s (F1 n++F2 n 32++WF) (vs++[F])) (h:OwnL w9 base 196 1 v2 ((vs++[F,.func (.func 143) #[ptrV s] #[],.func (.func 115) #[ptrV s] #[]]).map λv=>[v])):
 ∃A2 n2 c2,v2=.slice A2 n2 c2/\Calls Tryz.prog 118 #[.slice A2 n2 c2] w9 λe w'=>e=.returned (.int .i64 (BS sy ep (puts (Fe n)++[.sync]) D).2)/\Live w0 x (BS sy ep (puts (Fe n)++[.sync]) D).1 out w'/\Beside w0 out W w':=by
 obtain ⟨A2,c2,a,_,_,r⟩:=h.listAt;rw [gO] at a;have d:=j.1;have l:(F1 n++F2 n 32++WF).length=n+33:=by unfold F1 F2 WF;simp
 have o:(vs++[F,.func (.func 143) #[ptrV s] #[],.func (.func 115) #[ptrV s] #[]]).length=n+35:=by
  rw [iI] at d ⊢;rw [l] at d;simp at d ⊢;omega
 refine ⟨A2,_,c2,a,?_⟩;have p:∀k,base<=k->k<w9.heap.size->(λk=>out k\/(W.heap.size<=k/\k<w9.heap.size)) k:=λk h1 h2=>.inr ⟨oo,h2⟩;have f:(λk=>out k\/(W.heap.size<=k/\k<w9.heap.size)) s:=.inr ⟨hs,c.lt.1⟩
 have q:∀e∈F1 n++F2 n 32++WF,e.2.size<=9223372036854775807:=by
  intro e he
  have:e.2.size=140:=by
   rcases iA.1 he with he | he
   . rcases iA.1 he with he | he
     . obtain ⟨i,_,rfl⟩:=gV.1 he;exact An ..
     . obtain ⟨i,_,rfl⟩:=gV.1 he;exact An ..
   . rw [gQ.1 he];exact An ..
  omega
 have hw:WorksL w0 x (λk=>out k\/(W.heap.size<=k/\k<w9.heap.size)) w9 1 (de sy ep n) (vs++[F,.func (.func 143) #[ptrV s] #[],.func (.func 115) #[ptrV s] #[]]):=by
  have:=(WorksL.puts (w0:=w0) (x:=x) c.blk f p q j).app (WorksL.cons (Ma c.blk f) (WorksL.cons ((F6 c.blk f).more oo) (WorksL.nil ..)));rw [iZ vs] at this;exact this
 refine (SC (hL.more hg) 1 (de sy ep n) _ hw oo oo A2 c2 r (λb off e=>?_)).mono ?_
 . rcases h.form with ⟨_,h0⟩ | ⟨g,cap,e1,h1,h2,_⟩
   . have:=iH length h0;rw [gO,o,length_nil] at this;omega
   . rw [e1] at a;injection a with a _ _;rw [e] at a;injection a with a;injection a with a _ _;subst a;exact .inr (.inr ⟨oo,h2⟩)
 . rintro e w' ⟨he,h1,h2,_⟩;rw [Zd] at he h1;exact ⟨he,h1.few (λk hk=>.inl hk),Beside.wide hg h2 (λk hk=>.inl hk)⟩
section
variable {w0:World} {x:Nat} {sy ep:Int} {D:Dev} {out:Nat->Prop} {W:World}
theorem Uk (h:Live w0 x D out W) (G:132<=D.st.length/\D.st.length<=1155) (hs:1<=sy/\sy<=4) (he:0<=ep/\ep<=1099511627776) (hp:D.pend.length<=900000):
 Calls Tryz.prog 71 #[ptrV x,.agg #[.int .i64 sy,.int .i64 ep]] W λe w'=>e=.returned (.int .i64 (Gh D sy ep).2)/\Live w0 x (Gh D sy ep).1 out w'/\Beside w0 out W w':=by
 have cv:=zh (λ(w1:World) (hg:Grew W w1)=>M1 (h.grew hg) sy ep G hs he);have cw:=zh (λ(w1:World) (hg:Grew W w1)=>IA (h.grew hg) sy ep);have cx:=zh (λ(w1:World) (hg:Grew W w1)=>Db (h.grew hg));have an:Fg D sy ep=true:=by unfold Fg Cr;simp;omega
 obtain ⟨n,hn⟩:∃n:Nat,D.st.length - 131=n:=⟨_,rfl⟩;have e2:(D.st.length:Int) - 131=(n:Int):=oo;have e3:1<=n/\n<=1024:=oo;have e4:(D.st.length:Int)<=1155:=oo;have cy:Hid (Gh D sy ep=BS sy ep (puts (Fe n)++[.sync]) D):=zh (by unfold Gh;rw [if_neg (by rw [an];simp),hn]);have HL:=zh h;have HP:=zh hp;have M:Grew W (W.alloc (.cells #[.int .i64 sy,.int .i64 ep] 37)):=(gK W).alloc _;have hz:=GM;have cz:=zh (λ(i:Int) (w:World) (hi:0<=i/\i<=100000)=>Nx Ec i w (by show 0<=1000000;omega) hi);clear h G hs he hp an hn;go_enter Tryz.func71,Tryz.ntmps71;go_wp2_with fail;refine (cv _ M).mono ?_;rintro e w1 ⟨rfl,g1⟩;have av:Grew W w1:=M.trans g1;have H:=(gZ W 37 #[.int .i64 sy,.int .i64 ep] rfl).grew g1;have c0:=H.cell 0;have c1:=H.cell 1;have cl:=H.lt;have N:=zh av;clear av H g1 M;go_wp2_with fail;refine (cw _ N).mono ?_;rintro e w2 ⟨s,m,rfl,b9,g2,ca,es⟩;have y:Grew W w2:=N.out.trans g2;have a0:W.heap.size<=s:=gY N.size ca;have c3:=zh b9;have O:=zh y;have c4:=zh a0;clear b9 g2 ca es y c0 c1 cl a0;go_wp2_with fail;refine (cx _ O).mono ?_;rintro e w3 ⟨rfl,rfl⟩;go_wp2_with fail
 go_loopg [7,24] n (λgk u i wr=>∃(k:Nat) (vs:List Value),k<=n/\gk=n - k/\i=.int .i64 k/\OwnL wr w2.heap.size 196 1 u (vs.map λv=>[v])/\PutsAt wr w2.heap.size s (F1 k) vs/\Grew w2 wr)
 case atStart=>exact ⟨0,[],oo,oo,rfl,OwnL.nil ..,PutsAt.nil ..,gK _⟩
 case round=>
  obtain ⟨k,vs,hk,ci,rfl,cj,cm,hg⟩:=hrel;have c5:=zh ci;have a1:=zh cj;have P:=zh cm;have HG:=zh hg;clear ci cj cm hg;by_cases er:k<n
  . have e5:(k:Int)<(n:Int):=oo;have c6:=zh (cz (131+(k:Int)) wr oo);go_wp2_with fail;refine c6.mono ?_;rintro e wA ⟨rfl,gA⟩;go_wp2_with fail;refine (Jc _ _ _ _).mono ?_;rintro e wB ⟨v,rfl,l,F⟩;obtain ⟨a,rfl⟩:=l.form;have b:Grew wr wB:=gA.trans F;have z:PutAt wB w2.heap.size s (131+(k:Int)) (AZ Ec (nv 1) (131+(k:Int))) (.func (.func 182) #[] a):=l.low (by have:=HG.size;have:=gA.size;omega);have f:=zh (a1.grew b);have Q:=zh ((P.grew b).snoc (e:=(131+(k:Int),AZ Ec (nv 1) (131+(k:Int)))) z);have R:=P.1;have A:=zh (HG.out.trans b);have c7:w2.heap.size<=wB.heap.size:=A.size;have G:vs.length<=1100:=by rw [R];simp [F1,F2];omega
    clear l gA F b z R;go_wp2_with (at_builtin;refine Bi rfl _ _ 195 rfl w2.heap.size 196 1 8 .nilFunc Tryz.underlying195 GN rfl qd (wB.alloc (.cells #[.func (.func 182) #[] a] 196)) u7 (vs.map λv=>[v]) [.func (.func 182) #[] a] rfl rfl (f.alloc _) wB.heap.size (by rfl) (gZ _ _ _ rfl) rfl (by rw [gO];omega) (by rw [gO];omega) (by simp;omega) vs.length (by rw [gO]) ?_);intro g9 fb wC cb Z _ _;have a2:Grew w2 wC:=(A.alloc _).own Z f.row_ge (gM _);have a3:=(Q.grew ((gK wB).alloc (.cells #[.func (.func 182) #[] a] 196))).own (f.alloc (.cells #[.func (.func 182) #[] a] 196)) Z;have c8:=zh cb;have c9:=zh a2;have dd:=zh a3;clear cb Z a2 a3 c7 G;have df:=zh (dV k);go_wp2_with fail
    go_roundg (n - (k+1))
    case measure=>rw [c5.out];omega
    case rel=>exact ⟨k+1,vs++[.func (.func 182) #[] a],oo,oo,by go_num,by rw [gm];exact c8.out,by rw [df.out];exact dd.out,c9⟩
  . obtain rfl:n=k:=oo;have a4:w2.heap.size<=wr.heap.size:=HG.size;obtain ⟨wa,e0⟩:∃wa:World,wa=wr:=⟨_,rfl⟩;subst e0;clear er;have a5:Blk (wa.alloc (.cells (AC λ_=>0#32) 185)) wa.heap.size 185 (AC λ_=>0#32):=gZ wa _ _ rfl;have dk:=zh a5;have I:Grew wa (wa.alloc (.cells (AC λ_=>0#32) 185)):=(gK wa).alloc _;have ds:=zh (a1.grew I);have d0:=zh (P.grew I);have d1:=zh (HG.out.trans I);clear a5 I;go_wp2_with fail
    go_loopg [7,38] 32 (λgk u i wr=>∃(q:Nat) (d:List Value),q<=32/\gk=32 - q/\i=.int .i64 q/\OwnL wr w2.heap.size 196 1 u (d.map λv=>[v])/\PutsAt wr w2.heap.size s (F1 n++F2 n q) d/\Blk wr wa.heap.size 185 (AC λj=>if j<q then nv 1 else 0#32)/\Grew w2 wr)
    case atStart=>exact ⟨0,vs,oo,oo,rfl,ds,by rw [show F2 n 0=[] from rfl,append_nil];exact d0.out,by (apply Blk.conv;(· exact dk.out);(· exact BP λi _=>qs)),d1⟩
    case round=>
     obtain ⟨q,d,hq,co,rfl,cp,cq,r,y⟩:=hrel;have d2:=zh co;have a6:=zh cp;have a7:=zh cq;have S:=zh r;have T:=zh y;clear co cp cq r y;by_cases b4:q<32
     . have e6:(q:Int)<32:=oo;obtain ⟨wb,e1⟩:∃wb:World,wb=wr:=⟨_,rfl⟩;subst e1;go_wp2_with fail;have c:Blk (wb.alloc (.cells (AC λ_=>0#32) 185)) wb.heap.size 185 (AC λ_=>0#32):=gZ wb _ _ rfl;have U:=zh c;clear c
       go_loopg [41] 32 (λg3 i wr=>∃j:Nat,j<=32/\g3=32 - j/\i=.int .i64 j/\Blk wr wb.heap.size 185 (AC λp=>if p<j then (if 32*q+p<n then nv 1 else nv 0) else 0#32)/\Turned (λp=>p=wb.heap.size) (wb.alloc (.cells (AC λ_=>0#32) 185)) wr)
       case atStart=>exact ⟨0,oo,oo,rfl,by (apply Blk.conv;(· exact U.out);(· exact BP λi _=>qs)),iR _ _⟩
       case round=>
        obtain ⟨j,hj,cr,rfl,c,cs⟩:=hrel;have a8:=zh cr;have o:=zh cs;clear cr cs;by_cases b5:j<32
        . have e8:(j:Int)<32:=oo;by_cases b6:32*q+j<n
          . have d3:decide (32*(q:Int)+(j:Int)<(n:Int))=true:=iB oo;have ha:=c.cell j;rw [Cl _ _ b5] at ha;have hf:=c.frozen j;have R:=c.lt;go_wp2_with fail
            go_roundg (32 - (j+1))
            case measure=>rw [a8.out];omega
            case rel=>exact ⟨j+1,oo,oo,by go_num,by (apply Blk.conv;(· (repeat' first | (with_reducible assumption) | (with_reducible apply Blk.setRow) | ((with_reducible apply Blk.farRow);rotate_left;(focus (first | (simp;done) | (simp;omega) | omega))) | (with_reducible apply Blk.drew) | (with_reducible apply Blk.drewN) | (with_reducible apply Blk.set_) | (with_reducible exact gZ _ _ _ (by first | rfl | (simp;done) | (simp;omega))) | (with_reducible apply Blk.alloc) | ((with_reducible apply Blk.far);rotate_left;(focus (first | (simp;done) | (simp;omega) | omega))) | ((with_reducible apply Blk.grew);rotate_left;(with_reducible assumption)) | ((with_reducible apply Blk.turned);rotate_left;(with_reducible assumption);(focus (first | (simp;done) | (simp;omega) | omega))) | fail));(· exact bq n q j b6)),o.setCell (λ_=>rfl) _⟩
          . have d3:decide (32*(q:Int)+(j:Int)<(n:Int))=false:=iC oo;go_wp2_with fail
            go_roundg (32 - (j+1))
            case measure=>rw [a8.out];omega
            case rel=>exact ⟨j+1,oo,oo,by go_num,by (apply Blk.conv;(· (repeat' first | (with_reducible assumption) | (with_reducible apply Blk.setRow) | ((with_reducible apply Blk.farRow);rotate_left;(focus (first | (simp;done) | (simp;omega) | omega))) | (with_reducible apply Blk.drew) | (with_reducible apply Blk.drewN) | (with_reducible apply Blk.set_) | (with_reducible exact gZ _ _ _ (by first | rfl | (simp;done) | (simp;omega))) | (with_reducible apply Blk.alloc) | ((with_reducible apply Blk.far);rotate_left;(focus (first | (simp;done) | (simp;omega) | omega))) | ((with_reducible apply Blk.grew);rotate_left;(with_reducible assumption)) | ((with_reducible apply Blk.turned);rotate_left;(with_reducible assumption);(focus (first | (simp;done) | (simp;omega) | omega))) | fail));(· exact ej n q j b6)),o⟩
        . obtain rfl:j=32:=oo;clear b5;have hS:(AC λp=>if p<32 then (if 32*q+p<n then nv 1 else nv 0) else 0#32)=AC λp=>if 32*q+p<n then nv 1 else nv 0:=BP λi hi=>by rw [if_pos hi]
          rw [hS] at c;have d4:=S.out.lt;have a9:¬wa.heap.size=wb.heap.size:=oo;have g:=(S.alloc (.cells (AC λ_=>0#32) 185)).turned o a9;have bb:Grew w2 wr:=(T.alloc (.cells (AC λ_=>0#32) 185)).turn o (λp e=>by rw [e];exact T.size);have bc:=(a6.alloc (.cells (AC λ_=>0#32) 185)).ver U o;have bd:=(a7.grew ((gK wb).alloc (.cells (AC λ_=>0#32) 185))).ver U o;have J:Turned (λp=>p=wa.heap.size) wr (wr.setCell ⟨wa.heap.size,q,none⟩ (.int .u32 1)):=(iR (λp=>p=wa.heap.size) wr).setCell (p:=⟨wa.heap.size,q,none⟩) (λ_=>rfl) _;have bf:=zh (c.turned J (λe=>a9 e.symm));have bk:=zh ((g.set_ q (.int .u32 1)).conv (dS q));have bl:=zh (bc.ver g J);have bn:=zh (bd.ver g J);have br:=zh (bb.setCell (p:=⟨wa.heap.size,q,none⟩) (by exact HG.size) (.int .u32 1));have bs:=g.cell q;rw [Cl _ _ b4] at bs;have d5:=g.frozen q;have d6:=g.lt;clear c g bb bc bd J hS d4;go_wp2_with fail;obtain ⟨wd,cu⟩:∃wd,wd=wr.setCell ⟨wa.heap.size,q,none⟩ (.int .u32 1):=⟨_,rfl⟩;rw [<-cu] at bf bk bl bn br ⊢;clear cu bs d5 d6;refine (Jn _ _ _ bf).mono ?_;rintro e we ⟨rfl,ge⟩;have d7:=zh (bk.grew ge);have V:=zh (bl.grew ge);have B:=zh (bn.grew ge);have C:=zh (br.out.trans ge);clear ge;have X:=zh (Nx (AM (GK n q)) (1+(q:Int)) we (by rw [EM];unfold GK;rw [gO,jK];omega) oo);rw [show (List.range 32).map (λp=>if 32*q+p<n then nv 1 else nv 0)=GK n q from rfl];go_wp2_with fail;refine X.mono ?_;rintro e fc ⟨rfl,ad⟩;go_wp2_with fail;refine (Jc _ _ _ _).mono ?_;rintro e t ⟨v2,rfl,ae,ce⟩;obtain ⟨a,rfl⟩:=ae.form;have E:Grew we t:=ad.trans ce;have bt:PutAt t w2.heap.size s (1+(q:Int)) (AZ (AM (GK n q)) (nv 1) (1+(q:Int))) (.func (.func 182) #[] a):=ae.low (by have:=C.size;have:=ad.size;omega);have K:=zh (V.grew E);have ea:=zh ((B.grew E).snoc (e:=(1+(q:Int),AZ (AM (GK n q)) (nv 1) (1+(q:Int)))) bt);have bv:=B.1;have bx:=zh (C.out.trans E);have a4:w2.heap.size<=t.heap.size:=bx.size;have eb:d.length<=1100:=by rw [bv];simp [F1,F2];omega
          have b0:=zh (d7.grew E);clear ae ad ce E bt bv;go_wp2_with (at_builtin;refine Bi rfl _ _ 195 rfl w2.heap.size 196 1 8 .nilFunc Tryz.underlying195 GN rfl qd (t.alloc (.cells #[.func (.func 182) #[] a] 196)) u7 (d.map λv=>[v]) [.func (.func 182) #[] a] rfl rfl (K.alloc _) t.heap.size (by rfl) (gZ _ _ _ rfl) rfl (by rw [gO];omega) (by rw [gO];omega) (by simp;omega) d.length (by rw [gO]) ?_);intro fi fl et cf L _ _;have b1:Grew w2 et:=(bx.alloc _).own L K.row_ge (gM _);have b2:=(ea.grew ((gK t).alloc (.cells #[.func (.func 182) #[] a] 196))).own (K.alloc (.cells #[.func (.func 182) #[] a] 196)) L;have ec:=zh ((b0.out.alloc (.cells #[.func (.func 182) #[] a] 196)).own L (K.ne_blk b0.out qd));have ee:=zh cf;have eg:=zh b1;have ei:=zh b2;clear cf L b1 b2 a4 eb;have ek:=zh (cZ n q);go_wp2_with fail
          go_roundg (32 - (q+1))
          case measure=>rw [d2.out];omega
          case rel=>exact ⟨q+1,d++[.func (.func 182) #[] a],oo,oo,by go_num,by rw [gm];exact ee.out,by rw [ek.out,<-iZ];exact ei.out,ec,eg⟩
     . obtain rfl:q=32:=oo;have hS:(AC λj=>if j<32 then nv 1 else 0#32)=AC λ_=>nv 1:=BP λi hi=>by rw [if_pos hi]
       have r:=S.out;rw [hS] at r;have em:=zh r;clear r hS b4;go_wp2_with fail;refine (Jn _ _ _ em).mono ?_;rintro e we ⟨rfl,ge⟩;have V:=zh (a6.grew ge);have B:=zh (a7.grew ge);have C:=zh (T.out.trans ge);clear ge;have X:=zh (Nx (AM ((List.range 32).map λ_=>nv 1)) 0 we (by rw [EM,gO,jK];omega) oo);go_wp2_with fail;refine X.mono ?_;rintro e wA ⟨rfl,gA⟩;go_wp2_with fail;refine (Jc _ _ _ _).mono ?_;rintro e wB ⟨v,rfl,l,F⟩;obtain ⟨a,rfl⟩:=l.form;have b:Grew we wB:=gA.trans F;have z:PutAt wB w2.heap.size s 0 (AZ (AM ((List.range 32).map λ_=>nv 1)) (nv 1) 0) (.func (.func 182) #[] a):=l.low (by have:=C.size;have:=gA.size;omega);have f:=zh (V.grew b);have Q:=zh ((B.grew b).snoc (e:=(0,AZ (AM ((List.range 32).map λ_=>nv 1)) (nv 1) 0)) z);have A:=zh (C.out.trans b);have e9:w2.heap.size<=wB.heap.size:=A.size;have fa:d.length<=1100:=by rw [B.out.1];simp [F1,F2];omega
       clear l gA F b z;go_wp2_with (at_builtin;refine Be (by rfl) _ _ 195 rfl w2.heap.size 196 1 8 .nilFunc Tryz.underlying195 GN rfl qd u7 (d.map λv=>[v]) (([.func (.func 182) #[] a,.func (.func 143) #[ptrV s] #[],.func (.func 115) #[ptrV s] #[]]:List Value).map λv=>[v]) rfl (f.alloc _) (some ⟨wB.heap.size,0,none⟩) 3 3 (by rfl) rfl (Om _) (K8 (gZ _ _ _ rfl) qs) (Nk (by rfl)) (by rw [gO];omega) (by rw [gO];omega) (by simp;omega) ?_);intro v9 w9 ch al _;have Y:Grew w2 w9:=(A.alloc _).own al f.row_ge (gM _);have b3:=(Q.grew ((gK wB).alloc (.cells #[.func (.func 182) #[] a,.func (.func 143) #[ptrV s] #[],.func (.func 115) #[ptrV s] #[]] 196))).own (f.alloc (.cells #[.func (.func 182) #[] a,.func (.func 143) #[ptrV s] #[],.func (.func 115) #[ptrV s] #[]] 196)) al;have HD:=zh (XQ HL (O.out.trans Y) (c3.grew Y) c4 HP O.size n oo b3 (by rw [gm];exact ch));clear ch al b3 Y;obtain ⟨A2,n2,c2,rfl,hd⟩:=HD.out;have eq:=zh hd;clear hd;go_wp2_with fail;refine eq.mono ?_;rintro e fn ⟨rfl,eu,ex⟩;go_wp2_with fail;go_ret;rw [cy.out];exact ⟨rfl,eu,ex⟩
end

def C9 (D:Dev) (k:Nat):Prop:=(topI D).ok=true/\(mapI D k).ok=true/\(mapI D k).ver=fld (topI D).data k
instance (D:Dev) (k:Nat):Decidable (C9 D k):=by unfold C9;exact inferInstance
def Dr (D:Dev) (k:Nat):Int:=if (topI D).ok=false then 11 else if (mapI D k).ok=false then 11 else 12
structure ViewAt (w:World) (lo g s mm:Nat) (topv:Value) (F:Int->Option Value) (D:Dev):Prop where
 blk:Blk w g 287 #[ptrV s,topv,.map (some mm)]
 lg:lo<=g
 lm:lo<=mm
 map:MapI w mm F
 top:topv=.pointer none\/∃t,lo<=t/\topv=ptrV t/\Blk w t 185 (AC (fld (topI D).data))/\(topI D).ok=true
 maps:∀k v,F k=some v->∃(b j:Nat),k=(j:Int)/\v=ptrV b/\lo<=b/\Blk w b 185 (AC (fld (mapI D j).data))/\C9 D j
def ViewM (w:World) (lo g s mm:Nat) (D:Dev):Prop:=∃topv F,ViewAt w lo g s mm topv F D
theorem ViewAt.kept {w w':World} {lo g s mm:Nat} {topv:Value} {F:Int->Option Value} {D:Dev} (h:ViewAt w lo g s mm topv F D) {S:Nat->Prop} (ht:Turned S w w') (hS:∀k,lo<=k->k<w.heap.size->¬S k):ViewAt w' lo g s mm topv F D:=by
 refine ⟨h.blk.turned ht (hS g h.lg h.blk.lt),h.lg,h.lm,h.map.turned ht (hS mm h.lm h.map.lt),?_,λk v hk=>?_⟩
 . rcases h.top with h1 | ⟨t,h1,h2,h3,h4⟩
   . exact .inl h1
   . exact .inr ⟨t,h1,h2,h3.turned ht (hS t h1 h3.lt),h4⟩
 . obtain ⟨b,j,h1,h2,h3,h4,h5⟩:=h.maps k v hk;exact ⟨b,j,h1,h2,h3,h4.turned ht (hS b h3 h4.lt),h5⟩
theorem ViewAt.grew {w w':World} {lo g s mm:Nat} {topv:Value} {F:Int->Option Value} {D:Dev} (h:ViewAt w lo g s mm topv F D) (hg:Grew w w'):ViewAt w' lo g s mm topv F D:=h.kept (hg.turned (λ_=>False)) (λ_ _ _ h=>h)
theorem ViewAt.looked {w0:World} {x s' m:Nat} {sy ep:Int} {E:Dev} {out:Nat->Prop} {w w':World} {lo g s mm:Nat} {topv:Value} {F:Int->Option Value} {D:Dev} (h:ViewAt w lo g s mm topv F D) (hl:Looked w0 x s' m sy ep E out w w') (hm:m<lo):ViewAt w' lo g s mm topv F D:=h.kept hl.turned (λk hk _ e=>oo)
theorem ViewAt.ver_ne {w:World} {lo g s mm:Nat} {topv:Value} {F:Int->Option Value} {D:Dev} (h:ViewAt w lo g s mm topv F D) {b:Nat} {cs:Array Value} (hb:Blk w b 185 cs):¬b=g/\¬b=mm:=⟨Blk.ne_ hb h.blk qd,Cn hb h.map⟩
theorem ViewAt.setTop {w:World} {lo g s mm:Nat} {topv:Value} {F:Int->Option Value} {D:Dev} (h:ViewAt w lo g s mm topv F D) {t:Nat} (ht:lo<=t) (hb:Blk w t 185 (AC (fld (topI D).data))) (a:(topI D).ok=true):ViewAt (w.setCell ⟨g,1,none⟩ (ptrV t)) lo g s mm (ptrV t) F D:=by
 have hT:Turned (λk=>k=g) w (w.setCell ⟨g,1,none⟩ (ptrV t)):=(iR (λk=>k=g) w).setCell (p:=⟨g,1,none⟩) (λ_=>rfl) _;refine ⟨h.blk.set_ 1 _,h.lg,h.lm,h.map.turned hT (λe=>Cn h.blk h.map e.symm),.inr ⟨t,ht,rfl,hb.turned hT (h.ver_ne hb).1,a⟩,λk v hk=>?_⟩;obtain ⟨b,j,h1,h2,h3,h4,h5⟩:=h.maps k v hk;exact ⟨b,j,h1,h2,h3,h4.turned hT (h.ver_ne h4).1,h5⟩
theorem ViewAt.setMap {w w':World} {lo g s mm:Nat} {topv:Value} {F:Int->Option Value} {D:Dev} (h:ViewAt w lo g s mm topv F D) {b k:Nat} (c:lo<=b) (hb:Blk w b 185 (AC (fld (mapI D k).data))) (d:C9 D k) (hm:MapI w' mm (upd F (k:Int) (some (ptrV b)))) (ht:Turned (λq=>q=mm) w w'):ViewAt w' lo g s mm topv (upd F (k:Int) (some (ptrV b))) D:=by
 refine ⟨h.blk.turned ht (Cn h.blk h.map),h.lg,h.lm,hm,?_,λq v hq=>?_⟩
 . rcases h.top with h1 | ⟨t,h1,h2,h3,h4⟩
   . exact .inl h1
   . exact .inr ⟨t,h1,h2,h3.turned ht (h.ver_ne h3).2,h4⟩
 . by_cases a:q=(k:Int)
   . subst a;rw [Ea] at hq;exact ⟨b,k,rfl,(Option.some.inj hq).symm,c,hb.turned ht (h.ver_ne hb).2,d⟩
   . rw [Ey _ _ a] at hq;obtain ⟨b',j,h1,h2,h3,h4,h5⟩:=h.maps q v hq;exact ⟨b',j,h1,h2,h3,h4.turned ht (h.ver_ne h4).2,h5⟩
theorem VS {D:Dev} (hf:D.failed=false) (k:Nat) (hk:k<32) (hl:132<=D.st.length) (v:BitVec 32):C7 D (1+(k:Int)) v=(if (mapI D k).ok=false then (LB,11) else if (mapI D k).ver≠v then (LB,12) else (mapI D k,0)):=by
 unfold C7;rw [show (1+(k:Int))=((1+k:Nat):Int) from oo,Du hf (1+k) oo,if_neg qs];rfl
theorem NV (s:Nat) (D:Dev) (lo:Nat) (w:World) (a:lo<=w.heap.size):Calls Tryz.prog 150 #[ptrV s] w λe w'=>∃g mm,e=.returned (ptrV g)/\ViewM w' lo g s mm D/\Grew w w':=by
 have b:=@run_makeMap Tryz.prog;have HB:Hid (Blk ((w.alloc (.map #[] 0)).alloc (.cells #[ptrV s,.pointer none,.map (some w.heap.size)] 287)) (w.heap.size+1) 287 #[ptrV s,.pointer none,.map (some w.heap.size)]):=zh (gZ _ _ _ qs);have HM:Hid (MapI ((w.alloc (.map #[] 0)).alloc (.cells #[ptrV s,.pointer none,.map (some w.heap.size)] 287)) w.heap.size (λ_=>none)):=zh ((MapIs.made _ rfl).alloc _);go_enter Tryz.func150,Tryz.ntmps150;go_wp2_with fail;go_ret;exact ⟨_,_,rfl,⟨_,_,⟨HB,oo,oo,HM,.inl rfl,λk v h=>by cases h⟩⟩,gG⟩

theorem GG (w:World):(zeroValue 188).run Tryz.prog w=.ok (.pointer none) w:=qk
theorem AI {w1 w2:World} (hg:Grew w1 w2) {b o:Nat} {v:Value} (h:w1.cell? ⟨b,o,none⟩=some v):w2.cell? ⟨b,o,none⟩=some v:=(hg.cellEq b o (Mk h).1).trans h
theorem Qr {w1 w2:World} {g t' k s:Nat} {ver:BitVec 32} (hg:Grew w1 w2) (h:(λw':World=>w'.cell? ⟨g,0,none⟩=some (ptrV s)/\w'.cell? ⟨g,1,none⟩=some (ptrV t')/\g<w'.heap.size/\w'.cell? ⟨t',k,none⟩=some (.int .u32 (u32 ver))/\t'<w'.heap.size) w1):(λw':World=>w'.cell? ⟨g,0,none⟩=some (ptrV s)/\w'.cell? ⟨g,1,none⟩=some (ptrV t')/\g<w'.heap.size/\w'.cell? ⟨t',k,none⟩=some (.int .u32 (u32 ver))/\t'<w'.heap.size) w2:=⟨AI hg h.1,AI hg h.2.1,gW h.2.2.1 hg.size,AI hg h.2.2.2.1,gW h.2.2.2.2 hg.size⟩
def up (out:Nat->Prop) (lo:Nat) (w:World) (k:Nat):Prop:=out k\/(lo<=k/\k<w.heap.size)
theorem Held.up {w0:World} {x s m lo:Nat} {sy ep:Int} {D:Dev} {out:Nat->Prop} {W w':World} (h:Held w0 x s m sy ep D (up out lo W) W) (hl:w0.heap.size<=lo/\s<lo) (hm:m<lo) (ht:Turned (λq=>q=m\/lo<=q) W w') (c:StoreM w' s m x sy ep):Held w0 x s m sy ep D (up out lo w') w':=by
 have d:=h.os;have a:=h.om;obtain ⟨q,hx,hd,e,hf,hn⟩:=h.live
 have b:∀k,q.feet k->k<lo:=λk hk=>by
  rcases it k lo with h9 | h9
  . exact h9
  . exact absurd hk (hn k (.inr ⟨h9,hd.feet_lt k hk⟩)).2
 refine ⟨⟨q,hx,hd.kept ht (λk hk h9=>?_),e.turn ht (λk hk=>?_),hf,λk hk=>?_⟩,c,?_,?_,h.m0⟩
 . rcases h9 with h9 | h9
   . rw [h9] at hk;exact (hn m a).2 hk
   . exact absurd (b k hk) oo
 . rcases hk with hk | hk
   . rw [hk];exact h.m0
   . omega
 . rcases hk with hk | hk
   . exact ⟨gW (hn k (.inl hk)).1 ht.size,(hn k (.inl hk)).2⟩
   . exact ⟨hk.2,λh9=>absurd (b k h9) oo⟩
 . rcases d with h9 | h9
   . exact .inl h9
   . exact absurd h9.1 oo
 . rcases a with h9 | h9
   . exact .inl h9
   . exact absurd h9.1 oo
def aj (w0:World) (x s m:Nat) (sy ep:Int) (D:Dev) (out:Nat->Prop) (W:World) (lo g mm k:Nat) (e:Ending) (w':World):Prop:=
 ((C9 D k->∃b,e=.returned (.tuple #[ptrV b,.int .i64 0])/\Blk w' b 185 (AC (fld (mapI D k).data))/\lo<=b)/\(¬C9 D k->e=.returned (.tuple #[.pointer none,.int .i64 (Dr D k)])))/\
 Held w0 x s m sy ep D (up out lo w') w'/\ViewM w' lo g s mm D/\Turned (λq=>q=m\/q=g\/q=mm) W w'
section
variable {w0:World} {x s m:Nat} {sy ep:Int} {D:Dev} {out:Nat->Prop} {W:World} {lo g mm:Nat} (h:Held w0 x s m sy ep D (up out lo W) W) (hlow:w0.heap.size<=lo/\s<lo) (hlen:132<=D.st.length) (hf:D.failed=false) {F:Int->Option Value} (hm:m<lo) (k:Nat) (hk:k<32)
include h hlow hlen hf hm hk
theorem aG (t:Nat) (hv:ViewAt W lo g s mm (ptrV t) F D):Calls Tryz.prog 204 #[ptrV g,.int .i64 (k:Int)] W (aj w0 x s m sy ep D out W lo g mm k):=by
 have A:=zh (λ(w':World) (ht:Turned (λq=>q=m\/lo<=q) W w') (hst:StoreM w' s m x sy ep)=>h.up hlow hm ht hst);have a8:Held w0 x s m sy ep D (up out lo W) W:=h;obtain ⟨U,a3⟩:∃o,o=up out lo W:=⟨_,rfl⟩;rw [<-a3] at h;have B:Hid (Turned (λq=>q=m\/q=g\/q=mm) W W):=zh (iR _ _);clear a8 a3;have c:=hv.blk;have g0:=c.cell 0;have g1:=c.cell 1;have g2:=c.cell 2;have gl:=c.lt;obtain ⟨kl,G⟩:=ET (k:Int) (Cb _ oo);have b2:(0:Int)<=(k:Int)/\(k:Int)<32:=oo;have I:=hv.map.lookup_val BB Bj Tryz.underlying187 (GG _) (k:Int) G;have HV:=zh hv;have HH:=zh h;cases hF:F (k:Int) with
 | some v=>
   obtain ⟨b,j,hj,rfl,b0,a4,a5⟩:=hv.maps _ _ hF;obtain rfl:k=j:=oo;rw [hF,jO] at I;have HP:=zh (show C9 D k/\Blk W b 185 (AC (fld (mapI D k).data))/\lo<=b from ⟨a5,a4,b0⟩);clear h hv G hF a4 a5 c hf hlen;go_enter Tryz.func204,Tryz.ntmps204;go_wp2_with fail;go_ret2;exact ⟨⟨λ_=>⟨b,rfl,HP.2.1,HP.2.2⟩,λhn=>absurd HP.1 hn⟩,A _ (iR _ _) HH.store,⟨_,_,HV⟩,B⟩
 | none=>
   rw [hF,Option.getD_none] at I
   obtain ⟨t',ce,b1,H,a6⟩:∃t',lo<=t'/\t'=t/\Blk W t' 185 (AC (fld (topI D).data))/\(topI D).ok=true:=by
    rcases hv.top with h1 | ⟨t',h1,h2,h3,h4⟩
    . cases h1
    . refine ⟨t',h1,?_,h3,h4⟩;injection h2 with h2;injection h2 with h2;injection h2 with h2 _ _;exact h2.symm
   subst b1;obtain ⟨ver,V⟩:∃ver,fld (topI D).data k=ver:=⟨_,rfl⟩;have tc:=H.cell k;rw [Cl _ _ hk,V] at tc;have tl:=H.lt;have J:=zh (λ(w1:World) (hh:Held w0 x s m sy ep D U w1)=>JV hh (1+(k:Int)) (Cb _ oo) ver);have X:=zh (VS hf k hk hlen ver);have b3:IntKind.i64.wrap (1+(k:Int))=1+(k:Int):=iY _ oo;have b4:(0:Int)<=1+(k:Int):=oo;have b5:=zh hF;have K:=zh a6;have b6:=zh H;have Y:=zh G;have Z:=zh V;obtain ⟨⟨⟨bd,bv,bb⟩,er⟩,a7⟩:∃r,C7 D (1+(k:Int)) ver=r:=⟨_,rfl⟩;rw [a7] at J X;clear h hv G hF c hf hlen H a6 V a7;go_enter Tryz.func204,Tryz.ntmps204;go_wp2_with fail;refine AB [14,19] (λw':World=>w'.cell? ⟨g,0,none⟩=some (ptrV s)/\w'.cell? ⟨g,1,none⟩=some (ptrV t')/\g<w'.heap.size/\w'.cell? ⟨t',k,none⟩=some (.int .u32 (u32 ver))/\t'<w'.heap.size) qk ?_;have hS:=(show (λw':World=>w'.cell? ⟨g,0,none⟩=some (ptrV s)/\w'.cell? ⟨g,1,none⟩=some (ptrV t')/\g<w'.heap.size/\w'.cell? ⟨t',k,none⟩=some (.int .u32 (u32 ver))/\t'<w'.heap.size) W.drew from ⟨g0,g1,gl,tc,tl⟩);refine tQ 0 42 ?_;refine tT 1 (some 43) hS ?_;refine tQ 2 44 ?_;refine tT 3 (some 45) hS ?_;refine tQ 4 46 ?_;refine tQ 5 47 ?_;refine tQ 6 48 ?_;refine tT 7 (some 49) hS ?_;refine tQ 8 50 ?_;refine tT 9 (some 51) hS ?_;refine tQ 10 52 ?_;refine tT 11 (some 53) hS ?_;refine tQ 12 54 ?_;refine tT 13 (some 55) hS ?_;refine E1 (i:=14) (j:=18) rfl rfl qk ?faa ?fab
   case' faa=>
    intro K' hK;rw [if_pos (by rfl)];simp only [jG,il,iw];go_wp2_with fail;refine (J _ (HH.grew (gK W).drew)).mono ?_;rintro e w1 ⟨rfl,l⟩;unfold L7;have u:Looked w0 x s m sy ep D U W (w1.alloc (.cells #[.string bd,.int .u32 (u32 bv),.bool bb] 178)):=((HH.same (gK W).drew).trans l).grew ((gK w1).alloc _);have w:Blk (w1.alloc (.cells #[.string bd,.int .u32 (u32 bv),.bool bb] 178)) w1.heap.size 178 #[.string bd,.int .u32 (u32 bv),.bool bb]:=gZ w1 _ _ rfl;have ad:W.heap.size<=w1.heap.size:=l.turned.size;have a9:Blk (w1.alloc (.cells #[.string ⟨#[]⟩,.int .u32 0,.bool false] 178)) w1.heap.size 178 #[.string ⟨#[]⟩,.int .u32 0,.bool false]:=gZ w1 _ _ rfl;clear l;go_wp2_with fail;refine hK.out _ _ (.inl (by rfl)) ?_;clear hK;refine tQ 15 41 ?_;refine tQ 16 57 ?_;refine tQ 17 58 ?_;refine tO 18 λK' hK=>?_;go_wp2_with fail;refine hK.out _ _ (.inr (λhS=>Qr ((gK w1).alloc _) hS)) ?_;clear hK;refine tO 19 λK' hK=>?_;go_wp2_with fail;refine hK.out _ _ (.inl (by rfl)) ?_;clear hK a9;refine tQ 20 10 ?_;refine AA qk ?_ _;generalize hwz:w1.alloc (.cells #[.string bd,.int .u32 (u32 bv),.bool bb] 178)=wz at*
    generalize hgz:w1.heap.size=gx at*
    clear hwz hgz
   case' fab=>
    intro K' hK;rw [if_pos (by rfl)];simp only [jG,il,iw];go_wp2_with fail;have c:Grew W (W.alloc (.cells #[.string ⟨#[]⟩,.int .u32 0,.bool false] 178)).drew:=((gK W).alloc _).drew;have ae:Blk (W.alloc (.cells #[.string ⟨#[]⟩,.int .u32 0,.bool false] 178)).drew W.heap.size 178 #[.string ⟨#[]⟩,.int .u32 0,.bool false]:=(gZ W _ _ rfl).drew;refine hK.out _ _ (.inr (λhS=>Qr ((gK W.drew).alloc _) hS)) ?_;clear hK;refine tO 14 λK' hK=>?_;go_wp2_with fail;refine (J _ (HH.grew c)).mono ?_;rintro e w1 ⟨rfl,l⟩;unfold L7;have bc:=HH.store.lt.2;have f:=ae.looked l oo;have z0:=f.cell 0;have z1:=f.cell 1;have z2:=f.cell 2;have f0:=f.frozen 0;have f1:=f.frozen 1;have f2:=f.frozen 2;have zl:=f.lt;have ad:W.heap.size<=W.heap.size:=gM _;have u:Looked w0 x s m sy ep D U W (((w1.setCell ⟨W.heap.size,0,none⟩ (.string bd)).setCell ⟨W.heap.size,1,none⟩ (.int .u32 (u32 bv))).setCell ⟨W.heap.size,2,none⟩ (.bool bb)):=Cd HH ((HH.same c).trans l) (gT);have w:Blk (((w1.setCell ⟨W.heap.size,0,none⟩ (.string bd)).setCell ⟨W.heap.size,1,none⟩ (.int .u32 (u32 bv))).setCell ⟨W.heap.size,2,none⟩ (.bool bb)) W.heap.size 178 #[.string bd,.int .u32 (u32 bv),.bool bb]:=gB;clear l f bc c ae;go_wp2_with fail;refine hK.out _ _ (.inl (by rfl)) ?_;clear hK;refine tQ 15 41 ?_;refine tQ 16 57 ?_;refine tQ 17 58 ?_;refine tO 19 λK' hK=>?_;go_wp2_with fail;refine hK.out _ _ (.inl (by rfl)) ?_;clear hK z0 z1 z2 f0 f1 f2 zl;refine tQ 20 10 ?_;refine AA qk ?_ _;generalize hwz:((w1.setCell ⟨W.heap.size,0,none⟩ (.string bd)).setCell ⟨W.heap.size,1,none⟩ (.int .u32 (u32 bv))).setCell ⟨W.heap.size,2,none⟩ (.bool bb)=wz at u w ⊢;obtain ⟨gx,hgz⟩:∃gx,gx=W.heap.size:=⟨_,rfl⟩;rw [<-hgz] at w ad ⊢;clear hwz hgz
   all_goals
    have y:=HV.looked u hm;have d:=zh u;have al:=zh w;have n:=X.out;clear u w g0 g1 g2 gl tc tl I;by_cases a:(mapI D k).ok=false
    . rw [if_pos a] at n;injection n with h1 h2;subst h2;have L:Hid (¬C9 D k):=zh (λhn=>by rw [hn.2.1] at a;cases a);have M:Hid (Dr D k=11):=zh (by unfold Dr;rw [if_neg (by rw [K.out];simp),if_pos a]);clear a h1 y;go_wp2_with fail;go_ret2;exact ⟨⟨λhn=>absurd hn L,λ_=>by rw [M.out];rfl⟩,A _ (d.turned.mono λ_ _ hq=>.inl hq) d.store,⟨_,_,HV.looked d hm⟩,B.out.trans (d.turned.mono λ_ _ hq=>.inl hq)⟩
    by_cases p:(mapI D k).ver≠ver
    . rw [if_neg a,if_pos p] at n;injection n with h1 h2;subst h2;have L:Hid (¬C9 D k):=zh (λhn=>p (by rw [<-Z.out];exact hn.2.2));have M:Hid (Dr D k=12):=zh (by unfold Dr;rw [if_neg (by rw [K.out];simp),if_neg a]);clear a p h1 y;go_wp2_with fail;go_ret2;exact ⟨⟨λhn=>absurd hn L,λ_=>by rw [M.out];rfl⟩,A _ (d.turned.mono λ_ _ hq=>.inl hq) d.store,⟨_,_,HV.looked d hm⟩,B.out.trans (d.turned.mono λ_ _ hq=>.inl hq)⟩
    rw [if_neg a,if_neg p] at n;injection n with h1 h2;subst h2;have N:(mapI D k).ok=true:=by simpa using a
    have O:Hid ((mapI D k).data=bd):=zh (by rw [<-h1]);have an:bd.size=128:=by rw [<-O.out];exact C4 N
    have av:Hid (C9 D k):=zh ⟨K,N,by rw [Z.out];simpa using p⟩;have bf:=zh (JA bd an);have bk:=zh y;have x0:=al.cell 0;have xl:=al.out.lt;have b9:=GM;have bl:lo<=g:=y.lg;have bn:=zh (show lo<=W.heap.size from gY HV.lg (Nat.le_of_lt HV.blk.lt));clear a p h1 y an N bl;go_wp2_with fail;refine (bf _).mono ?_;rintro e w4 ⟨rfl,g4⟩;have a0:Blk ((w4.alloc (.cells (AC λ_=>0#32) 185)).setRow w4.heap.size (AC (fld bd))) w4.heap.size 185 (AC (fld bd)):=(gZ w4 _ _ rfl).setRow _;have P:Grew wz ((w4.alloc (.cells (AC λ_=>0#32) 185)).setRow w4.heap.size (AC (fld bd))):=(g4.alloc _).setRow g4.size _;have C:=bk.grew P;have y2:=C.blk.cell 2;have yl:=C.blk.lt;have Q:=zh C;have R:=zh a0;have S:=zh (d.grew P);have a1:lo<=w4.heap.size:=by have:=bn.out;have:=d.turned.size;have:=g4.size;omega
    clear a0 P C g4 x0 xl;go_wp2_with (first | (refine AO rfl 185 _ _ rfl w4.heap.size (AC (fld bd)) rfl rfl 185 (AC λ_=>0#32) (gZ w4 _ _ rfl) (by rw [Ae,Ae]) (by rw [Ae];exact EV) (EA _) ?_) | (refine B7 rfl _ _ _ 187 rfl 188 BB Bj Tryz.underlying187 rfl Q.map (k:Int) Y (ptrV w4.heap.size) rfl rfl ?_;intro w6 a2 T;have z:=Q.setMap a1 (by rw [O.out];exact R.out) av a2 T;have q2:=z.blk.cell 2;have ql:=z.blk.lt;have br:=z.map.lookup_val BB Bj Tryz.underlying187 (GG _) (k:Int) Y;rw [Ea,jO] at br;have bs:=zh z;have E:=zh T;clear z T a2));go_ret2;have bt:Turned (λq=>q=m\/lo<=q) W w6:=(S.turned.mono λ_ _ hq=>.inl hq).trans (E.mono λq _ hq=>.inr (by rw [hq];exact HV.lm));have bx:Turned (λq=>q=m\/q=g\/q=mm) W w6:=(S.turned.mono λ_ _ hq=>.inl hq).trans (E.mono λq _ hq=>.inr (.inr hq));have ca:=HV.lm;have cb:=hlow.2;exact ⟨⟨λ_=>⟨w4.heap.size,rfl,by rw [O.out];exact R.turned E (Q.ver_ne R).2,a1⟩,λhn=>absurd av hn⟩,A _ bt (S.store.kept E oo oo),⟨_,_,bs⟩,B.out.trans bx⟩
theorem aV (hv:ViewAt W lo g s mm (.pointer none) F D):Calls Tryz.prog 204 #[ptrV g,.int .i64 (k:Int)] W (aj w0 x s m sy ep D out W lo g mm k):=by
 have R:=zh (λ(w':World) (ht:Turned (λq=>q=m\/lo<=q) W w') (hst:StoreM w' s m x sy ep)=>h.up hlow hm ht hst);have a:=hv.blk;have g0:=a.cell 0;have g1:=a.cell 1;have g2:=a.cell 2;have gl:=a.lt;obtain ⟨kl,K⟩:=ET (k:Int) (Cb _ oo);have cq:(0:Int)<=(k:Int)/\(k:Int)<32:=oo;have T:=zh hv;have U:=zh (RG h);have V:=QH hf oo;obtain ⟨⟨td,tv,tk⟩,ht⟩:∃r,topI D=r:=⟨_,rfl⟩;have a7:lo<=W.heap.size:=gY hv.lg (Nat.le_of_lt hv.blk.lt);rw [V,ht] at U;cases tk with
 | false=>
   have B:Hid (¬C9 D k):=zh (λhn=>by have:=hn.1;rw [ht] at this;cases this);have C:Hid (Dr D k=11):=zh (by unfold Dr;rw [ht];rfl);clear h hv K a hf hlen V ht;go_enter Tryz.func204,Tryz.ntmps204;go_wp2_with fail;refine U.mono ?_;rintro e w1 ⟨rfl,d⟩;unfold L7;have c:=zh (d.grew ((gK w1).alloc (.cells #[.string td,.int .u32 (u32 tv),.bool false] 178)));clear d;go_wp2_with fail;go_ret2;exact ⟨⟨λhn=>absurd hn B,λ_=>by rw [C.out];rfl⟩,R _ (c.turned.mono λ_ _ hq=>.inl hq) c.store,⟨_,_,T.looked c hm⟩,c.turned.mono λ_ _ hq=>.inl hq⟩
 | true=>
   have E:td.size=128:=by
    have e9:AQ (D.content 0) 0=topI D:=rfl;have:=C4 (t:=D.content 0) (i:=0) (by rw [e9,ht]);rw [e9,ht] at this;exact this
   have L:(topI D).ok=true:=by rw [ht]
   have M:(topI D).data=td:=by rw [ht]
   have X:=zh (JA td E);have b6:=zh (λv=>VS hf k hk hlen v);have b9:=GM;clear E V ht;go_enter Tryz.func204,Tryz.ntmps204;go_wp2_with fail;refine U.mono ?_;rintro e w1 ⟨rfl,d⟩;unfold L7;have n:=d.grew ((gK w1).alloc (.cells #[.string td,.int .u32 (u32 tv),.bool true] 178));clear d;go_wp2_with fail;refine (X _).mono ?_;rintro e w3 ⟨rfl,g3⟩;have w:=n.grew g3;have a8:lo<=w3.heap.size:=gY a7 (w.turned.size);have G:Grew w3 ((w3.alloc (.cells (AC λ_=>0#32) 185)).setRow w3.heap.size (AC (fld td))):=((gK w3).alloc _).setRow (gM _) _;have N:Blk ((w3.alloc (.cells (AC λ_=>0#32) 185)).setRow w3.heap.size (AC (fld td))) w3.heap.size 185 (AC (fld td)):=(gZ w3 _ _ rfl).setRow _;have y:=(T.looked w hm).grew G;have k1:=y.blk.cell 1;have kf:=y.blk.frozen 1;have ca:=y.blk.lt;have f:=y.setTop a8 (by rw [M];exact N) L;have Y:Turned (λq=>q=m\/lo<=q) W (((w3.alloc (.cells (AC λ_=>0#32) 185)).setRow w3.heap.size (AC (fld td))).setCell ⟨g,1,none⟩ (ptrV w3.heap.size)):=(((w.turned.mono λ_ _ hq=>.inl hq).trans (G.turned _))).setCell (p:=⟨g,1,none⟩) (λ_=>.inr hv.lg) _;have a9:StoreM (((w3.alloc (.cells (AC λ_=>0#32) 185)).setRow w3.heap.size (AC (fld td))).setCell ⟨g,1,none⟩ (ptrV w3.heap.size)) s m x sy ep:=(w.store.grew G).kept (S:=λq=>q=g) ((iR (λq=>q=g) _).setCell (p:=⟨g,1,none⟩) (λ_=>rfl) _) (by have:=hv.lg;have:=hlow.2;omega) (by have:=hv.lg;omega);have bc:=R.out _ Y a9;have a:=f.blk;have g0:=a.cell 0;have g1:=a.cell 1;have g2:=a.cell 2;have gl:=a.lt;have Z:=f.map.lookup_val BB Bj Tryz.underlying187 (GG _) (k:Int) K;have O:=zh (λ(w':World) (ht:Turned (λq=>q=m\/lo<=q) (((w3.alloc (.cells (AC λ_=>0#32) 185)).setRow w3.heap.size (AC (fld td))).setCell ⟨g,1,none⟩ (ptrV w3.heap.size)) w') (hst:StoreM w' s m x sy ep)=>R w' (Y.trans ht) hst);have P:Hid (Turned (λq=>q=m\/q=g\/q=mm) W (((w3.alloc (.cells (AC λ_=>0#32) 185)).setRow w3.heap.size (AC (fld td))).setCell ⟨g,1,none⟩ (ptrV w3.heap.size))):=zh ((((w.turned.mono λ_ _ hq=>.inl hq).trans (G.turned _))).setCell (p:=⟨g,1,none⟩) (λ_=>.inr (.inl rfl)) _);have h':=bc;obtain ⟨a5,b2⟩:∃o,o=up out lo (((w3.alloc (.cells (AC λ_=>0#32) 185)).setRow w3.heap.size (AC (fld td))).setCell ⟨g,1,none⟩ (ptrV w3.heap.size)):=⟨_,rfl⟩;rw [<-b2] at h';have HH:=zh h';have HV:=zh f;have ad:=zh (show lo<=w3.heap.size/\Blk (((w3.alloc (.cells (AC λ_=>0#32) 185)).setRow w3.heap.size (AC (fld td))).setCell ⟨g,1,none⟩ (ptrV w3.heap.size)) w3.heap.size 185 (AC (fld (topI D).data)) from ⟨a8,by rw [M];exact N.turned (S:=λq=>q=g) ((iR (λq=>q=g) _).setCell (p:=⟨g,1,none⟩) (λ_=>rfl) _) (y.ver_ne N).1⟩);clear b2 Y a9 bc h' w n G N y;cases hF:F (k:Int) with
   | some v=>
     obtain ⟨b,j,hj,rfl,cp,b3,b4⟩:=f.maps _ _ hF;obtain rfl:k=j:=oo;rw [hF,jO] at Z;have HP:=zh (show C9 D k/\Blk (((w3.alloc (.cells (AC λ_=>0#32) 185)).setRow w3.heap.size (AC (fld td))).setCell ⟨g,1,none⟩ (ptrV w3.heap.size)) b 185 (AC (fld (mapI D k).data))/\lo<=b from ⟨b4,b3,cp⟩);clear h hv K hF b3 b4 a hf hlen f L M;go_wp2_with (first | (refine AO rfl 185 _ _ rfl w3.heap.size (AC (fld td)) rfl rfl 185 (AC λ_=>0#32) (gZ w3 _ _ rfl) (by rw [Ae,Ae]) (by rw [Ae];exact EV) (EA _) ?_));go_ret2;exact ⟨⟨λ_=>⟨b,rfl,HP.2.1,HP.2.2⟩,λhn=>absurd HP.1 hn⟩,O _ (iR _ _) HH.store,⟨_,_,HV⟩,P⟩
   | none=>
     rw [hF,Option.getD_none] at Z;obtain ⟨ver,a6⟩:∃ver,fld (topI D).data k=ver:=⟨_,rfl⟩;have tc:=ad.2.cell k;rw [Cl _ _ hk,a6] at tc;have tl:=ad.2.lt;have ae:=zh (λ(w1:World) (hh:Held w0 x s m sy ep D a5 w1)=>JV hh (1+(k:Int)) (Cb _ oo) ver);have bf:=zh (b6 ver);have cr:IntKind.i64.wrap (1+(k:Int))=1+(k:Int):=iY _ oo;have cs:(0:Int)<=1+(k:Int):=oo;have cu:=zh hF;have al:=zh L;have bk:=zh K;have bl:=zh a6;obtain ⟨⟨⟨bd,bv,bb⟩,er⟩,b5⟩:∃r,C7 D (1+(k:Int)) ver=r:=⟨_,rfl⟩;rw [b5] at ae bf;clear h hv K hF a hf hlen L a6 b5 f M;go_wp2_with (first | (refine AO rfl 185 _ _ rfl w3.heap.size (AC (fld td)) rfl rfl 185 (AC λ_=>0#32) (gZ w3 _ _ rfl) (by rw [Ae,Ae]) (by rw [Ae];exact EV) (EA _) ?_));clear k1 kf ca T ad;generalize hW5:(((w3.alloc (.cells (AC λ_=>0#32) 185)).setRow w3.heap.size (AC (fld td))).setCell ⟨g,1,none⟩ (ptrV w3.heap.size))=w5 at*
     clear hW5;generalize hgt:w3.heap.size=t' at*
     clear hgt;refine AB [14,19] (λw':World=>w'.cell? ⟨g,0,none⟩=some (ptrV s)/\w'.cell? ⟨g,1,none⟩=some (ptrV t')/\g<w'.heap.size/\w'.cell? ⟨t',k,none⟩=some (.int .u32 (u32 ver))/\t'<w'.heap.size) qk ?_;have hS:=(show (λw':World=>w'.cell? ⟨g,0,none⟩=some (ptrV s)/\w'.cell? ⟨g,1,none⟩=some (ptrV t')/\g<w'.heap.size/\w'.cell? ⟨t',k,none⟩=some (.int .u32 (u32 ver))/\t'<w'.heap.size) w5.drew from ⟨g0,g1,gl,tc,tl⟩);refine tQ 0 42 ?_;refine tT 1 (some 43) hS ?_;refine tQ 2 44 ?_;refine tT 3 (some 45) hS ?_;refine tQ 4 46 ?_;refine tQ 5 47 ?_;refine tQ 6 48 ?_;refine tT 7 (some 49) hS ?_;refine tQ 8 50 ?_;refine tT 9 (some 51) hS ?_;refine tQ 10 52 ?_;refine tT 11 (some 53) hS ?_;refine tQ 12 54 ?_;refine tT 13 (some 55) hS ?_;refine E1 (i:=14) (j:=18) rfl rfl qk ?faa ?fab
     case' faa=>
      intro K' hK;rw [if_pos (by rfl)];simp only [jG,il,iw];go_wp2_with fail;refine (ae _ (HH.grew (gK w5).drew)).mono ?_;rintro e w1 ⟨rfl,d⟩;unfold L7;have n:Looked w0 x s m sy ep D a5 w5 (w1.alloc (.cells #[.string bd,.int .u32 (u32 bv),.bool bb] 178)):=((HH.same (gK w5).drew).trans d).grew ((gK w1).alloc _);have H:Blk (w1.alloc (.cells #[.string bd,.int .u32 (u32 bv),.bool bb] 178)) w1.heap.size 178 #[.string bd,.int .u32 (u32 bv),.bool bb]:=gZ w1 _ _ rfl;have bn:w5.heap.size<=w1.heap.size:=d.turned.size;have cb:Blk (w1.alloc (.cells #[.string ⟨#[]⟩,.int .u32 0,.bool false] 178)) w1.heap.size 178 #[.string ⟨#[]⟩,.int .u32 0,.bool false]:=gZ w1 _ _ rfl;clear d;go_wp2_with fail;refine hK.out _ _ (.inl (by rfl)) ?_;clear hK;refine tQ 15 41 ?_;refine tQ 16 57 ?_;refine tQ 17 58 ?_;refine tO 18 λK' hK=>?_;go_wp2_with fail;refine hK.out _ _ (.inr (λhS=>Qr ((gK w1).alloc _) hS)) ?_;clear hK;refine tO 19 λK' hK=>?_;go_wp2_with fail;refine hK.out _ _ (.inl (by rfl)) ?_;clear hK cb;refine tQ 20 10 ?_;refine AA qk ?_ _;generalize hwz:w1.alloc (.cells #[.string bd,.int .u32 (u32 bv),.bool bb] 178)=wz at*
      generalize hgz:w1.heap.size=gx at*
      clear hwz hgz
     case' fab=>
      intro K' hK;rw [if_pos (by rfl)];simp only [jG,il,iw];go_wp2_with fail;have a:Grew w5 (w5.alloc (.cells #[.string ⟨#[]⟩,.int .u32 0,.bool false] 178)).drew:=((gK w5).alloc _).drew;have br:Blk (w5.alloc (.cells #[.string ⟨#[]⟩,.int .u32 0,.bool false] 178)).drew w5.heap.size 178 #[.string ⟨#[]⟩,.int .u32 0,.bool false]:=(gZ w5 _ _ rfl).drew;refine hK.out _ _ (.inr (λhS=>Qr ((gK w5.drew).alloc _) hS)) ?_;clear hK;refine tO 14 λK' hK=>?_;go_wp2_with fail;refine (ae _ (HH.grew a)).mono ?_;rintro e w1 ⟨rfl,d⟩;unfold L7;have ce:=HH.store.lt.2;have u:=br.looked d oo;have z0:=u.cell 0;have z1:=u.cell 1;have z2:=u.cell 2;have f0:=u.frozen 0;have f1:=u.frozen 1;have f2:=u.frozen 2;have zl:=u.lt;have bn:w5.heap.size<=w5.heap.size:=gM _;have n:Looked w0 x s m sy ep D a5 w5 (((w1.setCell ⟨w5.heap.size,0,none⟩ (.string bd)).setCell ⟨w5.heap.size,1,none⟩ (.int .u32 (u32 bv))).setCell ⟨w5.heap.size,2,none⟩ (.bool bb)):=Cd HH ((HH.same a).trans d) (gT);have H:Blk (((w1.setCell ⟨w5.heap.size,0,none⟩ (.string bd)).setCell ⟨w5.heap.size,1,none⟩ (.int .u32 (u32 bv))).setCell ⟨w5.heap.size,2,none⟩ (.bool bb)) w5.heap.size 178 #[.string bd,.int .u32 (u32 bv),.bool bb]:=gB;clear d u ce a br;go_wp2_with fail;refine hK.out _ _ (.inl (by rfl)) ?_;clear hK;refine tQ 15 41 ?_;refine tQ 16 57 ?_;refine tQ 17 58 ?_;refine tO 19 λK' hK=>?_;go_wp2_with fail;refine hK.out _ _ (.inl (by rfl)) ?_;clear hK z0 z1 z2 f0 f1 f2 zl;refine tQ 20 10 ?_;refine AA qk ?_ _;generalize hwz:((w1.setCell ⟨w5.heap.size,0,none⟩ (.string bd)).setCell ⟨w5.heap.size,1,none⟩ (.int .u32 (u32 bv))).setCell ⟨w5.heap.size,2,none⟩ (.bool bb)=wz at n H ⊢;obtain ⟨gx,hgz⟩:∃gx,gx=w5.heap.size:=⟨_,rfl⟩;rw [<-hgz] at H bn ⊢;clear hwz hgz
     all_goals
      have I:=HV.looked n hm;have c:=zh n;have bs:=zh H;have z:=bf.out;clear n H g0 g1 g2 gl tc tl Z;by_cases l:(mapI D k).ok=false
      . rw [if_pos l] at z;injection z with h1 h2;subst h2;have B:Hid (¬C9 D k):=zh (λhn=>by rw [hn.2.1] at l;cases l);have C:Hid (Dr D k=11):=zh (by unfold Dr;rw [if_neg (by rw [al.out];simp),if_pos l]);clear l h1 I;go_wp2_with fail;go_ret2;exact ⟨⟨λhn=>absurd hn B,λ_=>by rw [C.out];rfl⟩,O _ (c.turned.mono λ_ _ hq=>.inl hq) c.store,⟨_,_,HV.looked c hm⟩,P.out.trans (c.turned.mono λ_ _ hq=>.inl hq)⟩
      by_cases A:(mapI D k).ver≠ver
      . rw [if_neg l,if_pos A] at z;injection z with h1 h2;subst h2;have B:Hid (¬C9 D k):=zh (λhn=>A (by rw [<-bl.out];exact hn.2.2));have C:Hid (Dr D k=12):=zh (by unfold Dr;rw [if_neg (by rw [al.out];simp),if_neg l]);clear l A h1 I;go_wp2_with fail;go_ret2;exact ⟨⟨λhn=>absurd hn B,λ_=>by rw [C.out];rfl⟩,O _ (c.turned.mono λ_ _ hq=>.inl hq) c.store,⟨_,_,HV.looked c hm⟩,P.out.trans (c.turned.mono λ_ _ hq=>.inl hq)⟩
      rw [if_neg l,if_neg A] at z;injection z with h1 h2;subst h2;have an:(mapI D k).ok=true:=by simpa using l
      have av:Hid ((mapI D k).data=bd):=zh (by rw [<-h1]);have E:bd.size=128:=by rw [<-av.out];exact C4 an
      have bt:Hid (C9 D k):=zh ⟨al,an,by rw [bl.out];simpa using A⟩;have X:=zh (JA bd E);have cf:=zh I;have x0:=bs.cell 0;have xl:=bs.out.lt;have b9:=GM;have ch:lo<=g:=I.lg;have ci:=zh (show lo<=w5.heap.size from gY HV.lg (Nat.le_of_lt HV.blk.lt));clear l A h1 I E an ch;go_wp2_with fail;refine (X _).mono ?_;rintro e w4 ⟨rfl,g4⟩;have bx:Blk ((w4.alloc (.cells (AC λ_=>0#32) 185)).setRow w4.heap.size (AC (fld bd))) w4.heap.size 185 (AC (fld bd)):=(gZ w4 _ _ rfl).setRow _;have a0:Grew wz ((w4.alloc (.cells (AC λ_=>0#32) 185)).setRow w4.heap.size (AC (fld bd))):=(g4.alloc _).setRow g4.size _;have f:=cf.grew a0;have y2:=f.blk.cell 2;have yl:=f.blk.lt;have a1:=zh f;have a2:=zh bx;have a3:=zh (c.grew a0);have b0:lo<=w4.heap.size:=by have:=ci.out;have:=c.turned.size;have:=g4.size;omega
      clear bx a0 f g4 x0 xl;go_wp2_with (first | (refine AO rfl 185 _ _ rfl w4.heap.size (AC (fld bd)) rfl rfl 185 (AC λ_=>0#32) (gZ w4 _ _ rfl) (by rw [Ae,Ae]) (by rw [Ae];exact EV) (EA _) ?_) | (refine B7 rfl _ _ _ 187 rfl 188 BB Bj Tryz.underlying187 rfl a1.map (k:Int) bk (ptrV w4.heap.size) rfl rfl ?_;intro w6 b1 a4;have J:=a1.setMap b0 (by rw [av.out];exact a2.out) bt b1 a4;have q2:=J.blk.cell 2;have ql:=J.blk.lt;have cj:=J.map.lookup_val BB Bj Tryz.underlying187 (GG _) (k:Int) bk;rw [Ea,jO] at cj;have cl:=zh J;have Q:=zh a4;clear J a4 b1));go_ret2;have cm:Turned (λq=>q=m\/lo<=q) w5 w6:=(a3.turned.mono λ_ _ hq=>.inl hq).trans (Q.mono λq _ hq=>.inr (by rw [hq];exact HV.lm));have co:Turned (λq=>q=m\/q=g\/q=mm) w5 w6:=(a3.turned.mono λ_ _ hq=>.inl hq).trans (Q.mono λq _ hq=>.inr (.inr hq));have a7:=HV.lm;have cv:=hlow.2;exact ⟨⟨λ_=>⟨w4.heap.size,rfl,by rw [av.out];exact a2.turned Q (a1.ver_ne a2).2,b0⟩,λhn=>absurd bt hn⟩,O _ cm (a3.store.kept Q oo oo),⟨_,_,cl⟩,P.out.trans co⟩
end

section
variable {w0:World} {x s m:Nat} {sy ep:Int} {D:Dev} {out:Nat->Prop} {W:World} {lo g mm:Nat} (h:Held w0 x s m sy ep D (up out lo W) W) (hlow:w0.heap.size<=lo/\s<lo) (hlen:132<=D.st.length) (hf:D.failed=false) (hm:m<lo)
include h hlow hlen hf hm
theorem Xv (hv:ViewM W lo g s mm D) (k:Nat) (hk:k<32):Calls Tryz.prog 204 #[ptrV g,.int .i64 (k:Int)] W (aj w0 x s m sy ep D out W lo g mm k):=by
 obtain ⟨a,F,hv⟩:=hv;rcases hv.top with h1 | ⟨t,_,h2,_,_⟩
 . subst h1;exact aV h hlow hlen hf hm k hk hv
 . subst h2;exact aG h hlow hlen hf hm k hk t hv
end
theorem cE {D:Dev} {i:Nat} (h:¬C9 D (i / 32)):Dl D i=(⟨#[]⟩,Dr D (i / 32)):=by
 unfold Dl Dr;by_cases h1:(topI D).ok=false
 . rw [if_pos h1,if_pos h1]
 . rw [if_neg h1,if_neg h1];by_cases h2:(mapI D (i / 32)).ok=false
   . rw [if_pos h2,if_pos h2]
   . rw [if_neg h2,if_neg h2,if_pos];intro h3;exact h ⟨by simpa using h1,by simpa using h2,h3⟩
theorem XL (D:Dev) (k:Nat):Dr D k≠0:=by
 unfold Dr;split
 . decide
 split
 . decide
 . decide
theorem fG {D:Dev} (hf:D.failed=false) (i:Nat) (hi:131+i<D.st.length) (v:BitVec 32):C7 D (131+(i:Int)) v=(if (datI D i).ok=false then (LB,11) else if (datI D i).ver≠v then (LB,12) else (datI D i,0)):=by
 unfold C7;rw [show (131+(i:Int))=((131+i:Nat):Int) from oo,Du hf (131+i) hi,if_neg qs];rfl
theorem Zn {D:Dev} {i:Nat} (h:C9 D (i / 32)) (hf:D.failed=false) (hi:131+i<D.st.length):Dl D i=((C7 D (131+(i:Int)) (fld (mapI D (i / 32)).data (i % 32))).1.data,(C7 D (131+(i:Int)) (fld (mapI D (i / 32)).data (i % 32))).2):=by
 obtain ⟨h1,h2,h3⟩:=h;rw [fG hf i hi];unfold Dl;rw [if_neg (by rw [h1];simp),if_neg (by rw [h2];simp),if_neg (by simpa using h3)];by_cases h4:(datI D i).ok=false
 . rw [if_pos h4,if_pos h4];rfl
 . rw [if_neg h4,if_neg h4];by_cases h5:(datI D i).ver≠fld (mapI D (i / 32)).data (i % 32)
   . rw [if_pos h5,if_pos h5];rfl
   . rw [if_neg h5,if_neg h5]
theorem eX {w1 w2:World} {g b J s:Nat} {ver:BitVec 32} (hg:Grew w1 w2) (h:(λw':World=>w'.cell? ⟨g,0,none⟩=some (ptrV s)/\g<w'.heap.size/\w'.cell? ⟨b,J,none⟩=some (.int .u32 (u32 ver))/\b<w'.heap.size) w1):(λw':World=>w'.cell? ⟨g,0,none⟩=some (ptrV s)/\g<w'.heap.size/\w'.cell? ⟨b,J,none⟩=some (.int .u32 (u32 ver))/\b<w'.heap.size) w2:=⟨AI hg h.1,gW h.2.1 hg.size,AI hg h.2.2.1,gW h.2.2.2 hg.size⟩
theorem TT {w0:World} {x s' m:Nat} {sy ep:Int} {E:Dev} {out:Nat->Prop} {w w':World} {lo g s mm:Nat} {D:Dev} (h:ViewM w lo g s mm D) (hl:Looked w0 x s' m sy ep E out w w') (hm:m<lo):ViewM w' lo g s mm D:=by
 obtain ⟨a,F,hv⟩:=h;exact ⟨a,F,hv.looked hl hm⟩
theorem ViewM.grew {w w':World} {lo g s mm:Nat} {D:Dev} (h:ViewM w lo g s mm D) (hg:Grew w w'):ViewM w' lo g s mm D:=by
 obtain ⟨a,F,hv⟩:=h;exact ⟨a,F,hv.grew hg⟩
def gC (w0:World) (x s m:Nat) (sy ep:Int) (D:Dev) (out:Nat->Prop) (W:World) (lo g mm:Nat) (r:ByteArray × Int) (e:Ending) (w':World):Prop:=
 e=.returned (.tuple #[.string r.1,.int .i64 r.2])/\Held w0 x s m sy ep D (up out lo w') w'/\ViewM w' lo g s mm D/\Turned (λq=>q=m\/q=g\/q=mm) W w'
section
variable {w0:World} {x s m:Nat} {sy ep:Int} {D:Dev} {out:Nat->Prop} {W:World} {lo g mm:Nat} (h:Held w0 x s m sy ep D (up out lo W) W) (hlow:w0.heap.size<=lo/\s<lo) (hlen:132<=D.st.length) (hf:D.failed=false) (hm:m<lo)
include h hlow hlen hf hm
theorem V2 (hv:ViewM W lo g s mm D) (i:Nat) (hi:131+i<D.st.length) (P:i<1024):Calls Tryz.prog 152 #[ptrV g,.int .i64 (i:Int)] W (gC w0 x s m sy ep D out W lo g mm (Dl D i)):=by
 have HL:=zh (Xv h hlow hlen hf hm hv (i / 32) oo);obtain ⟨K,hK⟩:∃K,i / 32=K:=⟨_,rfl⟩;obtain ⟨J,hJ⟩:∃J,i % 32=J:=⟨_,rfl⟩;have hq:(i:Int) / 32=(K:Int):=oo;have hr:(i:Int).tmod 32=(J:Int):=by rw [je oo];omega
 have Q:J<32:=oo;rw [hK] at HL;have G:=zh (λ(hn:¬C9 D K)=>cE (D:=D) (i:=i) (by rw [hK];exact hn));have H:=zh (λ(hn:C9 D K)=>Zn (D:=D) (i:=i) (by rw [hK];exact hn) hf hi);rw [hK,hJ] at H;rw [hK] at G;have hib:(0:Int)<=(i:Int)/\(i:Int)<=1024:=oo;clear hK hJ h hv hi hlen hf P;by_cases l:C9 D K
 . have HE:=zh (H l);have w:=zh l;clear l;go_enter Tryz.func152,Tryz.ntmps152;go_wp2_with fail;refine HL.mono ?_;rintro e w1 ⟨⟨hy,_⟩,d,n,p⟩;obtain ⟨b,rfl,hb,Y⟩:=hy w;have HR:=zh (show Held w0 x s m sy ep D (up out lo w1) w1/\ViewM w1 lo g s mm D/\Turned (λq=>q=m\/q=g\/q=mm) W w1 from ⟨d,n,p⟩);have R:=zh (λ(w':World) (ht:Turned (λq=>q=m\/lo<=q) w1 w') (hst:StoreM w' s m x sy ep)=>d.up hlow hm ht hst);obtain ⟨B,N⟩:∃o,o=up out lo w1:=⟨_,rfl⟩;rw [<-N] at d;have HH:=zh d;obtain ⟨ver,C⟩:∃ver,fld (mapI D K).data J=ver:=⟨_,rfl⟩;have y:=hb.cell J;rw [Cl _ _ Q,C] at y;have I:=hb.lt;have a:∃v,Blk w1 g 287 #[ptrV s,v,.map (some mm)]:=by obtain ⟨v,F,hv⟩:=n;exact ⟨v,hv.blk⟩
   obtain ⟨v,a⟩:=a;have g0:=a.cell 0;have gl:=a.lt;rw [C] at HE;have z:=zh (λ(w2:World) (hh:Held w0 x s m sy ep D B w2)=>JV hh (131+(i:Int)) (Cb _ oo) ver);obtain ⟨⟨⟨bd,bv,bb⟩,er⟩,O⟩:∃r,C7 D (131+(i:Int)) ver=r:=⟨_,rfl⟩;rw [O] at z HE;have U:IntKind.i64.wrap (131+(i:Int))=131+(i:Int):=iY _ oo;have V:(0:Int)<=(J:Int)/\(J:Int)<32:=oo;clear hy d n p hb a C O N;go_wp2_with fail;refine AB [12,17] (λw':World=>w'.cell? ⟨g,0,none⟩=some (ptrV s)/\g<w'.heap.size/\w'.cell? ⟨b,J,none⟩=some (.int .u32 (u32 ver))/\b<w'.heap.size) qk ?_;have hS:=(show (λw':World=>w'.cell? ⟨g,0,none⟩=some (ptrV s)/\g<w'.heap.size/\w'.cell? ⟨b,J,none⟩=some (.int .u32 (u32 ver))/\b<w'.heap.size) w1.drew from ⟨g0,gl,y,I⟩);refine tQ 0 20 ?_;refine tT 1 (some 21) hS ?_;refine tQ 2 22 ?_;refine tT 3 (some 23) hS ?_;refine tQ 4 24 ?_;refine tQ 5 25 ?_;refine tQ 6 26 ?_;refine tQ 7 27 ?_;refine tQ 8 28 ?_;refine tT 9 (some 29) hS ?_;refine tQ 10 30 ?_;refine tT 11 (some 31) hS ?_;clear hS;refine E1 (i:=12) (j:=16) rfl rfl qk ?faa ?fab
   case' faa=>
    intro K' hK;rw [if_pos (by rfl)];simp only [jG,il,iw];go_wp2_with fail;refine (z _ (HH.grew (gK w1).drew)).mono ?_;rintro e w2 ⟨rfl,f⟩;unfold L7;have t:Looked w0 x s m sy ep D B w1 (w2.alloc (.cells #[.string bd,.int .u32 (u32 bv),.bool bb] 178)):=((HH.same (gK w1).drew).trans f).grew ((gK w2).alloc _);have k:Blk (w2.alloc (.cells #[.string bd,.int .u32 (u32 bv),.bool bb] 178)) w2.heap.size 178 #[.string bd,.int .u32 (u32 bv),.bool bb]:=gZ w2 _ _ rfl;have L:w1.heap.size<=w2.heap.size:=f.turned.size;clear f;go_wp2_with fail;refine hK.out _ _ (.inl (by rfl)) ?_;clear hK;refine tQ 13 19 ?_;refine tQ 14 33 ?_;refine tQ 15 34 ?_;refine tO 16 λK' hK=>?_;go_wp2_with fail;refine hK.out _ _ (.inr (λhS=>eX ((gK w2).alloc _) hS)) ?_;clear hK;refine tO 17 λK' hK=>?_;go_wp2_with fail;refine hK.out _ _ (.inl (by rfl)) ?_;clear hK;refine tQ 18 7 ?_;refine AA qk ?_ _;generalize hwz:w2.alloc (.cells #[.string bd,.int .u32 (u32 bv),.bool bb] 178)=wz at*
    generalize hgz:w2.heap.size=gx at*
    clear hwz hgz
   case' fab=>
    intro K' hK;rw [if_pos (by rfl)];simp only [jG,il,iw];go_wp2_with fail;have a:Grew w1 (w1.alloc (.cells #[.string ⟨#[]⟩,.int .u32 0,.bool false] 178)).drew:=((gK w1).alloc _).drew;have M:Blk (w1.alloc (.cells #[.string ⟨#[]⟩,.int .u32 0,.bool false] 178)).drew w1.heap.size 178 #[.string ⟨#[]⟩,.int .u32 0,.bool false]:=(gZ w1 _ _ rfl).drew;refine hK.out _ _ (.inr (λhS=>eX ((gK w1.drew).alloc _) hS)) ?_;clear hK;refine tO 12 λK' hK=>?_;go_wp2_with fail;refine (z _ (HH.grew a)).mono ?_;rintro e w2 ⟨rfl,f⟩;unfold L7;have S:=HH.store.lt.2;have c:=M.looked f oo;have z0:=c.cell 0;have z1:=c.cell 1;have z2:=c.cell 2;have f0:=c.frozen 0;have f1:=c.frozen 1;have f2:=c.frozen 2;have zl:=c.lt;have L:w1.heap.size<=w1.heap.size:=gM _;have t:Looked w0 x s m sy ep D B w1 (((w2.setCell ⟨w1.heap.size,0,none⟩ (.string bd)).setCell ⟨w1.heap.size,1,none⟩ (.int .u32 (u32 bv))).setCell ⟨w1.heap.size,2,none⟩ (.bool bb)):=Cd HH ((HH.same a).trans f) (gT);have k:Blk (((w2.setCell ⟨w1.heap.size,0,none⟩ (.string bd)).setCell ⟨w1.heap.size,1,none⟩ (.int .u32 (u32 bv))).setCell ⟨w1.heap.size,2,none⟩ (.bool bb)) w1.heap.size 178 #[.string bd,.int .u32 (u32 bv),.bool bb]:=gB;clear f c S a M;go_wp2_with fail;refine hK.out _ _ (.inl (by rfl)) ?_;clear hK;refine tQ 13 19 ?_;refine tQ 14 33 ?_;refine tQ 15 34 ?_;refine tO 17 λK' hK=>?_;go_wp2_with fail;refine hK.out _ _ (.inl (by rfl)) ?_;clear hK z0 z1 z2 f0 f1 f2 zl;refine tQ 18 7 ?_;refine AA qk ?_ _;generalize hwz:((w2.setCell ⟨w1.heap.size,0,none⟩ (.string bd)).setCell ⟨w1.heap.size,1,none⟩ (.int .u32 (u32 bv))).setCell ⟨w1.heap.size,2,none⟩ (.bool bb)=wz at t k ⊢;obtain ⟨gx,hgz⟩:∃gx,gx=w1.heap.size:=⟨_,rfl⟩;rw [<-hgz] at k L ⊢;clear hwz hgz
   all_goals
    have u:=zh t;have x0:=k.cell 0;have xl:=k.lt;clear t k g0 gl y I;go_wp2_with fail;go_ret2;exact ⟨by rw [HE.out];rfl,R _ (u.turned.mono λ_ _ hq=>.inl hq) u.store,TT HR.2.1 u hm,HR.2.2.trans (u.turned.mono λ_ _ hq=>.inl hq)⟩
 . have HE:=zh (G l);have w:=zh l;have A:=XL D K;obtain ⟨er,E⟩:∃er,Dr D K=er:=⟨_,rfl⟩;rw [E] at HE A;have X:(er != 0)=true:=by rw [iW];exact A
   have T:=zh E;clear l A E;go_enter Tryz.func152,Tryz.ntmps152;go_wp2_with fail;refine HL.mono ?_;rintro e w1 ⟨⟨_,hn⟩,d,n,p⟩;obtain rfl:=hn w;rw [T.out];have HR:=zh (show Held w0 x s m sy ep D (up out lo w1) w1/\ViewM w1 lo g s mm D/\Turned (λq=>q=m\/q=g\/q=mm) W w1 from ⟨d,n,p⟩);clear hn d n p;go_wp2_with fail;go_ret2;exact ⟨by rw [HE.out];rfl,HR⟩
end

theorem Km {w0:World} {x s m:Nat} {sy ep:Int} {D:Dev} {out:Nat->Prop} {W:World} (h:Held w0 x s m sy ep D out W):Held w0 x s m sy ep D (up out W.heap.size W) W:=
 ⟨h.live.few (λk hk=>hk.elim id (λh9=>absurd h9.1 oo)),h.store,.inl h.os,.inl h.om,h.m0⟩
theorem WB {w0:World} {x s m:Nat} {sy ep:Int} {E:Dev} {out:Nat->Prop} {W w1 w':World} (hd:Done w0 x s m sy ep E out W w1) (hh:Held w0 x s m sy ep E (up out w1.heap.size w') w') (ht:Turned (λq=>q=m\/w1.heap.size<=q) w1 w'):Done w0 x s m sy ep E out W w':=
 ⟨hh.live.few (λk hk=>.inl hk),hh.store,hd.turned.next ht (λk hk hq=>by
  rcases hq with hq | hq
  . exact .inr hq
  . exact absurd hk (by have:=hd.turned.size;omega))⟩
theorem Pv:(Tryz.prog.info? 9).map (λi=>(i.zero,i.size,i.bytes))=some (some (.string ⟨#[]⟩),1,16):=qk
theorem Fi {w:World} {m b o:Nat} {F:Int->Option Value} {v:Value} (hm:MapI w m F) (h:w.cell? ⟨b,o,none⟩=some v):b≠m:=by
 rintro rfl;obtain ⟨es,a,l,hb,_⟩:=hm;unfold World.cell? at h;simp [hb] at h
theorem Fa {w0:World} {x s m:Nat} {sy ep:Int} {E:Dev} {out out':Nat->Prop} {W w1 w':World} (hd:Done w0 x s m sy ep E out' w1 w') (hg:Grew W w1) (ho:∀k,out k->out' k):Done w0 x s m sy ep E out W w':=
 ⟨hd.live.few ho,hd.store,(hg.turned _).trans (hd.turned.mono λk _ hk=>hk.elim (λh9=>.inl ⟨h9.1,λh8=>h9.2 (ho k h8)⟩) .inr)⟩

end
section
open Go.RowKit
theorem EO (n:Nat) (ws:List (Int × ByteArray)) (e:Nat × ByteArray):e∈Bw n ws↔e.1<n/\(ws.find? λx=>x.1==(e.1:Int)).map (·.2)=some e.2:=by
 unfold Bw;rw [List.mem_filterMap];constructor
 . rintro ⟨i,hi,h⟩;obtain ⟨x,hx,rfl⟩:=jk.1 h;exact ⟨iP.1 hi,by show (ws.find? λx=>x.1==(i:Int)).map (·.2)=_;rw [hx];rfl⟩
 . rintro ⟨h1,h2⟩;obtain ⟨x,hx,a⟩:=jk.1 h2;exact ⟨e.1,iP.2 h1,by rw [hx];show some (e.1,x.2)=some e;rw [a]⟩
theorem Hh (n:Nat) (ws:List (Int × ByteArray)):(Bw n ws).Pairwise λa b=>a.1<b.1:=by
 unfold Bw;rw [pairwise_filterMap];refine pairwise_lt_range.imp ?_;intro a b c x hx y hy;obtain ⟨u,_,rfl⟩:=jk.1 hx;obtain ⟨v,_,rfl⟩:=jk.1 hy;exact c
theorem GX {ws:List (Int × ByteArray)} (hn:(ws.map (·.1)).Nodup) (x:Int × ByteArray) (hx:x∈ws):(ws.find? λy=>y.1==x.1)=some x:=by
 induction ws with
 | nil=>cases hx
 | cons y ws ih=>
   rw [map_cons,nodup_cons] at hn;rw [find?_cons];rcases jB.1 hx with rfl | hx
   . rw [beq_self_eq_true]
   . have:(y.1==x.1)=false:=iD.2 (λe=>hn.1 (by rw [e];exact List.mem_map_of_mem hx));rw [this];exact ih hn.2 hx
def Kv (ws:List (Int × ByteArray)) (i:Nat):Option ByteArray:=(ws.find? λx=>x.1==(i:Int)).map (·.2)
theorem Tp (n:Nat) (ws:List (Int × ByteArray)) (i:Nat) (hi:i<n):Ak (Bw n ws) i=Kv ws i:=by
 have c:((Bw n ws).map (·.1)).Nodup:=by
  rw [Nodup,jh];exact (Hh n ws).imp (λ{a b} hab=>oo)
 cases hv:Kv ws i with
 | some s=>exact EN _ c (i,s) ((EO n ws (i,s)).2 ⟨hi,hv⟩)
 | none=>
   refine B5 _ _ (λe he hq=>?_);obtain ⟨_,h2⟩:=(EO n ws e).1 he;rw [hq] at h2;unfold Kv at hv;rw [hv] at h2;cases h2
theorem JH (n:Nat) (ws:List (Int × ByteArray)) (h:Ac n ws=0):(∀e∈ws,e.2.size=128/\0<=e.1/\e.1<(n:Int))/\(ws.map (·.1)).Nodup/\ws.length<=64:=by
 unfold Ac at h;split at h
 . cases h
 rename_i h1;split at h
 . cases h
 rename_i h2;split at h
 . cases h
 rename_i h3;simp only [not_or,io,jE,im,iV] at h1 h2;refine ⟨λe he=>⟨?_,?_⟩,h1.2,oo⟩
 . have:=h1.1 e he;exact this
 . have:=h2 e he;omega
theorem P7 (n:Nat) (ws:List (Int × ByteArray)) (h:∀e∈ws,0<=e.1/\e.1<(n:Int)) (hn:(ws.map (·.1)).Nodup):(Bw n ws).length=ws.length:=by
 have hp:((Bw n ws).map (λe=>(e.1:Int))).Perm (ws.map (·.1)):=by
  refine (perm_ext_iff_of_nodup ?_ hn).2 (λi=>?_)
  . rw [Nodup,jh];exact (Hh n ws).imp (λ{a b} hab=>oo)
  . constructor
    . intro hi;obtain ⟨e,he,rfl⟩:=gV.1 hi;obtain ⟨_,h2⟩:=(EO n ws e).1 he;obtain ⟨x,hx,_⟩:=jk.1 h2;have h3:=List.find?_some hx;exact gV.2 ⟨x,List.mem_of_find?_eq_some hx,by simpa using h3⟩
    . intro hi;obtain ⟨x,hx,rfl⟩:=gV.1 hi;have hb:=h x hx;refine gV.2 ⟨(x.1.toNat,x.2),(EO n ws _).2 ⟨by show x.1.toNat<n;omega,?_⟩,by show ((x.1.toNat:Nat):Int)=x.1;omega⟩;show (ws.find? λy=>y.1==((x.1.toNat:Nat):Int)).map (·.2)=some x.2;rw [show ((x.1.toNat:Nat):Int)=x.1 from oo,GX hn x hx];rfl
 have:=hp.length_eq;simpa using this
theorem NF (I:Img) (ws:List (Int × ByteArray)) (h:Ac I.n ws=0) (h0:ws≠[]) (hr:I.N+1<4294967296):Takes I (Bw I.n ws):=by
 obtain ⟨h1,h2,h3⟩:=JH I.n ws h;have hl:=P7 I.n ws (λe he=>(h1 e he).2) h2;refine ⟨λe he=>?_,Hh _ _,?_,oo,hr⟩
 . obtain ⟨g1,g2⟩:=(EO I.n ws e).1 he;obtain ⟨x,hx,a⟩:=jk.1 g2;exact ⟨g1,by rw [<-a];exact (h1 x (List.mem_of_find?_eq_some hx)).1⟩
 . rw [hl];cases ws with
   | nil=>exact absurd rfl h0
   | cons x l=>simp
theorem Dw {D:Dev} {I:Img} {sy ep:Int} (h:Clean D I) (hc:Calm D sy ep) (hf:D.fuse=none) (ws:List (Int × ByteArray)) (hr:I.N+1<4294967295):
 (Ac I.n ws≠0\/ws=[]->Al D sy ep ws=(D,Ac I.n ws))/\
 (Ac I.n ws=0->ws≠[]->∃E,Al D sy ep ws=(E,0)/\Clean E (I.upd (Bw I.n ws))/\E.fen=D.fen/\E.fuse=none):=by
 have hn:D.st.length - 131=I.n:=by rw [h.len];omega
 have a:=E8 h sy ep;constructor
 . intro c;unfold Al;rw [a,hn,if_neg qs,if_pos c]
 . intro h0 b;have ht:=NF I ws h0 b oo;obtain ⟨r1,r2,r3,r4⟩:=K1 h ht hc hf;refine ⟨_,?_,r2,r3,r4⟩;unfold Al;rw [a,hn,if_neg qs,if_neg (by simp [h0,b])];show (if (topI D).ok=false then (D,11) else if El D (ksW (Bw I.n ws))≠0 then (D,El D (ksW (Bw I.n ws))) else if (topI D).ver=4294967295#32 then (D,8) else BS sy ep (B3 (Gr D (Bw I.n ws) ((topI D).ver+1#32)) ((topI D).ver+1#32)) D)=_;rw [Ni h.toHolds _ (λk hk=>((CR _ k).1 hk).1),h.topI,if_neg qs,if_neg qs,if_neg]
   . show BS sy ep (B3 (Gr D (Bw I.n ws) (nv I.N+1#32)) (nv I.N+1#32)) D=_;rw [Qf,Q5 h.toHolds ht];exact r1
   . intro hq;have:=iH BitVec.toNat hq;rw [show (Raw.mk (AM I.tops) (nv I.N) true).ver=nv I.N from rfl,Dt _ oo] at this;simp at this;omega

end
section
attribute [local go_sem ↓] Go.wp_at_zero Go.wp_at_succ
open Go.RowKit
def Ef (l:List Int):Int->Option Value:=λa=>if a∈l then some (.bool true) else none
theorem Kw (l:List Int) (a:Int):∀b,upd (Ef l) a (some (.bool true)) b=Ef (l++[a]) b:=by
 intro b;unfold Ef;by_cases h:b=a
 . subst h;rw [Ea,if_pos qs]
 . rw [Ey _ _ h];by_cases h2:b∈l
   . rw [if_pos h2,if_pos (by simp [h2])]
   . rw [if_neg h2,if_neg (by simp [h2,h])]
theorem NX (w:World):(zeroValue 4).run Tryz.prog w=.ok (.bool false) w:=qk
theorem DK (ws:List (Int × ByteArray)) (k:Nat) (hk:k<ws.length):((ws.take (k+1)).map (·.1))=(ws.take k).map (·.1)++[ws[k].1]:=by
 rw [gU hk,gm]
 try rfl
theorem VO {n:Nat} {ws:List (Int × ByteArray)} (k:Nat) (hk:k<ws.length) (h:ws[k].2.size≠128):Ac n ws=1:=by
 unfold Ac;rw [if_pos (.inl (jZ.2 ⟨ws[k],gS hk,by simpa using h⟩))]
theorem Wc {n:Nat} {ws:List (Int × ByteArray)} (k:Nat) (hk:k<ws.length) (h:ws[k].1∈(ws.take k).map (·.1)):Ac n ws=1:=by
 have hn:¬(ws.map (·.1)).Nodup:=by
  intro hn;have h1:((ws.take (k+1)).map (·.1)).Nodup:=(hn.sublist ((take_sublist _ _).map _));rw [DK ws k hk] at h1;exact (jA.1 h1).2.2 _ h _ (gQ.2 rfl) rfl
 unfold Ac;rw [if_pos (.inr hn)]
theorem MT {n:Nat} {ws:List (Int × ByteArray)} (h1:∀e∈ws,e.2.size=128) (h2:(ws.map (·.1)).Nodup) (k:Nat) (hk:k<ws.length) (h:ws[k].1<0\/(n:Int)<=ws[k].1):Ac n ws=2:=by
 unfold Ac;rw [if_neg (by simp only [not_or,io];exact ⟨by rw [jE,im];intro e he;simp [h1 e he],h2⟩),if_pos (jZ.2 ⟨ws[k],gS hk,by simpa using h⟩)]
theorem XC {n:Nat} {ws:List (Int × ByteArray)} (h1:∀e∈ws,e.2.size=128) (h2:(ws.map (·.1)).Nodup) (h3:∀e∈ws,¬(e.1<0\/(n:Int)<=e.1)):Ac n ws=if 64<ws.length then 8 else 0:=by
 unfold Ac;rw [if_neg (by simp only [not_or,io];exact ⟨by rw [jE,im];intro e he;simp [h1 e he],h2⟩),if_neg (by rw [jE,im];intro e he;simpa using h3 e he)]
section
variable {w0:World} {x s m:Nat} {sy ep:Int} {D:Dev} {out:Nat->Prop} {W:World}
theorem Ln (h:Held w0 x s m sy ep D out W) (P:132<=D.st.length/\D.st.length<=1155) (ws:List (Int × ByteArray)) (hl:ws.length<=1000000) (v:∀e∈ws,okI e.1) (A:Option Addr) (c:Nat) (w:ListAt W W.heap.size 2 A (ws.map BM)):
 Calls Tryz.prog 103 #[ptrV s,.slice A ws.length c] W λe w'=>e=.returned (.int .i64 (Ac (D.st.length - 131) ws))/\Grew W w':=by
 have Q:=@run_makeMap Tryz.prog;have R:Hid (MapI (W.alloc (.map #[] 0)) W.heap.size (Ef [])):=zh ((MapIs.made _ rfl).congr (λa=>rfl));obtain ⟨n,hn⟩:∃n:Nat,D.st.length - 131=n:=⟨_,rfl⟩;rw [hn];have y:(D.st.length:Int) - 131=(n:Int):=oo;have z:=zh (λ(w1:World) (hg:Grew W w1)=>IW (h.grew hg));rw [y] at z;have B:=zh w;have S:=zh v;clear h P w hn v y;go_enter Tryz.func103,Tryz.ntmps103;go_wp2_with fail;clear Q
 go_loopg [13] ws.length (λgk i wr=>∃k:Nat,k<=ws.length/\gk=ws.length - k/\i=.int .i64 k/\MapI wr W.heap.size (Ef ((ws.take k).map (·.1)))/\Grew W wr/\(∀j (hj:j<k) (hj2:j<ws.length),ws[j].2.size=128)/\((ws.take k).map (·.1)).Nodup)
 case atStart=>exact ⟨0,oo,oo,rfl,R,gG,λj hj=>absurd hj oo,qs⟩
 case round=>
  obtain ⟨k,hk,l,rfl,hm,hg,M,N⟩:=hrel;have T:=zh l;have HM:=zh hm;have HG:=zh hg;have C:=zh M;have E:=zh N;clear l hm hg M N;by_cases d:k<ws.length
  . obtain ⟨b,a0,rfl,a1,c0,c1⟩:=IE (B.keep (gM _) HG) d;have U:(k:Int)<(ws.length:Int):=oo;by_cases hs:ws[k].2.size=128
    . have V:((ws[k].2.size:Int) != 128)=false:=by rw [hs];rfl
      obtain ⟨kl,r⟩:=ET ws[k].1 (S _ (gS d));have X:=zh r;have o:=HM.alloc (.cells #[.int .i64 ws[k].1,.string ws[k].2] 65);have F:=o.lookup_val BB Bj Tryz.underlying91 (NX _) ws[k].1 r;have Y:=zh o;by_cases g:ws[k].1∈(ws.take k).map (·.1)
      . rw [show Ef ((ws.take k).map (·.1)) ws[k].1=some (.bool true) from if_pos g,jO] at F;have HC:=zh (Wc (n:=n) k d g);clear g hs r o;go_wp2_with fail;go_ret;rw [HC.out];exact ⟨rfl,HG.alloc _⟩
      . rw [show Ef ((ws.take k).map (·.1)) ws[k].1=none from if_neg g,Option.getD_none] at F;have HS:=zh hs;have Z:=zh g;clear g hs r o;go_wp2_with (refine B7 rfl _ _ _ 91 rfl 4 BB Bj Tryz.underlying91 rfl Y ws[k].1 X (.bool true) rfl rfl ?_;intro w3 K L;have ad:=zh K;have ae:=zh L;clear K L)
        go_roundg (ws.length - (k+1))
        case measure=>rw [T.out];omega
        case rel=>
         refine ⟨k+1,oo,oo,by go_num,ad.congr (λa=>by rw [DK ws k d];exact Kw _ _ a),(HG.alloc _).turn ae (λi e=>by rw [e];exact gM _),λj hj hj2=>?_,?_⟩
         . rcases it j k with h9 | h9
           . exact C.out j h9 hj2
           . have:j=k:=oo;subst this;exact HS.out
         . rw [DK ws k d];exact jA.2 ⟨E,qs,λa ha b hb=>by rw [gQ.1 hb];exact λe=>Z (e▸ha)⟩
    . have V:((ws[k].2.size:Int) != 128)=true:=by rw [iW];omega
      have HC:=zh (VO (n:=n) k d hs);clear hs;go_wp2_with fail;go_ret;rw [HC.out];exact ⟨rfl,HG.alloc _⟩
  . obtain rfl:ws.length=k:=oo
    have H1:Hid (∀e∈ws,e.2.size=128):=zh (λe he=>by
     obtain ⟨j,hj,rfl⟩:=jX.1 he
     exact C.out j hj hj)
    have H2:Hid ((ws.map (·.1)).Nodup):=zh (by have:=E.out;rw [iL (gM _)] at this;exact this);clear d;obtain ⟨wa,a2⟩:∃wa:World,wa=wr:=⟨_,rfl⟩;subst a2;go_wp2_with fail
    go_loopg [33] ws.length (λgk i wr=>∃k:Nat,k<=ws.length/\gk=ws.length - k/\i=.int .i64 k/\Grew W wr/\(∀j (hj:j<k) (hj2:j<ws.length),¬(ws[j].1<0\/(n:Int)<=ws[j].1)))
    case atStart=>exact ⟨0,oo,oo,rfl,HG,λj hj=>absurd hj oo⟩
    case round=>
     obtain ⟨k,a3,l,rfl,hg,O⟩:=hrel;have al:=zh l;have p:=zh hg;have G:=zh O;clear l hg O;by_cases d:k<ws.length
     . obtain ⟨b,a0,rfl,a1,c0,c1⟩:=IE (B.keep (gM _) p) d;have U:(k:Int)<(ws.length:Int):=oo;have hx:Blk (wr.alloc (.cells #[.int .i64 ws[k].1,.string ws[k].2] 65)) wr.heap.size 65 #[.int .i64 ws[k].1,.string ws[k].2]:=gZ wr _ _ rfl;have HX:=zh hx;have t:=zh (p.alloc (.cells #[.int .i64 ws[k].1,.string ws[k].2] 65));clear hx;go_wp2_with fail;refine AB [] (λw':World=>w'.cell? ⟨wr.heap.size,0,none⟩=some (.int .i64 ws[k].1)/\wr.heap.size<w'.heap.size) qk ?_;have hS:=(show (λw':World=>w'.cell? ⟨wr.heap.size,0,none⟩=some (.int .i64 ws[k].1)/\wr.heap.size<w'.heap.size) (wr.alloc (.cells #[.int .i64 ws[k].1,.string ws[k].2] 65)).drew from ⟨HX.drew.cell 0,HX.drew.lt⟩);by_cases q:ws[k].1<0
       . have g:decide (ws[k].1<0)=true:=iB q;have HC:=zh (MT (n:=n) H1 H2 k d (.inl q));refine tQ 0 37 ?_;refine tT 1 (some 38) hS ?_;refine tQ 2 39 ?_;refine tQ 3 40 ?_;refine tU 4 (some 41) ?_;refine tU 5 (some 42) ?_;refine tU 6 (some 43) ?_;refine tU 7 (some 44) ?_;refine tU 8 (some 45) ?_;refine tQ 9 46 ?_;refine AA qk ?_ _;go_wp2_with fail;go_ret;rw [HC.out];exact ⟨rfl,t.drew⟩
       . have g:decide (ws[k].1<0)=false:=iC q;refine tQ 0 37 ?_;refine tT 1 (some 38) hS ?_;refine tQ 2 39 ?_;refine tQ 3 40 ?_;refine tQ 4 41 ?_;refine tT 5 (some 42) hS ?_;refine tQ 6 43 ?_;refine tO 7 λK' hK=>?_;go_wp2_with fail;refine (z _ t.drew).mono ?_;rintro e w5 ⟨rfl,g5⟩;have H:=zh (t.drew.trans g5);have u:=HX.drew.grew g5;have I:=u.cell 0;have J:=u.lt;clear g5 u;go_wp2_with fail;refine hK.out _ _ (.inr (λ_=>⟨I,J⟩)) ?_;clear hK hS;have hS:=(show (λw':World=>w'.cell? ⟨wr.heap.size,0,none⟩=some (.int .i64 ws[k].1)/\wr.heap.size<w'.heap.size) w5 from ⟨I,J⟩);refine tQ 8 45 ?_;refine tQ 9 46 ?_;refine AA qk ?_ _;by_cases f:(n:Int)<=ws[k].1
         . have hib:decide ((n:Int)<=ws[k].1)=true:=iB f;have an:ws[k].1>=(n:Int):=f;have HC:=zh (MT (n:=n) H1 H2 k d (.inr f));clear f;go_wp2_with fail;go_ret;rw [HC.out];exact ⟨rfl,H⟩
         . have hib:decide ((n:Int)<=ws[k].1)=false:=iC f;have an:¬ws[k].1>=(n:Int):=f;have av:Hid (¬(ws[k].1<0\/(n:Int)<=ws[k].1)):=zh oo;clear f q;go_wp2_with fail
           go_roundg (ws.length - (k+1))
           case measure=>rw [al.out];omega
           case rel=>
            refine ⟨k+1,oo,oo,by go_num,H,λj hj hj2=>?_⟩;rcases it j k with h9 | h9
            . exact G.out j h9 hj2
            . have:j=k:=oo;subst this;exact av.out
     . obtain rfl:ws.length=k:=oo
       have HC:=zh (XC (n:=n) H1 H2 (λe he=>by
        obtain ⟨j,hj,rfl⟩:=jX.1 he
        exact G.out j hj hj))
       by_cases f:64<ws.length
       . have hb:(ws.length:Int)>64:=oo;rw [if_pos f] at HC;clear d;go_wp2_with fail;go_ret;rw [HC.out];exact ⟨rfl,p⟩
       . have hb:¬(ws.length:Int)>64:=oo;rw [if_neg f] at HC;clear d;go_wp2_with fail;go_ret;rw [HC.out];exact ⟨rfl,p⟩
end

end
section
open Go.RowKit
theorem Kt:(Tryz.prog.info? 65).map (λi=>(i.zero,i.size,i.bytes))=some (some (.agg #[.int .i64 0,.string ⟨#[]⟩]),2,24):=qk
theorem cd:∀(a b:List (Int × ByteArray)),a.Perm b->(a.Pairwise λx y=>x.1<y.1)->(b.Pairwise λx y=>x.1<y.1)->a=b:=by
 intro a
 induction a with
 | nil=>intro b hp _ _;exact hp.nil_eq
 | cons x a ih=>
   intro b hp ha hb;cases b with
   | nil=>exact absurd hp.length_eq qs
   | cons y b=>
     have c:x=y:=by
      have h1:x∈y::b:=hp.subset (iO ..);have h2:y∈x::a:=hp.symm.subset (iO ..);rcases jB.1 h1 with h1 | h1
      . exact h1
      . rcases jB.1 h2 with h2 | h2
        . exact h2.symm
        . have e1:=(jQ.1 ha).1 y h2;have e2:=(jQ.1 hb).1 x h1;omega
     subst c;rw [ih b ((perm_cons x).1 hp) (jQ.1 ha).2 (jQ.1 hb).2]
theorem We (n:Nat) (ws d:List (Int × ByteArray)) (hn:(ws.map (·.1)).Nodup) (hb:∀e∈ws,0<=e.1/\e.1<(n:Int)) (hp:d.Perm ws) (hs:d.Pairwise λa b=>¬b.1<a.1):d=wlI (Bw n ws):=by
 have f:ws.Nodup:=by
  have h:=hn;rw [Nodup,jh] at h;exact h.imp (λ{a b} hab e=>hab (by rw [e]))
 have c:(wlI (Bw n ws)).Pairwise λa b=>a.1<b.1:=by
  unfold wlI;rw [jh];exact (Hh n ws).imp (λ{a b} h=>oo)
 have g:(wlI (Bw n ws)).Perm ws:=by
  refine (perm_ext_iff_of_nodup (c.imp (λ{a b} h e=>by rw [e] at h;omega)) f).2 (λe=>?_);unfold wlI;rw [gV];constructor
  . rintro ⟨x,hx,rfl⟩;obtain ⟨h1,h2⟩:=(EO n ws x).1 hx;obtain ⟨y,hy,k⟩:=jk.1 h2;have h3:=List.find?_some hy;have h4:=List.mem_of_find?_eq_some hy;have:y=((x.1:Int),x.2):=Prod.ext (by simpa using h3) k;rw [<-this];exact h4
  . intro he;have l:=hb e he;refine ⟨(e.1.toNat,e.2),(EO n ws _).2 ⟨by show e.1.toNat<n;omega,?_⟩,Prod.ext (by show ((e.1.toNat:Nat):Int)=e.1;omega) rfl⟩;show (ws.find? λy=>y.1==((e.1.toNat:Nat):Int)).map (·.2)=some e.2;rw [show ((e.1.toNat:Nat):Int)=e.1 from oo,GX hn e he];rfl
 have i:d.Pairwise λa b=>a.1<b.1:=by
  have j:d.Pairwise λa b=>a.1≠b.1:=by
   have:=(hp.map (·.1)).nodup_iff.2 hn;rw [Nodup,jh] at this;exact this
  exact (hs.and j).imp (λ{a b} h=>oo)
 exact cd d _ (hp.trans g.symm) i c
attribute [local go_sem ↓] Go.wp_at_zero Go.wp_at_succ
theorem aq (A:Option Addr) (c n:Nat) (l:List (Int × ByteArray)) (w:World) (hn:n=l.length) (hl:l.length<=1000000) (hr:ListAt w w.heap.size 2 A (l.map BM)):
 Calls Tryz.prog 105 #[.slice A n c] w λe w'=>∃v,e=.returned v/\OwnL w' w.heap.size 65 2 v (l.map BM)/\Grew w w':=by
 subst hn;cases A with
 | none=>
   have h0:l=[]:=by
    rcases Nat.eq_zero_or_pos l.length with h0 | h0
    . exact jm.1 h0
    . obtain ⟨b,i,e,_⟩:=hr (by rw [gO];exact h0);cases e
   subst h0;have a:=λ(W:World)=>Lib.run_eql_slice_nil (P:=Tryz.prog) W 24 65 none 0 c 0 0 Tryz.underlying24;go_enter Tryz.func105,Tryz.ntmps105
   go_wp2
   go_ret;exact ⟨_,rfl,OwnL.nil _ _ _ _,gG⟩
 | some ad=>
   have a:=λ(W:World)=>Lib.run_eql_slice_nil (P:=Tryz.prog) W 24 65 (some ad) l.length c 0 0 Tryz.underlying24;have d:=ListAt.mono (B':=w.heap.size+1) (hr.keep (gM _) ((gK w).alloc (.cells #[] 65))) oo;go_enter Tryz.func105,Tryz.ntmps105;go_wp2_with (at_builtin;refine Be (by rfl) _ _ 24 rfl w.heap.size 65 2 24 _ Tryz.underlying24 Kt rfl qd _ [] (l.map BM) (by rfl) (OwnL.empty w _ _ _ (gM _) rfl) _ l.length _ (by rfl) qs (by intro r hr;obtain ⟨x,_,rfl⟩:=gV.1 hr;rfl) (by simpa using d) (by intro r hr;obtain ⟨x,_,rfl⟩:=gV.1 hr;rfl) (by simp;omega) (by simp;omega) qs ?_;intro v1 w3 f g h);go_ret;exact ⟨v1,rfl,f,Grew.own ((gK w).alloc _) g (by simp [Value.ownBlock]) (gM _)⟩

theorem Vw:∀(a b:List Nat),(a.Pairwise λx y=>x<y)->(b.Pairwise λx y=>x<y)->(∀x,x∈a↔x∈b)->a=b:=by
 intro a
 induction a with
 | nil=>
   intro b _ _ h;cases b with
   | nil=>rfl
   | cons y b=>exact absurd ((h y).2 (iO ..)) qs
 | cons x a ih=>
   intro b ha hb h;cases b with
   | nil=>exact absurd ((h x).1 (iO ..)) qs
   | cons y b=>
     obtain ⟨c,f⟩:=jQ.1 ha;obtain ⟨d,g⟩:=jQ.1 hb
     have e:x=y:=by
      rcases jB.1 ((h x).1 (iO ..)) with h1 | h1
      . exact h1
      . rcases jB.1 ((h y).2 (iO ..)) with h2 | h2
        . exact h2.symm
        . have:=c y h2;have:=d x h1;omega
     subst e
     rw [ih b f g (λz=>by
      have hz:=h z
      constructor
      . intro h9
        rcases jB.1 (hz.1 (iJ _ h9)) with h8 | h8
        . have:=c z h9;omega
        . exact h8
      . intro h9
        rcases jB.1 (hz.2 (iJ _ h9)) with h8 | h8
        . have:=d z h9;omega
        . exact h8)]
theorem Mi (S:Wl):(ksW S).Pairwise λx y=>x<y:=pairwise_lt_range.filter _
theorem Vm (S:Wl) (i:Nat) (hi:i<S.length) (h:S[i].1 / 32∈ksW (S.take i)):ksW (S.take (i+1))=ksW (S.take i):=by
 refine Vw _ _ (Mi _) (Mi _) (λx=>?_);rw [gU hi,CR,CR];constructor
 . rintro ⟨h1,e,he,hx⟩;rcases iA.1 he with he | he
   . exact ⟨h1,e,he,hx⟩
   . rw [gQ.1 he] at hx;rw [<-hx];exact (CR _ _).1 h
 . rintro ⟨h1,e,he,hx⟩;exact ⟨h1,e,ij _ he,hx⟩
theorem Va (S:Wl) (hS:S.Pairwise λa b=>a.1<b.1) (i:Nat) (hi:i<S.length) (c:S[i].1 / 32<32) (h:¬S[i].1 / 32∈ksW (S.take i)):ksW (S.take (i+1))=ksW (S.take i)++[S[i].1 / 32]:=by
 refine Vw _ _ (Mi _) (pairwise_append.2 ⟨Mi _,pairwise_singleton _ _,λa ha b hb=>?_⟩) (λx=>?_)
 . rw [gQ.1 hb];obtain ⟨_,e,he,hx⟩:=(CR _ _).1 ha;obtain ⟨j,hj,rfl⟩:=jX.1 he;rw [i8] at hj;rw [getElem_take] at hx;have h1:=jr.1 hS j i oo hi oo;have h2:S[j].1 / 32≠S[i].1 / 32:=λe9=>h (by rw [<-e9,hx];exact ha);omega
 . rw [gU hi,iA,gQ,CR,CR];constructor
   . rintro ⟨h1,e,he,hx⟩;rcases iA.1 he with he | he
     . exact .inl ⟨h1,e,he,hx⟩
     . rw [gQ.1 he] at hx;exact .inr hx.symm
   . rintro (⟨h1,e,he,hx⟩ | rfl)
     . exact ⟨h1,e,ij _ he,hx⟩
     . exact ⟨c,S[i],iX _ (gQ.2 rfl),rfl⟩
theorem Px (l:Wl) (q:Nat):(Ak l q).isSome=true↔∃e∈l,e.1=q:=by
 induction l with
 | nil=>simp [Ak]
 | cons e l ih=>
   unfold Ak;cases hq:Ak l q with
   | some s=>
     rw [hq] at ih;obtain ⟨e',h1,h2⟩:=ih.1 rfl;exact ⟨λ_=>⟨e',iJ _ h1,h2⟩,λ_=>rfl⟩
   | none=>
     rw [hq] at ih;constructor
     . intro h;by_cases a:q=e.1
       . exact ⟨e,iO ..,a.symm⟩
       . simp [a] at h
     . rintro ⟨e',h1,h2⟩;rcases jB.1 h1 with rfl | h1
       . simp [h2]
       . exact absurd (ih.2 ⟨e',h1,h2⟩) qs
def nm (E:Dev) (S:Wl) (v:U32) (i k j:Nat):U32:=if (Ak (S.take i) (32*k+j)).isSome=true then v else fld (mapI E k).data j
theorem dB (E:Dev) (S:Wl) (v:U32) (k j:Nat):nm E S v 0 k j=fld (mapI E k).data j:=by unfold nm;rw [take_zero];rfl
theorem fO (E:Dev) (S:Wl) (v:U32) (k:Nat):(List.range 32).map (nm E S v S.length k)=Es E S v k:=by
 unfold Es nm;rw [iL (gM _)]
theorem bz (E:Dev) (S:Wl) (v:U32) (i:Nat) (hi:i<S.length) (k j:Nat) (hj:j<32):nm E S v (i+1) k j=if k=S[i].1 / 32/\j=S[i].1 % 32 then v else nm E S v i k j:=by
 unfold nm
 have h1:(Ak (S.take (i+1)) (32*k+j)).isSome=true↔((Ak (S.take i) (32*k+j)).isSome=true\/S[i].1=32*k+j):=by
  rw [Px,Px,gU hi];constructor
  . rintro ⟨e,he,hq⟩;rcases iA.1 he with he | he
    . exact .inl ⟨e,he,hq⟩
    . rw [gQ.1 he] at hq;exact .inr hq
  . rintro (⟨e,he,hq⟩ | hq)
    . exact ⟨e,ij _ he,hq⟩
    . exact ⟨S[i],iX _ (gQ.2 rfl),hq⟩
 have h2:S[i].1=32*k+j↔(k=S[i].1 / 32/\j=S[i].1 % 32):=oo;by_cases h3:(Ak (S.take i) (32*k+j)).isSome=true
 . rw [if_pos (h1.2 (.inl h3)),if_pos h3];split<;>rfl
 . rw [if_neg h3];by_cases h4:k=S[i].1 / 32/\j=S[i].1 % 32
   . rw [if_pos h4,if_pos (h1.2 (.inr (h2.2 h4)))]
   . rw [if_neg h4,if_neg (λh9=>(h1.1 h9).elim h3 (λh8=>h4 (h2.1 h8)))]
def Wy (ks:List Nat) (bk:Nat->Nat):Int->Option Value:=λa=>if 0<=a/\a.toNat∈ks then some (ptrV (bk a.toNat)) else none
theorem Mm (ks:List Nat) (bk:Nat->Nat) (k:Nat):Wy ks bk (k:Int)=if k∈ks then some (ptrV (bk k)) else none:=by
 unfold Wy;rw [iM];by_cases h:k∈ks
 . rw [if_pos ⟨oo,h⟩,if_pos h]
 . rw [if_neg (λh9=>h h9.2),if_neg h]
structure MapsM (w:World) (lo mm:Nat) (ks:List Nat) (bk:Nat->Nat) (V:Nat->Nat->U32):Prop where
 map:MapI w mm (Wy ks bk)
 lm:lo<=mm
 low:∀k∈ks,lo<=bk k
 blk:∀k∈ks,Blk w (bk k) 185 (AC (V k))
 inj:∀k∈ks,∀k'∈ks,bk k=bk k'->k=k'
theorem MapsM.kept {w w':World} {lo mm:Nat} {ks:List Nat} {bk:Nat->Nat} {V:Nat->Nat->U32} (h:MapsM w lo mm ks bk V) {S:Nat->Prop} (ht:Turned S w w') (hm:¬S mm) (hS:∀k∈ks,¬S (bk k)):MapsM w' lo mm ks bk V:=
 ⟨h.map.turned ht hm,h.lm,h.low,λk hk=>(h.blk k hk).turned ht (hS k hk),h.inj⟩
theorem MapsM.grew {w w':World} {lo mm:Nat} {ks:List Nat} {bk:Nat->Nat} {V:Nat->Nat->U32} (h:MapsM w lo mm ks bk V) (hg:Grew w w'):MapsM w' lo mm ks bk V:=h.kept (hg.turned (λ_=>False)) (λh=>h) (λ_ _ h=>h)
theorem MapsM.lookd {w w':World} {lo mm m:Nat} {ks:List Nat} {bk:Nat->Nat} {V:Nat->Nat->U32} (h:MapsM w lo mm ks bk V) (ht:Turned (λq=>q=m) w w') (hm:m<lo):MapsM w' lo mm ks bk V:=h.kept ht (by have:=h.lm;omega) (λk hk e=>by have:=h.low k hk;omega)
theorem MapsM.own {w w':World} {lo mm base e sz:Nat} {v:Value} {rows:List (List Value)} {ks:List Nat} {bk:Nat->Nat} {V:Nat->Nat->U32} (h:MapsM w lo mm ks bk V) (ho:OwnL w base e sz v rows) (hne:e≠185) (hg:w.grownBy w' v.ownBlock):MapsM w' lo mm ks bk V:=
 h.kept (S:=λq=>v.ownBlock=some q) ⟨hg.os,hg.tape,hg.output,hg.size,λk hk hn=>hg.block k hk (λe9=>hn e9.symm)⟩ (λe9=>DX ho h.map e9) (λk hk e9=>ho.ne_blk (h.blk k hk) hne e9)
theorem MapsM.snoc {w w':World} {lo mm b k:Nat} {ks:List Nat} {bk:Nat->Nat} {V:Nat->Nat->U32} {X:Nat->U32} (h:MapsM w lo mm ks bk V) (hk:¬k∈ks) (g:lo<=b) (hb:Blk w b 185 (AC X)) (f:∀j∈ks,¬bk j=b) (hm:MapI w' mm (upd (Wy ks bk) (k:Int) (some (ptrV b)))) (ht:Turned (λq=>q=mm) w w'):
 MapsM w' lo mm (ks++[k]) (λj=>if j=k then b else bk j) (λj=>if j=k then X else V j):=by
 have d:∀j∈ks,¬j=k:=λj hj e=>hk (e▸hj);refine ⟨hm.congr (λa=>?_),h.lm,λj hj=>?_,λj hj=>?_,λj hj j' c he=>?_⟩
 . by_cases ha:a=(k:Int)
   . subst ha;rw [Ea,Mm,if_pos qs,if_pos rfl]
   . rw [Ey _ _ ha];unfold Wy;by_cases h1:0<=a/\a.toNat∈ks
     . rw [if_pos h1,if_pos ⟨h1.1,ij _ h1.2⟩];show _=some (ptrV (if a.toNat=k then b else bk a.toNat));rw [if_neg oo]
     . rw [if_neg h1,if_neg];rintro ⟨h2,h3⟩;rcases iA.1 h3 with h3 | h3
       . exact h1 ⟨h2,h3⟩
       . have:=gQ.1 h3;omega
 . rcases iA.1 hj with hj | hj
   . show lo<=if j=k then b else bk j;rw [if_neg (d j hj)];exact h.low j hj
   . rw [gQ.1 hj];show lo<=if k=k then b else bk k;rw [if_pos rfl];exact g
 . rcases iA.1 hj with hj | hj
   . simp only [if_neg (d j hj)];exact (h.blk j hj).turned ht (Cn (h.blk j hj) h.map)
   . rw [gQ.1 hj];simp only [if_true];exact hb.turned ht (Cn hb h.map)
 . change (if j=k then b else bk j)=(if j'=k then b else bk j') at he;rcases iA.1 hj with hj | hj<;>rcases iA.1 c with c | c
   . rw [if_neg (d j hj),if_neg (d j' c)] at he;exact h.inj j hj j' c he
   . rw [gQ.1 c] at he ⊢;rw [if_neg (d j hj),if_pos rfl] at he;exact absurd he (f j hj)
   . rw [gQ.1 hj] at he ⊢;rw [if_pos rfl,if_neg (d j' c)] at he;exact absurd he.symm (f j' c)
   . rw [gQ.1 hj,gQ.1 c]
theorem MapsM.store {w:World} {lo mm k j:Nat} {ks:List Nat} {bk:Nat->Nat} {V:Nat->Nat->U32} (h:MapsM w lo mm ks bk V) (hk:k∈ks) (v:U32):MapsM (w.setCell ⟨bk k,j,none⟩ (.int .u32 (u32 v))) lo mm ks bk (λk' i=>if k'=k/\i=j then v else V k' i):=by
 have hT:Turned (λq=>q=bk k) w (w.setCell ⟨bk k,j,none⟩ (.int .u32 (u32 v))):=(iR (λq=>q=bk k) w).setCell (p:=⟨bk k,j,none⟩) (λ_=>rfl) _;refine ⟨h.map.turned hT (λe=>Cn (h.blk k hk) h.map e.symm),h.lm,h.low,λk' hk'=>?_,h.inj⟩;by_cases b:k'=k
 . subst b;have:=(h.blk k' hk').set_ j (.int .u32 (u32 v));rw [IO] at this;refine this.conv (BP λi _=>?_);by_cases a:i=j
   . rw [if_pos a,if_pos ⟨rfl,a⟩]
   . rw [if_neg a,if_neg (λh9=>a h9.2)]
 . have:=(h.blk k' hk').turned hT (λe=>b (h.inj k' hk' k hk e));exact this.conv (BP λi _=>by rw [if_neg (λh9=>b h9.1)])
theorem MapsM.conv {w:World} {lo mm:Nat} {ks:List Nat} {bk:Nat->Nat} {V V':Nat->Nat->U32} (h:MapsM w lo mm ks bk V) (e:∀k∈ks,∀j,j<32->V k j=V' k j):MapsM w lo mm ks bk V':=
 ⟨h.map,h.lm,h.low,λk hk=>(h.blk k hk).conv (BP λj hj=>e k hk j hj),h.inj⟩

end
section
attribute [local go_sem ↓] Go.wp_at_zero Go.wp_at_succ
open Go.RowKit Go.Shelf Go.Lib
abbrev EltW:=Fin 1024 × ByteArray
def Gv (a:EltW):List Value:=[.int .i64 ((a.1.1:Nat):Int),.string a.2]
def Xr (x y:EltW):Int:=((x.1.1:Nat):Int) - ((y.1.1:Nat):Int)
theorem Mp (x y:EltW):Go.Proofs.ltOf Xr x y=true↔x.1.1<y.1.1:=by
 unfold Go.Proofs.ltOf Xr;rw [iV];omega
theorem swW:Go.Sort.SWO (Go.Proofs.ltOf Xr) where
 irrefl x:=by
  cases h:Go.Proofs.ltOf Xr x x with
  | false=>rfl
  | true=>have:=(Mp x x).1 h;omega
 trans x y z h1 h2:=by
  rw [Mp] at h1 h2 ⊢;omega
 ntrans x y z h1 h2:=by
  rw [<-jE] at h1 h2 ⊢;rw [Mp] at h1 h2 ⊢;omega
def toW (e:Int × ByteArray):EltW:=(⟨e.1.toNat % 1024,jx _ qd⟩,e.2)
def ofW (a:EltW):Int × ByteArray:=(((a.1.1:Nat):Int),a.2)
theorem eT (e:Int × ByteArray) (h:0<=e.1/\e.1<1024):ofW (toW e)=e:=by
 unfold ofW toW;refine Prod.ext ?_ rfl;show ((e.1.toNat % 1024:Nat):Int)=e.1;omega
theorem eP (x y:EltW) (W:World):Calls Tryz.prog 107 #[.agg (Gv x).toArray,.agg (Gv y).toArray] W λe w'=>e=.returned (.int .i64 (Xr x y))/\∃q os',w'=Go.Sort.grow (W.drewN q) os':=by
 obtain ⟨⟨a,ha⟩,s⟩:=x;obtain ⟨⟨b,hb⟩,t⟩:=y;show Calls Tryz.prog 107 #[.agg #[.int .i64 (a:Int),.string s],.agg #[.int .i64 (b:Int),.string t]] W _;have c:-1024<=(a:Int) - (b:Int)/\(a:Int) - (b:Int)<=1024:=oo;go_enter Tryz.func107,Tryz.ntmps107;go_wp2_with fail;go_ret;exact ⟨rfl,0,_,by rw [Go.Sort.alloc_eq_grow,Go.Sort.alloc_eq_grow,Go.Sort.grow_grow];rfl⟩
theorem M6 (w:World) (g m:Nat) (d:Array EltW) (os:Array Obj):Turned (λi=>i=g) w (Go.Proofs.sortWorldK Gv 2 w g 0 m d os):=by
 refine ⟨rfl,rfl,rfl,?_,λk hk hs=>?_⟩
 . exact Go.Proofs.size_sortWorldK_c Gv 2 w g 0 m d os
 . unfold Go.Proofs.sortWorldK Go.Sort.grow Go.Sort.putRowK Go.Sort.putRow Go.Sort.mapBlock Go.Sort.ahead;show (w.heap.modify g _++os)[k]? =w.heap[k]?;rw [Array.getElem?_append_left (by rw [Array.size_modify];exact hk),jd,if_neg (λe=>hs e.symm)]
theorem Q7 (d:Array EltW) (i:Nat) (h:i<d.size):d[i]! =d.toList[i]'(by rw [ig];exact h):=by
 rw [getElem!_pos d i h,Array.getElem_toList]
theorem VP {w:World} {base g cap:Nat} {N:List EltW} (h:OwnL w base 65 2 (.slice (some ⟨g,0,none⟩) N.length cap) (N.map Gv)):Go.Sort.HoldsK Gv 2 w g 0 N.toArray:=by
 intro t ht;have a:t<N.length*2:=by simpa using ht
 have hj:t / 2<N.length:=oo;rw [Go.Sort.get_flatK _ _ _ _ (by simpa using a),ji]
 have b:(N.toArray)[t / 2]! =N[t / 2]:=by
  rw [getElem!_pos _ _ (by simpa using hj)];simp
 have c:(N.map Gv)[t / 2]? =some (Gv N[t / 2]):=by rw [gP,gJ hj];rfl
 rw [b];refine ⟨?_,h.frozen t⟩;have hm:t=t / 2*2+t % 2:=oo;have d:t % 2<2:=jx _ qd
 have hu:(Gv N[t / 2])[t % 2]? =some ((Gv N[t / 2])[t % 2]!):=by
  have e:(Gv N[t / 2]).length=2:=rfl;rw [gJ oo,getElem!_pos _ _ oo]
 have:=h.cell (j:=t / 2) (i:=t % 2) c hu;rwa [<-hm] at this
theorem eE {w:World} {g:Nat} {d:Array EltW} (h:Go.Sort.HoldsK Gv 2 w g 0 d) (hg:g<w.heap.size):ListAt w w.heap.size 2 (some ⟨g,0,none⟩) (d.toList.map Gv):=by
 refine λ_=>⟨g,0,rfl,hg,λj cs hj i v hi=>?_⟩;rw [gP] at hj;cases hx:d.toList[j]? with
 | none=>rw [hx] at hj;cases hj
 | some x=>
   rw [hx] at hj;have f:j<d.toList.length:=(iG.1 hx).1;have b:j<d.size:=by rw [<-ig];exact f
   injection hj with hj;have e:cs=Gv x:=hj.symm;have a:i<cs.length:=(iG.1 hi).1;have k:i<2:=by rw [e] at a;exact a
   have hc:=(h.cell (i:=j) (c:=i) b k).1
   have l:d[j]! =x:=by
    rw [Q7 d j b];exact (iG.1 hx).2
   rw [l,<-e,getElem!_pos cs i a] at hc;rw [hc,(iG.1 hi).2]
theorem Xx (g cap n:Nat) (ws:List (Int × ByteArray)) (hl:0<ws.length/\ws.length<=100000) (hn:(ws.map (·.1)).Nodup) (hb:∀e∈ws,0<=e.1/\e.1<(n:Int)) (s:n<=1024) (w:World) (base:Nat) (b:OwnL w base 65 2 (.slice (some ⟨g,0,none⟩) ws.length cap) (ws.map BM)):
 Calls Tryz.prog 106 #[.slice (some ⟨g,0,none⟩) ws.length cap,.func (.func 107) #[] #[]] w λe w'=>e=.returned (.tuple #[])/\Turned (λi=>i=g) w w'/\ListAt w' w'.heap.size 2 (some ⟨g,0,none⟩) ((wlI (Bw n ws)).map BM):=by
 obtain ⟨N,hN⟩:∃N:List EltW,ws.map toW=N:=⟨_,rfl⟩;have f:N.length=ws.length:=by rw [<-hN,gO]
 have o:N.map Gv=ws.map BM:=by
  rw [<-hN,jM];apply ie;intro e he;have:=hb e he;show BM (ofW (toW e))=BM e;rw [eT e ⟨this.1,oo⟩]
 have p:N.map ofW=ws:=by
  rw [<-hN,jM];conv=>rhs;rw [<-List.map_id ws]
  apply ie;intro e he;have:=hb e he;exact eT e ⟨this.1,oo⟩
 rw [<-o,<-f] at b;rw [<-f];have hg:g<w.heap.size:=(b.own_ge rfl).2;have hH:=VP b;have a:N.toArray.size=N.length:=qs;have h:N.toArray.toList=N:=qs;obtain ⟨d,hd⟩:∃d,N.toArray=d:=⟨_,rfl⟩;rw [hd] at hH a h;have eg:∀args w,(callFunc 107 args).run Tryz.prog w=.ok (.enter 107 args) w:=BV Tryz.func107 qk qk;have c:=Go.Proofs.AnyQ.slices_SortFunc ey 2 Tryz.isAgg65 Tryz.sizeOf65 Gv (λ_=>rfl) (λx v hv=>by simp [Gv] at hv;rcases hv with rfl | rfl<;>rfl) Xr swW 107 #[] g 0 cap d w eg (λm os dk hs x y=>eP x y _) hH hg (by rw [a];omega);change Calls Tryz.prog 106 _ _ _ at c;rw [a] at c;refine c.mono ?_;rintro e w' ⟨rfl,d',n',os,hp,hs,rfl⟩;refine ⟨rfl,M6 w g n' d' os,?_⟩;have k:d'.size=d.size:=hp.1;have hh:=eE (d:=d') (Go.Proofs.holdsK_sortWorldK_c Gv 2 w g 0 d d' n' os hH hg k) (gW hg (Go.Proofs.size_sortWorldK_c Gv 2 w g 0 n' d' os))
 have he:d'.toList.map ofW=wlI (Bw n ws):=by
  refine We n ws _ hn hb ?_ ?_
  . have h3:=hp.2.2;rw [<-a,Array.extract_size,<-k,Array.extract_size] at h3;have h4:=(h3.map ofW);rw [h,p] at h4;exact h4
  . rw [jh,jr];intro i j hi hj r l;rw [ig] at hi hj;have h4:=hs i j (ia _) r oo;rw [Q7 d' j hj,Q7 d' i hi] at h4;rw [(Mp _ _).2 (by unfold ofW at l;simp only at l;omega)] at h4;cases h4
 have q:d'.toList.map Gv=(wlI (Bw n ws)).map BM:=by
  rw [<-he,jM];rfl
 rw [q] at hh;exact hh

end
end Go.Proofs.YtfklieeipokllaaGreat
