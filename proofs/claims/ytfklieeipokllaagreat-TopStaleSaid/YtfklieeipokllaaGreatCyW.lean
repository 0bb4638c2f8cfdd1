/- Parts of the proof (packed), 23. -/
import Derived.Test.YtfklieeipokllaaGreatCyV
namespace Go.Proofs.YtfklieeipokllaaGreat
set_option linter.all false
set_option maxRecDepth 100000
set_option maxHeartbeats 16000000
open List
section
open Go.Maps (Keyed)
open Go.RowKit Go.MapKept Go.Deep
def ID (p:Int × Int):Value:=.agg #[.int .i64 p.1,.int .i64 p.2]
theorem Ph (a b:Int × Int) (h:ID a=ID b):a=b:=by
 unfold ID at h;injection h with h;simp at h;exact Prod.ext h.1 h.2
theorem O3:Keyed Tryz.prog 32:=Keyed.of_law (deep_law_laid qk (m:=2) oo (gV qk) qk qk)
theorem R2:Tryz.prog.keyType 32=true:=qk
theorem PV:Tryz.prog.cellsOf 32=2:=qk
theorem Vo (p:Int × Int) (ha:okI p.1) (hb:okI p.2):∃x,keyOf Tryz.prog 32 (ID p)=some x:=by
 obtain ⟨a,b⟩:=p;have wa:(Lit.int .i64 a).wf=true:=WalkArith.wf_i64 ha;have wb:(Lit.int .i64 b).wf=true:=WalkArith.wf_i64 hb;obtain ⟨m,hm⟩:=PF;refine ⟨.string (keyBytes [.int .i64 a,.int .i64 b]),?_⟩;unfold keyOf ID;simp only [Tryz.underlying32];rw [if_pos (by simp [R2,Value.formed,Tryz.underlying32,PV]),hm];unfold Program.keyLits;simp only [Tryz.underlying32,Value.cells];rw [if_pos (by rw [PV];exact ⟨rfl,qk⟩)];simp [Program.keyLits,Tryz.underlying3,O2,wa,wb]
theorem Pp (w:World):(zeroValue 60).run Tryz.prog w=.ok (.slice none 0 0) w:=qk

end
section
attribute [local go_sem ↓] Go.wp_at_zero Go.wp_at_succ
open Go.RowKit
theorem okN {n:Nat} (h:okT (n:Int)=true):4<=n/\n<=128/\ttS (n:Int)≠0:=by
 obtain ⟨h1,h2⟩:=B0 h;unfold ttS;rw [if_pos h];omega
theorem RW (n:Nat) (hn:okT (n:Int)=true) (w:World):Calls Tryz.prog 26 #[.int .i64 (n:Int)] w λe w'=>∃x,e=.returned (.tuple #[ptrV x,.int .i64 0])/\Live w x (ES (131+8*n)) (λ_=>False) w':=by
 obtain ⟨h1,h2,h3⟩:=okN hn;have a:IntKind.i64.wrap ((n:Int)*8)=(n:Int)*8:=gy _ oo;have b:IntKind.i64.wrap (131+(n:Int)*8)=131+(n:Int)*8:=gy _ oo;have hb:(ttS (n:Int)==0)=false:=gF.2 h3;have HN:=zh (Zi (131+8*n) w oo oo);rw [show ((131+8*n:Nat):Int)=131+(n:Int)*8 from oo] at HN;clear h3 hn;go_enter Tryz.func26,Tryz.ntmps26;go_wp2_with fail;refine (B6 (n:Int) w).mono ?_;rintro e w1 ⟨rfl,rfl⟩;go_wp2_with fail;refine HN.mono ?_;rintro e w1 ⟨x,rfl,hl⟩;have HL:=zh hl;clear hl;go_wp2_with fail;go_ret2;exact ⟨x,rfl,HL⟩
theorem KY {w0:World} {x:Nat} {D:Dev} {out:Nat->Prop} {W:World} (h:Live w0 x D out W) (n:Nat) (hn:okT (n:Int)=true) (hl:D.st.length=131+8*n):Calls Tryz.prog 70 #[ptrV x] W λe w'=>e=.returned (.int .i64 (n:Int))/\W=w':=by
 obtain ⟨h1,h2,h3⟩:=okN hn;have HS:=zh (DD h);obtain ⟨k,hk⟩:∃k,D.st.length=k:=⟨_,rfl⟩;obtain ⟨p,hp⟩:∃p,p=8*n:=⟨_,rfl⟩;rw [hk] at HS hl;have a:IntKind.i64.wrap ((k:Int) - 131)=(p:Int):=by rw [gy _ oo];omega
 have b:decide ((p:Int)<0)=false:=gE oo;have c:Int.tmod (p:Int) 8=0:=by rw [jI oo];omega
 have d:(p:Int) % 8=0:=oo;have f:Int.tdiv (p:Int) 8=(n:Int):=by rw [Int.tdiv_eq_ediv_of_nonneg oo];omega
 have g:(p:Int) / 8=(n:Int):=oo;have i:IntKind.i64.wrap (n:Int)=(n:Int):=gy _ oo;have hb:(ttS (n:Int)==0)=false:=gF.2 h3;have hx:x<W.heap.size:=by obtain ⟨q,hq,hd,_⟩:=h;exact hd.feet_lt x (.inl hq.symm)
 clear hk hp hl h3 hn h;go_enter Tryz.func70,Tryz.ntmps70;go_wp2_with fail;refine HS.mono ?_;rintro e w1 ⟨rfl,rfl⟩;go_wp2_with fail;refine (B6 (n:Int) _).mono ?_;rintro e w1 ⟨rfl,rfl⟩;go_wp2_with fail;go_ret;exact ⟨rfl,rfl⟩
theorem Wk (a b:Nat):FB a++FB b=FB (a+b):=by
 apply E1;rw [ByteArray.data_append,Array.toList_append];show List.replicate a _++List.replicate b _=List.replicate (a+b) _;rw [List.replicate_append_replicate]
theorem Wg (m i j:Nat) (h:j<=m):(FB m).extract i j=FB (j - i):=by
 apply E1;rw [Eb];show ((List.replicate m (0:UInt8)).drop i).take (j - i)=List.replicate (j - i) 0;rw [drop_replicate,take_replicate,Nat.min_eq_left oo]
theorem aH (s:ByteArray) (t:Int) (ho:okT t=true) (hn:Cj s=true):∃T,Nm s t=(T,0)/\GoodT T:=by
 refine ⟨_,by unfold Nm;rw [if_pos ⟨ho,hn⟩],ho,hn,?_,?_,?_,?_⟩
 . rw [i0];exact (PT t).1
 . intro l hl;exact .inl (by rw [(jQ.1 hl).2];exact (Fj _).2 rfl)
 . have:Bz (List.replicate (CT t).toNat BH)=[]:=by
    unfold Bz;rw [filter_eq_nil_iff.2 (λl hl=>by rw [(jQ.1 hl).2,(Fj BH).2 rfl];decide)];rfl
   show (Bz _).Nodup;rw [this];exact nodup_nil
 . have:Bo (List.replicate (CT t).toNat BH)=[]:=by
    unfold Bo;rw [flatMap_eq_nil_iff];intro l hl;rw [(jQ.1 hl).2];rfl
   show (BP (Bo _)).Nodup;rw [this];exact nodup_nil
theorem Zr (nm:ByteArray) (n:Nat) (ho:okT (n:Int)=true) (hn:Cj nm=true) (L:Nat):∃x:ByteArray,x.size<=128/\∀k,k<=L->Ei ⟨nm,n,List.replicate L BH⟩ k=x++FB (1024*(k+1) - x.size):=by
 have hs:nm.size<=8:=by
  unfold Cj at hn;exact (gV hn).2.1
 refine ⟨eB nm.size++nm++eB (n:Int).toNat,?_,?_⟩
 . rw [f8,f8];have:=Bf nm.size;have:=Bf (n:Int).toNat;omega
 obtain ⟨x,hx⟩:∃x,eB nm.size++nm++eB (n:Int).toNat=x:=⟨_,rfl⟩
 have b:x.size<=128:=by
  rw [<-hx,f8,f8];have:=Bf nm.size;have:=Bf (n:Int).toNat;omega
 rw [hx];intro k
 induction k with
 | zero=>
   intro _;rw [GK];unfold CG;rw [if_pos ⟨hn,ho⟩];show Ef 1024 (eB nm.size++nm++eB (n:Int).toNat)=_;rw [hx];rfl
 | succ k ih=>
   intro hk;have a:k<(List.replicate L BH).length:=by rw [i0];omega
   rw [F7 _ k a,ih oo]
   have e:Cw (List.replicate L BH)[k] (n:Int)=FB 1024:=by
    rw [List.getElem_replicate];unfold Cw;rw [if_pos ⟨ho,(I4 BH BH).2 rfl⟩];show ByteArray.empty++FB (1024 - 0)=_;rw [jV]
   show _++Cw (List.replicate L BH)[k] (n:Int)=_;rw [e,im,Wk];congr 2;omega
theorem Su (nm:ByteArray) (n:Nat) (ho:okT (n:Int)=true) (hn:Cj nm=true):∃T,Nm nm n=(T,0)/\GoodT T/\T.tracks=(n:Int)/\∀i (h:i<(AP T).length),0<i->(AP T)[i]=Ay 128:=by
 obtain ⟨T,hT,hg⟩:=aH nm n ho hn;have a:=hT;unfold Nm at hT;rw [if_pos ⟨ho,hn⟩] at hT;injection hT with hT _;refine ⟨T,a,hg,by rw [<-hT],λi h h0=>?_⟩;have d:=(Cn hg).1;obtain ⟨x,hx,hb⟩:=Zr nm n ho hn (CT n).toNat
 have b:Ei T T.labels.length=x++FB (1024*(T.labels.length+1) - x.size):=by
  have:=hb T.labels.length (by rw [<-hT];show (List.replicate _ BH).length<=_;rw [i0];exact fk _);rw [<-this,<-hT]
 have c:=Dd T ((AX T).2 hg) _ rfl;have e:i<8*(T.labels.length+1):=by rw [<-c.1];exact h
 have e1:AP T=EG (Ei T T.labels.length):=by unfold AP;rw [if_pos ((AX T).2 hg)]
 simp only [e1];rw [GC,b,Sj _ _ _ _ oo,Wg _ _ _ oo,show 128*i+128 - x.size - (128*i - x.size)=128 from oo];rfl
def Hn (T:Tab):List (Int × ByteArray):=[(0,(AP T).getD 0 ⟨#[]⟩)]
theorem Zu {E:Dev} {n:Nat} (ho:okT (n:Int)=true) (hh:Hist E (Ke (8*n))) (hn:Neat E (Ke (8*n))) {T:Tab} (hg:GoodT T) (ht:T.tracks=(n:Int)) (hz:∀i (h:i<(AP T).length),0<i->(AP T)[i]=Ay 128) {sy:Int} (hs:1<=sy/\sy<=4):
 (Ak E sy 0 (Hn T)).2=0/\VGood (Ak E sy 0 (Hn T)).1 ((Ke (8*n)).next (Hn T)) T n/\((Ke (8*n)).next (Hn T)).N=2:=by
 obtain ⟨h1,h2,_⟩:=okN ho;obtain ⟨g1,g2⟩:=Cn hg;have g3:=DQ T.tracks
 have c:1<=ttS T.tracks:=by
  have h5:=hg.tr;unfold ttS;rw [if_pos h5];omega
 have a:0<(AP T).length:=by rw [g1];omega
 have d:(AP T).length<=8*n:=by
  have h4:ttS T.tracks<=(n:Int):=by unfold ttS;rw [if_pos hg.tr];omega
  rw [g1];omega
 have e0:(AP T).getD 0 ⟨#[]⟩=(AP T)[0]:=by rw [gH,fg a];rfl
 have b:AU (Ke (8*n)).n (Hn T)=0:=by
  unfold Hn;rw [e0];unfold AU;rw [if_neg,if_neg,if_neg]
  . simp
  . show ¬([((0:Int),(AP T)[0])].any λe=>decide (e.1<0\/((8*n:Nat):Int)<=e.1))=true;simp;omega
  . simp only [any_cons,any_nil,Bool.or_false,map_cons,map_nil,gm,not_or,iL];exact ⟨g2 _ (fq a),qs⟩
 obtain ⟨c1,_,c3⟩:=EN hh hn hs (Hn T) (by show 1<1000;omega);obtain ⟨c4,c5⟩:=c3 b;refine ⟨c1.trans b,⟨c4,c5,by rw [Tn];rfl,ht,hg,λi hi=>?_⟩,?_⟩
 . rw [I7 i (by show i<8*n;omega)];unfold Hn;by_cases h0:i=0
   . subst h0;rw [e0];rfl
   . rw [G9 (λe he=>by rw [fp.1 he];show (0:Int)≠i;omega)];show Ay 128=_;rw [hz i hi oo]
 . rw [LX,if_neg (by unfold Hn;simp)];rfl

theorem QR {w0:World} {out o1:Nat->Prop} {a b c:World} (hs:∀k,out k->o1 k) (h:Beside w0 out a b) (k:Beside w0 o1 b c):Beside w0 out a c:=h.trans (k.mono λ_ _ hk=>⟨hk.1,λh9=>hk.2 (hs _ h9)⟩)
theorem SS {w0:World} {x n:Nat} {out:Nat->Prop} {W:World} (h:Live w0 x (ES (131+8*n)) out W) (hn:okT (n:Int)=true) (nm:ByteArray) (C:Cj nm=true) (T:Tab) (hT:Nm nm n=(T,0)) (hg:GoodT T) (ht:T.tracks=(n:Int)) (hz:∀i (h:i<(AP T).length),0<i->(AP T)[i]=Ay 128):
 Calls Tryz.prog 27 #[ptrV x,.agg #[.int .i64 1,.int .i64 0],.string nm] W λe w'=>e=.returned (.int .i64 0)/\∃E I,VGood E I T n/\I.N=2/\Live w0 x E out w'/\Beside w0 out W w':=by
 obtain ⟨h1,h2,_⟩:=okN hn;have p:(ES (131+8*n)).st.length=131+8*n:=by unfold ES;simp
 have R:Calm (ES (131+8*n)) 1 0:=⟨P9 _ oo oo,rfl,by unfold DA;decide,by show ¬(0:Int)<0;omega⟩;obtain ⟨E,hE,a,bd,bf⟩:=QC (n:=8*n) R rfl rfl p oo oo;have S:=ZX oo oo hE a;have D:Neat E (Ke (8*n)):=⟨a,by rw [bd];rfl,bf⟩;obtain ⟨c1,c2,c3⟩:=Zu hn S D hg ht hz (sy:=1) oo
 have bk:nm.size<=9223372036854775807:=by
  unfold Cj at C;have:=(gV C).2.1;omega
 have bl:=zh (λ(w1:World) (hg:Grew W w1)=>KY (h.grew hg) n hn p);have bn:=zh (λ(w1:World)=>aZ nm n w1 bk oo oo T 0 hT);have F:=zh (λ(o:Nat->Prop) (w1:World) (hl:Live w0 x (ES (131+8*n)) o w1)=>UG hl (by rw [p];omega) (sy:=1) (ep:=0) oo oo (by show 0<=900000;omega));rw [hE] at F;have U:132<=E.st.length/\E.st.length<=1155:=by rw [a.len];show 132<=131+8*n/\131+8*n<=1155;omega
 have V:E.pend.length<=980000:=by rw [a.pend];simp
 have X:=Lq a 1 0 (by unfold IG DA;simp;omega);have bo:=zh (λ(o:Nat->Prop) (w1:World) (hl:Live w0 x E o w1)=>Pk hl U (by omega:(1:Int)<=1/\(1:Int)<=4) (by omega:(0:Int)<=0/\(0:Int)<=1099511627776) V E X);have br:=zh (λ(s m:Nat)=>Gl D (by show 1<1000;omega) (x:=x) (s:=s) (m:=m) (sy:=1) oo);have bs:=zh (Bd hg);have HC:=zh (show (Ak E 1 0 (Hn T)).2=0/\VGood (Ak E 1 0 (Hn T)).1 ((Ke (8*n)).next (Hn T)) T n/\((Ke (8*n)).next (Hn T)).N=2 from ⟨c1,c2,c3⟩);have Y:Grew W (W.alloc (.cells #[.int .i64 1,.int .i64 0] 37)):=(fh W).alloc _;have Z:=fy W 37 #[.int .i64 1,.int .i64 0] rfl;have aa:=zh Y;have ad:=zh Z;have HL:=zh h;obtain ⟨g1,g2⟩:=Cn hg
 have ae:0<(AP T).length:=by
  have:1<=ttS T.tracks:=by have:=hg.tr;unfold ttS;rw [if_pos this];have:=B0 this;omega
  rw [g1];omega
 have aj:=zh ae;clear h hn C hT hg ht hz p R hE a bd bf S D c1 c2 c3 U V X Y Z g1 g2 ae;go_enter Tryz.func27,Tryz.ntmps27;go_wp2_with fail;refine (bl _ aa).mono ?_;rintro e w1 ⟨rfl,rfl⟩;go_wp2_with fail;refine (bn _).mono ?_;rintro e w2 ⟨A,c,xs,rfl,M,g2,a7,a8⟩;have t:Grew w2 (w2.alloc (.cells #[.string T.name,.int .i64 T.tracks,.slice A T.labels.length c] 50)):=(fh w2).alloc _;have G:=zh ((aa.out.trans g2).trans t);have H:=zh (show W.heap.size+1<=w2.heap.size from by have:=g2.size;simpa using this);have al:=zh (show TabIn (λk=>W.heap.size<=k/\k<w2.heap.size) A xs from (M.lt (P:=λk=>W.heap.size<=k) ⟨λ_ b off e=>by have:=a7 b off e;simp at this;omega,λx hx _ b off e=>by rw [a8 x hx] at e;cases e⟩));have an:=zh (M.hold t);have av:=zh ((ad.grew g2).grew t);have a0:=zh (fy w2 50 #[.string T.name,.int .i64 T.tracks,.slice A T.labels.length c] rfl);obtain ⟨w3,B⟩:∃w3,w3=w2.alloc (.cells #[.string T.name,.int .i64 T.tracks,.slice A T.labels.length c] 50):=⟨_,rfl⟩;have a1:w3.heap.size=w2.heap.size+1:=by rw [B];simp
 rw [<-B] at G an av a0;have d:=zh a1;have bt:=zh (HL.more G);have v:=ad.grew g2;have r0:=v.cell 0;have r1:=v.cell 1;have rl:=v.lt;clear M g2 a7 a8 t a1 v;go_wp2_with fail;rw [<-B];clear B;refine (F _ _ bt).mono ?_;rintro e w4 ⟨rfl,a9,l⟩;have bv:=zh l;have a2:=zh a9;have J:=zh (av.turned l (λh9=>h9.2 (.inr ⟨fk _,by have:=H.out;have:=d.out;omega⟩)));have bw:=zh (a0.turned l (λh9=>h9.2 (.inr ⟨by have:=H.out;omega,by have:=d.out;omega⟩)));have bx:=zh (an.stay al l (λk hk h9=>h9.2 (.inr ⟨hk.1,by have:=d.out;omega⟩)));clear a9 l r0 r1 rl F;have r0:=J.cell 0;have r1:=J.cell 1;have rl:=J.out.lt;go_wp2_with fail;refine (bo _ _ a2).mono ?_;rintro e w5 ⟨s,m,rfl,bb,bc,L,z⟩;have b0:=zh L;have b1:=zh z;have b2:w0.heap.size<=w4.heap.size:=a2.base.size;have f:=zh (show Held w0 x s m 1 0 E (λq=>(out q\/(W.heap.size<=q/\q<w3.heap.size))\/q=s\/q=m) w5 from ⟨bb,bc,.inr (.inl rfl),.inr (.inr rfl),oo⟩);have w:=zh (bw.turned z (λh9=>h9.2 (.inr ⟨by have:=H.out;omega,by have:=d.out;omega⟩)));have b3:=zh (bx.stay al z (λk hk h9=>h9.2 (.inr ⟨hk.1,by have:=d.out;omega⟩)));clear bb bc L z r0 r1 rl b2;have y0:=w.cell 0;have y1:=w.cell 1;have y2:=w.cell 2;have yl:=w.out.lt;go_wp2_with fail;refine (Ib A c xs T w5 b3 bs).mono ?_;rintro e w6 ⟨u,rfl,O,g6⟩;have a3:=zh g6
 obtain ⟨gs,cs,hu,cc,ce,_,_⟩:∃g cap,u=.slice (some ⟨g,0,none⟩) (AP T).length cap/\w5.heap.size<=g/\g<w6.heap.size/\True/\True:=by
  rcases O.form with ⟨_,h9⟩ | ⟨g,cap,h1,h2,h3,_⟩
  . have:=gJ length h9;rw [fm,length_nil] at this;have:=aj.out;omega
  . rw [fm] at h1;exact ⟨g,cap,h1,h2,h3,trivial,trivial⟩
 subst hu;have a4:=aj.out;obtain ⟨d0,Q⟩:∃d0,(AP T).getD 0 ⟨#[]⟩=d0:=⟨_,rfl⟩;have K:=zh (show Hn T=[(0,d0)] from by unfold Hn;rw [Q])
 have u0:w6.cell? ⟨gs,0,none⟩=some (.string d0):=by
  rw [<-Q];have:=O.cell (j:=0) (i:=0) (r:=Em (AP T)[0]) (by rw [fo,fg a4];rfl) rfl;rw [gH,fg a4];simpa using this
 clear O g6 y0 y1 y2 yl Q;have ca:(0:Int)<((AP T).length:Int):=oo;go_wp2_with fail;have a5:=fy w6 65 #[.int .i64 0,.string d0] rfl;have y:Grew w5 (w6.alloc (.cells #[.int .i64 0,.string d0] 65)):=a3.alloc _;have b4:=zh (show Held w0 x s m 1 0 E _ (w6.alloc (.cells #[.int .i64 0,.string d0] 65)) from ⟨f.live.more y,f.store.grew y,.inl f.os,.inl f.om,f.m0⟩);have b5:=zh y;have HR:=zh (br s m w0 _ _ b4 (Hn T) (by unfold Hn;simp) (λe he=>by unfold Hn at he;rw [fp.1 he];unfold okI;simp) (some ⟨w6.heap.size,0,none⟩) 1 (R1 a5 (by rw [K.out];rfl) (λr hr=>by rw [K.out] at hr;simp at hr;subst hr;rfl)) (λ_ b off e=>.inr (.inr (by injection e with e;injection e with e _ _;subst e;exact ⟨a3.size,qs⟩))));rw [HC.out.1] at HR;clear a5 y u0;rw [show (Hn T).length=1 from by rw [K.out];rfl] at HR;refine HR.mono ?_;rintro e w8 ⟨rfl,hd⟩;have HD:=zh hd;clear hd;go_wp2_with fail;go_ret;have a6:Beside w0 out W w4:=(G.turned _).trans (bv.mono λk _ hk=>⟨hk.1,λh9=>hk.2 (.inl h9)⟩);have b6:Beside w0 out W w5:=a6.trans (b1.mono λk _ hk=>⟨hk.1,λh9=>hk.2 (.inl h9)⟩);have b9:=b6.trans (b5.turned _);have cb:=a6.size;have L:=b0.out;exact ⟨rfl,_,_,HC.2.1,HC.2.2,HD.live.few (λk hk=>.inl (.inl (.inl hk))),b9.next HD.turned (λk hk h9=>h9.elim (λh8=>⟨h8.1,λh7=>h8.2 (.inl (.inl (.inl h7)))⟩) (λh8=>oo))⟩
structure Mounted (w0:World) (x:Nat) (n sy ep:Int) (D:Dev) (out:Nat->Prop) (W:World) (s m v:Nat) (out':Nat->Prop) (w':World):Prop where
 held:VHeld w0 x s m v n sy ep D out' w'
 sub:∀k,out k->out' k
 news:W.heap.size<=s/\W.heap.size<=m/\W.heap.size<=v
 beside:Beside w0 out W w'
 vol:VolM w' v s n (λk=>W.heap.size<=k/\Far w0 out' m v k)
theorem Tz {w0:World} {x n:Nat} {D:Dev} {out:Nat->Prop} {W:World} (h:Live w0 x D out W) (hn:okT (n:Int)=true) (t:D.st.length=131+8*n) (hp:D.pend.length<=980000) {sy ep:Int} (hs:1<=sy/\sy<=4) (he:0<=ep/\ep<=1099511627776) (E E2:Dev) (T:Tab) (ho:Qy D sy ep=(E,0)) (B:E.st.length=131+8*n) (r:E.pend.length<=980000) (ht:B9 E sy ep n=(E2,T,0)):
 Calls Tryz.prog 29 #[ptrV x,.agg #[.int .i64 sy,.int .i64 ep]] W λe w'=>∃s m v out',e=.returned (.tuple #[ptrV v,.int .i64 0])/\Mounted w0 x n sy ep E2 out W s m v out' w':=by
 obtain ⟨h1,h2,h3⟩:=okN hn;have a:Grew W (W.alloc (.cells #[.int .i64 sy,.int .i64 ep] 37)):=(fh W).alloc _;have b:=fy W 37 #[.int .i64 sy,.int .i64 ep] rfl;have C:=zh (KY (h.grew a) n hn t);have F:=zh (Pk (h.grew a) oo hs he hp E ho);have G:=zh (λ(s m v:Nat) (o:Nat->Prop) (w1:World) (hv:VHeld w0 x s m v n sy ep E o w1)=>Fy hv oo r hn E2 T 0 ht);have M:((n:Int)==0)=false:=by rw [gF];omega
 have HW:=zh (show w0.heap.size<=W.heap.size from h.base.size);have d:=zh a;have r0:=b.cell 0;have r1:=b.cell 1;have rl:=b.lt;clear h hn t hp hs he ho B r ht a b h1 h2 h3;go_enter Tryz.func29,Tryz.ntmps29;go_wp2_with fail;refine C.mono ?_;rintro e w1 ⟨rfl,rfl⟩;go_wp2_with fail;refine F.mono ?_;rintro e w2 ⟨s,m,rfl,y,z,p,q⟩;have H:=zh ((d.turned _).trans q);have f:=zh (show W.heap.size<=s/\W.heap.size<=m from ⟨fx d.size p.1,fx d.size p.2⟩);have i:W.heap.size<=w2.heap.size:=fx d.size q.size;have j:=zh i;have g:Grew w2 (w2.alloc (.cells (GD s n (.slice none 0 0) Ca (.slice none 0 0)) 112)):=(fh w2).alloc _;have l:=fy w2 112 (GD s n (.slice none 0 0) Ca (.slice none 0 0)) rfl;have u:VHeld w0 x s m w2.heap.size n sy ep E (λk=>(out k\/k=s\/k=m)\/(w2.heap.size<=k/\k<(w2.alloc (.cells (GD s n (.slice none 0 0) Ca (.slice none 0 0)) 112)).heap.size)) (w2.alloc (.cells (GD s n (.slice none 0 0) Ca (.slice none 0 0)) 112)):=
  ⟨⟨y.more g,z.grew g,.inl (.inr (.inl rfl)),.inl (.inr (.inr rfl)),by have:=f.out;have:=HW.out;omega⟩,.inr ⟨fk _,qs⟩,by have:=HW.out;omega,⟨_,_,_,l,CacheM.empty _ _ _⟩⟩
 have I:=zh (show VolM (w2.alloc (.cells (GD s n (.slice none 0 0) Ca (.slice none 0 0)) 112)) w2.heap.size s n (λ_=>False) from ⟨_,_,_,l,CacheM.empty _ _ _⟩);have J:=zh (G s m w2.heap.size _ _ u);have w:=zh g;clear y z p q g l u r0 r1 rl i;go_wp2_with fail;refine J.mono ?_;rintro e w4 ⟨o4,A,c,ys,rfl,hd,_,_,_⟩;have HD:=zh (hd.grew ((fh w4).alloc (.cells #[.string T.name,.int .i64 T.tracks,.slice A T.labels.length c] 50)));clear hd;go_wp2_with fail;go_ret2;have i:=j.out;have K:=HD.fresh (λ_=>False) (λk hk=>hk.elim) I;refine ⟨s,m,_,o4,rfl,HD.held,λk hk=>HD.sub k (.inl (.inl hk)),⟨f.1,f.2,j⟩,?_,K.mono λk hk=>⟨hk.1.elim (λh9=>h9.elim) (λh9=>fx j (fx w.size h9)),hk.2⟩⟩;have L:=H.out.trans (w.turned _)
 exact L.next HD.turned (λk hk h9=>by
  have:=f.out
  rcases h9 with h9 | h9 | h9
  . exact ⟨h9.1,λh8=>h9.2 (.inl (.inl h8))⟩
  . omega
  . omega)

end
section
open Go.RowKit
theorem Uw {l:Lab} {ws:List (Int × ByteArray)} (h:(AQ l ws).2=0):AQ l ws=(ws.map λe=>((AN l.ext e.1).1,e.2),0)/\(∀e∈ws,e.2.size=128)/\(ws.map (·.1)).Nodup/\∀e∈ws,(AN l.ext e.1).2=true:=by
 unfold AQ at h ⊢;split at h
 . cases h
 rename_i h1;split at h
 . cases h
 rename_i h2;rw [if_neg h1,if_neg h2];simp only [not_or,iL] at h1;refine ⟨rfl,λe he=>?_,h1.2,λe he=>?_⟩
 . have:=h1.1;rw [ie,iK] at this;simpa using this e he
 . rw [ie,iK] at h2;simpa using h2 e he
theorem Yg {I:Img} {T U:Tab} {n:Nat} (hU:GoodT U) (f:I.n=8*n) (ht:U.tracks=(n:Int)) (hl:(AP T).length=(AP U).length) (d:T.tracks=U.tracks) (id b:Int) (ws:List (Int × ByteArray)) (hp:(AQ (Ba U id b).1 ws).2=0)
 (hc:AU I.n (Bq T U++(AQ (Ba U id b).1 ws).1)=0) (a:Int × ByteArray) (ha:a∈ws):(I.next (Bq T U++(AQ (Ba U id b).1 ws).1)).cs (AN (Ba U id b).1.ext a.1).1.toNat=a.2:=by
 obtain ⟨h1,_,_,h4⟩:=Uw hp;obtain ⟨q,hq⟩:∃q,(AN (Ba U id b).1.ext a.1).1=q:=⟨_,rfl⟩
 have hm:(q,a.2)∈(AQ (Ba U id b).1 ws).1:=by
  rw [h1];exact ft.2 ⟨a,ha,by rw [hq]⟩
 have hf:=Gp hU id b ws _ hm;simp only at hf;have c:=(FM _ _ hc).2.1;rw [fz] at c;have e:=(iZ.1 c).2.1;have g:0<=q:=oo;rw [hq,I7 q.toNat oo,V0,RQ T U hl d,dif_neg oo]
 have:JN (AQ (Ba U id b).1 ws).1 q.toNat=some a.2:=by
  unfold JN;rw [show ((q.toNat:Nat):Int)=q from oo,EJ e _ hm];rfl
 rw [this];rfl
theorem UU {T U:Tab} (hT:GoodT T) (hU:GoodT U) (ht:U.tracks=T.tracks) {n:Nat} (f:U.tracks=(n:Int)) (ps:List (Int × ByteArray)) (h1:∀e∈ps,e.2.size=128) (h2:(ps.map (·.1)).Nodup) (h3:∀e∈ps,((AP U).length:Int)<=e.1/\e.1<8*U.tracks) (h4:(Bq T U).length+ps.length<=64):
 AU (8*n) (Bq T U++ps)=0:=by
 have hl:=LG hT hU ht;obtain ⟨g1,g2⟩:=Cn hU;have g3:=DQ U.tracks;have g:ttS U.tracks<=U.tracks:=by unfold ttS;rw [if_pos hU.tr];have:=B0 hU.tr;omega
 have hd:∀e∈Bq T U,e.2.size=128/\0<=e.1/\e.1<((AP U).length:Int):=by
  intro e he;unfold Bq at he;rw [if_pos ⟨hl,ht.symm⟩] at he;unfold Co at he;obtain ⟨i,hi,rfl⟩:=ft.1 he;have h:=gU.1 (iM.1 hi).1;have c:i<(AP U).length:=oo;refine ⟨?_,by simp only;omega,by simp only;omega⟩;simp only;rw [gH,fg c];exact g2 _ (fq c)
 have d:((Bq T U).map (·.1)).Nodup:=by
  unfold Bq;rw [if_pos ⟨hl,ht.symm⟩];unfold Co;rw [iq,Nodup,jL];exact (nodup_range.filter _).imp (λ{a b} hab he=>hab (by simp only [Function.comp] at he;omega))
 unfold AU;rw [if_neg,if_neg,if_neg]
 . rw [gK];omega
 . rw [ie,iK];intro e he;rcases gC.1 he with h9 | h9
   . have:=hd e h9;simp only [gm];omega
   . have:=h3 e h9;simp only [gm];omega
 . rw [not_or,iL];refine ⟨?_,?_⟩
   . rw [ie,iK];intro e he;rcases gC.1 he with h9 | h9
     . have:=(hd e h9).1;simp [this]
     . simp [h1 e h9]
   . rw [fz];refine iZ.2 ⟨d,h2,λa ha b hb e=>?_⟩;obtain ⟨u,hu,rfl⟩:=ft.1 ha;obtain ⟨y,hy,rfl⟩:=ft.1 hb;have:=hd u hu;have:=h3 y hy;omega
def exT:Tab:=⟨⟨#[86,79,76]⟩,8,[BH]⟩
def exL:Lab:=⟨5,2,⟨#[65]⟩,⟨#[]⟩,[(2,1)]⟩
def exU:Tab:=⟨⟨#[86,79,76]⟩,8,[exL]⟩
theorem eD:Nm ⟨#[86,79,76]⟩ 8=(exT,0):=qk
theorem G1:Bw exT 5 2 ⟨#[65]⟩ ⟨#[]⟩ 1=(exU,0):=qk
theorem KQ:Ba exU 5 2=(exL,true):=qk
theorem K7:AN [(2,1)] 3=(19,true):=by decide+kernel
def FT:ByteArray:=⟨#[116,101,120,116]⟩
def exW:List (Int × ByteArray):=[(3,BE FT)]
theorem Yh:AQ exL exW=([(19,BE FT)],0):=by
 unfold AQ exW;rw [if_neg,if_neg]
 . show ([(AN exL.ext 3).1].map λq=>(q,BE FT),(0:Int))=_;rw [show exL.ext=[(2,1)] from rfl,K7];rfl
 . show ¬([((3:Int),BE FT)].any λe=>!(AN exL.ext e.1).2)=true;rw [any_cons,any_nil,show exL.ext=[(2,1)] from rfl];simp only [K7];decide
 . rw [not_or,iL];exact ⟨by simp [DU],qs⟩
theorem eA {D:Dev} {I:Img} {T0 U0:Tab} (G1:Bw T0 5 2 ⟨#[65]⟩ ⟨#[]⟩ 1=(U0,0)) (KQ:Ba U0 5 2=(exL,true)) (b:U0.tracks=T0.tracks) (c:U0.tracks=((8:Nat):Int)) (h:VGood D I T0 8) (hN:I.N=2):
 ∃D' I',chP D 1 0 ((8:Nat):Int) 5 2 exW (λT=>Bw T 5 2 ⟨#[65]⟩ ⟨#[]⟩ 1)=(D',0)/\VGood D' I' U0 8/\rdP D' 2 0 ((8:Nat):Int) 5 2 3=(D',BE FT,0):=by
 have hU:=(EU T0 U0 5 2 _ _ 1 G1).good;have a:(AQ (Ba U0 5 2).1 exW)=([(19,BE FT)],0):=by rw [KQ];exact Yh
 have hl:=LG h.good hU b;have i:(AP U0).length=16:=by rw [(Cn hU).1,c];decide+kernel
 have j:(Bq T0 U0).length<=16:=by
  unfold Bq;rw [if_pos ⟨hl,b.symm⟩];unfold Co;rw [fm];refine fx (jC _ _) ?_;rw [io];omega
 have d:AU I.n (Bq T0 U0++(AQ (Ba U0 5 2).1 exW).1)=0:=by
  rw [h.size];refine UU h.good hU b c _ ?_ ?_ (Gp hU 5 2 exW) ?_
  . rw [a];intro e he;rw [fp.1 he];exact DU _
  . rw [a];simp
  . rw [a];show _+1<=64;omega
 rcases QA h (sy:=1) oo oo 5 2 exW (λT=>Bw T 5 2 ⟨#[65]⟩ ⟨#[]⟩ 1) (λU hUe=>by
  have hk:=EU T0 U 5 2 _ _ 1 hUe
  exact ⟨hk.good,hk.tracks⟩) with ⟨_,h9⟩ | ⟨U,hUe,hp,hc,he,hg⟩
 . exfalso;apply h9;unfold chP;rw [h.table 1 0];simp only;rw [if_neg qs,G1];simp only;rw [if_neg qs,a];simp only;rw [if_neg qs];have:=(EN h.hist h.neat (sy:=1) oo (Bq T0 U0++(AQ (Ba U0 5 2).1 exW).1) oo).1;rw [a] at this d;rw [this,d]
 . have g:U0=U:=by
    have:Bw T0 5 2 ⟨#[65]⟩ ⟨#[]⟩ 1=(U,0):=hUe;rw [G1] at this;injection this
   subst g;obtain ⟨D',f⟩:∃D',(chP D 1 0 ((8:Nat):Int) 5 2 exW (λT=>Bw T 5 2 ⟨#[65]⟩ ⟨#[]⟩ 1)).1=D':=⟨_,rfl⟩;rw [f] at hg;refine ⟨D',_,Prod.ext f he,hg,?_⟩;have hw:=Yg hU h.size c hl b.symm 5 2 exW hp hc (3,BE FT) (fp.2 rfl);have hq:AN (Ba U0 5 2).1.ext 3=(19,true):=by rw [KQ];exact K7
   have hr:=(hg.read 2 0 5 2 3 (by rw [KQ]) 19 hq).1;rw [hq] at hw;rw [hr];have:((I.next (Bq T0 U0++(AQ (Ba U0 5 2).1 exW).1)).cs (19:Int).toNat)=BE FT:=hw;rw [this]
theorem Zf {D:Dev} {I:Img} (h:VGood D I exT 8) (hN:I.N=2):
 ∃D' I',chP D 1 0 ((8:Nat):Int) 5 2 exW (λT=>Bw T 5 2 ⟨#[65]⟩ ⟨#[]⟩ 1)=(D',0)/\VGood D' I' exU 8/\rdP D' 2 0 ((8:Nat):Int) 5 2 3=(D',BE FT,0):=eA G1 KQ rfl rfl h hN

end
section
open Go.ChangeShapes Go.WideShapes Go.ChangeAt Go.RowKit Go.Deep
instance:Inhabited OpT:=⟨⟨0,0,⟨0,0,0,⟨#[]⟩,⟨#[]⟩,0,[]⟩,[],0,0,default,none,0,none,0⟩⟩
section
variable {H:Type} {enc:TypeId × Value->H} {w:World}
theorem Wv {n:Nat} {cs:List Value} {y:DataW H × List MemPlace} (a:cs.length=20) (h:DataW.trod enc Tryz.prog w 0 (λ_=>true) true n 42 cs=some y):∃o:OpT,OpTIn w o/\cs=Jy o:=by
 match cs,a with
 | [x0,x1,x2,x3,x4,x5,x6,x7,x8,x9,x10,x11,x12,x13,x14,x15,x16,x17,x18,x19],_=>
   have hf:=S0 Tryz.underlying42 h;obtain ⟨_,_,f0⟩:=hf 0 _ rfl;obtain ⟨_,_,f1⟩:=hf 1 _ rfl;obtain ⟨_,_,f2⟩:=hf 2 _ rfl;obtain ⟨_,_,f3⟩:=hf 3 _ rfl;obtain ⟨_,_,f4⟩:=hf 4 _ rfl;obtain ⟨_,_,f5⟩:=hf 5 _ rfl;obtain ⟨_,_,f6⟩:=hf 6 _ rfl;simp only [ij,iT,iJ] at f0 f1 f2 f3 f4 f5 f6;rw [show Tryz.prog.cellsOf 5=1 from qk] at f0 f1;rw [show Tryz.prog.cellsOf 35=7 from qk] at f2;rw [show Tryz.prog.cellsOf 24=1 from qk] at f3;rw [show Tryz.prog.cellsOf 3=1 from qk] at f4 f5;rw [show Tryz.prog.cellsOf 40=8 from qk] at f6;simp only [drop_succ_cons,drop_zero,take_succ_cons,take_zero] at f0 f1 f2 f3 f4 f5 f6;obtain ⟨n0,b,_,w0⟩:=iW Tryz.underlying5 f0;obtain ⟨n1,f,_,w1⟩:=iW Tryz.underlying5 f1;obtain ⟨B,d,on,k,ho⟩:=Wf (by rfl) f2;obtain ⟨A,c,ws,h3,g1,g2,g3,g4⟩:=Ja (α:=Int × ByteArray) (sz:=2) Tryz.underlying24 qk oo BB (λe=>okI e.1) (λn cs y a h=>Sz a h) f3;obtain ⟨n4,g,_,w4⟩:=iW Tryz.underlying3 f4;obtain ⟨n5,i,_,w5⟩:=iW Tryz.underlying3 f5;obtain ⟨rw,l,j⟩:=ZT (by rfl) f6;injection b with b _;injection f with f _;injection g with g _;injection i with i _;subst b;subst f;subst g;subst i;subst h3;have b0:=YY w0;have b1:=YY w1;refine ⟨⟨n0.toNat,n1.toNat,on,ws,n4,n5,rw,B,d,A,c⟩,⟨by show n0.toNat<256;omega,by show n1.toNat<256;omega,ho,g4,fx g1 g2,g3,l⟩,?_⟩;unfold Jy;unfold opC at j;simp only [cons.injEq] at k j;obtain ⟨rfl,rfl,rfl,rfl,rfl,rfl,rfl,_⟩:=k;obtain ⟨rfl,rfl,rfl,rfl,rfl,rfl,rfl,rfl,_⟩:=j;simp only [jJ b0.1,jJ b1.1]
theorem WU {r:Reach} {b0:Nat} {v:Value} {d:DataW H} {ps:List MemPlace} (hv:Value.okWide Tryz.prog w r b0 22 v) (hd:DataW.Trod enc Tryz.prog w 0 (λ_=>true) true 22 v d ps):
 ∃A c,∃l:List OpT,v=.slice A l.length c/\l.length<=c/\c<=9223372036854775807/\(∀o∈l,OpTIn w o)/\ListAt w w.heap.size 20 A (l.map Jy):=by
 obtain ⟨A,c,l,rfl,h1,h2,h3,h4⟩:=LT (α:=OpT) (sz:=20) Tryz.underlying22 qk oo Jy (OpTIn w) (λn cs y hlen h=>Wv hlen h) hv hd;exact ⟨A,c,l,rfl,h1,h2,h3,h4⟩
end

end
end Go.Proofs.YtfklieeipokllaaGreat
