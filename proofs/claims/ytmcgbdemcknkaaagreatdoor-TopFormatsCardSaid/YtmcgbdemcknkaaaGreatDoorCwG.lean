/- Parts of the proof (packed), 7. -/
import Derived.Laws.IdiomStrings
import Derived.Carry
import Derived.Test.YtmcgbdemcknkaaaGreatDoorCwB
namespace Go.Proofs.YtmcgbdemcknkaaaGreatDoor
set_option linter.all false
set_option maxRecDepth 100000
set_option maxHeartbeats 16000000
open List
section
attribute [local go_sem ↓] Go.wp_at_zero Go.wp_at_succ
open Go.Maps (Keyed)
open Go.RowKit
theorem KU (p:Wr->Bool) (sv a:Nat->Nat):∀(l:List Wr) (E:Dev) (k:Nat),(∀i,k<=i->i<k+l.length->sv i=a i)->l.foldl (AV p sv) (E,k)=l.foldl (AV p a) (E,k)
 | [],_,_,_=>rfl
 | r::l,E,k,h=>by
   rw [foldl_cons,foldl_cons]
   have he:AV p sv (E,k) r=AV p a (E,k) r:=by
    unfold AV;cases p r with
    | false=>rfl
    | true=>simp only [if_true];rw [h k (iX _) qs]
   rw [he];obtain ⟨E',k',hE⟩:∃E' k',AV p a (E,k) r=(E',k'):=⟨_,_,rfl⟩
   have hk:k<=k'/\k'<=k+1:=by
    have:k'=(AV p a (E,k) r).2:=by rw [hE]
    rw [this];unfold AV;cases p r<;>simp
   rw [hE];exact KU p sv a l E' k' (λi h1 h2=>h i oo (by simp;omega))
theorem Oa (D:Dev) (p:Wr->Bool) (sv a:Nat->Nat) (h:∀i,i<D.pend.length->sv i=a i):Bs D p sv=Bs D p a:=by
 unfold Bs Co;rw [KU p sv a D.pend D 0 (λi _ h2=>h i oo)]
theorem ET {t e:TypeId} {z:Value} {b:Nat} (w:World) (n:Nat) (ht:Tryz.prog.underlying t=some (.slice e)) (hi:(Tryz.prog.info? e).map (λi=>(i.zero,i.size,i.bytes))=some (some z,1,b)) (hz:z.cells=#[z]) (hb:n*b<=140737488355328) (hn:n<=1000000):
 (Instr.makeSlice t (.int .i64 (n:Int)) (.int .i64 (n:Int))).run Tryz.prog w=.ok (.slice (some ⟨w.heap.size,0,none⟩) n n) (w.alloc (.cells (Array.replicate n z) e)):=by
 obtain ⟨i,hi,c,d,f⟩:=info_parts hi
 have a:(i.bytes:Int)*(n:Int)<=281474976710656:=by
  obtain ⟨m,hm⟩:∃m,n*b=m:=⟨_,rfl⟩;rw [hm] at hb;have:(i.bytes:Int)*(n:Int)=(m:Int):=by rw [f,<-hm,Int.natCast_mul,Int.mul_comm]
  omega
 have h:=run_make (P:=Tryz.prog) w t e i _ ht hi c .i64 .i64 (n:Int) (n:Int) oo oo a oo;rw [d] at h;simp only [i9,Nat.mul_one] at h;rw [h]
 have hc:madeCells z.cells n=Array.replicate n z:=by
  unfold madeCells;rw [hz];apply Array.ext
  . simp
  . intro j h1 h2;simp [Nat.mod_one]
 rw [hc]
theorem OwnL.made (w:World) (base e n:Nat) (z:Value) (hb:base<=w.heap.size) (hn:n<=9223372036854775807) {m:Nat} (hm:m=w.heap.size):OwnL (w.alloc (.cells (Array.replicate n z) e)) base e 1 (.slice (some ⟨m,0,none⟩) n n) (List.replicate n [z]):=by
 subst hm;refine ⟨λr hr=>by rw [(kJ.1 hr).2];rfl,?_⟩;have:=World.ownsRow_lit (base:=base) (e:=e) (size:=1) w (Array.replicate n z) n hb (by unfold maxLen;exact hn) qs
 have h2:(List.replicate n [z]).flatten=(Array.replicate n z).toList:=by
  rw [Array.toList_replicate]
  induction n with
  | zero=>rfl
  | succ n ih=>
    rw [List.replicate_succ,flatten_cons,List.replicate_succ];rw [ih oo (World.ownsRow_lit (base:=base) (e:=e) (size:=1) w (Array.replicate n z) n hb (by unfold maxLen;omega) qs)];rfl
 rw [h2,j0];exact this
theorem M3:(Tryz.prog.info? 3).map (λi=>(i.zero,i.size,i.bytes))=some (some (.int .i64 0),1,8):=qk
section
variable {w:World} {q:DevP} {D:Dev} (h:DevM w q D) (s:Int)
include h
theorem ZC (e:Int) (al:D.pend.length<=1000000):
 Calls Tryz.prog 162 #[.pointer (some ⟨q.x,0,none⟩),.agg #[.int .i64 s,.int .i64 e]] w λer w'=>er=.returned (.int .i64 (Cl D s e).2)/\Did w w' q (Cl D s e).1:=by
 have HH:=zh h;have u:=(iW w).alloc (.cells #[.int .i64 s,.int .i64 e] 88);have f:=ik w 88 #[.int .i64 s,.int .i64 e] rfl;have a0:=f.cell 0;have a1:=f.cell 1;have J:=zh (Po (w.alloc (.cells #[.int .i64 s,.int .i64 e] 88)) s e);cases hp:DA s e with
 | false=>
   have HV:=zh (show Cl D s e=(D,1) from by unfold Cl;rw [if_pos hp]);have HP:=zh hp;clear h hp f;go_enter Tryz.func162,Tryz.ntmps162;go_wp2_with fail;refine J.mono ?_;rw [HP.out];rintro er w1 ⟨rfl,g1⟩;have hG:=u.trans g1;go_wp2_with fail;go_ret;rw [HV.out];exact ⟨rfl,Did.same HH hG⟩
 | true=>
   have HV:=zh (show Cl D s e=if (Ah D s e).2≠0 then Ah D s e else (Bs (Ah D s e).1 (Fv s) (λ_=>140),0) from by unfold Cl;rw [if_neg (by rw [hp];simp)]);have HP:=zh hp;have K:=λhz=>zh (Gv (D:=D) (s:=s) (e:=e) hz);clear h hp f;generalize hAD:Ah D s e=AD at*
   obtain ⟨D1,Z⟩:=AD;have an:=zh hAD;clear hAD;go_enter Tryz.func162,Tryz.ntmps162;go_wp2_with fail;refine J.mono ?_;rw [HP.out];rintro er w1 ⟨rfl,g1⟩;have hG:=u.trans g1;have b0:=(g1.cellEq w.heap.size 0 qs).trans a0;have b1:=(g1.cellEq w.heap.size 1 qs).trans a1;have L:=zh (O7 (HH.grew hG) s e HP oo);have HG:=zh hG;have ap:w.heap.size<w1.heap.size:=by have:=g1.size;simp at this;omega
   rw [an.out] at L;clear g1 a0 a1 u hG;go_wp2_with fail;refine L.mono ?_;rintro er w3 ⟨rfl,q3,F,G,d⟩;have v:=zh G;have av:¬q.feet w.heap.size:=λhh=>absurd (HH.feet_lt _ hh) oo;have y:=(d.cellEq w.heap.size 0 ap av).trans b0;have g:=zh F;have M:w.heap.size<w3.heap.size:=by have:=d.size;omega
   have aw:=zh (show Did w1 w3 q D1 from ⟨q3,F,G,d⟩);have a2:=zh d;clear G F d b0 b1;by_cases hz:Z=0
   . subst hz;obtain ⟨fu,ad⟩:=(K rfl).out;have N:D1.pend=D.pend:=by rw [ad]
     have a3:D1.pend.length<=1000000:=by rw [N];exact al
     obtain ⟨A,c,af,b5,b9,bl⟩:=g.pend_list;have l:=g.blk;rw [v.out.x,af] at l;have bs:=l.lt;have x2:=l.cell 2;have a4:=ET w3 D1.pend.length Tryz.underlying135 M3 rfl oo a3;have O:=OwnL.made w3 0 3 D1.pend.length (.int .i64 0) (jL _) oo rfl;have z:=(iW w3).alloc (.cells (Array.replicate D1.pend.length (.int .i64 0)) 3);have P:=zh z;have Q:=zh O;have R:=(z.cellEq _ _ M).trans y;have a5:=zh y;clear ad N K l af bl z O y;generalize hn:D1.pend.length=n at*
     have HN:=zh hn;clear hn;go_wp2_with fail;obtain ⟨w4,t⟩:∃w4,w4=w3.alloc (.cells (Array.replicate n (.int .i64 0)) 3):=⟨_,rfl⟩;rw [<-t] at P Q R ⊢;have bt:w3.heap.size<w4.heap.size:=by rw [t];simp
     have bv:w4.heap.size=w3.heap.size+1:=by rw [t];simp
     clear t x2 a4
     go_loopg [25] n (λgk iv wr=>∃j:Nat,j<=n/\gk=n - j/\iv=.int .i64 (j:Int)/\OwnL wr 0 3 1 (.slice (some ⟨w3.heap.size,0,none⟩) n n) ((List.replicate j (140:Int)++List.replicate (n - j) 0).map DJ)/\Turned (λk=>k=w3.heap.size) w4 wr)
     case atStart=>exact ⟨0,oo,rfl,rfl,by rw [List.replicate_zero,nil_append,List.map_replicate];exact Q.out,jD _ _⟩
     case round=>
      obtain ⟨j,hj,ag,rfl,a,I⟩:=hrel;have a6:=zh ag;have S:=zh I;have a7:=zh a;have bx:=I.size;clear ag;by_cases b4:j<n
      . have B:((List.replicate j (140:Int)++List.replicate (n - j) 0).map DJ)[j]? =some (DJ 0):=by
         rw [iZ,jW qs,j0,Nat.sub_self,kL,if_pos oo];rfl
        have c0:=a.cell (i:=0) B rfl;rw [Nat.mul_one,jo] at c0;have f0:=a.frozen j;have hs:=a.set_ (j:=j) (i:=0) (o:=j) B oo oo (.int .i64 140)
        have he:((List.replicate j (140:Int)++List.replicate (n - j) 0).map DJ).set j ((DJ 0).set 0 (.int .i64 140))=(List.replicate (j+1) (140:Int)++List.replicate (n - (j+1)) 0).map DJ:=by
         rw [show (DJ 0).set 0 (.int .i64 140)=DJ 140 from rfl,<-List.map_set];congr 1;rw [List.set_append_right _ _ qs,j0,Nat.sub_self,show n - j=(n - (j+1))+1 by omega,List.replicate_succ,set_cons_zero,List.replicate_succ',jK];rfl
        rw [he] at hs;have HS:=zh hs;clear hs he B a I;go_wp2_with fail
        go_roundg (n - (j+1))
        case measure=>rw [a6.out];omega
        case rel=>exact ⟨j+1,oo,oo,by go_num,HS,S.setCell (p:=⟨w3.heap.size,j,none⟩) (λ_=>rfl) _⟩
      . obtain rfl:j=n:=oo;have a:=a7.out;rw [Nat.sub_self,List.replicate_zero,append_nil] at a;have m:Grew w3 wr:=P.turn S (λk hk=>oo);have b2:=(m.cellEq _ _ M).trans a5;have C:=g.grew m;have g5:=(iW wr).alloc (.cells #[.int .i64 s] 3);have T:=ik wr 3 #[.int .i64 s] rfl;have a8:q3.x=q.x:=v.x;have a9:¬q3.turns wr.heap.size:=λhh=>absurd (C.feet_lt _ (DevP.turns_feet _ _ hh)) oo;have bb:¬q3.turns w3.heap.size:=λhh=>absurd (g.feet_lt _ (DevP.turns_feet _ _ hh)) oo;have U:ListAt wr wr.heap.size 1 (some ⟨w3.heap.size,0,none⟩) ((List.replicate j (140:Int)).map DJ):=a.listA
        have E:=YX wr.heap.size (C.grew g5) (Fv s) (some ⟨w3.heap.size,0,none⟩) j (List.replicate j 140) (λW=>Blk W wr.heap.size 3 #[.int .i64 s]) ((U.keep (iX _) g5).mono g5.size) (λ_ b off he hb=>by
         injection he with he
         injection he with he _ _
         rw [<-he] at hb
         exact bb hb) (by rw [j0];omega) (λn hn=>by rw [(kJ.1 hn).2];unfold okI;omega) (by rw [HN.out];omega) (λW W' hk ht=>hk.turned ht a9) (λW W' hk hg=>hk.grew hg) T (λW r hk=>dw s r _ W hk)
        rw [j0,a8] at E;have bc:=zh E;have V:=zh m;clear a m C g5 T U E R;go_wp2_with fail;refine (ZQ s wr).mono ?_;rintro er w5 ⟨rfl,rfl⟩;go_wp2_with fail;refine bc.mono ?_;rintro er w6 ⟨rfl,q6,H,X,Y⟩
        have bf:Bs D1 (Fv s) (svN (List.replicate j 140))=Bs D1 (Fv s) (λ_=>140):=Oa _ _ _ _ (λi hi=>by
         unfold svN
         rw [iu,kL,if_pos (by rw [HN.out] at hi;exact hi)];rfl)
        rw [bf] at H;have bk:=zh (show Did w3 w6 q3 (Bs D1 (Fv s) (λ_=>140)) from ⟨q6,H,(Foot'.refl w3 q3).trans X (by have:=V.size;simp;omega),((V.alloc _).turned _).next Y (λk _ hk=>DevP.turns_feet _ k hk)⟩);clear H X Y;go_wp2_with fail;go_ret;rw [HV.out,if_neg qd];exact ⟨rfl,Did.trans (Foot'.refl w q) (HG.turned _) (Did.trans v a2 bk)⟩
   . have b3:(Z==0)=false:=it.2 hz;have HZ:=zh hz;clear hz;go_wp2_with fail;go_ret;rw [HV.out,if_pos HZ.out];exact ⟨rfl,Did.trans (Foot'.refl w q) (HG.turned _) aw⟩
end

theorem OwnL.base0 {w:World} {b e sz:Nat} {v:Value} {rows:List (List Value)} (h:OwnL w b e sz v rows):OwnL w 0 e sz v rows:=by
 refine ⟨h.1,h.2.1,?_⟩;rcases h.2.2 with h0 | ⟨g,cap,a,h1,h2,h3⟩
 . exact .inl h0
 . exact .inr ⟨g,cap,a,h1,jL _,h3⟩

section
variable {w:World} {q:DevP} {D:Dev} (h:DevM w q D)
include h
omit h in
theorem Wy (W:World) (g cap:Nat) (u:ByteArray) (hu:u.size=140) (hc:∀j (hj:j<u.size),W.cell? ⟨g,j,none⟩=some (.int .u8 (u[j].toNat:Int))):(convert 74 9 (.slice (some ⟨g,0,none⟩) 140 cap)).run Tryz.prog W=.ok (.string u) W:=by
 have h:=run_convert_bytes_back (P:=Tryz.prog) W 74 9 5 ⟨g,0,none⟩ cap u.data.toList Tryz.underlying74 Tryz.underlying5 Tryz.underlying9 (λj hj=>by
  have:(⟨g,0,none⟩:Addr).add j=⟨g,j,none⟩:=by unfold Addr.add;split<;>simp_all
  rw [this]
  exact hc j (by rw [jP] at hj;exact hj))
 have hl:u.data.toList.length=140:=by rw [jP];exact hu
 rw [hl] at h;exact h
end

theorem VS {o:Oper} {a:Act} {w w':World} {K:Act->World->Prop} {Q:Exit->Act->World->Prop} (t:TypeId) (x y:Operand) (b:o.op=.makeSlice t x y) {vx vy v:Value} (hx:a.eval x=vx) (hy:a.eval y=vy) (c:(Instr.makeSlice t vx vy).run Tryz.prog w=.ok v w') (h:K (a.put o.dst v) w'):o.wp Tryz.prog a w K Q:=by
 unfold Oper.wp;simp [execOp,b,hx,hy,c,Result.andThen];exact h
theorem U9 {o:Oper} {a:Act} {w:World} {K:Act->World->Prop} {Q:Exit->Act->World->Prop} (t:TypeId) (b:o.op=.makeMap t none) (h:K (a.put o.dst (.map (some w.heap.size))) (w.alloc (.map #[] 0))):o.wp Tryz.prog a w K Q:=by
 have hr:=run_makeMap (P:=Tryz.prog) t w;unfold Oper.wp;simp [execOp,b,hr,Result.andThen];exact h
theorem WV:(Tryz.prog.info? 24).map (λi=>(i.zero,i.size,i.bytes))=some (some (.slice none 0 0),1,24):=qk
theorem XN:(Tryz.prog.info? 5).map (λi=>(i.zero,i.size,i.bytes))=some (some (.int .u8 0),1,1):=qk
def Kc (n:Nat):ByteArray:=⟨(List.replicate n (0:UInt8)).toArray⟩
def blank:ByteArray:=Kc 140
theorem Jt:blank.size=140:=by simp [blank,Kc,ByteArray.size]
theorem Zv (n j:Nat) (hj:j<(Kc n).size):(Kc n)[j]=0:=by
 have h':j<((List.replicate n (0:UInt8)).toArray).size:=hj;have:((List.replicate n (0:UInt8)).toArray)[j]'h'=0:=qs;exact this
theorem ZV (j:Nat) (hj:j<blank.size):blank[j]=0:=Zv 140 j hj
def EQ (n:Nat):Dev:=⟨List.replicate n blank,List.replicate n [],[],λ_=>0,none,false⟩
theorem QE (n:Nat) (h1:1<=n) (h2:n<=1155):(EQ n).Ok:=by
 refine ⟨by simp [EQ],by simpa [EQ] using h1,by simpa [EQ] using h2,λs hs=>?_,λl hl=>?_,λr hr=>(by cases hr),λs=>(by show (0:Int)<=0/\(0:Int)<=_;omega)⟩
 . rw [(kJ.1 hs).2];exact Jt
 . rw [(kJ.1 hl).2];simp
def NewR (w:World) (n:Nat) (i:Nat) (v:Value) (w':World):Prop:=
 (i=1->OwnL w' w.heap.size 9 1 v (List.replicate n [.string ⟨#[]⟩]))/\(i=3->OwnL w' w.heap.size 24 1 v (List.replicate n [.slice none 0 0]))/\(i=4->∃m,v=.map (some m)/\w.heap.size<=m/\MapI w' m (λ_=>none))
theorem NewR.grew {w:World} {n i:Nat} {v:Value} {w1 w2:World} (hg:Grew w1 w2) (h:NewR w n i v w1):NewR w n i v w2:=by
 refine ⟨λhi=>(h.1 hi).grew hg,λhi=>(h.2.1 hi).grew hg,λhi=>?_⟩;obtain ⟨m,h1,h2,h3⟩:=h.2.2 hi;exact ⟨m,h1,h2,h3.grew hg⟩
theorem cT (n:Nat) (w:World) (h1:1<=n) (h2:n<=1155):Calls Tryz.prog 75 #[.int .i64 (n:Int)] w λe w'=>∃x q,e=.returned (.tuple #[.pointer (some ⟨x,0,none⟩),.int .i64 0])/\q.x=x/\DevM w' q (EQ n)/\Grew w w'/\∀k,q.feet k->w.heap.size<=k:=by
 have hS:(λ_:World=>True) w.drew:=trivial;go_enter Tryz.func75,Tryz.ntmps75;go_wp2_with fail;refine AB [] (λ_:World=>True) qk ?_;refine tQ 0 13 ?_;refine tQ 2 15 ?_;refine UY [(1,14),(3,16),(4,17)] (NewR w n) (fuel:=3) rfl qk (λi v w1 w2 hg h=>h.grew hg) (λ_ _ _ _=>trivial) ?_ ?_
 . intro p hp a' w' hg I K' hK;have C:a'.eval (.tmp 13)=.int .i64 (n:Int):=(I 13 qd).trans rfl;have D:a'.eval (.tmp 15)=.int .i64 (n:Int):=(I 15 qd).trans rfl;rcases jh.1 hp with rfl | hp
   . refine ⟨_,rfl,?_⟩;rw [if_pos (by rfl)];refine VS 24 (.tmp 13) (.tmp 13) rfl C C (ET w' n Tryz.underlying24 Nv rfl oo oo) ?_;refine hK.out _ _ ((iW w').alloc _) ⟨λ_=>OwnL.made w' w.heap.size _ n _ hg.size oo rfl,λh=>absurd h qd,λh=>absurd h qd⟩
   . rcases jh.1 hp with rfl | hp
     . refine ⟨_,rfl,?_⟩;rw [if_pos (by rfl)];refine VS 186 (.tmp 15) (.tmp 15) rfl D D (ET w' n Tryz.underlying186 WV rfl oo oo) ?_;refine hK.out _ _ ((iW w').alloc _) ⟨λh=>absurd h qd,λ_=>OwnL.made w' w.heap.size _ n _ hg.size oo rfl,λh=>absurd h qd⟩
     . obtain rfl:=ia.1 hp;refine ⟨_,rfl,?_⟩;rw [if_pos (by rfl)];refine U9 187 rfl ?_;exact hK.out _ _ ((iW w').alloc _) ⟨λh=>absurd h qd,λh=>absurd h qd,λ_=>⟨w'.heap.size,rfl,hg.size,MapIs.made w' rfl⟩⟩
 . intro J w1 K hR;have h3:=(hR (1,14) qd).1 rfl;have h4:=(hR (3,16) qd).2.1 rfl;obtain ⟨m,h5,h6,h7⟩:=(hR (4,17) qd).2.2 rfl;clear hS;have hS:(λ_:World=>True) w1:=trivial;simp only [Hk,IO,if_true,Act.put,setIfInBounds_toArray,set_cons_zero,set_cons_succ];generalize J 1=v1 at*
   generalize J 3=v3 at*
   rw [h5];clear h5 hR
   obtain ⟨g1,c1,rfl,W,a0,a1,a2⟩:∃g c,v1=.slice (some ⟨g,0,none⟩) n c/\w.heap.size<=g/\g<w1.heap.size/\n<=c/\c<=9223372036854775807:=by
    rcases h3.form with ⟨_,h0⟩ | ⟨g,c,e1,e2,e3,e4,e5⟩
    . have:=ix length h0;simp at this;omega
    . rw [j0] at e1 e4;exact ⟨g,c,e1,e2,e3,e4,e5⟩
   obtain ⟨g3,c3,rfl,b,a3,a4,a5⟩:∃g c,v3=.slice (some ⟨g,0,none⟩) n c/\w.heap.size<=g/\g<w1.heap.size/\n<=c/\c<=9223372036854775807:=by
    rcases h4.form with ⟨_,h0⟩ | ⟨g,c,e1,e2,e3,e4,e5⟩
    . have:=ix length h0;simp at this;omega
    . rw [j0] at e1 e4;exact ⟨g,c,e1,e2,e3,e4,e5⟩
   have H3:=zh h3;have H4:=zh h4;have H7:=zh h7;have N:=zh K;clear h3 h4 h7 K;refine tQ 5 18 ?_;refine tO 6 λK' hK=>?_;go_wp2_with fail;refine hK.out _ _ (.inr (λh=>h)) ?_;clear hK hS;have hS:(λ_:World=>True) w1:=trivial;refine tQ 7 4 ?_;refine AA qk ?_ _;clear hS;have f:=ik w1 192 #[.slice (some ⟨g1,0,none⟩) n c1,.slice (some ⟨g3,0,none⟩) n c3,.slice none 0 0,.map (some m),.bool false,.int .i64 0,.slice none 0 0,.bool false] rfl;have r:=(iW w1).alloc (.cells #[.slice (some ⟨g1,0,none⟩) n c1,.slice (some ⟨g3,0,none⟩) n c3,.slice none 0 0,.map (some m),.bool false,.int .i64 0,.slice none 0 0,.bool false] 192);obtain ⟨w2,L⟩:∃w2,w2=w1.alloc (.cells #[.slice (some ⟨g1,0,none⟩) n c1,.slice (some ⟨g3,0,none⟩) n c3,.slice none 0 0,.map (some m),.bool false,.int .i64 0,.slice none 0 0,.bool false] 192):=⟨_,rfl⟩;rw [<-L] at f r ⊢;clear L;have E:=ET w2 140 Tryz.underlying74 XN rfl oo oo
   have X:=Wy (w2.alloc (.cells (Array.replicate 140 (.int .u8 0)) 5)) w2.heap.size 140 blank Jt (λj hj=>by
    rw [cell_of_row _ w2.heap.size j _ _ _ (heap_alloc_new w2 _),Array.getElem?_replicate,if_pos (by rw [Jt] at hj;exact hj)]
    rw [ZV j hj];rfl)
   have t:=r.alloc (.cells (Array.replicate 140 (.int .u8 0)) 5);have b:=f.alloc (.cells (Array.replicate 140 (.int .u8 0)) 5);have Y:=b.lt;have x0:=b.cell 0;have O:=zh (H3.grew t);have F:=zh b;have P:=zh t;have Z:w1.heap.size<w2.heap.size:=f.lt;clear f r b t;have ad:(Instr.makeSlice 74 (.int .i64 140) (.int .i64 140)).run Tryz.prog w2=.ok (.slice (some ⟨w2.heap.size,0,none⟩) 140 140) (w2.alloc (.cells (Array.replicate 140 (.int .u8 0)) 5)):=E;clear E;generalize hwc:w2.alloc (.cells (Array.replicate 140 (.int .u8 0)) 5)=w3 at*
   have af:w3.heap.size=w2.heap.size+1:=by rw [<-hwc];simp
   clear hwc;go_wp2_with fail
   go_loopg [27] n (λgk iv wr=>∃j:Nat,j<=n/\gk=n - j/\iv=.int .i64 (j:Int)/\OwnL wr w.heap.size 9 1 (.slice (some ⟨g1,0,none⟩) n c1) ((List.replicate j blank++List.replicate (n - j) emp).map BP)/\Turned (λk=>k=g1) w3 wr)
   case atStart=>exact ⟨0,oo,rfl,rfl,by rw [List.replicate_zero,nil_append,List.map_replicate];exact O.out,jD _ _⟩
   case round=>
    obtain ⟨j,hj,M,rfl,a,d⟩:=hrel;have Q:=zh M;have u:=zh d;have ag:=zh a;have al:=d.size;have G:¬w1.heap.size=g1:=oo;have y:=F.turned d G;have an:=y.cell 0;have ap:=y.lt;clear M y x0;by_cases aw:j<n
    . have z:((List.replicate j blank++List.replicate (n - j) emp).map BP)[j]? =some (BP emp):=by
       rw [iZ,jW qs,j0,Nat.sub_self,kL,if_pos oo];rfl
      have c0:=a.cell (i:=0) z rfl;rw [Nat.mul_one,jo] at c0;have f0:=a.frozen j;have hs:=a.set_ (j:=j) (i:=0) (o:=j) z oo oo (.string blank)
      have he:((List.replicate j blank++List.replicate (n - j) emp).map BP).set j ((BP emp).set 0 (.string blank))=(List.replicate (j+1) blank++List.replicate (n - (j+1)) emp).map BP:=by
       rw [show (BP emp).set 0 (.string blank)=BP blank from rfl,<-List.map_set];congr 1;rw [List.set_append_right _ _ qs,j0,Nat.sub_self,show n - j=(n - (j+1))+1 by omega,List.replicate_succ,set_cons_zero,List.replicate_succ',jK];rfl
      rw [he] at hs;have HS:=zh hs;clear hs he z a d;go_wp2_with fail
      go_roundg (n - (j+1))
      case measure=>rw [Q.out];omega
      case rel=>exact ⟨j+1,oo,oo,by go_num,HS,u.setCell (p:=⟨g1,j,none⟩) (λ_=>rfl) _⟩
    . obtain rfl:j=n:=oo;have A:=a;rw [Nat.sub_self,List.replicate_zero,append_nil] at A;have R:=zh A;clear a A d;go_wp2_with fail;go_ret2;have H:Grew w w1:=(iW w).drew.trans N;have av:Grew w1 wr->True:=λ_=>trivial;have B:Turned (λk=>k=g1) w1 wr:=(P.turned _).trans u
      have S:g3≠g1:=by
       have h1:=H3.out;have h2:=H4.out;intro e;exact Aj h1 h2 qd g1 rfl (by rw [e];rfl)
      have T:m≠g1:=λe=>DP H3 H7 (by rw [e];rfl);refine ⟨w1.heap.size,⟨w1.heap.size,m,.slice (some ⟨g1,0,none⟩) j c1,.slice (some ⟨g3,0,none⟩) j c3,.slice none 0 0,.slice none 0 0,List.replicate j (.slice none 0 0),false,0,[],λ_=>none⟩,rfl,rfl,?_,?_,?_⟩
      . refine ⟨F.turned u G,R.base0,?_,by simp [EQ],λi v l hv hl=>?_,OwnL.nil _ _ _ _,OwnL.nil _ _ _ _,H7.turned B T,λs _ _=>.inl ⟨rfl,rfl⟩,rfl,(by show (0:Int)<=0/\(0:Int)<=_;omega),⟨λn hn=>(by cases hn),jL _⟩,QE j h1 h2⟩
        . rw [List.map_replicate];exact H4.base0.kept B (λg hg e=>S (by injection hg with hg;exact hg.trans e))
        . have U:=(kJ.1 (js hv)).2;have V:=(kJ.1 (js hl)).2;subst U;subst V;exact ⟨OwnL.nil _ _ _ _,λg hg=>(by cases hg)⟩
      . exact H.turn B (λk hk=>oo)
      . intro k hk;rcases hk with hk | hk | hk | hk | hk | hk | ⟨v,hv,hk⟩
        . rw [hk];exact H.size
        . rw [hk];exact h6
        . injection hk with hk;subst hk;exact W
        . injection hk with hk;subst hk;exact b
        . cases hk
        . cases hk
        . rw [(kJ.1 hv).2] at hk;cases hk

theorem WE {a b:ByteArray} (h:a=b):Ending.returned (.string a)=.returned (.string b):=by rw [h]
def Gc (n:Nat) (s:ByteArray):ByteArray:=s++Kc (n - s.size)
theorem Q9 (n:Nat) (s:ByteArray) (h:n<=s.size):Gc n s=s:=by
 unfold Gc;rw [show n - s.size=0 by omega];show s++⟨#[]⟩=s;exact j3
theorem SN (n:Nat) (s:ByteArray) (h:s.size<n):Gc n s=Gc n (s++⟨#[0]⟩):=by
 unfold Gc;have hs:(s++(⟨#[0]⟩:ByteArray)).size=s.size+1:=by simp [io];rfl
 rw [hs,show n - s.size=(n - (s.size+1))+1 by omega];rw [jq];congr 1
theorem KY (s:ByteArray) (n:Nat) (w:World) (hn:n<=2000) (hs:s.size<=1000000):
 Calls Tryz.prog 39 #[.string s,.int .i64 (n:Int)] w λe w'=>e=.returned (.string (Gc n s))/\w=w':=by
 go_enter Tryz.func39,Tryz.ntmps39;go_wp2_with fail
 go_loopg [0] (n+1 - s.size) (λgk v wr=>w=wr/\∃u:ByteArray,v=.string u/\gk=n+1 - u.size/\u.size<=1000000/\Gc n u=Gc n s)
 case atStart=>exact ⟨rfl,s,rfl,rfl,hs,rfl⟩
 case round=>
  obtain ⟨rfl,u,rfl,c,hu,hp⟩:=hrel;have d:=zh c;have HP:=zh hp;clear c hp;have a:(u++(⟨#[0]⟩:ByteArray)).size=u.size+1:=by simp [io];rfl
  have b:=zh a;clear a;by_cases i:u.size<n
  . have f:(u.size:Int)<(n:Int):=oo;have g:=zh (SN n u i);go_wp2_with fail
    go_roundg (n+1 - (u.size+1))
    case measure=>rw [d.out];omega
    case rel=>exact ⟨rfl,_,rfl,by rw [b.out],by rw [b.out];omega,by rw [<-g.out];exact HP.out⟩
  . have f:¬(u.size:Int)<(n:Int):=oo;have h:=zh (Q9 n u oo);go_wp2_with fail;go_ret;exact ⟨WE (by rw [<-HP.out,h.out]),rfl⟩

def Live (w0:World) (x:Nat) (D:Dev) (out:Nat->Prop) (ws:World):Prop:=
 ∃q:DevP,q.x=x/\DevM ws q D/\Grew w0 ws/\(∀k,q.feet k->w0.heap.size<=k)/\(∀k,out k->k<ws.heap.size/\¬q.feet k)
abbrev Beside (w0:World) (out:Nat->Prop) (ws ws':World):Prop:=Turned (λk=>w0.heap.size<=k/\¬out k) ws ws'
theorem Live.did {w0 ws:World} {x:Nat} {D D':Dev} {out:Nat->Prop} {f:Nat} {args:Array Value} {E:Ending->Prop} (h:Live w0 x D out ws) (hc:∀q:DevP,q.x=x->DevM ws q D->Calls Tryz.prog f args ws λe w'=>E e/\Did ws w' q D'):
 Calls Tryz.prog f args ws λe w'=>E e/\Live w0 x D' out w'/\Beside w0 out ws w':=by
 obtain ⟨q,hx,hd,hg,hf,ho⟩:=h;refine (hc q hx hd).mono ?_;rintro e w' ⟨he,q',c,a,b⟩;refine ⟨he,⟨q',a.x.trans hx,c,hg.turn b hf,λk hk=>(a.feet k hk).elim (hf k) (λh=>ij hg.size h),λk hk=>⟨ig (ho k hk).1 b.size,λh=>(a.feet k h).elim (ho k hk).2 (λh9=>absurd (ho k hk).1 oo)⟩⟩,b.mono (λk _ hk=>⟨hf k hk,λh=>(ho k h).2 hk⟩)⟩
theorem Live.look {w0 ws:World} {x:Nat} {D:Dev} {out:Nat->Prop} {f:Nat} {args:Array Value} {E:Ending->Prop} (h:Live w0 x D out ws) (hc:∀q:DevP,q.x=x->DevM ws q D->Calls Tryz.prog f args ws λe w'=>E e/\ws=w'):
 Calls Tryz.prog f args ws λe w'=>E e/\ws=w':=by
 obtain ⟨q,hx,hd,_⟩:=h;exact hc q hx hd
theorem Live.grew {w0 ws ws':World} {x:Nat} {D:Dev} {out:Nat->Prop} (h:Live w0 x D out ws) (hg:Grew ws ws'):Live w0 x D out ws':=by
 obtain ⟨q,hx,hd,a,hf,ho⟩:=h;exact ⟨q,hx,hd.grew hg,a.trans hg,hf,λk hk=>⟨ig (ho k hk).1 hg.size,(ho k hk).2⟩⟩
theorem Live.more {w0 ws ws':World} {x:Nat} {D:Dev} {out:Nat->Prop} (h:Live w0 x D out ws) (hg:Grew ws ws'):Live w0 x D (λk=>out k\/(ws.heap.size<=k/\k<ws'.heap.size)) ws':=by
 obtain ⟨q,hx,hd,a,hf,ho⟩:=h;refine ⟨q,hx,hd.grew hg,a.trans hg,hf,λk hk=>?_⟩;rcases hk with hk | hk
 . exact ⟨ig (ho k hk).1 hg.size,(ho k hk).2⟩
 . exact ⟨hk.2,λh=>absurd (hd.feet_lt k h) oo⟩
theorem Live.base {w0 ws:World} {x:Nat} {D:Dev} {out:Nat->Prop} (h:Live w0 x D out ws):Grew w0 ws:=by obtain ⟨_,_,_,h,_⟩:=h;exact h
theorem Live.ok {w0 ws:World} {x:Nat} {D:Dev} {out:Nat->Prop} (h:Live w0 x D out ws):D.Ok:=by obtain ⟨_,_,h,_⟩:=h;exact h.ok
theorem Live.few {w0 ws:World} {x:Nat} {D:Dev} {out out':Nat->Prop} (h:Live w0 x D out ws) (ho:∀k,out' k->out k):Live w0 x D out' ws:=by
 obtain ⟨q,hx,hd,a,hf,hn⟩:=h;exact ⟨q,hx,hd,a,hf,λk hk=>hn k (ho k hk)⟩
theorem ax (n:Nat) (w:World) (h1:1<=n) (h2:n<=1155):Calls Tryz.prog 75 #[.int .i64 (n:Int)] w λe w'=>∃x,e=.returned (.tuple #[.pointer (some ⟨x,0,none⟩),.int .i64 0])/\Live w x (EQ n) (λ_=>False) w':=by
 refine (cT n w h1 h2).mono ?_;rintro e w' ⟨x,q,rfl,hx,hd,hg,hf⟩;exact ⟨x,rfl,q,hx,hd,hg,hf,λk hk=>hk.elim⟩
section
variable {w0 ws:World} {x:Nat} {D:Dev} {out:Nat->Prop} (h:Live w0 x D out ws)
include h
theorem Mv (s e sec:Int) (data:ByteArray) (hsmall:D.pend.length<=999999) (hsz:data.size<=9223372036854775807):
 Calls Tryz.prog 160 #[.pointer (some ⟨x,0,none⟩),.agg #[.int .i64 s,.int .i64 e],.int .i64 sec,.string data] ws λer w'=>er=.returned (.int .i64 (BJ D s e sec data).2)/\Live w0 x (BJ D s e sec data).1 out w'/\Beside w0 out ws w':=
 h.did (λq hx hd=>by rw [<-hx];exact Wu hd s e sec data hsmall hsz)
theorem XA (s e:Int) (hsmall:D.pend.length<=1000000):
 Calls Tryz.prog 162 #[.pointer (some ⟨x,0,none⟩),.agg #[.int .i64 s,.int .i64 e]] ws λer w'=>er=.returned (.int .i64 (Cl D s e).2)/\Live w0 x (Cl D s e).1 out w'/\Beside w0 out ws w':=
 h.did (λq hx hd=>by rw [<-hx];exact ZC hd s e hsmall)
theorem Oq (i:Int) (s:ByteArray) (er:Int) (hr:GJ D i=(s,er)):Calls Tryz.prog 198 #[.pointer (some ⟨x,0,none⟩),.int .i64 i] ws λe w'=>e=.returned (.tuple #[.string s,.int .i64 er])/\ws=w':=
 h.look (λq hx hd=>by rw [<-hx];exact ae hd i s er hr)
theorem DZ:Calls Tryz.prog 114 #[.pointer (some ⟨x,0,none⟩)] ws λe w'=>e=.returned (.int .i64 (D.st.length:Int))/\ws=w':=
 h.look (λq hx hd=>by rw [<-hx];exact Q4 hd)
end

end
end Go.Proofs.YtmcgbdemcknkaaaGreatDoor
