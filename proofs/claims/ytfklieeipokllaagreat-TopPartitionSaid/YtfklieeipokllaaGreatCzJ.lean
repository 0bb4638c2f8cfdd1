/- Parts of the proof (packed), 10. -/
import Derived.Laws.IdiomStrings
import Derived.Carry
import Derived.Test.YtfklieeipokllaaGreatCzB
import Derived.Test.YtfklieeipokllaaGreatCzI
namespace Go.Proofs.YtfklieeipokllaaGreat
set_option linter.all false
set_option maxRecDepth 100000
set_option maxHeartbeats 16000000
open List
section
attribute [local go_sem ↓] Go.wp_at_zero Go.wp_at_succ
open Go.Maps (Keyed)
open Go.RowKit
theorem Ky (p:Wr->Bool) (sv a:Nat->Nat):∀(l:List Wr) (E:Dev) (k:Nat),(∀i,k<=i->i<k+l.length->sv i=a i)->l.foldl (AK p sv) (E,k)=l.foldl (AK p a) (E,k)
 | [],_,_,_=>rfl
 | r::l,E,k,h=>by
   rw [foldl_cons,foldl_cons]
   have he:AK p sv (E,k) r=AK p a (E,k) r:=by
    unfold AK;cases p r with
    | false=>rfl
    | true=>simp only [if_true];rw [h k (gM _) qs]
   rw [he];obtain ⟨E',k',hE⟩:∃E' k',AK p a (E,k) r=(E',k'):=⟨_,_,rfl⟩
   have hk:k<=k'/\k'<=k+1:=by
    have:k'=(AK p a (E,k) r).2:=by rw [hE]
    rw [this];unfold AK;cases p r<;>simp
   rw [hE];exact Ky p sv a l E' k' (λi h1 h2=>h i oo (by simp;omega))
theorem Oo (D:Dev) (p:Wr->Bool) (sv a:Nat->Nat) (h:∀i,i<D.pend.length->sv i=a i):BQ D p sv=BQ D p a:=by
 unfold BQ BZ;rw [Ky p sv a D.pend D 0 (λi _ h2=>h i oo)]
theorem Gw {t e:TypeId} {z:Value} {b:Nat} (w:World) (n:Nat) (ht:Tryz.prog.underlying t=some (.slice e)) (hi:(Tryz.prog.info? e).map (λi=>(i.zero,i.size,i.bytes))=some (some z,1,b)) (hz:z.cells=#[z]) (hb:n*b<=140737488355328) (hn:n<=1000000):
 (Instr.makeSlice t (.int .i64 (n:Int)) (.int .i64 (n:Int))).run Tryz.prog w=.ok (.slice (some ⟨w.heap.size,0,none⟩) n n) (w.alloc (.cells (Array.replicate n z) e)):=by
 obtain ⟨i,hi,c,d,f⟩:=info_parts hi
 have a:(i.bytes:Int)*(n:Int)<=281474976710656:=by
  obtain ⟨m,hm⟩:∃m,n*b=m:=⟨_,rfl⟩;rw [hm] at hb;have:(i.bytes:Int)*(n:Int)=(m:Int):=by rw [f,<-hm,Int.natCast_mul,Int.mul_comm]
  omega
 have h:=run_make (P:=Tryz.prog) w t e i _ ht hi c .i64 .i64 (n:Int) (n:Int) oo oo a oo;rw [d] at h;simp only [iM,Nat.mul_one] at h;rw [h]
 have hc:madeCells z.cells n=Array.replicate n z:=by
  unfold madeCells;rw [hz];apply Array.ext
  . simp
  . intro j h1 h2;simp [Nat.mod_one]
 rw [hc]
theorem OwnL.made (w:World) (base e n:Nat) (z:Value) (hb:base<=w.heap.size) (hn:n<=9223372036854775807) {m:Nat} (hm:m=w.heap.size):OwnL (w.alloc (.cells (Array.replicate n z) e)) base e 1 (.slice (some ⟨m,0,none⟩) n n) (List.replicate n [z]):=by
 subst hm;refine ⟨λr hr=>by rw [(jn.1 hr).2];rfl,?_⟩;have:=World.ownsRow_lit (base:=base) (e:=e) (size:=1) w (Array.replicate n z) n hb (by unfold maxLen;exact hn) qs
 have h2:(List.replicate n [z]).flatten=(Array.replicate n z).toList:=by
  rw [Array.toList_replicate]
  induction n with
  | zero=>rfl
  | succ n ih=>
    rw [List.replicate_succ,flatten_cons,List.replicate_succ];rw [ih oo (World.ownsRow_lit (base:=base) (e:=e) (size:=1) w (Array.replicate n z) n hb (by unfold maxLen;omega) qs)];rfl
 rw [h2,jT];exact this
theorem KC:(Tryz.prog.info? 3).map (λi=>(i.zero,i.size,i.bytes))=some (some (.int .i64 0),1,8):=qk
section
variable {w:World} {q:DevP} {D:Dev} (h:DevM w q D) (s:Int)
include h
theorem WS (A2:Option Addr) (c2:Nat) (l:List Int) (hl:ListAt w w.heap.size 1 A2 (l.map CF)) (i:0<l.length->∀b off,A2=some ⟨b,off,none⟩->¬q.turns b) (g:l.length<=9223372036854775807) (j:∀n∈l,okI n) (f:D.pend.length<=1000000):
 Calls Tryz.prog 18 #[.pointer (some ⟨q.x,0,none⟩),.int .i64 s,.slice A2 l.length c2] w λer w'=>er=.returned (.tuple #[])/\Did w w' q (L2 D s l):=by
 have g1:=(gK w).alloc (.cells #[.int .i64 s] 3);have a:=gZ w 3 #[.int .i64 s] rfl;have m:¬q.turns w.heap.size:=λhh=>absurd (h.feet_lt _ (DevP.turns_feet q _ hh)) oo;have o:=zh (PE w.heap.size (h.grew g1) (DG s) A2 c2 l (λW=>Blk W w.heap.size 3 #[.int .i64 s]) ((hl.keep (gM _) g1).mono g1.size) i g j f (λW W' hk ht=>hk.turned ht m) (λW W' hk hg=>hk.grew hg) a (λW r hk=>Vh s r _ W hk));have HG:=zh g1;clear h hl a;go_enter Tryz.func18,Tryz.ntmps18;go_wp2_with fail;refine (Rz s w).mono ?_;rintro er w1 ⟨rfl,rfl⟩;go_wp2_with fail;refine o.mono ?_;rintro er w2 ⟨rfl,q2,c,d,e⟩;have HD:=zh (show Did w w2 q (L2 D s l) from ⟨q2,c,(Foot'.refl w q).trans d HG.size,(HG.turned _).next e (λk _ hk=>DevP.turns_feet q k hk)⟩);clear c d e;go_wp2_with fail;refine bodyPost_end (results_none rfl _ _ _) rfl ?_;exact ⟨rfl,HD⟩
theorem ak (e:Int) (an:D.pend.length<=1000000):
 Calls Tryz.prog 185 #[.pointer (some ⟨q.x,0,none⟩),.agg #[.int .i64 s,.int .i64 e]] w λer w'=>er=.returned (.int .i64 (CW D s e).2)/\Did w w' q (CW D s e).1:=by
 have HH:=zh h;have u:=(gK w).alloc (.cells #[.int .i64 s,.int .i64 e] 37);have f:=gZ w 37 #[.int .i64 s,.int .i64 e] rfl;have a0:=f.cell 0;have a1:=f.cell 1;have J:=zh (PZ (w.alloc (.cells #[.int .i64 s,.int .i64 e] 37)) s e);cases hp:Cr s e with
 | false=>
   have HV:=zh (show CW D s e=(D,1) from by unfold CW;rw [if_pos hp]);have HP:=zh hp;clear h hp f;go_enter Tryz.func185,Tryz.ntmps185;go_wp2_with fail;refine J.mono ?_;rw [HP.out];rintro er w1 ⟨rfl,g1⟩;have hG:=u.trans g1;go_wp2_with fail;go_ret;rw [HV.out];exact ⟨rfl,Did.same HH hG⟩
 | true=>
   have HV:=zh (show CW D s e=if (AY D s e).2≠0 then AY D s e else (BQ (AY D s e).1 (DG s) (λ_=>140),0) from by unfold CW;rw [if_neg (by rw [hp];simp)]);have HP:=zh hp;have K:=λhz=>zh (Hf (D:=D) (s:=s) (e:=e) hz);clear h hp f;generalize hAD:AY D s e=AD at*
   obtain ⟨D1,Z⟩:=AD;have av:=zh hAD;clear hAD;go_enter Tryz.func185,Tryz.ntmps185;go_wp2_with fail;refine J.mono ?_;rw [HP.out];rintro er w1 ⟨rfl,g1⟩;have hG:=u.trans g1;have b0:=(g1.cellEq w.heap.size 0 qs).trans a0;have b1:=(g1.cellEq w.heap.size 1 qs).trans a1;have L:=zh (PP (HH.grew hG) s e HP oo);have HG:=zh hG;have a2:w.heap.size<w1.heap.size:=by have:=g1.size;simp at this;omega
   rw [av.out] at L;clear g1 a0 a1 u hG;go_wp2_with fail;refine L.mono ?_;rintro er w3 ⟨rfl,q3,F,G,d⟩;have v:=zh G;have a3:¬q.feet w.heap.size:=λhh=>absurd (HH.feet_lt _ hh) oo;have y:=(d.cellEq w.heap.size 0 a2 a3).trans b0;have g:=zh F;have M:w.heap.size<w3.heap.size:=by have:=d.size;omega
   have a4:=zh (show Did w1 w3 q D1 from ⟨q3,F,G,d⟩);have a5:=zh d;clear G F d b0 b1;by_cases hz:Z=0
   . subst hz;obtain ⟨fu,ad⟩:=(K rfl).out;have N:D1.pend=D.pend:=by rw [ad]
     have a6:D1.pend.length<=1000000:=by rw [N];exact an
     obtain ⟨A,c,ae,b5,b6,br⟩:=g.pend_list;have l:=g.blk;rw [v.out.x,ae] at l;have bs:=l.lt;have x2:=l.cell 2;have a7:=Gw w3 D1.pend.length Tryz.underlying38 KC rfl oo a6;have O:=OwnL.made w3 0 3 D1.pend.length (.int .i64 0) (ia _) oo rfl;have z:=(gK w3).alloc (.cells (Array.replicate D1.pend.length (.int .i64 0)) 3);have P:=zh z;have Q:=zh O;have R:=(z.cellEq _ _ M).trans y;have a8:=zh y;clear ad N K l ae br z O y;generalize hn:D1.pend.length=n at*
     have HN:=zh hn;clear hn;go_wp2_with fail;obtain ⟨w4,t⟩:∃w4,w4=w3.alloc (.cells (Array.replicate n (.int .i64 0)) 3):=⟨_,rfl⟩;rw [<-t] at P Q R ⊢;have bt:w3.heap.size<w4.heap.size:=by rw [t];simp
     have bv:w4.heap.size=w3.heap.size+1:=by rw [t];simp
     clear t x2 a7
     go_loopg [25] n (λgk iv wr=>∃j:Nat,j<=n/\gk=n - j/\iv=.int .i64 (j:Int)/\OwnL wr 0 3 1 (.slice (some ⟨w3.heap.size,0,none⟩) n n) ((List.replicate j (140:Int)++List.replicate (n - j) 0).map CF)/\Turned (λk=>k=w3.heap.size) w4 wr)
     case atStart=>exact ⟨0,oo,rfl,rfl,by rw [List.replicate_zero,nil_append,List.map_replicate];exact Q.out,iR _ _⟩
     case round=>
      obtain ⟨j,hj,al,rfl,a,I⟩:=hrel;have a9:=zh al;have S:=zh I;have bb:=zh a;have bx:=I.size;clear al;by_cases b4:j<n
      . have B:((List.replicate j (140:Int)++List.replicate (n - j) 0).map CF)[j]? =some (CF 0):=by
         rw [gP,iq qs,jT,Nat.sub_self,jp,if_pos oo];rfl
        have c0:=a.cell (i:=0) B rfl;rw [Nat.mul_one,jH] at c0;have f0:=a.frozen j;have hs:=a.set_ (j:=j) (i:=0) (o:=j) B oo oo (.int .i64 140)
        have he:((List.replicate j (140:Int)++List.replicate (n - j) 0).map CF).set j ((CF 0).set 0 (.int .i64 140))=(List.replicate (j+1) (140:Int)++List.replicate (n - (j+1)) 0).map CF:=by
         rw [show (CF 0).set 0 (.int .i64 140)=CF 140 from rfl,<-List.map_set];congr 1;rw [List.set_append_right _ _ qs,jT,Nat.sub_self,show n - j=(n - (j+1))+1 by omega,List.replicate_succ,set_cons_zero,List.replicate_succ',iZ];rfl
        rw [he] at hs;have HS:=zh hs;clear hs he B a I;go_wp2_with fail
        go_roundg (n - (j+1))
        case measure=>rw [a9.out];omega
        case rel=>exact ⟨j+1,oo,oo,by go_num,HS,S.setCell (p:=⟨w3.heap.size,j,none⟩) (λ_=>rfl) _⟩
      . obtain rfl:j=n:=oo;have a:=bb.out;rw [Nat.sub_self,List.replicate_zero,append_nil] at a;have m:Grew w3 wr:=P.turn S (λk hk=>oo);have b2:=(m.cellEq _ _ M).trans a8;have C:=g.grew m;have g5:=(gK wr).alloc (.cells #[.int .i64 s] 3);have T:=gZ wr 3 #[.int .i64 s] rfl;have bc:q3.x=q.x:=v.x;have bd:¬q3.turns wr.heap.size:=λhh=>absurd (C.feet_lt _ (DevP.turns_feet _ _ hh)) oo;have bf:¬q3.turns w3.heap.size:=λhh=>absurd (g.feet_lt _ (DevP.turns_feet _ _ hh)) oo;have U:ListAt wr wr.heap.size 1 (some ⟨w3.heap.size,0,none⟩) ((List.replicate j (140:Int)).map CF):=a.listA
        have E:=PE wr.heap.size (C.grew g5) (DG s) (some ⟨w3.heap.size,0,none⟩) j (List.replicate j 140) (λW=>Blk W wr.heap.size 3 #[.int .i64 s]) ((U.keep (gM _) g5).mono g5.size) (λ_ b off he hb=>by
         injection he with he
         injection he with he _ _
         rw [<-he] at hb
         exact bf hb) (by rw [jT];omega) (λn hn=>by rw [(jn.1 hn).2];unfold okI;omega) (by rw [HN.out];omega) (λW W' hk ht=>hk.turned ht bd) (λW W' hk hg=>hk.grew hg) T (λW r hk=>Vh s r _ W hk)
        rw [jT,bc] at E;have bk:=zh E;have V:=zh m;clear a m C g5 T U E R;go_wp2_with fail;refine (Rz s wr).mono ?_;rintro er w5 ⟨rfl,rfl⟩;go_wp2_with fail;refine bk.mono ?_;rintro er w6 ⟨rfl,q6,H,X,Y⟩
        have bl:BQ D1 (DG s) (svN (List.replicate j 140))=BQ D1 (DG s) (λ_=>140):=Oo _ _ _ _ (λi hi=>by
         unfold svN
         rw [iE,jp,if_pos (by rw [HN.out] at hi;exact hi)];rfl)
        rw [bl] at H;have bn:=zh (show Did w3 w6 q3 (BQ D1 (DG s) (λ_=>140)) from ⟨q6,H,(Foot'.refl w3 q3).trans X (by have:=V.size;simp;omega),((V.alloc _).turned _).next Y (λk _ hk=>DevP.turns_feet _ k hk)⟩);clear H X Y;go_wp2_with fail;go_ret;rw [HV.out,if_neg qd];exact ⟨rfl,Did.trans (Foot'.refl w q) (HG.turned _) (Did.trans v a5 bn)⟩
   . have b3:(Z==0)=false:=iD.2 hz;have HZ:=zh hz;clear hz;go_wp2_with fail;go_ret;rw [HV.out,if_pos HZ.out];exact ⟨rfl,Did.trans (Foot'.refl w q) (HG.turned _) a4⟩
end

theorem OwnL.base0 {w:World} {b e sz:Nat} {v:Value} {rows:List (List Value)} (h:OwnL w b e sz v rows):OwnL w 0 e sz v rows:=by
 refine ⟨h.1,h.2.1,?_⟩;rcases h.2.2 with h0 | ⟨g,cap,a,h1,h2,h3⟩
 . exact .inl h0
 . exact .inr ⟨g,cap,a,h1,ia _,h3⟩
theorem WI (A:Option Addr) (c n:Nat) (l:List Int) (w:World) (hn:n=l.length) (hl:l.length<=1000000) (hr:ListAt w w.heap.size 1 A (l.map CF)):
 Calls Tryz.prog 52 #[.slice A n c] w λe w'=>∃v,e=.returned v/\OwnL w' w.heap.size 3 1 v (l.map CF)/\Grew w w':=by
 subst hn;cases A with
 | none=>
   have h0:l=[]:=by
    rcases Nat.eq_zero_or_pos l.length with h0 | h0
    . exact jm.1 h0
    . obtain ⟨b,i,e,_⟩:=hr (by rw [gO];exact h0);cases e
   subst h0;have a:=λ(W:World)=>Lib.run_eql_slice_nil (P:=Tryz.prog) W 38 3 none 0 c 0 0 Tryz.underlying38;go_enter Tryz.func52,Tryz.ntmps52
   go_wp2
   go_ret;exact ⟨_,rfl,OwnL.nil _ _ _ _,gG⟩
 | some ad=>
   have a:=λ(W:World)=>Lib.run_eql_slice_nil (P:=Tryz.prog) W 38 3 (some ad) l.length c 0 0 Tryz.underlying38;have d:=ListAt.mono (B':=w.heap.size+1) (hr.keep (gM _) ((gK w).alloc (.cells #[] 3))) oo;go_enter Tryz.func52,Tryz.ntmps52;go_wp2_with (at_builtin;refine Be (by rfl) _ _ 38 rfl w.heap.size 3 1 8 _ Tryz.underlying38 KC rfl qd _ [] (l.map CF) (by rfl) (OwnL.empty w _ _ _ (gM _) rfl) _ l.length _ (by rfl) qs (by intro r hr;obtain ⟨x,_,rfl⟩:=gV.1 hr;rfl) (by simpa using d) (by intro r hr;obtain ⟨x,_,rfl⟩:=gV.1 hr;rfl) (by simp;omega) (by simp;omega) qs ?_;intro v1 w3 f g h);go_ret;exact ⟨v1,rfl,f,Grew.own ((gK w).alloc _) g (by simp [Value.ownBlock]) (gM _)⟩
section
variable {w:World} {q:DevP} {D:Dev} (h:DevM w q D)
include h
theorem Uu:Calls Tryz.prog 20 #[.pointer (some ⟨q.x,0,none⟩)] w λer w'=>er=.returned (.tuple #[])/\Did w w' q (BR D):=by
 have HH:=zh h;have hb:=h.blk;have b:=hb.lt;have x4:=hb.cell 4;have x5:=hb.cell 5;have x6:=hb.cell 6;have x7:=hb.cell 7;have f4:=hb.frozen 4;have f5:=hb.frozen 5;have f6:=hb.frozen 6;have f7:=hb.frozen 7;clear h hb;go_enter Tryz.func20,Tryz.ntmps20;go_wp2_with fail;go_end0;have hh:=HH.out;have a:=(((((iR (λk=>k=q.x) w).setCell (p:=⟨q.x,7,none⟩) (λ_=>rfl) (.bool false)).setCell (p:=⟨q.x,4,none⟩) (λ_=>rfl) (.bool false)).setCell (p:=⟨q.x,5,none⟩) (λ_=>rfl) (.int .i64 0)).setCell (p:=⟨q.x,6,none⟩) (λ_=>rfl) (.slice none 0 0));exact ⟨rfl,_,hh.rex a false 0 [] (.slice none 0 0) false none (((((hh.blk.set_ 7 _).set_ 4 _).set_ 5 _).set_ 6 _).conv rfl) (OwnL.nil _ _ _ _) rfl oo ⟨(λn hn=>by cases hn),qd⟩,FM w q _ _ _ _ (λk hk=>by cases hk),a.mono (λk _ hk=>.inl hk)⟩
theorem ZY (n:Int) (hn:okI n) (A2:Option Addr) (c2:Nat) (l:List Int) (hl:ListAt w w.heap.size 1 A2 (l.map CF)) (i:l.length<=1000000) (r:∀n∈l,okI n):
 Calls Tryz.prog 17 #[.pointer (some ⟨q.x,0,none⟩),.int .i64 n,.slice A2 l.length c2] w λer w'=>er=.returned (.tuple #[])/\Did w w' q (MF D n l):=by
 have HH:=zh h;have hb:=h.blk;have u:=hb.lt;unfold okI at hn;cases hf:D.failed with
 | true=>
   have HV:=zh (show MF D n l=D from by unfold MF;rw [if_pos hf]);have x7:=hb.cell 7;rw [hf] at x7;clear h hb hf;go_enter Tryz.func17,Tryz.ntmps17;go_wp2_with fail;refine gw (results_none rfl _ _ _) rfl ?_;rw [HV.out];exact ⟨rfl,Did.same HH (gK _)⟩
 | false=>
   have HF:=zh hf;have HC:=zh (WI A2 c2 l.length l w rfl i hl);have j:=zh r;have HV:=zh (show MF D n l={ D with fuse:=some ((max 0 n).toNat,l) } from by unfold MF;rw [if_neg (by rw [hf];decide)]);have x7:=hb.cell 7;rw [hf] at x7;clear h hb hf r hl;obtain ⟨m,hm⟩:∃m:Nat,(max 0 n).toNat=m:=⟨_,rfl⟩;rw [hm] at HV;have y:(m:Int)<=9223372036854775807:=oo;have o:=zh (show (some (m,l):Option (Nat × List Int))=if true then some ((m:Int).toNat,l) else none from qs);rcases Int.lt_trichotomy n 0 with h0 | rfl | h0
   . obtain rfl:m=0:=oo;clear hm;go_enter Tryz.func17,Tryz.ntmps17;go_wp2_with fail;refine HC.mono ?_;rintro er w1 ⟨v,rfl,b,hg⟩;obtain ⟨A5,c5,rfl,f,t,_⟩:=b.listAt;rw [gO] at b f;have a:=HH.blk.grew hg;have s:=a.lt;have x4:=a.cell 4;have x5:=a.cell 5;have x6:=a.cell 6;have f4:=a.frozen 4;have f5:=a.frozen 5;have f6:=a.frozen 6;have HG:=zh hg;have c:=zh b;clear hg b a x7;go_wp2_with fail;go_end0;rw [HV.out];have hh:=HH.grew HG;have d:=((((iR (λk=>k=q.x) w1).setCell (p:=⟨q.x,4,none⟩) (λ_=>rfl) (.bool true)).setCell (p:=⟨q.x,5,none⟩) (λ_=>rfl) (.int .i64 0)).setCell (p:=⟨q.x,6,none⟩) (λ_=>rfl) (.slice A5 l.length c5));exact ⟨rfl,_,hh.rex d true 0 l _ D.failed _ ((((hh.blk.set_ 4 _).set_ 5 _).set_ 6 _).conv rfl) (c.base0.kept d (λg hg e=>c.ne_blk hh.blk qd (by rw [hg,e]))) o oo ⟨j,i⟩,FM w q _ _ _ _ (λk hk=>.inr (c.own_ge hk).1),(HG.turned _).trans (d.mono (λk _ hk=>.inl hk))⟩
   . obtain rfl:m=0:=oo;clear hm;go_enter Tryz.func17,Tryz.ntmps17;go_wp2_with fail;refine HC.mono ?_;rintro er w1 ⟨v,rfl,b,hg⟩;obtain ⟨A5,c5,rfl,f,t,_⟩:=b.listAt;rw [gO] at b f;have a:=HH.blk.grew hg;have s:=a.lt;have x4:=a.cell 4;have x5:=a.cell 5;have x6:=a.cell 6;have f4:=a.frozen 4;have f5:=a.frozen 5;have f6:=a.frozen 6;have HG:=zh hg;have c:=zh b;clear hg b a x7;go_wp2_with fail;go_end0;rw [HV.out];have hh:=HH.grew HG;have d:=((((iR (λk=>k=q.x) w1).setCell (p:=⟨q.x,4,none⟩) (λ_=>rfl) (.bool true)).setCell (p:=⟨q.x,5,none⟩) (λ_=>rfl) (.int .i64 0)).setCell (p:=⟨q.x,6,none⟩) (λ_=>rfl) (.slice A5 l.length c5));exact ⟨rfl,_,hh.rex d true 0 l _ D.failed _ ((((hh.blk.set_ 4 _).set_ 5 _).set_ 6 _).conv rfl) (c.base0.kept d (λg hg e=>c.ne_blk hh.blk qd (by rw [hg,e]))) o oo ⟨j,i⟩,FM w q _ _ _ _ (λk hk=>.inr (c.own_ge hk).1),(HG.turned _).trans (d.mono (λk _ hk=>.inl hk))⟩
   . obtain rfl:n=(m:Int):=oo;clear hm;go_enter Tryz.func17,Tryz.ntmps17;go_wp2_with fail;refine HC.mono ?_;rintro er w1 ⟨v,rfl,b,hg⟩;obtain ⟨A5,c5,rfl,f,t,_⟩:=b.listAt;rw [gO] at b f;have a:=HH.blk.grew hg;have s:=a.lt;have x4:=a.cell 4;have x5:=a.cell 5;have x6:=a.cell 6;have f4:=a.frozen 4;have f5:=a.frozen 5;have f6:=a.frozen 6;have HG:=zh hg;have c:=zh b;clear hg b a x7;go_wp2_with fail;go_end0;rw [HV.out];have hh:=HH.grew HG;have d:=((((iR (λk=>k=q.x) w1).setCell (p:=⟨q.x,4,none⟩) (λ_=>rfl) (.bool true)).setCell (p:=⟨q.x,5,none⟩) (λ_=>rfl) (.int .i64 (m:Int))).setCell (p:=⟨q.x,6,none⟩) (λ_=>rfl) (.slice A5 l.length c5));exact ⟨rfl,_,hh.rex d true (m:Int) l _ D.failed _ ((((hh.blk.set_ 4 _).set_ 5 _).set_ 6 _).conv rfl) (c.base0.kept d (λg hg e=>c.ne_blk hh.blk qd (by rw [hg,e]))) o oo ⟨j,i⟩,FM w q _ _ _ _ (λk hk=>.inr (c.own_ge hk).1),(HG.turned _).trans (d.mono (λk _ hk=>.inl hk))⟩
end

section
variable {w:World} {q:DevP} {D:Dev} (h:DevM w q D)
include h
omit h in
theorem Wp (W:World) (g cap:Nat) (u:ByteArray) (hu:u.size=140) (hc:∀j (hj:j<u.size),W.cell? ⟨g,j,none⟩=some (.int .u8 (u[j].toNat:Int))):(convert 169 9 (.slice (some ⟨g,0,none⟩) 140 cap)).run Tryz.prog W=.ok (.string u) W:=by
 have h:=run_convert_bytes_back (P:=Tryz.prog) W 169 9 5 ⟨g,0,none⟩ cap u.data.toList Tryz.underlying169 Tryz.underlying5 Tryz.underlying9 (λj hj=>by
  have:(⟨g,0,none⟩:Addr).add j=⟨g,j,none⟩:=by unfold Addr.add;split<;>simp_all
  rw [this]
  exact hc j (by rw [ig] at hj;exact hj))
 have hl:u.data.toList.length=140:=by rw [ig];exact hu
 rw [hl] at h;exact h
end

theorem Vg {o:Oper} {a:Act} {w w':World} {K:Act->World->Prop} {Q:Exit->Act->World->Prop} (t:TypeId) (x y:Operand) (c:o.op=.makeSlice t x y) {vx vy v:Value} (hx:a.eval x=vx) (hy:a.eval y=vy) (b:(Instr.makeSlice t vx vy).run Tryz.prog w=.ok v w') (h:K (a.put o.dst v) w'):o.wp Tryz.prog a w K Q:=by
 unfold Oper.wp;simp [execOp,c,hx,hy,b,Result.andThen];exact h
theorem TV {o:Oper} {a:Act} {w:World} {K:Act->World->Prop} {Q:Exit->Act->World->Prop} (t:TypeId) (b:o.op=.makeMap t none) (h:K (a.put o.dst (.map (some w.heap.size))) (w.alloc (.map #[] 0))):o.wp Tryz.prog a w K Q:=by
 have hr:=run_makeMap (P:=Tryz.prog) t w;unfold Oper.wp;simp [execOp,b,hr,Result.andThen];exact h
theorem Yb:(Tryz.prog.info? 60).map (λi=>(i.zero,i.size,i.bytes))=some (some (.slice none 0 0),1,24):=qk
theorem Xz:(Tryz.prog.info? 5).map (λi=>(i.zero,i.size,i.bytes))=some (some (.int .u8 0),1,1):=qk
def Kr (n:Nat):ByteArray:=⟨(List.replicate n (0:UInt8)).toArray⟩
def blank:ByteArray:=Kr 140
theorem KI:blank.size=140:=by simp [blank,Kr,ByteArray.size]
theorem Y3 (n j:Nat) (hj:j<(Kr n).size):(Kr n)[j]=0:=by
 have h':j<((List.replicate n (0:UInt8)).toArray).size:=hj;have:((List.replicate n (0:UInt8)).toArray)[j]'h'=0:=qs;exact this
theorem bX (j:Nat) (hj:j<blank.size):blank[j]=0:=Y3 140 j hj
def ER (n:Nat):Dev:=⟨List.replicate n blank,List.replicate n [],[],λ_=>0,none,false⟩
theorem QY (n:Nat) (h1:1<=n) (h2:n<=1155):(ER n).Ok:=by
 refine ⟨by simp [ER],by simpa [ER] using h1,by simpa [ER] using h2,λs hs=>?_,λl hl=>?_,λr hr=>(by cases hr),λs=>(by show (0:Int)<=0/\(0:Int)<=_;omega)⟩
 . rw [(jn.1 hs).2];exact KI
 . rw [(jn.1 hl).2];simp
def NewR (w:World) (n:Nat) (i:Nat) (v:Value) (w':World):Prop:=
 (i=1->OwnL w' w.heap.size 9 1 v (List.replicate n [.string ⟨#[]⟩]))/\(i=3->OwnL w' w.heap.size 60 1 v (List.replicate n [.slice none 0 0]))/\(i=4->∃m,v=.map (some m)/\w.heap.size<=m/\MapI w' m (λ_=>none))
theorem NewR.grew {w:World} {n i:Nat} {v:Value} {w1 w2:World} (hg:Grew w1 w2) (h:NewR w n i v w1):NewR w n i v w2:=by
 refine ⟨λhi=>(h.1 hi).grew hg,λhi=>(h.2.1 hi).grew hg,λhi=>?_⟩;obtain ⟨m,h1,h2,h3⟩:=h.2.2 hi;exact ⟨m,h1,h2,h3.grew hg⟩
theorem dM (n:Nat) (w:World) (h1:1<=n) (h2:n<=1155):Calls Tryz.prog 68 #[.int .i64 (n:Int)] w λe w'=>∃x q,e=.returned (.tuple #[.pointer (some ⟨x,0,none⟩),.int .i64 0])/\q.x=x/\DevM w' q (ER n)/\Grew w w'/\∀k,q.feet k->w.heap.size<=k:=by
 have hS:(λ_:World=>True) w.drew:=trivial;go_enter Tryz.func68,Tryz.ntmps68;go_wp2_with fail;refine AB [] (λ_:World=>True) qk ?_;refine tQ 0 13 ?_;refine tQ 2 15 ?_;refine VF [(1,14),(3,16),(4,17)] (NewR w n) (fuel:=3) rfl qk (λi v w1 w2 hg h=>h.grew hg) (λ_ _ _ _=>trivial) ?_ ?_
 . intro p hp a' w' hg I K' hK;have C:a'.eval (.tmp 13)=.int .i64 (n:Int):=(I 13 qd).trans rfl;have D:a'.eval (.tmp 15)=.int .i64 (n:Int):=(I 15 qd).trans rfl;rcases jB.1 hp with rfl | hp
   . refine ⟨_,rfl,?_⟩;rw [if_pos (by rfl)];refine Vg 60 (.tmp 13) (.tmp 13) rfl C C (Gw w' n Tryz.underlying60 NR rfl oo oo) ?_;refine hK.out _ _ ((gK w').alloc _) ⟨λ_=>OwnL.made w' w.heap.size _ n _ hg.size oo rfl,λh=>absurd h qd,λh=>absurd h qd⟩
   . rcases jB.1 hp with rfl | hp
     . refine ⟨_,rfl,?_⟩;rw [if_pos (by rfl)];refine Vg 117 (.tmp 15) (.tmp 15) rfl D D (Gw w' n Tryz.underlying117 Yb rfl oo oo) ?_;refine hK.out _ _ ((gK w').alloc _) ⟨λh=>absurd h qd,λ_=>OwnL.made w' w.heap.size _ n _ hg.size oo rfl,λh=>absurd h qd⟩
     . obtain rfl:=gQ.1 hp;refine ⟨_,rfl,?_⟩;rw [if_pos (by rfl)];refine TV 119 rfl ?_;exact hK.out _ _ ((gK w').alloc _) ⟨λh=>absurd h qd,λh=>absurd h qd,λ_=>⟨w'.heap.size,rfl,hg.size,MapIs.made w' rfl⟩⟩
 . intro J w1 K hR;have h3:=(hR (1,14) qd).1 rfl;have h4:=(hR (3,16) qd).2.1 rfl;obtain ⟨m,h5,h6,h7⟩:=(hR (4,17) qd).2.2 rfl;clear hS;have hS:(λ_:World=>True) w1:=trivial;simp only [IJ,Il,if_true,Act.put,setIfInBounds_toArray,set_cons_zero,set_cons_succ];generalize J 1=v1 at*
   generalize J 3=v3 at*
   rw [h5];clear h5 hR
   obtain ⟨g1,c1,rfl,W,a3,a4,a5⟩:∃g c,v1=.slice (some ⟨g,0,none⟩) n c/\w.heap.size<=g/\g<w1.heap.size/\n<=c/\c<=9223372036854775807:=by
    rcases h3.form with ⟨_,h0⟩ | ⟨g,c,e1,e2,e3,e4,e5⟩
    . have:=iH length h0;simp at this;omega
    . rw [jT] at e1 e4;exact ⟨g,c,e1,e2,e3,e4,e5⟩
   obtain ⟨g3,c3,rfl,b,a6,a7,a8⟩:∃g c,v3=.slice (some ⟨g,0,none⟩) n c/\w.heap.size<=g/\g<w1.heap.size/\n<=c/\c<=9223372036854775807:=by
    rcases h4.form with ⟨_,h0⟩ | ⟨g,c,e1,e2,e3,e4,e5⟩
    . have:=iH length h0;simp at this;omega
    . rw [jT] at e1 e4;exact ⟨g,c,e1,e2,e3,e4,e5⟩
   have H3:=zh h3;have H4:=zh h4;have H7:=zh h7;have N:=zh K;clear h3 h4 h7 K;refine tQ 5 18 ?_;refine tO 6 λK' hK=>?_;go_wp2_with fail;refine hK.out _ _ (.inr (λh=>h)) ?_;clear hK hS;have hS:(λ_:World=>True) w1:=trivial;refine tQ 7 4 ?_;refine AA qk ?_ _;clear hS;have f:=gZ w1 123 #[.slice (some ⟨g1,0,none⟩) n c1,.slice (some ⟨g3,0,none⟩) n c3,.slice none 0 0,.map (some m),.bool false,.int .i64 0,.slice none 0 0,.bool false] rfl;have r:=(gK w1).alloc (.cells #[.slice (some ⟨g1,0,none⟩) n c1,.slice (some ⟨g3,0,none⟩) n c3,.slice none 0 0,.map (some m),.bool false,.int .i64 0,.slice none 0 0,.bool false] 123);obtain ⟨w2,L⟩:∃w2,w2=w1.alloc (.cells #[.slice (some ⟨g1,0,none⟩) n c1,.slice (some ⟨g3,0,none⟩) n c3,.slice none 0 0,.map (some m),.bool false,.int .i64 0,.slice none 0 0,.bool false] 123):=⟨_,rfl⟩;rw [<-L] at f r ⊢;clear L;have E:=Gw w2 140 Tryz.underlying169 Xz rfl oo oo
   have X:=Wp (w2.alloc (.cells (Array.replicate 140 (.int .u8 0)) 5)) w2.heap.size 140 blank KI (λj hj=>by
    rw [cell_of_row _ w2.heap.size j _ _ _ (heap_alloc_new w2 _),Array.getElem?_replicate,if_pos (by rw [KI] at hj;exact hj)]
    rw [bX j hj];rfl)
   have t:=r.alloc (.cells (Array.replicate 140 (.int .u8 0)) 5);have b:=f.alloc (.cells (Array.replicate 140 (.int .u8 0)) 5);have Y:=b.lt;have x0:=b.cell 0;have O:=zh (H3.grew t);have F:=zh b;have P:=zh t;have Z:w1.heap.size<w2.heap.size:=f.lt;clear f r b t;have ad:(Instr.makeSlice 169 (.int .i64 140) (.int .i64 140)).run Tryz.prog w2=.ok (.slice (some ⟨w2.heap.size,0,none⟩) 140 140) (w2.alloc (.cells (Array.replicate 140 (.int .u8 0)) 5)):=E;clear E;generalize hwc:w2.alloc (.cells (Array.replicate 140 (.int .u8 0)) 5)=w3 at*
   have ae:w3.heap.size=w2.heap.size+1:=by rw [<-hwc];simp
   clear hwc;go_wp2_with fail
   go_loopg [27] n (λgk iv wr=>∃j:Nat,j<=n/\gk=n - j/\iv=.int .i64 (j:Int)/\OwnL wr w.heap.size 9 1 (.slice (some ⟨g1,0,none⟩) n c1) ((List.replicate j blank++List.replicate (n - j) emp).map Ba)/\Turned (λk=>k=g1) w3 wr)
   case atStart=>exact ⟨0,oo,rfl,rfl,by rw [List.replicate_zero,nil_append,List.map_replicate];exact O.out,iR _ _⟩
   case round=>
    obtain ⟨j,hj,M,rfl,a,d⟩:=hrel;have Q:=zh M;have u:=zh d;have al:=zh a;have an:=d.size;have G:¬w1.heap.size=g1:=oo;have y:=F.turned d G;have av:=y.cell 0;have a0:=y.lt;clear M y x0;by_cases a2:j<n
    . have z:((List.replicate j blank++List.replicate (n - j) emp).map Ba)[j]? =some (Ba emp):=by
       rw [gP,iq qs,jT,Nat.sub_self,jp,if_pos oo];rfl
      have c0:=a.cell (i:=0) z rfl;rw [Nat.mul_one,jH] at c0;have f0:=a.frozen j;have hs:=a.set_ (j:=j) (i:=0) (o:=j) z oo oo (.string blank)
      have he:((List.replicate j blank++List.replicate (n - j) emp).map Ba).set j ((Ba emp).set 0 (.string blank))=(List.replicate (j+1) blank++List.replicate (n - (j+1)) emp).map Ba:=by
       rw [show (Ba emp).set 0 (.string blank)=Ba blank from rfl,<-List.map_set];congr 1;rw [List.set_append_right _ _ qs,jT,Nat.sub_self,show n - j=(n - (j+1))+1 by omega,List.replicate_succ,set_cons_zero,List.replicate_succ',iZ];rfl
      rw [he] at hs;have HS:=zh hs;clear hs he z a d;go_wp2_with fail
      go_roundg (n - (j+1))
      case measure=>rw [Q.out];omega
      case rel=>exact ⟨j+1,oo,oo,by go_num,HS,u.setCell (p:=⟨g1,j,none⟩) (λ_=>rfl) _⟩
    . obtain rfl:j=n:=oo;have A:=a;rw [Nat.sub_self,List.replicate_zero,append_nil] at A;have R:=zh A;clear a A d;go_wp2_with fail;go_ret2;have H:Grew w w1:=(gK w).drew.trans N;have a1:Grew w1 wr->True:=λ_=>trivial;have B:Turned (λk=>k=g1) w1 wr:=(P.turned _).trans u
      have S:g3≠g1:=by
       have h1:=H3.out;have h2:=H4.out;intro e;exact BH h1 h2 qd g1 rfl (by rw [e];rfl)
      have T:m≠g1:=λe=>DX H3 H7 (by rw [e];rfl);refine ⟨w1.heap.size,⟨w1.heap.size,m,.slice (some ⟨g1,0,none⟩) j c1,.slice (some ⟨g3,0,none⟩) j c3,.slice none 0 0,.slice none 0 0,List.replicate j (.slice none 0 0),false,0,[],λ_=>none⟩,rfl,rfl,?_,?_,?_⟩
      . refine ⟨F.turned u G,R.base0,?_,by simp [ER],λi v l hv hl=>?_,OwnL.nil _ _ _ _,OwnL.nil _ _ _ _,H7.turned B T,λs _ _=>.inl ⟨rfl,rfl⟩,rfl,(by show (0:Int)<=0/\(0:Int)<=_;omega),⟨λn hn=>(by cases hn),ia _⟩,QY j h1 h2⟩
        . rw [List.map_replicate];exact H4.base0.kept B (λg hg e=>S (by injection hg with hg;exact hg.trans e))
        . have U:=(jn.1 (jL hv)).2;have V:=(jn.1 (jL hl)).2;subst U;subst V;exact ⟨OwnL.nil _ _ _ _,λg hg=>(by cases hg)⟩
      . exact H.turn B (λk hk=>oo)
      . intro k hk;rcases hk with hk | hk | hk | hk | hk | hk | ⟨v,hv,hk⟩
        . rw [hk];exact H.size
        . rw [hk];exact h6
        . injection hk with hk;subst hk;exact W
        . injection hk with hk;subst hk;exact b
        . cases hk
        . cases hk
        . rw [(jn.1 hv).2] at hk;cases hk

theorem X6 {a b:ByteArray} (h:a=b):Ending.returned (.string a)=.returned (.string b):=by rw [h]
def Gj (n:Nat) (s:ByteArray):ByteArray:=s++Kr (n - s.size)
theorem TR (n:Nat) (s:ByteArray) (h:n<=s.size):Gj n s=s:=by
 unfold Gj;rw [show n - s.size=0 by omega];show s++⟨#[]⟩=s;exact jW
theorem R4 (n:Nat) (s:ByteArray) (h:s.size<n):Gj n s=Gj n (s++⟨#[0]⟩):=by
 unfold Gj;have hs:(s++(⟨#[0]⟩:ByteArray)).size=s.size+1:=by simp [gy];rfl
 rw [hs,show n - s.size=(n - (s.size+1))+1 by omega];rw [jJ];congr 1
theorem Kl (s:ByteArray) (n:Nat) (w:World) (hn:n<=2000) (hs:s.size<=1000000):
 Calls Tryz.prog 63 #[.string s,.int .i64 (n:Int)] w λe w'=>e=.returned (.string (Gj n s))/\w=w':=by
 go_enter Tryz.func63,Tryz.ntmps63;go_wp2_with fail
 go_loopg [0] (n+1 - s.size) (λgk v wr=>w=wr/\∃u:ByteArray,v=.string u/\gk=n+1 - u.size/\u.size<=1000000/\Gj n u=Gj n s)
 case atStart=>exact ⟨rfl,s,rfl,rfl,hs,rfl⟩
 case round=>
  obtain ⟨rfl,u,rfl,c,hu,hp⟩:=hrel;have d:=zh c;have HP:=zh hp;clear c hp;have a:(u++(⟨#[0]⟩:ByteArray)).size=u.size+1:=by simp [gy];rfl
  have b:=zh a;clear a;by_cases i:u.size<n
  . have f:(u.size:Int)<(n:Int):=oo;have g:=zh (R4 n u i);go_wp2_with fail
    go_roundg (n+1 - (u.size+1))
    case measure=>rw [d.out];omega
    case rel=>exact ⟨rfl,_,rfl,by rw [b.out],by rw [b.out];omega,by rw [<-g.out];exact HP.out⟩
  . have f:¬(u.size:Int)<(n:Int):=oo;have h:=zh (TR n u oo);go_wp2_with fail;go_ret;exact ⟨X6 (by rw [<-HP.out,h.out]),rfl⟩

def Live (w0:World) (x:Nat) (D:Dev) (out:Nat->Prop) (ws:World):Prop:=
 ∃q:DevP,q.x=x/\DevM ws q D/\Grew w0 ws/\(∀k,q.feet k->w0.heap.size<=k)/\(∀k,out k->k<ws.heap.size/\¬q.feet k)
abbrev Beside (w0:World) (out:Nat->Prop) (ws ws':World):Prop:=Turned (λk=>w0.heap.size<=k/\¬out k) ws ws'
theorem Live.did {w0 ws:World} {x:Nat} {D D':Dev} {out:Nat->Prop} {f:Nat} {args:Array Value} {E:Ending->Prop} (h:Live w0 x D out ws) (hc:∀q:DevP,q.x=x->DevM ws q D->Calls Tryz.prog f args ws λe w'=>E e/\Did ws w' q D'):
 Calls Tryz.prog f args ws λe w'=>E e/\Live w0 x D' out w'/\Beside w0 out ws w':=by
 obtain ⟨q,hx,hd,hg,hf,ho⟩:=h;refine (hc q hx hd).mono ?_;rintro e w' ⟨he,q',c,a,b⟩;refine ⟨he,⟨q',a.x.trans hx,c,hg.turn b hf,λk hk=>(a.feet k hk).elim (hf k) (λh=>gY hg.size h),λk hk=>⟨gW (ho k hk).1 b.size,λh=>(a.feet k h).elim (ho k hk).2 (λh9=>absurd (ho k hk).1 oo)⟩⟩,b.mono (λk _ hk=>⟨hf k hk,λh=>(ho k h).2 hk⟩)⟩
theorem Live.look {w0 ws:World} {x:Nat} {D:Dev} {out:Nat->Prop} {f:Nat} {args:Array Value} {E:Ending->Prop} (h:Live w0 x D out ws) (hc:∀q:DevP,q.x=x->DevM ws q D->Calls Tryz.prog f args ws λe w'=>E e/\ws=w'):
 Calls Tryz.prog f args ws λe w'=>E e/\ws=w':=by
 obtain ⟨q,hx,hd,_⟩:=h;exact hc q hx hd
theorem Live.grew {w0 ws ws':World} {x:Nat} {D:Dev} {out:Nat->Prop} (h:Live w0 x D out ws) (hg:Grew ws ws'):Live w0 x D out ws':=by
 obtain ⟨q,hx,hd,a,hf,ho⟩:=h;exact ⟨q,hx,hd.grew hg,a.trans hg,hf,λk hk=>⟨gW (ho k hk).1 hg.size,(ho k hk).2⟩⟩
theorem Live.more {w0 ws ws':World} {x:Nat} {D:Dev} {out:Nat->Prop} (h:Live w0 x D out ws) (hg:Grew ws ws'):Live w0 x D (λk=>out k\/(ws.heap.size<=k/\k<ws'.heap.size)) ws':=by
 obtain ⟨q,hx,hd,a,hf,ho⟩:=h;refine ⟨q,hx,hd.grew hg,a.trans hg,hf,λk hk=>?_⟩;rcases hk with hk | hk
 . exact ⟨gW (ho k hk).1 hg.size,(ho k hk).2⟩
 . exact ⟨hk.2,λh=>absurd (hd.feet_lt k h) oo⟩
theorem Live.base {w0 ws:World} {x:Nat} {D:Dev} {out:Nat->Prop} (h:Live w0 x D out ws):Grew w0 ws:=by obtain ⟨_,_,_,h,_⟩:=h;exact h
theorem Live.ok {w0 ws:World} {x:Nat} {D:Dev} {out:Nat->Prop} (h:Live w0 x D out ws):D.Ok:=by obtain ⟨_,_,h,_⟩:=h;exact h.ok
theorem Live.few {w0 ws:World} {x:Nat} {D:Dev} {out out':Nat->Prop} (h:Live w0 x D out ws) (ho:∀k,out' k->out k):Live w0 x D out' ws:=by
 obtain ⟨q,hx,hd,a,hf,hn⟩:=h;exact ⟨q,hx,hd,a,hf,λk hk=>hn k (ho k hk)⟩
theorem Zu (n:Nat) (w:World) (h1:1<=n) (h2:n<=1155):Calls Tryz.prog 68 #[.int .i64 (n:Int)] w λe w'=>∃x,e=.returned (.tuple #[.pointer (some ⟨x,0,none⟩),.int .i64 0])/\Live w x (ER n) (λ_=>False) w':=by
 refine (dM n w h1 h2).mono ?_;rintro e w' ⟨x,q,rfl,hx,hd,hg,hf⟩;exact ⟨x,rfl,q,hx,hd,hg,hf,λk hk=>hk.elim⟩
section
variable {w0 ws:World} {x:Nat} {D:Dev} {out:Nat->Prop} (h:Live w0 x D out ws)
include h
theorem N5 (s e sec:Int) (data:ByteArray) (hsmall:D.pend.length<=999999) (hsz:data.size<=9223372036854775807):
 Calls Tryz.prog 183 #[.pointer (some ⟨x,0,none⟩),.agg #[.int .i64 s,.int .i64 e],.int .i64 sec,.string data] ws λer w'=>er=.returned (.int .i64 (BC D s e sec data).2)/\Live w0 x (BC D s e sec data).1 out w'/\Beside w0 out ws w':=
 h.did (λq hx hd=>by rw [<-hx];exact XN hd s e sec data hsmall hsz)
theorem Xa (s e:Int) (hsmall:D.pend.length<=1000000):
 Calls Tryz.prog 185 #[.pointer (some ⟨x,0,none⟩),.agg #[.int .i64 s,.int .i64 e]] ws λer w'=>er=.returned (.int .i64 (CW D s e).2)/\Live w0 x (CW D s e).1 out w'/\Beside w0 out ws w':=
 h.did (λq hx hd=>by rw [<-hx];exact ak hd s e hsmall)
theorem MW:Calls Tryz.prog 20 #[.pointer (some ⟨x,0,none⟩)] ws λer w'=>er=.returned (.tuple #[])/\Live w0 x (BR D) out w'/\Beside w0 out ws w':=
 h.did (λq hx hd=>by rw [<-hx];exact Uu hd)
def fp (w0:World) (out:Nat->Prop) (A:Option Addr) (n:Nat):Prop:=0<n->∀b off,A=some ⟨b,off,none⟩->b<w0.heap.size\/out b
theorem UV (s:Int) (A2:Option Addr) (c2:Nat) (l:List Int) (hl:ListAt ws ws.heap.size 1 A2 (l.map CF)) (hA:fp w0 out A2 l.length) (f:l.length<=9223372036854775807) (g:∀n∈l,okI n) (d:D.pend.length<=1000000):
 Calls Tryz.prog 18 #[.pointer (some ⟨x,0,none⟩),.int .i64 s,.slice A2 l.length c2] ws λer w'=>er=.returned (.tuple #[])/\Live w0 x (L2 D s l) out w'/\Beside w0 out ws w':=by
 obtain ⟨q,hx,hd,hg,hf,ho⟩:=h
 have i:0<l.length->∀b off,A2=some ⟨b,off,none⟩->¬q.turns b:=λhp b off e hb=>by
  rcases hA hp b off e with h9 | h9
  . exact absurd (hf b (DevP.turns_feet q b hb)) oo
  . exact (ho b h9).2 (DevP.turns_feet q b hb)
 have hc:=WS hd s A2 c2 l hl i f g d;rw [hx] at hc;refine hc.mono ?_;rintro e w' ⟨he,q',j,a,c⟩;exact ⟨he,⟨q',a.x.trans hx,j,hg.turn c hf,λk hk=>(a.feet k hk).elim (hf k) (λh=>gY hg.size h),λk hk=>⟨gW (ho k hk).1 c.size,λh=>(a.feet k h).elim (ho k hk).2 (λh9=>absurd (ho k hk).1 oo)⟩⟩,c.mono (λk _ hk=>⟨hf k hk,λh=>(ho k h).2 hk⟩)⟩
theorem WX (n:Int) (hn:okI n) (A2:Option Addr) (c2:Nat) (l:List Int) (hl:ListAt ws ws.heap.size 1 A2 (l.map CF)) (hlen:l.length<=1000000) (hlok:∀n∈l,okI n):
 Calls Tryz.prog 17 #[.pointer (some ⟨x,0,none⟩),.int .i64 n,.slice A2 l.length c2] ws λer w'=>er=.returned (.tuple #[])/\Live w0 x (MF D n l) out w'/\Beside w0 out ws w':=
 h.did (λq hx hd=>by rw [<-hx];exact ZY hd n hn A2 c2 l hl hlen hlok)
theorem Pa (i:Int) (s:ByteArray) (er:Int) (hr:Gg D i=(s,er)):Calls Tryz.prog 217 #[.pointer (some ⟨x,0,none⟩),.int .i64 i] ws λe w'=>e=.returned (.tuple #[.string s,.int .i64 er])/\ws=w':=
 h.look (λq hx hd=>by rw [<-hx];exact bB hd i s er hr)
theorem Db:Calls Tryz.prog 38 #[.pointer (some ⟨x,0,none⟩)] ws λe w'=>e=.returned (.int .i64 (D.st.length:Int))/\ws=w':=
 h.look (λq hx hd=>by rw [<-hx];exact Sy hd)
theorem FJ:Calls Tryz.prog 19 #[.pointer (some ⟨x,0,none⟩)] ws λe w'=>e=.returned (.bool D.failed)/\ws=w':=
 h.look (λq hx hd=>by rw [<-hx];exact Te hd)
end

end
section
attribute [local go_sem ↓] Go.wp_at_zero Go.wp_at_succ
open Go.Maps (Keyed)
open Go.RowKit Go.ChangeShapes Go.WideShapes Go.ChangeAt Go.Deep
structure OpD where
 kind:Nat
 sys:Int
 ep:Int
 sec:Int
 data:ByteArray
 n:Int
 mask:UInt8
 A:Option Addr
 c:Nat
 sv:List Int
instance:Inhabited OpD:=⟨⟨0,0,0,0,⟨#[]⟩,0,0,none,0,[]⟩⟩
def opV (o:OpD):Array Value:=#[.int .u8 (o.kind:Int),.int .i64 o.sys,.int .i64 o.ep,.int .i64 o.sec,.string o.data,.int .i64 o.n,.int .u8 (o.mask.toNat:Int),.slice o.A o.sv.length o.c]
def opC (o:OpD):List Value:=[.int .u8 (o.kind:Int),.int .i64 o.sys,.int .i64 o.ep,.int .i64 o.sec,.string o.data,.int .i64 o.n,.int .u8 (o.mask.toNat:Int),.slice o.A o.sv.length o.c]
structure okOp (w:World) (o:OpD):Prop where
 kind:o.kind<256
 sys:okI o.sys
 ep:okI o.ep
 sec:okI o.sec
 n:okI o.n
 data:o.data.size<=9223372036854775807
 sv:∀n∈o.sv,okI n
 len:o.sv.length<=o.c
 cap:o.c<=9223372036854775807
 list:ListAt w w.heap.size 1 o.A (o.sv.map CF)
def OpsAt (w:World) (B:Nat) (A:Option Addr) (l:List OpD):Prop:=(∀o∈l,okOp w o)/\ListAt w B 8 A (l.map opC)
theorem okOp.keep {w w':World} {o:OpD} (h:okOp w o) (hg:Grew w w'):okOp w' o:=⟨h.kind,h.sys,h.ep,h.sec,h.n,h.data,h.sv,h.len,h.cap,(h.list.keep (gM _) hg).mono hg.size⟩
theorem OpsAt.at_ {w:World} {B:Nat} {A:Option Addr} {l:List OpD} (h:OpsAt w B A l) {k:Nat} (hk:k<l.length):∃b off,A=some ⟨b,off,none⟩/\b<B/\okOp w l[k]/\∀i v,(opC l[k])[i]? =some v->w.cell? ⟨b,off+k*8+i,none⟩=some v:=by
 obtain ⟨b,off,e,hb,hc⟩:=h.2 (by simp;omega);exact ⟨b,off,e,hb,h.1 _ (gS hk),hc k (opC l[k]) (by rw [gP,gJ hk];rfl)⟩
section
variable {H:Type} {enc:TypeId × Value->H} {w:World}
theorem XJ {fuel:Nat} {v:Value} {x0:DataW H × List MemPlace} (hf:DataW.trod enc Tryz.prog w 0 (λ_=>true) true fuel 38 [v]=some x0):
 ∃A c,∃l:List Int,v=.slice A l.length c/\l.length<=c/\c<=9223372036854775807/\(∀n∈l,okI n)/\ListAt w w.heap.size 1 A (l.map CF):=
 KB (α:=Int) (sz:=1) Tryz.underlying38 qk oo CF okI (λn cs y hlen h=>by
     match cs,hlen with
     | [v],_=>
       obtain ⟨n0,hn0,_,w0⟩:=i0 Tryz.underlying3 h
       injection hn0 with hn0 _
       subst hn0
       exact ⟨n0,K4 w0,rfl⟩) hf
theorem Ze {n:Nat} {cs:List Value} {y:DataW H × List MemPlace} (j:cs.length=8) (h:DataW.trod enc Tryz.prog w 0 (λ_=>true) true n 40 cs=some y):∃o:OpD,okOp w o/\cs=opC o:=by
 match cs,j with
 | [x0,x1,x2,x3,x4,x5,x6,x7],_=>
   have hf:=Mf Tryz.underlying40 h;obtain ⟨_,_,f0⟩:=hf 0 _ rfl;obtain ⟨_,_,f1⟩:=hf 1 _ rfl;obtain ⟨_,_,f2⟩:=hf 2 _ rfl;obtain ⟨_,_,f3⟩:=hf 3 _ rfl;obtain ⟨_,_,f4⟩:=hf 4 _ rfl;obtain ⟨_,_,f5⟩:=hf 5 _ rfl;obtain ⟨_,_,f6⟩:=hf 6 _ rfl;simp only [jG,iw,il] at f0 f1 f2 f3 f4 f5 f6;rw [show Tryz.prog.cellsOf 5=1 from qk] at f0 f5;rw [show Tryz.prog.cellsOf 37=2 from qk] at f1;rw [show Tryz.prog.cellsOf 3=1 from qk] at f2 f4;rw [show Tryz.prog.cellsOf 9=1 from qk] at f3;rw [show Tryz.prog.cellsOf 38=1 from qk] at f6;simp only [drop_succ_cons,drop_zero,take_succ_cons,take_zero] at f0 f1 f2 f3 f4 f5 f6;have hg:=FH Tryz.underlying37 qk f1;obtain ⟨v1,_,_,e1,g1⟩:=hg 0 _ rfl (by show 0<2;omega);obtain ⟨v2,_,_,e2,g2⟩:=hg 1 _ rfl (by show 1<2;omega);simp only [getElem?_cons_zero,getElem?_cons_succ,Option.some.injEq] at e1 e2;subst e1;subst e2;obtain ⟨n0,a,_,w0⟩:=i0 Tryz.underlying5 f0;obtain ⟨n1,b,_,w1⟩:=i0 Tryz.underlying3 g1;obtain ⟨n2,d,_,w2⟩:=i0 Tryz.underlying3 g2;obtain ⟨n3,e,_,w3⟩:=i0 Tryz.underlying3 f2;obtain ⟨n4,f,_,w4⟩:=DataW.trod_string Tryz.underlying9 f3;obtain ⟨n5,g,_,w5⟩:=i0 Tryz.underlying3 f4;obtain ⟨n6,i,_,w6⟩:=i0 Tryz.underlying5 f5;obtain ⟨A,c,l,rfl,h1,h2,h3,h4⟩:=XJ f6;injection a with a _;injection b with b _;injection d with d _;injection e with e _;injection f with f _;injection g with g _;injection i with i _;subst a;subst b;subst d;subst e;subst f;subst g;subst i;have b0:=Yz w0;have b6:=Yz w6;unfold maxLen at w4;refine ⟨⟨n0.toNat,n1,n2,n3,n4,n5,UInt8.ofNat n6.toNat,A,c,l⟩,⟨by show n0.toNat<256;omega,K4 w1,K4 w2,K4 w3,K4 w5,by simpa using w4,h3,h1,h2,h4⟩,?_⟩
   have e6:((UInt8.ofNat n6.toNat).toNat:Int)=n6:=by
    have:n6.toNat<256:=oo;rw [UInt8.toNat_ofNat'];omega
   unfold opC;simp only [e6,jf b0.1]
end
def QZ (l:List OpD) (n:Nat):Bool:=l.all (λo=>decide (o.data.size<=300) && decide (o.sv.length<=100)) && decide (l.length<=n)
theorem cn (A:Option Addr) (c:Nat) (l:List OpD) (n:Nat) (w:World) (B:Nat) (hv:OpsAt w B A l) (hB:B<=w.heap.size) (hl:l.length<=9223372036854775807) (hn:n<=1000):
 Calls Tryz.prog 25 #[.slice A l.length c,.int .i64 (n:Int)] w λe w'=>e=.returned (.bool (QZ l n))/\w=w':=by
 have HV:=zh hv;have HF:=zh (show QZ l n=(l.all (λo=>decide (o.data.size<=300) && decide (o.sv.length<=100)) && decide (l.length<=n)) from rfl);generalize QZ l n=bb at*
 clear hv;go_enter Tryz.func25,Tryz.ntmps25;go_wp2_with fail
 go_loopg [5] l.length (λgk iv wr=>w=wr/\∃j:Nat,j<=l.length/\gk=l.length - j/\iv=.int .i64 (j:Int)/\∀k (hk:k<l.length),k<j->l[k].data.size<=300/\l[k].sv.length<=100)
 case atStart=>exact ⟨rfl,0,ia _,rfl,rfl,λk hk h=>oo⟩
 case round=>
  obtain ⟨rfl,j,hj,m,rfl,p⟩:=hrel;have q:=zh m;have HA:=zh p;clear m p;by_cases d:j<l.length
  . obtain ⟨b,z,rfl,C,a,hc⟩:=HV.at_ d;have z4:=hc 4 _ rfl;have z7:=hc 7 _ rfl;have r:=a.data;have s:=a.len;have t:=a.cap;have u:=zh (show ∀k (hk:k<l.length),k<j+1->k≠j->l[k].data.size<=300/\l[k].sv.length<=100 from λk hk h1 h2=>HA.out k hk oo);have y:b<w.heap.size:=oo;clear hc a;obtain ⟨o,ho⟩:∃o,l[j]=o:=⟨_,rfl⟩;have HO:=zh ho;rw [ho] at z4 z7 r s t;clear ho;by_cases h1:300<o.data.size
    . have f:(300:Int)<(o.data.size:Int):=oo
      have HE:=zh (show (l.all (λo=>decide (o.data.size<=300) && decide (o.sv.length<=100)) && decide (l.length<=n))=false from by
       rw [Bool.and_eq_false_iff]
       refine .inl (List.all_eq_false.2 ⟨o,by rw [<-HO.out];exact gS d,?_⟩)
       rw [iC oo];simp)
      go_wp2_with fail;go_ret;exact ⟨CO (by rw [HF.out,HE.out]),rfl⟩
    . by_cases h2:100<o.sv.length
      . have v:(100:Int)<(o.sv.length:Int):=oo
        have HE:=zh (show (l.all (λo=>decide (o.data.size<=300) && decide (o.sv.length<=100)) && decide (l.length<=n))=false from by
         rw [Bool.and_eq_false_iff]
         refine .inl (List.all_eq_false.2 ⟨o,by rw [<-HO.out];exact gS d,?_⟩)
         rw [iC (show ¬o.sv.length<=100 by omega)];simp)
        have f:(o.data.size:Int)<=300:=oo;go_wp2_with fail;go_ret;exact ⟨CO (by rw [HF.out,HE.out]),rfl⟩
      . have f:(o.data.size:Int)<=300:=oo;have v:(o.sv.length:Int)<=100:=oo;go_wp2_with fail
        go_roundg (l.length - (j+1))
        case measure=>rw [q.out];omega
        case rel=>
         refine ⟨rfl,j+1,oo,oo,by go_num,λk hk h9=>?_⟩;by_cases g:k=j
         . subst g;rw [HO.out];exact ⟨oo,oo⟩
         . exact u.out k hk h9 g
  . obtain rfl:j=l.length:=oo
    have HE:=zh (show l.all (λo=>decide (o.data.size<=300) && decide (o.sv.length<=100))=true from by
     rw [ic]
     intro o ho
     obtain ⟨k,hk,rfl⟩:=jX.1 ho
     have:=HA.out k hk hk
     rw [iB this.1,iB this.2];rfl)
    by_cases i:l.length<=n
    . have x:(l.length:Int)<=(n:Int):=oo;go_wp2_with fail;go_ret;exact ⟨CO (by rw [HF.out,HE.out,iB i];rfl),rfl⟩
    . have x:¬(l.length:Int)<=(n:Int):=oo;go_wp2_with fail;go_ret;exact ⟨CO (by rw [HF.out,HE.out,iC i];rfl),rfl⟩

end
end Go.Proofs.YtfklieeipokllaaGreat
