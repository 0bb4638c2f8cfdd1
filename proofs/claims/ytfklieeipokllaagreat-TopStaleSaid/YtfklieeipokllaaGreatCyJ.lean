/- Parts of the proof (packed), 10. -/
import Derived.Laws.IdiomStrings
import Derived.Carry
import Derived.Test.YtfklieeipokllaaGreatCyB
import Derived.Test.YtfklieeipokllaaGreatCyI
namespace Go.Proofs.YtfklieeipokllaaGreat
set_option linter.all false
set_option maxRecDepth 100000
set_option maxHeartbeats 16000000
open List
section
attribute [local go_sem ↓] Go.wp_at_zero Go.wp_at_succ
open Go.Maps (Keyed)
open Go.RowKit
theorem bq:(Tryz.prog.info? 203).map (λi=>(i.zero,i.size,i.bytes))=some (some (.agg #[.int .i64 0,.int .i64 0,.string ⟨#[]⟩]),3,32):=qk
section
variable {w:World} {q:DevP} {D:Dev} (h:DevM w q D) (s e sec:Int) (data:ByteArray) (hsmall:D.pend.length<=999999)
include h hsmall
theorem X0 (aj:data.size<=9223372036854775807):Calls Tryz.prog 183 #[.pointer (some ⟨q.x,0,none⟩),.agg #[.int .i64 s,.int .i64 e],.int .i64 sec,.string data] w λer w'=>er=.returned (.int .i64 (BN D s e sec data).2)/\Did w w' q (BN D s e sec data).1:=by
 have HH:=zh h;have g:=(fh w).alloc (.cells #[.int .i64 s,.int .i64 e] 37);have c:=fy w 37 #[.int .i64 s,.int .i64 e] rfl;have a0:=c.cell 0;have a1:=c.cell 1;have m:=zh (Po (w.alloc (.cells #[.int .i64 s,.int .i64 e] 37)) s e);cases hp:DA s e with
 | false=>
   have HV:=zh (show BN D s e sec data=(D,1) from by unfold BN;rw [if_pos (.inl hp)]);have HP:=zh hp;clear h hp c;go_enter Tryz.func183,Tryz.ntmps183;go_wp2_with fail;refine m.mono ?_;rw [HP.out];rintro er w1 ⟨rfl,g1⟩;have hG:=g.trans g1;go_wp2_with fail;go_ret;rw [HV.out];exact ⟨rfl,Did.same HH hG⟩
 | true=>
   by_cases hd:data.size=140
   . cases ht:Cl D sec with
     | false=>
       have HV:=zh (show BN D s e sec data=(D,2) from by unfold BN;rw [if_neg (by rw [hp,hd];simp),if_pos ht]);have HP:=zh hp;have HT:=zh ht;have G:(data.size:Int)=140:=oo;clear h hp c ht hd;go_enter Tryz.func183,Tryz.ntmps183;go_wp2_with fail;refine m.mono ?_;rw [HP.out];rintro er w1 ⟨rfl,g1⟩;have hG:=g.trans g1;have v:=zh (EL (HH.grew hG) sec false HT);go_wp2_with fail;refine v.mono ?_;rintro er w2 ⟨rfl,rfl⟩;go_wp2_with fail;go_ret;rw [HV.out];exact ⟨rfl,Did.same HH hG⟩
     | true=>
       have HV:=zh (show BN D s e sec data=if (An D s e).2≠0 then An D s e else ({ (An D s e).1 with pend:=(An D s e).1.pend++[⟨s,sec.toNat,data⟩] },0) from by unfold BN;rw [if_neg (by rw [hp,hd];simp),if_neg (by rw [ht];decide)]);have HP:=zh hp;have HT:=zh ht;have G:(data.size:Int)=140:=oo;have O:=zh hd;have P:=zh (gV ht);have H:=λhz=>zh (G5 (D:=D) (s:=s) (e:=e) hz);clear h hp c ht hd;generalize hAD:An D s e=AD at*;obtain ⟨D1,N⟩:=AD;have Q:=zh hAD;clear hAD;go_enter Tryz.func183,Tryz.ntmps183;go_wp2_with fail;refine m.mono ?_;rw [HP.out];rintro er w1 ⟨rfl,g1⟩;have hG:=g.trans g1;have v:=zh (EL (HH.grew hG) sec true HT);have b0:=(g1.cellEq w.heap.size 0 qs).trans a0;have b1:=(g1.cellEq w.heap.size 1 qs).trans a1;have I:=zh (PA (HH.grew hG) s e HP oo);have HG:=zh hG;have y:w.heap.size<w1.heap.size:=by have:=g1.size;simp at this;omega
       rw [Q.out] at I;clear g1 a0 a1 g hG;go_wp2_with fail;refine v.mono ?_;rintro er w2 ⟨rfl,rfl⟩;go_wp2_with fail;refine I.mono ?_;rintro er w3 ⟨rfl,q3,F,t,b⟩;have a:=zh t;have z:¬q.feet w.heap.size:=λhh=>absurd (HH.feet_lt _ hh) oo;have n:=(b.cellEq w.heap.size 0 y z).trans b0;have R:=(b.cellEq w.heap.size 1 y z).trans b1;have al:=zh ((HG.turned q.feet).trans b);have d:=zh F;have S:w.heap.size<w3.heap.size:=by have:=b.size;omega
       have T:=zh (show Did w1 w3 q D1 from ⟨q3,F,t,b⟩);have U:=zh b;have V:¬q3.feet w.heap.size:=λhh=>(t.feet _ hh).elim z (λh9=>absurd y oo);clear t F b b0 b1;by_cases hz:N=0
       . subst hz;obtain ⟨fu,u⟩:=(H rfl).out;have an:=zh u;have A:D1.pend=D.pend:=by rw [u]
         have av:D1.pend.length<=999999:=by rw [A];exact hsmall
         have J:D1.st.length=D.st.length:=by rw [u]
         have a2:=zh A;have W:=zh J;clear u A J H;have i:=d.blk;rw [a.out.x] at i;have a3:=i.lt;have x2:=i.cell 2;have K:=zh i;have a4:=gV HP;clear i;go_wp2_with fail;refine AB [14] (λw':World=>w'.cell? ⟨w.heap.size,0,none⟩=some (.int .i64 s)/\w'.cell? ⟨q.x,2,none⟩=some q3.vp) qk ?_;have hS:=(show (λw':World=>w'.cell? ⟨w.heap.size,0,none⟩=some (.int .i64 s)/\w'.cell? ⟨q.x,2,none⟩=some q3.vp) w3.drew from ⟨n,x2⟩);refine tQ 0 28 ?_;refine tQ 1 29 ?_;refine tT 2 (some 30) hS ?_;refine tQ 3 31 ?_;refine tT 4 (some 32) hS ?_;refine tQ 5 33 ?_;refine tT 6 (some 34) hS ?_;refine tQ 7 35 ?_;refine tQ 8 36 ?_;refine tQ 9 37 ?_;refine tO 10 λK' hK=>?_;go_wp2_with fail;have B:=((fh w3.drew).alloc (.cells #[.int .i64 s,.int .i64 sec,.string data] 203));have L:=K.drew.grew B;refine hK.out _ _ (.inr (λ_=>⟨(B.cellEq _ _ (by show w.heap.size<w3.heap.size;omega)).trans n,L.cell 2⟩)) ?_;clear hK hS;refine tO 11 λK' hK=>?_;have X:=(d.grew (fh w3).drew).pend;refine Hg (.tmp 32) (.tmp 38) 118 rfl 0 203 3 32 _ Tryz.underlying118 bq rfl qd _ q3.vp (D1.pend.map Bt) [.int .i64 s,.int .i64 sec,.string data] rfl rfl (X.grew B) w3.heap.size rfl (fy w3.drew _ _ rfl) rfl (by rw [JG];omega) (by rw [JG];omega) (iB _) D1.pend.length (JG _) ?_;intro g5 c5 w5 M f l a7;have Y:q3.vp.ownBlock≠some q.x:=by rw [<-a.out.x];exact d.pend.ne_blk d.blk qd
         have Z:q3.vp.ownBlock≠some w.heap.size:=λhh=>V (.inr (.inr (.inr (.inr (.inl hh)))));have j:=((((fh w3).drew).alloc (.cells #[.int .i64 s,.int .i64 sec,.string data] 203)).turned (λk=>q3.vp.ownBlock=some k)).trans ⟨f.os,f.tape,f.output,f.size,λk hk hn=>f.block k hk (λe=>hn e.symm)⟩;have o:=K.turned j Y;have C:=(j.cellEq w.heap.size 0 S Z).trans n;have x5:=o.cell 2;have f5:=o.frozen 2;have a5:=o.lt;refine hK.out _ _ (.inr (λ_=>⟨C,x5⟩)) ?_;clear hK;have hS:=(show (λw':World=>w'.cell? ⟨w.heap.size,0,none⟩=some (.int .i64 s)/\w'.cell? ⟨q.x,2,none⟩=some q3.vp) w5 from ⟨C,x5⟩);simp only [Act.put,zA,zB,zC];refine tT 12 (some 40) hS ?_;refine tQ 13 41 ?_;refine tO 14 λK' hK=>?_;go_wp2_with fail;refine hK.out _ _ (.inl rfl) ?_;clear hK hS;refine AA qk ?_ _;have aa:=P.out
         have E:=d.new_pend (w1:=w5) j (P':=D1.pend++[⟨s,sec.toNat,data⟩]) (vp':=.slice (some ⟨g5,0,none⟩) (D1.pend.length+1) c5) (by
          rw [fz]
          have:[(⟨s,sec.toNat,data⟩:Wr)].map Bt=[[.int .i64 s,.int .i64 sec,.string data]]:=by
           show [[Value.int .i64 s,.int .i64 ((sec.toNat:Nat):Int),.string data]]=_
           rw [jJ aa.1]
          rw [this]
          exact M) (λr hr=>by
          rcases gC.1 hr with hr | hr
          . exact d.ok.pend r hr
          . rw [fp.1 hr]
            refine ⟨?_,O,?_⟩
            . rw [W.out];show sec.toNat<_;omega
            . show 1<=s/\s<=4;omega)
         rw [a.out.x] at E;have ad:=zh E;have ae:=zh j;clear E j f M o L C x5 f5 n R x2;go_wp2_with fail;go_ret;rw [HV.out,if_neg qd];refine ⟨rfl,Did.trans (Foot'.refl w q) (HG.turned _) (Did.trans a U ⟨_,ad,⟨a.x.symm,rfl,λk hk=>?_⟩,?_⟩)⟩
         . rcases hk with hk | hk | hk | hk | hk | hk | hk
           . exact .inl (.inl (hk.trans a.x.symm))
           . exact .inl (.inr (.inl hk))
           . exact .inl (.inr (.inr (.inl hk)))
           . exact .inl (.inr (.inr (.inr (.inl hk))))
           . rcases l with l | l
             . exact .inl (.inr (.inr (.inr (.inr (.inl (by rw [l];exact hk))))))
             . injection hk with hk;subst hk;rw [l];right;simp
           . exact .inl (.inr (.inr (.inr (.inr (.inr (.inl hk))))))
           . exact .inl (.inr (.inr (.inr (.inr (.inr (.inr hk))))))
         . exact (ae.mono (λk _ hk=>.inr (.inr (.inr (.inr (.inl hk)))))).setCell (p:=⟨q.x,2,none⟩) (λ_=>.inl a.x.symm) _
       . have a6:(N==0)=false:=gF.2 hz;have HZ:=zh hz;clear hz;go_wp2_with fail;go_ret;rw [HV.out,if_pos HZ.out];exact ⟨rfl,Did.trans (Foot'.refl w q) (HG.turned _) T⟩
   . have HV:=zh (show BN D s e sec data=(D,1) from by unfold BN;rw [if_pos (.inr hd)]);have HP:=zh hp;have G:¬(data.size:Int)=140:=oo;clear h hp c hd;go_enter Tryz.func183,Tryz.ntmps183;go_wp2_with fail;refine m.mono ?_;rw [HP.out];rintro er w1 ⟨rfl,g1⟩;have hG:=g.trans g1;go_wp2_with fail;go_ret;rw [HV.out];exact ⟨rfl,Did.same HH hG⟩
end

theorem J9 (p:Wr->Bool) (sv a:Nat->Nat):∀(l:List Wr) (E:Dev) (k:Nat),(∀i,k<=i->i<k+l.length->sv i=a i)->l.foldl (AV p sv) (E,k)=l.foldl (AV p a) (E,k)
 | [],_,_,_=>rfl
 | r::l,E,k,h=>by
   rw [foldl_cons,foldl_cons]
   have he:AV p sv (E,k) r=AV p a (E,k) r:=by
    unfold AV;cases p r with
    | false=>rfl
    | true=>simp only [if_true];rw [h k (fk _) qs]
   rw [he];obtain ⟨E',k',hE⟩:∃E' k',AV p a (E,k) r=(E',k'):=⟨_,_,rfl⟩
   have hk:k<=k'/\k'<=k+1:=by
    have:k'=(AV p a (E,k) r).2:=by rw [hE]
    rw [this];unfold AV;cases p r<;>simp
   rw [hE];exact J9 p sv a l E' k' (λi h1 h2=>h i oo (by simp;omega))
theorem OJ (D:Dev) (p:Wr->Bool) (sv a:Nat->Nat) (h:∀i,i<D.pend.length->sv i=a i):Bl D p sv=Bl D p a:=by
 unfold Bl Ck;rw [J9 p sv a D.pend D 0 (λi _ h2=>h i oo)]
theorem Ij {t e:TypeId} {z:Value} {b:Nat} (w:World) (n:Nat) (ht:Tryz.prog.underlying t=some (.slice e)) (hi:(Tryz.prog.info? e).map (λi=>(i.zero,i.size,i.bytes))=some (some z,1,b)) (hz:z.cells=#[z]) (hb:n*b<=140737488355328) (hn:n<=1000000):
 (Instr.makeSlice t (.int .i64 (n:Int)) (.int .i64 (n:Int))).run Tryz.prog w=.ok (.slice (some ⟨w.heap.size,0,none⟩) n n) (w.alloc (.cells (Array.replicate n z) e)):=by
 obtain ⟨i,hi,c,d,f⟩:=info_parts hi
 have a:(i.bytes:Int)*(n:Int)<=281474976710656:=by
  obtain ⟨m,hm⟩:∃m,n*b=m:=⟨_,rfl⟩;rw [hm] at hb;have:(i.bytes:Int)*(n:Int)=(m:Int):=by rw [f,<-hm,Int.natCast_mul,Int.mul_comm]
  omega
 have h:=run_make (P:=Tryz.prog) w t e i _ ht hi c .i64 .i64 (n:Int) (n:Int) oo oo a oo;rw [d] at h;simp only [gQ,Nat.mul_one] at h;rw [h]
 have hc:madeCells z.cells n=Array.replicate n z:=by
  unfold madeCells;rw [hz];apply Array.ext
  . simp
  . intro j h1 h2;simp [Nat.mod_one]
 rw [hc]
theorem OwnL.made (w:World) (base e n:Nat) (z:Value) (hb:base<=w.heap.size) (hn:n<=9223372036854775807) {m:Nat} (hm:m=w.heap.size):OwnL (w.alloc (.cells (Array.replicate n z) e)) base e 1 (.slice (some ⟨m,0,none⟩) n n) (List.replicate n [z]):=by
 subst hm;refine ⟨λr hr=>by rw [(jQ.1 hr).2];rfl,?_⟩;have:=World.ownsRow_lit (base:=base) (e:=e) (size:=1) w (Array.replicate n z) n hb (by unfold maxLen;exact hn) qs
 have h2:(List.replicate n [z]).flatten=(Array.replicate n z).toList:=by
  rw [Array.toList_replicate]
  induction n with
  | zero=>rfl
  | succ n ih=>
    rw [List.replicate_succ,flatten_cons,List.replicate_succ];rw [ih oo (World.ownsRow_lit (base:=base) (e:=e) (size:=1) w (Array.replicate n z) n hb (by unfold maxLen;omega) qs)];rfl
 rw [h2,i0];exact this
theorem Md:(Tryz.prog.info? 3).map (λi=>(i.zero,i.size,i.bytes))=some (some (.int .i64 0),1,8):=qk
section
variable {w:World} {q:DevP} {D:Dev} (h:DevM w q D) (s:Int)
include h
theorem Yl (e:Int) (aj:D.pend.length<=1000000):
 Calls Tryz.prog 185 #[.pointer (some ⟨q.x,0,none⟩),.agg #[.int .i64 s,.int .i64 e]] w λer w'=>er=.returned (.int .i64 (Ci D s e).2)/\Did w w' q (Ci D s e).1:=by
 have HH:=zh h;have u:=(fh w).alloc (.cells #[.int .i64 s,.int .i64 e] 37);have f:=fy w 37 #[.int .i64 s,.int .i64 e] rfl;have a0:=f.cell 0;have a1:=f.cell 1;have J:=zh (Po (w.alloc (.cells #[.int .i64 s,.int .i64 e] 37)) s e);cases hp:DA s e with
 | false=>
   have HV:=zh (show Ci D s e=(D,1) from by unfold Ci;rw [if_pos hp]);have HP:=zh hp;clear h hp f;go_enter Tryz.func185,Tryz.ntmps185;go_wp2_with fail;refine J.mono ?_;rw [HP.out];rintro er w1 ⟨rfl,g1⟩;have hG:=u.trans g1;go_wp2_with fail;go_ret;rw [HV.out];exact ⟨rfl,Did.same HH hG⟩
 | true=>
   have HV:=zh (show Ci D s e=if (An D s e).2≠0 then An D s e else (Bl (An D s e).1 (GB s) (λ_=>140),0) from by unfold Ci;rw [if_neg (by rw [hp];simp)]);have HP:=zh hp;have K:=λhz=>zh (G5 (D:=D) (s:=s) (e:=e) hz);clear h hp f;generalize hAD:An D s e=AD at*;obtain ⟨D1,Z⟩:=AD;have al:=zh hAD;clear hAD;go_enter Tryz.func185,Tryz.ntmps185;go_wp2_with fail;refine J.mono ?_;rw [HP.out];rintro er w1 ⟨rfl,g1⟩;have hG:=u.trans g1;have b0:=(g1.cellEq w.heap.size 0 qs).trans a0;have b1:=(g1.cellEq w.heap.size 1 qs).trans a1;have L:=zh (PA (HH.grew hG) s e HP oo);have HG:=zh hG;have an:w.heap.size<w1.heap.size:=by have:=g1.size;simp at this;omega
   rw [al.out] at L;clear g1 a0 a1 u hG;go_wp2_with fail;refine L.mono ?_;rintro er w3 ⟨rfl,q3,F,G,d⟩;have v:=zh G;have av:¬q.feet w.heap.size:=λhh=>absurd (HH.feet_lt _ hh) oo;have y:=(d.cellEq w.heap.size 0 an av).trans b0;have g:=zh F;have M:w.heap.size<w3.heap.size:=by have:=d.size;omega
   have a2:=zh (show Did w1 w3 q D1 from ⟨q3,F,G,d⟩);have a3:=zh d;clear G F d b0 b1;by_cases hz:Z=0
   . subst hz;obtain ⟨fu,aa⟩:=(K rfl).out;have N:D1.pend=D.pend:=by rw [aa]
     have a4:D1.pend.length<=1000000:=by rw [N];exact aj
     obtain ⟨A,c,ad,bx,b2,bl⟩:=g.pend_list;have l:=g.blk;rw [v.out.x,ad] at l;have bn:=l.lt;have x2:=l.cell 2;have a5:=Ij w3 D1.pend.length Tryz.underlying38 Md rfl oo a4;have O:=OwnL.made w3 0 3 D1.pend.length (.int .i64 0) (iB _) oo rfl;have z:=(fh w3).alloc (.cells (Array.replicate D1.pend.length (.int .i64 0)) 3);have P:=zh z;have Q:=zh O;have R:=(z.cellEq _ _ M).trans y;have a6:=zh y;clear aa N K l ad bl z O y;generalize hn:D1.pend.length=n at*;have HN:=zh hn;clear hn;go_wp2_with fail;obtain ⟨w4,t⟩:∃w4,w4=w3.alloc (.cells (Array.replicate n (.int .i64 0)) 3):=⟨_,rfl⟩;rw [<-t] at P Q R ⊢;have bo:w3.heap.size<w4.heap.size:=by rw [t];simp
     have br:w4.heap.size=w3.heap.size+1:=by rw [t];simp
     clear t x2 a5
     go_loopg [25] n (λgk iv wr=>∃j:Nat,j<=n/\gk=n - j/\iv=.int .i64 (j:Int)/\OwnL wr 0 3 1 (.slice (some ⟨w3.heap.size,0,none⟩) n n) ((List.replicate j (140:Int)++List.replicate (n - j) 0).map Cq)/\Turned (λk=>k=w3.heap.size) w4 wr)
     case atStart=>exact ⟨0,oo,rfl,rfl,by rw [List.replicate_zero,nil_append,List.map_replicate];exact Q.out,gW _ _⟩
     case round=>
      obtain ⟨j,hj,ae,rfl,a,I⟩:=hrel;have a7:=zh ae;have S:=zh I;have a8:=zh a;have bs:=I.size;clear ae;by_cases bw:j<n
      . have B:((List.replicate j (140:Int)++List.replicate (n - j) 0).map Cq)[j]? =some (Cq 0):=by
         rw [fo,iO qs,i0,Nat.sub_self,jS,if_pos oo];rfl
        have c0:=a.cell (i:=0) B rfl;rw [Nat.mul_one,ik] at c0;have f0:=a.frozen j;have hs:=a.set_ (j:=j) (i:=0) (o:=j) B oo oo (.int .i64 140)
        have he:((List.replicate j (140:Int)++List.replicate (n - j) 0).map Cq).set j ((Cq 0).set 0 (.int .i64 140))=(List.replicate (j+1) (140:Int)++List.replicate (n - (j+1)) 0).map Cq:=by
         rw [show (Cq 0).set 0 (.int .i64 140)=Cq 140 from rfl,<-List.map_set];congr 1;rw [List.set_append_right _ _ qs,i0,Nat.sub_self,show n - j=(n - (j+1))+1 by omega,List.replicate_succ,set_cons_zero,List.replicate_succ',iA];rfl
        rw [he] at hs;have HS:=zh hs;clear hs he B a I;go_wp2_with fail
        go_roundg (n - (j+1))
        case measure=>rw [a7.out];omega
        case rel=>exact ⟨j+1,oo,oo,by go_num,HS,S.setCell (p:=⟨w3.heap.size,j,none⟩) (λ_=>rfl) _⟩
      . obtain rfl:j=n:=oo;have a:=a8.out;rw [Nat.sub_self,List.replicate_zero,append_nil] at a;have m:Grew w3 wr:=P.turn S (λk hk=>oo);have bt:=(m.cellEq _ _ M).trans a6;have C:=g.grew m;have g5:=(fh wr).alloc (.cells #[.int .i64 s] 3);have T:=fy wr 3 #[.int .i64 s] rfl;have a9:q3.x=q.x:=v.x;have bb:¬q3.turns wr.heap.size:=λhh=>absurd (C.feet_lt _ (DevP.turns_feet _ _ hh)) oo;have bc:¬q3.turns w3.heap.size:=λhh=>absurd (g.feet_lt _ (DevP.turns_feet _ _ hh)) oo;have U:ListAt wr wr.heap.size 1 (some ⟨w3.heap.size,0,none⟩) ((List.replicate j (140:Int)).map Cq):=a.listA
        have E:=XQ wr.heap.size (C.grew g5) (GB s) (some ⟨w3.heap.size,0,none⟩) j (List.replicate j 140) (λW=>Blk W wr.heap.size 3 #[.int .i64 s]) ((U.keep (fk _) g5).mono g5.size) (λ_ b off he hb=>by
         injection he with he
         injection he with he _ _
         rw [<-he] at hb
         exact bc hb) (by rw [i0];omega) (λn hn=>by rw [(jQ.1 hn).2];unfold okI;omega) (by rw [HN.out];omega) (λW W' hk ht=>hk.turned ht bb) (λW W' hk hg=>hk.grew hg) T (λW r hk=>bO s r _ W hk)
        rw [i0,a9] at E;have bd:=zh E;have V:=zh m;clear a m C g5 T U E R;go_wp2_with fail;refine (aC s wr).mono ?_;rintro er w5 ⟨rfl,rfl⟩;go_wp2_with fail;refine bd.mono ?_;rintro er w6 ⟨rfl,q6,H,X,Y⟩
        have bf:Bl D1 (GB s) (svN (List.replicate j 140))=Bl D1 (GB s) (λ_=>140):=OJ _ _ _ _ (λi hi=>by
         unfold svN
         rw [gH,jS,if_pos (by rw [HN.out] at hi;exact hi)];rfl)
        rw [bf] at H;have bk:=zh (show Did w3 w6 q3 (Bl D1 (GB s) (λ_=>140)) from ⟨q6,H,(Foot'.refl w3 q3).trans X (by have:=V.size;simp;omega),((V.alloc _).turned _).next Y (λk _ hk=>DevP.turns_feet _ k hk)⟩);clear H X Y;go_wp2_with fail;go_ret;rw [HV.out,if_neg qd];exact ⟨rfl,Did.trans (Foot'.refl w q) (HG.turned _) (Did.trans v a3 bk)⟩
   . have bv:(Z==0)=false:=gF.2 hz;have HZ:=zh hz;clear hz;go_wp2_with fail;go_ret;rw [HV.out,if_pos HZ.out];exact ⟨rfl,Did.trans (Foot'.refl w q) (HG.turned _) a2⟩
end

theorem OwnL.base0 {w:World} {b e sz:Nat} {v:Value} {rows:List (List Value)} (h:OwnL w b e sz v rows):OwnL w 0 e sz v rows:=by
 refine ⟨h.1,h.2.1,?_⟩;rcases h.2.2 with h0 | ⟨g,cap,a,h1,h2,h3⟩
 . exact .inl h0
 . exact .inr ⟨g,cap,a,h1,iB _,h3⟩

theorem fY (a m:UInt8):bits BinOp.xor IntKind.u8 (a.toNat:Int) (m.toNat:Int)=((a.toNat ^^^ m.toNat:Nat):Int):=by
 have e:∀x:UInt8,BitVec.ofInt 8 (x.toNat:Int)=x.toBitVec:=λx=>BitVec.eq_of_toNat_eq (by
  rw [BitVec.ofInt_natCast,ib]
  exact iR x.toNat_lt)
 rw [<-UInt8.toNat_xor];show IntKind.u8.wrap (((BitVec.ofInt 8 (a.toNat:Int)) ^^^ (BitVec.ofInt 8 (m.toNat:Int))).toNat:Int)=_;rw [e,e];show IntKind.u8.wrap ((a ^^^ m).toNat:Int)=_;have:=(a ^^^ m).toNat_lt;generalize (a ^^^ m).toNat=n at*;simp only [IntKind.wrap,IntKind.signed,IntKind.bits];simp;omega
theorem WY (s:ByteArray) (i:Nat) (m:UInt8):(Ee s i m).size=s.size:=by
 unfold Ee;exact Array.size_modify ..
theorem Ur (w:World) (s:ByteArray):∃wb cap,(convert 9 169 (.string s)).run Tryz.prog w=.ok (.slice (some ⟨w.heap.size,0,none⟩) s.size cap) wb/\Grew w wb/\wb.heap.size=w.heap.size+1/\
 (∀j (hj:j<s.size),wb.cell? ⟨w.heap.size,j,none⟩=some (.int .u8 (s[j].toNat:Int)))/\(∀j,j<s.size->wb.frozen? ⟨w.heap.size,j,none⟩=false):=by
 refine ⟨_,_,run_bytes_of_string (P:=Tryz.prog) w 9 169 5 s Tryz.underlying9 Tryz.underlying169 Tryz.underlying5,((fh w).drew.alloc _),qs,λj hj=>?_,λj hj=>?_⟩
 . show (w.drew.alloc _).cell? ⟨w.drew.heap.size,j,none⟩=_;rw [cell_of_row _ w.drew.heap.size j _ _ _ (heap_alloc_new w.drew _),bytesRow_at s _ j hj];rfl
 . show (w.drew.alloc _).frozen? ⟨w.drew.heap.size,j,none⟩=_;rw [World.frozen?_alloc_mark]
   have:(bytesRow s (grownCap w s.size 0 5)).size>=s.size:=by
    unfold bytesRow;rw [Array.size_append,Array.size_map];show s.data.size+_>=s.data.size;omega
   rw [gE oo];rfl
section
variable {w:World} {q:DevP} {D:Dev} (h:DevM w q D)
include h
theorem Uz (sec back:Int) (hs:okI sec) (hb:okI back):Calls Tryz.prog 40 #[.pointer (some ⟨q.x,0,none⟩),.int .i64 sec,.int .i64 back] w λer w'=>er=.returned (.int .i64 (Cg D sec back).2)/\Did w w' q (Cg D sec back).1:=by
 have HH:=zh h;unfold okI at hs hb;cases ht:Cl D sec with
 | false=>
   have HV:=zh (show Cg D sec back=(D,2) from by unfold Cg;rw [if_pos (.inl ht)]);have HT:=zh (EL h sec false ht);clear h ht;go_enter Tryz.func40,Tryz.ntmps40;go_wp2_with fail;refine HT.mono ?_;rintro er w1 ⟨rfl,rfl⟩;go_wp2_with fail;go_ret;rw [HV.out];exact ⟨rfl,Did.same HH (fh _)⟩
 | true=>
   have h0:=gV ht;obtain ⟨k,rfl⟩:∃k:Nat,sec=(k:Int):=⟨sec.toNat,oo⟩;have HT:=zh (EL h k true ht);have d:k<D.st.length:=oo;by_cases s:back<1
   . have HV:=zh (show Cg D k back=(D,2) from by unfold Cg;rw [if_pos (.inr (.inl s))]);clear h ht;go_enter Tryz.func40,Tryz.ntmps40;go_wp2_with fail;refine HT.mono ?_;rintro er w1 ⟨rfl,rfl⟩;go_wp2_with fail;go_ret;rw [HV.out];exact ⟨rfl,Did.same HH (fh _)⟩
   . obtain ⟨g,cap,hv,hg,h1,h2,h3⟩:=h.old_form;obtain ⟨gs,cs,a,F,G,H,I⟩:=h.st_form;obtain ⟨v,i,l,_⟩:=h.old_at d;have y0:=h.old_cell hv i;have hk:=h.blk;rw [hv,a] at hk;have z:=hk.lt;have x1:=hk.cell 1;have x0:=hk.cell 0;have B:=KI h.ok k;obtain ⟨A,c,rfl,y,J,hl⟩:=l.listAt;rw [Kx] at y0 y;have HL:=zh hl;by_cases t:((D.olds k).length:Int)<back
     . have HV:=zh (show Cg D k back=(D,2) from by unfold Cg;rw [if_pos (.inr (.inr (by rw [gQ];exact t)))]);clear h ht hv a i hk hl l;go_enter Tryz.func40,Tryz.ntmps40;go_wp2_with fail;refine HT.mono ?_;rintro er w1 ⟨rfl,rfl⟩;go_wp2_with fail;go_ret;rw [HV.out];exact ⟨rfl,Did.same HH (fh _)⟩
     . obtain ⟨j,rfl⟩:∃j:Nat,back=(j:Int)+1:=⟨back.toNat - 1,oo⟩;have e:j<(D.olds k).length:=oo
       have HV:=zh (show Cg D k ((j:Int)+1)=({ D with st:=D.st.set k (D.olds k)[j] },0) from by
        unfold Cg
        rw [if_neg (by rw [ht,gQ];simp;omega),gQ,show ((j:Int)+1).toNat - 1=j by omega,gH,fg e];rfl)
       obtain ⟨bo,b,rfl,K,n⟩:=hl (by rw [Kx];omega)
       have z0:w.cell? ⟨bo,b+j,none⟩=some (.string (D.olds k)[j]):=by
        have:=n j (BT (D.olds k)[j]) (by rw [fo,fg e];rfl) 0 _ rfl;rwa [Nat.mul_one,ik] at this
       have o:=zh (JE h.ok k _ (fq e));have m:=zh a;have y1:=h.st_cell a d;have f:=h.st;rw [a] at f;have f1:=f.frozen k;generalize (D.olds k)[j]=u at*;generalize (D.olds k).length=ln at*;generalize D.at k=atk at*;have C:(j:Int)+1 - 1=(j:Int):=oo;have E:IntKind.i64.wrap (j:Int)=(j:Int):=by rw [IntKind.wrap_i64];omega
       have hS:=(show (λw':World=>w'.cell? ⟨q.x,0,none⟩=some (.slice (some ⟨gs,0,none⟩) D.st.length cs)/\w'.cell? ⟨q.x,1,none⟩=some (.slice (some ⟨g,0,none⟩) D.st.length cap)/\w'.cell? ⟨g,k,none⟩=some (.slice (some ⟨bo,b,none⟩) ln c)/\w'.cell? ⟨bo,b+j,none⟩=some (.string u)) w.drew from ⟨x0,x1,y0,z0⟩);clear h ht hv a i hk hl l n f HL;go_enter Tryz.func40,Tryz.ntmps40;go_wp2_with fail;refine HT.mono ?_;rintro er w1 ⟨rfl,rfl⟩;go_wp2_with fail;refine AB [17] (λw':World=>w'.cell? ⟨q.x,0,none⟩=some (.slice (some ⟨gs,0,none⟩) D.st.length cs)/\w'.cell? ⟨q.x,1,none⟩=some (.slice (some ⟨g,0,none⟩) D.st.length cap)/\w'.cell? ⟨g,k,none⟩=some (.slice (some ⟨bo,b,none⟩) ln c)/\w'.cell? ⟨bo,b+j,none⟩=some (.string u)) qk ?_;refine tQ 0 27 ?_;refine tT 1 (some 28) hS ?_;refine tQ 2 29 ?_;refine tT 3 (some 30) hS ?_;refine tQ 4 31 ?_;refine tQ 5 32 ?_;refine tT 6 (some 33) hS ?_;refine tQ 7 34 ?_;refine tT 8 (some 35) hS ?_;refine tQ 9 36 ?_;refine tQ 10 37 ?_;refine tT 11 (some 38) hS ?_;refine tQ 12 39 ?_;refine tQ 13 40 ?_;refine tQ 14 41 ?_;refine tT 15 (some 42) hS ?_;refine tQ 16 43 ?_;refine tO 17 λK' hK=>?_;go_wp2_with fail;refine hK.out _ _ (.inl rfl) ?_;clear hK hS;refine AA qk ?_ _;go_wp2_with fail;go_ret;rw [HV.out];have r:=HH.grew (fh w).drew;exact ⟨rfl,q,r.store_st m d o,Foot'.refl _ _,((gW q.feet w).drew.setCell (p:=⟨gs,k,none⟩) (λ_=>.inr (.inr (.inl (by rw [m.out];rfl)))) _)⟩
omit h in
theorem Pf (W:World) (g cap:Nat) (u:ByteArray) (hu:u.size=140) (hc:∀j (hj:j<u.size),W.cell? ⟨g,j,none⟩=some (.int .u8 (u[j].toNat:Int))):(convert 169 9 (.slice (some ⟨g,0,none⟩) 140 cap)).run Tryz.prog W=.ok (.string u) W:=by
 have h:=run_convert_bytes_back (P:=Tryz.prog) W 169 9 5 ⟨g,0,none⟩ cap u.data.toList Tryz.underlying169 Tryz.underlying5 Tryz.underlying9 (λj hj=>by
  have:(⟨g,0,none⟩:Addr).add j=⟨g,j,none⟩:=by unfold Addr.add;split<;>simp_all
  rw [this]
  exact hc j (by rw [iG] at hj;exact hj))
 have hl:u.data.toList.length=140:=by rw [iG];exact hu
 rw [hl] at h;exact h
theorem UH (sec i:Int) (m:UInt8) (hs:okI sec) (hi:okI i):Calls Tryz.prog 41 #[.pointer (some ⟨q.x,0,none⟩),.int .i64 sec,.int .i64 i,.int .u8 (m.toNat:Int)] w λer w'=>er=.returned (.int .i64 (CK D sec i m).2)/\Did w w' q (CK D sec i m).1:=by
 have HH:=zh h;unfold okI at hs hi;cases ht:Cl D sec with
 | false=>
   have HV:=zh (show CK D sec i m=(D,2) from by unfold CK;rw [if_pos (.inl ht)]);have HT:=zh (EL h sec false ht);clear h ht;go_enter Tryz.func41,Tryz.ntmps41;go_wp2_with fail;refine HT.mono ?_;rintro er w1 ⟨rfl,rfl⟩;go_wp2_with fail;go_ret;rw [HV.out];exact ⟨rfl,Did.same HH (fh _)⟩
 | true=>
   have h0:=gV ht;obtain ⟨k,rfl⟩:∃k:Nat,sec=(k:Int):=⟨sec.toNat,oo⟩;have HT:=zh (EL h k true ht);have n:k<D.st.length:=oo;by_cases h1:i<0
   . have HV:=zh (show CK D k i m=(D,2) from by unfold CK;rw [if_pos (.inr (.inl h1))]);clear h ht;go_enter Tryz.func41,Tryz.ntmps41;go_wp2_with fail;refine HT.mono ?_;rintro er w1 ⟨rfl,rfl⟩;go_wp2_with fail;go_ret;rw [HV.out];exact ⟨rfl,Did.same HH (fh _)⟩
   . by_cases h2:140<=i
     . have HV:=zh (show CK D k i m=(D,2) from by unfold CK;rw [if_pos (.inr (.inr h2))]);clear h ht;go_enter Tryz.func41,Tryz.ntmps41;go_wp2_with fail;refine HT.mono ?_;rintro er w1 ⟨rfl,rfl⟩;go_wp2_with fail;go_ret;rw [HV.out];exact ⟨rfl,Did.same HH (fh _)⟩
     . by_cases hm:m=0
       . have HV:=zh (show CK D k i m=(D,1) from by unfold CK;rw [if_neg (by rw [ht];simp;omega),if_pos hm]);have H:(m.toNat:Int)=0:=by rw [hm];rfl
         clear h ht hm;go_enter Tryz.func41,Tryz.ntmps41;go_wp2_with fail;refine HT.mono ?_;rintro er w1 ⟨rfl,rfl⟩;go_wp2_with fail;go_ret;rw [HV.out];exact ⟨rfl,Did.same HH (fh _)⟩
       . have HV:=zh (show CK D k i m=({ D with st:=D.st.set k (Ee (D.at k) i.toNat m) },0) from by unfold CK;rw [if_neg (by rw [ht];simp;omega),if_neg hm,gQ]);have H:((m.toNat:Int)==0)=false:=gF.2 (λe=>hm (UInt8.toNat_inj.1 (by show m.toNat=0;omega)));obtain ⟨j,rfl⟩:∃j:Nat,i=(j:Int):=⟨i.toNat,oo⟩;rw [gQ] at HV;obtain ⟨gs,cs,d,C,av,a0,a1⟩:=h.st_form;have hk:=h.blk;rw [d] at hk;have I:=hk.lt;have x0:=hk.cell 0;have y0:=h.st_cell d n;have o:=Fh h.ok n;have r:=zh d;obtain ⟨wb,cap,E,f,F,y,G⟩:=Ur w (D.at k);rw [o] at E;generalize D.at k=a at*;have z:j<a.size:=oo;have cj:=y j z;have U:=fY a[j] m;have fj:=G j z;have A:=(f.cellEq _ _ I).trans x0;have J:=zh f;have s:=(h.grew f).st;rw [d] at s;have K:=(f.cellEq _ _ C).trans y0;have L:=s.frozen k;have g:=WY a j m
         have B:=Pf (wb.setCell ⟨w.heap.size,j,none⟩ (.int .u8 ((a[j].toNat ^^^ m.toNat:Nat):Int))).drew w.heap.size cap (Ee a j m) (by rw [g,o]) (λi hi=>by
          have M:i<a.size:=by rw [<-g];exact hi
          show (wb.setCell ⟨w.heap.size,j,none⟩ _).cell? _=_
          by_cases v:i=j
          . subst v
            rw [World.cell?_setCell_same' _ _ _ (by rw [cj];rfl)]
            congr 3
            rw [<-UInt8.toNat_xor]
            show (a[i] ^^^ m).toNat=((Ee a i m).data[i]).toNat
            congr 1
            exact (Array.getElem_modify_self (λb=>b ^^^ m) ..).symm
          . have N:(wb.setCell ⟨w.heap.size,j,none⟩ (.int .u8 ((a[j].toNat ^^^ m.toNat:Nat):Int))).cell? ⟨w.heap.size,i,none⟩=wb.cell? ⟨w.heap.size,i,none⟩:=by
             refine World.cell?_setCell_other _ _ _ _ ?_
             intro e
             injection e with _ e _
             exact v e.symm
            rw [N,y i M]
            congr 3
            show (a.data[i]).toNat=((Ee a j m).data[i]).toNat
            congr 1
            exact (Array.getElem_modify_of_ne (Ne.symm v) ..).symm)
         have V:wb.heap.size=w.heap.size+1:=F;have W:gs<wb.heap.size:=oo;have X:¬gs=w.heap.size:=oo;have O:¬q.x=w.heap.size:=oo;have Y:q.x<wb.heap.size:=oo;have Z:(j:Int)<140:=oo;have aa:(0:Int)<=(j:Int):=oo;have P:=zh g;clear h ht d hk f y G s F g;generalize a[j]=aj at*;go_enter Tryz.func41,Tryz.ntmps41;go_wp2_with fail;refine HT.mono ?_;rintro er w1 ⟨rfl,rfl⟩;go_wp2_with fail;obtain ⟨wc,l⟩:∃wc,wc=wb.setCell ⟨w.heap.size,j,none⟩ (.int .u8 ((aj.toNat ^^^ m.toNat:Nat):Int)):=⟨_,rfl⟩;rw [<-l] at B ⊢;have Q:wc.cell? ⟨q.x,0,none⟩=some (.slice (some ⟨gs,0,none⟩) D.st.length cs):=by rw [l];exact (World.cell?_setCell_far _ _ _ _ (λe=>O e.symm)).trans A
         have c:Grew w wc:=by rw [l];exact J.setCell (fk _) _
         have t:=HH.grew c;have u:=t.st;rw [r.out] at u;have ad:=u.frozen k;have ae:=(c.cellEq _ _ C).trans y0;have al:gs<wc.heap.size:=by have:=c.size;omega
         have an:q.x<wc.heap.size:=by have:=c.size;omega
         have R:=zh t;have S:=zh c;clear l t c u A K L cj fj x0 y0 E;refine AB [8] (λw':World=>w'.cell? ⟨q.x,0,none⟩=some (.slice (some ⟨gs,0,none⟩) D.st.length cs)/\(convert 169 9 (.slice (some ⟨w.heap.size,0,none⟩) 140 cap)).run Tryz.prog w'=.ok (.string (Ee a j m)) w') qk ?_;have hS:=(show (λw':World=>w'.cell? ⟨q.x,0,none⟩=some (.slice (some ⟨gs,0,none⟩) D.st.length cs)/\(convert 169 9 (.slice (some ⟨w.heap.size,0,none⟩) 140 cap)).run Tryz.prog w'=.ok (.string (Ee a j m)) w') wc.drew from ⟨Q,B⟩);refine tQ 0 39 ?_;refine tT 1 (some 40) hS ?_;refine tQ 2 41 ?_;refine tT 3 (some 42) hS ?_;refine tQ 4 43 ?_;refine tQ 5 44 ?_;refine tT 6 (some 45) hS ?_;refine tQ 7 46 ?_;refine tO 8 λK' hK=>?_;go_wp2_with fail;refine hK.out _ _ (.inl rfl) ?_;clear hK hS;refine AA qk ?_ _;go_wp2_with fail;go_ret;rw [HV.out];have T:=R.grew (fh wc).drew;exact ⟨rfl,q,T.store_st r n (by rw [P.out,o]),Foot'.refl _ _,(((S.turned q.feet).drew).setCell (p:=⟨gs,k,none⟩) (λ_=>.inr (.inr (.inl (by rw [r.out];rfl)))) _)⟩
end

theorem VV {o:Oper} {a:Act} {w w':World} {K:Act->World->Prop} {Q:Exit->Act->World->Prop} (t:TypeId) (x y:Operand) (b:o.op=.makeSlice t x y) {vx vy v:Value} (hx:a.eval x=vx) (hy:a.eval y=vy) (c:(Instr.makeSlice t vx vy).run Tryz.prog w=.ok v w') (h:K (a.put o.dst v) w'):o.wp Tryz.prog a w K Q:=by
 unfold Oper.wp;simp [execOp,b,hx,hy,c,Result.andThen];exact h
theorem Tj {o:Oper} {a:Act} {w:World} {K:Act->World->Prop} {Q:Exit->Act->World->Prop} (t:TypeId) (b:o.op=.makeMap t none) (h:K (a.put o.dst (.map (some w.heap.size))) (w.alloc (.map #[] 0))):o.wp Tryz.prog a w K Q:=by
 have hr:=run_makeMap (P:=Tryz.prog) t w;unfold Oper.wp;simp [execOp,b,hr,Result.andThen];exact h
theorem Wb:(Tryz.prog.info? 60).map (λi=>(i.zero,i.size,i.bytes))=some (some (.slice none 0 0),1,24):=qk
theorem X3:(Tryz.prog.info? 5).map (λi=>(i.zero,i.size,i.bytes))=some (some (.int .u8 0),1,1):=qk
def Kk (n:Nat):ByteArray:=⟨(List.replicate n (0:UInt8)).toArray⟩
def blank:ByteArray:=Kk 140
theorem Jz:blank.size=140:=by simp [blank,Kk,ByteArray.size]
theorem ZG (n j:Nat) (hj:j<(Kk n).size):(Kk n)[j]=0:=by
 have h':j<((List.replicate n (0:UInt8)).toArray).size:=hj;have:((List.replicate n (0:UInt8)).toArray)[j]'h'=0:=qs;exact this
theorem Yq (j:Nat) (hj:j<blank.size):blank[j]=0:=ZG 140 j hj
def ES (n:Nat):Dev:=⟨List.replicate n blank,List.replicate n [],[],λ_=>0,none,false⟩
theorem P9 (n:Nat) (h1:1<=n) (h2:n<=1155):(ES n).Ok:=by
 refine ⟨by simp [ES],by simpa [ES] using h1,by simpa [ES] using h2,λs hs=>?_,λl hl=>?_,λr hr=>(by cases hr),λs=>(by show (0:Int)<=0/\(0:Int)<=_;omega)⟩
 . rw [(jQ.1 hs).2];exact Jz
 . rw [(jQ.1 hl).2];simp
def NewR (w:World) (n:Nat) (i:Nat) (v:Value) (w':World):Prop:=
 (i=1->OwnL w' w.heap.size 9 1 v (List.replicate n [.string ⟨#[]⟩]))/\(i=3->OwnL w' w.heap.size 60 1 v (List.replicate n [.slice none 0 0]))/\(i=4->∃m,v=.map (some m)/\w.heap.size<=m/\MapI w' m (λ_=>none))
theorem NewR.grew {w:World} {n i:Nat} {v:Value} {w1 w2:World} (hg:Grew w1 w2) (h:NewR w n i v w1):NewR w n i v w2:=by
 refine ⟨λhi=>(h.1 hi).grew hg,λhi=>(h.2.1 hi).grew hg,λhi=>?_⟩;obtain ⟨m,h1,h2,h3⟩:=h.2.2 hi;exact ⟨m,h1,h2,h3.grew hg⟩
theorem bm (n:Nat) (w:World) (h1:1<=n) (h2:n<=1155):Calls Tryz.prog 68 #[.int .i64 (n:Int)] w λe w'=>∃x q,e=.returned (.tuple #[.pointer (some ⟨x,0,none⟩),.int .i64 0])/\q.x=x/\DevM w' q (ES n)/\Grew w w'/\∀k,q.feet k->w.heap.size<=k:=by
 have hS:(λ_:World=>True) w.drew:=trivial;go_enter Tryz.func68,Tryz.ntmps68;go_wp2_with fail;refine AB [] (λ_:World=>True) qk ?_;refine tQ 0 13 ?_;refine tQ 2 15 ?_;refine T9 [(1,14),(3,16),(4,17)] (NewR w n) (fuel:=3) rfl qk (λi v w1 w2 hg h=>h.grew hg) (λ_ _ _ _=>trivial) ?_ ?_
 . intro p hp a' w' hg I K' hK;have C:a'.eval (.tmp 13)=.int .i64 (n:Int):=(I 13 qd).trans rfl;have D:a'.eval (.tmp 15)=.int .i64 (n:Int):=(I 15 qd).trans rfl;rcases ia.1 hp with rfl | hp
   . refine ⟨_,rfl,?_⟩;rw [if_pos (by rfl)];refine VV 60 (.tmp 13) (.tmp 13) rfl C C (Ij w' n Tryz.underlying60 Mn rfl oo oo) ?_;refine hK.out _ _ ((fh w').alloc _) ⟨λ_=>OwnL.made w' w.heap.size _ n _ hg.size oo rfl,λh=>absurd h qd,λh=>absurd h qd⟩
   . rcases ia.1 hp with rfl | hp
     . refine ⟨_,rfl,?_⟩;rw [if_pos (by rfl)];refine VV 117 (.tmp 15) (.tmp 15) rfl D D (Ij w' n Tryz.underlying117 Wb rfl oo oo) ?_;refine hK.out _ _ ((fh w').alloc _) ⟨λh=>absurd h qd,λ_=>OwnL.made w' w.heap.size _ n _ hg.size oo rfl,λh=>absurd h qd⟩
     . obtain rfl:=fp.1 hp;refine ⟨_,rfl,?_⟩;rw [if_pos (by rfl)];refine Tj 119 rfl ?_;exact hK.out _ _ ((fh w').alloc _) ⟨λh=>absurd h qd,λh=>absurd h qd,λ_=>⟨w'.heap.size,rfl,hg.size,MapIs.made w' rfl⟩⟩
 . intro J w1 K hR;have h3:=(hR (1,14) qd).1 rfl;have h4:=(hR (3,16) qd).2.1 rfl;obtain ⟨m,h5,h6,h7⟩:=(hR (4,17) qd).2.2 rfl;clear hS;have hS:(λ_:World=>True) w1:=trivial;simp only [H8,IK,if_true,Act.put,setIfInBounds_toArray,set_cons_zero,set_cons_succ];generalize J 1=v1 at*;generalize J 3=v3 at*;rw [h5];clear h5 hR
   obtain ⟨g1,c1,rfl,W,a1,a2,a3⟩:∃g c,v1=.slice (some ⟨g,0,none⟩) n c/\w.heap.size<=g/\g<w1.heap.size/\n<=c/\c<=9223372036854775807:=by
    rcases h3.form with ⟨_,h0⟩ | ⟨g,c,e1,e2,e3,e4,e5⟩
    . have:=gJ length h0;simp at this;omega
    . rw [i0] at e1 e4;exact ⟨g,c,e1,e2,e3,e4,e5⟩
   obtain ⟨g3,c3,rfl,b,a4,a5,a6⟩:∃g c,v3=.slice (some ⟨g,0,none⟩) n c/\w.heap.size<=g/\g<w1.heap.size/\n<=c/\c<=9223372036854775807:=by
    rcases h4.form with ⟨_,h0⟩ | ⟨g,c,e1,e2,e3,e4,e5⟩
    . have:=gJ length h0;simp at this;omega
    . rw [i0] at e1 e4;exact ⟨g,c,e1,e2,e3,e4,e5⟩
   have H3:=zh h3;have H4:=zh h4;have H7:=zh h7;have N:=zh K;clear h3 h4 h7 K;refine tQ 5 18 ?_;refine tO 6 λK' hK=>?_;go_wp2_with fail;refine hK.out _ _ (.inr (λh=>h)) ?_;clear hK hS;have hS:(λ_:World=>True) w1:=trivial;refine tQ 7 4 ?_;refine AA qk ?_ _;clear hS;have f:=fy w1 123 #[.slice (some ⟨g1,0,none⟩) n c1,.slice (some ⟨g3,0,none⟩) n c3,.slice none 0 0,.map (some m),.bool false,.int .i64 0,.slice none 0 0,.bool false] rfl;have r:=(fh w1).alloc (.cells #[.slice (some ⟨g1,0,none⟩) n c1,.slice (some ⟨g3,0,none⟩) n c3,.slice none 0 0,.map (some m),.bool false,.int .i64 0,.slice none 0 0,.bool false] 123);obtain ⟨w2,L⟩:∃w2,w2=w1.alloc (.cells #[.slice (some ⟨g1,0,none⟩) n c1,.slice (some ⟨g3,0,none⟩) n c3,.slice none 0 0,.map (some m),.bool false,.int .i64 0,.slice none 0 0,.bool false] 123):=⟨_,rfl⟩;rw [<-L] at f r ⊢;clear L;have E:=Ij w2 140 Tryz.underlying169 X3 rfl oo oo
   have X:=Pf (w2.alloc (.cells (Array.replicate 140 (.int .u8 0)) 5)) w2.heap.size 140 blank Jz (λj hj=>by
    rw [cell_of_row _ w2.heap.size j _ _ _ (heap_alloc_new w2 _),Array.getElem?_replicate,if_pos (by rw [Jz] at hj;exact hj)]
    rw [Yq j hj];rfl)
   have t:=r.alloc (.cells (Array.replicate 140 (.int .u8 0)) 5);have b:=f.alloc (.cells (Array.replicate 140 (.int .u8 0)) 5);have Y:=b.lt;have x0:=b.cell 0;have O:=zh (H3.grew t);have F:=zh b;have P:=zh t;have Z:w1.heap.size<w2.heap.size:=f.lt;clear f r b t;have aa:(Instr.makeSlice 169 (.int .i64 140) (.int .i64 140)).run Tryz.prog w2=.ok (.slice (some ⟨w2.heap.size,0,none⟩) 140 140) (w2.alloc (.cells (Array.replicate 140 (.int .u8 0)) 5)):=E;clear E;generalize hwc:w2.alloc (.cells (Array.replicate 140 (.int .u8 0)) 5)=w3 at*;have ad:w3.heap.size=w2.heap.size+1:=by rw [<-hwc];simp
   clear hwc;go_wp2_with fail
   go_loopg [27] n (λgk iv wr=>∃j:Nat,j<=n/\gk=n - j/\iv=.int .i64 (j:Int)/\OwnL wr w.heap.size 9 1 (.slice (some ⟨g1,0,none⟩) n c1) ((List.replicate j blank++List.replicate (n - j) emp).map BT)/\Turned (λk=>k=g1) w3 wr)
   case atStart=>exact ⟨0,oo,rfl,rfl,by rw [List.replicate_zero,nil_append,List.map_replicate];exact O.out,gW _ _⟩
   case round=>
    obtain ⟨j,hj,M,rfl,a,d⟩:=hrel;have Q:=zh M;have u:=zh d;have ae:=zh a;have aj:=d.size;have G:¬w1.heap.size=g1:=oo;have y:=F.turned d G;have al:=y.cell 0;have an:=y.lt;clear M y x0;by_cases a0:j<n
    . have z:((List.replicate j blank++List.replicate (n - j) emp).map BT)[j]? =some (BT emp):=by
       rw [fo,iO qs,i0,Nat.sub_self,jS,if_pos oo];rfl
      have c0:=a.cell (i:=0) z rfl;rw [Nat.mul_one,ik] at c0;have f0:=a.frozen j;have hs:=a.set_ (j:=j) (i:=0) (o:=j) z oo oo (.string blank)
      have he:((List.replicate j blank++List.replicate (n - j) emp).map BT).set j ((BT emp).set 0 (.string blank))=(List.replicate (j+1) blank++List.replicate (n - (j+1)) emp).map BT:=by
       rw [show (BT emp).set 0 (.string blank)=BT blank from rfl,<-List.map_set];congr 1;rw [List.set_append_right _ _ qs,i0,Nat.sub_self,show n - j=(n - (j+1))+1 by omega,List.replicate_succ,set_cons_zero,List.replicate_succ',iA];rfl
      rw [he] at hs;have HS:=zh hs;clear hs he z a d;go_wp2_with fail
      go_roundg (n - (j+1))
      case measure=>rw [Q.out];omega
      case rel=>exact ⟨j+1,oo,oo,by go_num,HS,u.setCell (p:=⟨g1,j,none⟩) (λ_=>rfl) _⟩
    . obtain rfl:j=n:=oo;have A:=a;rw [Nat.sub_self,List.replicate_zero,append_nil] at A;have R:=zh A;clear a A d;go_wp2_with fail;go_ret2;have H:Grew w w1:=(fh w).drew.trans N;have av:Grew w1 wr->True:=λ_=>trivial;have B:Turned (λk=>k=g1) w1 wr:=(P.turned _).trans u
      have S:g3≠g1:=by
       have h1:=H3.out;have h2:=H4.out;intro e;exact BA h1 h2 qd g1 rfl (by rw [e];rfl)
      have T:m≠g1:=λe=>DX H3 H7 (by rw [e];rfl);refine ⟨w1.heap.size,⟨w1.heap.size,m,.slice (some ⟨g1,0,none⟩) j c1,.slice (some ⟨g3,0,none⟩) j c3,.slice none 0 0,.slice none 0 0,List.replicate j (.slice none 0 0),false,0,[],λ_=>none⟩,rfl,rfl,?_,?_,?_⟩
      . refine ⟨F.turned u G,R.base0,?_,by simp [ES],λi v l hv hl=>?_,OwnL.nil _ _ _ _,OwnL.nil _ _ _ _,H7.turned B T,λs _ _=>.inl ⟨rfl,rfl⟩,rfl,(by show (0:Int)<=0/\(0:Int)<=_;omega),⟨λn hn=>(by cases hn),iB _⟩,P9 j h1 h2⟩
        . rw [List.map_replicate];exact H4.base0.kept B (λg hg e=>S (by injection hg with hg;exact hg.trans e))
        . have U:=(jQ.1 (ip hv)).2;have V:=(jQ.1 (ip hl)).2;subst U;subst V;exact ⟨OwnL.nil _ _ _ _,λg hg=>(by cases hg)⟩
      . exact H.turn B (λk hk=>oo)
      . intro k hk;rcases hk with hk | hk | hk | hk | hk | hk | ⟨v,hv,hk⟩
        . rw [hk];exact H.size
        . rw [hk];exact h6
        . injection hk with hk;subst hk;exact W
        . injection hk with hk;subst hk;exact b
        . cases hk
        . cases hk
        . rw [(jQ.1 hv).2] at hk;cases hk

theorem Xt {a b:ByteArray} (h:a=b):Ending.returned (.string a)=.returned (.string b):=by rw [h]
def Gf (n:Nat) (s:ByteArray):ByteArray:=s++Kk (n - s.size)
theorem RE (n:Nat) (s:ByteArray) (h:n<=s.size):Gf n s=s:=by
 unfold Gf;rw [show n - s.size=0 by omega];show s++⟨#[]⟩=s;exact jA
theorem RP (n:Nat) (s:ByteArray) (h:s.size<n):Gf n s=Gf n (s++⟨#[0]⟩):=by
 unfold Gf;have hs:(s++(⟨#[0]⟩:ByteArray)).size=s.size+1:=by simp [f8];rfl
 rw [hs,show n - s.size=(n - (s.size+1))+1 by omega];rw [im];congr 1
theorem Kt (s:ByteArray) (n:Nat) (w:World) (hn:n<=2000) (hs:s.size<=1000000):
 Calls Tryz.prog 63 #[.string s,.int .i64 (n:Int)] w λe w'=>e=.returned (.string (Gf n s))/\w=w':=by
 go_enter Tryz.func63,Tryz.ntmps63;go_wp2_with fail
 go_loopg [0] (n+1 - s.size) (λgk v wr=>w=wr/\∃u:ByteArray,v=.string u/\gk=n+1 - u.size/\u.size<=1000000/\Gf n u=Gf n s)
 case atStart=>exact ⟨rfl,s,rfl,rfl,hs,rfl⟩
 case round=>
  obtain ⟨rfl,u,rfl,c,hu,hp⟩:=hrel;have d:=zh c;have HP:=zh hp;clear c hp;have a:(u++(⟨#[0]⟩:ByteArray)).size=u.size+1:=by simp [f8];rfl
  have b:=zh a;clear a;by_cases i:u.size<n
  . have f:(u.size:Int)<(n:Int):=oo;have g:=zh (RP n u i);go_wp2_with fail
    go_roundg (n+1 - (u.size+1))
    case measure=>rw [d.out];omega
    case rel=>exact ⟨rfl,_,rfl,by rw [b.out],by rw [b.out];omega,by rw [<-g.out];exact HP.out⟩
  . have f:¬(u.size:Int)<(n:Int):=oo;have h:=zh (RE n u oo);go_wp2_with fail;go_ret;exact ⟨Xt (by rw [<-HP.out,h.out]),rfl⟩

def Live (w0:World) (x:Nat) (D:Dev) (out:Nat->Prop) (ws:World):Prop:=
 ∃q:DevP,q.x=x/\DevM ws q D/\Grew w0 ws/\(∀k,q.feet k->w0.heap.size<=k)/\(∀k,out k->k<ws.heap.size/\¬q.feet k)
abbrev Beside (w0:World) (out:Nat->Prop) (ws ws':World):Prop:=Turned (λk=>w0.heap.size<=k/\¬out k) ws ws'
theorem Live.did {w0 ws:World} {x:Nat} {D D':Dev} {out:Nat->Prop} {f:Nat} {args:Array Value} {E:Ending->Prop} (h:Live w0 x D out ws) (hc:∀q:DevP,q.x=x->DevM ws q D->Calls Tryz.prog f args ws λe w'=>E e/\Did ws w' q D'):
 Calls Tryz.prog f args ws λe w'=>E e/\Live w0 x D' out w'/\Beside w0 out ws w':=by
 obtain ⟨q,hx,hd,hg,hf,ho⟩:=h;refine (hc q hx hd).mono ?_;rintro e w' ⟨he,q',c,a,b⟩;refine ⟨he,⟨q',a.x.trans hx,c,hg.turn b hf,λk hk=>(a.feet k hk).elim (hf k) (λh=>fx hg.size h),λk hk=>⟨fw (ho k hk).1 b.size,λh=>(a.feet k h).elim (ho k hk).2 (λh9=>absurd (ho k hk).1 oo)⟩⟩,b.mono (λk _ hk=>⟨hf k hk,λh=>(ho k h).2 hk⟩)⟩
theorem Live.look {w0 ws:World} {x:Nat} {D:Dev} {out:Nat->Prop} {f:Nat} {args:Array Value} {E:Ending->Prop} (h:Live w0 x D out ws) (hc:∀q:DevP,q.x=x->DevM ws q D->Calls Tryz.prog f args ws λe w'=>E e/\ws=w'):
 Calls Tryz.prog f args ws λe w'=>E e/\ws=w':=by
 obtain ⟨q,hx,hd,_⟩:=h;exact hc q hx hd
theorem Live.grew {w0 ws ws':World} {x:Nat} {D:Dev} {out:Nat->Prop} (h:Live w0 x D out ws) (hg:Grew ws ws'):Live w0 x D out ws':=by
 obtain ⟨q,hx,hd,a,hf,ho⟩:=h;exact ⟨q,hx,hd.grew hg,a.trans hg,hf,λk hk=>⟨fw (ho k hk).1 hg.size,(ho k hk).2⟩⟩
theorem Live.more {w0 ws ws':World} {x:Nat} {D:Dev} {out:Nat->Prop} (h:Live w0 x D out ws) (hg:Grew ws ws'):Live w0 x D (λk=>out k\/(ws.heap.size<=k/\k<ws'.heap.size)) ws':=by
 obtain ⟨q,hx,hd,a,hf,ho⟩:=h;refine ⟨q,hx,hd.grew hg,a.trans hg,hf,λk hk=>?_⟩;rcases hk with hk | hk
 . exact ⟨fw (ho k hk).1 hg.size,(ho k hk).2⟩
 . exact ⟨hk.2,λh=>absurd (hd.feet_lt k h) oo⟩
theorem Live.base {w0 ws:World} {x:Nat} {D:Dev} {out:Nat->Prop} (h:Live w0 x D out ws):Grew w0 ws:=by obtain ⟨_,_,_,h,_⟩:=h;exact h
theorem Live.ok {w0 ws:World} {x:Nat} {D:Dev} {out:Nat->Prop} (h:Live w0 x D out ws):D.Ok:=by obtain ⟨_,_,h,_⟩:=h;exact h.ok
theorem Live.few {w0 ws:World} {x:Nat} {D:Dev} {out out':Nat->Prop} (h:Live w0 x D out ws) (ho:∀k,out' k->out k):Live w0 x D out' ws:=by
 obtain ⟨q,hx,hd,a,hf,hn⟩:=h;exact ⟨q,hx,hd,a,hf,λk hk=>hn k (ho k hk)⟩
theorem Zi (n:Nat) (w:World) (h1:1<=n) (h2:n<=1155):Calls Tryz.prog 68 #[.int .i64 (n:Int)] w λe w'=>∃x,e=.returned (.tuple #[.pointer (some ⟨x,0,none⟩),.int .i64 0])/\Live w x (ES n) (λ_=>False) w':=by
 refine (bm n w h1 h2).mono ?_;rintro e w' ⟨x,q,rfl,hx,hd,hg,hf⟩;exact ⟨x,rfl,q,hx,hd,hg,hf,λk hk=>hk.elim⟩
section
variable {w0 ws:World} {x:Nat} {D:Dev} {out:Nat->Prop} (h:Live w0 x D out ws)
include h
theorem Nn (s e sec:Int) (data:ByteArray) (hsmall:D.pend.length<=999999) (hsz:data.size<=9223372036854775807):
 Calls Tryz.prog 183 #[.pointer (some ⟨x,0,none⟩),.agg #[.int .i64 s,.int .i64 e],.int .i64 sec,.string data] ws λer w'=>er=.returned (.int .i64 (BN D s e sec data).2)/\Live w0 x (BN D s e sec data).1 out w'/\Beside w0 out ws w':=
 h.did (λq hx hd=>by rw [<-hx];exact X0 hd s e sec data hsmall hsz)
theorem Xe (s e:Int) (hsmall:D.pend.length<=1000000):
 Calls Tryz.prog 185 #[.pointer (some ⟨x,0,none⟩),.agg #[.int .i64 s,.int .i64 e]] ws λer w'=>er=.returned (.int .i64 (Ci D s e).2)/\Live w0 x (Ci D s e).1 out w'/\Beside w0 out ws w':=
 h.did (λq hx hd=>by rw [<-hx];exact Yl hd s e hsmall)
theorem Rm (sec back:Int) (hs:okI sec) (hb:okI back):
 Calls Tryz.prog 40 #[.pointer (some ⟨x,0,none⟩),.int .i64 sec,.int .i64 back] ws λer w'=>er=.returned (.int .i64 (Cg D sec back).2)/\Live w0 x (Cg D sec back).1 out w'/\Beside w0 out ws w':=
 h.did (λq hx hd=>by rw [<-hx];exact Uz hd sec back hs hb)
theorem Qw (sec i:Int) (m:UInt8) (hs:okI sec) (hi:okI i):
 Calls Tryz.prog 41 #[.pointer (some ⟨x,0,none⟩),.int .i64 sec,.int .i64 i,.int .u8 (m.toNat:Int)] ws λer w'=>er=.returned (.int .i64 (CK D sec i m).2)/\Live w0 x (CK D sec i m).1 out w'/\Beside w0 out ws w':=
 h.did (λq hx hd=>by rw [<-hx];exact UH hd sec i m hs hi)
theorem Pn (i:Int) (s:ByteArray) (er:Int) (hr:GT D i=(s,er)):Calls Tryz.prog 217 #[.pointer (some ⟨x,0,none⟩),.int .i64 i] ws λe w'=>e=.returned (.tuple #[.string s,.int .i64 er])/\ws=w':=
 h.look (λq hx hd=>by rw [<-hx];exact Zc hd i s er hr)
theorem Y7 (i:Int):Calls Tryz.prog 39 #[.pointer (some ⟨x,0,none⟩),.int .i64 i] ws λe w'=>e=.returned (.int .i64 (Bj D i:Int))/\ws=w':=
 h.look (λq hx hd=>by rw [<-hx];exact dE hd i)
theorem DD:Calls Tryz.prog 38 #[.pointer (some ⟨x,0,none⟩)] ws λe w'=>e=.returned (.int .i64 (D.st.length:Int))/\ws=w':=
 h.look (λq hx hd=>by rw [<-hx];exact Sw hd)
end

end
section
attribute [local go_sem ↓] Go.wp_at_zero Go.wp_at_succ
open Go.Maps (Keyed)
open Go.RowKit Go.ChangeShapes Go.WideShapes Go.ChangeAt Go.Deep
structure OpD where
 kind:Nat
 sys:Int
 ep:Int
 sec:Int
 data:ByteArray
 n:Int
 mask:UInt8
 A:Option Addr
 c:Nat
 sv:List Int
instance:Inhabited OpD:=⟨⟨0,0,0,0,⟨#[]⟩,0,0,none,0,[]⟩⟩
def opV (o:OpD):Array Value:=#[.int .u8 (o.kind:Int),.int .i64 o.sys,.int .i64 o.ep,.int .i64 o.sec,.string o.data,.int .i64 o.n,.int .u8 (o.mask.toNat:Int),.slice o.A o.sv.length o.c]
def opC (o:OpD):List Value:=[.int .u8 (o.kind:Int),.int .i64 o.sys,.int .i64 o.ep,.int .i64 o.sec,.string o.data,.int .i64 o.n,.int .u8 (o.mask.toNat:Int),.slice o.A o.sv.length o.c]
structure okOp (w:World) (o:OpD):Prop where
 kind:o.kind<256
 sys:okI o.sys
 ep:okI o.ep
 sec:okI o.sec
 n:okI o.n
 data:o.data.size<=9223372036854775807
 sv:∀n∈o.sv,okI n
 len:o.sv.length<=o.c
 cap:o.c<=9223372036854775807
 list:ListAt w w.heap.size 1 o.A (o.sv.map Cq)
def OpsAt (w:World) (B:Nat) (A:Option Addr) (l:List OpD):Prop:=(∀o∈l,okOp w o)/\ListAt w B 8 A (l.map opC)
theorem okOp.keep {w w':World} {o:OpD} (h:okOp w o) (hg:Grew w w'):okOp w' o:=⟨h.kind,h.sys,h.ep,h.sec,h.n,h.data,h.sv,h.len,h.cap,(h.list.keep (fk _) hg).mono hg.size⟩
theorem OpsAt.at_ {w:World} {B:Nat} {A:Option Addr} {l:List OpD} (h:OpsAt w B A l) {k:Nat} (hk:k<l.length):∃b off,A=some ⟨b,off,none⟩/\b<B/\okOp w l[k]/\∀i v,(opC l[k])[i]? =some v->w.cell? ⟨b,off+k*8+i,none⟩=some v:=by
 obtain ⟨b,off,e,hb,hc⟩:=h.2 (by simp;omega);exact ⟨b,off,e,hb,h.1 _ (fq hk),hc k (opC l[k]) (by rw [fo,fg hk];rfl)⟩
section
variable {H:Type} {enc:TypeId × Value->H} {w:World}
theorem Xq {fuel:Nat} {v:Value} {x0:DataW H × List MemPlace} (hf:DataW.trod enc Tryz.prog w 0 (λ_=>true) true fuel 38 [v]=some x0):
 ∃A c,∃l:List Int,v=.slice A l.length c/\l.length<=c/\c<=9223372036854775807/\(∀n∈l,okI n)/\ListAt w w.heap.size 1 A (l.map Cq):=
 Ja (α:=Int) (sz:=1) Tryz.underlying38 qk oo Cq okI (λn cs y hlen h=>by
     match cs,hlen with
     | [v],_=>
       obtain ⟨n0,hn0,_,w0⟩:=iW Tryz.underlying3 h
       injection hn0 with hn0 _
       subst hn0
       exact ⟨n0,KK w0,rfl⟩) hf
theorem ZT {n:Nat} {cs:List Value} {y:DataW H × List MemPlace} (j:cs.length=8) (h:DataW.trod enc Tryz.prog w 0 (λ_=>true) true n 40 cs=some y):∃o:OpD,okOp w o/\cs=opC o:=by
 match cs,j with
 | [x0,x1,x2,x3,x4,x5,x6,x7],_=>
   have hf:=ML Tryz.underlying40 h;obtain ⟨_,_,f0⟩:=hf 0 _ rfl;obtain ⟨_,_,f1⟩:=hf 1 _ rfl;obtain ⟨_,_,f2⟩:=hf 2 _ rfl;obtain ⟨_,_,f3⟩:=hf 3 _ rfl;obtain ⟨_,_,f4⟩:=hf 4 _ rfl;obtain ⟨_,_,f5⟩:=hf 5 _ rfl;obtain ⟨_,_,f6⟩:=hf 6 _ rfl;simp only [ij,iT,iJ] at f0 f1 f2 f3 f4 f5 f6;rw [show Tryz.prog.cellsOf 5=1 from qk] at f0 f5;rw [show Tryz.prog.cellsOf 37=2 from qk] at f1;rw [show Tryz.prog.cellsOf 3=1 from qk] at f2 f4;rw [show Tryz.prog.cellsOf 9=1 from qk] at f3;rw [show Tryz.prog.cellsOf 38=1 from qk] at f6;simp only [drop_succ_cons,drop_zero,take_succ_cons,take_zero] at f0 f1 f2 f3 f4 f5 f6;have hg:=Dv Tryz.underlying37 qk f1;obtain ⟨v1,_,_,e1,g1⟩:=hg 0 _ rfl (by show 0<2;omega);obtain ⟨v2,_,_,e2,g2⟩:=hg 1 _ rfl (by show 1<2;omega);simp only [getElem?_cons_zero,getElem?_cons_succ,Option.some.injEq] at e1 e2;subst e1;subst e2;obtain ⟨n0,a,_,w0⟩:=iW Tryz.underlying5 f0;obtain ⟨n1,b,_,w1⟩:=iW Tryz.underlying3 g1;obtain ⟨n2,d,_,w2⟩:=iW Tryz.underlying3 g2;obtain ⟨n3,e,_,w3⟩:=iW Tryz.underlying3 f2;obtain ⟨n4,f,_,w4⟩:=DataW.trod_string Tryz.underlying9 f3;obtain ⟨n5,g,_,w5⟩:=iW Tryz.underlying3 f4;obtain ⟨n6,i,_,w6⟩:=iW Tryz.underlying5 f5;obtain ⟨A,c,l,rfl,h1,h2,h3,h4⟩:=Xq f6;injection a with a _;injection b with b _;injection d with d _;injection e with e _;injection f with f _;injection g with g _;injection i with i _;subst a;subst b;subst d;subst e;subst f;subst g;subst i;have b0:=Z3 w0;have b6:=Z3 w6;unfold maxLen at w4;refine ⟨⟨n0.toNat,n1,n2,n3,n4,n5,UInt8.ofNat n6.toNat,A,c,l⟩,⟨by show n0.toNat<256;omega,KK w1,KK w2,KK w3,KK w5,by simpa using w4,h3,h1,h2,h4⟩,?_⟩
   have e6:((UInt8.ofNat n6.toNat).toNat:Int)=n6:=by
    have:n6.toNat<256:=oo;rw [UInt8.toNat_ofNat'];omega
   unfold opC;simp only [e6,jJ b0.1]
end
def Sl (l:List OpD) (n:Nat):Bool:=l.all (λo=>decide (o.data.size<=300) && decide (o.sv.length<=100)) && decide (l.length<=n)
theorem dR (A:Option Addr) (c:Nat) (l:List OpD) (n:Nat) (w:World) (B:Nat) (hv:OpsAt w B A l) (hB:B<=w.heap.size) (hl:l.length<=9223372036854775807) (hn:n<=1000):
 Calls Tryz.prog 25 #[.slice A l.length c,.int .i64 (n:Int)] w λe w'=>e=.returned (.bool (Sl l n))/\w=w':=by
 have HV:=zh hv;have HF:=zh (show Sl l n=(l.all (λo=>decide (o.data.size<=300) && decide (o.sv.length<=100)) && decide (l.length<=n)) from rfl);generalize Sl l n=bb at*;clear hv;go_enter Tryz.func25,Tryz.ntmps25;go_wp2_with fail
 go_loopg [5] l.length (λgk iv wr=>w=wr/\∃j:Nat,j<=l.length/\gk=l.length - j/\iv=.int .i64 (j:Int)/\∀k (hk:k<l.length),k<j->l[k].data.size<=300/\l[k].sv.length<=100)
 case atStart=>exact ⟨rfl,0,iB _,rfl,rfl,λk hk h=>oo⟩
 case round=>
  obtain ⟨rfl,j,hj,m,rfl,p⟩:=hrel;have q:=zh m;have HA:=zh p;clear m p;by_cases d:j<l.length
  . obtain ⟨b,z,rfl,C,a,hc⟩:=HV.at_ d;have z4:=hc 4 _ rfl;have z7:=hc 7 _ rfl;have r:=a.data;have s:=a.len;have t:=a.cap;have u:=zh (show ∀k (hk:k<l.length),k<j+1->k≠j->l[k].data.size<=300/\l[k].sv.length<=100 from λk hk h1 h2=>HA.out k hk oo);have y:b<w.heap.size:=oo;clear hc a;obtain ⟨o,ho⟩:∃o,l[j]=o:=⟨_,rfl⟩;have HO:=zh ho;rw [ho] at z4 z7 r s t;clear ho;by_cases h1:300<o.data.size
    . have f:(300:Int)<(o.data.size:Int):=oo
      have HE:=zh (show (l.all (λo=>decide (o.data.size<=300) && decide (o.sv.length<=100)) && decide (l.length<=n))=false from by
       rw [Bool.and_eq_false_iff]
       refine .inl (List.all_eq_false.2 ⟨o,by rw [<-HO.out];exact fq d,?_⟩)
       rw [gE oo];simp)
      go_wp2_with fail;go_ret;exact ⟨B5 (by rw [HF.out,HE.out]),rfl⟩
    . by_cases h2:100<o.sv.length
      . have v:(100:Int)<(o.sv.length:Int):=oo
        have HE:=zh (show (l.all (λo=>decide (o.data.size<=300) && decide (o.sv.length<=100)) && decide (l.length<=n))=false from by
         rw [Bool.and_eq_false_iff]
         refine .inl (List.all_eq_false.2 ⟨o,by rw [<-HO.out];exact fq d,?_⟩)
         rw [gE (show ¬o.sv.length<=100 by omega)];simp)
        have f:(o.data.size:Int)<=300:=oo;go_wp2_with fail;go_ret;exact ⟨B5 (by rw [HF.out,HE.out]),rfl⟩
      . have f:(o.data.size:Int)<=300:=oo;have v:(o.sv.length:Int)<=100:=oo;go_wp2_with fail
        go_roundg (l.length - (j+1))
        case measure=>rw [q.out];omega
        case rel=>
         refine ⟨rfl,j+1,oo,oo,by go_num,λk hk h9=>?_⟩;by_cases g:k=j
         . subst g;rw [HO.out];exact ⟨oo,oo⟩
         . exact u.out k hk h9 g
  . obtain rfl:j=l.length:=oo
    have HE:=zh (show l.all (λo=>decide (o.data.size<=300) && decide (o.sv.length<=100))=true from by
     rw [iD]
     intro o ho
     obtain ⟨k,hk,rfl⟩:=jB.1 ho
     have:=HA.out k hk hk
     rw [gD this.1,gD this.2];rfl)
    by_cases i:l.length<=n
    . have x:(l.length:Int)<=(n:Int):=oo;go_wp2_with fail;go_ret;exact ⟨B5 (by rw [HF.out,HE.out,gD i];rfl),rfl⟩
    . have x:¬(l.length:Int)<=(n:Int):=oo;go_wp2_with fail;go_ret;exact ⟨B5 (by rw [HF.out,HE.out,gE i];rfl),rfl⟩

end
end Go.Proofs.YtfklieeipokllaaGreat
