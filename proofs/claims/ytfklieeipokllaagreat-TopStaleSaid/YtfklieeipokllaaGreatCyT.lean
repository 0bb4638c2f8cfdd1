/- Parts of the proof (packed), 20. -/
import Derived.RangeFuncBox
import Derived.RangeFuncNested
import Derived.RangeFuncLeaves
import Derived.RangeFuncCalls
import Derived.RangeFuncRecord
import Derived.Shelf.Abstract
import Derived.Shelf.RegionOpen
import Derived.OwnWalkIn
import Derived.TacticsInMore
import Derived.LoopNIn
import Derived.LoopIn
import Derived.Test.YtfklieeipokllaaGreatCyS
namespace Go.Proofs.YtfklieeipokllaaGreat
set_option linter.all false
set_option maxRecDepth 100000
set_option maxHeartbeats 16000000
open List
section
attribute [local go_sem ↓] Go.wp_at_zero Go.wp_at_succ
open Go.RowKit
def MB (fv:Value) (P:World->Prop) (T:Tab) (r:Tab × Int):Prop:=
 ∃fn first caps,fv=.func (.func fn) first caps/\C2 Tryz.prog fn/\∀(w:World) (A:Option Addr) (c:Nat) (xs:List LabE),P w->TabAt w A c xs T->Calls Tryz.prog fn (first++#[.agg #[.string T.name,.int .i64 T.tracks,.slice A T.labels.length c]]++caps) w (Ju w r.1 r.2)
noncomputable def chP (D:Dev) (sy ep n id unit:Int) (ws:List (Int × ByteArray)) (g:Tab->Tab × Int):Dev × Int:=
 if (B9 D sy ep n).2.2≠0 then ((B9 D sy ep n).1,(B9 D sy ep n).2.2)
 else if (g (B9 D sy ep n).2.1).2≠0 then ((B9 D sy ep n).1,(g (B9 D sy ep n).2.1).2)
 else if (AQ (Ba (g (B9 D sy ep n).2.1).1 id unit).1 ws).2≠0 then ((B9 D sy ep n).1,(AQ (Ba (g (B9 D sy ep n).2.1).1 id unit).1 ws).2)
 else Ak (B9 D sy ep n).1 sy ep (Bq (B9 D sy ep n).2.1 (g (B9 D sy ep n).2.1).1++(AQ (Ba (g (B9 D sy ep n).2.1).1 id unit).1 ws).1)
theorem Y4 (T U:Tab) (h:U.labels.length<=1000):(Bq T U).length<=20000:=by
 have hs:=I5 U h;unfold Bq;split
 . rename_i hc;unfold Co;rw [fm];refine fx (jC _ _) ?_;rw [io,hc.1];omega
 . exact iB _
theorem dD (T U:Tab) (h:U.labels.length<=1000):∀e∈Bq T U,okI e.1:=by
 have hs:=I5 U h;intro e he;unfold Bq at he;split at he
 . rename_i hc;unfold Co at he;obtain ⟨i,hi,rfl⟩:=ft.1 he;have:=gU.1 (iM.1 hi).1;rw [hc.1] at this;unfold okI;simp only;omega
 . cases he
theorem VDid.after2 {w0:World} {x s m v:Nat} {n sy ep:Int} {D1:Dev} {out o1:Nat->Prop} {W W1 w1:World} (hg:Grew W W1) (h:VDid w0 x s m v n sy ep D1 (λk=>out k\/(W.heap.size<=k/\k<W1.heap.size)) W1 o1 w1):VDid w0 x s m v n sy ep D1 out W o1 w1:=
 ⟨λk hk=>h.sub k (.inl hk),h.held,(hg.turned _).trans (h.turned.mono λk _ hk=>VSet.mono (λ_=>.inl) hk),λP hP hv=>(h.fresh P (λk hk=>(hP k hk).mono λ_=>.inl) (hv.turned (hg.turned (λ_=>False)) id (λ_ _=>id) (λ_=>id))).mono λk hk=>⟨hk.1.imp id (λh9=>fx hg.size h9),hk.2⟩⟩
theorem dV (l:List (Int × ByteArray)):∀r∈l.map BB,r.length=2:=by intro r hr;obtain ⟨e,_,rfl⟩:=ft.1 hr;rfl
theorem dr (l:List (Int × ByteArray)):∀r∈l.map BB,r.all (·.oneCell')=true:=by intro r hr;obtain ⟨e,_,rfl⟩:=ft.1 hr;rfl
section
variable {w0:World} {x s m v:Nat} {n sy ep:Int} {D:Dev} {out:Nat->Prop} {W:World} (h:VHeld w0 x s m v n sy ep D out W) (hlen:132<=D.st.length/\D.st.length<=1155) (hp:D.pend.length<=900000) (hn:okT n=true)
include h hlen hp hn
theorem DZ (id unit:Int) (av:∀E,(B9 D sy ep n).1=E->(B9 D sy ep n).2.2=0->CR x s m sy ep E) (ws:List (Int × ByteArray)) (hl:ws.length<=900000) (an:∀e∈ws,okI e.1) (B:Option Addr) (d:Nat) (al:ListAt W W.heap.size 2 B (ws.map BB)) (hB:ws≠[]->∀b off,B=some ⟨b,off,none⟩->Far w0 out m v b)
 (g:Tab->Tab × Int) (fv:Value) (Pw:World->Prop) (hP:∀w',Turned (VSet w0 out m v) W w'->Pw w') (hg:∀T,(B9 D sy ep n).2.1=T->(B9 D sy ep n).2.2=0->MB fv Pw T (g T)/\((g T).2=0->SmallT (g T).1)) (D':Dev) (er:Int) (hr:chP D sy ep n id unit ws g=(D',er)):
 Calls Tryz.prog 64 #[ptrV v,.agg #[.int .i64 id,.int .i64 unit],.slice B ws.length d,fv] W λe w'=>e=.returned (.int .i64 er)/\∃out',VDid w0 x s m v n sy ep D' out W out' w':=by
 have a:Grew W (W.alloc (.cells #[.int .i64 id,.int .i64 unit] 32)):=(fh W).alloc _;have a0:=fy W 32 #[.int .i64 id,.int .i64 unit] rfl;obtain ⟨⟨E,T,f⟩,hE⟩:∃r,B9 D sy ep n=r:=⟨_,rfl⟩;have t:=av E (by rw [hE]);have w:=hg T (by rw [hE]);unfold chP at hr;rw [hE] at hr t w;simp only at hr t w;have ce:=zh t;have HC:=zh (Fy (h.more a) hlen oo hn E T f hE);have cf:=zh a;have ch:=zh a0;have ci:=zh an;have cj:=zh (AO al a);have cl:=zh hB;have a1:=zh w;have cm:=zh hP;have HH:=zh h;have a2:=h.held.store.lt.2;have a3:=h.vol.lt;have a4:=zh (And.intro a2 a3);clear h hlen hp hn hE a a0 t av an al hB hg w hP a2 a3;go_enter Tryz.func64,Tryz.ntmps64;go_wp2_with fail;refine HC.mono ?_;rintro e w1 ⟨o1,A,c,ys,rfl,hd,aa,bt,ad⟩;have HD:=zh (VDid.after2 cf hd);have y:=HD.turned
 have co:=zh (ch.turned hd.turned (λh9=>by
  rcases h9 with h9 | h9 | h9
  . exact h9.2 (.inr ⟨fk _,qs⟩)
  . have:=a4.1;omega
  . have:=a4.2;omega))
 have d5:=zh y;have j:Grew w1 (w1.alloc (.cells #[.string T.name,.int .i64 T.tracks,.slice A T.labels.length c] 50)):=(fh w1).alloc _;have a5:=zh j;have cp:=zh (fy w1 50 #[.string T.name,.int .i64 T.tracks,.slice A T.labels.length c] rfl);have cq:=zh (AO (CC cj hd.turned (λh0 b off e=>((cl (by intro h9;rw [h9] at h0;exact absurd h0 qs) b off e).mono λ_=>.inl).not)) j);have a6:=zh (aa.hold j);have cr:=zh ad;by_cases hf:f=0;rotate_left
 . rw [if_pos hf] at hr;injection hr with h1 h2;subst h1;subst h2;have a7:(f != 0)=true:=by rw [gu];exact hf
   clear hf hd aa bt ad j y;go_wp2_with fail;go_ret;exact ⟨rfl,_,HD.grew a5⟩
 subst hf;rw [if_neg qs] at hr;obtain ⟨⟨fn,first,d7,d2,b2,b3⟩,M⟩:=a1.out rfl;subst d2;have HF:=zh (b3 _ A c ys (cm _ (y.trans (j.turned _))) a6);obtain ⟨⟨U,ge⟩,b4⟩:∃r,g T=r:=⟨_,rfl⟩;rw [b4] at hr HF M;simp only at hr HF M;have a8:=zh M;unfold C2 at b2;clear hd aa bt ad j y b3 b4 M a1;go_wp2_with fail;refine HF.mono ?_;rintro e w2 ⟨A2,c2,zs,rfl,bv,g2⟩;have cv:=zh (a5.out.trans g2);have cw:=zh (cp.grew g2);have cx:=zh (AO cq g2);have cy:=zh (a6.hold g2);have i:Grew w2 (w2.alloc (.cells #[.string U.name,.int .i64 U.tracks,.slice A2 U.labels.length c2] 50)):=(fh w2).alloc _;have N:=zh (cv.out.trans i);have cz:=zh (fy w2 50 #[.string U.name,.int .i64 U.tracks,.slice A2 U.labels.length c2] rfl);have c0:=zh (cw.grew i);have c1:=zh (AO cx i);have c3:=zh (cy.hold i);have a9:=zh (bv.hold i);clear g2 bv b2;by_cases a:ge=0;rotate_left
 . rw [if_pos a] at hr;injection hr with h1 h2;subst h1;subst h2;have a7:(ge != 0)=true:=by rw [gu];exact a
   clear a i;go_wp2_with fail;go_ret;exact ⟨rfl,_,HD.grew N⟩
 subst a;rw [if_neg qs] at hr;have z:=a8.out rfl;obtain ⟨⟨l,ok⟩,aj⟩:∃r,Ba U id unit=r:=⟨_,rfl⟩;have C:=Ko z id unit;rw [aj] at hr C;simp only at hr C;have c4:=zh (LM A2 c2 zs U _ a9 z _ rfl id unit l ok aj);have c5:=zh C;have O:=zh z;have F:=co.grew N;have r0:=F.cell 0;have r1:=F.cell 1;have rl:=F.lt;clear i aj C z F a8;go_wp2_with fail;refine c4.mono ?_;rintro e w4 ⟨B4,d4,rfl,bw,g4,_⟩;have P:Grew w4 (w4.alloc (.cells #[.int .i64 l.id,.int .i64 l.unit,.string l.name,.string l.note,.slice B4 l.ext.length d4] 100)):=(fh w4).alloc _;have Q:=zh (g4.trans P);have c6:=zh (N.out.trans Q);have R:=zh (Oq _ B4 d4 l (bw.hold P) c5 ws oo ci B d (AO c1 Q));unfold GG at R;obtain ⟨⟨ps,pe⟩,b5⟩:∃r,AQ l ws=r:=⟨_,rfl⟩;have bb:=PY l ws;have G:=RS l ws;rw [b5] at R hr bb G;simp only at hr bb G;have c7:=zh G;clear bw P b5 G g4 r0 r1 rl;go_wp2_with fail;refine R.mono ?_;rintro e w6 ⟨u,rfl,ae,g6⟩;have H:=zh (Q.out.trans g6);have S:=zh (c6.out.trans g6);clear g6;by_cases K:pe=0;rotate_left
 . rw [if_pos K] at hr;injection hr with h1 h2;subst h1;subst h2;have a7:(pe != 0)=true:=by rw [gu];exact K
   clear K ae;go_wp2_with fail;go_ret;exact ⟨rfl,_,HD.grew S⟩
 subst K;rw [if_neg qs] at hr;obtain ⟨Au,cu,hu,d3,_,b6⟩:=ae.listAt;rw [fm] at hu d3;subst hu;have c9:=zh b6;have I:=zh (c0.grew H);have J:=zh (cz.grew H);have da:=zh (c3.hold H);have dd:=zh (a9.hold H);obtain ⟨sv,TC,tv,p,_⟩:=(HD.grew S).held.vol;have d6:=zh p;unfold GD at p;have v0:w6.cell? ⟨v,0,none⟩=some (ptrV s):=p.cell 0;have vl:=p.lt;have V:=zh (λ(w9:World) (hg9:Grew w6 w9)=>(show (λw':World=>(w'.cell? ⟨v,0,none⟩=some (ptrV s)/\v<w'.heap.size)/\(w'.cell? ⟨w1.heap.size,0,none⟩=some (.string T.name)/\w'.cell? ⟨w1.heap.size,1,none⟩=some (.int .i64 T.tracks)/\w'.cell? ⟨w1.heap.size,2,none⟩=some (.slice A T.labels.length c)/\w1.heap.size<w'.heap.size)/\(w'.cell? ⟨w2.heap.size,0,none⟩=some (.string U.name)/\w'.cell? ⟨w2.heap.size,1,none⟩=some (.int .i64 U.tracks)/\w'.cell? ⟨w2.heap.size,2,none⟩=some (.slice A2 U.labels.length c2)/\w2.heap.size<w'.heap.size)) w9 from ⟨⟨BG hg9 v0,fw vl hg9.size⟩,⟨(I.grew hg9).cell 0,(I.grew hg9).cell 1,(I.grew hg9).cell 2,(I.grew hg9).lt⟩,⟨(J.grew hg9).cell 0,(J.grew hg9).cell 1,(J.grew hg9).cell 2,(J.grew hg9).lt⟩⟩));clear ae b6 p v0 vl;go_wp2_with fail;refine AB [9] (λw':World=>(w'.cell? ⟨v,0,none⟩=some (ptrV s)/\v<w'.heap.size)/\(w'.cell? ⟨w1.heap.size,0,none⟩=some (.string T.name)/\w'.cell? ⟨w1.heap.size,1,none⟩=some (.int .i64 T.tracks)/\w'.cell? ⟨w1.heap.size,2,none⟩=some (.slice A T.labels.length c)/\w1.heap.size<w'.heap.size)/\(w'.cell? ⟨w2.heap.size,0,none⟩=some (.string U.name)/\w'.cell? ⟨w2.heap.size,1,none⟩=some (.int .i64 U.tracks)/\w'.cell? ⟨w2.heap.size,2,none⟩=some (.slice A2 U.labels.length c2)/\w2.heap.size<w'.heap.size)) qk ?_;have hS:=V.out _ (fh w6).drew;refine tQ 0 47 ?_;refine tT 1 (some 48) hS ?_;refine tQ 2 49 ?_;refine tT 3 (some 50) hS ?_;refine tT 4 (some 51) hS ?_;refine tT 5 (some 52) hS ?_;refine tQ 7 54 ?_;refine tO 6 λK' hK=>?_;go_wp2_with fail;refine (Rk A A2 c c2 ys zs T U _ (da.hold (fh w6).drew) cr (dd.hold (fh w6).drew) O).mono ?_;rintro e w7 ⟨u7,rfl,L,g7⟩;have o:Grew w6 w7:=(fh w6).drew.trans g7;have bc:=AO c9 o;have dk:=zh o;have bd:=zh L;go_wp2_with fail;refine hK.out _ _ (.inr (λ_=>V _ dk)) ?_;clear hK hS;refine tO 8 λK' hK=>?_;have bf:=Y4 T U O.len;have bk:=dD T U O.len;have bl:=zh bk;obtain ⟨df,b9⟩:∃df,Bq T U=df:=⟨_,rfl⟩;rw [b9] at hr bf bl bd L;have bn:(df.map wrC).length=df.length:=by rw [fm]
 refine J3 (.tmp 53) (.tmp 54) 24 rfl w6.heap.size 65 2 24 _ Tryz.underlying24 KF rfl qd _ _ (ps.map BB) rfl (show OwnL w7 w6.heap.size 65 2 u7 (df.map wrC) from L) Au ps.length cu rfl (by rw [fm]) (dV ps) bc (dr ps) (by rw [bn];omega) (by rw [bn];omega) o.size ?_;intro u8 w8 bx b0 d1;obtain ⟨cs,q⟩:∃cs,cs=df++ps:=⟨_,rfl⟩;have X:OwnL w8 w6.heap.size 65 2 u8 (cs.map BB):=by rw [q,fz];exact bx
 have bo:cs.length<=1000000:=by rw [q,gK];omega
 have br:∀e∈cs,okI e.1:=λe he=>by rw [q] at he;exact (gC.1 he).elim (bl e) (c7 e)
 rw [<-q] at hr;have Y:Grew w6 w8:=Grew.own o b0 (λk e=>(bd.own_ge e).1) (fk _);have ds:=zh (V _ Y);obtain ⟨A8,c8,ca,_,_,cb⟩:=X.listAt;rw [fm] at ca;subst ca;have Z:=zh ((HD.grew S).more Y);have bs:cs≠[]->ED w0 (λk=>o1 k\/(w6.heap.size<=k/\k<w8.heap.size)) A8:=λ_ b off e=>.inr (.inr (X.own_ge (g:=b) (by rw [e];rfl)));have HR:=zh (ce (by first | trivial | rfl) w0 _ w8 Z.held.held cs bo br A8 c8 cb bs);obtain ⟨⟨D2,e2⟩,cc⟩:∃r,Ak E sy ep cs=r:=⟨_,rfl⟩;rw [cc] at hr HR;injection hr with h1 h2;subst h1;subst h2;clear bx q bo br X b0 d1 Y cb bs cc L bc bf bk b9 o g7;refine hK.out _ _ (.inr (λ_=>ds)) ?_;clear hK;refine tO 9 λK' hK=>?_;go_wp2_with fail;refine HR.mono ?_;rintro e w9 ⟨rfl,b1⟩;have d0:=zh (Z.out.trans (Z.held.done b1));clear b1;go_wp2_with fail;refine hK.out _ _ (.inl (by rfl)) ?_;clear hK;refine tQ 10 8 ?_;refine AA qk ?_ _;go_wp2_with fail;go_ret;exact ⟨rfl,_,d0⟩
end

theorem GL {D:Dev} {sy ep n:Int} {T:Tab} (h1:(B9 D sy ep n).2.1=T) (h2:(B9 D sy ep n).2.2=0):GoodT T:=by
 unfold B9 at h1 h2;simp only at h1 h2;unfold asT at h1 h2;split at h1
 . rename_i h3;rw [if_pos h3] at h2;exact absurd h2 h3
 . rename_i h3;rw [if_neg h3] at h2;split at h1
   . rename_i U hU;rw [hU] at h2;simp only at h2;split at h1
     . have h4:=Wz hU;subst h1;exact (AX _).1 h4.1
     . rename_i h5;rw [if_neg h5] at h2;cases h2
   . rename_i hU;rw [hU] at h2;cases h2
theorem Bd {T:Tab} (h:GoodT T):SmallT T:=⟨by have:=h.small.1;omega,λl hl=>by have:=(h.small.2 l hl).1;omega⟩
theorem Ev {w0:World} {out:Nat->Prop} {m v:Nat} {W W1 w':World} {b:Nat} {t:TypeId} {cs:Array Value} (hb:Blk W1 b t cs) (h1:W.heap.size<=b) (hm:m<W.heap.size) (hv:v<W.heap.size) (ht:Turned (VSet w0 (λk=>out k\/(W.heap.size<=k/\k<W1.heap.size)) m v) W1 w'):Blk w' b t cs:=
 hb.turned ht (λh9=>by
  rcases h9 with h9 | h9 | h9
  . exact h9.2 (.inr ⟨h1,hb.lt⟩)
  . omega
  . omega)
theorem Nu {w0:World} {out:Nat->Prop} {m v:Nat} {P:Nat->Prop} {b:Nat} (h:Far w0 out m v b):Far w0 (λk=>out k\/P k) m v b:=h.mono λ_=>.inl
def QP (id unit:Int) (nm nt:ByteArray) (k:Int) (b1 b2 b3 b4:Nat) (w:World):Prop:=Blk w b1 32 #[.int .i64 id,.int .i64 unit]/\Blk w b2 9 #[.string nm]/\Blk w b3 9 #[.string nt]/\Blk w b4 3 #[.int .i64 k]
theorem V6 (T:Tab) (hs:SmallT T) (id a:Int) (nm nt:ByteArray) (h:nm.size<=9223372036854775807) (g:nt.size<=9223372036854775807) (k:Int) (hk:okI k) (b1 b2 b3 b4:Nat):MB (.func (.func 65) #[] #[.pointer (some ⟨b1,0,none⟩),.pointer (some ⟨b2,0,none⟩),.pointer (some ⟨b3,0,none⟩),.pointer (some ⟨b4,0,none⟩)]) (QP id a nm nt k b1 b2 b3 b4) T (Bw T id a nm nt k):=by
 refine ⟨65,#[],_,rfl,BQ Tryz.func65 qk qk,λw A c ys hP ht=>?_⟩;show Calls Tryz.prog 65 #[.agg #[.string T.name,.int .i64 T.tracks,.slice A T.labels.length c],.pointer (some ⟨b1,0,none⟩),.pointer (some ⟨b2,0,none⟩),.pointer (some ⟨b3,0,none⟩),.pointer (some ⟨b4,0,none⟩)] w _;obtain ⟨⟨T',er⟩,hr⟩:∃r,Bw T id a nm nt k=r:=⟨_,rfl⟩;rw [hr];have b:Grew w ((w.alloc (.cells #[.string T.name,.int .i64 T.tracks,.slice A T.labels.length c] 50)).alloc (.cells #[.string ⟨#[]⟩,.int .i64 0,.slice none 0 0] 50)):=((fh w).alloc _).alloc _;have d:=fy (w.alloc (.cells #[.string T.name,.int .i64 T.tracks,.slice A T.labels.length c] 50)) 50 #[.string ⟨#[]⟩,.int .i64 0,.slice none 0 0] (n:=w.heap.size+1) qs;unfold QP at hP;obtain ⟨q1,q2,q3,q4⟩:=hP;have m:=q1.cell 0;have o:=q1.cell 1;have l1:=q1.lt;have p:=q2.cell 0;have l2:=q2.lt;have q:=q3.cell 0;have l3:=q3.lt;have s:=q4.cell 0;have l4:=q4.lt;have HK:=zh hk;unfold okI at hk;have HC:=zh (Tc A c ys T id a _ (ht.hold b) hs nm nt h g k hk.1 hk.2 _ _ hr);have HZ:=zh d;have HG:=zh b;clear b d q1 q2 q3 q4 hr;go_enter Tryz.func65,Tryz.ntmps65;go_wp2_with fail;refine HC.mono ?_;rintro e w1 ⟨A1,c1,zs,rfl,f,g1⟩;have hz:=HZ.grew g1;have i:=zh hz;have j:=zh (HG.out.trans g1);have l:=zh f;have z0:=hz.cell 0;have z1:=hz.cell 1;have z2:=hz.cell 2;have f0:=hz.frozen 0;have f1:=hz.frozen 1;have f2:=hz.frozen 2;have zl:=hz.lt;clear hz g1 f l1 l2 l3 l4;go_wp2_with fail;refine f7 (by first | (simp [*,results,Tryz.results65,go_sem];rfl) | simp [*,results,Tryz.results65,go_sem]) rfl ?_;exact ⟨A1,c1,zs,rfl,l.apart i (gT),by have hg:=j.out;exact gG⟩
def Pq (id unit:Int) (k:Int) (b1 b2:Nat) (w:World):Prop:=Blk w b1 32 #[.int .i64 id,.int .i64 unit]/\Blk w b2 3 #[.int .i64 k]
theorem WL (T:Tab) (hs:SmallT T) (id a:Int) (k:Int) (hk:okI k) (b1 b2:Nat):MB (.func (.func 81) #[] #[.pointer (some ⟨b1,0,none⟩),.pointer (some ⟨b2,0,none⟩)]) (Pq id a k b1 b2) T (Bg T id a (Gy T k)):=by
 refine ⟨81,#[],_,rfl,BQ Tryz.func81 qk qk,λw A c ys hP ht=>?_⟩;show Calls Tryz.prog 81 #[.agg #[.string T.name,.int .i64 T.tracks,.slice A T.labels.length c],.pointer (some ⟨b1,0,none⟩),.pointer (some ⟨b2,0,none⟩)] w _;obtain ⟨⟨T',er⟩,hr⟩:∃r,Bg T id a (Gy T k)=r:=⟨_,rfl⟩;rw [hr];have b:Grew w ((w.alloc (.cells #[.string T.name,.int .i64 T.tracks,.slice A T.labels.length c] 50)).alloc (.cells #[.string ⟨#[]⟩,.int .i64 0,.slice none 0 0] 50)):=((fh w).alloc _).alloc _;have d:=fy (w.alloc (.cells #[.string T.name,.int .i64 T.tracks,.slice A T.labels.length c] 50)) 50 #[.string ⟨#[]⟩,.int .i64 0,.slice none 0 0] (n:=w.heap.size+1) qs;unfold Pq at hP;obtain ⟨q1,q2⟩:=hP;have j:=q1.cell 0;have l:=q1.cell 1;have l1:=q1.lt;have m:=q2.cell 0;have l2:=q2.lt;have HK:=zh hk;unfold okI at hk;have HC:=zh (Uq A c ys T id a _ (ht.hold b) hs k hk.1 hk.2 _ _ hr);have HZ:=zh d;have HG:=zh b;clear b d q1 q2 hr;go_enter Tryz.func81,Tryz.ntmps81;go_wp2_with fail;refine HC.mono ?_;rintro e w1 ⟨A1,c1,zs,rfl,f,g1⟩;have hz:=HZ.grew g1;have g:=zh hz;have h:=zh (HG.out.trans g1);have i:=zh f;have z0:=hz.cell 0;have z1:=hz.cell 1;have z2:=hz.cell 2;have f0:=hz.frozen 0;have f1:=hz.frozen 1;have f2:=hz.frozen 2;have zl:=hz.lt;clear hz g1 f l1 l2;go_wp2_with fail;refine f7 (by first | (simp [*,results,Tryz.results81,go_sem];rfl) | simp [*,results,Tryz.results81,go_sem]) rfl ?_;exact ⟨A1,c1,zs,rfl,i.apart g (gT),by have hg:=h.out;exact gG⟩
def NQ (id unit:Int) (k:Int) (b1 b2:Nat) (w:World):Prop:=Blk w b1 32 #[.int .i64 id,.int .i64 unit]/\Blk w b2 3 #[.int .i64 k]
theorem UL (T:Tab) (hs:SmallT T) (id a:Int) (k:Int) (hk:okI k) (b1 b2:Nat):MB (.func (.func 83) #[] #[.pointer (some ⟨b1,0,none⟩),.pointer (some ⟨b2,0,none⟩)]) (NQ id a k b1 b2) T (Bg T id a (Gu T k)):=by
 refine ⟨83,#[],_,rfl,BQ Tryz.func83 qk qk,λw A c ys hP ht=>?_⟩;show Calls Tryz.prog 83 #[.agg #[.string T.name,.int .i64 T.tracks,.slice A T.labels.length c],.pointer (some ⟨b1,0,none⟩),.pointer (some ⟨b2,0,none⟩)] w _;obtain ⟨⟨T',er⟩,hr⟩:∃r,Bg T id a (Gu T k)=r:=⟨_,rfl⟩;rw [hr];have b:Grew w ((w.alloc (.cells #[.string T.name,.int .i64 T.tracks,.slice A T.labels.length c] 50)).alloc (.cells #[.string ⟨#[]⟩,.int .i64 0,.slice none 0 0] 50)):=((fh w).alloc _).alloc _;have d:=fy (w.alloc (.cells #[.string T.name,.int .i64 T.tracks,.slice A T.labels.length c] 50)) 50 #[.string ⟨#[]⟩,.int .i64 0,.slice none 0 0] (n:=w.heap.size+1) qs;unfold NQ at hP;obtain ⟨q1,q2⟩:=hP;have j:=q1.cell 0;have l:=q1.cell 1;have l1:=q1.lt;have m:=q2.cell 0;have l2:=q2.lt;have HK:=zh hk;unfold okI at hk;have HC:=zh (RV A c ys T id a _ (ht.hold b) hs k hk.1 hk.2 _ _ hr);have HZ:=zh d;have HG:=zh b;clear b d q1 q2 hr;go_enter Tryz.func83,Tryz.ntmps83;go_wp2_with fail;refine HC.mono ?_;rintro e w1 ⟨A1,c1,zs,rfl,f,g1⟩;have hz:=HZ.grew g1;have g:=zh hz;have h:=zh (HG.out.trans g1);have i:=zh f;have z0:=hz.cell 0;have z1:=hz.cell 1;have z2:=hz.cell 2;have f0:=hz.frozen 0;have f1:=hz.frozen 1;have f2:=hz.frozen 2;have zl:=hz.lt;clear hz g1 f l1 l2;go_wp2_with fail;refine f7 (by first | (simp [*,results,Tryz.results83,go_sem];rfl) | simp [*,results,Tryz.results83,go_sem]) rfl ?_;exact ⟨A1,c1,zs,rfl,i.apart g (gT),by have hg:=h.out;exact gG⟩
def N7 (id unit:Int) (nt:ByteArray) (b1 b2:Nat) (w:World):Prop:=Blk w b1 32 #[.int .i64 id,.int .i64 unit]/\Blk w b2 9 #[.string nt]
theorem UO (T:Tab) (hs:SmallT T) (id a:Int) (nt:ByteArray) (g:nt.size<=9223372036854775807) (b1 b2:Nat):MB (.func (.func 85) #[] #[.pointer (some ⟨b1,0,none⟩),.pointer (some ⟨b2,0,none⟩)]) (N7 id a nt b1 b2) T (Bg T id a (IE T id nt)):=by
 refine ⟨85,#[],_,rfl,BQ Tryz.func85 qk qk,λw A c ys hP ht=>?_⟩;show Calls Tryz.prog 85 #[.agg #[.string T.name,.int .i64 T.tracks,.slice A T.labels.length c],.pointer (some ⟨b1,0,none⟩),.pointer (some ⟨b2,0,none⟩)] w _;obtain ⟨⟨T',er⟩,hr⟩:∃r,Bg T id a (IE T id nt)=r:=⟨_,rfl⟩;rw [hr];have b:Grew w ((w.alloc (.cells #[.string T.name,.int .i64 T.tracks,.slice A T.labels.length c] 50)).alloc (.cells #[.string ⟨#[]⟩,.int .i64 0,.slice none 0 0] 50)):=((fh w).alloc _).alloc _;have d:=fy (w.alloc (.cells #[.string T.name,.int .i64 T.tracks,.slice A T.labels.length c] 50)) 50 #[.string ⟨#[]⟩,.int .i64 0,.slice none 0 0] (n:=w.heap.size+1) qs;unfold N7 at hP;obtain ⟨q1,q2⟩:=hP;have k:=q1.cell 0;have l:=q1.cell 1;have l1:=q1.lt;have m:=q2.cell 0;have l2:=q2.lt;have HC:=zh (Rj A c ys T id a _ (ht.hold b) hs nt g _ _ hr);have HZ:=zh d;have HG:=zh b;clear b d q1 q2 hr;go_enter Tryz.func85,Tryz.ntmps85;go_wp2_with fail;refine HC.mono ?_;rintro e w1 ⟨A1,c1,zs,rfl,f,g1⟩;have hz:=HZ.grew g1;have h:=zh hz;have i:=zh (HG.out.trans g1);have j:=zh f;have z0:=hz.cell 0;have z1:=hz.cell 1;have z2:=hz.cell 2;have f0:=hz.frozen 0;have f1:=hz.frozen 1;have f2:=hz.frozen 2;have zl:=hz.lt;clear hz g1 f l1 l2;go_wp2_with fail;refine f7 (by first | (simp [*,results,Tryz.results85,go_sem];rfl) | simp [*,results,Tryz.results85,go_sem]) rfl ?_;exact ⟨A1,c1,zs,rfl,j.apart h (gT),by have hg:=i.out;exact gG⟩
def aG (id unit:Int) (nt:ByteArray) (b1 b2:Nat) (w:World):Prop:=Blk w b1 32 #[.int .i64 id,.int .i64 unit]/\Blk w b2 9 #[.string nt]
theorem cV (T:Tab) (hs:SmallT T) (id a:Int) (nt:ByteArray) (g:nt.size<=9223372036854775807) (b1 b2:Nat):MB (.func (.func 87) #[] #[.pointer (some ⟨b1,0,none⟩),.pointer (some ⟨b2,0,none⟩)]) (aG id a nt b1 b2) T (Bg T id a (Eu T nt)):=by
 refine ⟨87,#[],_,rfl,BQ Tryz.func87 qk qk,λw A c ys hP ht=>?_⟩;show Calls Tryz.prog 87 #[.agg #[.string T.name,.int .i64 T.tracks,.slice A T.labels.length c],.pointer (some ⟨b1,0,none⟩),.pointer (some ⟨b2,0,none⟩)] w _;obtain ⟨⟨T',er⟩,hr⟩:∃r,Bg T id a (Eu T nt)=r:=⟨_,rfl⟩;rw [hr];have b:Grew w ((w.alloc (.cells #[.string T.name,.int .i64 T.tracks,.slice A T.labels.length c] 50)).alloc (.cells #[.string ⟨#[]⟩,.int .i64 0,.slice none 0 0] 50)):=((fh w).alloc _).alloc _;have d:=fy (w.alloc (.cells #[.string T.name,.int .i64 T.tracks,.slice A T.labels.length c] 50)) 50 #[.string ⟨#[]⟩,.int .i64 0,.slice none 0 0] (n:=w.heap.size+1) qs;unfold aG at hP;obtain ⟨q1,q2⟩:=hP;have k:=q1.cell 0;have l:=q1.cell 1;have l1:=q1.lt;have m:=q2.cell 0;have l2:=q2.lt;have HC:=zh (aL A c ys T id a _ (ht.hold b) hs nt g _ _ hr);have HZ:=zh d;have HG:=zh b;clear b d q1 q2 hr;go_enter Tryz.func87,Tryz.ntmps87;go_wp2_with fail;refine HC.mono ?_;rintro e w1 ⟨A1,c1,zs,rfl,f,g1⟩;have hz:=HZ.grew g1;have h:=zh hz;have i:=zh (HG.out.trans g1);have j:=zh f;have z0:=hz.cell 0;have z1:=hz.cell 1;have z2:=hz.cell 2;have f0:=hz.frozen 0;have f1:=hz.frozen 1;have f2:=hz.frozen 2;have zl:=hz.lt;clear hz g1 f l1 l2;go_wp2_with fail;refine f7 (by first | (simp [*,results,Tryz.results87,go_sem];rfl) | simp [*,results,Tryz.results87,go_sem]) rfl ?_;exact ⟨A1,c1,zs,rfl,j.apart h (gT),by have hg:=i.out;exact gG⟩
def Ql (id unit:Int) (b1:Nat) (w:World):Prop:=Blk w b1 32 #[.int .i64 id,.int .i64 unit]
theorem YN (T:Tab) (hs:SmallT T) (id a:Int) (b1:Nat):MB (.func (.func 89) #[] #[.pointer (some ⟨b1,0,none⟩)]) (Ql id a b1) T (Bg T id a (JU T)):=by
 refine ⟨89,#[],_,rfl,BQ Tryz.func89 qk qk,λw A c ys hP ht=>?_⟩;show Calls Tryz.prog 89 #[.agg #[.string T.name,.int .i64 T.tracks,.slice A T.labels.length c],.pointer (some ⟨b1,0,none⟩)] w _;obtain ⟨⟨T',er⟩,hr⟩:∃r,Bg T id a (JU T)=r:=⟨_,rfl⟩;rw [hr];have b:Grew w ((w.alloc (.cells #[.string T.name,.int .i64 T.tracks,.slice A T.labels.length c] 50)).alloc (.cells #[.string ⟨#[]⟩,.int .i64 0,.slice none 0 0] 50)):=((fh w).alloc _).alloc _;have d:=fy (w.alloc (.cells #[.string T.name,.int .i64 T.tracks,.slice A T.labels.length c] 50)) 50 #[.string ⟨#[]⟩,.int .i64 0,.slice none 0 0] (n:=w.heap.size+1) qs;unfold Ql at hP;have q1:=hP;have j:=q1.cell 0;have k:=q1.cell 1;have l1:=q1.lt;have HC:=zh (U3 A c ys T id a _ (ht.hold b) hs _ _ hr);have HZ:=zh d;have HG:=zh b;clear b d q1 hr;go_enter Tryz.func89,Tryz.ntmps89;go_wp2_with fail;refine HC.mono ?_;rintro e w1 ⟨A1,c1,zs,rfl,f,g1⟩;have hz:=HZ.grew g1;have g:=zh hz;have h:=zh (HG.out.trans g1);have i:=zh f;have z0:=hz.cell 0;have z1:=hz.cell 1;have z2:=hz.cell 2;have f0:=hz.frozen 0;have f1:=hz.frozen 1;have f2:=hz.frozen 2;have zl:=hz.lt;clear hz g1 f l1;go_wp2_with fail;refine f7 (by first | (simp [*,results,Tryz.results89,go_sem];rfl) | simp [*,results,Tryz.results89,go_sem]) rfl ?_;exact ⟨A1,c1,zs,rfl,i.apart g (gT),by have hg:=h.out;exact gG⟩
section
variable {w0:World} {x s m v:Nat} {n sy ep:Int} {D:Dev} {out:Nat->Prop} {W:World} (h:VHeld w0 x s m v n sy ep D out W) (hlen:132<=D.st.length/\D.st.length<=1155) (hp:D.pend.length<=900000) (hn:okT n=true) (HCM:∀E,(B9 D sy ep n).1=E->(B9 D sy ep n).2.2=0->CR x s m sy ep E)
include h hlen hp hn HCM
theorem MA (id a:Int) (nm nt:ByteArray) (p:nm.size<=9223372036854775807) (o:nt.size<=9223372036854775807) (k:Int) (hk:okI k) (ws:List (Int × ByteArray)) (hl:ws.length<=900000) (l:∀e∈ws,okI e.1) (B:Option Addr) (d:Nat) (j:ListAt W W.heap.size 2 B (ws.map BB)) (hB:ws≠[]->∀b off,B=some ⟨b,off,none⟩->Far w0 out m v b) (D':Dev) (er:Int) (hr:chP D sy ep n id a ws (λT=>Bw T id a nm nt k)=(D',er)):
 Calls Tryz.prog 23 #[ptrV v,.agg #[.int .i64 id,.int .i64 a],.string nm,.string nt,.int .i64 k,.slice B ws.length d] W λe w'=>e=.returned (.int .i64 er)/\∃out',VDid w0 x s m v n sy ep D' out W out' w':=by
 have c:Grew W ((((W.alloc (.cells #[.int .i64 id,.int .i64 a] 32)).alloc (.cells #[.string nm] 9)).alloc (.cells #[.string nt] 9)).alloc (.cells #[.int .i64 k] 3)):=((((fh W).alloc _).alloc _).alloc _).alloc _;have f:=h.held.store.lt.2;have g:=h.vol.lt;have q1:=((((fy W 32 #[.int .i64 id,.int .i64 a] (n:=W.heap.size) qs).alloc (.cells #[.string nm] 9)).alloc (.cells #[.string nt] 9)).alloc (.cells #[.int .i64 k] 3));have q2:=(((fy (W.alloc (.cells #[.int .i64 id,.int .i64 a] 32)) 9 #[.string nm] (n:=W.heap.size+1) qs).alloc (.cells #[.string nt] 9)).alloc (.cells #[.int .i64 k] 3));have q3:=((fy ((W.alloc (.cells #[.int .i64 id,.int .i64 a] 32)).alloc (.cells #[.string nm] 9)) 9 #[.string nt] (n:=W.heap.size+1+1) qs).alloc (.cells #[.int .i64 k] 3));have q4:=fy (((W.alloc (.cells #[.int .i64 id,.int .i64 a] 32)).alloc (.cells #[.string nm] 9)).alloc (.cells #[.string nt] 9)) 3 #[.int .i64 k] (n:=W.heap.size+1+1+1) qs;obtain ⟨W1,i⟩:∃W1,W1=((((W.alloc (.cells #[.int .i64 id,.int .i64 a] 32)).alloc (.cells #[.string nm] 9)).alloc (.cells #[.string nt] 9)).alloc (.cells #[.int .i64 k] 3)):=⟨_,rfl⟩;rw [<-i] at c q1 q2 q3 q4
 have HC:=zh (DZ (h.more c) hlen hp hn id a HCM ws hl l B d (AO j c) (λhne b off e=>Nu (hB hne b off e)) (λT=>Bw T id a nm nt k) _ (QP id a nm nt k (W.heap.size) (W.heap.size+1) (W.heap.size+1+1) (W.heap.size+1+1+1))
  (λw' ht=>⟨Ev q1 oo f g ht,Ev q2 oo f g ht,Ev q3 oo f g ht,Ev q4 oo f g ht⟩)
  (λT h1 h2=>⟨V6 T (Bd (GL h1 h2)) id a nm nt p o k hk (W.heap.size) (W.heap.size+1) (W.heap.size+1+1) (W.heap.size+1+1+1),λh3=>by
    obtain ⟨⟨U,e3⟩,hu⟩:∃r,Bw T id a nm nt k=r:=⟨_,rfl⟩
    simp only [hu] at h3 ⊢
    subst h3
    exact Bd (EU T U id a nm nt k hu).good⟩) D' er hr)
 have HG:=zh c;have q:=q1.cell 0;have t:=q1.cell 1;have l1:=q1.lt;have u:=q2.cell 0;have l2:=q2.lt;have w:=q3.cell 0;have l3:=q3.lt;have y:=q4.cell 0;have l4:=q4.lt;unfold okI at hk;clear h hlen hp hn HCM c f g hr q1 q2 q3 q4 l j hB;go_enter Tryz.func23,Tryz.ntmps23;rw [i] at HC HG q t l1 u l2 w l3 y l4;clear i W1;go_wp2_with fail;refine HC.mono ?_;rintro e w1 ⟨rfl,o1,hd⟩;have HD:=zh (VDid.after2 HG hd);clear hd;go_wp2_with fail;go_ret;exact ⟨rfl,_,HD⟩
theorem Sq (id a:Int) (k:Int) (hk:okI k) (D':Dev) (er:Int) (hr:chP D sy ep n id a [] (λT=>Bg T id a (Gy T k))=(D',er)):
 Calls Tryz.prog 31 #[ptrV v,.agg #[.int .i64 id,.int .i64 a],.int .i64 k] W λe w'=>e=.returned (.int .i64 er)/\∃out',VDid w0 x s m v n sy ep D' out W out' w':=by
 have b:Grew W ((W.alloc (.cells #[.int .i64 id,.int .i64 a] 32)).alloc (.cells #[.int .i64 k] 3)):=((fh W).alloc _).alloc _;have c:=h.held.store.lt.2;have d:=h.vol.lt;have q1:=((fy W 32 #[.int .i64 id,.int .i64 a] (n:=W.heap.size) qs).alloc (.cells #[.int .i64 k] 3));have q2:=fy (W.alloc (.cells #[.int .i64 id,.int .i64 a] 32)) 3 #[.int .i64 k] (n:=W.heap.size+1) qs;obtain ⟨W1,f⟩:∃W1,W1=((W.alloc (.cells #[.int .i64 id,.int .i64 a] 32)).alloc (.cells #[.int .i64 k] 3)):=⟨_,rfl⟩;rw [<-f] at b q1 q2
 have HC:=zh (DZ (h.more b) hlen hp hn id a HCM [] qs (λe he=>by cases he) none 0 (λh9=>absurd h9 qs) (λhne=>absurd rfl hne) (λT=>Bg T id a (Gy T k)) _ (Pq id a k (W.heap.size) (W.heap.size+1))
  (λw' ht=>⟨Ev q1 oo c d ht,Ev q2 oo c d ht⟩)
  (λT h1 h2=>⟨WL T (Bd (GL h1 h2)) id a k hk (W.heap.size) (W.heap.size+1),λh3=>by
    obtain ⟨⟨U,e3⟩,hu⟩:∃r,Bg T id a (Gy T k)=r:=⟨_,rfl⟩
    simp only [hu] at h3 ⊢
    subst h3
    exact Bd (Hl T U id a k hu).good⟩) D' er hr)
 have HG:=zh b;have g:=q1.cell 0;have i:=q1.cell 1;have l1:=q1.lt;have j:=q2.cell 0;have l2:=q2.lt;unfold okI at hk;clear h hlen hp hn HCM b c d hr q1 q2;go_enter Tryz.func31,Tryz.ntmps31;rw [f] at HC HG g i l1 j l2;clear f W1;go_wp2_with fail;refine HC.mono ?_;rintro e w1 ⟨rfl,o1,hd⟩;have HD:=zh (VDid.after2 HG hd);clear hd;go_wp2_with fail;go_ret;exact ⟨rfl,_,HD⟩
theorem Qb (id a:Int) (k:Int) (hk:okI k) (D':Dev) (er:Int) (hr:chP D sy ep n id a [] (λT=>Bg T id a (Gu T k))=(D',er)):
 Calls Tryz.prog 32 #[ptrV v,.agg #[.int .i64 id,.int .i64 a],.int .i64 k] W λe w'=>e=.returned (.int .i64 er)/\∃out',VDid w0 x s m v n sy ep D' out W out' w':=by
 have b:Grew W ((W.alloc (.cells #[.int .i64 id,.int .i64 a] 32)).alloc (.cells #[.int .i64 k] 3)):=((fh W).alloc _).alloc _;have c:=h.held.store.lt.2;have d:=h.vol.lt;have q1:=((fy W 32 #[.int .i64 id,.int .i64 a] (n:=W.heap.size) qs).alloc (.cells #[.int .i64 k] 3));have q2:=fy (W.alloc (.cells #[.int .i64 id,.int .i64 a] 32)) 3 #[.int .i64 k] (n:=W.heap.size+1) qs;obtain ⟨W1,f⟩:∃W1,W1=((W.alloc (.cells #[.int .i64 id,.int .i64 a] 32)).alloc (.cells #[.int .i64 k] 3)):=⟨_,rfl⟩;rw [<-f] at b q1 q2
 have HC:=zh (DZ (h.more b) hlen hp hn id a HCM [] qs (λe he=>by cases he) none 0 (λh9=>absurd h9 qs) (λhne=>absurd rfl hne) (λT=>Bg T id a (Gu T k)) _ (NQ id a k (W.heap.size) (W.heap.size+1))
  (λw' ht=>⟨Ev q1 oo c d ht,Ev q2 oo c d ht⟩)
  (λT h1 h2=>⟨UL T (Bd (GL h1 h2)) id a k hk (W.heap.size) (W.heap.size+1),λh3=>by
    obtain ⟨⟨U,e3⟩,hu⟩:∃r,Bg T id a (Gu T k)=r:=⟨_,rfl⟩
    simp only [hu] at h3 ⊢
    subst h3
    exact Bd (Ge T U id a k hu).good⟩) D' er hr)
 have HG:=zh b;have g:=q1.cell 0;have i:=q1.cell 1;have l1:=q1.lt;have j:=q2.cell 0;have l2:=q2.lt;unfold okI at hk;clear h hlen hp hn HCM b c d hr q1 q2;go_enter Tryz.func32,Tryz.ntmps32;rw [f] at HC HG g i l1 j l2;clear f W1;go_wp2_with fail;refine HC.mono ?_;rintro e w1 ⟨rfl,o1,hd⟩;have HD:=zh (VDid.after2 HG hd);clear hd;go_wp2_with fail;go_ret;exact ⟨rfl,_,HD⟩
theorem Qk (id a:Int) (nt:ByteArray) (l:nt.size<=9223372036854775807) (ws:List (Int × ByteArray)) (hl:ws.length<=900000) (k:∀e∈ws,okI e.1) (B:Option Addr) (d:Nat) (j:ListAt W W.heap.size 2 B (ws.map BB)) (hB:ws≠[]->∀b off,B=some ⟨b,off,none⟩->Far w0 out m v b) (D':Dev) (er:Int) (hr:chP D sy ep n id 0 ws (λT=>Bg T id a (IE T id nt))=(D',er)):
 Calls Tryz.prog 33 #[ptrV v,.agg #[.int .i64 id,.int .i64 a],.string nt,.slice B ws.length d] W λe w'=>e=.returned (.int .i64 er)/\∃out',VDid w0 x s m v n sy ep D' out W out' w':=by
 have c:Grew W ((W.alloc (.cells #[.int .i64 id,.int .i64 a] 32)).alloc (.cells #[.string nt] 9)):=((fh W).alloc _).alloc _;have f:=h.held.store.lt.2;have g:=h.vol.lt;have q1:=((fy W 32 #[.int .i64 id,.int .i64 a] (n:=W.heap.size) qs).alloc (.cells #[.string nt] 9));have q2:=fy (W.alloc (.cells #[.int .i64 id,.int .i64 a] 32)) 9 #[.string nt] (n:=W.heap.size+1) qs;obtain ⟨W1,i⟩:∃W1,W1=((W.alloc (.cells #[.int .i64 id,.int .i64 a] 32)).alloc (.cells #[.string nt] 9)):=⟨_,rfl⟩;rw [<-i] at c q1 q2
 have HC:=zh (DZ (h.more c) hlen hp hn id 0 HCM ws hl k B d (AO j c) (λhne b off e=>Nu (hB hne b off e)) (λT=>Bg T id a (IE T id nt)) _ (N7 id a nt (W.heap.size) (W.heap.size+1))
  (λw' ht=>⟨Ev q1 oo f g ht,Ev q2 oo f g ht⟩)
  (λT h1 h2=>⟨UO T (Bd (GL h1 h2)) id a nt l (W.heap.size) (W.heap.size+1),λh3=>by
    obtain ⟨⟨U,e3⟩,hu⟩:∃r,Bg T id a (IE T id nt)=r:=⟨_,rfl⟩
    simp only [hu] at h3 ⊢
    subst h3
    exact Bd (Gg T U id a nt hu).good⟩) D' er hr)
 have HG:=zh c;have o:=q1.cell 0;have p:=q1.cell 1;have l1:=q1.lt;have q:=q2.cell 0;have l2:=q2.lt;clear h hlen hp hn HCM c f g hr q1 q2 k j hB;go_enter Tryz.func33,Tryz.ntmps33;rw [i] at HC HG o p l1 q l2;clear i W1;go_wp2_with fail;refine HC.mono ?_;rintro e w1 ⟨rfl,o1,hd⟩;have HD:=zh (VDid.after2 HG hd);clear hd;go_wp2_with fail;go_ret;exact ⟨rfl,_,HD⟩
theorem XR (id a:Int) (nt:ByteArray) (l:nt.size<=9223372036854775807) (ws:List (Int × ByteArray)) (hl:ws.length<=900000) (k:∀e∈ws,okI e.1) (B:Option Addr) (d:Nat) (j:ListAt W W.heap.size 2 B (ws.map BB)) (hB:ws≠[]->∀b off,B=some ⟨b,off,none⟩->Far w0 out m v b) (D':Dev) (er:Int) (hr:chP D sy ep n id a ws (λT=>Bg T id a (Eu T nt))=(D',er)):
 Calls Tryz.prog 34 #[ptrV v,.agg #[.int .i64 id,.int .i64 a],.string nt,.slice B ws.length d] W λe w'=>e=.returned (.int .i64 er)/\∃out',VDid w0 x s m v n sy ep D' out W out' w':=by
 have c:Grew W ((W.alloc (.cells #[.int .i64 id,.int .i64 a] 32)).alloc (.cells #[.string nt] 9)):=((fh W).alloc _).alloc _;have f:=h.held.store.lt.2;have g:=h.vol.lt;have q1:=((fy W 32 #[.int .i64 id,.int .i64 a] (n:=W.heap.size) qs).alloc (.cells #[.string nt] 9));have q2:=fy (W.alloc (.cells #[.int .i64 id,.int .i64 a] 32)) 9 #[.string nt] (n:=W.heap.size+1) qs;obtain ⟨W1,i⟩:∃W1,W1=((W.alloc (.cells #[.int .i64 id,.int .i64 a] 32)).alloc (.cells #[.string nt] 9)):=⟨_,rfl⟩;rw [<-i] at c q1 q2
 have HC:=zh (DZ (h.more c) hlen hp hn id a HCM ws hl k B d (AO j c) (λhne b off e=>Nu (hB hne b off e)) (λT=>Bg T id a (Eu T nt)) _ (aG id a nt (W.heap.size) (W.heap.size+1))
  (λw' ht=>⟨Ev q1 oo f g ht,Ev q2 oo f g ht⟩)
  (λT h1 h2=>⟨cV T (Bd (GL h1 h2)) id a nt l (W.heap.size) (W.heap.size+1),λh3=>by
    obtain ⟨⟨U,e3⟩,hu⟩:∃r,Bg T id a (Eu T nt)=r:=⟨_,rfl⟩
    simp only [hu] at h3 ⊢
    subst h3
    exact Bd (Jn T U id a nt hu).good⟩) D' er hr)
 have HG:=zh c;have o:=q1.cell 0;have p:=q1.cell 1;have l1:=q1.lt;have q:=q2.cell 0;have l2:=q2.lt;clear h hlen hp hn HCM c f g hr q1 q2 k j hB;go_enter Tryz.func34,Tryz.ntmps34;rw [i] at HC HG o p l1 q l2;clear i W1;go_wp2_with fail;refine HC.mono ?_;rintro e w1 ⟨rfl,o1,hd⟩;have HD:=zh (VDid.after2 HG hd);clear hd;go_wp2_with fail;go_ret;exact ⟨rfl,_,HD⟩
theorem Sk (id a:Int) (D':Dev) (er:Int) (hr:chP D sy ep n id a [] (λT=>Bg T id a (JU T))=(D',er)):
 Calls Tryz.prog 35 #[ptrV v,.agg #[.int .i64 id,.int .i64 a]] W λe w'=>e=.returned (.int .i64 er)/\∃out',VDid w0 x s m v n sy ep D' out W out' w':=by
 have b:Grew W (W.alloc (.cells #[.int .i64 id,.int .i64 a] 32)):=(fh W).alloc _;have d:=h.held.store.lt.2;have f:=h.vol.lt;have q1:=fy W 32 #[.int .i64 id,.int .i64 a] (n:=W.heap.size) qs;obtain ⟨W1,c⟩:∃W1,W1=(W.alloc (.cells #[.int .i64 id,.int .i64 a] 32)):=⟨_,rfl⟩;rw [<-c] at b q1
 have HC:=zh (DZ (h.more b) hlen hp hn id a HCM [] qs (λe he=>by cases he) none 0 (λh9=>absurd h9 qs) (λhne=>absurd rfl hne) (λT=>Bg T id a (JU T)) _ (Ql id a (W.heap.size))
  (λw' ht=>Ev q1 oo d f ht)
  (λT h1 h2=>⟨YN T (Bd (GL h1 h2)) id a (W.heap.size),λh3=>by
    obtain ⟨⟨U,e3⟩,hu⟩:∃r,Bg T id a (JU T)=r:=⟨_,rfl⟩
    simp only [hu] at h3 ⊢
    subst h3
    exact Bd (Hk T U id a hu).good⟩) D' er hr)
 have HG:=zh b;have g:=q1.cell 0;have i:=q1.cell 1;have l1:=q1.lt;clear h hlen hp hn HCM b d f hr q1;go_enter Tryz.func35,Tryz.ntmps35;rw [c] at HC HG g i l1;clear c W1;go_wp2_with fail;refine HC.mono ?_;rintro e w1 ⟨rfl,o1,hd⟩;have HD:=zh (VDid.after2 HG hd);clear hd;go_wp2_with fail;go_ret;exact ⟨rfl,_,HD⟩
end

end
section
attribute [local go_sem] Oper.semAt_some
open Go.RowKit Go.Shelf
theorem YF (w:World) (A:Option Addr) (N c:Nat):
 Calls Tryz.prog 153 #[.slice A N c,.int .i64 64] w λe w'=>e=.returned (.func (.func 205) #[] #[ptrV w.heap.size,ptrV (w.heap.size+1)])/\w'=(w.alloc (.cells #[.slice A N c] 24)).alloc (.cells #[.int .i64 64] 3):=by
 go_enter Tryz.func153,Tryz.ntmps153;go_wp2_with fail;go_ret;exact ⟨rfl,rfl⟩
theorem UI (l B1 B2:Nat) (b a N c n:Nat) (hn:1<=n) (hN:N<=1000000) (hc:N<=c/\c<=9223372036854775807) (J:Nat->World->Prop) (Jx:World->Prop)
 (A:Option Addr) (hA:0<N->A=some ⟨b,a,none⟩) (hJ:∀k W,J k W->W.cell? ⟨B1,0,none⟩=some (.slice A N c)/\W.cell? ⟨B2,0,none⟩=some (.int .i64 64)) (hd:∀k W,J k W->J k W.drew)
 (hY:∀k W,J k W->64*k<N->∀d,YieldAt Fence.wide (n - 1) Tryz.prog l #[.slice (some ⟨b,a+64*k*2,none⟩) (min 64 (N - 64*k)) d] W λe W'=>(e=.returned (.bool true)/\J (k+1) W')\/(e=.returned (.bool false)/\Jx W'))
 (W:World) (h0:J 0 W):
 CallsIn Fence.wide n Tryz.prog 205 #[.func (.yield l) #[] #[],ptrV B1,ptrV B2] W λe W'=>(∃v,e=.returned v)/\((∃k,N<=64*k/\J k W')\/Jx W'):=by
 refine callsIn_of_wp Tryz.func205 rfl trivial ?_ rfl;simp only [Tryz.ntmps205,size_toArray,iY,length_nil,Nat.reduceAdd,Nat.reduceSub,Array.replicate_succ,Array.replicate_zero,push_toArray,append_toArray,nil_append,cons_append];gi_wp2;gi_loopw [4] (λi wr=>∃k:Nat,64*k<=N+63/\i=.int .i64 (64*k:Nat)/\J k wr) (λi _=>N+64 - (intOf i).toNat)
 case atStart=>exact ⟨0,oo,rfl,h0⟩
 case round=>
  obtain ⟨k,hk,rfl,f⟩:=hrel;obtain ⟨x1,x2⟩:=hJ k wr f;by_cases o:64*k<N
  . have m:((64*k:Nat):Int)<(N:Int):=oo;obtain rfl:A=some ⟨b,a,none⟩:=hA oo;have g:=hd k wr f;obtain ⟨y1,y2⟩:=hJ k wr.drew g;have hm:Tryz.prog.follows .mixedOrders=true:=qk;have q:64*k<=N:=oo;have r:64*k<=c:=oo;gi_wp2;gi_region_o;obtain ⟨e,he⟩:∃e:Nat,e=min 64 (N - 64*k):=⟨_,rfl⟩;have h:(min 64 ((N - 64*k:Nat):Int))=(e:Int):=oo;rw [h];have s:IntKind.i64.wrap (64*(k:Int)+(e:Int))=64*(k:Int)+(e:Int):=gy _ oo;obtain ⟨fn,w,x,y,hy,hR⟩:=hY k wr.drew g o e;rw [<-he] at hy;have z1:64*k+e<=c:=oo;have t:0<e:=oo;have HE:=zh he;clear he h;gi_wp2;refine hR.mono ?_;rintro e3 W3 (⟨rfl,j⟩ | ⟨rfl,p⟩)
    . obtain ⟨-,v2⟩:=hJ _ _ j;have u:IntKind.i64.wrap (64*(k:Int)+64)=64*(k:Int)+64:=gy _ oo;gi_wp2
      go_roundw
      case rel=>exact ⟨k+1,oo,by go_num,j⟩
      case measure=>simp [intOf];omega
    . gi_wp2;refine f7 (results_none rfl _ _ _) rfl ?_;exact ⟨⟨_,rfl⟩,.inr p⟩
  . have m:¬((64*k:Nat):Int)<(N:Int):=oo;gi_wp2;go_end0;exact ⟨⟨_,rfl⟩,.inl ⟨k,oo,f⟩⟩
def ff (D:Nat) (I Ix:World->Prop) (W:World):Exit->Act->World->Prop
 | .normal,_,W'=>(W'.heap[D]? =W.heap[D]? /\W'.heap[D+1]? =W.heap[D+1]?)/\I W'
 | .ret,_,W'=>(W'.heap[D]? =W.heap[D]? /\W'.heap[D+1]? =W.heap[D+1]?)/\Ix W'
 | _,_,_=>False
theorem eV {n:Nat} {P:Program} {g:Operand} {p:Tmp} {assign body:Code} {Q:Exit->Act->World->Prop} {a:Act} {w:World}
 (h1:1<=n) {gf:Nat} {lb:Array Value} (hg:a.eval g=.func (.func gf) #[] lb) (eg:∀args w,(callFunc gf args).run P w=.ok (.enter gf args) w)
 (I:Nat->World->Prop) (Ix:World->Prop) (N:Nat->Prop) (enc:Nat->Value->Prop)
 (B:∀(l:Nat) (J:Nat->World->Prop) (Jx:World->Prop) (W:World),(∀k W,J k W->I k W)->(∀k W,J k W->J k W.drew)->
   (∀k W,J k W->N k->∀v,enc k v->YieldAt Fence.wide (n - 1 - 1) P l #[v] W λe W'=>(e=.returned (.bool true)/\J (k+1) W')\/(e=.returned (.bool false)/\Jx W'))->J 0 W->
   CallsIn Fence.wide (n - 1) P gf (#[.func (.yield l) #[] #[]]++lb) W λe W'=>(∃v,e=.returned v)/\((∃k,¬N k/\J k W')\/Jx W'))
 (C:∀k W,I k W->I k W.drew) (i:∀k W o,I k W->w.heap.size+1<W.heap.size->I k (W.putObj (w.heap.size+1) o)) (r:∀W o,Ix W->w.heap.size+1<W.heap.size->Ix (W.putObj (w.heap.size+1) o))
 (h0:∀o,I 0 ((w.alloc (.deferred (some []))).alloc o)) (a1:Value->Act)
 (D:∀(l:Nat) (v:Value) (W:World) (K:Act->World->Prop),K (a1 v) W->assign.wpIn (Fence.wide.inRound l) (n - 1 - 1) P (Exit.then K (λ_ _ _=>False)) { tmps:=a.tmps.setIfInBounds p v,defers:=[] } W)
 (E:∀(l k:Nat) (v:Value) (W:World),I k W->N k->enc k v->body.wpIn (Fence.wide.inRound l) (n - 1 - 1) P (ff w.heap.size (I (k+1)) Ix W) (a1 v) W)
 (A:∀(k:Nat) (W:World),I k W->¬N k->W.heap[w.heap.size]? =some (.deferred (some []))->Q .normal { a with defers:={ target:=.collected w.heap.size,args:=#[] }::a.defers } W)
 (z:∀W:World,Ix W->W.heap[w.heap.size]? =some (.deferred (some []))->Code.ret.wpIn Fence.wide n P Q { a with defers:={ target:=.collected w.heap.size,args:=#[] }::a.defers } W):
 (Code.rangeFunc g #[p] assign body).wpIn Fence.wide n P Q a w:=by
 refine wpIn_rangeFunc ?_;intro fn L;obtain ⟨b,c⟩:∃b:LoopState->Option Code->Loop,b=λst pe=>{ state:=st,pending:=pe,fn,tmps:=a.tmps,params:=#[p],assign,body,defers:=w.heap.size }:=⟨_,rfl⟩;obtain ⟨W1,f⟩:∃W1,(w.alloc (.deferred (some []))).alloc (.loop (b .ready none))=W1:=⟨_,rfl⟩
 have F:W1.heap[w.heap.size+1]? =some (.loop (b .ready none)):=by
  rw [<-f];have:=World.alloc_heap_new (w.alloc (.deferred (some []))) (.loop (b .ready none));rwa [World.size_alloc] at this
 have G:W1.heap[w.heap.size]? =some (.deferred (some [])):=by
  rw [<-f];exact (Below.heap_alloc _ _ _ qs).trans (World.alloc_heap_new w _)
 have H:I 0 W1:=by rw [<-f];exact h0 _
 refine ⟨w.heap.size+1,[{ target:=.collected w.heap.size,args:=#[] }],W1,{ target:=.fn (.func gf) lb,args:=#[.func (.yield (w.heap.size+1)) #[] #[]] },W1,gf,
  #[.func (.yield (w.heap.size+1)) #[] #[]]++lb,W1,?_,?_,?_,?_,λ_=>h1,?_⟩
 . rw [<-f,c];exact run_enterLoop_outer _ _ _ _ _
 . simp only [resolve,hg];simp [go_sem]
 . intro f' _;trivial
 . simp [invoke,go_sem,eg]
 . refine (B (w.heap.size+1)
    (λk W=>I k W/\W.heap[w.heap.size+1]? =some (.loop (b .ready none))/\W.heap[w.heap.size]? =some (.deferred (some [])))
    (λW=>Ix W/\W.heap[w.heap.size+1]? =some (.loop (b .done (some .ret)))/\W.heap[w.heap.size]? =some (.deferred (some [])))
    W1 (λk W h=>h.1) (λk W h=>⟨C k W h.1,h.2⟩) ?_ ⟨H,F,G⟩).mono ?_
   . rintro k W ⟨hi,hl,hk⟩ hN v hv;have s:w.heap.size+1<W.heap.size:=(iC.1 hl).1;have hy:=run_yield (P:=P) (args:=#[v]) hl (by rw [c];rfl);rw [c] at hy;replace hy:(Instr.yield (w.heap.size+1) #[v]).run P W=.ok (.round (w.heap.size+1) fn (a.tmps.setIfInBounds p v) assign body) W:=by simpa using hy
     refine ⟨fn,_,assign,body,hy,roundIn_of_wpIn L ?_⟩;apply D;refine ⟨_,run_beginRound hl (by rw [c]),?_⟩;have u:(W.putObj (w.heap.size+1) (.loop { b .ready none with state:=.busy })).heap[w.heap.size+1]? =some (.loop { b .ready none with state:=.busy }):=World.putObj_heap_same s;have x:(W.putObj (w.heap.size+1) (.loop { b .ready none with state:=.busy })).heap[w.heap.size]? =some (.deferred (some [])):=(World.putObj_heap_other oo).trans hk;refine wpIn_mono (E _ k v _ (i k W _ hi s) hN hv) ?_;have y:∀(jump:Option Code) (W3:World),W3.heap[w.heap.size]? =some (.deferred (some []))->W3.heap[w.heap.size+1]? =some (.loop { b .ready none with state:=.busy })->
      (Instr.endRound (w.heap.size+1) jump).run P W3=.ok (.bool jump.isNone) (W3.putObj (w.heap.size+1) (.loop (b (if jump.isNone then .ready else .done) jump)))/\w.heap.size+1<W3.heap.size/\(W3.putObj (w.heap.size+1) (.loop (b (if jump.isNone then .ready else .done) jump))).heap[w.heap.size+1]? =some (.loop (b (if jump.isNone then .ready else .done) jump))/\
      (W3.putObj (w.heap.size+1) (.loop (b (if jump.isNone then .ready else .done) jump))).heap[w.heap.size]? =some (.deferred (some [])):=λjump W3 hk3 d=>by
      have:=run_endRound (P:=P) jump d;rw [c] at this ⊢;exact ⟨this,(iC.1 d).1,World.putObj_heap_same (iC.1 d).1,(World.putObj_heap_other oo).trans hk3⟩
     rintro e a3 W3 hp;cases e with
     | normal=>
       obtain ⟨⟨b1,b2⟩,j⟩:=hp;obtain ⟨hr,d,m,q⟩:=y none W3 (b1.trans x) (b2.trans u);exact ⟨_,_,hr,.inl ⟨rfl,i _ _ _ j d,m,q⟩⟩
     | ret=>
       obtain ⟨⟨b1,b2⟩,j⟩:=hp;obtain ⟨hr,d,m,q⟩:=y (some .ret) W3 (b1.trans x) (b2.trans u);exact ⟨_,_,hr,.inr ⟨rfl,r _ _ j d,m,q⟩⟩
     | exit id=>exact hp.elim
     | goto t=>exact hp.elim
     | panic ch=>exact hp.elim
     | outgrown=>exact hp.elim
   . rintro e W2 ⟨⟨v,rfl⟩,(⟨k,hN,hi,hl,hk⟩ | ⟨hi,hl,hk⟩)⟩
     . exact ⟨none,_,by have:=run_endLoop (P:=P) hl (by rw [c];simp);rw [c] at this;exact this,A k _ (i _ _ _ hi (iC.1 hl).1) hN ((World.putObj_heap_other oo).trans hk)⟩
     . exact ⟨some .ret,_,by have:=run_endLoop (P:=P) hl (by rw [c];simp);rw [c] at this;exact this,z _ (r _ _ hi (iC.1 hl).1) ((World.putObj_heap_other oo).trans hk)⟩

def IV (ws:List (Int × ByteArray)) (k:Nat):List (Int × ByteArray):=(ws.drop (64*k)).take 64
noncomputable def De (D:Dev) (sy ep:Int) (ws:List (Int × ByteArray)):Nat->Dev × Int
 | 0=>(D,0)
 | k+1=>if (De D sy ep ws k).2≠0 then De D sy ep ws k else Ak (De D sy ep ws k).1 sy ep (IV ws k)
noncomputable def Ky (D:Dev) (sy ep:Int) (ws:List (Int × ByteArray)):Dev × Int:=De D sy ep ws ((ws.length+63) / 64)
theorem SX {D:Dev} {sy ep:Int} {ws:List (Int × ByteArray)} {k:Nat} (h:(De D sy ep ws k).2≠0):∀j,De D sy ep ws (k+j)=De D sy ep ws k
 | 0=>rfl
 | j+1=>by
   show (if (De D sy ep ws (k+j)).2≠0 then De D sy ep ws (k+j) else _)=_;rw [SX h j,if_pos h]
theorem aO {D:Dev} {sy ep:Int} {ws:List (Int × ByteArray)} {k:Nat} (h:(De D sy ep ws (k+1)).2≠0) (hk:64*k<ws.length):Ky D sy ep ws=De D sy ep ws (k+1):=by
 unfold Ky;obtain ⟨j,hj⟩:∃j,(ws.length+63) / 64=k+1+j:=⟨(ws.length+63) / 64 - (k+1),oo⟩;rw [hj];exact SX h j
theorem ab {D:Dev} {sy ep:Int} {ws:List (Int × ByteArray)} {k:Nat} (h1:64*k<ws.length+64) (h2:¬64*k<ws.length):Ky D sy ep ws=De D sy ep ws k:=by
 unfold Ky;rw [show (ws.length+63) / 64=k by omega]
theorem XN {ws:List (Int × ByteArray)} (k:Nat):(IV ws k).length=min 64 (ws.length - 64*k):=by unfold IV;rw [iX,length_drop]
theorem Yo {w:World} {b off:Nat} {ws:List (Int × ByteArray)} (h:ListAt w w.heap.size 2 (some ⟨b,off,none⟩) (ws.map BB)) (k:Nat):ListAt w w.heap.size 2 (some ⟨b,off+64*k*2,none⟩) ((IV ws k).map BB):=by
 unfold IV;rw [map_take,map_drop];exact (h.drop (64*k) rfl).take 64
theorem Hx (w:World) (l:Nat) (o:Obj):Turned (λk=>k=l) w (w.putObj l o):=⟨rfl,rfl,rfl,qs,λk _ hk=>World.putObj_heap_other hk⟩
structure ComI (w0:World) (x s m v:Nat) (sy ep:Int) (D:Dev) (out:Nat->Prop) (W:World) (o1:Nat->Prop) (sl:Value) (ws:List (Int × ByteArray)) (E:Dev) (r:Value) (w':World):Prop where
 held:Held w0 x s m sy ep E o1 w'
 turned:Turned (λk=>(w0.heap.size<=k/\¬out k)\/k=m) W w'
 bv:Blk w' W.heap.size 43 #[ptrV v]
 br:Blk w' (W.heap.size+1) 46 #[r]
 bs:Blk w' (W.heap.size+2) 24 #[sl]
 bn:Blk w' (W.heap.size+3) 3 #[.int .i64 64]
theorem ComI.drew {w0:World} {x s m v:Nat} {sy ep:Int} {D:Dev} {out:Nat->Prop} {W:World} {o1:Nat->Prop} {sl:Value} {ws:List (Int × ByteArray)} {E:Dev} {r:Value} {w':World} (h:ComI w0 x s m v sy ep D out W o1 sl ws E r w'):ComI w0 x s m v sy ep D out W o1 sl ws E r w'.drew:=
 ⟨h.held.grew (fh w').drew,h.turned.drew,h.bv.drew,h.br.drew,h.bs.drew,h.bn.drew⟩
theorem ComI.local_ {w0:World} {x s m v:Nat} {sy ep:Int} {D:Dev} {out:Nat->Prop} {W:World} {o1:Nat->Prop} {sl:Value} {ws:List (Int × ByteArray)} {E:Dev} {r:Value} {w' w2:World} (h:ComI w0 x s m v sy ep D out W o1 sl ws E r w') {l:Nat}
 (hs:s<W.heap.size) (hm:m<W.heap.size) (h0:w0.heap.size<=W.heap.size) (hl:W.heap.size+4<=l) (ho:o1 l) (ht:Turned (λk=>k=l) w' w2):ComI w0 x s m v sy ep D out W o1 sl ws E r w2:=
 ⟨h.held.turnS ht (λk _ e=>by subst e;exact ⟨ho,oo⟩) oo oo,h.turned.next ht (λi hi e=>oo),h.bv.turned ht oo,h.br.turned ht oo,h.bs.turned ht oo,h.bn.turned ht oo⟩
theorem ComI.done {w0:World} {x s m v:Nat} {sy ep:Int} {D:Dev} {out:Nat->Prop} {W:World} {o1:Nat->Prop} {sl:Value} {ws:List (Int × ByteArray)} {E E':Dev} {r:Value} {w' w2:World} (h:ComI w0 x s m v sy ep D out W o1 sl ws E r w')
 (hm:m<W.heap.size) (hsub:∀k,out k->o1 k) (ho:∀k,W.heap.size<=k->k<W.heap.size+6->o1 k) (hd:Done w0 x s m sy ep E' o1 w' w2):ComI w0 x s m v sy ep D out W o1 sl ws E' r w2:=
 have q:∀j,j<4->¬((w0.heap.size<=W.heap.size+j/\¬o1 (W.heap.size+j))\/W.heap.size+j=m):=λj hj h9=>h9.elim (λh8=>h8.2 (ho _ oo oo)) (λh8=>oo)
 ⟨h.held.done hd,h.turned.next hd.turned (λi hi h9=>h9.imp (λh8=>⟨h8.1,λh7=>h8.2 (hsub _ h7)⟩) id),h.bv.turned hd.turned (q 0 oo),h.br.turned hd.turned (q 1 oo),h.bs.turned hd.turned (q 2 oo),h.bn.turned hd.turned (q 3 oo)⟩
theorem ComI.set {w0:World} {x s m v:Nat} {sy ep:Int} {D:Dev} {out:Nat->Prop} {W:World} {o1:Nat->Prop} {sl:Value} {ws:List (Int × ByteArray)} {E:Dev} {r:Value} {w':World} (h:ComI w0 x s m v sy ep D out W o1 sl ws E r w')
 (hs:s<W.heap.size) (hm:m<W.heap.size) (h0:w0.heap.size<=W.heap.size) (ho:o1 (W.heap.size+1)) (u:Value):ComI w0 x s m v sy ep D out W o1 sl ws E u (w'.setCell ⟨W.heap.size+1,0,none⟩ u):=
 have ht:Turned (λk=>k=W.heap.size+1) w' (w'.setCell ⟨W.heap.size+1,0,none⟩ u):=(gW (λk=>k=W.heap.size+1) w').setCell (p:=⟨W.heap.size+1,0,none⟩) (λ_=>rfl) u
 ⟨h.held.turnS ht (λk _ e=>by subst e;exact ⟨ho,oo⟩) oo oo,h.turned.next ht (λi hi e=>oo),h.bv.turned ht oo,h.br.set_ 0 u,h.bs.turned ht oo,h.bn.turned ht oo⟩
theorem P5:∀args w,(callFunc 205 args).run Tryz.prog w=.ok (.enter 205 args) w:=BQ Tryz.func205 qk rfl
section
variable {w0:World} {x s m v:Nat} {n sy ep:Int} {D:Dev} {out:Nat->Prop} {W:World} (h:VHeld w0 x s m v n sy ep D out W)
include h
theorem Q6 (ws:List (Int × ByteArray)) (hl:ws.length<=1000000) (N:∀k,64*k<ws.length->(De D sy ep ws k).2=0->CR x s m sy ep (De D sy ep ws k).1) (M:∀e∈ws,okI e.1) (A:Option Addr) (c:Nat) (G:ListAt W W.heap.size 2 A (ws.map BB)) (hA:ws≠[]->∀b off,A=some ⟨b,off,none⟩->Far w0 out m v b) (hc:ws.length<=c/\c<=9223372036854775807) (E:Dev) (er:Int) (hE:Ky D sy ep ws=(E,er)):
 Calls Tryz.prog 78 #[ptrV v,.slice A ws.length c] W λe w'=>e=.returned (.int .i64 er)/\∃out',VDid w0 x s m v n sy ep E out W out' w':=by
 refine (callsIn_wide (n:=5)).1 ?_;refine callsIn_of_wp_marks Tryz.func78 rfl trivial ?_ rfl;simp only [Tryz.ntmps78,size_toArray,iY,length_nil,Nat.reduceAdd,Nat.reduceSub,Array.replicate_succ,Array.replicate_zero,push_toArray,append_toArray,nil_append,cons_append];gi_wp2_with (refine ⟨trivial,?_⟩;gi_at_call 153;refine (callsIn_wide.2 (YF _ A ws.length c)).mono ?_;rintro e w3 ⟨rfl,rfl⟩);obtain ⟨w4,w⟩:∃w4,w4=((((W.alloc (.cells #[ptrV v] 43)).alloc (.cells #[.int .i64 0] 46)).alloc (.cells #[.slice A ws.length c] 24)).alloc (.cells #[.int .i64 64] 3)):=⟨_,rfl⟩;rw [<-w];have O:Grew W w4:=by rw [w];exact ((((fh W).alloc _).alloc _).alloc _).alloc _
 have y:w4.heap.size=W.heap.size+4:=by rw [w];simp
 obtain ⟨b,off,V⟩:∃b off,0<ws.length->A=some ⟨b,off,none⟩:=by
  by_cases h0:0<ws.length
  . obtain ⟨b,off,e,_⟩:=G (by rw [fm];exact h0);exact ⟨b,off,λ_=>e⟩
  . exact ⟨0,0,λh9=>absurd h9 h0⟩
 have p:s<W.heap.size:=h.held.store.lt.1;have ae:v<W.heap.size:=h.vol.lt;have f:m<W.heap.size:=h.held.store.lt.2;have t:w0.heap.size<=W.heap.size:=h.held.live.base.size;refine eV (n:=5) oo (gf:=205) rfl P5
  (λk W'=>(De D sy ep ws k).2=0/\64*k<ws.length+64/\ComI w0 x s m v sy ep D out W (λk=>out k\/(W.heap.size<=k/\k<W.heap.size+6)) (.slice A ws.length c) ws (De D sy ep ws k).1 (.int .i64 0) W') (λW'=>∃k,(De D sy ep ws (k+1)).2≠0/\64*k<ws.length/\ComI w0 x s m v sy ep D out W (λk=>out k\/(W.heap.size<=k/\k<W.heap.size+6)) (.slice A ws.length c) ws (De D sy ep ws (k+1)).1 (.int .i64 (De D sy ep ws (k+1)).2) W') (λk=>64*k<ws.length) (λk u=>0<ws.length/\∃d,u=.slice (some ⟨b,off+64*k*2,none⟩) (min 64 (ws.length - 64*k)) d) ?iter (λk W' hI=>⟨hI.1,hI.2.1,hI.2.2.drew⟩) (λk W' o hI _=>⟨hI.1,hI.2.1,hI.2.2.local_ p f t (l:=w4.heap.size+1) oo (.inr ⟨oo,oo⟩) (Hx _ _ _)⟩)
  (λW' o hI _=>by
    obtain ⟨k,h1,h2,h3⟩:=hI
    exact ⟨k,h1,h2,h3.local_ p f t (l:=w4.heap.size+1) oo (.inr ⟨oo,oo⟩) (Hx _ _ _)⟩)
  ?start (λu=>{ tmps:=#[ptrV v,.slice A ws.length c,.pointer (some ⟨W.heap.size,0,none⟩),undef,.pointer (some ⟨W.heap.size+1,0,none⟩),u,undef,.slice A ws.length c,.func (.func 205) #[] #[ptrV (W.heap.size+1+1),ptrV (W.heap.size+1+1+1)],u,undef,undef,undef,undef,undef,undef,undef,undef,undef],defers:=[] }) ?assign ?body ?done ?stop
 case iter=>
  intro l J Jx W' U aa hY ad;refine CallsIn.mono (UI l (W.heap.size+1+1) (W.heap.size+1+1+1) b off ws.length c 4 oo hl hc J Jx A V (λk W2 hj=>⟨(U k W2 hj).2.2.bs.cell 0,(U k W2 hj).2.2.bn.cell 0⟩) aa (λk W2 hj hk d=>hY k W2 hj hk _ ⟨oo,d,rfl⟩) W' ad) ?_;rintro e W2 ⟨h1,h2⟩;exact ⟨h1,h2.imp (λ⟨k,h3,h4⟩=>⟨k,oo,h4⟩) id⟩
 case start=>
  intro o;have P:Grew W ((w4.alloc (.deferred (some []))).alloc o):=(O.alloc _).alloc o;have Y:((w4.alloc (.deferred (some []))).alloc o).heap.size=W.heap.size+6:=by simp [y]
  have hm:=(h.more P).held;rw [Y] at hm;refine ⟨rfl,oo,hm,P.turned _,?_,?_,?_,?_⟩<;>rw [w]
  . exact (((((fy W _ #[ptrV v] rfl).alloc _).alloc _).alloc _).alloc _).alloc _
  . exact ((((fy (n:=W.heap.size+1) _ _ #[.int .i64 0] qs).alloc _).alloc _).alloc _).alloc _
  . exact (((fy (n:=W.heap.size+2) _ _ #[.slice A ws.length c] qs).alloc _).alloc _).alloc _
  . exact ((fy (n:=W.heap.size+3) _ _ #[.int .i64 64] qs).alloc _).alloc _
 case assign=>
  intro l u W' K hK;gi_wp2;exact hK
 case body=>
  rintro l k u W' ⟨he,hk,hI⟩ hN ⟨C,d,rfl⟩;obtain rfl:=V C;have z0:=hI.bv.cell 0;have zl:=hI.bv.lt;have zr:=hI.br.cell 0;have zf:=hI.br.frozen 0;obtain ⟨sv,T,tv,X,_⟩:=h.vol;have hF:∀i,Far w0 out m v i->¬((w0.heap.size<=i/\¬out i)\/i=m):=λi hi h9=>hi.not (h9.imp id .inl);have z:=X.turned hI.turned (λh9=>h9.elim (λh8=>h8.2 h.ov) h.vm);unfold GD at z;have v0:=z.cell 0;have vl:=z.lt;have H:ws≠[]:=by intro h9;rw [h9] at C;exact absurd C qs
  have Q:=Yo (CC G hI.turned (λ_ b' off' e=>hF _ (hA H b' off' e))) k;have R:=XN (ws:=ws) k
  have HR:=N k hN he w0 _ W' hI.held (IV ws k) oo (λe he=>M e (mem_of_mem_drop (iu he))) _ d Q (λ_ b' off' e=>by
   injection e with e
   injection e with e1 e2
   subst e1
   exact (hA H _ _ rfl).1.imp id .inl)
  have S:De D sy ep ws (k+1)=Ak (De D sy ep ws k).1 sy ep (IV ws k):=by
   show (if _ then _ else _)=_;rw [if_neg (by rw [he];simp)]
  rw [<-S,R] at HR;obtain ⟨⟨E',e'⟩,L⟩:∃r,De D sy ep ws (k+1)=r:=⟨_,rfl⟩;rw [L] at HR;simp only at HR;have HI:=zh hI;have HE:=zh L;have HN:=zh hN;have HH:=zh h;clear Q R S L hI he hk hN C H X hF z hE w G hA M N h
  have HD:Hid (∀j,j<2->w4.heap.size+j<W'.heap.size):=zh (λj hj=>by
   obtain ⟨q,_,_,_,_,hn⟩:=HI.held.live
   exact (hn _ (.inr ⟨oo,oo⟩)).1)
  have HB:Hid (∀w3,Turned (λi=>(w0.heap.size<=i/\¬(out i\/(W.heap.size<=i/\i<W.heap.size+6)))\/i=m) W' w3->w3.heap[w4.heap.size]? =W'.heap[w4.heap.size]? /\w3.heap[w4.heap.size+1]? =W'.heap[w4.heap.size+1]?):=zh (λw3 ht=>by
   have q:∀j,j<2->¬((w0.heap.size<=w4.heap.size+j/\¬(out (w4.heap.size+j)\/(W.heap.size<=w4.heap.size+j/\w4.heap.size+j<W.heap.size+6)))\/w4.heap.size+j=m):=λj hj h9=>h9.elim (λh8=>h8.2 (.inr ⟨oo,oo⟩)) (λh8=>oo)
   exact ⟨ht.block _ (HD 0 oo) (q 0 oo),ht.block _ (HD 1 oo) (q 1 oo)⟩)
  gi_wp2_with (refine ⟨trivial,?_⟩;gi_at_call 51;refine (CallsIn.inRound l (callsIn_wide.2 HR)).mono (R':=λe w3=>e=.returned (.int .i64 e')/\Hid (Done w0 x s m sy ep E' (λk=>out k\/(W.heap.size<=k/\k<W.heap.size+6)) W' w3)/\w3.cell? ⟨W.heap.size+1,0,none⟩=some (.int .i64 0)/\w3.frozen? ⟨W.heap.size+1,0,none⟩=false) (λe w3 he=>⟨he.1,zh he.2,(HI.done f (λk=>.inl) (λk a b=>.inr ⟨a,b⟩) he.2).br.cell 0,(HI.done f (λk=>.inl) (λk a b=>.inr ⟨a,b⟩) he.2).br.frozen 0⟩) |>.mono ?_;rintro e w3 ⟨rfl,F,q0,qf⟩)
  . rename_i hx;have I2:=HI.done f (λk=>.inl) (λk a b=>.inr ⟨a,b⟩) F;have B:=HB.out _ F.turned;have I:e'≠0:=gu.1 hx;refine ⟨⟨(Below.heap_setCell _ _ _ _ (by rw [y];show W.heap.size+4≠W.heap.size+1;omega)).trans B.1,(Below.heap_setCell _ _ _ _ (by rw [y];show W.heap.size+4+1≠W.heap.size+1;omega)).trans B.2⟩,k,by rw [HE.out];exact λh9=>I h9,HN,?_⟩;rw [HE.out];exact I2.set p f t (.inr ⟨oo,oo⟩) _
  . rename_i hx;have I2:=HI.done f (λk=>.inl) (λk a b=>.inr ⟨a,b⟩) F;have B:=HB.out _ F.turned;have I:e'=0:=by simpa using hx
    have aj:=HN.out;refine ⟨B,by rw [HE.out];exact I,oo,?_⟩;rw [HE.out];exact I2
 case done=>
  rintro k W' ⟨he,hk,hI⟩ hN hD;have yr:=hI.br.cell 0;have yf:=hI.br.frozen 0;rw [ab hk hN] at hE;gi_wp2;have Z:(W'.setCell ⟨W.heap.size+1,0,none⟩ (.int .i64 0)).heap[w4.heap.size]? =some (.deferred (some [])):=(Below.heap_setCell _ _ _ _ (by rw [y];show W.heap.size+4≠W.heap.size+1;omega)).trans hD;have g:=(hI.set p f t (.inr ⟨oo,oo⟩) (.int .i64 0)).local_ p f t (l:=w4.heap.size) oo (.inr ⟨oo,oo⟩) (Hx _ _ (.deferred none));refine ⟨qs,.inl ⟨_,_,rfl,run_takeDeferred Z,?_⟩⟩;have y5:=g.br.cell 0;rw [hE] at he g;refine ⟨.int .i64 0,?_,by rw [<-he],_,h.step (λk hk=>.inl hk) g.held g.turned⟩;simp [results,Tryz.f78,go_sem,y5]
 case stop=>
  rintro W' ⟨k,he,hk,hI⟩ hD;rw [aO he hk] at hE;rw [hE] at he hI;have g:=hI.local_ p f t (l:=w4.heap.size) oo (.inr ⟨oo,oo⟩) (Hx _ _ (.deferred none));clear w y O;gi_wp2;refine ⟨qs,.inl ⟨_,_,rfl,run_takeDeferred hD,?_⟩⟩;have y5:=g.br.cell 0;refine ⟨.int .i64 er,?_,rfl,_,h.step (λk hk=>.inl hk) g.held g.turned⟩;simp [results,Tryz.f78,go_sem,y5]
end

end
section
attribute [local go_sem ↓] Go.wp_at_zero Go.wp_at_succ
open Go.RowKit
theorem bD {w:World} {g:Nat} {a b:Int} (h:Blk w g 136 #[.int .i64 a,.int .i64 b]) (ha:okI a) (hb:okI b):RunsAt w w.heap.size (some ⟨g,0,none⟩) [(a,b)]:=by
 refine ⟨λr hr=>?_,λ_=>⟨g,0,rfl,h.lt,λj cs hj i v hi=>?_⟩⟩
 . obtain rfl:=fp.1 hr;exact ⟨ha.1,ha.2,hb.1,hb.2⟩
 . match j,hj with
   | 0,hj=>
     obtain rfl:FW (a,b)=cs:=by simpa using hj
     match i,hi with
     | 0,hi=>obtain rfl:Value.int .i64 a=v:=by simpa [FW] using hi
             exact h.cell 0
     | 1,hi=>obtain rfl:Value.int .i64 b=v:=by simpa [FW] using hi
             exact h.cell 1
     | i+2,hi=>simp [FW] at hi
   | j+1,hj=>simp at hj
def eP (id unit a b:Int) (b1 b2:Nat) (w:World):Prop:=Blk w b1 32 #[.int .i64 id,.int .i64 unit]/\Blk w b2 136 #[.int .i64 a,.int .i64 b]
theorem fG (T:Tab) (hs:SmallT T) (id d a b:Int) (ha:okI a) (hb:okI b) (b1 b2:Nat):MB (.func (.func 79) #[] #[.pointer (some ⟨b1,0,none⟩),.pointer (some ⟨b2,0,none⟩)]) (eP id d a b b1 b2) T (Bg T id d (GZ T [(a,b)])):=by
 refine ⟨79,#[],_,rfl,BQ Tryz.func79 qk qk,λw A c ys hP ht=>?_⟩;show Calls Tryz.prog 79 #[.agg #[.string T.name,.int .i64 T.tracks,.slice A T.labels.length c],.pointer (some ⟨b1,0,none⟩),.pointer (some ⟨b2,0,none⟩)] w _;obtain ⟨⟨T',er⟩,hr⟩:∃r,Bg T id d (GZ T [(a,b)])=r:=⟨_,rfl⟩;rw [hr];have f:Grew w (((w.alloc (.cells #[.string T.name,.int .i64 T.tracks,.slice A T.labels.length c] 50)).alloc (.cells #[.string ⟨#[]⟩,.int .i64 0,.slice none 0 0] 50)).alloc (.cells #[.int .i64 a,.int .i64 b] 136)):=(((fh w).alloc _).alloc _).alloc _;have g:=(fy (w.alloc (.cells #[.string T.name,.int .i64 T.tracks,.slice A T.labels.length c] 50)) 50 #[.string ⟨#[]⟩,.int .i64 0,.slice none 0 0] (n:=w.heap.size+1) qs).alloc (.cells #[.int .i64 a,.int .i64 b] 136);have h:=fy ((w.alloc (.cells #[.string T.name,.int .i64 T.tracks,.slice A T.labels.length c] 50)).alloc (.cells #[.string ⟨#[]⟩,.int .i64 0,.slice none 0 0] 50)) 136 #[.int .i64 a,.int .i64 b] (n:=w.heap.size+1+1) qs;unfold eP at hP;obtain ⟨q1,q2⟩:=hP;have m:=q1.cell 0;have o:=q1.cell 1;have l1:=q1.lt;have p:=q2.cell 0;have q:=q2.cell 1;have l2:=q2.lt;have HC:=zh (λcx=>Sd A c ys T id d _ (ht.hold f) hs _ cx [(a,b)] (bD h ha hb) qs _ _ hr);have HZ:=zh g;have HG:=zh f;clear f g h q1 q2 hr;go_enter Tryz.func79,Tryz.ntmps79;go_wp2_with fail;refine (HC _).mono ?_;rintro e w1 ⟨A1,c1,zs,rfl,i,g1⟩;have hz:=HZ.grew g1;have j:=zh hz;have k:=zh (HG.out.trans g1);have l:=zh i;have z0:=hz.cell 0;have z1:=hz.cell 1;have z2:=hz.cell 2;have f0:=hz.frozen 0;have f1:=hz.frozen 1;have f2:=hz.frozen 2;have zl:=hz.lt;clear hz g1 i l1 l2;go_wp2_with fail;refine f7 (by first | (simp [*,results,Tryz.results79,go_sem];rfl) | simp [*,results,Tryz.results79,go_sem]) rfl ?_;exact ⟨A1,c1,zs,rfl,l.apart j (gT),by have hg:=k.out;exact gG⟩
def Fe (l:Lab):List Int:=(List.range (AW l.ext*8)).map λ(i:Nat)=>(AN l.ext (i:Int)).1
def DS (a:Int) (ss:List ByteArray):List (Int × ByteArray):=ss.mapIdx λi s=>(a*8+(i:Int),s)
noncomputable def Ts (D:Dev) (sy ep n id unit:Int):Dev × Bool × Int:=
 match B9 D sy ep n with
 | (E,T,f)=>if f≠0 then (E,false,f) else match Ba T id unit with
   | (l,ok)=>if ok=false then (E,false,6) else match Li l.ext (Ce T) with
     | ((a,b),ok2)=>if ok2=false then (E,false,0) else match CQ E sy ep (Fe l) with
       | (E2,ss,e2)=>if e2≠0 then (E2,false,e2) else match Ky E2 sy ep (DS a ss) with
         | (E3,e3)=>if e3≠0 then (E3,false,e3) else match chP E3 sy ep n id unit [] (λT=>Bg T id unit (GZ T [(a,b)])) with
           | (E4,e4)=>if e4≠0 then (E4,false,e4) else (E4,true,0)
theorem WR (a:Int) (ss:List ByteArray) (k:Nat) (hk:k<ss.length):DS a (ss.take (k+1))=DS a (ss.take k)++[(a*8+(k:Int),ss[k])]:=by
 unfold DS;rw [fr hk,mapIdx_concat,iX,Nat.min_eq_left (Nat.le_of_lt hk)]
theorem Nd (a:Int) (ss:List ByteArray):(DS a ss).length=ss.length:=by unfold DS;exact length_mapIdx
theorem dY {a:Int} {ss:List ByteArray} (ha:0<=a/\a<=128) (hs:ss.length<=1024):∀e∈DS a ss,okI e.1:=by
 intro e he;unfold DS at he;obtain ⟨i,hi,rfl⟩:=List.mem_mapIdx.1 he;unfold okI;simp only;omega
def Kf (D:Dev):Prop:=(132<=D.st.length/\D.st.length<=1155)/\D.pend.length<=900000
section
variable {w0:World} {x s m v:Nat} {n sy ep:Int} {D:Dev} {out:Nat->Prop} {W:World} (h:VHeld w0 x s m v n sy ep D out W) (hL:Kf D) (hn:okT n=true)
include h hL hn
theorem Sb (id unit:Int)
 (HE:∀E T f,B9 D sy ep n=(E,T,f)->f=0->Kf E)
 (cv:∀E T l a b E2 ss,B9 D sy ep n=(E,T,0)->Ba T id unit=(l,true)->Li l.ext (Ce T)=((a,b),true)->CQ E sy ep (Fe l)=(E2,ss,0)->
   (∀k,64*k<(DS a ss).length->(De E2 sy ep (DS a ss) k).2=0->CR x s m sy ep (De E2 sy ep (DS a ss) k).1)/\
   ∀E3,Ky E2 sy ep (DS a ss)=(E3,0)->Kf E3/\∀E,(B9 E3 sy ep n).1=E->(B9 E3 sy ep n).2.2=0->CR x s m sy ep E)
 (D':Dev) (ok:Bool) (er:Int) (hr:Ts D sy ep n id unit=(D',ok,er)):
 Calls Tryz.prog 30 #[ptrV v,.agg #[.int .i64 id,.int .i64 unit]] W λe w'=>e=.returned (.tuple #[.bool ok,.int .i64 er])/\∃out',VDid w0 x s m v n sy ep D' out W out' w':=by
 have bv:Grew W (W.alloc (.cells #[.int .i64 id,.int .i64 unit] 32)):=(fh W).alloc _;have cx:=fy W 32 #[.int .i64 id,.int .i64 unit] rfl;obtain ⟨⟨E,T,f⟩,hE⟩:∃r,B9 D sy ep n=r:=⟨_,rfl⟩;have cy:=HE E T f hE;have H:=λl a b E2 ss (h0:f=0)=>cv E T l a b E2 ss (by rw [hE,h0]);unfold Ts at hr;rw [hE] at hr;simp only at hr;have cz:=zh cy;have f2:=zh H;have HC:=zh (Fy (h.more bv) hL.1 (by have:=hL.2;omega) hn E T f hE);have I:=zh bv;have f3:=zh cx;have HH:=zh h;have c0:=h.held.store.lt.2;have c3:=h.vol.lt;have F:=zh (And.intro c0 c3);clear h hL hE bv cx HE cv cy H c0 c3;go_enter Tryz.func30,Tryz.ntmps30;go_wp2_with fail;refine HC.mono ?_;rintro e w1 ⟨o1,A,c,ys,rfl,hd,bb,ei,bc⟩
 have a1:=zh (f3.turned hd.turned (λh9=>by
  rcases h9 with h9 | h9 | h9
  . exact h9.2 (.inr ⟨fk _,qs⟩)
  . have:=F.1;omega
  . have:=F.2;omega))
 have HD:=zh hd;have Q:Grew w1 (w1.alloc (.cells #[.string T.name,.int .i64 T.tracks,.slice A T.labels.length c] 50)):=(fh w1).alloc _;have c4:=zh Q;have f4:=zh (fy w1 50 #[.string T.name,.int .i64 T.tracks,.slice A T.labels.length c] rfl);have f5:=zh (bb.hold Q);have f6:=zh (λw9 (hg:Grew w1 w9)=>bb.hold hg);have c5:=zh bc;have r0:=(a1.grew Q).cell 0;have r1:=(a1.grew Q).cell 1;have rl:=a1.out.lt;by_cases hf:f=0;rotate_left
 . rw [if_pos hf] at hr;injection hr with h1 hr;injection hr with h2 h3;subst h1;subst h2;subst h3;have Y:(f != 0)=true:=by rw [gu];exact hf
   clear hf hd bb ei bc Q r0 r1 rl;go_wp2_with fail;go_ret2;exact ⟨rfl,_,VDid.after2 I (HD.grew c4)⟩
 subst hf;rw [if_neg qs] at hr;obtain ⟨⟨l,eu⟩,bd⟩:∃r,Ba T id unit=r:=⟨_,rfl⟩;rw [bd] at hr;simp only at hr;have HF:=zh (Zs A c ys T _ f5 bc _ rfl id unit l eu bd);have c6:=zh bd;clear bd hd bb ei bc Q;go_wp2_with fail;refine HF.mono ?_;rintro e w2 ⟨B,d,rfl,cl,g2⟩;have gL:Grew w2 (w2.alloc (.cells #[.int .i64 l.id,.int .i64 l.unit,.string l.name,.string l.note,.slice B l.ext.length d] 100)):=(fh w2).alloc _;have a2:=zh (fy w2 100 #[.int .i64 l.id,.int .i64 l.unit,.string l.name,.string l.note,.slice B l.ext.length d] rfl);have R:=zh ((c4.out.trans g2).trans gL);have J:=zh (f4.grew (g2.trans gL));have Z:=zh (cl.hold gL);cases eu with
 | false=>
   rw [if_pos rfl] at hr;injection hr with h1 hr;injection hr with h2 h3;subst h1;subst h2;subst h3;clear g2 gL cl r0 r1 rl;go_wp2_with fail;go_ret2;exact ⟨rfl,_,VDid.after2 I (HD.grew R)⟩
 | true=>
 rw [if_neg qs] at hr
 have aa:l.ext.length<=1000:=by
  have:=Ko c5 id unit;rw [c6.out] at this;exact this
 obtain ⟨⟨⟨a,b⟩,bf⟩,X⟩:∃r,Li l.ext (Ce T)=r:=⟨_,rfl⟩;rw [X] at hr;simp only at hr;obtain ⟨kf,bk⟩:∃kf,Ce T=kf:=⟨_,rfl⟩;have bw:kf.length<=1000:=by rw [<-bk];exact fx (Lf T) oo
 have c7:=zh (λw9 (hg:Grew w1 w9)=>Kw A c ys T w9 (f6 w9 hg) c5 _ rfl kf bk);have ad:=zh X;have bx:=zh bk;clear g2 gL cl r0 r1 rl X bk;go_wp2_with fail;obtain ⟨w3,ex⟩:∃w3,w3=w2.alloc (.cells #[.int .i64 l.id,.int .i64 l.unit,.string l.name,.string l.note,.slice B l.ext.length d] 100):=⟨_,rfl⟩;rw [<-ex] at a2 R J Z ⊢;clear ex;have y4:=a2.cell 4;have t0:=J.cell 0;have t1:=J.cell 1;have t2:=J.cell 2;have w:=zh (λw9 (hg:Grew w3 w9)=>(show (λw':World=>w'.cell? ⟨w2.heap.size,4,none⟩=some (.slice B l.ext.length d)/\w'.cell? ⟨w1.heap.size,0,none⟩=some (.string T.name)/\w'.cell? ⟨w1.heap.size,1,none⟩=some (.int .i64 T.tracks)/\w'.cell? ⟨w1.heap.size,2,none⟩=some (.slice A T.labels.length c)) w9 from ⟨(a2.grew hg).cell 4,(J.grew hg).cell 0,(J.grew hg).cell 1,(J.grew hg).cell 2⟩));refine AB [9] (λw':World=>w'.cell? ⟨w2.heap.size,4,none⟩=some (.slice B l.ext.length d)/\w'.cell? ⟨w1.heap.size,0,none⟩=some (.string T.name)/\w'.cell? ⟨w1.heap.size,1,none⟩=some (.int .i64 T.tracks)/\w'.cell? ⟨w1.heap.size,2,none⟩=some (.slice A T.labels.length c)) qk ?_;have hS:=w.out w3.drew (fh w3).drew;clear y4 t0 t1 t2;refine tQ 0 38 ?_;refine tT 1 (some 39) hS ?_;refine tT 2 (some 40) hS ?_;clear hS;refine E5 (i:=3) (j:=8) rfl rfl qk ?faa ?fab
 case' faa=>
  intro K' hK;rw [if_pos (by rfl)];simp only [ij,iJ,iT];go_wp2_with fail;refine (c7 w3.drew (R.out.trans (fh w3).drew)).mono ?_;rintro e w4 ⟨Af,cf,rfl,O,g4⟩;have y:=zh ((fh w3).drew.trans g4);go_wp2_with fail;refine hK.out _ _ (.inr (λ_=>w _ y)) ?_;clear hK g4;refine E5 (i:=4) (j:=8) rfl rfl qk ?fba ?fbb
  case' fba=>
   intro K' hK;rw [if_pos (by rfl)];simp only [ij,iJ,iT];go_wp2_with fail;refine (Jr (c1:=d) (c2:=cf) rfl rfl aa bw (Z.hold y).runs O a b bf (by rw [<-bx.out];exact ad.out)).mono ?_;rintro e w5 ⟨rfl,g5⟩;have t:=zh (y.out.trans g5);go_wp2_with fail;refine hK.out _ _ (.inr (λ_=>w _ t)) ?_;clear hK g5;refine tQ 5 37 ?_;refine tQ 6 43 ?_;refine tQ 7 44 ?_;refine tO 8 λK' hK=>?_;go_wp2_with fail;have z:w3.heap.size<=w5.heap.size:=t.size;have gX:=t.alloc (.cells #[.int .i64 0,.int .i64 0] 136);have o:=fy w5 136 #[.int .i64 0,.int .i64 0] rfl;refine hK.out _ _ (.inr (λ_=>w _ gX)) ?_;clear hK O;obtain ⟨wX,e0⟩:∃wX,wX=w5.alloc (.cells #[.int .i64 0,.int .i64 0] 136):=⟨_,rfl⟩;rw [<-e0] at gX o ⊢;obtain ⟨p,hp⟩:∃p,p=w5.heap.size:=⟨_,rfl⟩;rw [<-hp] at o z ⊢;clear e0 hp
  case' fbb=>
   intro K' hK;rw [if_pos (by rfl)];simp only [ij,iJ,iT];go_wp2_with fail;have g5:=(fh w4).alloc (.cells #[.int .i64 0,.int .i64 0] 136);have c8:=fy w4 136 #[.int .i64 0,.int .i64 0] rfl;have t:=zh (y.out.trans g5);refine hK.out _ _ (.inr (λ_=>w _ t)) ?_;clear hK;refine tO 4 λK' hK=>?_;go_wp2_with fail;refine (Jr (c1:=d) (c2:=cf) rfl rfl aa bw (Z.hold t).runs (O.hold g5) a b bf (by rw [<-bx.out];exact ad.out)).mono ?_;rintro e wX ⟨rfl,g6⟩;have z:w3.heap.size<=w4.heap.size:=y.size;have gX:=t.out.trans g6;have o:=c8.grew g6;go_wp2_with fail;refine hK.out _ _ (.inr (λ_=>w _ gX)) ?_;clear hK O g5 g6 c8;obtain ⟨p,hp⟩:∃p,p=w4.heap.size:=⟨_,rfl⟩;rw [<-hp] at o z ⊢;clear hp;refine tQ 5 37 ?_;refine tQ 6 43 ?_;refine tQ 7 44 ?_
 case' fab=>
  intro K' hK;rw [if_pos (by rfl)];simp only [ij,iJ,iT];go_wp2_with fail;have g4:=(fh w3).drew.alloc (.cells #[.int .i64 0,.int .i64 0] 136);have c9:Blk _ w3.heap.size _ _:=fy w3.drew 136 #[.int .i64 0,.int .i64 0] rfl;have y:=zh g4;refine hK.out _ _ (.inr (λ_=>w _ y)) ?_;clear hK;refine tO 3 λK' hK=>?_;go_wp2_with fail;refine (c7 _ (R.out.trans y)).mono ?_;rintro e w4 ⟨Af,cf,rfl,O,g5⟩;have t:=zh (y.out.trans g5);go_wp2_with fail;refine hK.out _ _ (.inr (λ_=>w _ t)) ?_;clear hK;refine tO 4 λK' hK=>?_;go_wp2_with fail;refine (Jr (c1:=d) (c2:=cf) rfl rfl aa bw (Z.hold t).runs O a b bf (by rw [<-bx.out];exact ad.out)).mono ?_;rintro e wX ⟨rfl,g6⟩;have z:w3.heap.size<=w3.heap.size:=fk _;have gX:=t.out.trans g6;have o:=(c9.grew g5).grew g6;go_wp2_with fail;refine hK.out _ _ (.inr (λ_=>w _ gX)) ?_;clear hK O g4 g5 g6 c9;obtain ⟨p,hp⟩:∃p,p=w3.heap.size:=⟨_,rfl⟩;replace z:w3.heap.size<=p:=oo;rw [<-hp] at o ⊢;clear hp;refine tQ 5 37 ?_;refine tQ 6 43 ?_;refine tQ 7 44 ?_
 all_goals
  have x0:=o.cell 0;have x1:=o.cell 1;have f0:=o.frozen 0;have f1:=o.frozen 1;have xl:=o.lt;refine tO 9 λK' hK=>?_;go_wp2_with fail;refine hK.out _ _ (.inl rfl) ?_;refine tQ 10 9 ?_;refine AA qk ?_ _;have g6:=(gX.setCell (p:=⟨_,0,none⟩) z (.int .i64 a)).setCell (p:=⟨_,1,none⟩) z (.int .i64 b);have b0:=(o.set_ 0 (.int .i64 a)).set_ 1 (.int .i64 b);obtain ⟨w6,e1⟩:∃w6,w6=(wX.setCell ⟨p,0,none⟩ (.int .i64 a)).setCell ⟨p,1,none⟩ (.int .i64 b):=⟨_,rfl⟩;rw [<-e1] at g6 b0 ⊢;clear x0 x1 f0 f1 xl hK gX o e1;have da:=zh (R.out.trans g6);have K:=zh (a2.grew g6);have dd:=zh (Z.hold g6);have df:=zh (show Blk w6 p 136 #[.int .i64 a,.int .i64 b] from b0);have a3:=zh z;clear g6 b0 z;cases bf with
  | false=>
    rw [if_pos rfl] at hr;injection hr with h1 hr;injection hr with h2 h3;subst h1;subst h2;subst h3;go_wp2_with fail;go_ret2;exact ⟨rfl,_,VDid.after2 I (HD.grew da)⟩
  | true=>
  rw [if_neg qs] at hr;have y0:=K.cell 0;have y1:=K.cell 1;have y2:=K.cell 2;have y3:=K.cell 3;have y4:=K.cell 4;have yl:=K.out.lt;obtain ⟨nz,e6⟩:∃nz,AW l.ext*8=nz:=⟨_,rfl⟩;obtain ⟨_,bl,xa,xd,hb,hc,_,hh,_⟩:=Ti _ _ _ _ ad;have f9:nz<=1024:=oo;have ae:Hid (0<=a/\a<=128/\okI a/\okI b):=zh (by unfold okI;omega);have b1:=zh (RO w6 B d l dd aa);rw [show ((AW l.ext:Nat):Int)*8=(nz:Int) by omega] at b1;have ga:=zh e6;unfold GG at b1;clear e6 bl hb hc hh;go_wp2_with fail;refine b1.mono ?_;rintro e w7 ⟨rfl,g7⟩;have b2:=zh (da.out.trans g7);have a4:=zh g7;clear g7 y0 y1 y2 y3 y4 yl;go_wp2_with fail
  go_loopg [11,49] nz (λgk u i wr=>∃k:Nat,k<=nz/\gk=nz - k/\i=.int .i64 (k:Int)/\OwnL wr w7.heap.size 3 1 u (((Fe l).take k).map OZ)/\Grew w7 wr)
  case atStart=>exact ⟨0,oo,oo,rfl,OwnL.nil _ _ _ _,fh w7⟩
  case round=>
   obtain ⟨k,hk,av,rfl,G,hg⟩:=hrel;have b3:=zh av;have dk:=zh G;have L:=zh hg;have b4:(Fe l).length=nz:=by unfold Fe;rw [fm,io];exact ga.out
   have S:=zh b4;clear av G hg;by_cases ci:k<nz
   . have gb:(k:Int)<(nz:Int):=oo;obtain ⟨⟨q,hj⟩,hq⟩:∃r,AN l.ext (k:Int)=r:=⟨_,rfl⟩;have HS:=zh (Jb B d l _ (dd.hold (a4.out.trans L)) aa (k:Int) oo oo q hj hq);have M:=(K.grew a4).grew L;have y0:=M.cell 0;have y1:=M.cell 1;have y2:=M.cell 2;have y3:=M.cell 3;have y4:=M.cell 4;have yl:=M.lt;have HQ:Hid ((Fe l)[k]'(by rw [S.out];exact ci)=q):=zh (by unfold Fe;rw [jX,List.getElem_range,hq]);clear hq M b4;go_wp2_with fail;refine HS.mono ?_;rintro e w9 ⟨rfl,g9⟩;have ds:=zh (dk.grew g9);have d0:=zh (L.out.trans g9);have gc:w7.heap.size<=w9.heap.size:=d0.size;have N:(((Fe l).take k).map OZ).length=k:=by rw [fm,iX,S.out];omega
     clear g9 y0 y1 y2 y3 y4 yl;go_wp2_with (at_builtin;refine BZ rfl _ _ 38 rfl w7.heap.size 3 1 8 (.int .i64 0) Tryz.underlying38 RT rfl qd (w9.alloc (.cells #[.int .i64 q] 3)) u11 (((Fe l).take k).map OZ) (OZ q) rfl (by first | rfl | (simp;done)) (ds.alloc _) w9.heap.size (by first | rfl | (simp;done)) (fy _ _ _ rfl) rfl (by rw [N];omega) (by rw [N];omega) (by simp;omega) k N ?_);intro gp cm wp ek el _ _
     have gd:=zh (show OwnL wp w7.heap.size 3 1 (.slice (some ⟨gp,0,none⟩) (k+1) cm) (((Fe l).take (k+1)).map OZ) from by
      rw [fr (by rw [S.out];exact ci),fz,HQ.out,List.map_singleton,map_take]
      exact ek)
     have ge:=zh (Grew.own (d0.alloc (.cells #[.int .i64 q] 3)) el (λg e=>(ds.own_ge e).1) (fk _));clear ek el;go_wp2_with fail
     go_roundg (nz - (k+1))
     case measure=>rw [b3.out];omega
     case rel=>exact ⟨k+1,oo,rfl,by go_num,gd,ge⟩
   . obtain rfl:k=nz:=oo
     have HU:=zh (show OwnL wr w7.heap.size 3 1 u11 ((Fe l).map OZ) from by
      have:=dk.out
      rw [gP (Nat.le_of_eq S.out)] at this
      exact this)
     have d1:=zh (b2.out.trans L);obtain ⟨o8,P⟩:∃o8,o8=(λq=>o1 q\/(w1.heap.size<=q/\q<wr.heap.size)):=⟨_,rfl⟩;have aj:=zh (HD.more d1);rw [<-P] at aj;obtain ⟨Au,cu,hu,_,_,e9⟩:=HU.listAt;rw [fm] at hu;subst hu
     have d2:Fe l≠[]->ED w0 o8 Au:=λ_ b' off' e=>.inr (by
      have h1:=HU.own_ge (g:=b') (by rw [e];rfl)
      have h2:=b2.size
      rw [P]
      exact .inr ⟨fx h2 h1.1,h1.2⟩)
     obtain ⟨⟨E2,ss,e2⟩,bn⟩:∃r,CQ E sy ep (Fe l)=r:=⟨_,rfl⟩;have hl:=NB E sy ep (Fe l)
     have gf:=zh (Ic aj.held.held (cz trivial).1 (by have:=(cz trivial).2;omega) (Fe l) (λi hi=>by
      unfold Fe at hi
      obtain ⟨j,_,rfl⟩:=ft.1 hi
      exact LF (l:=l.ext) (i:=(j:Int)) (ok:=(AN l.ext (j:Int)).2) rfl) (by rw [S.out];omega) Au cu e9 d2 E2 ss e2 bn)
     rw [bn] at hr;simp only at hr;have b5:=zh bn;obtain ⟨sv,Tv,tv,bo,_⟩:=aj.held.vol;unfold GD at bo;have v0:=bo.cell 0;have vl:=bo.lt;clear ci e9 d2 bn bo b4;go_wp2_with fail;refine gf.mono ?_;rintro e w9 ⟨vs,lo,rfl,an,G⟩;clear v0 vl;have b6:=zh (aj.out.trans (aj.held.back an));have gg:W.heap.size+1<=w1.heap.size:=by have:=HD.turned.size;simpa using this
     have gh:=R.size;have b9:=(df.grew (a4.out.trans L)).lt;have a5:=zh (((df.grew a4).grew L).turned an.turned (λh9=>h9.elim (λh8=>h8.2 (by rw [P];exact .inr ⟨by have:=a3.out;omega,b9⟩)) (λh8=>by have:=a3.out;have:=F.1;omega)));have gi:=zh (((a1.grew (b2.out.trans L)).turned an.turned (λh9=>h9.elim (λh8=>h8.2 (by rw [P];exact .inl (HD.sub _ (.inr ⟨fk _,qs⟩)))) (λh8=>by have:=F.1;omega))));have d3:=zh (show W.heap.size+1<=p/\p<w9.heap.size/\w1.heap.size<=w9.heap.size from ⟨by have:=a3.out;omega,a5.out.lt,fx d1.size an.turned.size⟩);have ca:=zh (show ∀q,o8 q->up o8 lo w9 q from λq=>.inl);have d4:=zh (show o8 p/\o8 W.heap.size from ⟨by rw [P];exact .inr ⟨by have:=a3.out;omega,b9⟩,by rw [P];exact .inl (HD.sub _ (.inr ⟨fk _,qs⟩))⟩);obtain ⟨o9,fa⟩:∃o9,o9=up o8 lo w9:=⟨_,rfl⟩;rw [<-fa] at b6 ca;have gj:=zh G;clear gg gh b9 an G P fa;by_cases H:e2=0;rotate_left
     . rw [if_pos H] at hr;injection hr with h1 hr;injection hr with h2 h3;subst h1;subst h2;subst h3;have Y:(e2 != 0)=true:=by rw [gu];exact H
       clear H;go_wp2_with fail;go_ret2;exact ⟨rfl,_,VDid.after2 I b6⟩
     subst H;rw [if_neg qs] at hr;have a6:=Oo E sy ep (Fe l) (by rw [b5.out]);rw [b5.out] at a6;simp only at a6;obtain ⟨As,cs,fb,_,_,fi⟩:=(gj rfl).listAt;rw [fm] at fb;subst fb;have gl:=zh fi;have cb:=zh (a6.trans S);clear a6 fi;go_wp2_with fail
     go_loopg [16,77] ss.length (λgk u i wr=>∃k:Nat,k<=ss.length/\gk=ss.length - k/\i=.int .i64 (k:Int)/\OwnL wr w9.heap.size 65 2 u ((DS a (ss.take k)).map BB)/\Grew w9 wr)
     case atStart=>exact ⟨0,oo,oo,rfl,OwnL.nil _ _ _ _,fh w9⟩
     case round=>
      obtain ⟨k,hk,av,rfl,G,hg⟩:=hrel;have b3:=zh av;have cc:=zh G;have C:=zh hg;clear av G hg;by_cases cj:k<ss.length
      . have gb:(k:Int)<(ss.length:Int):=oo;have z0:=(a5.grew C).cell 0;have zl:=(a5.grew C).lt;have d5:=gl.keep (fk _) C;obtain ⟨bs,os,rfl,bl,X⟩:=d5 (by rw [fm];omega);obtain ⟨sk,co⟩:∃sk,ss[k]=sk:=⟨_,rfl⟩;have gn:=zh co;have hx:=X k [.string sk] (by rw [fo,fg cj,co];rfl) 0 (.string sk) rfl;simp only [Nat.mul_one,ik] at hx;have hm:bs<wr.heap.size:=fw bl C.size;obtain ⟨h4,h5,_,_⟩:=ae.out;have go:=cb.out;have ho:IntKind.i64.wrap (a*8)=a*8:=gy _ oo;have hs:IntKind.i64.wrap (a*8+(k:Int))=a*8+(k:Int):=gy _ oo;have gc:w9.heap.size<=wr.heap.size:=C.size;have N:((DS a (ss.take k)).map BB).length=k:=by rw [fm,Nd,iX];omega
        have hv:k<=1024:=oo;clear co X d5 bl go;go_wp2_with (at_builtin;refine BZ rfl _ _ 24 rfl w9.heap.size 65 2 24 _ Tryz.underlying24 KF rfl qd (wr.alloc (.cells #[.int .i64 (a*8+(k:Int)),.string sk] 65)) u16 ((DS a (ss.take k)).map BB) (BB (a*8+(k:Int),sk)) rfl (by first | rfl | (simp;done)) (cc.alloc _) wr.heap.size (by first | rfl | (simp;done)) (fy _ _ _ rfl) rfl (by rw [N];omega) (by rw [N];omega) (by simp;omega) k N ?_);intro gq cm wq em eq _ _
        have gr:=zh (show OwnL wq w9.heap.size 65 2 (.slice (some ⟨gq,0,none⟩) (k+1) cm) ((DS a (ss.take (k+1))).map BB) from by
         rw [WR a ss k cj,fz,gn.out,List.map_singleton]
         exact em)
        have gs:=zh (Grew.own (C.alloc (.cells #[.int .i64 (a*8+(k:Int)),.string sk] 65)) eq (λg e=>(cc.own_ge e).1) (fk _));clear em eq z0 zl hx;go_wp2_with fail
        go_roundg (ss.length - (k+1))
        case measure=>rw [b3.out];omega
        case rel=>exact ⟨k+1,oo,rfl,by go_num,gr,gs⟩
      . obtain rfl:k=ss.length:=oo
        have d6:=zh (show OwnL wr w9.heap.size 65 2 u16 ((DS a ss).map BB) from by
         have:=cc.out
         rw [gP (fk _)] at this
         exact this)
        obtain ⟨a0,br⟩:∃a0,a0=(λq=>o9 q\/(w9.heap.size<=q/\q<wr.heap.size)):=⟨_,rfl⟩;have ce:=zh (b6.more C);rw [<-br] at ce;obtain ⟨Aw,cw,fj,cp,fl,fn⟩:=d6.listAt;rw [fm] at fj cp;subst fj
        have d7:DS a ss≠[]->∀b' off',Aw=some ⟨b',off',none⟩->Far w0 a0 m v b':=λ_ b' off' e=>by
         have h1:=d6.own_ge (g:=b') (by rw [e];rfl);have h2:=d3.out;have h3:=F.out;exact ⟨.inr (by rw [br];exact .inr h1),oo,oo⟩
        obtain ⟨⟨E3,e3⟩,bt⟩:∃r,Ky E2 sy ep (DS a ss)=r:=⟨_,rfl⟩;obtain ⟨fs,fu⟩:=f2.out l a b E2 ss trivial c6 ad b5;have gt:=zh (Q6 ce.held (DS a ss) (by rw [Nd,cb.out];omega) fs (dY ⟨ae.1,ae.2.1⟩ (by rw [cb.out];exact f9)) Aw cw fn d7 ⟨cp,fl⟩ E3 e3 bt);rw [bt] at hr;simp only at hr;have gv:=zh (fu E3);have gx:=zh bt;have a7:=zh (show a0 p/\a0 W.heap.size from by rw [br];exact ⟨.inl (ca _ d4.1),.inl (ca _ d4.2)⟩);have ea:=(gi.grew C);have gz:=zh ea;clear cj br fn d7 bt fs fu ea cp fl;go_wp2_with fail;refine gt.mono ?_;rintro e hw ⟨rfl,es,V⟩;have ch:=zh (ce.out.trans V);have eb:=d3.out;have g0:=F.out
        have al:=gz.turned V.turned (λh9=>by
         rcases h9 with h9 | h9 | h9
         . exact h9.2 a7.2
         . omega
         . omega)
        have ec:=(a5.grew C).turned V.turned (λh9=>by
         rcases h9 with h9 | h9 | h9
         . exact h9.2 a7.1
         . omega
         . omega)
        have ee:=zh (show es p/\es W.heap.size from ⟨V.sub _ a7.1,V.sub _ a7.2⟩);have g1:=zh al;have g3:=zh ec;have r0:=al.cell 0;have r1:=al.cell 1;have rl:=al.lt;have g8:=zh (show W.heap.size+1<=p from eb.1);clear V eb g0 al ec;by_cases a8:e3=0;rotate_left
        . rw [if_pos a8] at hr;injection hr with h1 hr;injection hr with h2 h3;subst h1;subst h2;subst h3;have Y:(e3 != 0)=true:=by rw [gu];exact a8
          clear a8;go_wp2_with fail;go_ret2;exact ⟨rfl,_,VDid.after2 I ch⟩
        subst a8;rw [if_neg qs] at hr;obtain ⟨⟨E4,e4⟩,cq⟩:∃r,chP E3 sy ep n id unit [] (λT=>Bg T id unit (GZ T [(a,b)]))=r:=⟨_,rfl⟩;rw [cq] at hr;simp only at hr;obtain ⟨cr,fv⟩:=gv.out gx
        have ha:=zh (DZ ch.held cr.1 cr.2 hn id unit fv [] qs (λe he=>by cases he) none 0 (λh9=>absurd h9 qs) (λY=>absurd rfl Y) (λT=>Bg T id unit (GZ T [(a,b)])) _ (eP id unit a b W.heap.size p)
         (λw' ht=>⟨g1.turned ht (λh9=>by
           have:=F.out
           rcases h9 with h9 | h9 | h9
           . exact h9.2 ee.2
           . omega
           . omega),g3.turned ht (λh9=>by
           have:=F.out
           have:=g8.out
           rcases h9 with h9 | h9 | h9
           . exact h9.2 ee.1
           . omega
           . omega)⟩)
         (λT h1 h2=>⟨fG T (Bd (GL h1 h2)) id unit a b ae.2.2.1 ae.2.2.2 W.heap.size p,λh3=>by
           obtain ⟨⟨U,e5⟩,hu⟩:∃r,Bg T id unit (GZ T [(a,b)])=r:=⟨_,rfl⟩
           simp only [hu] at h3 ⊢
           subst h3
           exact Bd (Gd T U id unit [(a,b)] hu).good⟩) E4 e4 cq)
        clear cr fv cq;go_wp2_with fail;refine ha.mono ?_;rintro e hy ⟨rfl,hz,et⟩;have eg:=zh (ch.out.trans et);clear et r0 r1 rl;by_cases a9:e4=0;rotate_left
        . rw [if_pos a9] at hr;injection hr with h1 hr;injection hr with h2 h3;subst h1;subst h2;subst h3;have Y:(e4 != 0)=true:=by rw [gu];exact a9
          clear a9;go_wp2_with fail;go_ret2;exact ⟨rfl,_,VDid.after2 I eg⟩
        subst a9;rw [if_neg qs] at hr;injection hr with h1 hr;injection hr with h2 h3;subst h1;subst h2;subst h3;go_wp2_with fail;go_ret2;exact ⟨rfl,_,VDid.after2 I eg⟩
end

structure OpT where
 kind:Nat
 sys:Nat
 on:Opr
 ws:List (Int × ByteArray)
 sec:Int
 size:Int
 raw:OpD
 X:Option Addr
 cx:Nat
 B:Option Addr
 cb:Nat
def Ux (o:OpT):Array Value:=#[.int .u8 (o.kind:Int),.int .u8 (o.sys:Int),.int .u8 (o.on.kind:Int),.int .i64 o.on.id,.int .i64 o.on.unit,.string o.on.name,.string o.on.note,.int .i64 o.on.n,.slice o.X o.on.ext.length o.cx,.slice o.B o.ws.length o.cb,.int .i64 o.sec,.int .i64 o.size,.int .u8 (o.raw.kind:Int),.int .i64 o.raw.sys,.int .i64 o.raw.ep,.int .i64 o.raw.sec,.string o.raw.data,.int .i64 o.raw.n,.int .u8 (o.raw.mask.toNat:Int),.slice o.raw.A o.raw.sv.length o.raw.c]
structure OpTOk (w:World) (o:OpT):Prop where
 kind:o.kind<256
 on:OprAt w o.X o.on
 at_:ListAt w w.heap.size 2 o.B (o.ws.map BB)
 len:o.ws.length<=1000
 ok:∀e∈o.ws,okI e.1
 size:∀e∈o.ws,e.2.size<=1000000
noncomputable def stP (D:Dev) (sy ep n:Int) (o:OpT):Dev × Int:=
 if (o.kind:Int) % 4=1 then wrP D sy ep n o.on.id o.on.unit (Dn 8 6 o.ws)
 else if (o.kind:Int) % 4=3 then ((Ts D sy ep n o.on.id o.on.unit).1,(Ts D sy ep n o.on.id o.on.unit).2.2)
 else if (o.on.kind:Int) % 7=0 then chP D sy ep n o.on.id o.on.unit (Dn 8 6 o.ws) (λT=>Bw T o.on.id o.on.unit o.on.name o.on.note o.on.n)
 else if (o.on.kind:Int) % 7=1 then chP D sy ep n o.on.id o.on.unit [] (λT=>Bg T o.on.id o.on.unit (Gy T o.on.n))
 else if (o.on.kind:Int) % 7=2 then chP D sy ep n o.on.id o.on.unit [] (λT=>Bg T o.on.id o.on.unit (Gu T o.on.n))
 else if (o.on.kind:Int) % 7=3\/(o.on.kind:Int) % 7=4 then chP D sy ep n o.on.id 0 (Dn 8 6 o.ws) (λT=>Bg T o.on.id o.on.unit (IE T o.on.id o.on.note))
 else if (o.on.kind:Int) % 7=5 then chP D sy ep n o.on.id o.on.unit (Dn 8 6 o.ws) (λT=>Bg T o.on.id o.on.unit (Eu T o.on.note))
 else chP D sy ep n o.on.id o.on.unit [] (λT=>Bg T o.on.id o.on.unit (JU T))
section
variable {w0:World} {x s m v:Nat} {n sy ep:Int} {D:Dev} {out:Nat->Prop} {W:World} (h:VHeld w0 x s m v n sy ep D out W) (hL:Kf D) (hn:okT n=true)
include h hL hn
theorem Rr (o:OpT) (ho:OpTOk W o) (H1:∀E,(DP D sy ep n o.on.id o.on.unit).1=E->(DP D sy ep n o.on.id o.on.unit).2.2=0->CR x s m sy ep E) (H2:∀E,(B9 D sy ep n).1=E->(B9 D sy ep n).2.2=0->CR x s m sy ep E)
 (HE:∀E T f,B9 D sy ep n=(E,T,f)->f=0->Kf E)
 (O:∀E T l a b E2 ss,B9 D sy ep n=(E,T,0)->Ba T o.on.id o.on.unit=(l,true)->Li l.ext (Ce T)=((a,b),true)->CQ E sy ep (Fe l)=(E2,ss,0)->
   (∀k,64*k<(DS a ss).length->(De E2 sy ep (DS a ss) k).2=0->CR x s m sy ep (De E2 sy ep (DS a ss) k).1)/\
   ∀E3,Ky E2 sy ep (DS a ss)=(E3,0)->Kf E3/\∀E,(B9 E3 sy ep n).1=E->(B9 E3 sy ep n).2.2=0->CR x s m sy ep E)
 (D':Dev) (er:Int) (hr:stP D sy ep n o=(D',er)):
 Calls Tryz.prog 10 #[ptrV v,.agg (Ux o)] W λe w'=>e=.returned (.int .i64 er)/\∃out',VDid w0 x s m v n sy ep D' out W out' w':=by
 have P:Grew W (W.alloc (.cells (Ux o) 42)):=(fh W).alloc _;have p:=zh (fy W 42 (Ux o) rfl);have j:=zh (Sh o.ws o.B o.cb 8 6 ⟨oo,oo⟩ oo _ (AO ho.at_ P) (by have:=ho.len;omega) ho.ok ho.size);have Q:=P8 (n:=8) (most:=6) oo o.ws;obtain ⟨L,Y⟩:∃L,Dn 8 6 o.ws=L:=⟨_,rfl⟩;have hk:=ho.kind;have ad:=ho.on.kind;have S:=ho.on.name;have q:=ho.on.note;have t:okI o.on.n:=⟨ho.on.n0,ho.on.n1⟩;unfold stP at hr;rw [Y] at hr Q j;have w:=zh P;have HH:=zh h;clear P ho Y
 obtain ⟨⟨an,id,unit,nm,nt,kn,ex⟩,kind,F,ws,X,cx,B,cb,sec,size,G,H,I,J,K,rn,M,RA,rc,N,ho⟩:∃(on:Opr) (kind F:Nat) (ws:List (Int × ByteArray)) (X:Option Addr) (cx:Nat) (B:Option Addr) (cb:Nat) (sec size:Int) (G:Nat) (H I J:Int) (K:ByteArray) (rn:Int) (M:UInt8) (RA:Option Addr) (rc:Nat) (N:List Int),o=⟨kind,F,on,ws,sec,size,⟨G,H,I,J,K,rn,M,RA,rc,N⟩,X,cx,B,cb⟩:=by
  obtain ⟨kind,F,on,ws,sec,size,⟨G,H,I,J,K,rn,M,RA,rc,N⟩,X,cx,B,cb⟩:=o;exact ⟨on,kind,F,ws,X,cx,B,cb,sec,size,G,H,I,J,K,rn,M,RA,rc,N,rfl⟩
 subst ho;unfold Ux at p w j ⊢;simp only at hr hk ad S q t H1 O p w j ⊢;obtain ⟨r4,av⟩:∃r4:Int,(kind:Int) % 4=r4:=⟨_,rfl⟩;obtain ⟨r7,a0⟩:∃r7:Int,(an:Int) % 7=r7:=⟨_,rfl⟩;rw [av,a0] at hr;have ae:=zh H1;have i:=zh H2;have aj:=zh HE;have al:=zh O;have U:=zh Q;clear H1 H2 HE O Q h;go_enter Tryz.func10,Tryz.ntmps10;go_wp2_with fail;refine j.mono ?_;rintro e w1 ⟨u,rfl,R,g1⟩;have c:=zh (w.out.trans g1);have d:=p.grew g1;have z0:=d.cell 0;have z2:=d.cell 2;have z3:=d.cell 3;have z4:=d.cell 4;have z5:=d.cell 5;have z6:=d.cell 6;have z7:=d.cell 7;have zl:=d.lt;have HM:=zh (HH.more c);obtain ⟨Au,cu,hu,_,_,Z⟩:=R.listAt;rw [fm] at hu;subst hu
 have V:L≠[]->∀b' off',Au=some ⟨b',off',none⟩->Far w0 (λk=>out k\/(W.heap.size<=k/\k<w1.heap.size)) m v b':=λ_ b' off' e=>by
  have h1:=R.own_ge (g:=b') (by rw [e];rfl);have h2:=w.size;have h3:=HH.held.store.lt.2;have h4:=HH.vol.lt;exact ⟨.inr (.inr ⟨fx h2 h1.1,h1.2⟩),oo,oo⟩
 have y:=zh Z;have z:=zh V;clear R g1 d Z V p j;have A:=zh (show L.length<=900000 from by have:=U.len;omega);have C:=zh (show ∀e∈L,okI e.1 from λe he=>by have:=U.all e he;unfold okI;omega);by_cases e1:r4=1
 . rw [if_pos e1] at hr;subst e1;have HC:=zh (NA HM hL.1 hL.2 hn id unit ae L (fx A oo) C Au cu y z D' er hr);clear hr;go_wp2_with fail;refine HC.mono ?_;rintro e w2 ⟨rfl,o2,hd⟩;have HD:=zh (VDid.after2 c hd);clear hd z0 z2 z3 z4 z5 z6 z7 zl;go_wp2_with fail;go_ret;exact ⟨rfl,_,HD⟩
 rw [if_neg e1] at hr;by_cases e3:r4=3
 . rw [if_pos e3] at hr;subst e3;obtain ⟨⟨Dc,a1,ec⟩,aa⟩:∃r,Ts D sy ep n id unit=r:=⟨_,rfl⟩;rw [aa] at hr;injection hr with h1 h2;simp only at h1 h2;subst h1;subst h2;have hr:=True.intro;have HC:=zh (Sb HM hL hn id unit aj al _ a1 _ aa);clear hr;go_wp2_with fail;refine HC.mono ?_;rintro e w2 ⟨rfl,o2,hd⟩;have HD:=zh (VDid.after2 c hd);clear hd z0 z2 z3 z4 z5 z6 z7 zl;go_wp2_with fail;go_ret;exact ⟨rfl,_,HD⟩
 rw [if_neg e3] at hr;by_cases f0:r7=0
 . rw [if_pos f0] at hr;subst f0;have HC:=zh (MA HM hL.1 hL.2 hn i id unit nm nt S q kn t L A C Au cu y z D' er hr);clear hr;go_wp2_with fail;refine HC.mono ?_;rintro e w2 ⟨rfl,o2,hd⟩;have HD:=zh (VDid.after2 c hd);clear hd z0 z2 z3 z4 z5 z6 z7 zl;go_wp2_with fail;go_ret;exact ⟨rfl,_,HD⟩
 rw [if_neg f0] at hr;by_cases f1:r7=1
 . rw [if_pos f1] at hr;subst f1;have HC:=zh (Sq HM hL.1 hL.2 hn i id unit kn t D' er hr);clear hr;go_wp2_with fail;refine HC.mono ?_;rintro e w2 ⟨rfl,o2,hd⟩;have HD:=zh (VDid.after2 c hd);clear hd z0 z2 z3 z4 z5 z6 z7 zl;go_wp2_with fail;go_ret;exact ⟨rfl,_,HD⟩
 rw [if_neg f1] at hr;by_cases f2:r7=2
 . rw [if_pos f2] at hr;subst f2;have HC:=zh (Qb HM hL.1 hL.2 hn i id unit kn t D' er hr);clear hr;go_wp2_with fail;refine HC.mono ?_;rintro e w2 ⟨rfl,o2,hd⟩;have HD:=zh (VDid.after2 c hd);clear hd z0 z2 z3 z4 z5 z6 z7 zl;go_wp2_with fail;go_ret;exact ⟨rfl,_,HD⟩
 rw [if_neg f2] at hr;by_cases f3:r7=3\/r7=4
 . rw [if_pos f3] at hr;rcases f3 with f3 | f3<;>subst f3
   all_goals
    have HC:=zh (Qk HM hL.1 hL.2 hn i id unit nt q L A C Au cu y z D' er hr);clear hr;go_wp2_with fail;refine HC.mono ?_;rintro e w2 ⟨rfl,o2,hd⟩;have HD:=zh (VDid.after2 c hd);clear hd z0 z2 z3 z4 z5 z6 z7 zl;go_wp2_with fail;go_ret;exact ⟨rfl,_,HD⟩
 rw [if_neg f3] at hr;by_cases f5:r7=5
 . rw [if_pos f5] at hr;subst f5;have HC:=zh (XR HM hL.1 hL.2 hn i id unit nt q L A C Au cu y z D' er hr);clear hr;go_wp2_with fail;refine HC.mono ?_;rintro e w2 ⟨rfl,o2,hd⟩;have HD:=zh (VDid.after2 c hd);clear hd z0 z2 z3 z4 z5 z6 z7 zl;go_wp2_with fail;go_ret;exact ⟨rfl,_,HD⟩
 rw [if_neg f5] at hr;have f6:r7=6:=oo;subst f6;have HC:=zh (Sk HM hL.1 hL.2 hn i id unit D' er hr);clear hr;go_wp2_with fail;refine HC.mono ?_;rintro e w2 ⟨rfl,o2,hd⟩;have HD:=zh (VDid.after2 c hd);clear hd z0 z2 z3 z4 z5 z6 z7 zl;go_wp2_with fail;go_ret;exact ⟨rfl,_,HD⟩
end

end
section
open Go.RowKit
structure VGood (D:Dev) (I:Img) (T:Tab) (n:Nat):Prop where
 hist:Hist D I
 neat:Neat D I
 size:I.n=8*n
 tr:T.tracks=(n:Int)
 good:GoodT T
 tab:∀i (h:i<(AP T).length),I.cs i=(AP T)[i]
theorem VGood.okn {D:Dev} {I:Img} {T:Tab} {n:Nat} (h:VGood D I T n):okT (n:Int)=true:=by rw [<-h.tr];exact h.good.tr
theorem Cn {T:Tab} (h:GoodT T):(AP T).length=8*(ttS T.tracks).toNat/\∀x∈AP T,x.size=128:=by
 have h1:=Dd T ((AX T).2 h) _ rfl;have h2:=h.len;have h3:=DQ T.tracks
 have h4:1<=ttS T.tracks:=by
  obtain ⟨h5,h6⟩:=B0 h.tr;unfold ttS;rw [if_pos h.tr];omega
 unfold CT at h2;exact ⟨by rw [h1.1];omega,h1.2.1⟩
theorem VGood.len {D:Dev} {I:Img} {T:Tab} {n:Nat} (h:VGood D I T n):D.st.length=131+8*n:=by rw [h.neat.clean.len,h.size]
theorem VGood.tabs {D:Dev} {I:Img} {T:Tab} {n:Nat} (h:VGood D I T n):(AP T).length=(tsI n).length/\(AP T).length<=8*n:=by
 have h1:=(Cn h.good).1;have h2:=DQ (n:Int);rw [h.tr] at h1;obtain ⟨h3,h4⟩:=B0 h.okn;have h5:ttS (n:Int)<=(n:Int):=by unfold ttS;rw [if_pos h.okn];omega
 rw [Km,h1];exact ⟨rfl,oo⟩
theorem L3 {D:Dev} {I:Img} (h:Clean D I) (sy ep:Int) (l:List Int) (hl:∀i∈l,0<=i/\i<(I.n:Int)):CQ D sy ep l=(D,l.map (λi=>I.cs i.toNat),0):=by
 have hn:(D.st.length:Int) - 131=(I.n:Int):=by rw [h.len];omega
 have a:∀k:List Int,(∀i∈k,0<=i/\i<(I.n:Int))->BM D (I.n:Int) k=0:=by
  intro k
  induction k with
  | nil=>intro _;rfl
  | cons i k ih=>
    intro hk;obtain ⟨h1,h2⟩:=hk i (gS ..);unfold BM;rw [if_neg oo,h.toHolds.look i.toNat oo,if_neg qs];exact ih λj hj=>hk j (gM _ hj)
 unfold CQ;rw [Eq h,if_neg qs];simp only;rw [hn,a l hl,if_pos rfl]
 have:EF D l=l.map (λi=>I.cs i.toNat):=by
  unfold EF;apply iE;intro i hi;obtain ⟨h1,h2⟩:=hl i hi;rw [h.toHolds.look i.toNat oo]
 rw [this]
theorem VGood.table {D:Dev} {I:Img} {T:Tab} {n:Nat} (h:VGood D I T n) (sy ep:Int):B9 D sy ep n=(D,T,0):=by
 obtain ⟨h1,h2⟩:=h.tabs;have a:=h.size
 have hr:CQ D sy ep (tsI n)=(D,AP T,0):=by
  rw [L3 h.neat.clean sy ep (tsI n) (λi hi=>by
   unfold tsI IB at hi
   obtain ⟨j,hj,rfl⟩:=ft.1 hi
   have:=gU.1 hj
   rw [Km] at h1
   omega)]
  congr 2;apply jY
  . rw [fm,h1]
  . intro i h3 h4;rw [jX];unfold tsI IB;rw [jX,List.getElem_range,gQ];exact h.tab i h4
 unfold B9;rw [hr,Qs ⟨(AX T).2 h.good,rfl⟩ h.tr]
theorem I7 {I:Img} {ws:List (Int × ByteArray)} (i:Nat) (hi:i<I.n):(I.next ws).cs i=(JN ws i).getD (I.cs i):=by
 unfold Img.next;split
 . rename_i h;subst h;rfl
 . show (Ad (B3 I.n ws) i).getD (I.cs i)=_;rw [Ug I.n ws i hi]
theorem EN {D:Dev} {I:Img} (hh:Hist D I) (hn:Neat D I) {sy:Int} (hs:1<=sy/\sy<=4) (ws:List (Int × ByteArray)) (hN:I.N<1000):
 (Ak D sy 0 ws).2=AU I.n ws/\(AU I.n ws≠0->(Ak D sy 0 ws).1=D)/\(AU I.n ws=0->Hist (Ak D sy 0 ws).1 (I.next ws)/\Neat (Ak D sy 0 ws).1 (I.next ws)):=by
 obtain ⟨h1,h2⟩:=Dy hn.clean (hn.calm hs) hn.fuse ws oo;refine ⟨?_,λh0=>by rw [h1 (.inl h0)],λh0=>X7 hh hn hs ws h0 hN⟩;by_cases h0:AU I.n ws=0
 . by_cases a:ws=[]
   . rw [h1 (.inr a)]
   . obtain ⟨E,hE,_⟩:=h2 h0 a;rw [hE,h0]
 . rw [h1 (.inl h0)]
theorem Gl {D:Dev} {I:Img} (hn:Neat D I) (hN:I.N<1000) {x s m:Nat} {sy:Int} (hs:1<=sy/\sy<=4):CR x s m sy 0 D:=by
 intro w0 f W h ws hl b A c d hA;refine (TB h hs hn hN ws hl b A c d hA).mono ?_;rintro e w' ⟨he,D',hd,_,hD⟩
 have h2:(Ak D sy 0 ws).2=AU I.n ws:=by
  obtain ⟨h1,h2⟩:=Dy hn.clean (hn.calm hs) hn.fuse ws oo;by_cases h0:AU I.n ws=0
  . by_cases a:ws=[]
    . rw [h1 (.inr a)]
    . obtain ⟨E,hE,_⟩:=h2 h0 a;rw [hE,h0]
  . rw [h1 (.inl h0)]
 rw [h2,<-hD];exact ⟨he,hd⟩
theorem Fl {T:Tab} (hg:GoodT T) (id a:Int) (i:Nat) (hi:i∈BP (Ba T id a).1.ext):ttS T.tracks<=(i:Int)/\(i:Int)<T.tracks:=by
 rcases Fw T id a with ⟨k,hk,_,h2,h3⟩ | ⟨_,h2,_⟩
 . rw [h2] at hi;have hv:=(Gz T hg id a k hk h3).2;exact (GI _ _ hv).2.2.1 i hi
 . rw [h2] at hi;cases hi
theorem Fv {l:Lab} {s q:Int} (h:AN l.ext s=(q,true)):∃k:Nat,k∈BP l.ext/\q=(k:Int)*8+s % 8/\0<=s:=by
 rcases Int.lt_or_le s 0 with h9 | h9
 . rw [Ik l.ext s h9] at h;cases h
 . rcases E9 l.ext s h9 with ⟨_,h2⟩ | ⟨k,h1,_,_,h4,h5⟩
   . rw [h2] at h;cases h
   . rw [h5] at h;injection h with h _;exact ⟨k,ip h4,h.symm,h9⟩
theorem PQ {l:Lab} {ws:List (Int × ByteArray)} (e:Int × ByteArray) (he:e∈(AQ l ws).1):e.2.size=128/\∃a∈ws,a.2=e.2/\AN l.ext a.1=(e.1,true):=by
 unfold AQ at he;split at he
 . cases he
 rename_i h1;split at he
 . cases he
 rename_i h2;obtain ⟨a,ha,rfl⟩:=ft.1 he;simp only [not_or,iL] at h1
 have h3:a.2.size=128:=by
  rw [ie,iK] at h1;simpa using h1.1 a ha
 have h4:(AN l.ext a.1).2=true:=by
  rw [ie,iK] at h2;simpa using h2 a ha
 exact ⟨h3,a,ha,rfl,by rw [<-h4]⟩
theorem G9 {ws:List (Int × ByteArray)} {i:Nat} (h:∀e∈ws,e.1≠(i:Int)):JN ws i=none:=by
 unfold JN;rw [List.find?_eq_none.2 (λe he=>by simpa using h e he)];rfl
theorem V0 (a b:List (Int × ByteArray)) (i:Nat):JN (a++b) i=(JN a i).or (JN b i):=by
 unfold JN;rw [List.find?_append];cases a.find? (λx=>x.1==(i:Int)) with
 | none=>simp
 | some v=>simp
theorem RQ (T U:Tab) (hl:(AP T).length=(AP U).length) (ht:T.tracks=U.tracks) (i:Nat):JN (Bq T U) i=if h:i<(AP U).length then (if (AP T)[i]'oo=(AP U)[i] then none else some (AP U)[i]) else none:=by
 unfold Bq;rw [if_pos ⟨hl,ht⟩];by_cases h:i<(AP U).length
 . rw [dif_pos h];have hT:i<(AP T).length:=oo;have e1:(AP T).getD i ⟨#[]⟩=(AP T)[i]:=by rw [gH,fg hT];rfl
   have e2:(AP U).getD i ⟨#[]⟩=(AP U)[i]:=by rw [gH,fg h];rfl
   by_cases hq:(AP T)[i]=(AP U)[i]
   . rw [if_pos hq];refine G9 λe he=>?_;unfold Co at he;obtain ⟨j,hj,rfl⟩:=ft.1 he;have h1:=(iM.1 hj).2;intro h2;have h3:j=i:=by simp only at h2;omega
     subst h3;rw [e1,e2,hq] at h1;simp at h1
   . rw [if_neg hq];unfold JN
     have hm:((i:Int),(AP U)[i])∈Co (AP T) (AP U) (AP T).length:=by
      unfold Co;exact ft.2 ⟨i,iM.2 ⟨gU.2 hT,by rw [e1,e2];simpa using hq⟩,by rw [e2]⟩
     have c:((Co (AP T) (AP U) (AP T).length).map (·.1)).Nodup:=by
      unfold Co;rw [iq,Nodup,jL];exact (nodup_range.filter _).imp (λ{a b} hab he=>hab (by simp only [Function.comp] at he;omega))
     rw [EJ c _ hm];rfl
 . rw [dif_neg h];refine G9 λe he=>?_;unfold Co at he;obtain ⟨j,hj,rfl⟩:=ft.1 he;have h1:=gU.1 (iM.1 hj).1;simp only;omega
theorem LG {T U:Tab} (hT:GoodT T) (hU:GoodT U) (h:U.tracks=T.tracks):(AP T).length=(AP U).length:=by rw [(Cn hT).1,(Cn hU).1,h]
theorem Gp {U:Tab} (hU:GoodT U) (id b:Int) (ws:List (Int × ByteArray)):∀e∈(AQ (Ba U id b).1 ws).1,((AP U).length:Int)<=e.1/\e.1<8*U.tracks:=by
 intro e he;obtain ⟨_,a,_,_,h3⟩:=PQ e he;obtain ⟨k,hk,hq,h0⟩:=Fv h3;have h4:=Fl hU id b k hk;have h5:=DQ U.tracks;rw [(Cn hU).1];omega
theorem Io {D:Dev} {I:Img} {T U:Tab} {n:Nat} (h:VGood D I T n) (hU:GoodT U) (ht:U.tracks=T.tracks) {sy:Int} (hs:1<=sy/\sy<=4) (ps:List (Int × ByteArray)) (a:∀e∈ps,((AP U).length:Int)<=e.1) (hN:I.N<1000) (h0:AU I.n (Bq T U++ps)=0):
 VGood (Ak D sy 0 (Bq T U++ps)).1 (I.next (Bq T U++ps)) U n:=by
 obtain ⟨_,_,h3⟩:=EN h.hist h.neat hs (Bq T U++ps) hN;obtain ⟨h4,h5⟩:=h3 h0;have hl:=LG h.good hU ht;have h8:=h.tabs.2;have c:=h.size;refine ⟨h4,h5,by rw [Tn];exact h.size,by rw [ht];exact h.tr,hU,λi hi=>?_⟩;rw [I7 i oo,V0,RQ T U hl ht.symm i,dif_pos hi];have b:i<(AP T).length:=oo;by_cases hq:(AP T)[i]=(AP U)[i]
 . rw [if_pos hq,G9 (λe he=>by have:=a e he;omega)];show I.cs i=_;rw [h.tab i b,hq]
 . rw [if_neg hq];rfl
theorem JH (T:Tab):Bq T T=[]:=by
 unfold Bq;rw [if_pos ⟨rfl,rfl⟩];unfold Co;rw [map_eq_nil_iff,filter_eq_nil_iff];intro i _;simp
theorem QA {D:Dev} {I:Img} {T:Tab} {n:Nat} (h:VGood D I T n) {sy:Int} (hs:1<=sy/\sy<=4) (hN:I.N<1000) (id a:Int) (ws:List (Int × ByteArray)) (g:Tab->Tab × Int) (hg:∀U,g T=(U,0)->GoodT U/\U.tracks=T.tracks):
 (chP D sy 0 n id a ws g=(D,(chP D sy 0 n id a ws g).2)/\(chP D sy 0 n id a ws g).2≠0)\/
 ∃U,g T=(U,0)/\(AQ (Ba U id a).1 ws).2=0/\AU I.n (Bq T U++(AQ (Ba U id a).1 ws).1)=0/\(chP D sy 0 n id a ws g).2=0/\VGood (chP D sy 0 n id a ws g).1 (I.next (Bq T U++(AQ (Ba U id a).1 ws).1)) U n:=by
 have c:=h.table sy 0;unfold chP;rw [c];simp only;rw [if_neg qs];obtain ⟨⟨U,ge⟩,b⟩:∃r,g T=r:=⟨_,rfl⟩;rw [b];simp only;by_cases h1:ge=0;rotate_left
 . rw [if_pos h1];exact .inl ⟨rfl,h1⟩
 subst h1;rw [if_neg qs];obtain ⟨hU,ht⟩:=hg U b;by_cases h2:(AQ (Ba U id a).1 ws).2≠0
 . rw [if_pos h2];exact .inl ⟨rfl,h2⟩
 rw [if_neg h2];obtain ⟨c1,c2,c3⟩:=EN h.hist h.neat hs (Bq T U++(AQ (Ba U id a).1 ws).1) hN;by_cases h3:AU I.n (Bq T U++(AQ (Ba U id a).1 ws).1)=0
 . exact .inr ⟨U,rfl,iL.1 h2,h3,by rw [c1,h3],Io h hU ht hs _ (λe he=>(Gp hU id a ws e he).1) hN h3⟩
 . have hD:=c2 h3;obtain ⟨⟨E,er⟩,hE⟩:∃r,Ak D sy 0 (Bq T U++(AQ (Ba U id a).1 ws).1)=r:=⟨_,rfl⟩;rw [hE] at hD c1 ⊢;simp only at hD c1;exact .inl ⟨by rw [hD],by rw [c1];exact h3⟩
theorem VGood.label {D:Dev} {I:Img} {T:Tab} {n:Nat} (h:VGood D I T n) (sy ep id a:Int):DP D sy ep n id a=(D,if (Ba T id a).2=true then ((Ba T id a).1,0) else (BH,6)):=by
 unfold DP;rw [h.table sy ep];simp
theorem VGood.read {D:Dev} {I:Img} {T:Tab} {n:Nat} (h:VGood D I T n) (sy ep id a i:Int) (hf:(Ba T id a).2=true) (q:Int) (hq:AN (Ba T id a).1.ext i=(q,true)):rdP D sy ep n id a i=(D,I.cs q.toNat,0)/\0<=q/\q<8*n/\((AP T).length:Int)<=q:=by
 have hl:=h.label sy ep id a;rw [if_pos hf] at hl;obtain ⟨k,hk,f,h0⟩:=Fv hq;have h4:=Fl h.good id a k hk;have h5:=DQ T.tracks;have d:=h.tr;have e:=h.size;have h6:=(Cn h.good).1;have b:0<=q/\q<8*(n:Int):=oo;refine ⟨?_,b.1,b.2,by rw [h6];omega⟩;unfold rdP;rw [hl];simp only;rw [if_neg qs,hq,if_neg qs];have c:=Ri h.neat.clean sy ep h.neat.clean.len q.toNat oo;rw [show ((q.toNat:Nat):Int)=q from oo] at c;exact c
theorem cT {D:Dev} {I:Img} {T:Tab} {n:Nat} (h:VGood D I T n) {sy:Int} (hs:1<=sy/\sy<=4) (hN:I.N<1000) (id a:Int) (ws:List (Int × ByteArray)):
 ∃I',VGood (wrP D sy 0 n id a ws).1 I' T n/\I'.N<=I.N+1:=by
 have hl:=h.label sy 0 id a;unfold wrP;rw [hl];by_cases hf:(Ba T id a).2=true
 . rw [if_pos hf];simp only;rw [if_neg qs];by_cases h2:(AQ (Ba T id a).1 ws).2≠0
   . rw [if_pos h2];exact ⟨I,h,Nat.le_succ _⟩
   rw [if_neg h2];obtain ⟨c1,c2,c3⟩:=EN h.hist h.neat hs (AQ (Ba T id a).1 ws).1 hN;by_cases h3:AU I.n (AQ (Ba T id a).1 ws).1=0
   . have hg:=Io h h.good rfl hs (AQ (Ba T id a).1 ws).1 (λe he=>(Gp h.good id a ws e he).1) hN (by rw [JH];exact h3);rw [JH] at hg;exact ⟨_,hg,by rw [nil_append,LX];split<;>omega⟩
   . rw [c2 h3];exact ⟨I,h,Nat.le_succ _⟩
 . rw [if_neg hf];simp only;rw [if_pos qs];exact ⟨I,h,Nat.le_succ _⟩

end
end Go.Proofs.YtfklieeipokllaaGreat
