/- Parts of the proof (packed), 11. -/
import Derived.Test.YtfklieeipokllaaGreatCzH
namespace Go.Proofs.YtfklieeipokllaaGreat
set_option linter.all false
set_option maxRecDepth 100000
set_option maxHeartbeats 16000000
open List
section
attribute [local go_sem ↓] Go.wp_at_zero Go.wp_at_succ
open Go.RowKit
theorem TabO.drew {w:World} {base:Nat} {v:Value} {ys:List LabE} {ls:List Lab} (h:TabO w base v ys ls):TabO w.drew base v ys ls:=h.hold (gK w).drew
section
variable (w w1:World) (base g cap xo:Nat) (ys:List LabE) (T:Tab) (k:Nat) (hk:k<T.labels.length) (h:OutAt w w1 base g cap xo ys T)
include h
theorem QQ (hs:SmallT T) (ad:T.name.size<=9223372036854775807) (Z:-9223372036854775808<=T.tracks) (ae:T.tracks<=9223372036854775807) (note:ByteArray) (N:note.size<=9223372036854775807) (id unit:Int) (gn gr:Nat) (E:Blk w gn 9 #[.string note]) (D:Blk w gr 32 #[.int .i64 id,.int .i64 unit]):
 Calls Tryz.prog 160 #[.pointer (some ⟨g,k*5,none⟩),.pointer (some ⟨xo,0,none⟩),.pointer (some ⟨gn,0,none⟩),.pointer (some ⟨gr,0,none⟩)] w1 (Lw w1 base g cap T.labels.length (Ig T id note k T.labels[k])):=by
 have B:=E.grew h.grew;have C:=D.grew h.grew;have br:=h.tab.own.block_lt.2;have O:=h.blk.lt;have bs:=B.lt;have P:=C.lt;have bt:=h.ne;have v:¬gn=g:=by have:=h.hg;have:=E.lt;omega
 have bv:¬gr=g:=by have:=h.hg;have:=D.lt;omega
 have y0:w1.cell? ⟨g,k*5,none⟩=some (.int .i64 T.labels[k].id):=h.tab.row0 hk;have y1:w1.cell? ⟨g,k*5+1,none⟩=some (.int .i64 T.labels[k].unit):=h.tab.row1 hk;have n0:=B.cell 0;have r0:=C.cell 0;have y:=zh h.tab;have al:=zh h.blk;have F:=zh B;have bx:=zh C
 have HC:=zh (show Ig T id note k T.labels[k]=if T.labels[k].unit=0 then (T.labels,9) else if 400<note.size then (T.labels,1)
 else ((if 0<=FK T id 0 then T.labels.set (FK T id 0).toNat BN else T.labels).set k { T.labels[k] with unit:=0,note:=note },0) from rfl)
 have r:=h.blk;clear h E D B C;cases hu:(T.labels[k].unit==0) with
 | true=>
   have HE:=zh (HC.out.trans (if_pos (by simpa using hu)));clear r;go_enter Tryz.func160,Tryz.ntmps160;go_wp2_with fail;go_ret;rw [HE.out];exact ⟨rfl,⟨_,y⟩,gT⟩
 | false=>
   have t:T.labels[k].unit≠0:=by simpa using hu
   by_cases hn:400<note.size
   . have HE:=zh (HC.out.trans (by rw [if_neg t,if_pos hn]));have an:(note.size:Int)>400:=oo;clear r;go_enter Tryz.func160,Tryz.ntmps160;go_wp2_with fail;go_ret;rw [HE.out];exact ⟨rfl,⟨_,y⟩,gT⟩
   have an:¬(note.size:Int)>400:=oo;obtain ⟨ix,q⟩:∃ix,FK T id 0=ix:=⟨_,rfl⟩;have G:=y.tabAt T.name T.tracks ad Z ae;have Q:=zh (λw2 (g2:Grew w1 w2)=>KS _ _ _ T id 0 w2 (G.hold g2) hs T.labels.length rfl ix q);have hS:(λw':World=>w'.cell? ⟨xo,0,none⟩=some (.string T.name)/\w'.cell? ⟨xo,1,none⟩=some (.int .i64 T.tracks)/\w'.cell? ⟨xo,2,none⟩=some (.slice (some ⟨g,0,none⟩) T.labels.length cap)/\w'.cell? ⟨gr,0,none⟩=some (.int .i64 id)) w1.drew:=⟨r.drew.cell 0,r.drew.cell 1,r.drew.cell 2,r0⟩;rcases ED (Fd id 0) T.labels with ⟨j,hj,A,Y,_⟩ | ⟨A,_⟩
   . have H:ix=(j:Int):=q.symm.trans A;obtain ⟨_,_,bl⟩:=(G9 _ _ _).1 Y;have av:j≠k:=by rintro rfl;exact t bl
     subst H;have HE:=zh (HC.out.trans (by rw [if_neg t,if_neg hn,if_pos (by rw [q];omega),q,iM]));have b0:(j:Int)<(T.labels.length:Int):=oo;have I:=zh (show (T.labels.set j BN)[k]'(by simpa using hk)=T.labels[k] from List.getElem_set_ne av _);clear q G A Y r t;go_enter Tryz.func160,Tryz.ntmps160;go_wp2_with fail;refine AB [] (λw':World=>w'.cell? ⟨xo,0,none⟩=some (.string T.name)/\w'.cell? ⟨xo,1,none⟩=some (.int .i64 T.tracks)/\w'.cell? ⟨xo,2,none⟩=some (.slice (some ⟨g,0,none⟩) T.labels.length cap)/\w'.cell? ⟨gr,0,none⟩=some (.int .i64 id)) qk ?_;refine tQ 0 16 ?_;refine tT 1 (some 17) hS ?_;refine tT 2 (some 18) hS ?_;refine tQ 3 19 ?_;refine tT 4 (some 20) hS ?_;refine tQ 5 21 ?_;refine tO 6 λK' hK=>?_;go_wp2_with fail;refine (Q _ (gK w1).drew).mono ?_;rintro e w2 ⟨rfl,g2⟩;have c:Grew w1 w2:=(gK w1).drew.trans g2;go_wp2_with fail
     refine hK.out _ _ (.inr (λh=>by
      simp only [c.cellEq _ _ O,c.cellEq _ _ P]
      exact hS)) ?_
     clear hK hS;refine tQ 7 7 ?_;refine AA qk ?_ _;have o2:=al.grew c;have u0:=o2.cell 0;have u1:=o2.cell 1;have u2:=o2.cell 2;have b1:=o2.lt;have d:=y.hold c;obtain ⟨B2,d2,u,_,_,_⟩:=d.row hj;have a0:w2.cell? ⟨g,j*5,none⟩=some (.int .i64 T.labels[j].id):=d.own.cell0 u rfl;have a1:w2.cell? ⟨g,j*5+1,none⟩=some (.int .i64 T.labels[j].unit):=d.own.cell u (i:=1) rfl;have a2:w2.cell? ⟨g,j*5+2,none⟩=some (.string T.labels[j].name):=d.own.cell u (i:=2) rfl;have a3:w2.cell? ⟨g,j*5+3,none⟩=some (.string T.labels[j].note):=d.own.cell u (i:=3) rfl;have a4:w2.cell? ⟨g,j*5+4,none⟩=some (.slice B2 T.labels[j].ext.length d2):=d.own.cell u (i:=4) rfl;have a5:=d.own.frozen (j*5);have a6:=d.own.frozen (j*5+1);have a7:=d.own.frozen (j*5+2);have a8:=d.own.frozen (j*5+3);have a9:=d.own.frozen (j*5+4);have R:=zh (d.set5 hj ⟨none,0,BN⟩ (LabAt.zero _) (λh0=>absurd h0 qd));have S:=zh ((c.turned (λx=>x=g)).trans (FS w2 g (j*5) (.int .i64 0) (.int .i64 0) (.string ⟨#[]⟩) (.string ⟨#[]⟩) (.slice none 0 0)));have bb:=zh (F.grew c);clear d u o2;go_wp2_with fail;obtain ⟨W,hW⟩:∃W,W=((((w2.setCell ⟨g,j*5,none⟩ (.int .i64 0)).setCell ⟨g,j*5+1,none⟩ (.int .i64 0)).setCell ⟨g,j*5+2,none⟩ (.string ⟨#[]⟩)).setCell ⟨g,j*5+3,none⟩ (.string ⟨#[]⟩)).setCell ⟨g,j*5+4,none⟩ (.slice none 0 0):=⟨_,rfl⟩;rw [<-hW];obtain ⟨V,X⟩:∃V,TabO W base (.slice (some ⟨g,0,none⟩) T.labels.length cap) V (T.labels.set j BN):=⟨_,by rw [hW];exact R.out⟩;have J:Turned (λx=>x=g) w1 W:=by rw [hW];exact S.out
     have U:Blk W gn 9 #[.string note]:=F.turned J v;have b:k<(T.labels.set j BN).length:=by simpa using hk
     have l:(T.labels.set j BN)[k]'b=T.labels[k]:=by first | exact I.out | rfl
     have a:=X;have z0:W.cell? ⟨g,k*5,none⟩=some (.int .i64 T.labels[k].id):=by rw [<-l];exact a.row0 b
     have z1:W.cell? ⟨g,k*5+1,none⟩=some (.int .i64 T.labels[k].unit):=by rw [<-l];exact a.row1 b
     have bc:=a.own.frozen (k*5+1);have bd:=a.own.block_lt.2;obtain ⟨bn,o⟩:=a.drew.unit_ b 0 oo;have m:k<((T.labels.set j BN).set k { (T.labels.set j BN)[k]'b with unit:=0 }).length:=by simpa using hk
     have n:((T.labels.set j BN).set k { (T.labels.set j BN)[k]'b with unit:=0 })[k]'m={ T.labels[k] with unit:=0 }:=by rw [List.getElem_set_self,l]
     have z:=zh (show (World.setCell W.drew ⟨g,k*5+1,none⟩ (.int .i64 0)).cell? ⟨g,k*5,none⟩=some (.int .i64 T.labels[k].id) from by have:=o.row0 m;rwa [n] at this);have z3:(World.setCell W.drew ⟨g,k*5+1,none⟩ (.int .i64 0)).cell? ⟨g,k*5+3,none⟩=some (.string T.labels[k].note):=by have:=o.row3 m;rwa [n] at this
     have y3:W.cell? ⟨g,k*5+3,none⟩=some (.string T.labels[k].note):=by rw [<-l];exact a.row3 b
     have bf:=a.own.frozen (k*5+3);obtain ⟨M,s⟩:=o.note_ m note N;have K:=zh (show ∃ys,TabO _ base (.slice (some ⟨g,0,none⟩) T.labels.length cap) ys ((T.labels.set j BN).set k { T.labels[k] with unit:=0,note:=note }) from ⟨M,by rw [n,List.set_set] at s;exact s⟩);have L:=zh (((J).drew.trans (Bd _ g (k*5+1) (.int .i64 0))).trans (Bd _ g (k*5+3) (.string note)));have f:=zh (U);have bk:=f.out.lt;have b3:=f.cell 0;clear a o s n;clear a0 a1 a2 a3 a4 a5 a6 a7 a8 a9 hW X J U u0 u1 u2 y0 y1 n0 r0 R S bb;refine AB [8] (λw':World=>w'.cell? ⟨gn,0,none⟩=some (.string note)/\w'.cell? ⟨g,k*5,none⟩=some (.int .i64 T.labels[k].id)) qk ?_;have hS:(λw':World=>w'.cell? ⟨gn,0,none⟩=some (.string note)/\w'.cell? ⟨g,k*5,none⟩=some (.int .i64 T.labels[k].id)) (World.drew _):=⟨f.drew.cell 0,z0⟩;refine tQ 0 32 ?_;refine tQ 1 33 ?_;refine tT 2 (some 34) hS ?_;refine tT 3 (some 35) hS ?_;refine tQ 4 36 ?_;refine tO 5 λK' hK=>?_;go_wp2_with fail;refine hK.out _ _ (.inr (λh=>⟨(f.drew.far (p:=⟨g,k*5+1,none⟩) v (.int .i64 0)).cell 0,z⟩)) ?_;clear hK hS;have hS:(λw':World=>w'.cell? ⟨gn,0,none⟩=some (.string note)/\w'.cell? ⟨g,k*5,none⟩=some (.int .i64 T.labels[k].id)) (W.setCell ⟨g,k*5+1,none⟩ (.int .i64 0)).drew:=⟨(f.drew.far (p:=⟨g,k*5+1,none⟩) v (.int .i64 0)).cell 0,z⟩;refine tT 6 (some 37) hS ?_;refine tQ 7 38 ?_;refine tO 8 λK' hK=>?_;go_wp2_with fail;refine hK.out _ _ (.inl rfl) ?_;clear hK;refine AA qk ?_ _;go_wp2_with fail;go_ret;rw [HE.out];exact ⟨rfl,K,L⟩
   . have H:ix=-1:=q.symm.trans A;subst H;have HE:=zh (HC.out.trans (by rw [if_neg t,if_neg hn,if_neg (by rw [q];omega)]));have I:=zh (show (T.labels)[k]'(by simpa using hk)=T.labels[k] from rfl);clear q G A r t;go_enter Tryz.func160,Tryz.ntmps160;go_wp2_with fail;refine AB [] (λw':World=>w'.cell? ⟨xo,0,none⟩=some (.string T.name)/\w'.cell? ⟨xo,1,none⟩=some (.int .i64 T.tracks)/\w'.cell? ⟨xo,2,none⟩=some (.slice (some ⟨g,0,none⟩) T.labels.length cap)/\w'.cell? ⟨gr,0,none⟩=some (.int .i64 id)) qk ?_;refine tQ 0 16 ?_;refine tT 1 (some 17) hS ?_;refine tT 2 (some 18) hS ?_;refine tQ 3 19 ?_;refine tT 4 (some 20) hS ?_;refine tQ 5 21 ?_;refine tO 6 λK' hK=>?_;go_wp2_with fail;refine (Q _ (gK w1).drew).mono ?_;rintro e W ⟨rfl,g2⟩;have c:Grew w1 W:=(gK w1).drew.trans g2;go_wp2_with fail
     refine hK.out _ _ (.inr (λh=>by
      simp only [c.cellEq _ _ O,c.cellEq _ _ P]
      exact hS)) ?_
     clear hK hS;refine tQ 7 7 ?_;refine AA qk ?_ _;have b:k<(T.labels).length:=by simpa using hk
     have l:(T.labels)[k]'b=T.labels[k]:=by first | exact I.out | rfl
     have a:=y.hold c;have z0:W.cell? ⟨g,k*5,none⟩=some (.int .i64 T.labels[k].id):=by rw [<-l];exact a.row0 b
     have z1:W.cell? ⟨g,k*5+1,none⟩=some (.int .i64 T.labels[k].unit):=by rw [<-l];exact a.row1 b
     have bc:=a.own.frozen (k*5+1);have bd:=a.own.block_lt.2;obtain ⟨bn,o⟩:=a.drew.unit_ b 0 oo;have m:k<((T.labels).set k { (T.labels)[k]'b with unit:=0 }).length:=by simpa using hk
     have n:((T.labels).set k { (T.labels)[k]'b with unit:=0 })[k]'m={ T.labels[k] with unit:=0 }:=by rw [List.getElem_set_self,l]
     have z:=zh (show (World.setCell W.drew ⟨g,k*5+1,none⟩ (.int .i64 0)).cell? ⟨g,k*5,none⟩=some (.int .i64 T.labels[k].id) from by have:=o.row0 m;rwa [n] at this);have z3:(World.setCell W.drew ⟨g,k*5+1,none⟩ (.int .i64 0)).cell? ⟨g,k*5+3,none⟩=some (.string T.labels[k].note):=by have:=o.row3 m;rwa [n] at this
     have y3:W.cell? ⟨g,k*5+3,none⟩=some (.string T.labels[k].note):=by rw [<-l];exact a.row3 b
     have bf:=a.own.frozen (k*5+3);obtain ⟨M,s⟩:=o.note_ m note N;have K:=zh (show ∃ys,TabO _ base (.slice (some ⟨g,0,none⟩) T.labels.length cap) ys ((T.labels).set k { T.labels[k] with unit:=0,note:=note }) from ⟨M,by rw [n,List.set_set] at s;exact s⟩);have L:=zh (((c.turned (λx=>x=g)).drew.trans (Bd _ g (k*5+1) (.int .i64 0))).trans (Bd _ g (k*5+3) (.string note)));have f:=zh (F.grew c);have bk:=f.out.lt;have b3:=f.cell 0;clear a o s n;clear y0 y1 n0 r0 g2 c;go_wp2_with fail;refine AB [8] (λw':World=>w'.cell? ⟨gn,0,none⟩=some (.string note)/\w'.cell? ⟨g,k*5,none⟩=some (.int .i64 T.labels[k].id)) qk ?_;have hS:(λw':World=>w'.cell? ⟨gn,0,none⟩=some (.string note)/\w'.cell? ⟨g,k*5,none⟩=some (.int .i64 T.labels[k].id)) (World.drew _):=⟨f.drew.cell 0,z0⟩;refine tQ 0 32 ?_;refine tQ 1 33 ?_;refine tT 2 (some 34) hS ?_;refine tT 3 (some 35) hS ?_;refine tQ 4 36 ?_;refine tO 5 λK' hK=>?_;go_wp2_with fail;refine hK.out _ _ (.inr (λh=>⟨(f.drew.far (p:=⟨g,k*5+1,none⟩) v (.int .i64 0)).cell 0,z⟩)) ?_;clear hK hS;have hS:(λw':World=>w'.cell? ⟨gn,0,none⟩=some (.string note)/\w'.cell? ⟨g,k*5,none⟩=some (.int .i64 T.labels[k].id)) (W.setCell ⟨g,k*5+1,none⟩ (.int .i64 0)).drew:=⟨(f.drew.far (p:=⟨g,k*5+1,none⟩) v (.int .i64 0)).cell 0,z⟩;refine tT 6 (some 37) hS ?_;refine tQ 7 38 ?_;refine tO 8 λK' hK=>?_;go_wp2_with fail;refine hK.out _ _ (.inl rfl) ?_;clear hK;refine AA qk ?_ _;go_wp2_with fail;go_ret;rw [HE.out];exact ⟨rfl,K,L⟩
end

theorem MX {w:World} {A:Option Addr} {l:List (Int × Int)} {g:Nat} {t:TypeId} {s:ByteArray} {i:Int} {a:Option Addr} {n c:Nat} (h:RunsAt w w.heap.size A l) (hl:0<l.length) (hb:Blk w g t #[.string s,.int .i64 i,.slice a n c]):∀b off,A=some ⟨b,off,none⟩->b≠g:=by
 rintro b off e rfl;obtain ⟨b',d,x,y,e',f,hv,_,c0,c1⟩:=h.at_ (k:=0) hl;rw [e] at e';injection e' with e';injection e' with e1 e2 _;subst e1;subst e2;rw [Nat.zero_mul,jH] at c0 c1;rw [hb.cell] at c0 c1
 match off with
 | 0=>simp at c0
 | 1=>simp at c1
 | 2=>simp at c0
 | off+3=>simp at c0
theorem TabO.apart {w:World} {base:Nat} {v:Value} {ys:List LabE} {ls:List Lab} (h:TabO w base v ys ls) {g:Nat} {t:TypeId} {s:ByteArray} {i:Int} {a:Option Addr} {n c:Nat} (hb:Blk w g t #[.string s,.int .i64 i,.slice a n c]):∀y∈ys,0<y.l.ext.length->∀b off,y.A=some ⟨b,off,none⟩->¬b=g:=
 λy hy h0 b off e=>MX (h.lab y hy).runs h0 hb b off e
theorem TabO.nlen {w:World} {base g n cap:Nat} {ys:List LabE} {ls:List Lab} (h:TabO w base (.slice (some ⟨g,0,none⟩) n cap) ys ls):ls.length=n:=by
 have h1:=h.own.len.1;rw [gO,h.len] at h1;exact h1
theorem NJ (T:Tab) (id a:Int) (F:Nat->Lab->List Lab × Int):(BG T=false/\Bt T id a F=(Cq,1))\/(BG T=true/\FK T id a=-1/\Bt T id a F=(Cq,6))\/
 (BG T=true/\∃(k:Nat) (hk:k<T.labels.length),FK T id a=(k:Int)/\Fd id a T.labels[k]=true/\(((F k T.labels[k]).2=0/\Bt T id a F=({ T with labels:=(F k T.labels[k]).1 },0))\/((F k T.labels[k]).2≠0/\Bt T id a F=(Cq,(F k T.labels[k]).2)))):=by
 unfold Bt;cases hv:BG T with
 | false=>exact .inl ⟨rfl,if_neg qs⟩
 | true=>
   right;rw [if_pos rfl];rcases ED (Fd id a) T.labels with ⟨k,hk,h1,h2,_⟩ | ⟨h1,_⟩
   . have b:FK T id a=(k:Int):=h1;right;rw [b,if_pos oo,iM,iE,gJ hk,jO];refine ⟨rfl,k,hk,rfl,h2,?_⟩;by_cases h0:(F k T.labels[k]).2=0
     . exact .inl ⟨h0,by rw [if_pos h0]⟩
     . exact .inr ⟨h0,by rw [if_neg h0]⟩
   . have b:FK T id a=-1:=h1;left;rw [b,if_neg oo];exact ⟨rfl,rfl,rfl⟩
def J8 (w:World) (T:Tab) (er:Int) (e:Ending) (w':World):Prop:=
 ∃A c xs,e=.returned (.tuple #[.agg #[.string T.name,.int .i64 T.tracks,.slice A T.labels.length c],.int .i64 er])/\TabAt w' A c xs T/\Grew w w'
section
variable (A:Option Addr) (c:Nat) (xs:List LabE) (T:Tab) (id unit:Int) (w:World) (p1 p2:Nat)
theorem E6 (fi:FuncId) (cs:Array Value) (hE:C8 Tryz.prog fi) (h:TabAt w A c xs T) (hs:SmallT T) (F:Nat->Lab->List Lab × Int)
 (HC:∀(w1:World) (base g cap xo:Nat) (ys:List LabE) (k:Nat) (hk:k<T.labels.length),Fd id unit T.labels[k]=true->OutAt w w1 base g cap xo ys T->Calls Tryz.prog fi (#[]++#[.pointer (some ⟨g,k*5,none⟩),.pointer (some ⟨xo,0,none⟩)]++cs) w1 (Lw w1 base g cap T.labels.length (F k T.labels[k])))
 (T':Tab) (er:Int) (hr:Bt T id unit F=(T',er)):
 Calls Tryz.prog 154 #[.agg #[.string T.name,.int .i64 T.tracks,.slice A T.labels.length c],.agg #[.int .i64 id,.int .i64 unit],.func (.func fi) #[] cs] w (J8 w T' er):=by
 have B:=(((gK w).alloc (.cells #[.string T.name,.int .i64 T.tracks,.slice A T.labels.length c] 50)).alloc (.cells #[.int .i64 id,.int .i64 unit] 32)).alloc (.cells #[.string ⟨#[]⟩,.int .i64 0,.slice none 0 0] 50);have J:=((gZ w 50 #[.string T.name,.int .i64 T.tracks,.slice A T.labels.length c] rfl).alloc (.cells #[.int .i64 id,.int .i64 unit] 32)).alloc (.cells #[.string ⟨#[]⟩,.int .i64 0,.slice none 0 0] 50);have K:=(gZ (w.alloc (.cells #[.string T.name,.int .i64 T.tracks,.slice A T.labels.length c] 50)) 32 #[.int .i64 id,.int .i64 unit] (n:=w.heap.size+1) qs).alloc (.cells #[.string ⟨#[]⟩,.int .i64 0,.slice none 0 0] 50);have L:=gZ ((w.alloc (.cells #[.string T.name,.int .i64 T.tracks,.slice A T.labels.length c] 50)).alloc (.cells #[.int .i64 id,.int .i64 unit] 32)) 50 #[.string ⟨#[]⟩,.int .i64 0,.slice none 0 0] (n:=w.heap.size+1+1) qs;have HV:=zh (EH A c xs T _ (h.hold B) hs _ rfl);have M:=zh (λw2 (g2:Grew w w2) k hk=>KS A c xs T id unit w2 (h.hold g2) hs _ rfl k hk);have Y:=zh (λw2 (g2:Grew w w2)=>PG A c xs T w2 (h.hold g2) hs _ rfl);have C:=zh (show T.name.size<=9223372036854775807/\-9223372036854775808<=T.tracks/\T.tracks<=9223372036854775807 from ⟨h.name,h.tr0,h.tr1⟩);have Z:=zh HC;have D:=zh B;have N:=zh J;have O:=zh K;have E:=zh L;have ad:=zh hE;clear h hs HC B J K L hE;rcases NJ T id unit F with ⟨hv,hx⟩ | ⟨hv,hi,hx⟩ | ⟨hv,k,hk,hi,X,hx⟩
 . rw [hx] at hr;injection hr with h1 h2;subst h1;subst h2;have l:=zh hv;clear hv hx;go_enter Tryz.func154,Tryz.ntmps154;go_wp2_with fail;refine HV.mono ?_;rintro e w1 ⟨rfl,g1⟩;rw [l.out];have a:=E.grew g1;have z0:=a.cell 0;have z1:=a.cell 1;have z2:=a.cell 2;have f0:=a.frozen 0;have f1:=a.frozen 1;have f2:=a.frozen 2;have P:=a.lt;have ae:=D.out.trans g1;clear a g1;go_wp2_with fail;refine gw (by first | (simp [*,results,Tryz.results154,go_sem];rfl) | simp [*,results,Tryz.results154,go_sem]) rfl ?_;exact ⟨none,0,[],rfl,TabAt.zero _,gG⟩
 . rw [hx] at hr;injection hr with h1 h2;subst h1;subst h2;have l:=zh hv;have HI:=zh hi;clear hv hx hi;go_enter Tryz.func154,Tryz.ntmps154;go_wp2_with fail;refine HV.mono ?_;rintro e w1 ⟨rfl,g1⟩;rw [l.out];have d:=N.grew g1;have b0:=d.cell 0;have b1:=d.cell 1;have b2:=d.cell 2;have al:=d.lt;have s:=O.grew g1;have r0:=s.cell 0;have r1:=s.cell 1;have an:=s.lt;have m:=zh (D.out.trans g1);have G:=zh (E.grew g1);clear d s g1;go_wp2_with fail;refine (M w1 m _ HI).mono ?_;rintro e w2 ⟨rfl,g2⟩;have a:=G.grew g2;have z0:=a.cell 0;have z1:=a.cell 1;have z2:=a.cell 2;have f0:=a.frozen 0;have f1:=a.frozen 1;have f2:=a.frozen 2;have P:=a.lt;have ae:=m.out.trans g2;clear a g2 b0 b1 b2 r0 r1;go_wp2_with fail;refine gw (by first | (simp [*,results,Tryz.results154,go_sem];rfl) | simp [*,results,Tryz.results154,go_sem]) rfl ?_;exact ⟨none,0,[],rfl,TabAt.zero _,gG⟩
 . have l:=zh hv;have HI:=zh hi;have av:=zh X;obtain ⟨⟨r1,r2⟩,hF⟩:∃r,F k T.labels[k]=r:=⟨_,rfl⟩;rw [hF] at hx;have HF:=zh hF;have bf:(k:Int)<(T.labels.length:Int):=oo;clear hv hi X hF;go_enter Tryz.func154,Tryz.ntmps154;go_wp2_with fail;refine HV.mono ?_;rintro e w1 ⟨rfl,g1⟩;rw [l.out];have d:=N.grew g1;have b0:=d.cell 0;have b1:=d.cell 1;have b2:=d.cell 2;have al:=d.lt;have t:=O.grew g1;have a0:=t.cell 0;have a1:=t.cell 1;have an:=t.lt;have m:=zh (D.out.trans g1);have G:=zh (E.grew g1);have a2:=zh d;clear d t g1;go_wp2_with fail;refine (M w1 m _ HI).mono ?_;rintro e w2 ⟨rfl,g2⟩;have o:=a2.grew g2;clear b0 b1 b2 a0 a1;have b0:=o.cell 0;have b1:=o.cell 1;have b2:=o.cell 2;have bk:=o.lt;have Q:=zh (m.out.trans g2);have R:=zh (G.grew g2);clear o g2;go_wp2_with fail;refine (Y w2 Q).mono ?_;rintro e w3 ⟨v,ys,rfl,j,g3⟩
   obtain ⟨g,cap,rfl,bx,b3⟩:∃g cap,v=.slice (some ⟨g,0,none⟩) T.labels.length cap/\w2.heap.size<=g/\g<w3.heap.size:=by
    rcases j.own.form with ⟨_,h0⟩ | ⟨g,cap,hv,h1,h2,_⟩
    . have:=iH length h0;rw [gO,j.len,length_nil] at this;omega
    . rw [gO,j.len] at hv;exact ⟨g,cap,hv,h1,h2⟩
   have p:Grew w3 (w3.alloc (.cells #[.string T.name,.int .i64 T.tracks,.slice (some ⟨g,0,none⟩) T.labels.length cap] 50)):=(gK w3).alloc _;have u:=Q.out.trans g3;have a3:=R.out.lt;have H:OutAt w (w3.alloc (.cells #[.string T.name,.int .i64 T.tracks,.slice (some ⟨g,0,none⟩) T.labels.length cap] 50)) w2.heap.size g cap w3.heap.size ys T:=
    ⟨u.trans p,oo,u.size,oo,j.hold p,gZ w3 _ _ rfl⟩
   have I:=zh (Z _ _ _ _ _ _ k hk av H);have bl:k<cap:=by have:=j.own.len.2.1;omega
   have a4:=zh ((R.grew g3).grew p);have a5:=zh (u.trans p);have a6:=zh H.blk;have a7:¬w.heap.size+1+1=g:=oo;have a8:¬w3.heap.size=g:=oo;have bn:w.heap.size+1+1<w3.heap.size:=gW a3 g3.size;have br:w.heap.size<=g:=oo;rw [HF.out] at I;clear j p u H g3 b0 b1 b2;have U:=ad.out;unfold C8 at U;go_wp2_with fail;clear U;refine I.mono ?_;rintro e w4 ⟨rfl,⟨bd,x⟩,z⟩;have f:=a4.turned z a7;have q:=a6.turned z a8;have z0:=f.cell 0;have z1:=f.cell 1;have z2:=f.cell 2;have f0:=f.frozen 0;have f1:=f.frozen 1;have f2:=f.frozen 2;have o0:=q.cell 0;have o1:=q.cell 1;have o2:=q.cell 2;have P:=f.lt;have bs:=q.lt;have bt:Grew w w4:=a5.turn z (λi e=>oo);have V:=x.apart f;have a9:=zh x;have bb:=zh V;have bc:=zh x.nlen;clear f q z x V I;rcases hx with ⟨h0,hx⟩ | ⟨h0,hx⟩
   . try simp only at h0
     subst h0;rw [hx] at hr;injection hr with h1 h2;subst h2;have W:=zh h1;clear hx h1;go_wp2_with fail;refine gw (by first | (simp [*,results,Tryz.results154,go_sem];rfl) | simp [*,results,Tryz.results154,go_sem]) rfl ?_;refine ⟨some ⟨g,0,none⟩,cap,bd,by rw [<-W.out];simp only [bc.out],?_,gG⟩;rw [<-W.out];exact (a9.turned (S:=λk=>k=w.heap.size+1+1) (gT) (λg' e=>by have e':g=g':=Option.some.inj e;omega) (λy hy h0 b off e=>bb y hy h0 b off e)).tabAt _ _ C.1 C.2.1 C.2.2
   . try simp only at h0 hx
     rw [hx] at hr;injection hr with h1 h2;subst h1;subst h2;have bv:(r2 != 0)=true:=by rw [iW];exact h0
     clear hx h0;go_wp2_with fail;refine gw (by first | (simp [*,results,Tryz.results154,go_sem];rfl) | simp [*,results,Tryz.results154,go_sem]) rfl ?_;exact ⟨none,0,[],rfl,TabAt.zero _,gG⟩
theorem Ue (h:TabAt w A c xs T) (hs:SmallT T) (F:Nat->Lab->List Lab × Int)
 (HC:∀(w1:World) (base g cap xo:Nat) (ys:List LabE) (k:Nat) (hk:k<T.labels.length),Fd id unit T.labels[k]=true->OutAt w w1 base g cap xo ys T->Calls Tryz.prog 156 #[.pointer (some ⟨g,k*5,none⟩),.pointer (some ⟨xo,0,none⟩),.pointer (some ⟨p1,0,none⟩),.pointer (some ⟨p2,0,none⟩)] w1 (Lw w1 base g cap T.labels.length (F k T.labels[k])))
 (T':Tab) (er:Int) (hr:Bt T id unit F=(T',er)):
 Calls Tryz.prog 154 #[.agg #[.string T.name,.int .i64 T.tracks,.slice A T.labels.length c],.agg #[.int .i64 id,.int .i64 unit],.func (.func 156) #[] #[.pointer (some ⟨p1,0,none⟩),.pointer (some ⟨p2,0,none⟩)]] w (J8 w T' er):=by
 have hE:C8 Tryz.prog 156:=BV Tryz.func156 qk qk;exact E6 A c xs T id unit w 156 #[.pointer (some ⟨p1,0,none⟩),.pointer (some ⟨p2,0,none⟩)] hE h hs F (λw1 base g cap xo ys k hk hh ho=>HC w1 base g cap xo ys k hk hh ho) T' er hr
theorem UY (h:TabAt w A c xs T) (hs:SmallT T) (F:Nat->Lab->List Lab × Int)
 (HC:∀(w1:World) (base g cap xo:Nat) (ys:List LabE) (k:Nat) (hk:k<T.labels.length),Fd id unit T.labels[k]=true->OutAt w w1 base g cap xo ys T->Calls Tryz.prog 158 #[.pointer (some ⟨g,k*5,none⟩),.pointer (some ⟨xo,0,none⟩),.pointer (some ⟨p1,0,none⟩)] w1 (Lw w1 base g cap T.labels.length (F k T.labels[k])))
 (T':Tab) (er:Int) (hr:Bt T id unit F=(T',er)):
 Calls Tryz.prog 154 #[.agg #[.string T.name,.int .i64 T.tracks,.slice A T.labels.length c],.agg #[.int .i64 id,.int .i64 unit],.func (.func 158) #[] #[.pointer (some ⟨p1,0,none⟩)]] w (J8 w T' er):=by
 have hE:C8 Tryz.prog 158:=BV Tryz.func158 qk qk;exact E6 A c xs T id unit w 158 #[.pointer (some ⟨p1,0,none⟩)] hE h hs F (λw1 base g cap xo ys k hk hh ho=>HC w1 base g cap xo ys k hk hh ho) T' er hr
theorem UL (h:TabAt w A c xs T) (hs:SmallT T) (F:Nat->Lab->List Lab × Int)
 (HC:∀(w1:World) (base g cap xo:Nat) (ys:List LabE) (k:Nat) (hk:k<T.labels.length),Fd id unit T.labels[k]=true->OutAt w w1 base g cap xo ys T->Calls Tryz.prog 155 #[.pointer (some ⟨g,k*5,none⟩),.pointer (some ⟨xo,0,none⟩),.pointer (some ⟨p1,0,none⟩)] w1 (Lw w1 base g cap T.labels.length (F k T.labels[k])))
 (T':Tab) (er:Int) (hr:Bt T id unit F=(T',er)):
 Calls Tryz.prog 154 #[.agg #[.string T.name,.int .i64 T.tracks,.slice A T.labels.length c],.agg #[.int .i64 id,.int .i64 unit],.func (.func 155) #[] #[.pointer (some ⟨p1,0,none⟩)]] w (J8 w T' er):=by
 have hE:C8 Tryz.prog 155:=BV Tryz.func155 qk qk;exact E6 A c xs T id unit w 155 #[.pointer (some ⟨p1,0,none⟩)] hE h hs F (λw1 base g cap xo ys k hk hh ho=>HC w1 base g cap xo ys k hk hh ho) T' er hr
theorem T4 (h:TabAt w A c xs T) (hs:SmallT T) (F:Nat->Lab->List Lab × Int)
 (HC:∀(w1:World) (base g cap xo:Nat) (ys:List LabE) (k:Nat) (hk:k<T.labels.length),Fd id unit T.labels[k]=true->OutAt w w1 base g cap xo ys T->Calls Tryz.prog 160 #[.pointer (some ⟨g,k*5,none⟩),.pointer (some ⟨xo,0,none⟩),.pointer (some ⟨p1,0,none⟩),.pointer (some ⟨p2,0,none⟩)] w1 (Lw w1 base g cap T.labels.length (F k T.labels[k])))
 (T':Tab) (er:Int) (hr:Bt T id unit F=(T',er)):
 Calls Tryz.prog 154 #[.agg #[.string T.name,.int .i64 T.tracks,.slice A T.labels.length c],.agg #[.int .i64 id,.int .i64 unit],.func (.func 160) #[] #[.pointer (some ⟨p1,0,none⟩),.pointer (some ⟨p2,0,none⟩)]] w (J8 w T' er):=by
 have hE:C8 Tryz.prog 160:=BV Tryz.func160 qk qk;exact E6 A c xs T id unit w 160 #[.pointer (some ⟨p1,0,none⟩),.pointer (some ⟨p2,0,none⟩)] hE h hs F (λw1 base g cap xo ys k hk hh ho=>HC w1 base g cap xo ys k hk hh ho) T' er hr
theorem TS (h:TabAt w A c xs T) (hs:SmallT T) (F:Nat->Lab->List Lab × Int)
 (HC:∀(w1:World) (base g cap xo:Nat) (ys:List LabE) (k:Nat) (hk:k<T.labels.length),Fd id unit T.labels[k]=true->OutAt w w1 base g cap xo ys T->Calls Tryz.prog 161 #[.pointer (some ⟨g,k*5,none⟩),.pointer (some ⟨xo,0,none⟩),.pointer (some ⟨p1,0,none⟩)] w1 (Lw w1 base g cap T.labels.length (F k T.labels[k])))
 (T':Tab) (er:Int) (hr:Bt T id unit F=(T',er)):
 Calls Tryz.prog 154 #[.agg #[.string T.name,.int .i64 T.tracks,.slice A T.labels.length c],.agg #[.int .i64 id,.int .i64 unit],.func (.func 161) #[] #[.pointer (some ⟨p1,0,none⟩)]] w (J8 w T' er):=by
 have hE:C8 Tryz.prog 161:=BV Tryz.func161 qk qk;exact E6 A c xs T id unit w 161 #[.pointer (some ⟨p1,0,none⟩)] hE h hs F (λw1 base g cap xo ys k hk hh ho=>HC w1 base g cap xo ys k hk hh ho) T' er hr
theorem Tc (h:TabAt w A c xs T) (hs:SmallT T) (F:Nat->Lab->List Lab × Int)
 (HC:∀(w1:World) (base g cap xo:Nat) (ys:List LabE) (k:Nat) (hk:k<T.labels.length),Fd id unit T.labels[k]=true->OutAt w w1 base g cap xo ys T->Calls Tryz.prog 162 #[.pointer (some ⟨g,k*5,none⟩),.pointer (some ⟨xo,0,none⟩)] w1 (Lw w1 base g cap T.labels.length (F k T.labels[k])))
 (T':Tab) (er:Int) (hr:Bt T id unit F=(T',er)):
 Calls Tryz.prog 154 #[.agg #[.string T.name,.int .i64 T.tracks,.slice A T.labels.length c],.agg #[.int .i64 id,.int .i64 unit],.func (.func 162) #[] #[]] w (J8 w T' er):=by
 have hE:C8 Tryz.prog 162:=BV Tryz.func162 qk qk;exact E6 A c xs T id unit w 162 #[] hE h hs F (λw1 base g cap xo ys k hk hh ho=>HC w1 base g cap xo ys k hk hh ho) T' er hr
end

theorem TabAt.turned {S:Nat->Prop} {w w':World} {A:Option Addr} {c:Nat} {xs:List LabE} {T:Tab} (h:TabAt w A c xs T) (ht:Turned S w w') (h1:0<xs.length->∀b off,A=some ⟨b,off,none⟩->¬S b) (h2:∀x∈xs,0<x.l.ext.length->∀b off,x.A=some ⟨b,off,none⟩->¬S b):TabAt w' A c xs T:=
 ⟨λx hx=>(h.lab x hx).turned ht (h2 x hx),λh0=>by
  obtain ⟨b,off,e,hb,hc⟩:=h.rows h0
  exact ⟨b,off,e,gW hb ht.size,λj cs hj i v hi=>by rw [ht.cellEq _ _ hb (h1 (by simpa using h0) b off e)];exact hc j cs hj i v hi⟩,h.len,h.cap,h.eq,h.tr0,h.tr1,h.name⟩
theorem TabAt.apart {w w':World} {A:Option Addr} {c:Nat} {xs:List LabE} {T:Tab} (h:TabAt w A c xs T) {g:Nat} {t:TypeId} {s:ByteArray} {i:Int} {a:Option Addr} {n d:Nat} (hb:Blk w g t #[.string s,.int .i64 i,.slice a n d]) (ht:Turned (λx=>x=g) w w'):TabAt w' A c xs T:=by
 refine h.turned ht (λh0 b off e=>?_) (λx hx h0 b off e=>MX (h.lab x hx).runs h0 hb b off e);rintro rfl;obtain ⟨b',f,e',j,hc⟩:=h.rows (by simpa using h0);rw [e] at e';injection e' with e';injection e' with e1 e2 _;subst e1;subst e2;have hr:(xs.map DP)[0]? =some (DP xs[0]):=by rw [gP,gJ h0];rfl
 have c0:=hc 0 _ hr 0 _ rfl;have c1:=hc 0 _ hr 1 _ rfl;rw [Nat.zero_mul,jH,hb.cell] at c0 c1
 match off with
 | 0=>simp at c0
 | 1=>simp at c1
 | 2=>simp at c0
 | off+3=>simp at c0
section
variable (A:Option Addr) (c:Nat) (xs:List LabE) (T:Tab) (id unit:Int) (w:World)
theorem Tq (h:TabAt w A c xs T) (hs:SmallT T) (n:Int) (n0:-9223372036854775808<=n) (n1:n<=9223372036854775807) (T':Tab) (er:Int) (hr:Bt T id unit (Ho T n)=(T',er)):
 Calls Tryz.prog 82 #[.agg #[.string T.name,.int .i64 T.tracks,.slice A T.labels.length c],.agg #[.int .i64 id,.int .i64 unit],.int .i64 n] w (J8 w T' er):=by
 have b:=((((gK w).alloc (.cells #[.string T.name,.int .i64 T.tracks,.slice A T.labels.length c] 50)).alloc (.cells #[.int .i64 id,.int .i64 unit] 32)).alloc (.cells #[.int .i64 n] 3)).alloc (.cells #[.string ⟨#[]⟩,.int .i64 0,.slice none 0 0] 50);have d:=(((gZ w 50 #[.string T.name,.int .i64 T.tracks,.slice A T.labels.length c] rfl).alloc (.cells #[.int .i64 id,.int .i64 unit] 32)).alloc (.cells #[.int .i64 n] 3)).alloc (.cells #[.string ⟨#[]⟩,.int .i64 0,.slice none 0 0] 50);have l:=((gZ (w.alloc (.cells #[.string T.name,.int .i64 T.tracks,.slice A T.labels.length c] 50)) 32 #[.int .i64 id,.int .i64 unit] (n:=w.heap.size+1) qs).alloc (.cells #[.int .i64 n] 3)).alloc (.cells #[.string ⟨#[]⟩,.int .i64 0,.slice none 0 0] 50);have f:=(gZ ((w.alloc (.cells #[.string T.name,.int .i64 T.tracks,.slice A T.labels.length c] 50)).alloc (.cells #[.int .i64 id,.int .i64 unit] 32)) 3 #[.int .i64 n] (n:=w.heap.size+2) qs).alloc (.cells #[.string ⟨#[]⟩,.int .i64 0,.slice none 0 0] 50);have i:=gZ (((w.alloc (.cells #[.string T.name,.int .i64 T.tracks,.slice A T.labels.length c] 50)).alloc (.cells #[.int .i64 id,.int .i64 unit] 32)).alloc (.cells #[.int .i64 n] 3)) 50 #[.string ⟨#[]⟩,.int .i64 0,.slice none 0 0] (n:=w.heap.size+3) qs;have h0:=h.hold b;have HC:=zh (Ue A c xs T id unit _ w.heap.size (w.heap.size+2) h0 hs (Ho T n) (λw1 base g cap xo ys k hk _ ho=>TU _ w1 base g cap xo ys T k hk ho A c xs h0 hs n n0 n1 _ _ d f) T' er hr);have m:=zh b;have o:=zh i;clear h hs b d l f i h0;go_enter Tryz.func82,Tryz.ntmps82;go_wp2_with fail;refine HC.mono ?_;rintro e w1 ⟨A1,c1,q,rfl,j,g1⟩;have a:=o.grew g1;have z0:=a.cell 0;have z1:=a.cell 1;have z2:=a.cell 2;have f0:=a.frozen 0;have f1:=a.frozen 1;have f2:=a.frozen 2;have r:=a.lt;have s:=m.out.trans g1;have p:=zh (λw2 (ht:Turned (λx=>x=w.heap.size+3) w1 w2)=>j.apart a ht);clear a g1 j;go_wp2_with fail;refine gw (by first | (simp [*,results,Tryz.results82,go_sem];rfl) | simp [*,results,Tryz.results82,go_sem]) rfl ?_;exact ⟨A1,c1,q,rfl,p _ (gT),gG⟩
theorem Sx (h:TabAt w A c xs T) (hs:SmallT T) (n:Int) (n0:-9223372036854775808<=n) (n1:n<=9223372036854775807) (T':Tab) (er:Int) (hr:Bt T id unit (G5 T n)=(T',er)):
 Calls Tryz.prog 84 #[.agg #[.string T.name,.int .i64 T.tracks,.slice A T.labels.length c],.agg #[.int .i64 id,.int .i64 unit],.int .i64 n] w (J8 w T' er):=by
 have b:=((((gK w).alloc (.cells #[.string T.name,.int .i64 T.tracks,.slice A T.labels.length c] 50)).alloc (.cells #[.int .i64 id,.int .i64 unit] 32)).alloc (.cells #[.int .i64 n] 3)).alloc (.cells #[.string ⟨#[]⟩,.int .i64 0,.slice none 0 0] 50);have j:=(((gZ w 50 #[.string T.name,.int .i64 T.tracks,.slice A T.labels.length c] rfl).alloc (.cells #[.int .i64 id,.int .i64 unit] 32)).alloc (.cells #[.int .i64 n] 3)).alloc (.cells #[.string ⟨#[]⟩,.int .i64 0,.slice none 0 0] 50);have l:=((gZ (w.alloc (.cells #[.string T.name,.int .i64 T.tracks,.slice A T.labels.length c] 50)) 32 #[.int .i64 id,.int .i64 unit] (n:=w.heap.size+1) qs).alloc (.cells #[.int .i64 n] 3)).alloc (.cells #[.string ⟨#[]⟩,.int .i64 0,.slice none 0 0] 50);have d:=(gZ ((w.alloc (.cells #[.string T.name,.int .i64 T.tracks,.slice A T.labels.length c] 50)).alloc (.cells #[.int .i64 id,.int .i64 unit] 32)) 3 #[.int .i64 n] (n:=w.heap.size+2) qs).alloc (.cells #[.string ⟨#[]⟩,.int .i64 0,.slice none 0 0] 50);have f:=gZ (((w.alloc (.cells #[.string T.name,.int .i64 T.tracks,.slice A T.labels.length c] 50)).alloc (.cells #[.int .i64 id,.int .i64 unit] 32)).alloc (.cells #[.int .i64 n] 3)) 50 #[.string ⟨#[]⟩,.int .i64 0,.slice none 0 0] (n:=w.heap.size+3) qs;have h0:=h.hold b;have HC:=zh (UY A c xs T id unit _ (w.heap.size+2) h0 hs (G5 T n) (λw1 base g cap xo ys k hk _ ho=>QV _ w1 base g cap xo ys T k hk ho hs n n0 n1 _ d) T' er hr);have m:=zh b;have o:=zh f;clear h hs b j l d f h0;go_enter Tryz.func84,Tryz.ntmps84;go_wp2_with fail;refine HC.mono ?_;rintro e w1 ⟨A1,c1,q,rfl,i,g1⟩;have a:=o.grew g1;have z0:=a.cell 0;have z1:=a.cell 1;have z2:=a.cell 2;have f0:=a.frozen 0;have f1:=a.frozen 1;have f2:=a.frozen 2;have r:=a.lt;have s:=m.out.trans g1;have p:=zh (λw2 (ht:Turned (λx=>x=w.heap.size+3) w1 w2)=>i.apart a ht);clear a g1 i;go_wp2_with fail;refine gw (by first | (simp [*,results,Tryz.results84,go_sem];rfl) | simp [*,results,Tryz.results84,go_sem]) rfl ?_;exact ⟨A1,c1,q,rfl,p _ (gT),gG⟩
theorem Rn (h:TabAt w A c xs T) (hs:SmallT T) (Ax:Option Addr) (cx:Nat) (ex:List (Int × Int)) (hx:RunsAt w w.heap.size Ax ex) (j:ex.length<=1000) (T':Tab) (er:Int) (hr:Bt T id unit (Gf T ex)=(T',er)):
 Calls Tryz.prog 80 #[.agg #[.string T.name,.int .i64 T.tracks,.slice A T.labels.length c],.agg #[.int .i64 id,.int .i64 unit],.slice Ax ex.length cx] w (J8 w T' er):=by
 have b:=((((gK w).alloc (.cells #[.string T.name,.int .i64 T.tracks,.slice A T.labels.length c] 50)).alloc (.cells #[.int .i64 id,.int .i64 unit] 32)).alloc (.cells #[.slice Ax ex.length cx] 33)).alloc (.cells #[.string ⟨#[]⟩,.int .i64 0,.slice none 0 0] 50);have l:=(((gZ w 50 #[.string T.name,.int .i64 T.tracks,.slice A T.labels.length c] rfl).alloc (.cells #[.int .i64 id,.int .i64 unit] 32)).alloc (.cells #[.slice Ax ex.length cx] 33)).alloc (.cells #[.string ⟨#[]⟩,.int .i64 0,.slice none 0 0] 50);have m:=((gZ (w.alloc (.cells #[.string T.name,.int .i64 T.tracks,.slice A T.labels.length c] 50)) 32 #[.int .i64 id,.int .i64 unit] (n:=w.heap.size+1) qs).alloc (.cells #[.slice Ax ex.length cx] 33)).alloc (.cells #[.string ⟨#[]⟩,.int .i64 0,.slice none 0 0] 50);have d:=(gZ ((w.alloc (.cells #[.string T.name,.int .i64 T.tracks,.slice A T.labels.length c] 50)).alloc (.cells #[.int .i64 id,.int .i64 unit] 32)) 33 #[.slice Ax ex.length cx] (n:=w.heap.size+2) qs).alloc (.cells #[.string ⟨#[]⟩,.int .i64 0,.slice none 0 0] 50);have f:=gZ (((w.alloc (.cells #[.string T.name,.int .i64 T.tracks,.slice A T.labels.length c] 50)).alloc (.cells #[.int .i64 id,.int .i64 unit] 32)).alloc (.cells #[.slice Ax ex.length cx] 33)) 50 #[.string ⟨#[]⟩,.int .i64 0,.slice none 0 0] (n:=w.heap.size+3) qs;have h0:=h.hold b;have HC:=zh (UL A c xs T id unit _ (w.heap.size+2) h0 hs (Gf T ex) (λw1 base g cap xo ys k hk _ ho=>RF _ w1 base g cap xo ys T k hk ho hs h.name h.tr0 h.tr1 Ax cx ex (hx.hold b) j _ d) T' er hr);have o:=zh b;have p:=zh f;clear h hs b l m d f h0 hx;go_enter Tryz.func80,Tryz.ntmps80;go_wp2_with fail;refine HC.mono ?_;rintro e w1 ⟨A1,c1,r,rfl,i,g1⟩;have a:=p.grew g1;have z0:=a.cell 0;have z1:=a.cell 1;have z2:=a.cell 2;have f0:=a.frozen 0;have f1:=a.frozen 1;have f2:=a.frozen 2;have s:=a.lt;have t:=o.out.trans g1;have q:=zh (λw2 (ht:Turned (λx=>x=w.heap.size+3) w1 w2)=>i.apart a ht);clear a g1 i;go_wp2_with fail;refine gw (by first | (simp [*,results,Tryz.results80,go_sem];rfl) | simp [*,results,Tryz.results80,go_sem]) rfl ?_;exact ⟨A1,c1,r,rfl,q _ (gT),gG⟩
theorem Rb (h:TabAt w A c xs T) (hs:SmallT T) (a:ByteArray) (m:a.size<=9223372036854775807) (T':Tab) (er:Int) (hr:Bt T id unit (Ig T id a)=(T',er)):
 Calls Tryz.prog 86 #[.agg #[.string T.name,.int .i64 T.tracks,.slice A T.labels.length c],.agg #[.int .i64 id,.int .i64 unit],.string a] w (J8 w T' er):=by
 have d:=((((gK w).alloc (.cells #[.string T.name,.int .i64 T.tracks,.slice A T.labels.length c] 50)).alloc (.cells #[.int .i64 id,.int .i64 unit] 32)).alloc (.cells #[.string a] 9)).alloc (.cells #[.string ⟨#[]⟩,.int .i64 0,.slice none 0 0] 50);have o:=(((gZ w 50 #[.string T.name,.int .i64 T.tracks,.slice A T.labels.length c] rfl).alloc (.cells #[.int .i64 id,.int .i64 unit] 32)).alloc (.cells #[.string a] 9)).alloc (.cells #[.string ⟨#[]⟩,.int .i64 0,.slice none 0 0] 50);have f:=((gZ (w.alloc (.cells #[.string T.name,.int .i64 T.tracks,.slice A T.labels.length c] 50)) 32 #[.int .i64 id,.int .i64 unit] (n:=w.heap.size+1) qs).alloc (.cells #[.string a] 9)).alloc (.cells #[.string ⟨#[]⟩,.int .i64 0,.slice none 0 0] 50);have i:=(gZ ((w.alloc (.cells #[.string T.name,.int .i64 T.tracks,.slice A T.labels.length c] 50)).alloc (.cells #[.int .i64 id,.int .i64 unit] 32)) 9 #[.string a] (n:=w.heap.size+2) qs).alloc (.cells #[.string ⟨#[]⟩,.int .i64 0,.slice none 0 0] 50);have j:=gZ (((w.alloc (.cells #[.string T.name,.int .i64 T.tracks,.slice A T.labels.length c] 50)).alloc (.cells #[.int .i64 id,.int .i64 unit] 32)).alloc (.cells #[.string a] 9)) 50 #[.string ⟨#[]⟩,.int .i64 0,.slice none 0 0] (n:=w.heap.size+3) qs;have h0:=h.hold d;have HC:=zh (T4 A c xs T id unit _ (w.heap.size+2) (w.heap.size+1) h0 hs (Ig T id a) (λw1 base g cap xo ys k hk _ ho=>QQ _ w1 base g cap xo ys T k hk ho hs h.name h.tr0 h.tr1 a m id unit _ _ i f) T' er hr);have p:=zh d;have q:=zh j;clear h hs d o f i j h0;go_enter Tryz.func86,Tryz.ntmps86;go_wp2_with fail;refine HC.mono ?_;rintro e w1 ⟨A1,c1,s,rfl,l,g1⟩;have b:=q.grew g1;have z0:=b.cell 0;have z1:=b.cell 1;have z2:=b.cell 2;have f0:=b.frozen 0;have f1:=b.frozen 1;have f2:=b.frozen 2;have t:=b.lt;have u:=p.out.trans g1;have r:=zh (λw2 (ht:Turned (λx=>x=w.heap.size+3) w1 w2)=>l.apart b ht);clear b g1 l;go_wp2_with fail;refine gw (by first | (simp [*,results,Tryz.results86,go_sem];rfl) | simp [*,results,Tryz.results86,go_sem]) rfl ?_;exact ⟨A1,c1,s,rfl,r _ (gT),gG⟩
theorem bh (h:TabAt w A c xs T) (hs:SmallT T) (a:ByteArray) (l:a.size<=9223372036854775807) (T':Tab) (er:Int) (hr:Bt T id unit (Et T a)=(T',er)):
 Calls Tryz.prog 88 #[.agg #[.string T.name,.int .i64 T.tracks,.slice A T.labels.length c],.agg #[.int .i64 id,.int .i64 unit],.string a] w (J8 w T' er):=by
 have d:=((((gK w).alloc (.cells #[.string T.name,.int .i64 T.tracks,.slice A T.labels.length c] 50)).alloc (.cells #[.int .i64 id,.int .i64 unit] 32)).alloc (.cells #[.string a] 9)).alloc (.cells #[.string ⟨#[]⟩,.int .i64 0,.slice none 0 0] 50);have m:=(((gZ w 50 #[.string T.name,.int .i64 T.tracks,.slice A T.labels.length c] rfl).alloc (.cells #[.int .i64 id,.int .i64 unit] 32)).alloc (.cells #[.string a] 9)).alloc (.cells #[.string ⟨#[]⟩,.int .i64 0,.slice none 0 0] 50);have o:=((gZ (w.alloc (.cells #[.string T.name,.int .i64 T.tracks,.slice A T.labels.length c] 50)) 32 #[.int .i64 id,.int .i64 unit] (n:=w.heap.size+1) qs).alloc (.cells #[.string a] 9)).alloc (.cells #[.string ⟨#[]⟩,.int .i64 0,.slice none 0 0] 50);have f:=(gZ ((w.alloc (.cells #[.string T.name,.int .i64 T.tracks,.slice A T.labels.length c] 50)).alloc (.cells #[.int .i64 id,.int .i64 unit] 32)) 9 #[.string a] (n:=w.heap.size+2) qs).alloc (.cells #[.string ⟨#[]⟩,.int .i64 0,.slice none 0 0] 50);have i:=gZ (((w.alloc (.cells #[.string T.name,.int .i64 T.tracks,.slice A T.labels.length c] 50)).alloc (.cells #[.int .i64 id,.int .i64 unit] 32)).alloc (.cells #[.string a] 9)) 50 #[.string ⟨#[]⟩,.int .i64 0,.slice none 0 0] (n:=w.heap.size+3) qs;have h0:=h.hold d;have HC:=zh (TS A c xs T id unit _ (w.heap.size+2) h0 hs (Et T a) (λw1 base g cap xo ys k hk _ ho=>X9 _ w1 base g cap xo ys T k hk ho a l _ f) T' er hr);have p:=zh d;have q:=zh i;clear h hs d m o f i h0;go_enter Tryz.func88,Tryz.ntmps88;go_wp2_with fail;refine HC.mono ?_;rintro e w1 ⟨A1,c1,s,rfl,j,g1⟩;have b:=q.grew g1;have z0:=b.cell 0;have z1:=b.cell 1;have z2:=b.cell 2;have f0:=b.frozen 0;have f1:=b.frozen 1;have f2:=b.frozen 2;have t:=b.lt;have u:=p.out.trans g1;have r:=zh (λw2 (ht:Turned (λx=>x=w.heap.size+3) w1 w2)=>j.apart b ht);clear b g1 j;go_wp2_with fail;refine gw (by first | (simp [*,results,Tryz.results88,go_sem];rfl) | simp [*,results,Tryz.results88,go_sem]) rfl ?_;exact ⟨A1,c1,s,rfl,r _ (gT),gG⟩
theorem Td (h:TabAt w A c xs T) (hs:SmallT T) (T':Tab) (er:Int) (hr:Bt T id unit (Ju T)=(T',er)):
 Calls Tryz.prog 90 #[.agg #[.string T.name,.int .i64 T.tracks,.slice A T.labels.length c],.agg #[.int .i64 id,.int .i64 unit]] w (J8 w T' er):=by
 have b:=(((gK w).alloc (.cells #[.string T.name,.int .i64 T.tracks,.slice A T.labels.length c] 50)).alloc (.cells #[.int .i64 id,.int .i64 unit] 32)).alloc (.cells #[.string ⟨#[]⟩,.int .i64 0,.slice none 0 0] 50);have i:=((gZ w 50 #[.string T.name,.int .i64 T.tracks,.slice A T.labels.length c] rfl).alloc (.cells #[.int .i64 id,.int .i64 unit] 32)).alloc (.cells #[.string ⟨#[]⟩,.int .i64 0,.slice none 0 0] 50);have j:=(gZ (w.alloc (.cells #[.string T.name,.int .i64 T.tracks,.slice A T.labels.length c] 50)) 32 #[.int .i64 id,.int .i64 unit] (n:=w.heap.size+1) qs).alloc (.cells #[.string ⟨#[]⟩,.int .i64 0,.slice none 0 0] 50);have d:=gZ ((w.alloc (.cells #[.string T.name,.int .i64 T.tracks,.slice A T.labels.length c] 50)).alloc (.cells #[.int .i64 id,.int .i64 unit] 32)) 50 #[.string ⟨#[]⟩,.int .i64 0,.slice none 0 0] (n:=w.heap.size+2) qs;have h0:=h.hold b;have HC:=zh (Tc A c xs T id unit _ h0 hs (Ju T) (λw1 base g cap xo ys k hk _ ho=>Si _ w1 base g cap xo ys T k hk ho) T' er hr);have l:=zh b;have m:=zh d;clear h hs b i j d h0;go_enter Tryz.func90,Tryz.ntmps90;go_wp2_with fail;refine HC.mono ?_;rintro e w1 ⟨A1,c1,p,rfl,f,g1⟩;have a:=m.grew g1;have z0:=a.cell 0;have z1:=a.cell 1;have z2:=a.cell 2;have f0:=a.frozen 0;have f1:=a.frozen 1;have f2:=a.frozen 2;have q:=a.lt;have r:=l.out.trans g1;have o:=zh (λw2 (ht:Turned (λx=>x=w.heap.size+2) w1 w2)=>f.apart a ht);clear a g1 f;go_wp2_with fail;refine gw (by first | (simp [*,results,Tryz.results90,go_sem];rfl) | simp [*,results,Tryz.results90,go_sem]) rfl ?_;exact ⟨A1,c1,p,rfl,o _ (gT),gG⟩
end

def P4 (id unit:Int) (nm nt:ByteArray) (n:Int):Prop:=1<=id/\id<=1099511627776/\1<=unit/\unit<=1099511627776/\nm.size<=31/\nt.size<=400/\1<=n
instance (id unit:Int) (nm nt:ByteArray) (n:Int):Decidable (P4 id unit nm nt n):=by unfold P4;exact inferInstance
def CI (T:Tab) (id unit:Int) (nm nt:ByteArray) (n:Int):Tab × Int:=
 if BG T=true/\P4 id unit nm nt n then
  if T.labels.any (Ih id)=true then (Cq,5)
  else if IR emL T.labels<0 then (Cq,8)
  else if (Bb (AG (Bp T)) n 16).2=0 then ({ T with labels:=T.labels.set (IR emL T.labels).toNat ⟨id,unit,nm,nt,AP (Bb (AG (Bp T)) n 16).1⟩ },0)
  else (Cq,14)
 else (Cq,1)
section
variable (A:Option Addr) (c:Nat) (xs:List LabE) (T:Tab) (id unit:Int) (w:World)
theorem Tf (h:TabAt w A c xs T) (hs:SmallT T) (nm nt:ByteArray) (bs:nm.size<=9223372036854775807) (br:nt.size<=9223372036854775807) (n:Int) (n0:-9223372036854775808<=n) (n1:n<=9223372036854775807) (T':Tab) (er:Int) (hr:CI T id unit nm nt n=(T',er)):
 Calls Tryz.prog 66 #[.agg #[.string T.name,.int .i64 T.tracks,.slice A T.labels.length c],.agg #[.int .i64 id,.int .i64 unit],.string nm,.string nt,.int .i64 n] w (J8 w T' er):=by
 have an:=((((gK w).alloc (.cells #[.string T.name,.int .i64 T.tracks,.slice A T.labels.length c] 50)).alloc (.cells #[.int .i64 id,.int .i64 unit] 32))).alloc (.cells #[.string ⟨#[]⟩,.int .i64 0,.slice none 0 0] 50);have bt:=((gZ w 50 #[.string T.name,.int .i64 T.tracks,.slice A T.labels.length c] rfl).alloc (.cells #[.int .i64 id,.int .i64 unit] 32)).alloc (.cells #[.string ⟨#[]⟩,.int .i64 0,.slice none 0 0] 50);have bv:=(gZ (w.alloc (.cells #[.string T.name,.int .i64 T.tracks,.slice A T.labels.length c] 50)) 32 #[.int .i64 id,.int .i64 unit] (n:=w.heap.size+1) qs).alloc (.cells #[.string ⟨#[]⟩,.int .i64 0,.slice none 0 0] 50);have bx:=gZ ((w.alloc (.cells #[.string T.name,.int .i64 T.tracks,.slice A T.labels.length c] 50)).alloc (.cells #[.int .i64 id,.int .i64 unit] 32)) 50 #[.string ⟨#[]⟩,.int .i64 0,.slice none 0 0] (n:=w.heap.size+1+1) qs;have HV:=zh (EH A c xs T _ (h.hold an) hs _ rfl);have q:=zh h;have HS:=zh hs;have s:=zh an;have R:=zh bt;have t:=zh bv;have u:=zh bx;clear h hs an bt bv bx;cases hv:BG T with
 | false=>
   have hx:CI T id unit nm nt n=(Cq,1):=by unfold CI;rw [if_neg (λh=>by rw [hv] at h;cases h.1)]
   rw [hx] at hr;injection hr with e1 e2;subst e1;subst e2;have r:=zh hv;clear hv hx;go_enter Tryz.func66,Tryz.ntmps66;go_wp2_with fail;refine HV.mono ?_;rintro e w1 ⟨rfl,g1⟩;rw [r.out];have f:=t.grew g1;have r0:=f.cell 0;have r1:=f.cell 1;have m:=f.lt;have a:=u.grew g1;have o:=a.lt;have z0:=a.cell 0;have z1:=a.cell 1;have z2:=a.cell 2;have f0:=a.frozen 0;have f1:=a.frozen 1;have f2:=a.frozen 2;have C:=s.out.trans g1;clear a f g1;go_wp2_with fail;refine gw (by first | (simp [*,results,Tryz.results66,go_sem];rfl) | simp [*,results,Tryz.results66,go_sem]) rfl ?_;exact ⟨none,0,[],rfl,TabAt.zero _,gG⟩
 | true=>
 have I:=zh (show ¬P4 id unit nm nt n->CI T id unit nm nt n=(Cq,1) from λhn=>by unfold CI;rw [if_neg (λh=>hn h.2)]);have cq:=zh (show P4 id unit nm nt n->CI T id unit nm nt n=(if T.labels.any (Ih id)=true then (Cq,5) else if IR emL T.labels<0 then (Cq,8) else if (Bb (AG (Bp T)) n 16).2=0 then ({ T with labels:=T.labels.set (IR emL T.labels).toNat ⟨id,unit,nm,nt,AP (Bb (AG (Bp T)) n 16).1⟩ },0) else (Cq,14)) from λhn=>by unfold CI;rw [if_pos ⟨hv,hn⟩]);have r:=zh hv;clear hv;by_cases a1:1<=id;rotate_left
 . have HE:=zh (I (λhc=>a1 hc.1));rw [HE.out] at hr;injection hr with e1 e2;subst e1;subst e2;go_enter Tryz.func66,Tryz.ntmps66;go_wp2_with fail;refine HV.mono ?_;rintro e w1 ⟨rfl,g1⟩;rw [r.out];have f:=t.grew g1;have r0:=f.cell 0;have r1:=f.cell 1;have m:=f.lt;have a:=u.grew g1;have o:=a.lt;have z0:=a.cell 0;have z1:=a.cell 1;have z2:=a.cell 2;have f0:=a.frozen 0;have f1:=a.frozen 1;have f2:=a.frozen 2;have C:=s.out.trans g1;clear a f g1;go_wp2_with fail;refine gw (by first | (simp [*,results,Tryz.results66,go_sem];rfl) | simp [*,results,Tryz.results66,go_sem]) rfl ?_;exact ⟨none,0,[],rfl,TabAt.zero _,gG⟩
 by_cases a2:id<=1099511627776;rotate_left
 . have HE:=zh (I (λhc=>a2 hc.2.1));rw [HE.out] at hr;injection hr with e1 e2;subst e1;subst e2;go_enter Tryz.func66,Tryz.ntmps66;go_wp2_with fail;refine HV.mono ?_;rintro e w1 ⟨rfl,g1⟩;rw [r.out];have f:=t.grew g1;have r0:=f.cell 0;have r1:=f.cell 1;have m:=f.lt;have a:=u.grew g1;have o:=a.lt;have z0:=a.cell 0;have z1:=a.cell 1;have z2:=a.cell 2;have f0:=a.frozen 0;have f1:=a.frozen 1;have f2:=a.frozen 2;have C:=s.out.trans g1;clear a f g1;go_wp2_with fail;refine gw (by first | (simp [*,results,Tryz.results66,go_sem];rfl) | simp [*,results,Tryz.results66,go_sem]) rfl ?_;exact ⟨none,0,[],rfl,TabAt.zero _,gG⟩
 by_cases a3:1<=unit;rotate_left
 . have HE:=zh (I (λhc=>a3 hc.2.2.1));rw [HE.out] at hr;injection hr with e1 e2;subst e1;subst e2;go_enter Tryz.func66,Tryz.ntmps66;go_wp2_with fail;refine HV.mono ?_;rintro e w1 ⟨rfl,g1⟩;rw [r.out];have f:=t.grew g1;have r0:=f.cell 0;have r1:=f.cell 1;have m:=f.lt;have a:=u.grew g1;have o:=a.lt;have z0:=a.cell 0;have z1:=a.cell 1;have z2:=a.cell 2;have f0:=a.frozen 0;have f1:=a.frozen 1;have f2:=a.frozen 2;have C:=s.out.trans g1;clear a f g1;go_wp2_with fail;refine gw (by first | (simp [*,results,Tryz.results66,go_sem];rfl) | simp [*,results,Tryz.results66,go_sem]) rfl ?_;exact ⟨none,0,[],rfl,TabAt.zero _,gG⟩
 by_cases a4:unit<=1099511627776;rotate_left
 . have HE:=zh (I (λhc=>a4 hc.2.2.2.1));rw [HE.out] at hr;injection hr with e1 e2;subst e1;subst e2;go_enter Tryz.func66,Tryz.ntmps66;go_wp2_with fail;refine HV.mono ?_;rintro e w1 ⟨rfl,g1⟩;rw [r.out];have f:=t.grew g1;have r0:=f.cell 0;have r1:=f.cell 1;have m:=f.lt;have a:=u.grew g1;have o:=a.lt;have z0:=a.cell 0;have z1:=a.cell 1;have z2:=a.cell 2;have f0:=a.frozen 0;have f1:=a.frozen 1;have f2:=a.frozen 2;have C:=s.out.trans g1;clear a f g1;go_wp2_with fail;refine gw (by first | (simp [*,results,Tryz.results66,go_sem];rfl) | simp [*,results,Tryz.results66,go_sem]) rfl ?_;exact ⟨none,0,[],rfl,TabAt.zero _,gG⟩
 by_cases a5:nm.size<=31;rotate_left
 . have HE:=zh (I (λhc=>a5 hc.2.2.2.2.1));have b3:¬(nm.size:Int)<=31:=oo;rw [HE.out] at hr;injection hr with e1 e2;subst e1;subst e2;go_enter Tryz.func66,Tryz.ntmps66;go_wp2_with fail;refine HV.mono ?_;rintro e w1 ⟨rfl,g1⟩;rw [r.out];have f:=t.grew g1;have r0:=f.cell 0;have r1:=f.cell 1;have m:=f.lt;have a:=u.grew g1;have o:=a.lt;have z0:=a.cell 0;have z1:=a.cell 1;have z2:=a.cell 2;have f0:=a.frozen 0;have f1:=a.frozen 1;have f2:=a.frozen 2;have C:=s.out.trans g1;clear a f g1;go_wp2_with fail;refine gw (by first | (simp [*,results,Tryz.results66,go_sem];rfl) | simp [*,results,Tryz.results66,go_sem]) rfl ?_;exact ⟨none,0,[],rfl,TabAt.zero _,gG⟩
 have b3:(nm.size:Int)<=31:=oo;by_cases a6:nt.size<=400;rotate_left
 . have HE:=zh (I (λhc=>a6 hc.2.2.2.2.2.1));have b4:¬(nt.size:Int)<=400:=oo;rw [HE.out] at hr;injection hr with e1 e2;subst e1;subst e2;go_enter Tryz.func66,Tryz.ntmps66;go_wp2_with fail;refine HV.mono ?_;rintro e w1 ⟨rfl,g1⟩;rw [r.out];have f:=t.grew g1;have r0:=f.cell 0;have r1:=f.cell 1;have m:=f.lt;have a:=u.grew g1;have o:=a.lt;have z0:=a.cell 0;have z1:=a.cell 1;have z2:=a.cell 2;have f0:=a.frozen 0;have f1:=a.frozen 1;have f2:=a.frozen 2;have C:=s.out.trans g1;clear a f g1;go_wp2_with fail;refine gw (by first | (simp [*,results,Tryz.results66,go_sem];rfl) | simp [*,results,Tryz.results66,go_sem]) rfl ?_;exact ⟨none,0,[],rfl,TabAt.zero _,gG⟩
 have b4:(nt.size:Int)<=400:=oo;by_cases a7:1<=n;rotate_left
 . have HE:=zh (I (λhc=>a7 hc.2.2.2.2.2.2));rw [HE.out] at hr;injection hr with e1 e2;subst e1;subst e2;go_enter Tryz.func66,Tryz.ntmps66;go_wp2_with fail;refine HV.mono ?_;rintro e w1 ⟨rfl,g1⟩;rw [r.out];have f:=t.grew g1;have r0:=f.cell 0;have r1:=f.cell 1;have m:=f.lt;have a:=u.grew g1;have o:=a.lt;have z0:=a.cell 0;have z1:=a.cell 1;have z2:=a.cell 2;have f0:=a.frozen 0;have f1:=a.frozen 1;have f2:=a.frozen 2;have C:=s.out.trans g1;clear a f g1;go_wp2_with fail;refine gw (by first | (simp [*,results,Tryz.results66,go_sem];rfl) | simp [*,results,Tryz.results66,go_sem]) rfl ?_;exact ⟨none,0,[],rfl,TabAt.zero _,gG⟩
 have d1:decide (id<1)=false:=iC oo;have d2:decide (1099511627776<id)=false:=iC oo;have d3:decide (unit<1)=false:=iC oo;have d4:decide (1099511627776<unit)=false:=iC oo;have d5:decide (31<(nm.size:Int))=false:=iC oo;have d6:decide (400<(nt.size:Int))=false:=iC oo;have d7:decide (n<1)=false:=iC oo;rw [cq.out ⟨a1,a2,a3,a4,a5,a6,a7⟩] at hr;obtain ⟨te,bk⟩:∃te,T.labels.any (Ih id)=te:=⟨_,rfl⟩;rw [bk] at hr;have U:=zh bk;clear bk;cases te with
 | true=>
   rw [if_pos rfl] at hr;injection hr with e1 e2;subst e1;subst e2;go_enter Tryz.func66,Tryz.ntmps66;go_wp2_with fail;refine HV.mono ?_;rintro e w1 ⟨rfl,g1⟩;rw [r.out];have f:=t.grew g1;have r0:=f.cell 0;have r1:=f.cell 1;have m:=f.lt;have a:=u.grew g1;have o:=a.lt;have x:=zh (s.out.trans g1);have p:=zh (R.grew g1);have D:=zh f;have J:=zh a;have b2:=p.cell 2;have j:=p.out.lt;clear a f g1;go_wp2_with fail;refine (GU A c xs T (w.heap.size+1) id unit w1 (q.hold x) HS D _ rfl).mono ?_;rintro e w2 ⟨rfl,g2⟩;rw [U.out];have a:=J.grew g2;have cr:=a.lt;have z0:=a.cell 0;have z1:=a.cell 1;have z2:=a.cell 2;have f0:=a.frozen 0;have f1:=a.frozen 1;have f2:=a.frozen 2;have C:=x.out.trans g2;clear a g2;go_wp2_with fail;refine gw (by first | (simp [*,results,Tryz.results66,go_sem];rfl) | simp [*,results,Tryz.results66,go_sem]) rfl ?_;exact ⟨none,0,[],rfl,TabAt.zero _,gG⟩
 | false=>
 rw [if_neg qs] at hr;rcases ED emL T.labels with ⟨k,hk,hi,-,-⟩ | ⟨hi,-⟩;rotate_left
 . rw [hi,if_pos oo] at hr;injection hr with e1 e2;subst e1;subst e2;have V:=zh hi;clear hi;go_enter Tryz.func66,Tryz.ntmps66;go_wp2_with fail;refine HV.mono ?_;rintro e w1 ⟨rfl,g1⟩;rw [r.out];have f:=t.grew g1;have r0:=f.cell 0;have r1:=f.cell 1;have m:=f.lt;have a:=u.grew g1;have o:=a.lt;have x:=zh (s.out.trans g1);have p:=zh (R.grew g1);have D:=zh f;have J:=zh a;have b2:=p.cell 2;have j:=p.out.lt;clear a f g1;go_wp2_with fail;refine (GU A c xs T (w.heap.size+1) id unit w1 (q.hold x) HS D _ rfl).mono ?_;rintro e w2 ⟨rfl,g2⟩;rw [U.out];have G:=zh (x.out.trans g2);have E:=zh (p.grew g2);have K:=zh (D.grew g2);have M:=zh (J.grew g2);clear b2 j r0 r1 m o g2;have b2:=E.cell 2;have j:=E.out.lt;go_wp2_with fail;refine (J7 A c xs T (w.heap.size+1) id unit w2 (q.hold G) HS K _ rfl).mono ?_;rintro e w3 ⟨rfl,g3⟩;rw [V.out];have a:=M.grew g3;have cr:=a.lt;have z0:=a.cell 0;have z1:=a.cell 1;have z2:=a.cell 2;have f0:=a.frozen 0;have f1:=a.frozen 1;have f2:=a.frozen 2;have C:=G.out.trans g3;clear a g3;go_wp2_with fail;refine gw (by first | (simp [*,results,Tryz.results66,go_sem];rfl) | simp [*,results,Tryz.results66,go_sem]) rfl ?_;exact ⟨none,0,[],rfl,TabAt.zero _,gG⟩
 rw [hi,if_neg oo,iM] at hr;have V:=zh hi;have c8:(k:Int)<(T.labels.length:Int):=oo;obtain ⟨kf,al⟩:∃kf,Bp T=kf:=⟨_,rfl⟩;have cs:kf.length<=128:=by rw [<-al];exact Jk T
 rw [al] at hr;obtain ⟨ka,bl⟩:∃ka,AP (Bb (AG kf) n 16).1=ka:=⟨_,rfl⟩;obtain ⟨Q,bn⟩:∃Q,(Bb (AG kf) n 16).2=Q:=⟨_,rfl⟩;rw [bl,bn] at hr;have b5:=zh al;have b6:=zh bl;have b9:=zh bn;clear hi al bl bn;by_cases h0:Q=0;rotate_left
 . rw [if_neg h0] at hr;injection hr with e1 e2;subst e1;subst e2;have c9:(Q != 0)=true:=by rw [iW];exact h0
   clear h0;go_enter Tryz.func66,Tryz.ntmps66;go_wp2_with fail;refine HV.mono ?_;rintro e w1 ⟨rfl,g1⟩;rw [r.out];have f:=t.grew g1;have r0:=f.cell 0;have r1:=f.cell 1;have m:=f.lt;have a:=u.grew g1;have o:=a.lt;have x:=zh (s.out.trans g1);have p:=zh (R.grew g1);have D:=zh f;have J:=zh a;have b2:=p.cell 2;have j:=p.out.lt;clear a f g1;go_wp2_with fail;refine (GU A c xs T (w.heap.size+1) id unit w1 (q.hold x) HS D _ rfl).mono ?_;rintro e w2 ⟨rfl,g2⟩;rw [U.out];have G:=zh (x.out.trans g2);have E:=zh (p.grew g2);have K:=zh (D.grew g2);have M:=zh (J.grew g2);clear b2 j r0 r1 m o g2;have b2:=E.cell 2;have j:=E.out.lt;go_wp2_with fail;refine (J7 A c xs T (w.heap.size+1) id unit w2 (q.hold G) HS K _ rfl).mono ?_;rintro e w3 ⟨rfl,g3⟩;rw [V.out];have N:=zh (G.out.trans g3);have z:=zh (E.grew g3);have av:=zh (K.grew g3);have a0:=zh (M.grew g3);clear b2 j g3;have b0:=z.cell 0;have b1:=z.cell 1;have b2:=z.cell 2;have j:=z.out.lt;go_wp2_with fail;refine (Ir A c xs T w3 (q.hold N) HS _ rfl kf b5).mono ?_;rintro e w4 ⟨A4,c4,rfl,P,g4⟩;have a8:=zh (N.out.trans g4);have ca:=zh (z.grew g4);have cb:=zh (av.grew g4);have a9:=zh (a0.grew g4);clear b0 b1 b2 j g4;go_wp2_with fail;refine (QB rfl oo P n n0 n1 16 ka Q b6 b9).mono ?_;rintro e w5 ⟨A5,c5,rfl,ae,g5⟩;clear P;have a:=a9.grew g5;have dd:=a.lt;have z0:=a.cell 0;have z1:=a.cell 1;have z2:=a.cell 2;have f0:=a.frozen 0;have f1:=a.frozen 1;have f2:=a.frozen 2;have C:=a8.out.trans g5;clear a g5 ae;go_wp2_with fail;refine gw (by first | (simp [*,results,Tryz.results66,go_sem];rfl) | simp [*,results,Tryz.results66,go_sem]) rfl ?_;exact ⟨none,0,[],rfl,TabAt.zero _,gG⟩
 subst h0;rw [if_pos rfl] at hr;injection hr with e1 e2;subst e2;have ce:=zh e1;clear e1;go_enter Tryz.func66,Tryz.ntmps66;go_wp2_with fail;refine HV.mono ?_;rintro e w1 ⟨rfl,g1⟩;rw [r.out];have f:=t.grew g1;have r0:=f.cell 0;have r1:=f.cell 1;have m:=f.lt;have a:=u.grew g1;have o:=a.lt;have x:=zh (s.out.trans g1);have p:=zh (R.grew g1);have D:=zh f;have J:=zh a;have b2:=p.cell 2;have j:=p.out.lt;clear a f g1;go_wp2_with fail;refine (GU A c xs T (w.heap.size+1) id unit w1 (q.hold x) HS D _ rfl).mono ?_;rintro e w2 ⟨rfl,g2⟩;rw [U.out];have G:=zh (x.out.trans g2);have E:=zh (p.grew g2);have K:=zh (D.grew g2);have M:=zh (J.grew g2);clear b2 j r0 r1 m o g2;have b2:=E.cell 2;have j:=E.out.lt;go_wp2_with fail;refine (J7 A c xs T (w.heap.size+1) id unit w2 (q.hold G) HS K _ rfl).mono ?_;rintro e w3 ⟨rfl,g3⟩;rw [V.out];have N:=zh (G.out.trans g3);have z:=zh (E.grew g3);have av:=zh (K.grew g3);have a0:=zh (M.grew g3);clear b2 j g3;have b0:=z.cell 0;have b1:=z.cell 1;have b2:=z.cell 2;have j:=z.out.lt;go_wp2_with fail;refine (Ir A c xs T w3 (q.hold N) HS _ rfl kf b5).mono ?_;rintro e w4 ⟨A4,c4,rfl,P,g4⟩;have a8:=zh (N.out.trans g4);have ca:=zh (z.grew g4);have cb:=zh (av.grew g4);have a9:=zh (a0.grew g4);clear b0 b1 b2 j g4;go_wp2_with fail;refine (QB rfl oo P n n0 n1 16 ka 0 b6 b9).mono ?_;rintro e w5 ⟨A5,c5,rfl,ae,g5⟩;clear P;have bb:=zh (a8.out.trans g5);have X:=zh (ca.grew g5);have cu:=zh (cb.grew g5);have cf:=zh (a9.grew g5);have Y:=zh ae;clear g5 ae;have b0:=X.cell 0;have b1:=X.cell 1;have b2:=X.cell 2;have j:=X.out.lt;go_wp2_with fail;refine (PG A c xs T w5 (q.hold bb) HS _ rfl).mono ?_;rintro e w6 ⟨v,ys,rfl,l,g6⟩
 obtain ⟨g,cap,rfl,c7,ee⟩:∃g cap,v=.slice (some ⟨g,0,none⟩) T.labels.length cap/\w5.heap.size<=g/\g<w6.heap.size:=by
  rcases l.own.form with ⟨_,h0⟩ | ⟨g,cap,hv,h1,h2,-⟩
  . have:=iH length h0;rw [gO,l.len,length_nil] at this;omega
  . rw [gO,l.len] at hv;exact ⟨g,cap,hv,h1,h2⟩
 have df:k<cap:=by have:=l.own.len.2.1;omega
 obtain ⟨B,d,L,-,-,-⟩:=l.row hk;have y0:w6.cell? ⟨g,k*5,none⟩=some (.int .i64 T.labels[k].id):=l.own.cell0 L rfl;have y1:w6.cell? ⟨g,k*5+1,none⟩=some (.int .i64 T.labels[k].unit):=l.own.cell L (i:=1) rfl;have y2:w6.cell? ⟨g,k*5+2,none⟩=some (.string T.labels[k].name):=l.own.cell L (i:=2) rfl;have y3:w6.cell? ⟨g,k*5+3,none⟩=some (.string T.labels[k].note):=l.own.cell L (i:=3) rfl;have y4:w6.cell? ⟨g,k*5+4,none⟩=some (.slice B T.labels[k].ext.length d):=l.own.cell L (i:=4) rfl;have cv:=l.own.frozen (k*5);have cw:=l.own.frozen (k*5+1);have cx:=l.own.frozen (k*5+2);have cy:=l.own.frozen (k*5+3);have cz:=l.own.frozen (k*5+4);have Z:=cu.grew g6;have c0:=Z.cell 0;have c1:=Z.cell 1;have dk:=Z.lt;have F:=cf.grew g6;have z0:=F.cell 0;have z1:=F.cell 1;have z2:=F.cell 2;have f0:=F.frozen 0;have f1:=F.frozen 1;have f2:=F.frozen 2;have ds:=F.lt;have ch:=cf.out.lt;have ci:LabAt w6 A5 c5 ⟨id,unit,nm,nt,ka⟩:=⟨by simp only;omega,by simp only;omega,by simp only;omega,by simp only;omega,bs,br,(Y.hold g6).1,Y.2.1,Y.2.2.1⟩
 have cj:0<ka.length->∀b off,A5=some ⟨b,off,none⟩->b≠g:=λh0 b off e=>by
  obtain ⟨b',eg,e',ei,_⟩:=Y.1.2 (by simpa using h0);rw [e] at e';injection e' with e';injection e' with e';omega
 have ad:=(l.set5 hk ⟨A5,c5,⟨id,unit,nm,nt,ka⟩⟩ ci cj).hold ((gK _).alloc (.cells #[.string T.name,.int .i64 T.tracks,.slice (some ⟨g,0,none⟩) T.labels.length cap] 50));have bc:=FS w6 g (k*5) (.int .i64 id) (.int .i64 unit) (.string nm) (.string nt) (.slice A5 ka.length c5);have bd:=(F.turned bc oo).alloc (.cells #[.string T.name,.int .i64 T.tracks,.slice (some ⟨g,0,none⟩) T.labels.length cap] 50);have cl:=gZ (((((w6.setCell ⟨g,k*5,none⟩ (.int .i64 id)).setCell ⟨g,k*5+1,none⟩ (.int .i64 unit)).setCell ⟨g,k*5+2,none⟩ (.string nm)).setCell ⟨g,k*5+3,none⟩ (.string nt)).setCell ⟨g,k*5+4,none⟩ (.slice A5 ka.length c5)) 50 #[.string T.name,.int .i64 T.tracks,.slice (some ⟨g,0,none⟩) T.labels.length cap] (n:=w6.heap.size) (by simp [World.setCell]);have cm:=(((bb.out.trans g6)).turn bc (λi e=>by have:=bb.size;omega)).alloc (.cells #[.string T.name,.int .i64 T.tracks,.slice (some ⟨g,0,none⟩) T.labels.length cap] 50);have c2:=zh (ad.apart bd);have co:=zh ad;have H:=zh bd;have O:=zh cl;have c3:=zh ad.nlen;have bf:=zh (show T.name.size<=9223372036854775807/\-9223372036854775808<=T.tracks/\T.tracks<=9223372036854775807 from ⟨q.name,q.tr0,q.tr1⟩);have c6:w.heap.size+1+1<w5.heap.size:=ch;have cp:=zh cm;have d0:w.heap.size+1+1<g:=oo;have ea:w.heap.size+1<g:=oo;clear cm a1 a2 a3 a4 a5 a6 a7 b3 b4 cs n0 n1 bs br c6 c7 ch l L Z F ci cj ad bc bd cl g6 b0 b1 b2 j
 go_upto_region 13 with fail
 obtain ⟨W,hW⟩:∃W,W=(((((w6.setCell ⟨g,k*5,none⟩ (.int .i64 id)).setCell ⟨g,k*5+1,none⟩ (.int .i64 unit)).setCell ⟨g,k*5+2,none⟩ (.string nm)).setCell ⟨g,k*5+3,none⟩ (.string nt)).setCell ⟨g,k*5+4,none⟩ (.slice A5 ka.length c5)).alloc (.cells #[.string T.name,.int .i64 T.tracks,.slice (some ⟨g,0,none⟩) T.labels.length cap] 50):=⟨_,rfl⟩;rw [<-hW];rw [<-hW] at co H O cp;clear hW z0 z1 z2 f0 f1 f2 y0 y1 y2 y3 y4 cv cw cx cy cz c0 c1;have z0:=H.cell 0;have z1:=H.cell 1;have z2:=H.cell 2;have f0:=H.frozen 0;have f1:=H.frozen 1;have f2:=H.frozen 2;have eb:=H.out.lt;have x0:=O.cell 0;have x1:=O.cell 1;have x2:=O.cell 2;have ec:=O.out.lt;go_wp2_with fail;refine gw (by first | (simp [*,results,Tryz.results66,go_sem];rfl) | simp [*,results,Tryz.results66,go_sem]) rfl ?_;refine ⟨some ⟨g,0,none⟩,cap,ys.set k ⟨A5,c5,⟨id,unit,nm,nt,ka⟩⟩,by rw [<-ce.out];simp only [c3.out],?_,by have hg:=cp.out;exact gG⟩;rw [<-ce.out];exact (co.turned (S:=λk=>k=w.heap.size+1+1) (gT) (λg' e=>by have e':g=g':=Option.some.inj e;omega) (λy hy h0 b off e=>c2 y hy h0 b off e)).tabAt _ _ bf.1 bf.2.1 bf.2.2
end

end
section
open Go.RowKit
def D7 (s:ByteArray):List ByteArray:=(List.range (s.size / 128)).map λi=>s.extract (128*i) (128*i+128)
theorem B6 (s:ByteArray):(D7 s).length=s.size / 128:=by unfold D7;simp
theorem GO (s:ByteArray) (i:Nat) (h:i<(D7 s).length):(D7 s)[i]=s.extract (128*i) (128*i+128):=by simp [D7]
theorem SK (a b:ByteArray) (ha:a.size % 128=0):D7 (a++b)=D7 a++D7 b:=by
 have hs:(a++b).size / 128=a.size / 128+b.size / 128:=by rw [gy];omega
 refine jv (by rw [iI,B6,B6,B6,hs]) (λi h1 h2=>?_);rw [B6,hs] at h1;by_cases hi:i<a.size / 128
 . rw [List.getElem_append_left (by rw [B6];exact hi)];rw [GO,GO,ByteArray.extract_append]
   have h0:b.extract (128*i - a.size) (128*i+128 - a.size)=⟨#[]⟩:=by
    have h9:128*i+128 - a.size=0:=oo;have h8:128*i - a.size=0:=oo;rw [h9,h8];apply ByteArray.ext;simp
   rw [h0];exact jW
 . rw [List.getElem_append_right (by rw [B6];omega)];rw [GO,GO,ByteArray.extract_append]
   have h0:a.extract (128*i) (128*i+128)=⟨#[]⟩:=by
    apply ByteArray.ext;simp;omega
   rw [h0,B6];have e1:128*i - a.size=128*(i - a.size / 128):=oo;have e2:128*i+128 - a.size=128*(i - a.size / 128)+128:=oo;rw [e1,e2];exact js
def En (s:ByteArray) (k:Nat):ByteArray:=s.extract (128*k) s.size
theorem UB (s:ByteArray):En s 0=s:=by unfold En;simp
theorem OY (s:ByteArray) (k:Nat) (h:128*k<=s.size):(En s k).size=s.size - 128*k:=by unfold En;simp
theorem Ug (s:ByteArray) (k:Nat) (h:128*k+128<=s.size):(En s k).extract 128 (En s k).size=En s (k+1):=by
 rw [OY s k oo];unfold En;rw [ByteArray.extract_extract];congr 1<;>omega
theorem Th (s:ByteArray) (k:Nat) (h:128*k+128<=s.size):(En s k).extract 0 128=s.extract (128*k) (128*k+128):=by
 unfold En;rw [ByteArray.extract_extract];congr 1;omega
theorem PV (s:ByteArray) (k:Nat) (h:128*k+128<=s.size):(D7 s).take (k+1)=(D7 s).take k++[s.extract (128*k) (128*k+128)]:=by
 have hk:k<(D7 s).length:=by rw [B6];omega
 rw [gU hk];rw [GO]
def Em (T:Tab) (k:Nat):ByteArray:=((T.labels.take k).map λl=>C6 l T.tracks).foldl (·++·) (CX T.name T.tracks)
def AW (T:Tab):List ByteArray:=if BG T=true then D7 (Em T T.labels.length) else []
theorem F5 (T:Tab):Em T 0=CX T.name T.tracks:=rfl
theorem F4 (T:Tab) (k:Nat) (h:k<T.labels.length):Em T (k+1)=Em T k++C6 T.labels[k] T.tracks:=by
 unfold Em;rw [gU h,gm,iz];rfl

end
section
attribute [local go_sem ↓] Go.wp_at_zero Go.wp_at_succ
open Go.RowKit
def FC (s:ByteArray):List Value:=[.string s]
theorem Sw:(Tryz.prog.info? 9).map (λi=>(i.zero,i.size,i.bytes))=some (some (.string ⟨#[]⟩),1,16):=qk

end
section
open Go.Shelf Go.RowKit Go.Lib
def U4:Go.Shelf.Ren:=⟨fun | 6=>43 | 15=>99 | 14=>98 | 28=>174 | 29=>175 | 20=>166 | 21=>167 | 22=>168 | 23=>169 | 24=>170 | 25=>171 | 26=>172 | 27=>173 | 46=>211 | 47=>212 | 48=>213 | 49=>214 | 50=>215 | 57=>236 | n=>n,fun | 22=>58 | 24=>32 | 25=>105 | 3=>3 | 39=>173 | 0=>0 | 53=>176 | 55=>260 | 4=>4 | 46=>253 | 45=>252 | 50=>108 | 5=>5 | 9=>9 | 66=>298 | 70=>302 | 76=>326 | 77=>327 | n=>n,fun | n=>n⟩
theorem aU:Go.Proofs.SlLaysF0.n6 Tryz.prog U4:={
 mixed:=qk
 f6:=⟨Tryz.f43.name,qd,Tryz.func43.trans (iH some qk)⟩
 f14:=⟨Tryz.f98.name,qd,Tryz.func98.trans (iH some qk)⟩
 f15:=Tryz.func99.trans (iH some qk)
 f20:=⟨Tryz.f166.name,qd,Tryz.func166.trans (iH some qk)⟩
 f21:=⟨Tryz.f167.name,qd,Tryz.func167.trans (iH some qk)⟩
 f22:=⟨Tryz.f168.name,qd,Tryz.func168.trans (iH some qk)⟩
 f23:=⟨Tryz.f169.name,qd,Tryz.func169.trans (iH some qk)⟩
 f24:=⟨Tryz.f170.name,qd,Tryz.func170.trans (iH some qk)⟩
 f25:=⟨Tryz.f171.name,qd,Tryz.func171.trans (iH some qk)⟩
 f26:=⟨Tryz.f172.name,qd,Tryz.func172.trans (iH some qk)⟩
 f27:=⟨Tryz.f173.name,qd,Tryz.func173.trans (iH some qk)⟩
 f28:=Tryz.func174.trans (iH some qk)
 f29:=Tryz.func175.trans (iH some qk)
 f46:=⟨Tryz.f211.name,qd,Tryz.func211.trans (iH some qk)⟩
 f47:=Tryz.func212.trans (iH some qk)
 f48:=Tryz.func213.trans (iH some qk)
 f49:=⟨Tryz.f214.name,qd,Tryz.func214.trans (iH some qk)⟩
 f50:=⟨Tryz.f215.name,qd,Tryz.func215.trans (iH some qk)⟩
 f57:=⟨Tryz.f236.name,qd,Tryz.func236.trans (iH some qk)⟩
 t0:=Tryz.underlying0
 a0:=Tryz.isAgg0
 z0:=Tryz.sizeOf0
 v0:=Tryz.zeroValue0
 t3:=Tryz.underlying3
 a3:=Tryz.isAgg3
 z3:=Tryz.sizeOf3
 v3:=Tryz.zeroValue3
 t4:=Tryz.underlying4
 a4:=Tryz.isAgg4
 z4:=Tryz.sizeOf4
 v4:=Tryz.zeroValue4
 t5:=Tryz.underlying5
 a5:=Tryz.isAgg5
 z5:=Tryz.sizeOf5
 v5:=Tryz.zeroValue5
 t9:=Tryz.underlying9
 a9:=Tryz.isAgg9
 z9:=Tryz.sizeOf9
 v9:=Tryz.zeroValue9
 t22:=Tryz.underlying58
 a22:=Tryz.isAgg58
 z22:=Tryz.sizeOf58
 v22:=Tryz.zeroValue58
 t25:=Tryz.underlying105
 a25:=Tryz.isAgg105
 z25:=Tryz.sizeOf105
 v25:=Tryz.zeroValue105
 t39:=Tryz.underlying173
 a39:=Tryz.isAgg173
 z39:=Tryz.sizeOf173
 v39:=Tryz.zeroValue173
 t45:=Tryz.underlying252
 a45:=Tryz.isAgg252
 z45:=Tryz.sizeOf252
 v45:=Tryz.zeroValue252
 t46:=Tryz.underlying253
 a46:=Tryz.isAgg253
 z46:=Tryz.sizeOf253
 v46:=Tryz.zeroValue253
 t50:=Tryz.underlying108
 a50:=Tryz.isAgg108
 z50:=Tryz.sizeOf108
 v50:=Tryz.zeroValue108
 t53:=Tryz.underlying176
 a53:=Tryz.isAgg176
 z53:=Tryz.sizeOf176
 v53:=Tryz.zeroValue176
 t55:=Tryz.underlying260
 a55:=Tryz.isAgg260
 z55:=Tryz.sizeOf260
 v55:=Tryz.zeroValue260
 t66:=Tryz.underlying298
 a66:=Tryz.isAgg298
 z66:=Tryz.sizeOf298
 v66:=Tryz.zeroValue298
 t70:=Tryz.underlying302
 a70:=Tryz.isAgg302
 z70:=Tryz.sizeOf302
 v70:=Tryz.zeroValue302
 t76:=Tryz.underlying326
 a76:=Tryz.isAgg326
 z76:=Tryz.sizeOf326
 v76:=Tryz.zeroValue326
 t77:=Tryz.underlying327
 a77:=Tryz.isAgg327
 z77:=Tryz.sizeOf327
 v77:=Tryz.zeroValue327
 }

end
section
attribute [local go_sem ↓] Go.wp_at_zero Go.wp_at_succ
open Go.RowKit Go.Shelf Go.Lib
def EQ (a:Int × Int):List Value:=[.int .i64 a.1,.int .i64 a.2]
def ltP (a b:Int × Int):Prop:=a.1<b.1\/a.1=b.1/\a.2<b.2
instance (a b:Int × Int):Decidable (ltP a b):=by unfold ltP;exact inferInstance
def IQ (a b:Int):Int:=if a<b then -1 else if b<a then 1 else 0
def TM (x y:Int × Int):Int:=if IQ x.1 y.1=0 then IQ x.2 y.2 else IQ x.1 y.1
theorem Ms (x y:Int × Int):Go.Proofs.ltOf TM x y=true↔ltP x y:=by
 unfold Go.Proofs.ltOf TM IQ ltP;rw [iV];repeat' split
 all_goals omega
theorem swP:Go.Sort.SWO (Go.Proofs.ltOf TM) where
 irrefl x:=by
  cases h:Go.Proofs.ltOf TM x x with
  | false=>rfl
  | true=>have:=(Ms x x).1 h;unfold ltP at this;omega
 trans x y z h1 h2:=by
  rw [Ms] at h1 h2 ⊢;unfold ltP at*
  omega
 ntrans x y z h1 h2:=by
  rw [<-jE] at h1 h2 ⊢;rw [Ms] at h1 h2 ⊢;unfold ltP at*
  omega
def SN:List (Int × Int)->Int × Int->List (Int × Int)
 | [],x=>[x]
 | y::l,x=>if ltP x y then x::y::l else y::SN l x
def Ga (l:List (Int × Int)):List (Int × Int):=l.foldl SN []
theorem Pn (x:Int × Int):∀l,(SN l x).Perm (x::l):=by
 intro l
 induction l with
 | nil=>exact List.Perm.refl _
 | cons y l ih=>
   unfold SN;split
   . exact List.Perm.refl _
   . exact (List.Perm.cons y ih).trans (List.Perm.swap x y l)
theorem Uw:∀(l b:List (Int × Int)),(l.foldl SN b).Perm (b++l):=by
 intro l
 induction l with
 | nil=>intro b;simp
 | cons x l ih=>
   intro b;refine (ih _).trans ?_;refine ((Pn x b).append_right l).trans ?_;simpa using (perm_middle (a:=x) (l₁:=b) (l₂:=l)).symm
theorem KK (l:List (Int × Int)):(Ga l).Perm l:=by simpa [Ga] using Uw l []
theorem Rh (x:Int × Int):∀l:List (Int × Int),l.Pairwise (λa b=>¬ltP b a)->(SN l x).Pairwise (λa b=>¬ltP b a):=by
 intro l
 induction l with
 | nil=>intro _;exact pairwise_singleton _ _
 | cons y l ih=>
   intro h;obtain ⟨h1,h2⟩:=jQ.1 h;unfold SN;split
   . rename_i hxy;refine jQ.2 ⟨λz hz=>?_,h⟩;rcases jB.1 hz with rfl | hz
     . unfold ltP at*;omega
     . have:=h1 z hz;unfold ltP at*;omega
   . rename_i hxy;refine jQ.2 ⟨λz hz=>?_,ih h2⟩;rcases jB.1 ((Pn x l).subset hz) with rfl | hz
     . exact hxy
     . exact h1 z hz
theorem Qq (l:List (Int × Int)):(Ga l).Pairwise (λa b=>¬ltP b a):=by
 have d:∀(l c:List (Int × Int)),c.Pairwise (λa b=>¬ltP b a)->(l.foldl SN c).Pairwise (λa b=>¬ltP b a):=by
  intro l
  induction l with
  | nil=>intro c h;exact h
  | cons x l ih=>intro c h;exact ih _ (Rh x c h)
 exact d l [] Pairwise.nil
theorem SI:∀(a b:List (Int × Int)),a.Perm b->a.Pairwise (λa b=>¬ltP b a)->b.Pairwise (λa b=>¬ltP b a)->a=b:=by
 intro a
 induction a with
 | nil=>intro b hp _ _;exact hp.nil_eq
 | cons x a ih=>
   intro b hp ha hb;cases b with
   | nil=>exact absurd hp.length_eq qs
   | cons y b=>
     have c:x=y:=by
      have h1:x∈y::b:=hp.subset (iO ..);have h2:y∈x::a:=hp.symm.subset (iO ..);rcases jB.1 h1 with h1 | h1
      . exact h1
      . rcases jB.1 h2 with h2 | h2
        . exact h2.symm
        . have e1:=(jQ.1 ha).1 y h2;have e2:=(jQ.1 hb).1 x h1;obtain ⟨x1,x2⟩:=x;obtain ⟨y1,y2⟩:=y;unfold ltP at e1 e2;simp only at e1 e2;exact Prod.ext (by simp only;omega) (by simp only;omega)
     subst c;rw [ih b ((perm_cons x).1 hp) (jQ.1 ha).2 (jQ.1 hb).2]
theorem af (l d:List (Int × Int)) (hp:d.Perm l) (hs:∀i j (hi:i<d.length) (hj:j<d.length),i<j->¬ltP d[j] d[i]):d=Ga l:=
 SI _ _ (hp.trans (KK l).symm) (jr.2 hs) (Qq l)
theorem Jo (a:Int) (w:World):Calls Tryz.prog 100 #[.int .i64 a] w λe w'=>e=.returned (.bool false)/\w=w':=by
 go_enter Tryz.func100,Tryz.ntmps100;go_wp2_with fail;go_ret;exact ⟨AE qs,rfl⟩
theorem ML (a b:Int) (w:World):Calls Tryz.prog 46 #[.int .i64 a,.int .i64 b] w λe w'=>e=.returned (.int .i64 (IQ a b))/\w=w':=by
 by_cases h1:a<b
 . have HE:=zh (show IQ a b=-1 from if_pos h1);go_enter Tryz.func46,Tryz.ntmps46;go_wp2_with fail;refine (Jo _ _).mono ?_;rintro e w1 ⟨rfl,rfl⟩;go_wp2_with fail;refine (Jo _ _).mono ?_;rintro e w1 ⟨rfl,rfl⟩;go_wp2_with fail;go_ret;exact ⟨CH (by rw [HE.out]),rfl⟩
 . by_cases h2:b<a
   . have HE:=zh (show IQ a b=1 from by unfold IQ;rw [if_neg h1,if_pos h2]);go_enter Tryz.func46,Tryz.ntmps46;go_wp2_with fail;refine (Jo _ _).mono ?_;rintro e w1 ⟨rfl,rfl⟩;go_wp2_with fail;refine (Jo _ _).mono ?_;rintro e w1 ⟨rfl,rfl⟩;go_wp2_with fail;go_ret;exact ⟨CH (by rw [HE.out]),rfl⟩
   . have HE:=zh (show IQ a b=0 from by unfold IQ;rw [if_neg h1,if_neg h2]);go_enter Tryz.func46,Tryz.ntmps46;go_wp2_with fail;refine (Jo _ _).mono ?_;rintro e w1 ⟨rfl,rfl⟩;go_wp2_with fail;refine (Jo _ _).mono ?_;rintro e w1 ⟨rfl,rfl⟩;go_wp2_with fail;go_ret;exact ⟨CH (by rw [HE.out]),rfl⟩
theorem fC (a b r:Int) (hr:(if a=0 then b else a)=r) (g:Nat) (w:World) (hb:Blk w g 3 #[.int .i64 a,.int .i64 b]):Calls Tryz.prog 45 #[.slice (some ⟨g,0,none⟩) 2 2] w λe w'=>e=.returned (.int .i64 r)/\w=w':=by
 have HR:=zh hr;clear hr;have x0:=hb.cell 0;have x1:=hb.cell 1;have hl:=hb.lt;go_enter Tryz.func45,Tryz.ntmps45;go_wp2_with fail
 go_loopg [8] 2 (λgk i wr=>w=wr/\∃k:Nat,k<=2/\gk=2 - k/\i=.int .i64 k/\(1<=k->a=0)/\(2<=k->b=0))
 case atStart=>exact ⟨rfl,0,oo,oo,rfl,λh=>oo,λh=>oo⟩
 case round=>
  obtain ⟨rfl,k,hk,d,rfl,ha,f⟩:=hrel;have c:=zh d;have HA:=zh ha;have HB:=zh f;clear d ha f;have j:k=0\/k=1\/k=2:=oo;rcases j with rfl | rfl | rfl
  . cases h1:(a != 0) with
    | true=>
      have HE:=zh (show r=a from HR.out.symm.trans (if_neg (by simpa using h1)));go_wp2_with fail;go_ret;exact ⟨CH (by rw [HE.out]),rfl⟩
    | false=>
      have ha:=zh (show a=0 by simpa using h1);go_wp2_with fail
      go_roundg 1
      case measure=>rw [c.out];omega
      case rel=>exact ⟨rfl,1,oo,oo,by go_num,λ_=>ha.out,λh=>oo⟩
  . cases h1:(b != 0) with
    | true=>
      have HE:=zh (show r=b from HR.out.symm.trans (if_pos (HA.out oo)));go_wp2_with fail;go_ret;exact ⟨CH (by rw [HE.out]),rfl⟩
    | false=>
      have hb:=zh (show b=0 by simpa using h1);go_wp2_with fail
      go_roundg 0
      case measure=>rw [c.out];omega
      case rel=>exact ⟨rfl,2,oo,oo,by go_num,λ_=>HA oo,λ_=>hb.out⟩
  . have HE:=zh (show r=0 from HR.out.symm.trans ((if_pos (HA.out oo)).trans (HB.out oo)));go_wp2_with fail;go_ret;exact ⟨CH (by rw [HE.out]),rfl⟩
theorem WJ (x y:Int × Int) (W:World):Calls Tryz.prog 44 #[.agg (EQ x).toArray,.agg (EQ y).toArray] W λe w'=>e=.returned (.int .i64 (TM x y))/\∃q os',w'=Go.Sort.grow (W.drewN q) os':=by
 obtain ⟨x1,x2⟩:=x;obtain ⟨y1,y2⟩:=y;show Calls Tryz.prog 44 #[.agg #[.int .i64 x1,.int .i64 x2],.agg #[.int .i64 y1,.int .i64 y2]] W _;have HC:=zh (show TM (x1,x2) (y1,y2)=if IQ x1 y1=0 then IQ x2 y2 else IQ x1 y1 from rfl);have a:=(gZ W 32 #[.int .i64 x1,.int .i64 x2] rfl).alloc (.cells #[.int .i64 y1,.int .i64 y2] 32);have b:=gZ (W.alloc (.cells #[.int .i64 x1,.int .i64 x2] 32)) 32 #[.int .i64 y1,.int .i64 y2] (n:=W.heap.size+1) qs;have hS:(λw':World=>w'.cell? ⟨W.heap.size,0,none⟩=some (.int .i64 x1)/\w'.cell? ⟨W.heap.size,1,none⟩=some (.int .i64 x2)/\w'.cell? ⟨W.heap.size+1,0,none⟩=some (.int .i64 y1)/\w'.cell? ⟨W.heap.size+1,1,none⟩=some (.int .i64 y2)) ((W.alloc (.cells #[.int .i64 x1,.int .i64 x2] 32)).alloc (.cells #[.int .i64 y1,.int .i64 y2] 32)).drew:=⟨a.drew.cell 0,a.drew.cell 1,b.drew.cell 0,b.drew.cell 1⟩;have c:=(gZ ((W.alloc (.cells #[.int .i64 x1,.int .i64 x2] 32)).alloc (.cells #[.int .i64 y1,.int .i64 y2] 32)) 3 #[.int .i64 (IQ x1 y1),.int .i64 (IQ x2 y2)] (n:=W.heap.size+1+1) qs).drew;have d:=zh (λw=>ML x1 y1 w);have f:=zh (λw=>ML x2 y2 w);obtain ⟨r,hr⟩:∃r,TM (x1,x2) (y1,y2)=r:=⟨_,rfl⟩;have g:=zh (fC (IQ x1 y1) (IQ x2 y2) r (HC.out.symm.trans hr) _ _ c);rw [hr];generalize IQ x1 y1=q1 at*
 generalize IQ x2 y2=q2 at*
 clear hr;clear a b c;go_enter Tryz.func44,Tryz.ntmps44;go_wp2_with fail;refine AB [10] (λw':World=>w'.cell? ⟨W.heap.size,0,none⟩=some (.int .i64 x1)/\w'.cell? ⟨W.heap.size,1,none⟩=some (.int .i64 x2)/\w'.cell? ⟨W.heap.size+1,0,none⟩=some (.int .i64 y1)/\w'.cell? ⟨W.heap.size+1,1,none⟩=some (.int .i64 y2)) qk ?_;refine tQ 0 5 ?_;refine tT 1 (some 6) hS ?_;refine tQ 2 7 ?_;refine tT 3 (some 8) hS ?_;refine tQ 5 10 ?_;refine tT 6 (some 11) hS ?_;refine tQ 7 12 ?_;refine tT 8 (some 13) hS ?_;refine tO 4 λK' hK=>?_;go_wp2_with fail;refine (d _).mono ?_;rintro e w1 ⟨rfl,rfl⟩;go_wp2_with fail;refine hK.out _ _ (.inr (λh=>h)) ?_;clear hK;refine tO 9 λK' hK=>?_;go_wp2_with fail;refine (f _).mono ?_;rintro e w1 ⟨rfl,rfl⟩;go_wp2_with fail;refine hK.out _ _ (.inr (λh=>h)) ?_;clear hK;refine tO 10 λK' hK=>?_;go_wp2_with fail;refine hK.out _ _ (.inl rfl) ?_;clear hK;refine tO 11 λK' hK=>?_;go_wp2_with fail;refine g.mono ?_;rintro e w1 ⟨rfl,rfl⟩;go_wp2_with fail;refine hK.out _ _ (.inr (λh=>h)) ?_;clear hK;refine tQ 12 4 ?_;refine AA qk ?_ _;go_wp2_with fail;go_ret;exact ⟨rfl,1,_,by rw [Go.Sort.alloc_eq_grow,Go.Sort.alloc_eq_grow,Go.Sort.alloc_eq_grow,Go.Sort.grow_grow,Go.Sort.grow_grow];rfl⟩

theorem NS (w:World) (g m:Nat) (d:Array (Int × Int)) (os:Array Obj):Turned (λi=>i=g) w (Go.Proofs.sortWorldK EQ 2 w g 0 m d os):=by
 refine ⟨rfl,rfl,rfl,?_,λk hk hs=>?_⟩
 . exact Go.Proofs.size_sortWorldK_c EQ 2 w g 0 m d os
 . unfold Go.Proofs.sortWorldK Go.Sort.grow Go.Sort.putRowK Go.Sort.putRow Go.Sort.mapBlock Go.Sort.ahead;show (w.heap.modify g _++os)[k]? =w.heap[k]?;rw [Array.getElem?_append_left (by rw [Array.size_modify];exact hk),jd,if_neg (λe=>hs e.symm)]
theorem I4 (d:Array (Int × Int)):(d.extract 0 d.size).toList=d.toList:=by rw [Array.extract_size]
theorem QT (d:Array (Int × Int)) (i:Nat) (h:i<d.size):d[i]! =d.toList[i]'(by rw [ig];exact h):=by
 rw [getElem!_pos d i h,Array.getElem_toList]
theorem U3 {w:World} {base g cap:Nat} {N:List (Int × Int)} (h:OwnL w base 32 2 (.slice (some ⟨g,0,none⟩) N.length cap) (N.map EQ)):Go.Sort.HoldsK EQ 2 w g 0 N.toArray:=by
 intro t ht;have a:t<N.length*2:=by simpa using ht
 have hj:t / 2<N.length:=oo;rw [Go.Sort.get_flatK _ _ _ _ (by simpa using a),ji]
 have b:(N.toArray)[t / 2]! =N[t / 2]:=by
  rw [getElem!_pos _ _ (by simpa using hj)];simp
 have c:(N.map EQ)[t / 2]? =some (EQ N[t / 2]):=by rw [gP,gJ hj];rfl
 rw [b];refine ⟨?_,h.frozen t⟩;have hm:t=t / 2*2+t % 2:=oo;have d:t % 2<2:=jx _ qd
 have hu:(EQ N[t / 2])[t % 2]? =some ((EQ N[t / 2])[t % 2]!):=by
  have e:(EQ N[t / 2]).length=2:=rfl;rw [gJ oo,getElem!_pos _ _ oo]
 have:=h.cell (j:=t / 2) (i:=t % 2) c hu;rwa [<-hm] at this
theorem YS {w:World} {g:Nat} {d:Array (Int × Int)} (h:Go.Sort.HoldsK EQ 2 w g 0 d) (hg:g<w.heap.size):ListAt w w.heap.size 2 (some ⟨g,0,none⟩) (d.toList.map EQ):=by
 refine λ_=>⟨g,0,rfl,hg,λj cs hj i v hi=>?_⟩;rw [gP] at hj;cases hx:d.toList[j]? with
 | none=>rw [hx] at hj;cases hj
 | some x=>
   rw [hx] at hj;have f:j<d.toList.length:=(iG.1 hx).1;have b:j<d.size:=by rw [<-ig];exact f
   injection hj with hj;have e:cs=EQ x:=hj.symm;have a:i<cs.length:=(iG.1 hi).1;have k:i<2:=by rw [e] at a;exact a
   have hc:=(h.cell (i:=j) (c:=i) b k).1
   have l:d[j]! =x:=by
    rw [QT d j b];exact (iG.1 hx).2
   rw [l,<-e,getElem!_pos cs i a] at hc;rw [hc,(iG.1 hi).2]
theorem YF (g cap:Nat) (N:List (Int × Int)) (hN:N.length<=100000) (w:World) (base:Nat) (c:OwnL w base 32 2 (.slice (some ⟨g,0,none⟩) N.length cap) (N.map EQ)):
 Calls Tryz.prog 43 #[.slice (some ⟨g,0,none⟩) N.length cap,.func (.func 44) #[] #[]] w λe w'=>e=.returned (.tuple #[])/\Turned (λi=>i=g) w w'/\ListAt w' w'.heap.size 2 (some ⟨g,0,none⟩) ((Ga N).map EQ):=by
 have hg:g<w.heap.size:=by
  rcases c.form with ⟨h,_⟩ | ⟨g',_,h,_,h2,_⟩
  . cases h
  . injection h with h;injection h with h;injection h with h;omega
 have hH:=U3 c;have a:N.toArray.size=N.length:=qs;have f:N.toArray.toList=N:=qs;obtain ⟨d,hd⟩:∃d,N.toArray=d:=⟨_,rfl⟩;rw [hd] at hH a f;have eg:∀args w,(callFunc 44 args).run Tryz.prog w=.ok (.enter 44 args) w:=BV Tryz.func44 qk rfl;have b:=Go.Proofs.AnyQ.slices_SortFunc aU 2 Tryz.isAgg32 Tryz.sizeOf32 EQ (λ_=>rfl) (λx v hv=>by simp [EQ] at hv;rcases hv with rfl | rfl<;>rfl) TM swP 44 #[] g 0 cap d w eg (λm os dk hs x y=>WJ x y _) hH hg (by rw [a];omega);change Calls Tryz.prog 43 _ _ _ at b;rw [a] at b;refine b.mono ?_;rintro e w' ⟨rfl,d',n,os,hp,hs,rfl⟩;refine ⟨rfl,NS w g n d' os,?_⟩;have k:d'.size=d.size:=hp.1;have hh:=YS (d:=d') (Go.Proofs.holdsK_sortWorldK_c EQ 2 w g 0 d d' n os hH hg k) (gW hg (Go.Proofs.size_sortWorldK_c EQ 2 w g 0 n d' os))
 have he:d'.toList=Ga N:=by
  refine af N _ ?_ ?_
  . have h3:=hp.2.2;rw [<-a,I4 d,<-k,I4 d'] at h3;rw [<-f];exact h3
  . intro i j hi hj l o;rw [ig] at hi hj;have h4:=hs i j (ia _) l oo;rw [QT d' j hj,QT d' i hi] at h4;rw [(Ms _ _).2 o] at h4;cases h4
 rw [he] at hh;exact hh
theorem WK (N:List (Int × Int)) (hN:N.length<=100000) (w:World) (base:Nat) (v:Value) (a:OwnL w base 32 2 v (N.map EQ)):
 ∃A c,v=.slice A (Ga N).length c/\Calls Tryz.prog 43 #[.slice A (Ga N).length c,.func (.func 44) #[] #[]] w λe w'=>e=.returned (.tuple #[])/\Turned (λi=>base<=i) w w'/\ListAt w' w'.heap.size 2 A ((Ga N).map EQ):=by
 have d:(Ga N).length=N.length:=(KK N).length_eq;rcases a.form with ⟨rfl,h0⟩ | ⟨g,cap,rfl,hg,l,_⟩
 . have j:N.length=0:=by have:=iH length h0;simpa using this
   have b:(Ga N).length=0:=oo;refine ⟨none,0,by rw [b],?_⟩;rw [b];have f:=Go.Proofs.AnyF.slices_SortFunc_none aU none 0 (.func (.func 44) #[] #[]) w;change Calls Tryz.prog 43 _ _ _ at f;refine f.mono ?_;rintro e w' ⟨rfl,rfl⟩;refine ⟨rfl,iR _ _,?_⟩;rw [eq_nil_of_length_eq_zero b];exact λh=>absurd h qd
 . rw [gO] at a ⊢;refine ⟨some ⟨g,0,none⟩,cap,by rw [d],?_⟩;rw [d];refine (YF g cap N hN w base a).mono ?_;rintro e w' ⟨rfl,ht,hr⟩;exact ⟨rfl,ht.mono (λk _ hk=>by subst hk;exact hg),hr⟩
def Jq (ls:List Lab):List (Int × Int):=(ls.filter λl=>!emL l).map λl=>(l.id,l.unit)
def eV (T:Tab):List (Int × Int):=Ga (Jq T.labels)
theorem XX (ls:List Lab) (k:Nat) (h:k<ls.length):Jq (ls.take (k+1))=Jq (ls.take k)++(if emL ls[k]=true then [] else [(ls[k].id,ls[k].unit)]):=by
 unfold Jq;rw [gU h,jb,gm];congr 1;cases hm:emL ls[k]<;>simp [hm]
theorem Rq (ls:List Lab) (k:Nat):(Jq (ls.take k)).length<=k:=by
 unfold Jq;rw [gO];have:=jY (λl=>!emL l) (ls.take k);rw [i8] at this;omega
theorem Sh:(Tryz.prog.info? 32).map (λi=>(i.zero,i.size,i.bytes))=some (some (.agg #[.int .i64 0,.int .i64 0]),2,16):=qk
theorem WG (A:Option Addr) (c:Nat) (xs:List LabE) (T:Tab) (w:World) (h:TabAt w A c xs T) (hs:SmallT T) (n:Nat) (hn:n=T.labels.length) (kf:List (Int × Int)) (t:eV T=kf):
 Calls Tryz.prog 14 #[.agg #[.string T.name,.int .i64 T.tracks,.slice A n c]] w λe w'=>∃A c,e=.returned (.slice A kf.length c)/\ListAt w' w'.heap.size 2 A (kf.map EQ)/\Grew w w'/\∀b off,A=some ⟨b,off,none⟩->w.heap.size<=b:=by
 subst hn;have Z:=hs.len;have u:=(gK w).alloc (.cells #[.string T.name,.int .i64 T.tracks,.slice A T.labels.length c] 50);have v:=gZ w 50 #[.string T.name,.int .i64 T.tracks,.slice A T.labels.length c] rfl;have I:=zh h;have HS:=zh hs;have J:=zh t;clear h hs t;have x2:=v.cell 2;go_enter Tryz.func14,Tryz.ntmps14;go_wp2_with fail
 go_loopg [3,9] T.labels.length (λgk ov i wr=>∃k:Nat,k<=T.labels.length/\gk=T.labels.length - k/\i=.int .i64 k/\OwnL wr w.heap.size 32 2 ov ((Jq (T.labels.take k)).map EQ)/\Grew w wr)
 case atStart=>exact ⟨0,oo,oo,rfl,OwnL.nil _ _ _ _,u⟩
 case round=>
  obtain ⟨k,hk,F,rfl,a,hg⟩:=hrel;have x:=zh F;have K:=zh a;have HG:=zh hg;have ad:=hg.size;have L:=Rq T.labels k;clear F x2 v u;by_cases s:k<T.labels.length
  . obtain ⟨b,off,B,d,l,rfl,a0,X,hv,G,c0,c1,c2,c3,c4⟩:=(I.hold hg).at_ s;have y:=HS.ext T.labels[k] (gS s);rw [hv] at y;have p:=XX T.labels k s;rw [hv] at p;have z:=zh p;have q:Grew wr (wr.alloc (.cells #[.int .i64 l.id,.int .i64 l.unit,.string l.name,.string l.note,.slice B l.ext.length d] 100)):=(gK wr).alloc _;have HE:=zh (LO B d l _ (G.hold q) y);have M:=zh (gZ wr 100 #[.int .i64 l.id,.int .i64 l.unit,.string l.name,.string l.note,.slice B l.ext.length d] rfl);have N:=zh q;clear hv X G p q a hg;go_wp2_with fail;refine HE.mono ?_;rintro e w3 ⟨rfl,g3⟩;have j:=N.out.trans g3;have f:=M.grew g3;have y0:=f.cell 0;have y1:=f.cell 1;have ae:=f.lt;have m:=K.grew j;have r:=zh (HG.out.trans j);have O:=r.size;cases o:emL l with
    | true=>
      have HF:=zh (show Jq (T.labels.take (k+1))=Jq (T.labels.take k) from by rw [z.out,if_pos o,append_nil]);have HO:=zh m;clear o f m j g3 c0 c1 c2 c3 c4;go_wp2_with fail
      go_roundg (T.labels.length - (k+1))
      case measure=>rw [x.out];omega
      case rel=>exact ⟨k+1,oo,oo,by go_num,by rw [HF.out];exact HO.out,r⟩
    | false=>
      have HF:=zh (show Jq (T.labels.take (k+1))=Jq (T.labels.take k)++[(l.id,l.unit)] from by rw [z.out,if_neg (by rw [o];simp)]);have al:=m.row_ge;clear o f j g3 c0 c1 c2 c3 c4;go_wp2_with (at_builtin;refine C2 rfl _ _ 58 rfl w.heap.size 32 2 16 _ Tryz.underlying58 Sh rfl qd w3 _ ((Jq (T.labels.take k)).map EQ) (EQ (l.id,l.unit)) (by rfl) rfl rfl m (by first | rfl | (simp;done)) rfl rfl (by rw [gO];omega) (by rw [gO];omega) O ?_;intro v' w5 V W an av)
      go_roundg (T.labels.length - (k+1))
      case measure=>rw [x.out];omega
      case rel=>exact ⟨k+1,oo,oo,by go_num,by rw [HF.out,gm];exact V,W _ r (gM _)⟩
  . have P:k=T.labels.length:=oo;subst P;rw [jU] at a L;obtain ⟨A1,c1,Y,H⟩:=WK (Jq T.labels) oo wr w.heap.size _ a;subst Y;have C:=zh H;have Q:=zh (show ∀b off,A1=some ⟨b,off,none⟩->w.heap.size<=b from λb off e=>(a.own_ge (g:=b) (by rw [e];rfl)).1);have R:=zh (show Ga (Jq T.labels)=kf from J.out);rw [R.out] at C ⊢;clear H a hg;go_wp2_with fail;refine C.mono ?_;rintro e w7 ⟨rfl,D,E⟩;have S:=zh (HG.turn D (λi hi=>hi));have U:=zh E;clear D E;go_wp2_with fail;go_ret;exact ⟨_,_,rfl,U,S,Q⟩

end
section
attribute [local go_sem ↓] Go.wp_at_zero Go.wp_at_succ
open Go.RowKit
theorem OwnL.lower2 {w:World} {b b' e sz:Nat} {v:Value} {rows:List (List Value)} (h:OwnL w b e sz v rows) (hb:b'<=b):OwnL w b' e sz v rows:=by
 refine ⟨h.1,h.2.1,?_⟩;rcases h.2.2 with h0 | ⟨g,cap,a,h1,h2,h3⟩
 . exact .inl h0
 . exact .inr ⟨g,cap,a,h1,gY hb h2,h3⟩

theorem OD (t:Int) (ht:okT t=true) (l:Lab) (h:emL l=true\/BW l t=true):(C6 l t).size=1024:=by
 rcases h with h | h
 . unfold C6;rw [if_pos ⟨ht,h⟩];exact Fx _ _ qd
 . exact Ph l t h
theorem PK (T:Tab) (h:BG T=true):(CX T.name T.tracks).size=1024:=by
 have hg:=(AX T).1 h;have hp:Jy T.name:=iQ hg.nm;unfold CX;rw [if_pos ⟨hg.nm,hg.tr⟩];refine Fx _ _ ?_;have:=hp.2.1;have z1:=Br T.name.size;have z2:=Br T.tracks.toNat;rw [gy,gy];omega
theorem G8 (T:Tab) (h:BG T=true):∀k,k<=T.labels.length->(Em T k).size=1024*(k+1):=by
 intro k
 induction k with
 | zero=>intro _;rw [F5,PK T h]
 | succ k ih=>
   intro hk;have hg:=(AX T).1 h;rw [F4 T k oo,gy,ih oo,OD T.tracks hg.tr _ (hg.ok _ (gS _))];omega
theorem RR (T:Tab) (h:BG T=true) (k:Nat) (hk:k<T.labels.length):D7 (Em T (k+1))=D7 (Em T k)++D7 (C6 T.labels[k] T.tracks):=by
 rw [F4 T k hk];exact SK _ _ (by rw [G8 T h k oo];omega)

def wrC (p:Int × ByteArray):List Value:=[.int .i64 p.1,.string p.2]

theorem LP (T:Tab) (h:(AW T).length≠0):BG T=true:=by
 cases hv:BG T with
 | true=>rfl
 | false=>exfalso;apply h;unfold AW;rw [if_neg (by rw [hv];simp)];rfl
theorem QM (T:Tab) (h:(AW T).length≠0):(AW T).length=8*(T.labels.length+1):=by
 have hv:=LP T h;unfold AW;rw [if_pos hv,B6,G8 T hv _ (gM _)];omega
theorem Ja (T:Tab) (hs:T.labels.length<=1000):(AW T).length<=10000:=by
 by_cases h:(AW T).length=0
 . omega
 . rw [QM T h];omega
theorem RY (T U:Tab) (h1:(AW T).length≠0) (h2:(AW U).length≠0) (ht:T.tracks=U.tracks):(AW T).length=(AW U).length:=by
 have g1:=((AX T).1 (LP T h1)).len;have g2:=((AX U).1 (LP U h2)).len;rw [QM T h1,QM U h2];rw [ht] at g1;omega
def C1 (X Y:List ByteArray) (k:Nat):List (Int × ByteArray):=((List.range k).filter λi=>decide (X.getD i ⟨#[]⟩≠Y.getD i ⟨#[]⟩)).map λ(i:Nat)=>((i:Int),Y.getD i ⟨#[]⟩)
def Bz (T U:Tab):List (Int × ByteArray):=if (AW T).length=(AW U).length/\T.tracks=U.tracks then C1 (AW T) (AW U) (AW T).length else []
theorem ZD (X Y:List ByteArray) (k:Nat) (h1:k<X.length) (h2:k<Y.length) (h:X[k]=Y[k]):C1 X Y (k+1)=C1 X Y k:=by
 unfold C1;rw [jt,jb,gm];simp [iE,gJ h1,gJ h2,h]
theorem aE (X Y:List ByteArray) (k:Nat) (h1:k<X.length) (h2:k<Y.length) (h:¬X[k]=Y[k]):C1 X Y (k+1)=C1 X Y k++[((k:Int),Y[k])]:=by
 unfold C1;rw [jt,jb,gm];simp [iE,gJ h1,gJ h2,h]
theorem Wd (X Y:List ByteArray) (k:Nat):(C1 X Y k).length<=k:=by
 unfold C1;rw [gO];have h9:=jY (λi=>decide (X.getD i ⟨#[]⟩≠Y.getD i ⟨#[]⟩)) (List.range k);rw [jK] at h9;exact h9
theorem UC:(Tryz.prog.info? 65).map (λi=>(i.zero,i.size,i.bytes))=some (some (.agg #[.int .i64 0,.string ⟨#[]⟩]),2,24):=qk

end
section
open Go.RowKit
def ID (l:List ByteArray):ByteArray:=l.foldl (·++·) ⟨#[]⟩
theorem bU:ID []=⟨#[]⟩:=rfl
theorem Z5 (l:List ByteArray):∀a:ByteArray,l.foldl (·++·) a=a++ID l:=by
 induction l with
 | nil=>intro a;exact ByteArray.append_empty.symm
 | cons x l ih=>
   intro a;show l.foldl (·++·) (a++x)=a++l.foldl (·++·) (⟨#[]⟩++x);rw [ih (a++x),ih (⟨#[]⟩++x),jJ];congr 2
theorem JS (x:ByteArray) (l:List ByteArray):ID (x::l)=x++ID l:=by
 show l.foldl (·++·) (⟨#[]⟩++x)=_;rw [Z5];congr 1
theorem P8 (l:List ByteArray) (x:ByteArray):ID (l++[x])=ID l++x:=by unfold ID;rw [iz];rfl
theorem WD (m:Nat) (l:List ByteArray) (h:∀x∈l,x.size<=m):(ID l).size<=m*l.length:=by
 induction l with
 | nil=>exact ia _
 | cons x l ih=>
   have h1:=ih (λy hy=>h y (iJ _ hy));have h2:=h x (iO ..);rw [JS,gy,i9,Nat.mul_add];omega
theorem bW (x:ByteArray) (h:x.size=128):D7 x=[x]:=by
 unfold D7;rw [h];simp only [show 128 / 128=1 from rfl,range_one,map_cons,map_nil,Nat.mul_zero,ji];rw [<-h];simp
theorem dZ (l:List ByteArray) (h:∀x∈l,x.size=128):D7 (ID l)=l:=by
 induction l with
 | nil=>rfl
 | cons x l ih=>
   have hx:=h x (iO ..);rw [JS,SK _ _ (by rw [hx]),ih (λy hy=>h y (iJ _ hy)),bW x hx];rfl
theorem Zw (s:ByteArray):∀x∈D7 s,x.size=128:=by
 intro x hx;obtain ⟨i,hi,rfl⟩:=List.getElem_of_mem hx;rw [B6] at hi;rw [GO,iK];omega
theorem Yo (s:ByteArray):∀k,128*k<=s.size->ID ((D7 s).take k)=s.extract 0 (128*k):=by
 intro k
 induction k with
 | zero=>intro _;simp [ID];rfl
 | succ k ih=>
   intro hk;rw [PV s k oo,P8,ih oo];rw [ByteArray.extract_append_extract];congr 1<;>omega
theorem V6 (s:ByteArray) (h:s.size % 128=0):ID (D7 s)=s:=by
 have h1:=Yo s (s.size / 128) oo;rw [iL (by rw [B6];omega)] at h1;rw [h1];have:128*(s.size / 128)=s.size:=oo;rw [this];simp
def Ck (ss:List ByteArray) (n:Nat):ByteArray:=ID ((ss.drop (8*n)).take 8)
theorem Lj (m:Nat) (ss:List ByteArray) (n:Nat) (h:∀x∈ss,x.size<=m):(Ck ss n).size<=m*8:=by
 unfold Ck;have h1:=WD m ((ss.drop (8*n)).take 8) (λx hx=>h x (mem_of_mem_drop (jP hx)));have h2:((ss.drop (8*n)).take 8).length<=8:=by rw [i8];omega
 exact gY h1 (Nat.mul_le_mul_left m h2)
theorem PW (T:Tab) (hv:BG T=true):∀d k,k+d=T.labels.length->∃R,D7 (Em T T.labels.length)=D7 (Em T k)++R:=by
 intro d
 induction d with
 | zero=>intro k hk;exact ⟨[],by rw [append_nil];congr 2;omega⟩
 | succ d ih=>
   intro k hk;obtain ⟨R,hR⟩:=ih (k+1) oo;rw [hR,RR T hv k oo,iZ];exact ⟨_,rfl⟩
theorem DZ (T:Tab) (hv:BG T=true) (ss:List ByteArray) (h:AW T=ss):
 ss.length=8*(T.labels.length+1)/\(∀x∈ss,x.size=128)/\Ck ss 0=CX T.name T.tracks/\∀k (hk:k<T.labels.length),Ck ss (k+1)=C6 T.labels[k] T.tracks:=by
 unfold AW at h;rw [if_pos hv] at h;subst h;refine ⟨by rw [B6,G8 T hv _ (gM _)];omega,Zw _,?_,λk hk=>?_⟩
 . obtain ⟨R,hR⟩:=PW T hv T.labels.length 0 oo;have h1:=PK T hv;unfold Ck;rw [hR,F5,Nat.mul_zero,drop_zero,take_append_of_le_length (by rw [B6,h1];decide),iL (by rw [B6,h1];decide),V6 _ (by rw [h1])]
 . obtain ⟨R,hR⟩:=PW T hv (T.labels.length - (k+1)) (k+1) oo;have h1:=G8 T hv k oo;have h2:=OD T.tracks ((AX T).1 hv).tr T.labels[k] (((AX T).1 hv).ok _ (gS hk));unfold Ck;rw [hR,RR T hv k hk,iZ,drop_append_of_le_length (by rw [B6,h1];omega),drop_of_length_le (by rw [B6,h1];omega),nil_append];rw [take_append_of_le_length (by rw [B6,h2];decide),iL (by rw [B6,h2];decide),V6 _ (by rw [h2])]
theorem XF (n:ByteArray) (t:Int) (hn:Cs n=true) (ht:okT t=true):FQ (CX n t)=(n,t,0):=by
 have hp:Jy n:=iQ hn;have hb:=BT ht;have hl:n.data.toList.length=n.size:=ig
 have e0:CX n t=⟨(enc n.data.toList.length++(n.data.toList++(enc t.toNat++List.replicate (1024 - (eB n.size++n++eB t.toNat).size) 0))).toArray⟩:=by
  unfold CX;rw [if_pos ⟨hn,ht⟩];apply GB;unfold Ei FP;rw [hl];simp only [ByteArray.data_append,Array.toList_append,Array.toList_replicate,iZ];rfl
 have q1:=(iH hdN e0).trans (Mw n.data.toList _ 8 (by have:=hp.2.1;omega) (by have:=hp.2.1;omega));have q2:hdT (CX n t)=CY (hdN (CX n t)).2.1 (hdN (CX n t)).2.2 128:=rfl;rw [q1] at q2;have q2:=q2.trans (FL t.toNat _ 128 oo oo);have hN:(hdN (CX n t)).1=n:=by rw [q1]
 have hT:((hdT (CX n t)).1:Int)=t:=by rw [q2];exact jf oo
 have hE:hdE (CX n t)=CX n t:=by unfold hdE;rw [hN,hT]
 have hz:CX n t≠⟨#[]⟩:=λe=>by
  have h1:(CX n t).size=1024:=by
   unfold CX;rw [if_pos ⟨hn,ht⟩];refine Fx _ _ ?_;have:=hp.2.1;have z1:=Br n.size;have z2:=Br t.toNat;rw [gy,gy];omega
  rw [e] at h1;exact absurd h1 qd
 unfold FQ;rw [hE,if_neg (λh=>h.elim hz (λh=>h rfl)),hN,hT]
theorem aJ (l:Lab) (t:Int) (ht:okT t=true) (h:emL l=true\/BW l t=true):Dn (C6 l t) t=(l,0):=by
 rcases h with h | h
 . rw [(Fl l).1 h];have e1:C6 BN t=Ei 1024 ⟨#[]⟩:=by unfold C6;rw [if_pos ⟨ht,(Jd _ _).2 rfl⟩]
   have e2:(Ei 1024 ⟨#[]⟩).size=1024:=Fx _ _ qd;unfold Dn;rw [e1,if_neg (by rw [ht,e2];simp),if_pos rfl]
 . exact Sn l t h (Ph l t h)
def SecOf (ss:List ByteArray) (T:Tab):Prop:=BG T=true/\AW T=ss
theorem SecOf.head {ss:List ByteArray} {T:Tab} (h:SecOf ss T):FQ (Ck ss 0)=(T.name,T.tracks,0):=by
 have hg:=(AX T).1 h.1;rw [(DZ T h.1 ss h.2).2.2.1,XF _ _ hg.nm hg.tr]
theorem SecOf.lab {ss:List ByteArray} {T:Tab} (h:SecOf ss T) (k:Nat) (hk:k<T.labels.length):Dn (Ck ss (k+1)) T.tracks=(T.labels[k],0):=by
 have hg:=(AX T).1 h.1;rw [(DZ T h.1 ss h.2).2.2.2 k hk,aJ _ _ hg.tr (hg.ok _ (gS hk))]
theorem SecOf.unique {ss:List ByteArray} {T U:Tab} (h:SecOf ss T) (g:SecOf ss U):T=U:=by
 have e:=h.head.symm.trans g.head;injection e with e1 e2;injection e2 with e2 e3
 have hl:T.labels.length=U.labels.length:=by
  have g1:=(DZ T h.1 ss h.2).1;have g2:=(DZ U g.1 ss g.2).1;omega
 have hL:T.labels=U.labels:=by
  refine jv hl (λk h1 h2=>?_);have p1:=h.lab k h1;have p2:=g.lab k h2;rw [e2] at p1;exact iH Prod.fst (p1.symm.trans p2)
 cases T;cases U;simp only at e1 e2 hL;rw [e1,e2,hL]
def LdS (ss:List ByteArray) (T:Tab) (er:Int):Prop:=(SecOf ss T/\er=0)\/((∀U,¬SecOf ss U)/\T=Cq/\er=11)

theorem ZS (a b:List ByteArray):ID (a++b)=ID a++ID b:=by
 induction a with
 | nil=>exact ByteArray.empty_append.symm
 | cons x a ih=>rw [cons_append,JS,JS,ih,jJ]
def Im (ss:List ByteArray) (k:Nat):List ByteArray:=(List.range ((k+7) / 8)).map λn=>Ck (ss.take k) n
def Fn (ss:List ByteArray) (k:Nat):List ByteArray:=(List.range (k / 8+1)).map λn=>Ck (ss.take k) n
theorem Ke (ss:List ByteArray) (k:Nat):(Im ss k).length=(k+7) / 8:=by unfold Im;simp
theorem JF (ss:List ByteArray) (k:Nat):(Fn ss k).length=k / 8+1:=by unfold Fn;simp
theorem Rw (ss:List ByteArray) (k i:Nat) (h:i<(Im ss k).length):(Im ss k)[i]=Ck (ss.take k) i:=by simp [Im]
theorem TP (ss:List ByteArray) (k i:Nat) (h:i<(Fn ss k).length):(Fn ss k)[i]=Ck (ss.take k) i:=by simp [Fn]
theorem G1 (ss:List ByteArray) (k n:Nat):Ck (ss.take k) n=ID ((ss.drop (8*n)).take (min 8 (k - 8*n))):=by
 unfold Ck;rw [drop_take,take_take]
theorem ZJ (ss:List ByteArray) (k:Nat) (h:k % 8=0):Fn ss k=Im ss k++[⟨#[]⟩]:=by
 unfold Fn Im;have e:(k+7) / 8=k / 8:=oo;rw [e,jt,gm,map_cons,map_nil,G1];have e2:min 8 (k - 8*(k / 8))=0:=oo;rw [e2,take_zero,bU]
theorem Zk (ss:List ByteArray) (k:Nat) (h:¬k % 8=0):Fn ss k=Im ss k:=by
 unfold Fn Im;have e:(k+7) / 8=k / 8+1:=oo;rw [e]
theorem P5 (ss:List ByteArray) (k:Nat) (hk:k<ss.length) (h:k / 8<(Fn ss k).length):Im ss (k+1)=(Fn ss k).set (k / 8) ((Fn ss k)[k / 8]++ss[k]):=by
 refine jv (by rw [length_set,Ke,JF];omega) (λi h1 h2=>?_);rw [Ke] at h1;rw [List.getElem_set];by_cases hi:k / 8=i
 . subst hi;rw [if_pos rfl];rw [Rw,TP,G1,G1];have e1:min 8 (k+1 - 8*(k / 8))=(k - 8*(k / 8))+1:=oo;have e2:min 8 (k - 8*(k / 8))=k - 8*(k / 8):=oo;rw [e1,e2,gU (by rw [length_drop];omega),P8,getElem_drop];congr 2;omega
 . rw [if_neg hi];rw [Rw,TP,G1,G1];have e1:min 8 (k+1 - 8*i)=8:=oo;have e2:min 8 (k - 8*i)=8:=oo;rw [e1,e2]
theorem Y8 (ss:List ByteArray) (m:Nat) (h:ss.length=8*m):Im ss ss.length=(List.range m).map (Ck ss):=by
 unfold Im;rw [jU];congr 2;omega
theorem O9 (ss:List ByteArray) (k:Nat) (h:∀x∈ss,x.size<=1000):∀y∈Fn ss k,y.size<=8000:=by
 intro y hy;unfold Fn at hy;obtain ⟨n,_,rfl⟩:=gV.1 hy;exact Lj 1000 _ n (λx hx=>h x (jP hx))
theorem az (ss:List ByteArray) (n:ByteArray) (t:Int) (ls:List Lab) (hh:CX n t=Ck ss 0) (hd:∀k (hk:k<ls.length),C6 ls[k] t=Ck ss (k+1)):
 ∀k,k<=ls.length->Em ⟨n,t,ls⟩ k=ID (ss.take (8*(k+1))):=by
 intro k
 induction k with
 | zero=>intro _;rw [F5];show CX n t=_;rw [hh];unfold Ck;simp
 | succ k ih=>
   intro hk;rw [F4 ⟨n,t,ls⟩ k hk,ih oo];show _++C6 ls[k] t=_;rw [hd k hk];unfold Ck;rw [<-ZS];congr 1;have e:8*(k+1+1)=8*(k+1)+8:=oo;rw [e,take_add]
theorem V9 (ss:List ByteArray) (n:ByteArray) (t:Int) (ls:List Lab) (b:∀x∈ss,x.size=128) (a:ss.length=8*(ls.length+1)) (hh:FQ (Ck ss 0)=(n,t,0))
 (hd:∀k (hk:k<ls.length),Dn (Ck ss (k+1)) t=(ls[k],0)) (hv:BG ⟨n,t,ls⟩=true):SecOf ss ⟨n,t,ls⟩:=by
 refine ⟨hv,?_⟩
 have h1:CX n t=Ck ss 0:=by
  rcases MV (Ck ss 0) with h | ⟨n',t',h,g,_⟩
  . rw [hh] at h;exact absurd (iH (λx=>x.2.2) h) (by decide:¬((0:Int)=11))
  . rw [hh] at h;injection h with h2 h3;injection h3 with h3 _;rw [h2,h3];exact g
 have h2:∀k (hk:k<ls.length),C6 ls[k] t=Ck ss (k+1):=λk hk=>by
  rcases NK (Ck ss (k+1)) t with ⟨_,h⟩ | h
  . rw [hd k hk] at h;exact h
  . rw [hd k hk] at h;exact absurd (iH (λx=>x.2) h) (by decide:¬((0:Int)=11))
 unfold AW;rw [if_pos hv,az ss n t ls h1 h2 _ (gM _)];show D7 (ID (ss.take (8*(ls.length+1))))=ss;rw [<-a,jU,dZ ss b]
theorem SecOf.is {ss:List ByteArray} {U:Tab} (h:SecOf ss U) {n:ByteArray} {t:Int} {ls:List Lab} (hh:FQ (Ck ss 0)=(n,t,0)) (hl:(ls.length:Int)=Cg t)
 (hd:∀k (hk:k<ls.length),Dn (Ck ss (k+1)) t=(ls[k],0)):U=⟨n,t,ls⟩:=by
 have e:=h.head.symm.trans hh;injection e with e1 e2;injection e2 with e2 e3;have hU:=((AX U).1 h.1).len;rw [e2] at hU;have a:U.labels.length=ls.length:=oo
 have hL:U.labels=ls:=by
  refine jv a (λk h1 h2=>?_);have p1:=h.lab k h1;rw [e2] at p1;exact iH Prod.fst (p1.symm.trans (hd k h2))
 cases U;simp only at e1 e2 hL;rw [e1,e2,hL]
theorem LdS.no {ss:List ByteArray} (h:∀U,SecOf ss U->False):LdS ss Cq 11:=.inr ⟨h,rfl,rfl⟩
theorem fS (ss:List ByteArray) (k:Nat) (hk:k<ss.length) (h:¬ss[k].size=128):LdS ss Cq 11:=LdS.no λU hU=>h ((DZ U hU.1 ss hU.2).2.1 _ (gS hk))
theorem Zh (ss:List ByteArray) (h:ss.length=0\/¬ss.length % 8=0):LdS ss Cq 11:=LdS.no λU hU=>by have:=(DZ U hU.1 ss hU.2).1;omega
theorem dv (ss:List ByteArray) (h:FQ (Ck ss 0)=(⟨#[]⟩,0,11)):LdS ss Cq 11:=LdS.no λU hU=>by
 have e:=hU.head;rw [h] at e;exact absurd (iH (λx=>x.2.2) e) (by decide:¬((11:Int)=0))
theorem PB (U:Tab) (h:BG U=true):(U.labels.length:Int)+1=ttS U.tracks:=by
 have h1:=((AX U).1 h).len;have h2:=((AX U).1 h).tr;have h3:=BT h2;unfold Cg at h1;unfold ttS at h1 ⊢;rw [if_pos h2] at h1 ⊢;omega
theorem ba (ss:List ByteArray) (n:ByteArray) (t:Int) (hh:FQ (Ck ss 0)=(n,t,0)) (h:¬((ss.length / 8:Nat):Int)=ttS t):LdS ss Cq 11:=LdS.no λU hU=>by
 have e:=hU.head.symm.trans hh;have h1:=PB U hU.1;have et:U.tracks=t:=iH (λx=>x.2.1) e;rw [et] at h1;have h2:=(DZ U hU.1 ss hU.2).1;omega
theorem fI (ss:List ByteArray) (n:ByteArray) (t:Int) (hh:FQ (Ck ss 0)=(n,t,0)) (k:Nat) (hk:(k:Int)+1<ttS t) (h:Dn (Ck ss (k+1)) t=(BN,11)):LdS ss Cq 11:=LdS.no λU hU=>by
 have e:=hU.head.symm.trans hh;have et:U.tracks=t:=iH (λx=>x.2.1) e;have h1:=PB U hU.1;rw [et] at h1;have h2:=hU.lab k oo;rw [et,h] at h2;exact absurd (iH (λx=>x.2) h2) (by decide:¬((11:Int)=0))
theorem Yt (ss:List ByteArray) (n:ByteArray) (t:Int) (ls:List Lab) (hh:FQ (Ck ss 0)=(n,t,0)) (hl:(ls.length:Int)=Cg t) (hd:∀k (hk:k<ls.length),Dn (Ck ss (k+1)) t=(ls[k],0))
 (h:¬(BG ⟨n,t,ls⟩=true/\AW ⟨n,t,ls⟩=ss)):LdS ss Cq 11:=LdS.no λU hU=>by
 have e:=hU.is hh hl hd;subst e;exact h hU
theorem ax {ss:List ByteArray} {t:Int} {ls:List Lab} {l:Lab} (h:∀j (hj:j<ls.length),Dn (Ck ss (j+1)) t=(ls[j],0)) (hl:Dn (Ck ss (ls.length+1)) t=(l,0)):
 ∀j (hj:j<(ls++[l]).length),Dn (Ck ss (j+1)) t=((ls++[l])[j],0):=by
 intro j hj;rw [iI,jN] at hj;by_cases a:j<ls.length
 . rw [List.getElem_append_left a];exact h j a
 . have e:j=ls.length:=oo;subst e;rw [List.getElem_append_right (gM _)];simpa using hl
theorem Zp {ls:List Lab} {l:Lab} (h:∀x∈ls,x.ext.length<=1000) (hl:l.ext.length<=1000):∀x∈ls++[l],x.ext.length<=1000:=by
 intro x hx;rcases iA.1 hx with hx | hx
 . exact h x hx
 . rw [gQ.1 hx];exact hl

theorem Qt {W w':World} {row:Option Nat} (h:W.grownBy w' row):Turned (λk=>row=some k) W w':=⟨h.os,h.tape,h.output,h.size,λk hk hn=>h.block k hk (λe=>hn e.symm)⟩
theorem TabO.push {W w':World} {base:Nat} {v:Value} {ys:List LabE} {ls:List Lab} (h:TabO W base v ys ls) (y:LabE) {g n cap:Nat} (f:OwnL w' base 100 5 (.slice (some ⟨g,0,none⟩) n cap) (ys.map DP++[DP y]))
 (i:W.grownBy w' v.ownBlock) (a:v.ownBlock=some g\/g=W.heap.size) (hy:LabAt W y.A y.c y.l) (hf:0<y.l.ext.length->∀b off,y.A=some ⟨b,off,none⟩->v.ownBlock≠some b):
 TabO w' base (.slice (some ⟨g,0,none⟩) n cap) (ys++[y]) (ls++[y.l]):=by
 have d:∀z∈ys++[y],LabAt W z.A z.c z.l/\(0<z.l.ext.length->∀b off,z.A=some ⟨b,off,none⟩->v.ownBlock≠some b):=λz hz=>by
  rcases iA.1 hz with hz | hz
  . exact ⟨h.lab z hz,h.far z hz⟩
  . rw [gQ.1 hz];exact ⟨hy,hf⟩
 refine ⟨by rw [gm];exact f,λz hz=>?_,λz hz h0 b off e=>?_,by rw [gm,h.eq];rfl⟩
 . exact (d z hz).1.turned (Qt i) (λh0 b off e=>(d z hz).2 h0 b off e)
 . have j:=(d z hz).2 h0 b off e;obtain ⟨b',k,e',m,_⟩:=(d z hz).1.runs.2 (by simpa using h0);rw [e] at e';injection e' with e';injection e' with e';subst e';intro e2;have e3:g=b:=by simpa [Value.ownBlock] using e2
   rcases a with a | a
   . exact j (by rw [a,e3])
   . omega
theorem X3 (s:ByteArray) (t:Int):(∃l,Dn s t=(l,0)/\l.ext.length<=1000)\/Dn s t=(BN,11):=by
 unfold Dn;split
 . exact .inr rfl
 . split
   . exact .inl ⟨BN,rfl,ia _⟩
   . split
     . rename_i h;obtain ⟨_,_,⟨_,v8⟩,_⟩:=EF _ t h.1;refine .inl ⟨rL 128 s,rfl,?_⟩;omega
     . exact .inr rfl
theorem Co:SmallT Cq:=⟨qd,λl hl=>by cases hl⟩

end
end Go.Proofs.YtfklieeipokllaaGreat
