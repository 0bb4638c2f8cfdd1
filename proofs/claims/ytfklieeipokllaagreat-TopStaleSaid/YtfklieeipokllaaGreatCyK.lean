/- Parts of the proof (packed), 11. -/
import Derived.Test.YtfklieeipokllaaGreatCyH
namespace Go.Proofs.YtfklieeipokllaaGreat
set_option linter.all false
set_option maxRecDepth 100000
set_option maxHeartbeats 16000000
open List
section
attribute [local go_sem ↓] Go.wp_at_zero Go.wp_at_succ
open Go.RowKit
theorem TabO.drew {w:World} {base:Nat} {v:Value} {ys:List LabE} {ls:List Lab} (h:TabO w base v ys ls):TabO w.drew base v ys ls:=h.hold (fh w).drew
section
variable (w w1:World) (base g cap xo:Nat) (ys:List LabE) (T:Tab) (k:Nat) (hk:k<T.labels.length) (h:OutAt w w1 base g cap xo ys T)
include h
theorem QI (hs:SmallT T) (aa:T.name.size<=9223372036854775807) (ad:-9223372036854775808<=T.tracks) (Z:T.tracks<=9223372036854775807) (note:ByteArray) (N:note.size<=9223372036854775807) (id unit:Int) (gn gr:Nat) (E:Blk w gn 9 #[.string note]) (D:Blk w gr 32 #[.int .i64 id,.int .i64 unit]):
 Calls Tryz.prog 160 #[.pointer (some ⟨g,k*5,none⟩),.pointer (some ⟨xo,0,none⟩),.pointer (some ⟨gn,0,none⟩),.pointer (some ⟨gr,0,none⟩)] w1 (LP w1 base g cap T.labels.length (IE T id note k T.labels[k])):=by
 have B:=E.grew h.grew;have C:=D.grew h.grew;have bl:=h.tab.own.block_lt.2;have O:=h.blk.lt;have bn:=B.lt;have P:=C.lt;have bo:=h.ne;have v:¬gn=g:=by have:=h.hg;have:=E.lt;omega
 have br:¬gr=g:=by have:=h.hg;have:=D.lt;omega
 have y0:w1.cell? ⟨g,k*5,none⟩=some (.int .i64 T.labels[k].id):=h.tab.row0 hk;have y1:w1.cell? ⟨g,k*5+1,none⟩=some (.int .i64 T.labels[k].unit):=h.tab.row1 hk;have n0:=B.cell 0;have r0:=C.cell 0;have y:=zh h.tab;have ae:=zh h.blk;have F:=zh B;have bs:=zh C
 have HC:=zh (show IE T id note k T.labels[k]=if T.labels[k].unit=0 then (T.labels,9) else if 400<note.size then (T.labels,1)
 else ((if 0<=FA T id 0 then T.labels.set (FA T id 0).toNat BH else T.labels).set k { T.labels[k] with unit:=0,note:=note },0) from rfl)
 have r:=h.blk;clear h E D B C;cases hu:(T.labels[k].unit==0) with
 | true=>
   have HE:=zh (HC.out.trans (if_pos (by simpa using hu)));clear r;go_enter Tryz.func160,Tryz.ntmps160;go_wp2_with fail;go_ret;rw [HE.out];exact ⟨rfl,⟨_,y⟩,gT⟩
 | false=>
   have t:T.labels[k].unit≠0:=by simpa using hu
   by_cases hn:400<note.size
   . have HE:=zh (HC.out.trans (by rw [if_neg t,if_pos hn]));have aj:(note.size:Int)>400:=oo;clear r;go_enter Tryz.func160,Tryz.ntmps160;go_wp2_with fail;go_ret;rw [HE.out];exact ⟨rfl,⟨_,y⟩,gT⟩
   have aj:¬(note.size:Int)>400:=oo;obtain ⟨ix,q⟩:∃ix,FA T id 0=ix:=⟨_,rfl⟩;have G:=y.tabAt T.name T.tracks aa ad Z;have Q:=zh (λw2 (g2:Grew w1 w2)=>Ji _ _ _ T id 0 w2 (G.hold g2) hs T.labels.length rfl ix q);have hS:(λw':World=>w'.cell? ⟨xo,0,none⟩=some (.string T.name)/\w'.cell? ⟨xo,1,none⟩=some (.int .i64 T.tracks)/\w'.cell? ⟨xo,2,none⟩=some (.slice (some ⟨g,0,none⟩) T.labels.length cap)/\w'.cell? ⟨gr,0,none⟩=some (.int .i64 id)) w1.drew:=⟨r.drew.cell 0,r.drew.cell 1,r.drew.cell 2,r0⟩;rcases EA (FY id 0) T.labels with ⟨j,hj,A,Y,_⟩ | ⟨A,_⟩
   . have H:ix=(j:Int):=q.symm.trans A;obtain ⟨_,_,bf⟩:=(FL _ _ _).1 Y;have al:j≠k:=by rintro rfl;exact t bf
     subst H;have HE:=zh (HC.out.trans (by rw [if_neg t,if_neg hn,if_pos (by rw [q];omega),q,gQ]));have bt:(j:Int)<(T.labels.length:Int):=oo;have I:=zh (show (T.labels.set j BH)[k]'(by simpa using hk)=T.labels[k] from List.getElem_set_ne al _);clear q G A Y r t;go_enter Tryz.func160,Tryz.ntmps160;go_wp2_with fail;refine AB [] (λw':World=>w'.cell? ⟨xo,0,none⟩=some (.string T.name)/\w'.cell? ⟨xo,1,none⟩=some (.int .i64 T.tracks)/\w'.cell? ⟨xo,2,none⟩=some (.slice (some ⟨g,0,none⟩) T.labels.length cap)/\w'.cell? ⟨gr,0,none⟩=some (.int .i64 id)) qk ?_;refine tQ 0 16 ?_;refine tT 1 (some 17) hS ?_;refine tT 2 (some 18) hS ?_;refine tQ 3 19 ?_;refine tT 4 (some 20) hS ?_;refine tQ 5 21 ?_;refine tO 6 λK' hK=>?_;go_wp2_with fail;refine (Q _ (fh w1).drew).mono ?_;rintro e w2 ⟨rfl,g2⟩;have c:Grew w1 w2:=(fh w1).drew.trans g2;go_wp2_with fail
     refine hK.out _ _ (.inr (λh=>by
      simp only [c.cellEq _ _ O,c.cellEq _ _ P]
      exact hS)) ?_
     clear hK hS;refine tQ 7 7 ?_;refine AA qk ?_ _;have o2:=ae.grew c;have u0:=o2.cell 0;have u1:=o2.cell 1;have u2:=o2.cell 2;have bv:=o2.lt;have d:=y.hold c;obtain ⟨B2,d2,u,_,_,_⟩:=d.row hj;have a0:w2.cell? ⟨g,j*5,none⟩=some (.int .i64 T.labels[j].id):=d.own.cell0 u rfl;have a1:w2.cell? ⟨g,j*5+1,none⟩=some (.int .i64 T.labels[j].unit):=d.own.cell u (i:=1) rfl;have a2:w2.cell? ⟨g,j*5+2,none⟩=some (.string T.labels[j].name):=d.own.cell u (i:=2) rfl;have a3:w2.cell? ⟨g,j*5+3,none⟩=some (.string T.labels[j].note):=d.own.cell u (i:=3) rfl;have a4:w2.cell? ⟨g,j*5+4,none⟩=some (.slice B2 T.labels[j].ext.length d2):=d.own.cell u (i:=4) rfl;have an:=d.own.frozen (j*5);have av:=d.own.frozen (j*5+1);have a5:=d.own.frozen (j*5+2);have a6:=d.own.frozen (j*5+3);have a7:=d.own.frozen (j*5+4);have R:=zh (d.set5 hj ⟨none,0,BH⟩ (LabAt.zero _) (λh0=>absurd h0 qd));have S:=zh ((c.turned (λx=>x=g)).trans (FP w2 g (j*5) (.int .i64 0) (.int .i64 0) (.string ⟨#[]⟩) (.string ⟨#[]⟩) (.slice none 0 0)));have a8:=zh (F.grew c);clear d u o2;go_wp2_with fail;obtain ⟨W,hW⟩:∃W,W=((((w2.setCell ⟨g,j*5,none⟩ (.int .i64 0)).setCell ⟨g,j*5+1,none⟩ (.int .i64 0)).setCell ⟨g,j*5+2,none⟩ (.string ⟨#[]⟩)).setCell ⟨g,j*5+3,none⟩ (.string ⟨#[]⟩)).setCell ⟨g,j*5+4,none⟩ (.slice none 0 0):=⟨_,rfl⟩;rw [<-hW];obtain ⟨V,X⟩:∃V,TabO W base (.slice (some ⟨g,0,none⟩) T.labels.length cap) V (T.labels.set j BH):=⟨_,by rw [hW];exact R.out⟩;have J:Turned (λx=>x=g) w1 W:=by rw [hW];exact S.out
     have U:Blk W gn 9 #[.string note]:=F.turned J v;have b:k<(T.labels.set j BH).length:=by simpa using hk
     have l:(T.labels.set j BH)[k]'b=T.labels[k]:=by first | exact I.out | rfl
     have a:=X;have z0:W.cell? ⟨g,k*5,none⟩=some (.int .i64 T.labels[k].id):=by rw [<-l];exact a.row0 b
     have z1:W.cell? ⟨g,k*5+1,none⟩=some (.int .i64 T.labels[k].unit):=by rw [<-l];exact a.row1 b
     have a9:=a.own.frozen (k*5+1);have bb:=a.own.block_lt.2;obtain ⟨bk,o⟩:=a.drew.unit_ b 0 oo;have m:k<((T.labels.set j BH).set k { (T.labels.set j BH)[k]'b with unit:=0 }).length:=by simpa using hk
     have n:((T.labels.set j BH).set k { (T.labels.set j BH)[k]'b with unit:=0 })[k]'m={ T.labels[k] with unit:=0 }:=by rw [List.getElem_set_self,l]
     have z:=zh (show (World.setCell W.drew ⟨g,k*5+1,none⟩ (.int .i64 0)).cell? ⟨g,k*5,none⟩=some (.int .i64 T.labels[k].id) from by have:=o.row0 m;rwa [n] at this);have z3:(World.setCell W.drew ⟨g,k*5+1,none⟩ (.int .i64 0)).cell? ⟨g,k*5+3,none⟩=some (.string T.labels[k].note):=by have:=o.row3 m;rwa [n] at this
     have y3:W.cell? ⟨g,k*5+3,none⟩=some (.string T.labels[k].note):=by rw [<-l];exact a.row3 b
     have bc:=a.own.frozen (k*5+3);obtain ⟨M,s⟩:=o.note_ m note N;have K:=zh (show ∃ys,TabO _ base (.slice (some ⟨g,0,none⟩) T.labels.length cap) ys ((T.labels.set j BH).set k { T.labels[k] with unit:=0,note:=note }) from ⟨M,by rw [n,List.set_set] at s;exact s⟩);have L:=zh (((J).drew.trans (BW _ g (k*5+1) (.int .i64 0))).trans (BW _ g (k*5+3) (.string note)));have f:=zh (U);have bd:=f.out.lt;have b3:=f.cell 0;clear a o s n;clear a0 a1 a2 a3 a4 an av a5 a6 a7 hW X J U u0 u1 u2 y0 y1 n0 r0 R S a8;refine AB [8] (λw':World=>w'.cell? ⟨gn,0,none⟩=some (.string note)/\w'.cell? ⟨g,k*5,none⟩=some (.int .i64 T.labels[k].id)) qk ?_;have hS:(λw':World=>w'.cell? ⟨gn,0,none⟩=some (.string note)/\w'.cell? ⟨g,k*5,none⟩=some (.int .i64 T.labels[k].id)) (World.drew _):=⟨f.drew.cell 0,z0⟩;refine tQ 0 32 ?_;refine tQ 1 33 ?_;refine tT 2 (some 34) hS ?_;refine tT 3 (some 35) hS ?_;refine tQ 4 36 ?_;refine tO 5 λK' hK=>?_;go_wp2_with fail;refine hK.out _ _ (.inr (λh=>⟨(f.drew.far (p:=⟨g,k*5+1,none⟩) v (.int .i64 0)).cell 0,z⟩)) ?_;clear hK hS;have hS:(λw':World=>w'.cell? ⟨gn,0,none⟩=some (.string note)/\w'.cell? ⟨g,k*5,none⟩=some (.int .i64 T.labels[k].id)) (W.setCell ⟨g,k*5+1,none⟩ (.int .i64 0)).drew:=⟨(f.drew.far (p:=⟨g,k*5+1,none⟩) v (.int .i64 0)).cell 0,z⟩;refine tT 6 (some 37) hS ?_;refine tQ 7 38 ?_;refine tO 8 λK' hK=>?_;go_wp2_with fail;refine hK.out _ _ (.inl rfl) ?_;clear hK;refine AA qk ?_ _;go_wp2_with fail;go_ret;rw [HE.out];exact ⟨rfl,K,L⟩
   . have H:ix=-1:=q.symm.trans A;subst H;have HE:=zh (HC.out.trans (by rw [if_neg t,if_neg hn,if_neg (by rw [q];omega)]));have I:=zh (show (T.labels)[k]'(by simpa using hk)=T.labels[k] from rfl);clear q G A r t;go_enter Tryz.func160,Tryz.ntmps160;go_wp2_with fail;refine AB [] (λw':World=>w'.cell? ⟨xo,0,none⟩=some (.string T.name)/\w'.cell? ⟨xo,1,none⟩=some (.int .i64 T.tracks)/\w'.cell? ⟨xo,2,none⟩=some (.slice (some ⟨g,0,none⟩) T.labels.length cap)/\w'.cell? ⟨gr,0,none⟩=some (.int .i64 id)) qk ?_;refine tQ 0 16 ?_;refine tT 1 (some 17) hS ?_;refine tT 2 (some 18) hS ?_;refine tQ 3 19 ?_;refine tT 4 (some 20) hS ?_;refine tQ 5 21 ?_;refine tO 6 λK' hK=>?_;go_wp2_with fail;refine (Q _ (fh w1).drew).mono ?_;rintro e W ⟨rfl,g2⟩;have c:Grew w1 W:=(fh w1).drew.trans g2;go_wp2_with fail
     refine hK.out _ _ (.inr (λh=>by
      simp only [c.cellEq _ _ O,c.cellEq _ _ P]
      exact hS)) ?_
     clear hK hS;refine tQ 7 7 ?_;refine AA qk ?_ _;have b:k<(T.labels).length:=by simpa using hk
     have l:(T.labels)[k]'b=T.labels[k]:=by first | exact I.out | rfl
     have a:=y.hold c;have z0:W.cell? ⟨g,k*5,none⟩=some (.int .i64 T.labels[k].id):=by rw [<-l];exact a.row0 b
     have z1:W.cell? ⟨g,k*5+1,none⟩=some (.int .i64 T.labels[k].unit):=by rw [<-l];exact a.row1 b
     have a9:=a.own.frozen (k*5+1);have bb:=a.own.block_lt.2;obtain ⟨bk,o⟩:=a.drew.unit_ b 0 oo;have m:k<((T.labels).set k { (T.labels)[k]'b with unit:=0 }).length:=by simpa using hk
     have n:((T.labels).set k { (T.labels)[k]'b with unit:=0 })[k]'m={ T.labels[k] with unit:=0 }:=by rw [List.getElem_set_self,l]
     have z:=zh (show (World.setCell W.drew ⟨g,k*5+1,none⟩ (.int .i64 0)).cell? ⟨g,k*5,none⟩=some (.int .i64 T.labels[k].id) from by have:=o.row0 m;rwa [n] at this);have z3:(World.setCell W.drew ⟨g,k*5+1,none⟩ (.int .i64 0)).cell? ⟨g,k*5+3,none⟩=some (.string T.labels[k].note):=by have:=o.row3 m;rwa [n] at this
     have y3:W.cell? ⟨g,k*5+3,none⟩=some (.string T.labels[k].note):=by rw [<-l];exact a.row3 b
     have bc:=a.own.frozen (k*5+3);obtain ⟨M,s⟩:=o.note_ m note N;have K:=zh (show ∃ys,TabO _ base (.slice (some ⟨g,0,none⟩) T.labels.length cap) ys ((T.labels).set k { T.labels[k] with unit:=0,note:=note }) from ⟨M,by rw [n,List.set_set] at s;exact s⟩);have L:=zh (((c.turned (λx=>x=g)).drew.trans (BW _ g (k*5+1) (.int .i64 0))).trans (BW _ g (k*5+3) (.string note)));have f:=zh (F.grew c);have bd:=f.out.lt;have b3:=f.cell 0;clear a o s n;clear y0 y1 n0 r0 g2 c;go_wp2_with fail;refine AB [8] (λw':World=>w'.cell? ⟨gn,0,none⟩=some (.string note)/\w'.cell? ⟨g,k*5,none⟩=some (.int .i64 T.labels[k].id)) qk ?_;have hS:(λw':World=>w'.cell? ⟨gn,0,none⟩=some (.string note)/\w'.cell? ⟨g,k*5,none⟩=some (.int .i64 T.labels[k].id)) (World.drew _):=⟨f.drew.cell 0,z0⟩;refine tQ 0 32 ?_;refine tQ 1 33 ?_;refine tT 2 (some 34) hS ?_;refine tT 3 (some 35) hS ?_;refine tQ 4 36 ?_;refine tO 5 λK' hK=>?_;go_wp2_with fail;refine hK.out _ _ (.inr (λh=>⟨(f.drew.far (p:=⟨g,k*5+1,none⟩) v (.int .i64 0)).cell 0,z⟩)) ?_;clear hK hS;have hS:(λw':World=>w'.cell? ⟨gn,0,none⟩=some (.string note)/\w'.cell? ⟨g,k*5,none⟩=some (.int .i64 T.labels[k].id)) (W.setCell ⟨g,k*5+1,none⟩ (.int .i64 0)).drew:=⟨(f.drew.far (p:=⟨g,k*5+1,none⟩) v (.int .i64 0)).cell 0,z⟩;refine tT 6 (some 37) hS ?_;refine tQ 7 38 ?_;refine tO 8 λK' hK=>?_;go_wp2_with fail;refine hK.out _ _ (.inl rfl) ?_;clear hK;refine AA qk ?_ _;go_wp2_with fail;go_ret;rw [HE.out];exact ⟨rfl,K,L⟩
end

theorem Lv {w:World} {A:Option Addr} {l:List (Int × Int)} {g:Nat} {t:TypeId} {s:ByteArray} {i:Int} {a:Option Addr} {n c:Nat} (h:RunsAt w w.heap.size A l) (hl:0<l.length) (hb:Blk w g t #[.string s,.int .i64 i,.slice a n c]):∀b off,A=some ⟨b,off,none⟩->b≠g:=by
 rintro b off e rfl;obtain ⟨b',d,x,y,e',f,hv,_,c0,c1⟩:=h.at_ (k:=0) hl;rw [e] at e';injection e' with e';injection e' with e1 e2 _;subst e1;subst e2;rw [Nat.zero_mul,ik] at c0 c1;rw [hb.cell] at c0 c1
 match off with
 | 0=>simp at c0
 | 1=>simp at c1
 | 2=>simp at c0
 | off+3=>simp at c0
theorem TabO.apart {w:World} {base:Nat} {v:Value} {ys:List LabE} {ls:List Lab} (h:TabO w base v ys ls) {g:Nat} {t:TypeId} {s:ByteArray} {i:Int} {a:Option Addr} {n c:Nat} (hb:Blk w g t #[.string s,.int .i64 i,.slice a n c]):∀y∈ys,0<y.l.ext.length->∀b off,y.A=some ⟨b,off,none⟩->¬b=g:=
 λy hy h0 b off e=>Lv (h.lab y hy).runs h0 hb b off e
theorem TabO.nlen {w:World} {base g n cap:Nat} {ys:List LabE} {ls:List Lab} (h:TabO w base (.slice (some ⟨g,0,none⟩) n cap) ys ls):ls.length=n:=by
 have h1:=h.own.len.1;rw [fm,h.len] at h1;exact h1
theorem Nf (T:Tab) (id a:Int) (F:Nat->Lab->List Lab × Int):(A0 T=false/\Bg T id a F=(Ca,1))\/(A0 T=true/\FA T id a=-1/\Bg T id a F=(Ca,6))\/
 (A0 T=true/\∃(k:Nat) (hk:k<T.labels.length),FA T id a=(k:Int)/\FY id a T.labels[k]=true/\(((F k T.labels[k]).2=0/\Bg T id a F=({ T with labels:=(F k T.labels[k]).1 },0))\/((F k T.labels[k]).2≠0/\Bg T id a F=(Ca,(F k T.labels[k]).2)))):=by
 unfold Bg;cases hv:A0 T with
 | false=>exact .inl ⟨rfl,if_neg qs⟩
 | true=>
   right;rw [if_pos rfl];rcases EA (FY id a) T.labels with ⟨k,hk,h1,h2,_⟩ | ⟨h1,_⟩
   . have b:FA T id a=(k:Int):=h1;right;rw [b,if_pos oo,gQ,gH,fg hk,it];refine ⟨rfl,k,hk,rfl,h2,?_⟩;by_cases h0:(F k T.labels[k]).2=0
     . exact .inl ⟨h0,by rw [if_pos h0]⟩
     . exact .inr ⟨h0,by rw [if_neg h0]⟩
   . have b:FA T id a=-1:=h1;left;rw [b,if_neg oo];exact ⟨rfl,rfl,rfl⟩
def Ju (w:World) (T:Tab) (er:Int) (e:Ending) (w':World):Prop:=
 ∃A c xs,e=.returned (.tuple #[.agg #[.string T.name,.int .i64 T.tracks,.slice A T.labels.length c],.int .i64 er])/\TabAt w' A c xs T/\Grew w w'
section
variable (A:Option Addr) (c:Nat) (xs:List LabE) (T:Tab) (id unit:Int) (w:World) (p1 p2:Nat)
theorem Ew (fi:FuncId) (cs:Array Value) (hE:C2 Tryz.prog fi) (h:TabAt w A c xs T) (hs:SmallT T) (F:Nat->Lab->List Lab × Int)
 (HC:∀(w1:World) (base g cap xo:Nat) (ys:List LabE) (k:Nat) (hk:k<T.labels.length),FY id unit T.labels[k]=true->OutAt w w1 base g cap xo ys T->Calls Tryz.prog fi (#[]++#[.pointer (some ⟨g,k*5,none⟩),.pointer (some ⟨xo,0,none⟩)]++cs) w1 (LP w1 base g cap T.labels.length (F k T.labels[k])))
 (T':Tab) (er:Int) (hr:Bg T id unit F=(T',er)):
 Calls Tryz.prog 154 #[.agg #[.string T.name,.int .i64 T.tracks,.slice A T.labels.length c],.agg #[.int .i64 id,.int .i64 unit],.func (.func fi) #[] cs] w (Ju w T' er):=by
 have B:=(((fh w).alloc (.cells #[.string T.name,.int .i64 T.tracks,.slice A T.labels.length c] 50)).alloc (.cells #[.int .i64 id,.int .i64 unit] 32)).alloc (.cells #[.string ⟨#[]⟩,.int .i64 0,.slice none 0 0] 50);have J:=((fy w 50 #[.string T.name,.int .i64 T.tracks,.slice A T.labels.length c] rfl).alloc (.cells #[.int .i64 id,.int .i64 unit] 32)).alloc (.cells #[.string ⟨#[]⟩,.int .i64 0,.slice none 0 0] 50);have K:=(fy (w.alloc (.cells #[.string T.name,.int .i64 T.tracks,.slice A T.labels.length c] 50)) 32 #[.int .i64 id,.int .i64 unit] (n:=w.heap.size+1) qs).alloc (.cells #[.string ⟨#[]⟩,.int .i64 0,.slice none 0 0] 50);have L:=fy ((w.alloc (.cells #[.string T.name,.int .i64 T.tracks,.slice A T.labels.length c] 50)).alloc (.cells #[.int .i64 id,.int .i64 unit] 32)) 50 #[.string ⟨#[]⟩,.int .i64 0,.slice none 0 0] (n:=w.heap.size+1+1) qs;have HV:=zh (Eo A c xs T _ (h.hold B) hs _ rfl);have M:=zh (λw2 (g2:Grew w w2) k hk=>Ji A c xs T id unit w2 (h.hold g2) hs _ rfl k hk);have Y:=zh (λw2 (g2:Grew w w2)=>Oh A c xs T w2 (h.hold g2) hs _ rfl);have C:=zh (show T.name.size<=9223372036854775807/\-9223372036854775808<=T.tracks/\T.tracks<=9223372036854775807 from ⟨h.name,h.tr0,h.tr1⟩);have Z:=zh HC;have D:=zh B;have N:=zh J;have O:=zh K;have E:=zh L;have aa:=zh hE;clear h hs HC B J K L hE;rcases Nf T id unit F with ⟨hv,hx⟩ | ⟨hv,hi,hx⟩ | ⟨hv,k,hk,hi,X,hx⟩
 . rw [hx] at hr;injection hr with h1 h2;subst h1;subst h2;have l:=zh hv;clear hv hx;go_enter Tryz.func154,Tryz.ntmps154;go_wp2_with fail;refine HV.mono ?_;rintro e w1 ⟨rfl,g1⟩;rw [l.out];have a:=E.grew g1;have z0:=a.cell 0;have z1:=a.cell 1;have z2:=a.cell 2;have f0:=a.frozen 0;have f1:=a.frozen 1;have f2:=a.frozen 2;have P:=a.lt;have ad:=D.out.trans g1;clear a g1;go_wp2_with fail;refine f7 (by first | (simp [*,results,Tryz.results154,go_sem];rfl) | simp [*,results,Tryz.results154,go_sem]) rfl ?_;exact ⟨none,0,[],rfl,TabAt.zero _,gG⟩
 . rw [hx] at hr;injection hr with h1 h2;subst h1;subst h2;have l:=zh hv;have HI:=zh hi;clear hv hx hi;go_enter Tryz.func154,Tryz.ntmps154;go_wp2_with fail;refine HV.mono ?_;rintro e w1 ⟨rfl,g1⟩;rw [l.out];have d:=N.grew g1;have b0:=d.cell 0;have b1:=d.cell 1;have b2:=d.cell 2;have ae:=d.lt;have s:=O.grew g1;have r0:=s.cell 0;have r1:=s.cell 1;have aj:=s.lt;have m:=zh (D.out.trans g1);have G:=zh (E.grew g1);clear d s g1;go_wp2_with fail;refine (M w1 m _ HI).mono ?_;rintro e w2 ⟨rfl,g2⟩;have a:=G.grew g2;have z0:=a.cell 0;have z1:=a.cell 1;have z2:=a.cell 2;have f0:=a.frozen 0;have f1:=a.frozen 1;have f2:=a.frozen 2;have P:=a.lt;have ad:=m.out.trans g2;clear a g2 b0 b1 b2 r0 r1;go_wp2_with fail;refine f7 (by first | (simp [*,results,Tryz.results154,go_sem];rfl) | simp [*,results,Tryz.results154,go_sem]) rfl ?_;exact ⟨none,0,[],rfl,TabAt.zero _,gG⟩
 . have l:=zh hv;have HI:=zh hi;have al:=zh X;obtain ⟨⟨r1,r2⟩,hF⟩:∃r,F k T.labels[k]=r:=⟨_,rfl⟩;rw [hF] at hx;have HF:=zh hF;have bc:(k:Int)<(T.labels.length:Int):=oo;clear hv hi X hF;go_enter Tryz.func154,Tryz.ntmps154;go_wp2_with fail;refine HV.mono ?_;rintro e w1 ⟨rfl,g1⟩;rw [l.out];have d:=N.grew g1;have b0:=d.cell 0;have b1:=d.cell 1;have b2:=d.cell 2;have ae:=d.lt;have t:=O.grew g1;have an:=t.cell 0;have av:=t.cell 1;have aj:=t.lt;have m:=zh (D.out.trans g1);have G:=zh (E.grew g1);have a0:=zh d;clear d t g1;go_wp2_with fail;refine (M w1 m _ HI).mono ?_;rintro e w2 ⟨rfl,g2⟩;have o:=a0.grew g2;clear b0 b1 b2 an av;have b0:=o.cell 0;have b1:=o.cell 1;have b2:=o.cell 2;have bd:=o.lt;have Q:=zh (m.out.trans g2);have R:=zh (G.grew g2);clear o g2;go_wp2_with fail;refine (Y w2 Q).mono ?_;rintro e w3 ⟨v,ys,rfl,j,g3⟩
   obtain ⟨g,cap,rfl,bs,bt⟩:∃g cap,v=.slice (some ⟨g,0,none⟩) T.labels.length cap/\w2.heap.size<=g/\g<w3.heap.size:=by
    rcases j.own.form with ⟨_,h0⟩ | ⟨g,cap,hv,h1,h2,_⟩
    . have:=gJ length h0;rw [fm,j.len,length_nil] at this;omega
    . rw [fm,j.len] at hv;exact ⟨g,cap,hv,h1,h2⟩
   have p:Grew w3 (w3.alloc (.cells #[.string T.name,.int .i64 T.tracks,.slice (some ⟨g,0,none⟩) T.labels.length cap] 50)):=(fh w3).alloc _;have u:=Q.out.trans g3;have a1:=R.out.lt;have H:OutAt w (w3.alloc (.cells #[.string T.name,.int .i64 T.tracks,.slice (some ⟨g,0,none⟩) T.labels.length cap] 50)) w2.heap.size g cap w3.heap.size ys T:=
    ⟨u.trans p,oo,u.size,oo,j.hold p,fy w3 _ _ rfl⟩
   have I:=zh (Z _ _ _ _ _ _ k hk al H);have bf:k<cap:=by have:=j.own.len.2.1;omega
   have a2:=zh ((R.grew g3).grew p);have a3:=zh (u.trans p);have a4:=zh H.blk;have a5:¬w.heap.size+1+1=g:=oo;have a6:¬w3.heap.size=g:=oo;have bk:w.heap.size+1+1<w3.heap.size:=fw a1 g3.size;have bl:w.heap.size<=g:=oo;rw [HF.out] at I;clear j p u H g3 b0 b1 b2;have U:=aa.out;unfold C2 at U;go_wp2_with fail;clear U;refine I.mono ?_;rintro e w4 ⟨rfl,⟨bb,x⟩,z⟩;have f:=a2.turned z a5;have q:=a4.turned z a6;have z0:=f.cell 0;have z1:=f.cell 1;have z2:=f.cell 2;have f0:=f.frozen 0;have f1:=f.frozen 1;have f2:=f.frozen 2;have o0:=q.cell 0;have o1:=q.cell 1;have o2:=q.cell 2;have P:=f.lt;have bn:=q.lt;have bo:Grew w w4:=a3.turn z (λi e=>oo);have V:=x.apart f;have a7:=zh x;have a8:=zh V;have a9:=zh x.nlen;clear f q z x V I;rcases hx with ⟨h0,hx⟩ | ⟨h0,hx⟩
   . try simp only at h0
     subst h0;rw [hx] at hr;injection hr with h1 h2;subst h2;have W:=zh h1;clear hx h1;go_wp2_with fail;refine f7 (by first | (simp [*,results,Tryz.results154,go_sem];rfl) | simp [*,results,Tryz.results154,go_sem]) rfl ?_;refine ⟨some ⟨g,0,none⟩,cap,bb,by rw [<-W.out];simp only [a9.out],?_,gG⟩;rw [<-W.out];exact (a7.turned (S:=λk=>k=w.heap.size+1+1) (gT) (λg' e=>by have e':g=g':=Option.some.inj e;omega) (λy hy h0 b off e=>a8 y hy h0 b off e)).tabAt _ _ C.1 C.2.1 C.2.2
   . try simp only at h0 hx
     rw [hx] at hr;injection hr with h1 h2;subst h1;subst h2;have br:(r2 != 0)=true:=by rw [gu];exact h0
     clear hx h0;go_wp2_with fail;refine f7 (by first | (simp [*,results,Tryz.results154,go_sem];rfl) | simp [*,results,Tryz.results154,go_sem]) rfl ?_;exact ⟨none,0,[],rfl,TabAt.zero _,gG⟩
theorem Tp (h:TabAt w A c xs T) (hs:SmallT T) (F:Nat->Lab->List Lab × Int)
 (HC:∀(w1:World) (base g cap xo:Nat) (ys:List LabE) (k:Nat) (hk:k<T.labels.length),FY id unit T.labels[k]=true->OutAt w w1 base g cap xo ys T->Calls Tryz.prog 156 #[.pointer (some ⟨g,k*5,none⟩),.pointer (some ⟨xo,0,none⟩),.pointer (some ⟨p1,0,none⟩),.pointer (some ⟨p2,0,none⟩)] w1 (LP w1 base g cap T.labels.length (F k T.labels[k])))
 (T':Tab) (er:Int) (hr:Bg T id unit F=(T',er)):
 Calls Tryz.prog 154 #[.agg #[.string T.name,.int .i64 T.tracks,.slice A T.labels.length c],.agg #[.int .i64 id,.int .i64 unit],.func (.func 156) #[] #[.pointer (some ⟨p1,0,none⟩),.pointer (some ⟨p2,0,none⟩)]] w (Ju w T' er):=by
 have hE:C2 Tryz.prog 156:=BQ Tryz.func156 qk qk;exact Ew A c xs T id unit w 156 #[.pointer (some ⟨p1,0,none⟩),.pointer (some ⟨p2,0,none⟩)] hE h hs F (λw1 base g cap xo ys k hk hh ho=>HC w1 base g cap xo ys k hk hh ho) T' er hr
theorem VE (h:TabAt w A c xs T) (hs:SmallT T) (F:Nat->Lab->List Lab × Int)
 (HC:∀(w1:World) (base g cap xo:Nat) (ys:List LabE) (k:Nat) (hk:k<T.labels.length),FY id unit T.labels[k]=true->OutAt w w1 base g cap xo ys T->Calls Tryz.prog 158 #[.pointer (some ⟨g,k*5,none⟩),.pointer (some ⟨xo,0,none⟩),.pointer (some ⟨p1,0,none⟩)] w1 (LP w1 base g cap T.labels.length (F k T.labels[k])))
 (T':Tab) (er:Int) (hr:Bg T id unit F=(T',er)):
 Calls Tryz.prog 154 #[.agg #[.string T.name,.int .i64 T.tracks,.slice A T.labels.length c],.agg #[.int .i64 id,.int .i64 unit],.func (.func 158) #[] #[.pointer (some ⟨p1,0,none⟩)]] w (Ju w T' er):=by
 have hE:C2 Tryz.prog 158:=BQ Tryz.func158 qk qk;exact Ew A c xs T id unit w 158 #[.pointer (some ⟨p1,0,none⟩)] hE h hs F (λw1 base g cap xo ys k hk hh ho=>HC w1 base g cap xo ys k hk hh ho) T' er hr
theorem Uf (h:TabAt w A c xs T) (hs:SmallT T) (F:Nat->Lab->List Lab × Int)
 (HC:∀(w1:World) (base g cap xo:Nat) (ys:List LabE) (k:Nat) (hk:k<T.labels.length),FY id unit T.labels[k]=true->OutAt w w1 base g cap xo ys T->Calls Tryz.prog 155 #[.pointer (some ⟨g,k*5,none⟩),.pointer (some ⟨xo,0,none⟩),.pointer (some ⟨p1,0,none⟩)] w1 (LP w1 base g cap T.labels.length (F k T.labels[k])))
 (T':Tab) (er:Int) (hr:Bg T id unit F=(T',er)):
 Calls Tryz.prog 154 #[.agg #[.string T.name,.int .i64 T.tracks,.slice A T.labels.length c],.agg #[.int .i64 id,.int .i64 unit],.func (.func 155) #[] #[.pointer (some ⟨p1,0,none⟩)]] w (Ju w T' er):=by
 have hE:C2 Tryz.prog 155:=BQ Tryz.func155 qk qk;exact Ew A c xs T id unit w 155 #[.pointer (some ⟨p1,0,none⟩)] hE h hs F (λw1 base g cap xo ys k hk hh ho=>HC w1 base g cap xo ys k hk hh ho) T' er hr
theorem TF (h:TabAt w A c xs T) (hs:SmallT T) (F:Nat->Lab->List Lab × Int)
 (HC:∀(w1:World) (base g cap xo:Nat) (ys:List LabE) (k:Nat) (hk:k<T.labels.length),FY id unit T.labels[k]=true->OutAt w w1 base g cap xo ys T->Calls Tryz.prog 160 #[.pointer (some ⟨g,k*5,none⟩),.pointer (some ⟨xo,0,none⟩),.pointer (some ⟨p1,0,none⟩),.pointer (some ⟨p2,0,none⟩)] w1 (LP w1 base g cap T.labels.length (F k T.labels[k])))
 (T':Tab) (er:Int) (hr:Bg T id unit F=(T',er)):
 Calls Tryz.prog 154 #[.agg #[.string T.name,.int .i64 T.tracks,.slice A T.labels.length c],.agg #[.int .i64 id,.int .i64 unit],.func (.func 160) #[] #[.pointer (some ⟨p1,0,none⟩),.pointer (some ⟨p2,0,none⟩)]] w (Ju w T' er):=by
 have hE:C2 Tryz.prog 160:=BQ Tryz.func160 qk qk;exact Ew A c xs T id unit w 160 #[.pointer (some ⟨p1,0,none⟩),.pointer (some ⟨p2,0,none⟩)] hE h hs F (λw1 base g cap xo ys k hk hh ho=>HC w1 base g cap xo ys k hk hh ho) T' er hr
theorem Qx (h:TabAt w A c xs T) (hs:SmallT T) (F:Nat->Lab->List Lab × Int)
 (HC:∀(w1:World) (base g cap xo:Nat) (ys:List LabE) (k:Nat) (hk:k<T.labels.length),FY id unit T.labels[k]=true->OutAt w w1 base g cap xo ys T->Calls Tryz.prog 161 #[.pointer (some ⟨g,k*5,none⟩),.pointer (some ⟨xo,0,none⟩),.pointer (some ⟨p1,0,none⟩)] w1 (LP w1 base g cap T.labels.length (F k T.labels[k])))
 (T':Tab) (er:Int) (hr:Bg T id unit F=(T',er)):
 Calls Tryz.prog 154 #[.agg #[.string T.name,.int .i64 T.tracks,.slice A T.labels.length c],.agg #[.int .i64 id,.int .i64 unit],.func (.func 161) #[] #[.pointer (some ⟨p1,0,none⟩)]] w (Ju w T' er):=by
 have hE:C2 Tryz.prog 161:=BQ Tryz.func161 qk qk;exact Ew A c xs T id unit w 161 #[.pointer (some ⟨p1,0,none⟩)] hE h hs F (λw1 base g cap xo ys k hk hh ho=>HC w1 base g cap xo ys k hk hh ho) T' er hr
theorem TI (h:TabAt w A c xs T) (hs:SmallT T) (F:Nat->Lab->List Lab × Int)
 (HC:∀(w1:World) (base g cap xo:Nat) (ys:List LabE) (k:Nat) (hk:k<T.labels.length),FY id unit T.labels[k]=true->OutAt w w1 base g cap xo ys T->Calls Tryz.prog 162 #[.pointer (some ⟨g,k*5,none⟩),.pointer (some ⟨xo,0,none⟩)] w1 (LP w1 base g cap T.labels.length (F k T.labels[k])))
 (T':Tab) (er:Int) (hr:Bg T id unit F=(T',er)):
 Calls Tryz.prog 154 #[.agg #[.string T.name,.int .i64 T.tracks,.slice A T.labels.length c],.agg #[.int .i64 id,.int .i64 unit],.func (.func 162) #[] #[]] w (Ju w T' er):=by
 have hE:C2 Tryz.prog 162:=BQ Tryz.func162 qk qk;exact Ew A c xs T id unit w 162 #[] hE h hs F (λw1 base g cap xo ys k hk hh ho=>HC w1 base g cap xo ys k hk hh ho) T' er hr
end

theorem TabAt.turned {S:Nat->Prop} {w w':World} {A:Option Addr} {c:Nat} {xs:List LabE} {T:Tab} (h:TabAt w A c xs T) (ht:Turned S w w') (h1:0<xs.length->∀b off,A=some ⟨b,off,none⟩->¬S b) (h2:∀x∈xs,0<x.l.ext.length->∀b off,x.A=some ⟨b,off,none⟩->¬S b):TabAt w' A c xs T:=
 ⟨λx hx=>(h.lab x hx).turned ht (h2 x hx),λh0=>by
  obtain ⟨b,off,e,hb,hc⟩:=h.rows h0
  exact ⟨b,off,e,fw hb ht.size,λj cs hj i v hi=>by rw [ht.cellEq _ _ hb (h1 (by simpa using h0) b off e)];exact hc j cs hj i v hi⟩,h.len,h.cap,h.eq,h.tr0,h.tr1,h.name⟩
theorem TabAt.apart {w w':World} {A:Option Addr} {c:Nat} {xs:List LabE} {T:Tab} (h:TabAt w A c xs T) {g:Nat} {t:TypeId} {s:ByteArray} {i:Int} {a:Option Addr} {n d:Nat} (hb:Blk w g t #[.string s,.int .i64 i,.slice a n d]) (ht:Turned (λx=>x=g) w w'):TabAt w' A c xs T:=by
 refine h.turned ht (λh0 b off e=>?_) (λx hx h0 b off e=>Lv (h.lab x hx).runs h0 hb b off e);rintro rfl;obtain ⟨b',f,e',j,hc⟩:=h.rows (by simpa using h0);rw [e] at e';injection e' with e';injection e' with e1 e2 _;subst e1;subst e2;have hr:(xs.map DN)[0]? =some (DN xs[0]):=by rw [fo,fg h0];rfl
 have c0:=hc 0 _ hr 0 _ rfl;have c1:=hc 0 _ hr 1 _ rfl;rw [Nat.zero_mul,ik,hb.cell] at c0 c1
 match off with
 | 0=>simp at c0
 | 1=>simp at c1
 | 2=>simp at c0
 | off+3=>simp at c0
section
variable (A:Option Addr) (c:Nat) (xs:List LabE) (T:Tab) (id unit:Int) (w:World)
theorem Uq (h:TabAt w A c xs T) (hs:SmallT T) (n:Int) (n0:-9223372036854775808<=n) (n1:n<=9223372036854775807) (T':Tab) (er:Int) (hr:Bg T id unit (Gy T n)=(T',er)):
 Calls Tryz.prog 82 #[.agg #[.string T.name,.int .i64 T.tracks,.slice A T.labels.length c],.agg #[.int .i64 id,.int .i64 unit],.int .i64 n] w (Ju w T' er):=by
 have b:=((((fh w).alloc (.cells #[.string T.name,.int .i64 T.tracks,.slice A T.labels.length c] 50)).alloc (.cells #[.int .i64 id,.int .i64 unit] 32)).alloc (.cells #[.int .i64 n] 3)).alloc (.cells #[.string ⟨#[]⟩,.int .i64 0,.slice none 0 0] 50);have d:=(((fy w 50 #[.string T.name,.int .i64 T.tracks,.slice A T.labels.length c] rfl).alloc (.cells #[.int .i64 id,.int .i64 unit] 32)).alloc (.cells #[.int .i64 n] 3)).alloc (.cells #[.string ⟨#[]⟩,.int .i64 0,.slice none 0 0] 50);have l:=((fy (w.alloc (.cells #[.string T.name,.int .i64 T.tracks,.slice A T.labels.length c] 50)) 32 #[.int .i64 id,.int .i64 unit] (n:=w.heap.size+1) qs).alloc (.cells #[.int .i64 n] 3)).alloc (.cells #[.string ⟨#[]⟩,.int .i64 0,.slice none 0 0] 50);have f:=(fy ((w.alloc (.cells #[.string T.name,.int .i64 T.tracks,.slice A T.labels.length c] 50)).alloc (.cells #[.int .i64 id,.int .i64 unit] 32)) 3 #[.int .i64 n] (n:=w.heap.size+2) qs).alloc (.cells #[.string ⟨#[]⟩,.int .i64 0,.slice none 0 0] 50);have i:=fy (((w.alloc (.cells #[.string T.name,.int .i64 T.tracks,.slice A T.labels.length c] 50)).alloc (.cells #[.int .i64 id,.int .i64 unit] 32)).alloc (.cells #[.int .i64 n] 3)) 50 #[.string ⟨#[]⟩,.int .i64 0,.slice none 0 0] (n:=w.heap.size+3) qs;have h0:=h.hold b;have HC:=zh (Tp A c xs T id unit _ w.heap.size (w.heap.size+2) h0 hs (Gy T n) (λw1 base g cap xo ys k hk _ ho=>Rt _ w1 base g cap xo ys T k hk ho A c xs h0 hs n n0 n1 _ _ d f) T' er hr);have m:=zh b;have o:=zh i;clear h hs b d l f i h0;go_enter Tryz.func82,Tryz.ntmps82;go_wp2_with fail;refine HC.mono ?_;rintro e w1 ⟨A1,c1,q,rfl,j,g1⟩;have a:=o.grew g1;have z0:=a.cell 0;have z1:=a.cell 1;have z2:=a.cell 2;have f0:=a.frozen 0;have f1:=a.frozen 1;have f2:=a.frozen 2;have r:=a.lt;have s:=m.out.trans g1;have p:=zh (λw2 (ht:Turned (λx=>x=w.heap.size+3) w1 w2)=>j.apart a ht);clear a g1 j;go_wp2_with fail;refine f7 (by first | (simp [*,results,Tryz.results82,go_sem];rfl) | simp [*,results,Tryz.results82,go_sem]) rfl ?_;exact ⟨A1,c1,q,rfl,p _ (gT),gG⟩
theorem RV (h:TabAt w A c xs T) (hs:SmallT T) (n:Int) (n0:-9223372036854775808<=n) (n1:n<=9223372036854775807) (T':Tab) (er:Int) (hr:Bg T id unit (Gu T n)=(T',er)):
 Calls Tryz.prog 84 #[.agg #[.string T.name,.int .i64 T.tracks,.slice A T.labels.length c],.agg #[.int .i64 id,.int .i64 unit],.int .i64 n] w (Ju w T' er):=by
 have b:=((((fh w).alloc (.cells #[.string T.name,.int .i64 T.tracks,.slice A T.labels.length c] 50)).alloc (.cells #[.int .i64 id,.int .i64 unit] 32)).alloc (.cells #[.int .i64 n] 3)).alloc (.cells #[.string ⟨#[]⟩,.int .i64 0,.slice none 0 0] 50);have j:=(((fy w 50 #[.string T.name,.int .i64 T.tracks,.slice A T.labels.length c] rfl).alloc (.cells #[.int .i64 id,.int .i64 unit] 32)).alloc (.cells #[.int .i64 n] 3)).alloc (.cells #[.string ⟨#[]⟩,.int .i64 0,.slice none 0 0] 50);have l:=((fy (w.alloc (.cells #[.string T.name,.int .i64 T.tracks,.slice A T.labels.length c] 50)) 32 #[.int .i64 id,.int .i64 unit] (n:=w.heap.size+1) qs).alloc (.cells #[.int .i64 n] 3)).alloc (.cells #[.string ⟨#[]⟩,.int .i64 0,.slice none 0 0] 50);have d:=(fy ((w.alloc (.cells #[.string T.name,.int .i64 T.tracks,.slice A T.labels.length c] 50)).alloc (.cells #[.int .i64 id,.int .i64 unit] 32)) 3 #[.int .i64 n] (n:=w.heap.size+2) qs).alloc (.cells #[.string ⟨#[]⟩,.int .i64 0,.slice none 0 0] 50);have f:=fy (((w.alloc (.cells #[.string T.name,.int .i64 T.tracks,.slice A T.labels.length c] 50)).alloc (.cells #[.int .i64 id,.int .i64 unit] 32)).alloc (.cells #[.int .i64 n] 3)) 50 #[.string ⟨#[]⟩,.int .i64 0,.slice none 0 0] (n:=w.heap.size+3) qs;have h0:=h.hold b;have HC:=zh (VE A c xs T id unit _ (w.heap.size+2) h0 hs (Gu T n) (λw1 base g cap xo ys k hk _ ho=>QO _ w1 base g cap xo ys T k hk ho hs n n0 n1 _ d) T' er hr);have m:=zh b;have o:=zh f;clear h hs b j l d f h0;go_enter Tryz.func84,Tryz.ntmps84;go_wp2_with fail;refine HC.mono ?_;rintro e w1 ⟨A1,c1,q,rfl,i,g1⟩;have a:=o.grew g1;have z0:=a.cell 0;have z1:=a.cell 1;have z2:=a.cell 2;have f0:=a.frozen 0;have f1:=a.frozen 1;have f2:=a.frozen 2;have r:=a.lt;have s:=m.out.trans g1;have p:=zh (λw2 (ht:Turned (λx=>x=w.heap.size+3) w1 w2)=>i.apart a ht);clear a g1 i;go_wp2_with fail;refine f7 (by first | (simp [*,results,Tryz.results84,go_sem];rfl) | simp [*,results,Tryz.results84,go_sem]) rfl ?_;exact ⟨A1,c1,q,rfl,p _ (gT),gG⟩
theorem Sd (h:TabAt w A c xs T) (hs:SmallT T) (Ax:Option Addr) (cx:Nat) (ex:List (Int × Int)) (hx:RunsAt w w.heap.size Ax ex) (j:ex.length<=1000) (T':Tab) (er:Int) (hr:Bg T id unit (GZ T ex)=(T',er)):
 Calls Tryz.prog 80 #[.agg #[.string T.name,.int .i64 T.tracks,.slice A T.labels.length c],.agg #[.int .i64 id,.int .i64 unit],.slice Ax ex.length cx] w (Ju w T' er):=by
 have b:=((((fh w).alloc (.cells #[.string T.name,.int .i64 T.tracks,.slice A T.labels.length c] 50)).alloc (.cells #[.int .i64 id,.int .i64 unit] 32)).alloc (.cells #[.slice Ax ex.length cx] 33)).alloc (.cells #[.string ⟨#[]⟩,.int .i64 0,.slice none 0 0] 50);have l:=(((fy w 50 #[.string T.name,.int .i64 T.tracks,.slice A T.labels.length c] rfl).alloc (.cells #[.int .i64 id,.int .i64 unit] 32)).alloc (.cells #[.slice Ax ex.length cx] 33)).alloc (.cells #[.string ⟨#[]⟩,.int .i64 0,.slice none 0 0] 50);have m:=((fy (w.alloc (.cells #[.string T.name,.int .i64 T.tracks,.slice A T.labels.length c] 50)) 32 #[.int .i64 id,.int .i64 unit] (n:=w.heap.size+1) qs).alloc (.cells #[.slice Ax ex.length cx] 33)).alloc (.cells #[.string ⟨#[]⟩,.int .i64 0,.slice none 0 0] 50);have d:=(fy ((w.alloc (.cells #[.string T.name,.int .i64 T.tracks,.slice A T.labels.length c] 50)).alloc (.cells #[.int .i64 id,.int .i64 unit] 32)) 33 #[.slice Ax ex.length cx] (n:=w.heap.size+2) qs).alloc (.cells #[.string ⟨#[]⟩,.int .i64 0,.slice none 0 0] 50);have f:=fy (((w.alloc (.cells #[.string T.name,.int .i64 T.tracks,.slice A T.labels.length c] 50)).alloc (.cells #[.int .i64 id,.int .i64 unit] 32)).alloc (.cells #[.slice Ax ex.length cx] 33)) 50 #[.string ⟨#[]⟩,.int .i64 0,.slice none 0 0] (n:=w.heap.size+3) qs;have h0:=h.hold b;have HC:=zh (Uf A c xs T id unit _ (w.heap.size+2) h0 hs (GZ T ex) (λw1 base g cap xo ys k hk _ ho=>Qr _ w1 base g cap xo ys T k hk ho hs h.name h.tr0 h.tr1 Ax cx ex (hx.hold b) j _ d) T' er hr);have o:=zh b;have p:=zh f;clear h hs b l m d f h0 hx;go_enter Tryz.func80,Tryz.ntmps80;go_wp2_with fail;refine HC.mono ?_;rintro e w1 ⟨A1,c1,r,rfl,i,g1⟩;have a:=p.grew g1;have z0:=a.cell 0;have z1:=a.cell 1;have z2:=a.cell 2;have f0:=a.frozen 0;have f1:=a.frozen 1;have f2:=a.frozen 2;have s:=a.lt;have t:=o.out.trans g1;have q:=zh (λw2 (ht:Turned (λx=>x=w.heap.size+3) w1 w2)=>i.apart a ht);clear a g1 i;go_wp2_with fail;refine f7 (by first | (simp [*,results,Tryz.results80,go_sem];rfl) | simp [*,results,Tryz.results80,go_sem]) rfl ?_;exact ⟨A1,c1,r,rfl,q _ (gT),gG⟩
theorem Rj (h:TabAt w A c xs T) (hs:SmallT T) (a:ByteArray) (m:a.size<=9223372036854775807) (T':Tab) (er:Int) (hr:Bg T id unit (IE T id a)=(T',er)):
 Calls Tryz.prog 86 #[.agg #[.string T.name,.int .i64 T.tracks,.slice A T.labels.length c],.agg #[.int .i64 id,.int .i64 unit],.string a] w (Ju w T' er):=by
 have d:=((((fh w).alloc (.cells #[.string T.name,.int .i64 T.tracks,.slice A T.labels.length c] 50)).alloc (.cells #[.int .i64 id,.int .i64 unit] 32)).alloc (.cells #[.string a] 9)).alloc (.cells #[.string ⟨#[]⟩,.int .i64 0,.slice none 0 0] 50);have o:=(((fy w 50 #[.string T.name,.int .i64 T.tracks,.slice A T.labels.length c] rfl).alloc (.cells #[.int .i64 id,.int .i64 unit] 32)).alloc (.cells #[.string a] 9)).alloc (.cells #[.string ⟨#[]⟩,.int .i64 0,.slice none 0 0] 50);have f:=((fy (w.alloc (.cells #[.string T.name,.int .i64 T.tracks,.slice A T.labels.length c] 50)) 32 #[.int .i64 id,.int .i64 unit] (n:=w.heap.size+1) qs).alloc (.cells #[.string a] 9)).alloc (.cells #[.string ⟨#[]⟩,.int .i64 0,.slice none 0 0] 50);have i:=(fy ((w.alloc (.cells #[.string T.name,.int .i64 T.tracks,.slice A T.labels.length c] 50)).alloc (.cells #[.int .i64 id,.int .i64 unit] 32)) 9 #[.string a] (n:=w.heap.size+2) qs).alloc (.cells #[.string ⟨#[]⟩,.int .i64 0,.slice none 0 0] 50);have j:=fy (((w.alloc (.cells #[.string T.name,.int .i64 T.tracks,.slice A T.labels.length c] 50)).alloc (.cells #[.int .i64 id,.int .i64 unit] 32)).alloc (.cells #[.string a] 9)) 50 #[.string ⟨#[]⟩,.int .i64 0,.slice none 0 0] (n:=w.heap.size+3) qs;have h0:=h.hold d;have HC:=zh (TF A c xs T id unit _ (w.heap.size+2) (w.heap.size+1) h0 hs (IE T id a) (λw1 base g cap xo ys k hk _ ho=>QI _ w1 base g cap xo ys T k hk ho hs h.name h.tr0 h.tr1 a m id unit _ _ i f) T' er hr);have p:=zh d;have q:=zh j;clear h hs d o f i j h0;go_enter Tryz.func86,Tryz.ntmps86;go_wp2_with fail;refine HC.mono ?_;rintro e w1 ⟨A1,c1,s,rfl,l,g1⟩;have b:=q.grew g1;have z0:=b.cell 0;have z1:=b.cell 1;have z2:=b.cell 2;have f0:=b.frozen 0;have f1:=b.frozen 1;have f2:=b.frozen 2;have t:=b.lt;have u:=p.out.trans g1;have r:=zh (λw2 (ht:Turned (λx=>x=w.heap.size+3) w1 w2)=>l.apart b ht);clear b g1 l;go_wp2_with fail;refine f7 (by first | (simp [*,results,Tryz.results86,go_sem];rfl) | simp [*,results,Tryz.results86,go_sem]) rfl ?_;exact ⟨A1,c1,s,rfl,r _ (gT),gG⟩
theorem aL (h:TabAt w A c xs T) (hs:SmallT T) (a:ByteArray) (l:a.size<=9223372036854775807) (T':Tab) (er:Int) (hr:Bg T id unit (Eu T a)=(T',er)):
 Calls Tryz.prog 88 #[.agg #[.string T.name,.int .i64 T.tracks,.slice A T.labels.length c],.agg #[.int .i64 id,.int .i64 unit],.string a] w (Ju w T' er):=by
 have d:=((((fh w).alloc (.cells #[.string T.name,.int .i64 T.tracks,.slice A T.labels.length c] 50)).alloc (.cells #[.int .i64 id,.int .i64 unit] 32)).alloc (.cells #[.string a] 9)).alloc (.cells #[.string ⟨#[]⟩,.int .i64 0,.slice none 0 0] 50);have m:=(((fy w 50 #[.string T.name,.int .i64 T.tracks,.slice A T.labels.length c] rfl).alloc (.cells #[.int .i64 id,.int .i64 unit] 32)).alloc (.cells #[.string a] 9)).alloc (.cells #[.string ⟨#[]⟩,.int .i64 0,.slice none 0 0] 50);have o:=((fy (w.alloc (.cells #[.string T.name,.int .i64 T.tracks,.slice A T.labels.length c] 50)) 32 #[.int .i64 id,.int .i64 unit] (n:=w.heap.size+1) qs).alloc (.cells #[.string a] 9)).alloc (.cells #[.string ⟨#[]⟩,.int .i64 0,.slice none 0 0] 50);have f:=(fy ((w.alloc (.cells #[.string T.name,.int .i64 T.tracks,.slice A T.labels.length c] 50)).alloc (.cells #[.int .i64 id,.int .i64 unit] 32)) 9 #[.string a] (n:=w.heap.size+2) qs).alloc (.cells #[.string ⟨#[]⟩,.int .i64 0,.slice none 0 0] 50);have i:=fy (((w.alloc (.cells #[.string T.name,.int .i64 T.tracks,.slice A T.labels.length c] 50)).alloc (.cells #[.int .i64 id,.int .i64 unit] 32)).alloc (.cells #[.string a] 9)) 50 #[.string ⟨#[]⟩,.int .i64 0,.slice none 0 0] (n:=w.heap.size+3) qs;have h0:=h.hold d;have HC:=zh (Qx A c xs T id unit _ (w.heap.size+2) h0 hs (Eu T a) (λw1 base g cap xo ys k hk _ ho=>Wo _ w1 base g cap xo ys T k hk ho a l _ f) T' er hr);have p:=zh d;have q:=zh i;clear h hs d m o f i h0;go_enter Tryz.func88,Tryz.ntmps88;go_wp2_with fail;refine HC.mono ?_;rintro e w1 ⟨A1,c1,s,rfl,j,g1⟩;have b:=q.grew g1;have z0:=b.cell 0;have z1:=b.cell 1;have z2:=b.cell 2;have f0:=b.frozen 0;have f1:=b.frozen 1;have f2:=b.frozen 2;have t:=b.lt;have u:=p.out.trans g1;have r:=zh (λw2 (ht:Turned (λx=>x=w.heap.size+3) w1 w2)=>j.apart b ht);clear b g1 j;go_wp2_with fail;refine f7 (by first | (simp [*,results,Tryz.results88,go_sem];rfl) | simp [*,results,Tryz.results88,go_sem]) rfl ?_;exact ⟨A1,c1,s,rfl,r _ (gT),gG⟩
theorem U3 (h:TabAt w A c xs T) (hs:SmallT T) (T':Tab) (er:Int) (hr:Bg T id unit (JU T)=(T',er)):
 Calls Tryz.prog 90 #[.agg #[.string T.name,.int .i64 T.tracks,.slice A T.labels.length c],.agg #[.int .i64 id,.int .i64 unit]] w (Ju w T' er):=by
 have b:=(((fh w).alloc (.cells #[.string T.name,.int .i64 T.tracks,.slice A T.labels.length c] 50)).alloc (.cells #[.int .i64 id,.int .i64 unit] 32)).alloc (.cells #[.string ⟨#[]⟩,.int .i64 0,.slice none 0 0] 50);have i:=((fy w 50 #[.string T.name,.int .i64 T.tracks,.slice A T.labels.length c] rfl).alloc (.cells #[.int .i64 id,.int .i64 unit] 32)).alloc (.cells #[.string ⟨#[]⟩,.int .i64 0,.slice none 0 0] 50);have j:=(fy (w.alloc (.cells #[.string T.name,.int .i64 T.tracks,.slice A T.labels.length c] 50)) 32 #[.int .i64 id,.int .i64 unit] (n:=w.heap.size+1) qs).alloc (.cells #[.string ⟨#[]⟩,.int .i64 0,.slice none 0 0] 50);have d:=fy ((w.alloc (.cells #[.string T.name,.int .i64 T.tracks,.slice A T.labels.length c] 50)).alloc (.cells #[.int .i64 id,.int .i64 unit] 32)) 50 #[.string ⟨#[]⟩,.int .i64 0,.slice none 0 0] (n:=w.heap.size+2) qs;have h0:=h.hold b;have HC:=zh (TI A c xs T id unit _ h0 hs (JU T) (λw1 base g cap xo ys k hk _ ho=>Ro _ w1 base g cap xo ys T k hk ho) T' er hr);have l:=zh b;have m:=zh d;clear h hs b i j d h0;go_enter Tryz.func90,Tryz.ntmps90;go_wp2_with fail;refine HC.mono ?_;rintro e w1 ⟨A1,c1,p,rfl,f,g1⟩;have a:=m.grew g1;have z0:=a.cell 0;have z1:=a.cell 1;have z2:=a.cell 2;have f0:=a.frozen 0;have f1:=a.frozen 1;have f2:=a.frozen 2;have q:=a.lt;have r:=l.out.trans g1;have o:=zh (λw2 (ht:Turned (λx=>x=w.heap.size+2) w1 w2)=>f.apart a ht);clear a g1 f;go_wp2_with fail;refine f7 (by first | (simp [*,results,Tryz.results90,go_sem];rfl) | simp [*,results,Tryz.results90,go_sem]) rfl ?_;exact ⟨A1,c1,p,rfl,o _ (gT),gG⟩
end

def Oc (id unit:Int) (nm nt:ByteArray) (n:Int):Prop:=1<=id/\id<=1099511627776/\1<=unit/\unit<=1099511627776/\nm.size<=31/\nt.size<=400/\1<=n
instance (id unit:Int) (nm nt:ByteArray) (n:Int):Decidable (Oc id unit nm nt n):=by unfold Oc;exact inferInstance
def Bw (T:Tab) (id unit:Int) (nm nt:ByteArray) (n:Int):Tab × Int:=
 if A0 T=true/\Oc id unit nm nt n then
  if T.labels.any (IC id)=true then (Ca,5)
  else if Hd emL T.labels<0 then (Ca,8)
  else if (BV (AG (Ce T)) n 16).2=0 then ({ T with labels:=T.labels.set (Hd emL T.labels).toNat ⟨id,unit,nm,nt,AK (BV (AG (Ce T)) n 16).1⟩ },0)
  else (Ca,14)
 else (Ca,1)
section
variable (A:Option Addr) (c:Nat) (xs:List LabE) (T:Tab) (id unit:Int) (w:World)
theorem Tc (h:TabAt w A c xs T) (hs:SmallT T) (nm nt:ByteArray) (bn:nm.size<=9223372036854775807) (bl:nt.size<=9223372036854775807) (n:Int) (n0:-9223372036854775808<=n) (n1:n<=9223372036854775807) (T':Tab) (er:Int) (hr:Bw T id unit nm nt n=(T',er)):
 Calls Tryz.prog 66 #[.agg #[.string T.name,.int .i64 T.tracks,.slice A T.labels.length c],.agg #[.int .i64 id,.int .i64 unit],.string nm,.string nt,.int .i64 n] w (Ju w T' er):=by
 have aj:=((((fh w).alloc (.cells #[.string T.name,.int .i64 T.tracks,.slice A T.labels.length c] 50)).alloc (.cells #[.int .i64 id,.int .i64 unit] 32))).alloc (.cells #[.string ⟨#[]⟩,.int .i64 0,.slice none 0 0] 50);have bo:=((fy w 50 #[.string T.name,.int .i64 T.tracks,.slice A T.labels.length c] rfl).alloc (.cells #[.int .i64 id,.int .i64 unit] 32)).alloc (.cells #[.string ⟨#[]⟩,.int .i64 0,.slice none 0 0] 50);have br:=(fy (w.alloc (.cells #[.string T.name,.int .i64 T.tracks,.slice A T.labels.length c] 50)) 32 #[.int .i64 id,.int .i64 unit] (n:=w.heap.size+1) qs).alloc (.cells #[.string ⟨#[]⟩,.int .i64 0,.slice none 0 0] 50);have bs:=fy ((w.alloc (.cells #[.string T.name,.int .i64 T.tracks,.slice A T.labels.length c] 50)).alloc (.cells #[.int .i64 id,.int .i64 unit] 32)) 50 #[.string ⟨#[]⟩,.int .i64 0,.slice none 0 0] (n:=w.heap.size+1+1) qs;have HV:=zh (Eo A c xs T _ (h.hold aj) hs _ rfl);have q:=zh h;have HS:=zh hs;have s:=zh aj;have R:=zh bo;have t:=zh br;have u:=zh bs;clear h hs aj bo br bs;cases hv:A0 T with
 | false=>
   have hx:Bw T id unit nm nt n=(Ca,1):=by unfold Bw;rw [if_neg (λh=>by rw [hv] at h;cases h.1)]
   rw [hx] at hr;injection hr with e1 e2;subst e1;subst e2;have r:=zh hv;clear hv hx;go_enter Tryz.func66,Tryz.ntmps66;go_wp2_with fail;refine HV.mono ?_;rintro e w1 ⟨rfl,g1⟩;rw [r.out];have f:=t.grew g1;have r0:=f.cell 0;have r1:=f.cell 1;have m:=f.lt;have a:=u.grew g1;have o:=a.lt;have z0:=a.cell 0;have z1:=a.cell 1;have z2:=a.cell 2;have f0:=a.frozen 0;have f1:=a.frozen 1;have f2:=a.frozen 2;have C:=s.out.trans g1;clear a f g1;go_wp2_with fail;refine f7 (by first | (simp [*,results,Tryz.results66,go_sem];rfl) | simp [*,results,Tryz.results66,go_sem]) rfl ?_;exact ⟨none,0,[],rfl,TabAt.zero _,gG⟩
 | true=>
 have I:=zh (show ¬Oc id unit nm nt n->Bw T id unit nm nt n=(Ca,1) from λhn=>by unfold Bw;rw [if_neg (λh=>hn h.2)]);have cj:=zh (show Oc id unit nm nt n->Bw T id unit nm nt n=(if T.labels.any (IC id)=true then (Ca,5) else if Hd emL T.labels<0 then (Ca,8) else if (BV (AG (Ce T)) n 16).2=0 then ({ T with labels:=T.labels.set (Hd emL T.labels).toNat ⟨id,unit,nm,nt,AK (BV (AG (Ce T)) n 16).1⟩ },0) else (Ca,14)) from λhn=>by unfold Bw;rw [if_pos ⟨hv,hn⟩]);have r:=zh hv;clear hv;by_cases a1:1<=id;rotate_left
 . have HE:=zh (I (λhc=>a1 hc.1));rw [HE.out] at hr;injection hr with e1 e2;subst e1;subst e2;go_enter Tryz.func66,Tryz.ntmps66;go_wp2_with fail;refine HV.mono ?_;rintro e w1 ⟨rfl,g1⟩;rw [r.out];have f:=t.grew g1;have r0:=f.cell 0;have r1:=f.cell 1;have m:=f.lt;have a:=u.grew g1;have o:=a.lt;have z0:=a.cell 0;have z1:=a.cell 1;have z2:=a.cell 2;have f0:=a.frozen 0;have f1:=a.frozen 1;have f2:=a.frozen 2;have C:=s.out.trans g1;clear a f g1;go_wp2_with fail;refine f7 (by first | (simp [*,results,Tryz.results66,go_sem];rfl) | simp [*,results,Tryz.results66,go_sem]) rfl ?_;exact ⟨none,0,[],rfl,TabAt.zero _,gG⟩
 by_cases a2:id<=1099511627776;rotate_left
 . have HE:=zh (I (λhc=>a2 hc.2.1));rw [HE.out] at hr;injection hr with e1 e2;subst e1;subst e2;go_enter Tryz.func66,Tryz.ntmps66;go_wp2_with fail;refine HV.mono ?_;rintro e w1 ⟨rfl,g1⟩;rw [r.out];have f:=t.grew g1;have r0:=f.cell 0;have r1:=f.cell 1;have m:=f.lt;have a:=u.grew g1;have o:=a.lt;have z0:=a.cell 0;have z1:=a.cell 1;have z2:=a.cell 2;have f0:=a.frozen 0;have f1:=a.frozen 1;have f2:=a.frozen 2;have C:=s.out.trans g1;clear a f g1;go_wp2_with fail;refine f7 (by first | (simp [*,results,Tryz.results66,go_sem];rfl) | simp [*,results,Tryz.results66,go_sem]) rfl ?_;exact ⟨none,0,[],rfl,TabAt.zero _,gG⟩
 by_cases a3:1<=unit;rotate_left
 . have HE:=zh (I (λhc=>a3 hc.2.2.1));rw [HE.out] at hr;injection hr with e1 e2;subst e1;subst e2;go_enter Tryz.func66,Tryz.ntmps66;go_wp2_with fail;refine HV.mono ?_;rintro e w1 ⟨rfl,g1⟩;rw [r.out];have f:=t.grew g1;have r0:=f.cell 0;have r1:=f.cell 1;have m:=f.lt;have a:=u.grew g1;have o:=a.lt;have z0:=a.cell 0;have z1:=a.cell 1;have z2:=a.cell 2;have f0:=a.frozen 0;have f1:=a.frozen 1;have f2:=a.frozen 2;have C:=s.out.trans g1;clear a f g1;go_wp2_with fail;refine f7 (by first | (simp [*,results,Tryz.results66,go_sem];rfl) | simp [*,results,Tryz.results66,go_sem]) rfl ?_;exact ⟨none,0,[],rfl,TabAt.zero _,gG⟩
 by_cases a4:unit<=1099511627776;rotate_left
 . have HE:=zh (I (λhc=>a4 hc.2.2.2.1));rw [HE.out] at hr;injection hr with e1 e2;subst e1;subst e2;go_enter Tryz.func66,Tryz.ntmps66;go_wp2_with fail;refine HV.mono ?_;rintro e w1 ⟨rfl,g1⟩;rw [r.out];have f:=t.grew g1;have r0:=f.cell 0;have r1:=f.cell 1;have m:=f.lt;have a:=u.grew g1;have o:=a.lt;have z0:=a.cell 0;have z1:=a.cell 1;have z2:=a.cell 2;have f0:=a.frozen 0;have f1:=a.frozen 1;have f2:=a.frozen 2;have C:=s.out.trans g1;clear a f g1;go_wp2_with fail;refine f7 (by first | (simp [*,results,Tryz.results66,go_sem];rfl) | simp [*,results,Tryz.results66,go_sem]) rfl ?_;exact ⟨none,0,[],rfl,TabAt.zero _,gG⟩
 by_cases a5:nm.size<=31;rotate_left
 . have HE:=zh (I (λhc=>a5 hc.2.2.2.2.1));have bt:¬(nm.size:Int)<=31:=oo;rw [HE.out] at hr;injection hr with e1 e2;subst e1;subst e2;go_enter Tryz.func66,Tryz.ntmps66;go_wp2_with fail;refine HV.mono ?_;rintro e w1 ⟨rfl,g1⟩;rw [r.out];have f:=t.grew g1;have r0:=f.cell 0;have r1:=f.cell 1;have m:=f.lt;have a:=u.grew g1;have o:=a.lt;have z0:=a.cell 0;have z1:=a.cell 1;have z2:=a.cell 2;have f0:=a.frozen 0;have f1:=a.frozen 1;have f2:=a.frozen 2;have C:=s.out.trans g1;clear a f g1;go_wp2_with fail;refine f7 (by first | (simp [*,results,Tryz.results66,go_sem];rfl) | simp [*,results,Tryz.results66,go_sem]) rfl ?_;exact ⟨none,0,[],rfl,TabAt.zero _,gG⟩
 have bt:(nm.size:Int)<=31:=oo;by_cases a6:nt.size<=400;rotate_left
 . have HE:=zh (I (λhc=>a6 hc.2.2.2.2.2.1));have bv:¬(nt.size:Int)<=400:=oo;rw [HE.out] at hr;injection hr with e1 e2;subst e1;subst e2;go_enter Tryz.func66,Tryz.ntmps66;go_wp2_with fail;refine HV.mono ?_;rintro e w1 ⟨rfl,g1⟩;rw [r.out];have f:=t.grew g1;have r0:=f.cell 0;have r1:=f.cell 1;have m:=f.lt;have a:=u.grew g1;have o:=a.lt;have z0:=a.cell 0;have z1:=a.cell 1;have z2:=a.cell 2;have f0:=a.frozen 0;have f1:=a.frozen 1;have f2:=a.frozen 2;have C:=s.out.trans g1;clear a f g1;go_wp2_with fail;refine f7 (by first | (simp [*,results,Tryz.results66,go_sem];rfl) | simp [*,results,Tryz.results66,go_sem]) rfl ?_;exact ⟨none,0,[],rfl,TabAt.zero _,gG⟩
 have bv:(nt.size:Int)<=400:=oo;by_cases a7:1<=n;rotate_left
 . have HE:=zh (I (λhc=>a7 hc.2.2.2.2.2.2));rw [HE.out] at hr;injection hr with e1 e2;subst e1;subst e2;go_enter Tryz.func66,Tryz.ntmps66;go_wp2_with fail;refine HV.mono ?_;rintro e w1 ⟨rfl,g1⟩;rw [r.out];have f:=t.grew g1;have r0:=f.cell 0;have r1:=f.cell 1;have m:=f.lt;have a:=u.grew g1;have o:=a.lt;have z0:=a.cell 0;have z1:=a.cell 1;have z2:=a.cell 2;have f0:=a.frozen 0;have f1:=a.frozen 1;have f2:=a.frozen 2;have C:=s.out.trans g1;clear a f g1;go_wp2_with fail;refine f7 (by first | (simp [*,results,Tryz.results66,go_sem];rfl) | simp [*,results,Tryz.results66,go_sem]) rfl ?_;exact ⟨none,0,[],rfl,TabAt.zero _,gG⟩
 have d1:decide (id<1)=false:=gE oo;have d2:decide (1099511627776<id)=false:=gE oo;have d3:decide (unit<1)=false:=gE oo;have d4:decide (1099511627776<unit)=false:=gE oo;have d5:decide (31<(nm.size:Int))=false:=gE oo;have d6:decide (400<(nt.size:Int))=false:=gE oo;have d7:decide (n<1)=false:=gE oo;rw [cj.out ⟨a1,a2,a3,a4,a5,a6,a7⟩] at hr;obtain ⟨te,bd⟩:∃te,T.labels.any (IC id)=te:=⟨_,rfl⟩;rw [bd] at hr;have U:=zh bd;clear bd;cases te with
 | true=>
   rw [if_pos rfl] at hr;injection hr with e1 e2;subst e1;subst e2;go_enter Tryz.func66,Tryz.ntmps66;go_wp2_with fail;refine HV.mono ?_;rintro e w1 ⟨rfl,g1⟩;rw [r.out];have f:=t.grew g1;have r0:=f.cell 0;have r1:=f.cell 1;have m:=f.lt;have a:=u.grew g1;have o:=a.lt;have x:=zh (s.out.trans g1);have p:=zh (R.grew g1);have D:=zh f;have J:=zh a;have b2:=p.cell 2;have j:=p.out.lt;clear a f g1;go_wp2_with fail;refine (Ga A c xs T (w.heap.size+1) id unit w1 (q.hold x) HS D _ rfl).mono ?_;rintro e w2 ⟨rfl,g2⟩;rw [U.out];have a:=J.grew g2;have cl:=a.lt;have z0:=a.cell 0;have z1:=a.cell 1;have z2:=a.cell 2;have f0:=a.frozen 0;have f1:=a.frozen 1;have f2:=a.frozen 2;have C:=x.out.trans g2;clear a g2;go_wp2_with fail;refine f7 (by first | (simp [*,results,Tryz.results66,go_sem];rfl) | simp [*,results,Tryz.results66,go_sem]) rfl ?_;exact ⟨none,0,[],rfl,TabAt.zero _,gG⟩
 | false=>
 rw [if_neg qs] at hr;rcases EA emL T.labels with ⟨k,hk,hi,-,-⟩ | ⟨hi,-⟩;rotate_left
 . rw [hi,if_pos oo] at hr;injection hr with e1 e2;subst e1;subst e2;have V:=zh hi;clear hi;go_enter Tryz.func66,Tryz.ntmps66;go_wp2_with fail;refine HV.mono ?_;rintro e w1 ⟨rfl,g1⟩;rw [r.out];have f:=t.grew g1;have r0:=f.cell 0;have r1:=f.cell 1;have m:=f.lt;have a:=u.grew g1;have o:=a.lt;have x:=zh (s.out.trans g1);have p:=zh (R.grew g1);have D:=zh f;have J:=zh a;have b2:=p.cell 2;have j:=p.out.lt;clear a f g1;go_wp2_with fail;refine (Ga A c xs T (w.heap.size+1) id unit w1 (q.hold x) HS D _ rfl).mono ?_;rintro e w2 ⟨rfl,g2⟩;rw [U.out];have G:=zh (x.out.trans g2);have E:=zh (p.grew g2);have K:=zh (D.grew g2);have M:=zh (J.grew g2);clear b2 j r0 r1 m o g2;have b2:=E.cell 2;have j:=E.out.lt;go_wp2_with fail;refine (Jq A c xs T (w.heap.size+1) id unit w2 (q.hold G) HS K _ rfl).mono ?_;rintro e w3 ⟨rfl,g3⟩;rw [V.out];have a:=M.grew g3;have cl:=a.lt;have z0:=a.cell 0;have z1:=a.cell 1;have z2:=a.cell 2;have f0:=a.frozen 0;have f1:=a.frozen 1;have f2:=a.frozen 2;have C:=G.out.trans g3;clear a g3;go_wp2_with fail;refine f7 (by first | (simp [*,results,Tryz.results66,go_sem];rfl) | simp [*,results,Tryz.results66,go_sem]) rfl ?_;exact ⟨none,0,[],rfl,TabAt.zero _,gG⟩
 rw [hi,if_neg oo,gQ] at hr;have V:=zh hi;have c1:(k:Int)<(T.labels.length:Int):=oo;obtain ⟨kf,ae⟩:∃kf,Ce T=kf:=⟨_,rfl⟩;have cm:kf.length<=128:=by rw [<-ae];exact Lf T
 rw [ae] at hr;obtain ⟨ka,bf⟩:∃ka,AK (BV (AG kf) n 16).1=ka:=⟨_,rfl⟩;obtain ⟨Q,bk⟩:∃Q,(BV (AG kf) n 16).2=Q:=⟨_,rfl⟩;rw [bf,bk] at hr;have bw:=zh ae;have bx:=zh bf;have b3:=zh bk;clear hi ae bf bk;by_cases h0:Q=0;rotate_left
 . rw [if_neg h0] at hr;injection hr with e1 e2;subst e1;subst e2;have c2:(Q != 0)=true:=by rw [gu];exact h0
   clear h0;go_enter Tryz.func66,Tryz.ntmps66;go_wp2_with fail;refine HV.mono ?_;rintro e w1 ⟨rfl,g1⟩;rw [r.out];have f:=t.grew g1;have r0:=f.cell 0;have r1:=f.cell 1;have m:=f.lt;have a:=u.grew g1;have o:=a.lt;have x:=zh (s.out.trans g1);have p:=zh (R.grew g1);have D:=zh f;have J:=zh a;have b2:=p.cell 2;have j:=p.out.lt;clear a f g1;go_wp2_with fail;refine (Ga A c xs T (w.heap.size+1) id unit w1 (q.hold x) HS D _ rfl).mono ?_;rintro e w2 ⟨rfl,g2⟩;rw [U.out];have G:=zh (x.out.trans g2);have E:=zh (p.grew g2);have K:=zh (D.grew g2);have M:=zh (J.grew g2);clear b2 j r0 r1 m o g2;have b2:=E.cell 2;have j:=E.out.lt;go_wp2_with fail;refine (Jq A c xs T (w.heap.size+1) id unit w2 (q.hold G) HS K _ rfl).mono ?_;rintro e w3 ⟨rfl,g3⟩;rw [V.out];have N:=zh (G.out.trans g3);have z:=zh (E.grew g3);have al:=zh (K.grew g3);have an:=zh (M.grew g3);clear b2 j g3;have b0:=z.cell 0;have b1:=z.cell 1;have b2:=z.cell 2;have j:=z.out.lt;go_wp2_with fail;refine (Kw A c xs T w3 (q.hold N) HS _ rfl kf bw).mono ?_;rintro e w4 ⟨A4,c4,rfl,P,g4⟩;have av:=zh (N.out.trans g4);have b4:=zh (z.grew g4);have b5:=zh (al.grew g4);have a0:=zh (an.grew g4);clear b0 b1 b2 j g4;go_wp2_with fail;refine (PH rfl oo P n n0 n1 16 ka Q bx b3).mono ?_;rintro e w5 ⟨A5,c5,rfl,ad,g5⟩;clear P;have a:=a0.grew g5;have c3:=a.lt;have z0:=a.cell 0;have z1:=a.cell 1;have z2:=a.cell 2;have f0:=a.frozen 0;have f1:=a.frozen 1;have f2:=a.frozen 2;have C:=av.out.trans g5;clear a g5 ad;go_wp2_with fail;refine f7 (by first | (simp [*,results,Tryz.results66,go_sem];rfl) | simp [*,results,Tryz.results66,go_sem]) rfl ?_;exact ⟨none,0,[],rfl,TabAt.zero _,gG⟩
 subst h0;rw [if_pos rfl] at hr;injection hr with e1 e2;subst e2;have b6:=zh e1;clear e1;go_enter Tryz.func66,Tryz.ntmps66;go_wp2_with fail;refine HV.mono ?_;rintro e w1 ⟨rfl,g1⟩;rw [r.out];have f:=t.grew g1;have r0:=f.cell 0;have r1:=f.cell 1;have m:=f.lt;have a:=u.grew g1;have o:=a.lt;have x:=zh (s.out.trans g1);have p:=zh (R.grew g1);have D:=zh f;have J:=zh a;have b2:=p.cell 2;have j:=p.out.lt;clear a f g1;go_wp2_with fail;refine (Ga A c xs T (w.heap.size+1) id unit w1 (q.hold x) HS D _ rfl).mono ?_;rintro e w2 ⟨rfl,g2⟩;rw [U.out];have G:=zh (x.out.trans g2);have E:=zh (p.grew g2);have K:=zh (D.grew g2);have M:=zh (J.grew g2);clear b2 j r0 r1 m o g2;have b2:=E.cell 2;have j:=E.out.lt;go_wp2_with fail;refine (Jq A c xs T (w.heap.size+1) id unit w2 (q.hold G) HS K _ rfl).mono ?_;rintro e w3 ⟨rfl,g3⟩;rw [V.out];have N:=zh (G.out.trans g3);have z:=zh (E.grew g3);have al:=zh (K.grew g3);have an:=zh (M.grew g3);clear b2 j g3;have b0:=z.cell 0;have b1:=z.cell 1;have b2:=z.cell 2;have j:=z.out.lt;go_wp2_with fail;refine (Kw A c xs T w3 (q.hold N) HS _ rfl kf bw).mono ?_;rintro e w4 ⟨A4,c4,rfl,P,g4⟩;have av:=zh (N.out.trans g4);have b4:=zh (z.grew g4);have b5:=zh (al.grew g4);have a0:=zh (an.grew g4);clear b0 b1 b2 j g4;go_wp2_with fail;refine (PH rfl oo P n n0 n1 16 ka 0 bx b3).mono ?_;rintro e w5 ⟨A5,c5,rfl,ad,g5⟩;clear P;have a8:=zh (av.out.trans g5);have X:=zh (b4.grew g5);have co:=zh (b5.grew g5);have b9:=zh (a0.grew g5);have Y:=zh ad;clear g5 ad;have b0:=X.cell 0;have b1:=X.cell 1;have b2:=X.cell 2;have j:=X.out.lt;go_wp2_with fail;refine (Oh A c xs T w5 (q.hold a8) HS _ rfl).mono ?_;rintro e w6 ⟨v,ys,rfl,l,g6⟩
 obtain ⟨g,cap,rfl,c0,dk⟩:∃g cap,v=.slice (some ⟨g,0,none⟩) T.labels.length cap/\w5.heap.size<=g/\g<w6.heap.size:=by
  rcases l.own.form with ⟨_,h0⟩ | ⟨g,cap,hv,h1,h2,-⟩
  . have:=gJ length h0;rw [fm,l.len,length_nil] at this;omega
  . rw [fm,l.len] at hv;exact ⟨g,cap,hv,h1,h2⟩
 have c6:k<cap:=by have:=l.own.len.2.1;omega
 obtain ⟨B,d,L,-,-,-⟩:=l.row hk;have y0:w6.cell? ⟨g,k*5,none⟩=some (.int .i64 T.labels[k].id):=l.own.cell0 L rfl;have y1:w6.cell? ⟨g,k*5+1,none⟩=some (.int .i64 T.labels[k].unit):=l.own.cell L (i:=1) rfl;have y2:w6.cell? ⟨g,k*5+2,none⟩=some (.string T.labels[k].name):=l.own.cell L (i:=2) rfl;have y3:w6.cell? ⟨g,k*5+3,none⟩=some (.string T.labels[k].note):=l.own.cell L (i:=3) rfl;have y4:w6.cell? ⟨g,k*5+4,none⟩=some (.slice B T.labels[k].ext.length d):=l.own.cell L (i:=4) rfl;have cp:=l.own.frozen (k*5);have cq:=l.own.frozen (k*5+1);have cr:=l.own.frozen (k*5+2);have cs:=l.own.frozen (k*5+3);have cu:=l.own.frozen (k*5+4);have Z:=co.grew g6;have cv:=Z.cell 0;have cw:=Z.cell 1;have c7:=Z.lt;have F:=b9.grew g6;have z0:=F.cell 0;have z1:=F.cell 1;have z2:=F.cell 2;have f0:=F.frozen 0;have f1:=F.frozen 1;have f2:=F.frozen 2;have c8:=F.lt;have ca:=b9.out.lt;have cb:LabAt w6 A5 c5 ⟨id,unit,nm,nt,ka⟩:=⟨by simp only;omega,by simp only;omega,by simp only;omega,by simp only;omega,bn,bl,(Y.hold g6).1,Y.2.1,Y.2.2.1⟩
 have cc:0<ka.length->∀b off,A5=some ⟨b,off,none⟩->b≠g:=λh0 b off e=>by
  obtain ⟨b',ds,e',d0,_⟩:=Y.1.2 (by simpa using h0);rw [e] at e';injection e' with e';injection e' with e';omega
 have aa:=(l.set5 hk ⟨A5,c5,⟨id,unit,nm,nt,ka⟩⟩ cb cc).hold ((fh _).alloc (.cells #[.string T.name,.int .i64 T.tracks,.slice (some ⟨g,0,none⟩) T.labels.length cap] 50));have a9:=FP w6 g (k*5) (.int .i64 id) (.int .i64 unit) (.string nm) (.string nt) (.slice A5 ka.length c5);have bb:=(F.turned a9 oo).alloc (.cells #[.string T.name,.int .i64 T.tracks,.slice (some ⟨g,0,none⟩) T.labels.length cap] 50);have ce:=fy (((((w6.setCell ⟨g,k*5,none⟩ (.int .i64 id)).setCell ⟨g,k*5+1,none⟩ (.int .i64 unit)).setCell ⟨g,k*5+2,none⟩ (.string nm)).setCell ⟨g,k*5+3,none⟩ (.string nt)).setCell ⟨g,k*5+4,none⟩ (.slice A5 ka.length c5)) 50 #[.string T.name,.int .i64 T.tracks,.slice (some ⟨g,0,none⟩) T.labels.length cap] (n:=w6.heap.size) (by simp [World.setCell]);have cf:=(((a8.out.trans g6)).turn a9 (λi e=>by have:=a8.size;omega)).alloc (.cells #[.string T.name,.int .i64 T.tracks,.slice (some ⟨g,0,none⟩) T.labels.length cap] 50);have cx:=zh (aa.apart bb);have ch:=zh aa;have H:=zh bb;have O:=zh ce;have cy:=zh aa.nlen;have bc:=zh (show T.name.size<=9223372036854775807/\-9223372036854775808<=T.tracks/\T.tracks<=9223372036854775807 from ⟨q.name,q.tr0,q.tr1⟩);have cz:w.heap.size+1+1<w5.heap.size:=ca;have ci:=zh cf;have c9:w.heap.size+1+1<g:=oo;have da:w.heap.size+1<g:=oo;clear cf a1 a2 a3 a4 a5 a6 a7 bt bv cm n0 n1 bn bl cz c0 ca l L Z F cb cc aa a9 bb ce g6 b0 b1 b2 j
 go_upto_region 13 with fail
 obtain ⟨W,hW⟩:∃W,W=(((((w6.setCell ⟨g,k*5,none⟩ (.int .i64 id)).setCell ⟨g,k*5+1,none⟩ (.int .i64 unit)).setCell ⟨g,k*5+2,none⟩ (.string nm)).setCell ⟨g,k*5+3,none⟩ (.string nt)).setCell ⟨g,k*5+4,none⟩ (.slice A5 ka.length c5)).alloc (.cells #[.string T.name,.int .i64 T.tracks,.slice (some ⟨g,0,none⟩) T.labels.length cap] 50):=⟨_,rfl⟩;rw [<-hW];rw [<-hW] at ch H O ci;clear hW z0 z1 z2 f0 f1 f2 y0 y1 y2 y3 y4 cp cq cr cs cu cv cw;have z0:=H.cell 0;have z1:=H.cell 1;have z2:=H.cell 2;have f0:=H.frozen 0;have f1:=H.frozen 1;have f2:=H.frozen 2;have dd:=H.out.lt;have x0:=O.cell 0;have x1:=O.cell 1;have x2:=O.cell 2;have df:=O.out.lt;go_wp2_with fail;refine f7 (by first | (simp [*,results,Tryz.results66,go_sem];rfl) | simp [*,results,Tryz.results66,go_sem]) rfl ?_;refine ⟨some ⟨g,0,none⟩,cap,ys.set k ⟨A5,c5,⟨id,unit,nm,nt,ka⟩⟩,by rw [<-b6.out];simp only [cy.out],?_,by have hg:=ci.out;exact gG⟩;rw [<-b6.out];exact (ch.turned (S:=λk=>k=w.heap.size+1+1) (gT) (λg' e=>by have e':g=g':=Option.some.inj e;omega) (λy hy h0 b off e=>cx y hy h0 b off e)).tabAt _ _ bc.1 bc.2.1 bc.2.2
end

end
section
open Go.RowKit
def EG (s:ByteArray):List ByteArray:=(List.range (s.size / 128)).map λi=>s.extract (128*i) (128*i+128)
theorem Bp (s:ByteArray):(EG s).length=s.size / 128:=by unfold EG;simp
theorem GC (s:ByteArray) (i:Nat) (h:i<(EG s).length):(EG s)[i]=s.extract (128*i) (128*i+128):=by simp [EG]
theorem Rg (a b:ByteArray) (ha:a.size % 128=0):EG (a++b)=EG a++EG b:=by
 have hs:(a++b).size / 128=a.size / 128+b.size / 128:=by rw [f8];omega
 refine jY (by rw [gK,Bp,Bp,Bp,hs]) (λi h1 h2=>?_);rw [Bp,hs] at h1;by_cases hi:i<a.size / 128
 . rw [List.getElem_append_left (by rw [Bp];exact hi)];rw [GC,GC,ByteArray.extract_append]
   have h0:b.extract (128*i - a.size) (128*i+128 - a.size)=⟨#[]⟩:=by
    have h9:128*i+128 - a.size=0:=oo;have h8:128*i - a.size=0:=oo;rw [h9,h8];apply ByteArray.ext;simp
   rw [h0];exact jA
 . rw [List.getElem_append_right (by rw [Bp];omega)];rw [GC,GC,ByteArray.extract_append]
   have h0:a.extract (128*i) (128*i+128)=⟨#[]⟩:=by
    apply ByteArray.ext;simp;omega
   rw [h0,Bp];have e1:128*i - a.size=128*(i - a.size / 128):=oo;have e2:128*i+128 - a.size=128*(i - a.size / 128)+128:=oo;rw [e1,e2];exact jV
def Ej (s:ByteArray) (k:Nat):ByteArray:=s.extract (128*k) s.size
theorem UE (s:ByteArray):Ej s 0=s:=by unfold Ej;simp
theorem Mr (s:ByteArray) (k:Nat) (h:128*k<=s.size):(Ej s k).size=s.size - 128*k:=by unfold Ej;simp
theorem TJ (s:ByteArray) (k:Nat) (h:128*k+128<=s.size):(Ej s k).extract 128 (Ej s k).size=Ej s (k+1):=by
 rw [Mr s k oo];unfold Ej;rw [ByteArray.extract_extract];congr 1<;>omega
theorem TW (s:ByteArray) (k:Nat) (h:128*k+128<=s.size):(Ej s k).extract 0 128=s.extract (128*k) (128*k+128):=by
 unfold Ej;rw [ByteArray.extract_extract];congr 1;omega
theorem PN (s:ByteArray) (k:Nat) (h:128*k+128<=s.size):(EG s).take (k+1)=(EG s).take k++[s.extract (128*k) (128*k+128)]:=by
 have hk:k<(EG s).length:=by rw [Bp];omega
 rw [fr hk];rw [GC]
def Ei (T:Tab) (k:Nat):ByteArray:=((T.labels.take k).map λl=>Cw l T.tracks).foldl (·++·) (CG T.name T.tracks)
def AP (T:Tab):List ByteArray:=if A0 T=true then EG (Ei T T.labels.length) else []
theorem GK (T:Tab):Ei T 0=CG T.name T.tracks:=rfl
theorem F7 (T:Tab) (k:Nat) (h:k<T.labels.length):Ei T (k+1)=Ei T k++Cw T.labels[k] T.tracks:=by
 unfold Ei;rw [fr h,fz,iV];rfl

end
section
attribute [local go_sem ↓] Go.wp_at_zero Go.wp_at_succ
open Go.RowKit
def Em (s:ByteArray):List Value:=[.string s]
theorem RC:(Tryz.prog.info? 9).map (λi=>(i.zero,i.size,i.bytes))=some (some (.string ⟨#[]⟩),1,16):=qk

end
section
open Go.Shelf Go.RowKit Go.Lib
def Uu:Go.Shelf.Ren:=⟨fun | 6=>43 | 15=>99 | 14=>98 | 28=>174 | 29=>175 | 20=>166 | 21=>167 | 22=>168 | 23=>169 | 24=>170 | 25=>171 | 26=>172 | 27=>173 | 46=>211 | 47=>212 | 48=>213 | 49=>214 | 50=>215 | 57=>236 | n=>n,fun | 22=>58 | 24=>32 | 25=>105 | 3=>3 | 39=>173 | 0=>0 | 53=>176 | 55=>260 | 4=>4 | 46=>253 | 45=>252 | 50=>108 | 5=>5 | 9=>9 | 66=>298 | 70=>302 | 76=>326 | 77=>327 | n=>n,fun | n=>n⟩
theorem Zj:Go.Proofs.SlLaysF0.n6 Tryz.prog Uu:={
 mixed:=qk
 f6:=⟨Tryz.f43.name,qd,Tryz.func43.trans (gJ some qk)⟩
 f14:=⟨Tryz.f98.name,qd,Tryz.func98.trans (gJ some qk)⟩
 f15:=Tryz.func99.trans (gJ some qk)
 f20:=⟨Tryz.f166.name,qd,Tryz.func166.trans (gJ some qk)⟩
 f21:=⟨Tryz.f167.name,qd,Tryz.func167.trans (gJ some qk)⟩
 f22:=⟨Tryz.f168.name,qd,Tryz.func168.trans (gJ some qk)⟩
 f23:=⟨Tryz.f169.name,qd,Tryz.func169.trans (gJ some qk)⟩
 f24:=⟨Tryz.f170.name,qd,Tryz.func170.trans (gJ some qk)⟩
 f25:=⟨Tryz.f171.name,qd,Tryz.func171.trans (gJ some qk)⟩
 f26:=⟨Tryz.f172.name,qd,Tryz.func172.trans (gJ some qk)⟩
 f27:=⟨Tryz.f173.name,qd,Tryz.func173.trans (gJ some qk)⟩
 f28:=Tryz.func174.trans (gJ some qk)
 f29:=Tryz.func175.trans (gJ some qk)
 f46:=⟨Tryz.f211.name,qd,Tryz.func211.trans (gJ some qk)⟩
 f47:=Tryz.func212.trans (gJ some qk)
 f48:=Tryz.func213.trans (gJ some qk)
 f49:=⟨Tryz.f214.name,qd,Tryz.func214.trans (gJ some qk)⟩
 f50:=⟨Tryz.f215.name,qd,Tryz.func215.trans (gJ some qk)⟩
 f57:=⟨Tryz.f236.name,qd,Tryz.func236.trans (gJ some qk)⟩
 t0:=Tryz.underlying0
 a0:=Tryz.isAgg0
 z0:=Tryz.sizeOf0
 v0:=Tryz.zeroValue0
 t3:=Tryz.underlying3
 a3:=Tryz.isAgg3
 z3:=Tryz.sizeOf3
 v3:=Tryz.zeroValue3
 t4:=Tryz.underlying4
 a4:=Tryz.isAgg4
 z4:=Tryz.sizeOf4
 v4:=Tryz.zeroValue4
 t5:=Tryz.underlying5
 a5:=Tryz.isAgg5
 z5:=Tryz.sizeOf5
 v5:=Tryz.zeroValue5
 t9:=Tryz.underlying9
 a9:=Tryz.isAgg9
 z9:=Tryz.sizeOf9
 v9:=Tryz.zeroValue9
 t22:=Tryz.underlying58
 a22:=Tryz.isAgg58
 z22:=Tryz.sizeOf58
 v22:=Tryz.zeroValue58
 t25:=Tryz.underlying105
 a25:=Tryz.isAgg105
 z25:=Tryz.sizeOf105
 v25:=Tryz.zeroValue105
 t39:=Tryz.underlying173
 a39:=Tryz.isAgg173
 z39:=Tryz.sizeOf173
 v39:=Tryz.zeroValue173
 t45:=Tryz.underlying252
 a45:=Tryz.isAgg252
 z45:=Tryz.sizeOf252
 v45:=Tryz.zeroValue252
 t46:=Tryz.underlying253
 a46:=Tryz.isAgg253
 z46:=Tryz.sizeOf253
 v46:=Tryz.zeroValue253
 t50:=Tryz.underlying108
 a50:=Tryz.isAgg108
 z50:=Tryz.sizeOf108
 v50:=Tryz.zeroValue108
 t53:=Tryz.underlying176
 a53:=Tryz.isAgg176
 z53:=Tryz.sizeOf176
 v53:=Tryz.zeroValue176
 t55:=Tryz.underlying260
 a55:=Tryz.isAgg260
 z55:=Tryz.sizeOf260
 v55:=Tryz.zeroValue260
 t66:=Tryz.underlying298
 a66:=Tryz.isAgg298
 z66:=Tryz.sizeOf298
 v66:=Tryz.zeroValue298
 t70:=Tryz.underlying302
 a70:=Tryz.isAgg302
 z70:=Tryz.sizeOf302
 v70:=Tryz.zeroValue302
 t76:=Tryz.underlying326
 a76:=Tryz.isAgg326
 z76:=Tryz.sizeOf326
 v76:=Tryz.zeroValue326
 t77:=Tryz.underlying327
 a77:=Tryz.isAgg327
 z77:=Tryz.sizeOf327
 v77:=Tryz.zeroValue327
 }

end
section
attribute [local go_sem ↓] Go.wp_at_zero Go.wp_at_succ
open Go.RowKit Go.Shelf Go.Lib
def ER (a:Int × Int):List Value:=[.int .i64 a.1,.int .i64 a.2]
def ltP (a b:Int × Int):Prop:=a.1<b.1\/a.1=b.1/\a.2<b.2
instance (a b:Int × Int):Decidable (ltP a b):=by unfold ltP;exact inferInstance
def Hh (a b:Int):Int:=if a<b then -1 else if b<a then 1 else 0
def TA (x y:Int × Int):Int:=if Hh x.1 y.1=0 then Hh x.2 y.2 else Hh x.1 y.1
theorem MR (x y:Int × Int):Go.Proofs.ltOf TA x y=true↔ltP x y:=by
 unfold Go.Proofs.ltOf TA Hh ltP;rw [gm];repeat' split
 all_goals omega
theorem swP:Go.Sort.SWO (Go.Proofs.ltOf TA) where
 irrefl x:=by
  cases h:Go.Proofs.ltOf TA x x with
  | false=>rfl
  | true=>have:=(MR x x).1 h;unfold ltP at this;omega
 trans x y z h1 h2:=by
  rw [MR] at h1 h2 ⊢;unfold ltP at*;omega
 ntrans x y z h1 h2:=by
  rw [<-ie] at h1 h2 ⊢;rw [MR] at h1 h2 ⊢;unfold ltP at*;omega
def Sv:List (Int × Int)->Int × Int->List (Int × Int)
 | [],x=>[x]
 | y::l,x=>if ltP x y then x::y::l else y::Sv l x
def GH (l:List (Int × Int)):List (Int × Int):=l.foldl Sv []
theorem Oz (x:Int × Int):∀l,(Sv l x).Perm (x::l):=by
 intro l
 induction l with
 | nil=>exact List.Perm.refl _
 | cons y l ih=>
   unfold Sv;split
   . exact List.Perm.refl _
   . exact (List.Perm.cons y ih).trans (List.Perm.swap x y l)
theorem Un:∀(l b:List (Int × Int)),(l.foldl Sv b).Perm (b++l):=by
 intro l
 induction l with
 | nil=>intro b;simp
 | cons x l ih=>
   intro b;refine (ih _).trans ?_;refine ((Oz x b).append_right l).trans ?_;simpa using (perm_middle (a:=x) (l₁:=b) (l₂:=l)).symm
theorem GO (l:List (Int × Int)):(GH l).Perm l:=by simpa [GH] using Un l []
theorem SL (x:Int × Int):∀l:List (Int × Int),l.Pairwise (λa b=>¬ltP b a)->(Sv l x).Pairwise (λa b=>¬ltP b a):=by
 intro l
 induction l with
 | nil=>intro _;exact pairwise_singleton _ _
 | cons y l ih=>
   intro h;obtain ⟨h1,h2⟩:=iw.1 h;unfold Sv;split
   . rename_i hxy;refine iw.2 ⟨λz hz=>?_,h⟩;rcases ia.1 hz with rfl | hz
     . unfold ltP at*;omega
     . have:=h1 z hz;unfold ltP at*;omega
   . rename_i hxy;refine iw.2 ⟨λz hz=>?_,ih h2⟩;rcases ia.1 ((Oz x l).subset hz) with rfl | hz
     . exact hxy
     . exact h1 z hz
theorem Pv (l:List (Int × Int)):(GH l).Pairwise (λa b=>¬ltP b a):=by
 have d:∀(l c:List (Int × Int)),c.Pairwise (λa b=>¬ltP b a)->(l.foldl Sv c).Pairwise (λa b=>¬ltP b a):=by
  intro l
  induction l with
  | nil=>intro c h;exact h
  | cons x l ih=>intro c h;exact ih _ (SL x c h)
 exact d l [] Pairwise.nil
theorem SR:∀(a b:List (Int × Int)),a.Perm b->a.Pairwise (λa b=>¬ltP b a)->b.Pairwise (λa b=>¬ltP b a)->a=b:=by
 intro a
 induction a with
 | nil=>intro b hp _ _;exact hp.nil_eq
 | cons x a ih=>
   intro b hp ha hb;cases b with
   | nil=>exact absurd hp.length_eq qs
   | cons y b=>
     have c:x=y:=by
      have h1:x∈y::b:=hp.subset (gS ..);have h2:y∈x::a:=hp.symm.subset (gS ..);rcases ia.1 h1 with h1 | h1
      . exact h1
      . rcases ia.1 h2 with h2 | h2
        . exact h2.symm
        . have e1:=(iw.1 ha).1 y h2;have e2:=(iw.1 hb).1 x h1;obtain ⟨x1,x2⟩:=x;obtain ⟨y1,y2⟩:=y;unfold ltP at e1 e2;simp only at e1 e2;exact Prod.ext (by simp only;omega) (by simp only;omega)
     subst c;rw [ih b ((perm_cons x).1 hp) (iw.1 ha).2 (iw.1 hb).2]
theorem Yk (l d:List (Int × Int)) (hp:d.Perm l) (hs:∀i j (hi:i<d.length) (hj:j<d.length),i<j->¬ltP d[j] d[i]):d=GH l:=
 SR _ _ (hp.trans (GO l).symm) (jU.2 hs) (Pv l)
theorem JC (a:Int) (w:World):Calls Tryz.prog 100 #[.int .i64 a] w λe w'=>e=.returned (.bool false)/\w=w':=by
 go_enter Tryz.func100,Tryz.ntmps100;go_wp2_with fail;go_ret;exact ⟨AE qs,rfl⟩
theorem L6 (a b:Int) (w:World):Calls Tryz.prog 46 #[.int .i64 a,.int .i64 b] w λe w'=>e=.returned (.int .i64 (Hh a b))/\w=w':=by
 by_cases h1:a<b
 . have HE:=zh (show Hh a b=-1 from if_pos h1);go_enter Tryz.func46,Tryz.ntmps46;go_wp2_with fail;refine (JC _ _).mono ?_;rintro e w1 ⟨rfl,rfl⟩;go_wp2_with fail;refine (JC _ _).mono ?_;rintro e w1 ⟨rfl,rfl⟩;go_wp2_with fail;go_ret;exact ⟨CL (by rw [HE.out]),rfl⟩
 . by_cases h2:b<a
   . have HE:=zh (show Hh a b=1 from by unfold Hh;rw [if_neg h1,if_pos h2]);go_enter Tryz.func46,Tryz.ntmps46;go_wp2_with fail;refine (JC _ _).mono ?_;rintro e w1 ⟨rfl,rfl⟩;go_wp2_with fail;refine (JC _ _).mono ?_;rintro e w1 ⟨rfl,rfl⟩;go_wp2_with fail;go_ret;exact ⟨CL (by rw [HE.out]),rfl⟩
   . have HE:=zh (show Hh a b=0 from by unfold Hh;rw [if_neg h1,if_neg h2]);go_enter Tryz.func46,Tryz.ntmps46;go_wp2_with fail;refine (JC _ _).mono ?_;rintro e w1 ⟨rfl,rfl⟩;go_wp2_with fail;refine (JC _ _).mono ?_;rintro e w1 ⟨rfl,rfl⟩;go_wp2_with fail;go_ret;exact ⟨CL (by rw [HE.out]),rfl⟩
theorem eX (a b r:Int) (hr:(if a=0 then b else a)=r) (g:Nat) (w:World) (hb:Blk w g 3 #[.int .i64 a,.int .i64 b]):Calls Tryz.prog 45 #[.slice (some ⟨g,0,none⟩) 2 2] w λe w'=>e=.returned (.int .i64 r)/\w=w':=by
 have HR:=zh hr;clear hr;have x0:=hb.cell 0;have x1:=hb.cell 1;have hl:=hb.lt;go_enter Tryz.func45,Tryz.ntmps45;go_wp2_with fail
 go_loopg [8] 2 (λgk i wr=>w=wr/\∃k:Nat,k<=2/\gk=2 - k/\i=.int .i64 k/\(1<=k->a=0)/\(2<=k->b=0))
 case atStart=>exact ⟨rfl,0,oo,oo,rfl,λh=>oo,λh=>oo⟩
 case round=>
  obtain ⟨rfl,k,hk,d,rfl,ha,f⟩:=hrel;have c:=zh d;have HA:=zh ha;have HB:=zh f;clear d ha f;have j:k=0\/k=1\/k=2:=oo;rcases j with rfl | rfl | rfl
  . cases h1:(a != 0) with
    | true=>
      have HE:=zh (show r=a from HR.out.symm.trans (if_neg (by simpa using h1)));go_wp2_with fail;go_ret;exact ⟨CL (by rw [HE.out]),rfl⟩
    | false=>
      have ha:=zh (show a=0 by simpa using h1);go_wp2_with fail
      go_roundg 1
      case measure=>rw [c.out];omega
      case rel=>exact ⟨rfl,1,oo,oo,by go_num,λ_=>ha.out,λh=>oo⟩
  . cases h1:(b != 0) with
    | true=>
      have HE:=zh (show r=b from HR.out.symm.trans (if_pos (HA.out oo)));go_wp2_with fail;go_ret;exact ⟨CL (by rw [HE.out]),rfl⟩
    | false=>
      have hb:=zh (show b=0 by simpa using h1);go_wp2_with fail
      go_roundg 0
      case measure=>rw [c.out];omega
      case rel=>exact ⟨rfl,2,oo,oo,by go_num,λ_=>HA oo,λ_=>hb.out⟩
  . have HE:=zh (show r=0 from HR.out.symm.trans ((if_pos (HA.out oo)).trans (HB.out oo)));go_wp2_with fail;go_ret;exact ⟨CL (by rw [HE.out]),rfl⟩
theorem Wj (x y:Int × Int) (W:World):Calls Tryz.prog 44 #[.agg (ER x).toArray,.agg (ER y).toArray] W λe w'=>e=.returned (.int .i64 (TA x y))/\∃q os',w'=Go.Sort.grow (W.drewN q) os':=by
 obtain ⟨x1,x2⟩:=x;obtain ⟨y1,y2⟩:=y;show Calls Tryz.prog 44 #[.agg #[.int .i64 x1,.int .i64 x2],.agg #[.int .i64 y1,.int .i64 y2]] W _;have HC:=zh (show TA (x1,x2) (y1,y2)=if Hh x1 y1=0 then Hh x2 y2 else Hh x1 y1 from rfl);have a:=(fy W 32 #[.int .i64 x1,.int .i64 x2] rfl).alloc (.cells #[.int .i64 y1,.int .i64 y2] 32);have b:=fy (W.alloc (.cells #[.int .i64 x1,.int .i64 x2] 32)) 32 #[.int .i64 y1,.int .i64 y2] (n:=W.heap.size+1) qs;have hS:(λw':World=>w'.cell? ⟨W.heap.size,0,none⟩=some (.int .i64 x1)/\w'.cell? ⟨W.heap.size,1,none⟩=some (.int .i64 x2)/\w'.cell? ⟨W.heap.size+1,0,none⟩=some (.int .i64 y1)/\w'.cell? ⟨W.heap.size+1,1,none⟩=some (.int .i64 y2)) ((W.alloc (.cells #[.int .i64 x1,.int .i64 x2] 32)).alloc (.cells #[.int .i64 y1,.int .i64 y2] 32)).drew:=⟨a.drew.cell 0,a.drew.cell 1,b.drew.cell 0,b.drew.cell 1⟩;have c:=(fy ((W.alloc (.cells #[.int .i64 x1,.int .i64 x2] 32)).alloc (.cells #[.int .i64 y1,.int .i64 y2] 32)) 3 #[.int .i64 (Hh x1 y1),.int .i64 (Hh x2 y2)] (n:=W.heap.size+1+1) qs).drew;have d:=zh (λw=>L6 x1 y1 w);have f:=zh (λw=>L6 x2 y2 w);obtain ⟨r,hr⟩:∃r,TA (x1,x2) (y1,y2)=r:=⟨_,rfl⟩;have g:=zh (eX (Hh x1 y1) (Hh x2 y2) r (HC.out.symm.trans hr) _ _ c);rw [hr];generalize Hh x1 y1=q1 at*;generalize Hh x2 y2=q2 at*;clear hr;clear a b c;go_enter Tryz.func44,Tryz.ntmps44;go_wp2_with fail;refine AB [10] (λw':World=>w'.cell? ⟨W.heap.size,0,none⟩=some (.int .i64 x1)/\w'.cell? ⟨W.heap.size,1,none⟩=some (.int .i64 x2)/\w'.cell? ⟨W.heap.size+1,0,none⟩=some (.int .i64 y1)/\w'.cell? ⟨W.heap.size+1,1,none⟩=some (.int .i64 y2)) qk ?_;refine tQ 0 5 ?_;refine tT 1 (some 6) hS ?_;refine tQ 2 7 ?_;refine tT 3 (some 8) hS ?_;refine tQ 5 10 ?_;refine tT 6 (some 11) hS ?_;refine tQ 7 12 ?_;refine tT 8 (some 13) hS ?_;refine tO 4 λK' hK=>?_;go_wp2_with fail;refine (d _).mono ?_;rintro e w1 ⟨rfl,rfl⟩;go_wp2_with fail;refine hK.out _ _ (.inr (λh=>h)) ?_;clear hK;refine tO 9 λK' hK=>?_;go_wp2_with fail;refine (f _).mono ?_;rintro e w1 ⟨rfl,rfl⟩;go_wp2_with fail;refine hK.out _ _ (.inr (λh=>h)) ?_;clear hK;refine tO 10 λK' hK=>?_;go_wp2_with fail;refine hK.out _ _ (.inl rfl) ?_;clear hK;refine tO 11 λK' hK=>?_;go_wp2_with fail;refine g.mono ?_;rintro e w1 ⟨rfl,rfl⟩;go_wp2_with fail;refine hK.out _ _ (.inr (λh=>h)) ?_;clear hK;refine tQ 12 4 ?_;refine AA qk ?_ _;go_wp2_with fail;go_ret;exact ⟨rfl,1,_,by rw [Go.Sort.alloc_eq_grow,Go.Sort.alloc_eq_grow,Go.Sort.alloc_eq_grow,Go.Sort.grow_grow,Go.Sort.grow_grow];rfl⟩

theorem NS (w:World) (g m:Nat) (d:Array (Int × Int)) (os:Array Obj):Turned (λi=>i=g) w (Go.Proofs.sortWorldK ER 2 w g 0 m d os):=by
 refine ⟨rfl,rfl,rfl,?_,λk hk hs=>?_⟩
 . exact Go.Proofs.size_sortWorldK_c ER 2 w g 0 m d os
 . unfold Go.Proofs.sortWorldK Go.Sort.grow Go.Sort.putRowK Go.Sort.putRow Go.Sort.mapBlock Go.Sort.ahead;show (w.heap.modify g _++os)[k]? =w.heap[k]?;rw [Array.getElem?_append_left (by rw [Array.size_modify];exact hk),jH,if_neg (λe=>hs e.symm)]
theorem Ii (d:Array (Int × Int)):(d.extract 0 d.size).toList=d.toList:=by rw [Array.extract_size]
theorem Qc (d:Array (Int × Int)) (i:Nat) (h:i<d.size):d[i]! =d.toList[i]'(by rw [iG];exact h):=by
 rw [getElem!_pos d i h,Array.getElem_toList]
theorem Tl {w:World} {base g cap:Nat} {N:List (Int × Int)} (h:OwnL w base 32 2 (.slice (some ⟨g,0,none⟩) N.length cap) (N.map ER)):Go.Sort.HoldsK ER 2 w g 0 N.toArray:=by
 intro t ht;have a:t<N.length*2:=by simpa using ht
 have hj:t / 2<N.length:=oo;rw [Go.Sort.get_flatK _ _ _ _ (by simpa using a),jM]
 have b:(N.toArray)[t / 2]! =N[t / 2]:=by
  rw [getElem!_pos _ _ (by simpa using hj)];simp
 have c:(N.map ER)[t / 2]? =some (ER N[t / 2]):=by rw [fo,fg hj];rfl
 rw [b];refine ⟨?_,h.frozen t⟩;have hm:t=t / 2*2+t % 2:=oo;have d:t % 2<2:=ja _ qd
 have hu:(ER N[t / 2])[t % 2]? =some ((ER N[t / 2])[t % 2]!):=by
  have e:(ER N[t / 2]).length=2:=rfl;rw [fg oo,getElem!_pos _ _ oo]
 have:=h.cell (j:=t / 2) (i:=t % 2) c hu;rwa [<-hm] at this
theorem XX {w:World} {g:Nat} {d:Array (Int × Int)} (h:Go.Sort.HoldsK ER 2 w g 0 d) (hg:g<w.heap.size):ListAt w w.heap.size 2 (some ⟨g,0,none⟩) (d.toList.map ER):=by
 refine λ_=>⟨g,0,rfl,hg,λj cs hj i v hi=>?_⟩;rw [fo] at hj;cases hx:d.toList[j]? with
 | none=>rw [hx] at hj;cases hj
 | some x=>
   rw [hx] at hj;have f:j<d.toList.length:=(gI.1 hx).1;have b:j<d.size:=by rw [<-iG];exact f
   injection hj with hj;have e:cs=ER x:=hj.symm;have a:i<cs.length:=(gI.1 hi).1;have k:i<2:=by rw [e] at a;exact a
   have hc:=(h.cell (i:=j) (c:=i) b k).1
   have l:d[j]! =x:=by
    rw [Qc d j b];exact (gI.1 hx).2
   rw [l,<-e,getElem!_pos cs i a] at hc;rw [hc,(gI.1 hi).2]
theorem WK (g cap:Nat) (N:List (Int × Int)) (hN:N.length<=100000) (w:World) (base:Nat) (c:OwnL w base 32 2 (.slice (some ⟨g,0,none⟩) N.length cap) (N.map ER)):
 Calls Tryz.prog 43 #[.slice (some ⟨g,0,none⟩) N.length cap,.func (.func 44) #[] #[]] w λe w'=>e=.returned (.tuple #[])/\Turned (λi=>i=g) w w'/\ListAt w' w'.heap.size 2 (some ⟨g,0,none⟩) ((GH N).map ER):=by
 have hg:g<w.heap.size:=by
  rcases c.form with ⟨h,_⟩ | ⟨g',_,h,_,h2,_⟩
  . cases h
  . injection h with h;injection h with h;injection h with h;omega
 have hH:=Tl c;have a:N.toArray.size=N.length:=qs;have f:N.toArray.toList=N:=qs;obtain ⟨d,hd⟩:∃d,N.toArray=d:=⟨_,rfl⟩;rw [hd] at hH a f;have eg:∀args w,(callFunc 44 args).run Tryz.prog w=.ok (.enter 44 args) w:=BQ Tryz.func44 qk rfl;have b:=Go.Proofs.AnyQ.slices_SortFunc Zj 2 Tryz.isAgg32 Tryz.sizeOf32 ER (λ_=>rfl) (λx v hv=>by simp [ER] at hv;rcases hv with rfl | rfl<;>rfl) TA swP 44 #[] g 0 cap d w eg (λm os dk hs x y=>Wj x y _) hH hg (by rw [a];omega);change Calls Tryz.prog 43 _ _ _ at b;rw [a] at b;refine b.mono ?_;rintro e w' ⟨rfl,d',n,os,hp,hs,rfl⟩;refine ⟨rfl,NS w g n d' os,?_⟩;have k:d'.size=d.size:=hp.1;have hh:=XX (d:=d') (Go.Proofs.holdsK_sortWorldK_c ER 2 w g 0 d d' n os hH hg k) (fw hg (Go.Proofs.size_sortWorldK_c ER 2 w g 0 n d' os))
 have he:d'.toList=GH N:=by
  refine Yk N _ ?_ ?_
  . have h3:=hp.2.2;rw [<-a,Ii d,<-k,Ii d'] at h3;rw [<-f];exact h3
  . intro i j hi hj l o;rw [iG] at hi hj;have h4:=hs i j (iB _) l oo;rw [Qc d' j hj,Qc d' i hi] at h4;rw [(MR _ _).2 o] at h4;cases h4
 rw [he] at hh;exact hh
theorem W5 (N:List (Int × Int)) (hN:N.length<=100000) (w:World) (base:Nat) (v:Value) (a:OwnL w base 32 2 v (N.map ER)):
 ∃A c,v=.slice A (GH N).length c/\Calls Tryz.prog 43 #[.slice A (GH N).length c,.func (.func 44) #[] #[]] w λe w'=>e=.returned (.tuple #[])/\Turned (λi=>base<=i) w w'/\ListAt w' w'.heap.size 2 A ((GH N).map ER):=by
 have d:(GH N).length=N.length:=(GO N).length_eq;rcases a.form with ⟨rfl,h0⟩ | ⟨g,cap,rfl,hg,l,_⟩
 . have j:N.length=0:=by have:=gJ length h0;simpa using this
   have b:(GH N).length=0:=oo;refine ⟨none,0,by rw [b],?_⟩;rw [b];have f:=Go.Proofs.AnyF.slices_SortFunc_none Zj none 0 (.func (.func 44) #[] #[]) w;change Calls Tryz.prog 43 _ _ _ at f;refine f.mono ?_;rintro e w' ⟨rfl,rfl⟩;refine ⟨rfl,gW _ _,?_⟩;rw [eq_nil_of_length_eq_zero b];exact λh=>absurd h qd
 . rw [fm] at a ⊢;refine ⟨some ⟨g,0,none⟩,cap,by rw [d],?_⟩;rw [d];refine (WK g cap N hN w base a).mono ?_;rintro e w' ⟨rfl,ht,hr⟩;exact ⟨rfl,ht.mono (λk _ hk=>by subst hk;exact hg),hr⟩
def Gc (ls:List Lab):List (Int × Int):=(ls.filter λl=>!emL l).map λl=>(l.id,l.unit)
def Lw (T:Tab):List (Int × Int):=GH (Gc T.labels)
theorem Wq (ls:List Lab) (k:Nat) (h:k<ls.length):Gc (ls.take (k+1))=Gc (ls.take k)++(if emL ls[k]=true then [] else [(ls[k].id,ls[k].unit)]):=by
 unfold Gc;rw [fr h,jF,fz];congr 1;cases hm:emL ls[k]<;>simp [hm]
theorem Mo (ls:List Lab) (k:Nat):(Gc (ls.take k)).length<=k:=by
 unfold Gc;rw [fm];have:=jC (λl=>!emL l) (ls.take k);rw [iX] at this;omega
theorem aX:(Tryz.prog.info? 32).map (λi=>(i.zero,i.size,i.bytes))=some (some (.agg #[.int .i64 0,.int .i64 0]),2,16):=qk
theorem Of (A:Option Addr) (c:Nat) (xs:List LabE) (T:Tab) (w:World) (h:TabAt w A c xs T) (hs:SmallT T) (n:Nat) (hn:n=T.labels.length) (kf:List (Int × Int)) (t:Lw T=kf):
 Calls Tryz.prog 14 #[.agg #[.string T.name,.int .i64 T.tracks,.slice A n c]] w λe w'=>∃A c,e=.returned (.slice A kf.length c)/\ListAt w' w'.heap.size 2 A (kf.map ER)/\Grew w w'/\∀b off,A=some ⟨b,off,none⟩->w.heap.size<=b:=by
 subst hn;have Z:=hs.len;have u:=(fh w).alloc (.cells #[.string T.name,.int .i64 T.tracks,.slice A T.labels.length c] 50);have v:=fy w 50 #[.string T.name,.int .i64 T.tracks,.slice A T.labels.length c] rfl;have I:=zh h;have HS:=zh hs;have J:=zh t;clear h hs t;have x2:=v.cell 2;go_enter Tryz.func14,Tryz.ntmps14;go_wp2_with fail
 go_loopg [3,9] T.labels.length (λgk ov i wr=>∃k:Nat,k<=T.labels.length/\gk=T.labels.length - k/\i=.int .i64 k/\OwnL wr w.heap.size 32 2 ov ((Gc (T.labels.take k)).map ER)/\Grew w wr)
 case atStart=>exact ⟨0,oo,oo,rfl,OwnL.nil _ _ _ _,u⟩
 case round=>
  obtain ⟨k,hk,F,rfl,a,hg⟩:=hrel;have x:=zh F;have K:=zh a;have HG:=zh hg;have aa:=hg.size;have L:=Mo T.labels k;clear F x2 v u;by_cases s:k<T.labels.length
  . obtain ⟨b,off,B,d,l,rfl,an,X,hv,G,c0,c1,c2,c3,c4⟩:=(I.hold hg).at_ s;have y:=HS.ext T.labels[k] (fq s);rw [hv] at y;have p:=Wq T.labels k s;rw [hv] at p;have z:=zh p;have q:Grew wr (wr.alloc (.cells #[.int .i64 l.id,.int .i64 l.unit,.string l.name,.string l.note,.slice B l.ext.length d] 100)):=(fh wr).alloc _;have HE:=zh (K1 B d l _ (G.hold q) y);have M:=zh (fy wr 100 #[.int .i64 l.id,.int .i64 l.unit,.string l.name,.string l.note,.slice B l.ext.length d] rfl);have N:=zh q;clear hv X G p q a hg;go_wp2_with fail;refine HE.mono ?_;rintro e w3 ⟨rfl,g3⟩;have j:=N.out.trans g3;have f:=M.grew g3;have y0:=f.cell 0;have y1:=f.cell 1;have ad:=f.lt;have m:=K.grew j;have r:=zh (HG.out.trans j);have O:=r.size;cases o:emL l with
    | true=>
      have HF:=zh (show Gc (T.labels.take (k+1))=Gc (T.labels.take k) from by rw [z.out,if_pos o,append_nil]);have HO:=zh m;clear o f m j g3 c0 c1 c2 c3 c4;go_wp2_with fail
      go_roundg (T.labels.length - (k+1))
      case measure=>rw [x.out];omega
      case rel=>exact ⟨k+1,oo,oo,by go_num,by rw [HF.out];exact HO.out,r⟩
    | false=>
      have HF:=zh (show Gc (T.labels.take (k+1))=Gc (T.labels.take k)++[(l.id,l.unit)] from by rw [z.out,if_neg (by rw [o];simp)]);have ae:=m.row_ge;clear o f j g3 c0 c1 c2 c3 c4;go_wp2_with (at_builtin;refine Cp rfl _ _ 58 rfl w.heap.size 32 2 16 _ Tryz.underlying58 aX rfl qd w3 _ ((Gc (T.labels.take k)).map ER) (ER (l.id,l.unit)) (by rfl) rfl rfl m (by first | rfl | (simp;done)) rfl rfl (by rw [fm];omega) (by rw [fm];omega) O ?_;intro v' w5 V W aj al)
      go_roundg (T.labels.length - (k+1))
      case measure=>rw [x.out];omega
      case rel=>exact ⟨k+1,oo,oo,by go_num,by rw [HF.out,fz];exact V,W _ r (fk _)⟩
  . have P:k=T.labels.length:=oo;subst P;rw [i8] at a L;obtain ⟨A1,c1,Y,H⟩:=W5 (Gc T.labels) oo wr w.heap.size _ a;subst Y;have C:=zh H;have Q:=zh (show ∀b off,A1=some ⟨b,off,none⟩->w.heap.size<=b from λb off e=>(a.own_ge (g:=b) (by rw [e];rfl)).1);have R:=zh (show GH (Gc T.labels)=kf from J.out);rw [R.out] at C ⊢;clear H a hg;go_wp2_with fail;refine C.mono ?_;rintro e w7 ⟨rfl,D,E⟩;have S:=zh (HG.turn D (λi hi=>hi));have U:=zh E;clear D E;go_wp2_with fail;go_ret;exact ⟨_,_,rfl,U,S,Q⟩

end
section
attribute [local go_sem ↓] Go.wp_at_zero Go.wp_at_succ
open Go.RowKit
theorem OwnL.lower2 {w:World} {b b' e sz:Nat} {v:Value} {rows:List (List Value)} (h:OwnL w b e sz v rows) (hb:b'<=b):OwnL w b' e sz v rows:=by
 refine ⟨h.1,h.2.1,?_⟩;rcases h.2.2 with h0 | ⟨g,cap,a,h1,h2,h3⟩
 . exact .inl h0
 . exact .inr ⟨g,cap,a,h1,fx hb h2,h3⟩

theorem NZ (t:Int) (ht:okT t=true) (l:Lab) (h:emL l=true\/BO l t=true):(Cw l t).size=1024:=by
 rcases h with h | h
 . unfold Cw;rw [if_pos ⟨ht,h⟩];exact Fp _ _ qd
 . exact Ol l t h
theorem PJ (T:Tab) (h:A0 T=true):(CG T.name T.tracks).size=1024:=by
 have hg:=(AX T).1 h;have hp:JS T.name:=gV hg.nm;unfold CG;rw [if_pos ⟨hg.nm,hg.tr⟩];refine Fp _ _ ?_;have:=hp.2.1;have z1:=Bf T.name.size;have z2:=Bf T.tracks.toNat;rw [f8,f8];omega
theorem Gr (T:Tab) (h:A0 T=true):∀k,k<=T.labels.length->(Ei T k).size=1024*(k+1):=by
 intro k
 induction k with
 | zero=>intro _;rw [GK,PJ T h]
 | succ k ih=>
   intro hk;have hg:=(AX T).1 h;rw [F7 T k oo,f8,ih oo,NZ T.tracks hg.tr _ (hg.ok _ (fq _))];omega
theorem Rv (T:Tab) (h:A0 T=true) (k:Nat) (hk:k<T.labels.length):EG (Ei T (k+1))=EG (Ei T k)++EG (Cw T.labels[k] T.tracks):=by
 rw [F7 T k hk];exact Rg _ _ (by rw [Gr T h k oo];omega)

def wrC (p:Int × ByteArray):List Value:=[.int .i64 p.1,.string p.2]

theorem K5 (T:Tab) (h:(AP T).length≠0):A0 T=true:=by
 cases hv:A0 T with
 | true=>rfl
 | false=>exfalso;apply h;unfold AP;rw [if_neg (by rw [hv];simp)];rfl
theorem QU (T:Tab) (h:(AP T).length≠0):(AP T).length=8*(T.labels.length+1):=by
 have hv:=K5 T h;unfold AP;rw [if_pos hv,Bp,Gr T hv _ (fk _)];omega
theorem I5 (T:Tab) (hs:T.labels.length<=1000):(AP T).length<=10000:=by
 by_cases h:(AP T).length=0
 . omega
 . rw [QU T h];omega
theorem R7 (T U:Tab) (h1:(AP T).length≠0) (h2:(AP U).length≠0) (ht:T.tracks=U.tracks):(AP T).length=(AP U).length:=by
 have g1:=((AX T).1 (K5 T h1)).len;have g2:=((AX U).1 (K5 U h2)).len;rw [QU T h1,QU U h2];rw [ht] at g1;omega
def Co (X Y:List ByteArray) (k:Nat):List (Int × ByteArray):=((List.range k).filter λi=>decide (X.getD i ⟨#[]⟩≠Y.getD i ⟨#[]⟩)).map λ(i:Nat)=>((i:Int),Y.getD i ⟨#[]⟩)
def Bq (T U:Tab):List (Int × ByteArray):=if (AP T).length=(AP U).length/\T.tracks=U.tracks then Co (AP T) (AP U) (AP T).length else []
theorem ZB (X Y:List ByteArray) (k:Nat) (h1:k<X.length) (h2:k<Y.length) (h:X[k]=Y[k]):Co X Y (k+1)=Co X Y k:=by
 unfold Co;rw [jW,jF,fz];simp [gH,fg h1,fg h2,h]
theorem YW (X Y:List ByteArray) (k:Nat) (h1:k<X.length) (h2:k<Y.length) (h:¬X[k]=Y[k]):Co X Y (k+1)=Co X Y k++[((k:Int),Y[k])]:=by
 unfold Co;rw [jW,jF,fz];simp [gH,fg h1,fg h2,h]
theorem V8 (X Y:List ByteArray) (k:Nat):(Co X Y k).length<=k:=by
 unfold Co;rw [fm];have h9:=jC (λi=>decide (X.getD i ⟨#[]⟩≠Y.getD i ⟨#[]⟩)) (List.range k);rw [io] at h9;exact h9
theorem TY:(Tryz.prog.info? 65).map (λi=>(i.zero,i.size,i.bytes))=some (some (.agg #[.int .i64 0,.string ⟨#[]⟩]),2,24):=qk

end
section
open Go.RowKit
def H5 (l:List ByteArray):ByteArray:=l.foldl (·++·) ⟨#[]⟩
theorem aU:H5 []=⟨#[]⟩:=rfl
theorem af (l:List ByteArray):∀a:ByteArray,l.foldl (·++·) a=a++H5 l:=by
 induction l with
 | nil=>intro a;exact ByteArray.append_empty.symm
 | cons x l ih=>
   intro a;show l.foldl (·++·) (a++x)=a++l.foldl (·++·) (⟨#[]⟩++x);rw [ih (a++x),ih (⟨#[]⟩++x),im];congr 2
theorem JK (x:ByteArray) (l:List ByteArray):H5 (x::l)=x++H5 l:=by
 show l.foldl (·++·) (⟨#[]⟩++x)=_;rw [af];congr 1
theorem Ou (l:List ByteArray) (x:ByteArray):H5 (l++[x])=H5 l++x:=by unfold H5;rw [iV];rfl
theorem YG (m:Nat) (l:List ByteArray) (h:∀x∈l,x.size<=m):(H5 l).size<=m*l.length:=by
 induction l with
 | nil=>exact iB _
 | cons x l ih=>
   have h1:=ih (λy hy=>h y (gM _ hy));have h2:=h x (gS ..);rw [JK,f8,iY,Nat.mul_add];omega
theorem Yw (x:ByteArray) (h:x.size=128):EG x=[x]:=by
 unfold EG;rw [h];simp only [show 128 / 128=1 from rfl,range_one,map_cons,map_nil,Nat.mul_zero,jM];rw [<-h];simp
theorem cS (l:List ByteArray) (h:∀x∈l,x.size=128):EG (H5 l)=l:=by
 induction l with
 | nil=>rfl
 | cons x l ih=>
   have hx:=h x (gS ..);rw [JK,Rg _ _ (by rw [hx]),ih (λy hy=>h y (gM _ hy)),Yw x hx];rfl
theorem Yx (s:ByteArray):∀x∈EG s,x.size=128:=by
 intro x hx;obtain ⟨i,hi,rfl⟩:=List.getElem_of_mem hx;rw [Bp] at hi;rw [GC,gO];omega
theorem ZU (s:ByteArray):∀k,128*k<=s.size->H5 ((EG s).take k)=s.extract 0 (128*k):=by
 intro k
 induction k with
 | zero=>intro _;simp [H5];rfl
 | succ k ih=>
   intro hk;rw [PN s k oo,Ou,ih oo];rw [ByteArray.extract_append_extract];congr 1<;>omega
theorem VP (s:ByteArray) (h:s.size % 128=0):H5 (EG s)=s:=by
 have h1:=ZU s (s.size / 128) oo;rw [gP (by rw [Bp];omega)] at h1;rw [h1];have:128*(s.size / 128)=s.size:=oo;rw [this];simp
def CZ (ss:List ByteArray) (n:Nat):ByteArray:=H5 ((ss.drop (8*n)).take 8)
theorem K3 (m:Nat) (ss:List ByteArray) (n:Nat) (h:∀x∈ss,x.size<=m):(CZ ss n).size<=m*8:=by
 unfold CZ;have h1:=YG m ((ss.drop (8*n)).take 8) (λx hx=>h x (mem_of_mem_drop (iu hx)));have h2:((ss.drop (8*n)).take 8).length<=8:=by rw [iX];omega
 exact fx h1 (Nat.mul_le_mul_left m h2)
theorem O5 (T:Tab) (hv:A0 T=true):∀d k,k+d=T.labels.length->∃R,EG (Ei T T.labels.length)=EG (Ei T k)++R:=by
 intro d
 induction d with
 | zero=>intro k hk;exact ⟨[],by rw [append_nil];congr 2;omega⟩
 | succ d ih=>
   intro k hk;obtain ⟨R,hR⟩:=ih (k+1) oo;rw [hR,Rv T hv k oo,iA];exact ⟨_,rfl⟩
theorem Dd (T:Tab) (hv:A0 T=true) (ss:List ByteArray) (h:AP T=ss):
 ss.length=8*(T.labels.length+1)/\(∀x∈ss,x.size=128)/\CZ ss 0=CG T.name T.tracks/\∀k (hk:k<T.labels.length),CZ ss (k+1)=Cw T.labels[k] T.tracks:=by
 unfold AP at h;rw [if_pos hv] at h;subst h;refine ⟨by rw [Bp,Gr T hv _ (fk _)];omega,Yx _,?_,λk hk=>?_⟩
 . obtain ⟨R,hR⟩:=O5 T hv T.labels.length 0 oo;have h1:=PJ T hv;unfold CZ;rw [hR,GK,Nat.mul_zero,drop_zero,take_append_of_le_length (by rw [Bp,h1];decide),gP (by rw [Bp,h1];decide),VP _ (by rw [h1])]
 . obtain ⟨R,hR⟩:=O5 T hv (T.labels.length - (k+1)) (k+1) oo;have h1:=Gr T hv k oo;have h2:=NZ T.tracks ((AX T).1 hv).tr T.labels[k] (((AX T).1 hv).ok _ (fq hk));unfold CZ;rw [hR,Rv T hv k hk,iA,drop_append_of_le_length (by rw [Bp,h1];omega),drop_of_length_le (by rw [Bp,h1];omega),nil_append];rw [take_append_of_le_length (by rw [Bp,h2];decide),gP (by rw [Bp,h2];decide),VP _ (by rw [h2])]
theorem WS (n:ByteArray) (t:Int) (hn:Cj n=true) (ht:okT t=true):FC (CG n t)=(n,t,0):=by
 have hp:JS n:=gV hn;have hb:=B0 ht;have hl:n.data.toList.length=n.size:=iG
 have e0:CG n t=⟨(enc n.data.toList.length++(n.data.toList++(enc t.toNat++List.replicate (1024 - (eB n.size++n++eB t.toNat).size) 0))).toArray⟩:=by
  unfold CG;rw [if_pos ⟨hn,ht⟩];apply F6;unfold Ef FB;rw [hl];simp only [ByteArray.data_append,Array.toList_append,Array.toList_replicate,iA];rfl
 have q1:=(gJ hdN e0).trans (Ni n.data.toList _ 8 (by have:=hp.2.1;omega) (by have:=hp.2.1;omega));have q2:hdT (CG n t)=CH (hdN (CG n t)).2.1 (hdN (CG n t)).2.2 128:=rfl;rw [q1] at q2;have q2:=q2.trans (FN t.toNat _ 128 oo oo);have hN:(hdN (CG n t)).1=n:=by rw [q1]
 have hT:((hdT (CG n t)).1:Int)=t:=by rw [q2];exact jJ oo
 have hE:hdE (CG n t)=CG n t:=by unfold hdE;rw [hN,hT]
 have hz:CG n t≠⟨#[]⟩:=λe=>by
  have h1:(CG n t).size=1024:=by
   unfold CG;rw [if_pos ⟨hn,ht⟩];refine Fp _ _ ?_;have:=hp.2.1;have z1:=Bf n.size;have z2:=Bf t.toNat;rw [f8,f8];omega
  rw [e] at h1;exact absurd h1 qd
 unfold FC;rw [hE,if_neg (λh=>h.elim hz (λh=>h rfl)),hN,hT]
theorem Zb (l:Lab) (t:Int) (ht:okT t=true) (h:emL l=true\/BO l t=true):Dr (Cw l t) t=(l,0):=by
 rcases h with h | h
 . rw [(Fj l).1 h];have e1:Cw BH t=Ef 1024 ⟨#[]⟩:=by unfold Cw;rw [if_pos ⟨ht,(I4 _ _).2 rfl⟩]
   have e2:(Ef 1024 ⟨#[]⟩).size=1024:=Fp _ _ qd;unfold Dr;rw [e1,if_neg (by rw [ht,e2];simp),if_pos rfl]
 . exact SF l t h (Ol l t h)
def SecOf (ss:List ByteArray) (T:Tab):Prop:=A0 T=true/\AP T=ss
theorem SecOf.head {ss:List ByteArray} {T:Tab} (h:SecOf ss T):FC (CZ ss 0)=(T.name,T.tracks,0):=by
 have hg:=(AX T).1 h.1;rw [(Dd T h.1 ss h.2).2.2.1,WS _ _ hg.nm hg.tr]
theorem SecOf.lab {ss:List ByteArray} {T:Tab} (h:SecOf ss T) (k:Nat) (hk:k<T.labels.length):Dr (CZ ss (k+1)) T.tracks=(T.labels[k],0):=by
 have hg:=(AX T).1 h.1;rw [(Dd T h.1 ss h.2).2.2.2 k hk,Zb _ _ hg.tr (hg.ok _ (fq hk))]
theorem SecOf.unique {ss:List ByteArray} {T U:Tab} (h:SecOf ss T) (g:SecOf ss U):T=U:=by
 have e:=h.head.symm.trans g.head;injection e with e1 e2;injection e2 with e2 e3
 have hl:T.labels.length=U.labels.length:=by
  have g1:=(Dd T h.1 ss h.2).1;have g2:=(Dd U g.1 ss g.2).1;omega
 have hL:T.labels=U.labels:=by
  refine jY hl (λk h1 h2=>?_);have p1:=h.lab k h1;have p2:=g.lab k h2;rw [e2] at p1;exact gJ Prod.fst (p1.symm.trans p2)
 cases T;cases U;simp only at e1 e2 hL;rw [e1,e2,hL]
def LdS (ss:List ByteArray) (T:Tab) (er:Int):Prop:=(SecOf ss T/\er=0)\/((∀U,¬SecOf ss U)/\T=Ca/\er=11)

theorem ZP (a b:List ByteArray):H5 (a++b)=H5 a++H5 b:=by
 induction a with
 | nil=>exact ByteArray.empty_append.symm
 | cons x a ih=>rw [cons_append,JK,JK,ih,im]
def IL (ss:List ByteArray) (k:Nat):List ByteArray:=(List.range ((k+7) / 8)).map λn=>CZ (ss.take k) n
def Fk (ss:List ByteArray) (k:Nat):List ByteArray:=(List.range (k / 8+1)).map λn=>CZ (ss.take k) n
theorem Ks (ss:List ByteArray) (k:Nat):(IL ss k).length=(k+7) / 8:=by unfold IL;simp
theorem IQ (ss:List ByteArray) (k:Nat):(Fk ss k).length=k / 8+1:=by unfold Fk;simp
theorem Si (ss:List ByteArray) (k i:Nat) (h:i<(IL ss k).length):(IL ss k)[i]=CZ (ss.take k) i:=by simp [IL]
theorem RZ (ss:List ByteArray) (k i:Nat) (h:i<(Fk ss k).length):(Fk ss k)[i]=CZ (ss.take k) i:=by simp [Fk]
theorem Gq (ss:List ByteArray) (k n:Nat):CZ (ss.take k) n=H5 ((ss.drop (8*n)).take (min 8 (k - 8*n))):=by
 unfold CZ;rw [drop_take,take_take]
theorem ac (ss:List ByteArray) (k:Nat) (h:k % 8=0):Fk ss k=IL ss k++[⟨#[]⟩]:=by
 unfold Fk IL;have e:(k+7) / 8=k / 8:=oo;rw [e,jW,fz,map_cons,map_nil,Gq];have e2:min 8 (k - 8*(k / 8))=0:=oo;rw [e2,take_zero,aU]
theorem aB (ss:List ByteArray) (k:Nat) (h:¬k % 8=0):Fk ss k=IL ss k:=by
 unfold Fk IL;have e:(k+7) / 8=k / 8+1:=oo;rw [e]
theorem PX (ss:List ByteArray) (k:Nat) (hk:k<ss.length) (h:k / 8<(Fk ss k).length):IL ss (k+1)=(Fk ss k).set (k / 8) ((Fk ss k)[k / 8]++ss[k]):=by
 refine jY (by rw [length_set,Ks,IQ];omega) (λi h1 h2=>?_);rw [Ks] at h1;rw [List.getElem_set];by_cases hi:k / 8=i
 . subst hi;rw [if_pos rfl];rw [Si,RZ,Gq,Gq];have e1:min 8 (k+1 - 8*(k / 8))=(k - 8*(k / 8))+1:=oo;have e2:min 8 (k - 8*(k / 8))=k - 8*(k / 8):=oo;rw [e1,e2,fr (by rw [length_drop];omega),Ou,getElem_drop];congr 2;omega
 . rw [if_neg hi];rw [Si,RZ,Gq,Gq];have e1:min 8 (k+1 - 8*i)=8:=oo;have e2:min 8 (k - 8*i)=8:=oo;rw [e1,e2]
theorem aE (ss:List ByteArray) (m:Nat) (h:ss.length=8*m):IL ss ss.length=(List.range m).map (CZ ss):=by
 unfold IL;rw [i8];congr 2;omega
theorem Pj (ss:List ByteArray) (k:Nat) (h:∀x∈ss,x.size<=1000):∀y∈Fk ss k,y.size<=8000:=by
 intro y hy;unfold Fk at hy;obtain ⟨n,_,rfl⟩:=ft.1 hy;exact K3 1000 _ n (λx hx=>h x (iu hx))
theorem Yd (ss:List ByteArray) (n:ByteArray) (t:Int) (ls:List Lab) (hh:CG n t=CZ ss 0) (hd:∀k (hk:k<ls.length),Cw ls[k] t=CZ ss (k+1)):
 ∀k,k<=ls.length->Ei ⟨n,t,ls⟩ k=H5 (ss.take (8*(k+1))):=by
 intro k
 induction k with
 | zero=>intro _;rw [GK];show CG n t=_;rw [hh];unfold CZ;simp
 | succ k ih=>
   intro hk;rw [F7 ⟨n,t,ls⟩ k hk,ih oo];show _++Cw ls[k] t=_;rw [hd k hk];unfold CZ;rw [<-ZP];congr 1;have e:8*(k+1+1)=8*(k+1)+8:=oo;rw [e,take_add]
theorem Vt (ss:List ByteArray) (n:ByteArray) (t:Int) (ls:List Lab) (a:∀x∈ss,x.size=128) (b:ss.length=8*(ls.length+1)) (hh:FC (CZ ss 0)=(n,t,0))
 (hd:∀k (hk:k<ls.length),Dr (CZ ss (k+1)) t=(ls[k],0)) (hv:A0 ⟨n,t,ls⟩=true):SecOf ss ⟨n,t,ls⟩:=by
 refine ⟨hv,?_⟩
 have h1:CG n t=CZ ss 0:=by
  rcases Ln (CZ ss 0) with h | ⟨n',t',h,g,_⟩
  . rw [hh] at h;exact absurd (gJ (λx=>x.2.2) h) (by decide:¬((0:Int)=11))
  . rw [hh] at h;injection h with h2 h3;injection h3 with h3 _;rw [h2,h3];exact g
 have h2:∀k (hk:k<ls.length),Cw ls[k] t=CZ ss (k+1):=λk hk=>by
  rcases Nj (CZ ss (k+1)) t with ⟨_,h⟩ | h
  . rw [hd k hk] at h;exact h
  . rw [hd k hk] at h;exact absurd (gJ (λx=>x.2) h) (by decide:¬((0:Int)=11))
 unfold AP;rw [if_pos hv,Yd ss n t ls h1 h2 _ (fk _)];show EG (H5 (ss.take (8*(ls.length+1))))=ss;rw [<-b,i8,cS ss a]
theorem SecOf.is {ss:List ByteArray} {U:Tab} (h:SecOf ss U) {n:ByteArray} {t:Int} {ls:List Lab} (hh:FC (CZ ss 0)=(n,t,0)) (hl:(ls.length:Int)=CT t)
 (hd:∀k (hk:k<ls.length),Dr (CZ ss (k+1)) t=(ls[k],0)):U=⟨n,t,ls⟩:=by
 have e:=h.head.symm.trans hh;injection e with e1 e2;injection e2 with e2 e3;have hU:=((AX U).1 h.1).len;rw [e2] at hU;have a:U.labels.length=ls.length:=oo
 have hL:U.labels=ls:=by
  refine jY a (λk h1 h2=>?_);have p1:=h.lab k h1;rw [e2] at p1;exact gJ Prod.fst (p1.symm.trans (hd k h2))
 cases U;simp only at e1 e2 hL;rw [e1,e2,hL]
theorem LdS.no {ss:List ByteArray} (h:∀U,SecOf ss U->False):LdS ss Ca 11:=.inr ⟨h,rfl,rfl⟩
theorem fB (ss:List ByteArray) (k:Nat) (hk:k<ss.length) (h:¬ss[k].size=128):LdS ss Ca 11:=LdS.no λU hU=>h ((Dd U hU.1 ss hU.2).2.1 _ (fq hk))
theorem ah (ss:List ByteArray) (h:ss.length=0\/¬ss.length % 8=0):LdS ss Ca 11:=LdS.no λU hU=>by have:=(Dd U hU.1 ss hU.2).1;omega
theorem cN (ss:List ByteArray) (h:FC (CZ ss 0)=(⟨#[]⟩,0,11)):LdS ss Ca 11:=LdS.no λU hU=>by
 have e:=hU.head;rw [h] at e;exact absurd (gJ (λx=>x.2.2) e) (by decide:¬((11:Int)=0))
theorem O9 (U:Tab) (h:A0 U=true):(U.labels.length:Int)+1=ttS U.tracks:=by
 have h1:=((AX U).1 h).len;have h2:=((AX U).1 h).tr;have h3:=B0 h2;unfold CT at h1;unfold ttS at h1 ⊢;rw [if_pos h2] at h1 ⊢;omega
theorem Z8 (ss:List ByteArray) (n:ByteArray) (t:Int) (hh:FC (CZ ss 0)=(n,t,0)) (h:¬((ss.length / 8:Nat):Int)=ttS t):LdS ss Ca 11:=LdS.no λU hU=>by
 have e:=hU.head.symm.trans hh;have h1:=O9 U hU.1;have et:U.tracks=t:=gJ (λx=>x.2.1) e;rw [et] at h1;have h2:=(Dd U hU.1 ss hU.2).1;omega
theorem eI (ss:List ByteArray) (n:ByteArray) (t:Int) (hh:FC (CZ ss 0)=(n,t,0)) (k:Nat) (hk:(k:Int)+1<ttS t) (h:Dr (CZ ss (k+1)) t=(BH,11)):LdS ss Ca 11:=LdS.no λU hU=>by
 have e:=hU.head.symm.trans hh;have et:U.tracks=t:=gJ (λx=>x.2.1) e;have h1:=O9 U hU.1;rw [et] at h1;have h2:=hU.lab k oo;rw [et,h] at h2;exact absurd (gJ (λx=>x.2) h2) (by decide:¬((11:Int)=0))
theorem YR (ss:List ByteArray) (n:ByteArray) (t:Int) (ls:List Lab) (hh:FC (CZ ss 0)=(n,t,0)) (hl:(ls.length:Int)=CT t) (hd:∀k (hk:k<ls.length),Dr (CZ ss (k+1)) t=(ls[k],0))
 (h:¬(A0 ⟨n,t,ls⟩=true/\AP ⟨n,t,ls⟩=ss)):LdS ss Ca 11:=LdS.no λU hU=>by
 have e:=hU.is hh hl hd;subst e;exact h hU
theorem aR {ss:List ByteArray} {t:Int} {ls:List Lab} {l:Lab} (h:∀j (hj:j<ls.length),Dr (CZ ss (j+1)) t=(ls[j],0)) (hl:Dr (CZ ss (ls.length+1)) t=(l,0)):
 ∀j (hj:j<(ls++[l]).length),Dr (CZ ss (j+1)) t=((ls++[l])[j],0):=by
 intro j hj;rw [gK,ir] at hj;by_cases a:j<ls.length
 . rw [List.getElem_append_left a];exact h j a
 . have e:j=ls.length:=oo;subst e;rw [List.getElem_append_right (fk _)];simpa using hl
theorem Zk {ls:List Lab} {l:Lab} (h:∀x∈ls,x.ext.length<=1000) (hl:l.ext.length<=1000):∀x∈ls++[l],x.ext.length<=1000:=by
 intro x hx;rcases gC.1 hx with hx | hx
 . exact h x hx
 . rw [fp.1 hx];exact hl

theorem Qa {W w':World} {row:Option Nat} (h:W.grownBy w' row):Turned (λk=>row=some k) W w':=⟨h.os,h.tape,h.output,h.size,λk hk hn=>h.block k hk (λe=>hn e.symm)⟩
theorem TabO.push {W w':World} {base:Nat} {v:Value} {ys:List LabE} {ls:List Lab} (h:TabO W base v ys ls) (y:LabE) {g n cap:Nat} (f:OwnL w' base 100 5 (.slice (some ⟨g,0,none⟩) n cap) (ys.map DN++[DN y]))
 (i:W.grownBy w' v.ownBlock) (a:v.ownBlock=some g\/g=W.heap.size) (hy:LabAt W y.A y.c y.l) (hf:0<y.l.ext.length->∀b off,y.A=some ⟨b,off,none⟩->v.ownBlock≠some b):
 TabO w' base (.slice (some ⟨g,0,none⟩) n cap) (ys++[y]) (ls++[y.l]):=by
 have d:∀z∈ys++[y],LabAt W z.A z.c z.l/\(0<z.l.ext.length->∀b off,z.A=some ⟨b,off,none⟩->v.ownBlock≠some b):=λz hz=>by
  rcases gC.1 hz with hz | hz
  . exact ⟨h.lab z hz,h.far z hz⟩
  . rw [fp.1 hz];exact ⟨hy,hf⟩
 refine ⟨by rw [fz];exact f,λz hz=>?_,λz hz h0 b off e=>?_,by rw [fz,h.eq];rfl⟩
 . exact (d z hz).1.turned (Qa i) (λh0 b off e=>(d z hz).2 h0 b off e)
 . have j:=(d z hz).2 h0 b off e;obtain ⟨b',k,e',m,_⟩:=(d z hz).1.runs.2 (by simpa using h0);rw [e] at e';injection e' with e';injection e' with e';subst e';intro e2;have e3:g=b:=by simpa [Value.ownBlock] using e2
   rcases a with a | a
   . exact j (by rw [a,e3])
   . omega
theorem Xg (s:ByteArray) (t:Int):(∃l,Dr s t=(l,0)/\l.ext.length<=1000)\/Dr s t=(BH,11):=by
 unfold Dr;split
 . exact .inr rfl
 . split
   . exact .inl ⟨BH,rfl,iB _⟩
   . split
     . rename_i h;obtain ⟨_,_,⟨_,v8⟩,_⟩:=EI _ t h.1;refine .inl ⟨rL 128 s,rfl,?_⟩;omega
     . exact .inr rfl
theorem Cc:SmallT Ca:=⟨qd,λl hl=>by cases hl⟩

end
end Go.Proofs.YtfklieeipokllaaGreat
