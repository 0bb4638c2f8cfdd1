/- Parts of the proof (packed), 14. -/
import Derived.Test.YtfklieeipokllaaGreatCyL
namespace Go.Proofs.YtfklieeipokllaaGreat
set_option linter.all false
set_option maxRecDepth 100000
set_option maxHeartbeats 16000000
open List
section
open Go.RowKit
theorem PP (D:Dev):(Je D).1.pend.length<=D.pend.length:=by
 unfold Je;split
 . exact fk _
 . exact fk _
 . show ((D.pend.filter λr=>!(λ_=>true) r)).length<=_;exact jC _ _
theorem L5 (D:Dev) (sy ep:Int):(An D sy ep).1.pend.length<=D.pend.length:=by
 unfold An;split
 . exact fk _
 split
 . exact fk _
 split
 . exact PP D
 . exact PP D
theorem Id (D:Dev) (sy ep i:Int) (s:ByteArray):(BN D sy ep i s).1.pend.length<=D.pend.length+1:=by
 have h:=L5 D sy ep;unfold BN;split
 . show D.pend.length<=_;omega
 split
 . show D.pend.length<=_;omega
 split
 . omega
 . show ((An D sy ep).1.pend++[_]).length<=_;rw [gK,ir];omega
theorem Mw (D:Dev) (sy ep:Int):(Ci D sy ep).1.pend.length<=D.pend.length:=by
 have h:=L5 D sy ep;unfold Ci;split
 . exact fk _
 split
 . exact h
 . show ((An D sy ep).1.pend.filter _).length<=_;exact fx (jC _ _) h
theorem ag (D:Dev) (sy ep:Int) (t:St):(stD D sy ep t).1.pend.length<=D.pend.length+1:=by
 cases t with
 | put i s=>exact Id D sy ep i s
 | sync=>exact Nat.le_succ_of_le (Mw D sy ep)
theorem Od (sy ep:Int) (l:List St):∀D,(Bk sy ep l D).1.pend.length<=D.pend.length+l.length:=by
 induction l with
 | nil=>intro D;exact fk _
 | cons t l ih=>
   intro D;have h:=ag D sy ep t;show (if (stD D sy ep t).2=0 then Bk sy ep l (stD D sy ep t).1 else stD D sy ep t).1.pend.length<=_;rw [iY];split
   . have:=ih (stD D sy ep t).1;omega
   . omega
def Works (w0:World) (x:Nat) (out:Nat->Prop) (W:World) (n:Nat) (v:Value) (f:Dev->Dev × Int):Prop:=
 ∃fn first caps,v=.func (.func fn) first caps/\C2 Tryz.prog fn/\∀D' w',Live w0 x D' out w'->Beside w0 out W w'->D'.pend.length<=990000->Calls Tryz.prog fn (first++caps) w' λe w''=>
  e=.returned (.int .i64 (f D').2)/\Live w0 x (f D').1 out w''/\Beside w0 out w' w''/\(f D').1.pend.length<=D'.pend.length+n
theorem Qu:C2 Tryz.prog 182:=BQ Tryz.func182 qk qk
theorem Rc:C2 Tryz.prog 115:=BQ Tryz.func115 qk qk
theorem Qj:C2 Tryz.prog 143:=BQ Tryz.func143 qk qk
theorem Blk.beside {w0 W w':World} {out:Nat->Prop} {g:Nat} {t:TypeId} {cs:Array Value} (h:Blk W g t cs) (hB:Beside w0 out W w') (ho:out g):Blk w' g t cs:=h.turned hB (λhh=>hh.2 ho)
section
variable {w0:World} {x s m:Nat} {sy ep:Int} {out:Nat->Prop} {W:World} (hb:Blk W s 268 (Cs x sy ep m)) (hs:out s)
include hb hs
theorem Ow {lo:Nat} (d:∀k,lo<=k->k<W.heap.size->out k) {i:Int} {raw:ByteArray} (hr:raw.size<=9223372036854775807) {v:Value} (h:PutAt W lo s i raw v):Works w0 x out W 1 v (λD=>BN D sy ep i raw):=by
 obtain ⟨a,b,c,rfl,la,lb,lc,ha,f,hc⟩:=h;refine ⟨_,_,_,rfl,Qu,λD' w' hL hB hp=>?_⟩;refine (ZJ hL (hb.beside hB hs) oo i raw hr a b c (ha.beside hB (d a la ha.lt)) (f.beside hB (d b lb f.lt)) (hc.beside hB (d c lc hc.lt))).mono ?_;rintro e g ⟨he,h1,h2⟩;exact ⟨he,h1,h2,Id ..⟩
theorem F8:Works w0 x out W 0 (.func (.func 115) #[ptrV s] #[]) (λD=>Ci D sy ep):=by
 refine ⟨_,_,_,rfl,Rc,λD' w' hL hB hp=>?_⟩;refine (WB hL (hb.beside hB hs) oo).mono ?_;rintro e a ⟨he,h1,h2⟩;exact ⟨he,h1,h2,Mw ..⟩
theorem MG:Works w0 x out W 1 (.func (.func 143) #[ptrV s] #[]) (λD=>BN D sy ep 33 blankR):=by
 refine ⟨_,_,_,rfl,Qj,λD' w' hL hB hp=>?_⟩;refine (XJ hL (hb.beside hB hs) oo).mono ?_;rintro e a ⟨he,h1,h2⟩;exact ⟨he,h1,h2,Id ..⟩
end
def ED (w0:World) (out:Nat->Prop) (A:Option Addr):Prop:=∀b off,A=some ⟨b,off,none⟩->b<w0.heap.size\/out b
theorem ListAt.beside {w0 W w':World} {out:Nat->Prop} {sz:Nat} {A:Option Addr} {rows:List (List Value)} (h:ListAt W W.heap.size sz A rows) (hB:Beside w0 out W w') (hA:ED w0 out A):ListAt w' w'.heap.size sz A rows:=λhl=>by
 obtain ⟨b,off,e,hb,hc⟩:=h hl;refine ⟨b,off,e,fw hb hB.size,λj cs hj i v hi=>?_⟩;rw [hB.cellEq b _ hb (λhh=>by rcases hA b off e with h9 | h9;exact absurd hh.1 oo;exact hh.2 h9)];exact hc j cs hj i v hi
theorem Works.more {w0:World} {x:Nat} {out:Nat->Prop} {W:World} {n n':Nat} {v:Value} {f:Dev->Dev × Int} (h:Works w0 x out W n v f) (hn:n<=n'):Works w0 x out W n' v f:=by
 obtain ⟨fn,first,d,h1,h2,h3⟩:=h;exact ⟨fn,first,d,h1,h2,λD' w' a b c=>(h3 D' w' a b c).mono λe w'' h=>⟨h.1,h.2.1,h.2.2.1,oo⟩⟩
def WorksL (w0:World) (x:Nat) (out:Nat->Prop) (W:World) (n:Nat) (fs:List (Dev->Dev × Int)) (vs:List Value):Prop:=
 vs.length=fs.length/\∀(k:Nat) (f:Dev->Dev × Int) (v:Value),fs[k]? =some f->vs[k]? =some v->Works w0 x out W n v f
theorem WorksL.nil (w0:World) (x:Nat) (out:Nat->Prop) (W:World) (n:Nat):WorksL w0 x out W n [] []:=⟨rfl,λk f v h=>by simp at h⟩
theorem WorksL.app {w0:World} {x:Nat} {out:Nat->Prop} {W:World} {n:Nat} {fs gs:List (Dev->Dev × Int)} {vs us:List Value} (h:WorksL w0 x out W n fs vs) (k:WorksL w0 x out W n gs us):WorksL w0 x out W n (fs++gs) (vs++us):=by
 refine ⟨by rw [gK,gK,h.1,k.1],λj f v h1 h2=>?_⟩;rcases iQ j fs.length with hj | hj
 . rw [ig hj] at h1;rw [ig (by rw [h.1];exact hj)] at h2;exact h.2 j f v h1 h2
 . rw [iO hj] at h1;rw [iO (by rw [h.1];exact hj),h.1] at h2;exact k.2 _ f v h1 h2
theorem WorksL.cons {w0:World} {x:Nat} {out:Nat->Prop} {W:World} {n:Nat} {fs:List (Dev->Dev × Int)} {vs:List Value} {f:Dev->Dev × Int} {v:Value} (h:Works w0 x out W n v f) (k:WorksL w0 x out W n fs vs):WorksL w0 x out W n (f::fs) (v::vs):=by
 refine ⟨by rw [iY,iY,k.1],λj f' v' h1 h2=>?_⟩;cases j with
 | zero=>
   obtain rfl:f=f':=by simpa using h1
   obtain rfl:v=v':=by simpa using h2
   exact h
 | succ j=>exact k.2 j f' v' (by simpa using h1) (by simpa using h2)
theorem SU {w0:World} {x:Nat} {D:Dev} {out:Nat->Prop} {W:World} (hL:Live w0 x D out W) (n:Nat) (fs:List (Dev->Dev × Int)) (vs:List Value) (hW:WorksL w0 x out W n fs vs)
 (i:D.pend.length+n*vs.length<=990000) (hv:vs.length<=990000) (A:Option Addr) (c:Nat) (b:ListAt W W.heap.size 1 A (vs.map λv=>[v])) (hA:ED w0 out A):
 Calls Tryz.prog 118 #[.slice A vs.length c] W λe w'=>e=.returned (.int .i64 (Dh fs D).2)/\Live w0 x (Dh fs D).1 out w'/\Beside w0 out W w'/\(Dh fs D).1.pend.length<=D.pend.length+n*vs.length:=by
 refine (Y5 (λk D' w'=>(k<=vs.length->D'.pend.length<=D.pend.length+n*k)/\Live w0 x D' out w'/\Beside w0 out W w') fs vs hW.1 oo A c (λk D' w' h=>b.beside h.2.2 hA) (λk h1 h2=>?_) D W ⟨λ_=>oo,hL,gW _ _⟩).mono ?_
 . obtain ⟨fn,first,g,hv,hE,hc⟩:=hW.2 k _ _ (fg h1) (fg h2);refine ⟨fn,first,g,hv,hE,λD' w' ⟨hp,a,hB⟩=>?_⟩;have h9:=hp oo;have h8:n*k<=n*vs.length:=Nat.mul_le_mul_left n oo;refine (hc D' w' a hB oo).mono ?_;rintro e l ⟨he,d,f,m⟩;exact ⟨he,λ_=>by rw [Nat.mul_succ];omega,d,hB.trans f⟩
 . rintro e w' ⟨he,j,hj,hp,a,hB⟩;have h8:n*j<=n*vs.length:=Nat.mul_le_mul_left n hj;exact ⟨he,a,hB,by have:=hp hj;omega⟩

end
section
attribute [local go_sem ↓] Go.wp_at_zero Go.wp_at_succ
open Go.RowKit
def BB (e:Int × ByteArray):List Value:=[.int .i64 e.1,.string e.2]
theorem F9:(Tryz.prog.info? 196).map (λi=>(i.zero,i.size,i.bytes))=some (some .nilFunc,1,8):=qk
theorem PutAt.same {W W':World} {lo s:Nat} {i:Int} {raw:ByteArray} {v:Value} (h:PutAt W lo s i raw v) (hk:∀k t cs,lo<=k->t≠196->Blk W k t cs->Blk W' k t cs):PutAt W' lo s i raw v:=by
 obtain ⟨a,b,c,rfl,la,lb,lc,ha,d,hc⟩:=h;exact ⟨a,b,c,rfl,la,lb,lc,hk a _ _ la qd ha,hk b _ _ lb qd d,hk c _ _ lc qd hc⟩
theorem PutAt.form {W:World} {lo s:Nat} {i:Int} {raw:ByteArray} {v:Value} (h:PutAt W lo s i raw v):∃caps,v=.func (.func 182) #[] caps:=by
 obtain ⟨a,b,c,rfl,_⟩:=h;exact ⟨_,rfl⟩
theorem PutAt.grew {W W':World} {lo s:Nat} {i:Int} {raw:ByteArray} {v:Value} (h:PutAt W lo s i raw v) (hg:Grew W W'):PutAt W' lo s i raw v:=h.same λ_ _ _ _ _ hb=>hb.grew hg
theorem PutAt.low {W:World} {lo lo' s:Nat} {i:Int} {raw:ByteArray} {v:Value} (h:PutAt W lo s i raw v) (hl:lo'<=lo):PutAt W lo' s i raw v:=by
 obtain ⟨a,b,c,rfl,la,lb,lc,ha,d,hc⟩:=h;exact ⟨a,b,c,rfl,oo,oo,oo,ha,d,hc⟩
theorem PutAt.own {W W':World} {lo s:Nat} {i:Int} {raw:ByteArray} {v u:Value} {rows:List (List Value)} {base:Nat} (h:PutAt W lo s i raw v) (hown:OwnL W base 196 1 u rows) (hg:W.grownBy W' u.ownBlock):PutAt W' lo s i raw v:=
 h.same λ_ _ _ _ hne hb=>hb.own hg (hown.ne_blk hb (λe=>hne e.symm))
def PutsAt (W:World) (lo s:Nat) (L:List (Int × ByteArray)) (vs:List Value):Prop:=vs.length=L.length/\∀(k:Nat) (e:Int × ByteArray) (v:Value),L[k]? =some e->vs[k]? =some v->PutAt W lo s e.1 e.2 v
theorem PutsAt.grew {W W':World} {lo s:Nat} {L:List (Int × ByteArray)} {vs:List Value} (h:PutsAt W lo s L vs) (hg:Grew W W'):PutsAt W' lo s L vs:=⟨h.1,λk e v h1 h2=>(h.2 k e v h1 h2).grew hg⟩
theorem PutsAt.own {W W':World} {lo s:Nat} {L:List (Int × ByteArray)} {vs:List Value} {u:Value} {rows:List (List Value)} {base:Nat} (h:PutsAt W lo s L vs) (hown:OwnL W base 196 1 u rows) (hg:W.grownBy W' u.ownBlock):PutsAt W' lo s L vs:=⟨h.1,λk e v h1 h2=>(h.2 k e v h1 h2).own hown hg⟩
theorem PutsAt.snoc {W:World} {lo s:Nat} {L:List (Int × ByteArray)} {vs:List Value} {e:Int × ByteArray} {v:Value} (h:PutsAt W lo s L vs) (hp:PutAt W lo s e.1 e.2 v):PutsAt W lo s (L++[e]) (vs++[v]):=by
 refine ⟨by rw [gK,gK,h.1];rfl,λk e' v' h1 h2=>?_⟩;rcases iQ k L.length with hk | hk
 . rw [ig hk] at h1;rw [ig (by rw [h.1];exact hk)] at h2;exact h.2 k e' v' h1 h2
 . rw [iO hk] at h1;rw [iO (by rw [h.1];exact hk),h.1] at h2;have h0:k - L.length=0:=by have:=(gI.1 h1).1;simp at this;omega
   rw [h0] at h1 h2;obtain rfl:e=e':=by simpa using h1
   obtain rfl:v=v':=by simpa using h2
   exact hp
theorem PutsAt.nil (W:World) (lo s:Nat):PutsAt W lo s [] []:=⟨rfl,λk e v h=>by simp at h⟩
theorem OA (l:List Value):∀r∈(l.map λv=>[v]),r.length=1:=by
 intro r hr;obtain ⟨v,_,rfl⟩:=ft.1 hr;rfl
theorem Nr {l:List Value} (h:l.all (·.oneCell')=true):∀r∈(l.map λv=>[v]),r.all (·.oneCell')=true:=by
 intro r hr;obtain ⟨v,hv,rfl⟩:=ft.1 hr;have:=iD.1 h v hv;simp [this]
theorem KT {w:World} {g B:Nat} {t:TypeId} {l:List Value} (h:Blk w g t l.toArray) (hB:g<B):ListAt w B 1 (some ⟨g,0,none⟩) (l.map λv=>[v]):=λ_=>⟨g,0,rfl,hB,λj cs hj i v hi=>by
 rw [fo] at hj
 cases hq:l[j]? with
 | none=>rw [hq] at hj;cases hj
 | some u=>
   rw [hq] at hj
   obtain rfl:[u]=cs:=by simpa using hj
   have h0:i=0:=by have:=(gI.1 hi).1;simp at this;omega
   subst h0
   obtain rfl:u=v:=by simpa using hi
   rw [h.cell]
   simpa using hq⟩
theorem Hq {w:World} {B:Nat} {A:Option Addr} {l:List (Int × ByteArray)} (h:ListAt w B 2 A (l.map BB)) {k:Nat} (hk:k<l.length):
 ∃b off,A=some ⟨b,off,none⟩/\b<B/\w.cell? ⟨b,off+k*2,none⟩=some (.int .i64 l[k].1)/\w.cell? ⟨b,off+k*2+1,none⟩=some (.string l[k].2):=by
 obtain ⟨b,off,e,hb,hc⟩:=h (by rw [fm];omega);have hj:(l.map BB)[k]? =some (BB l[k]):=by rw [fo,fg hk];rfl
 exact ⟨b,off,e,hb,by have:=hc k _ hj 0 _ rfl;rwa [ik] at this,hc k _ hj 1 _ rfl⟩
theorem Beside.wide {w0 W w1 w2:World} {out out':Nat->Prop} (hg:Grew W w1) (h:Beside w0 out' w1 w2) (ho:∀k,out k->out' k):Beside w0 out W w2:=
 (hg.turned _).trans (h.mono λk _ hk=>⟨hk.1,λh9=>hk.2 (ho k h9)⟩)
theorem WorksL.puts {w0:World} {x s m:Nat} {sy ep:Int} {out:Nat->Prop} {W:World} (hb:Blk W s 268 (Cs x sy ep m)) (hs:out s) {lo:Nat} (a:∀k,lo<=k->k<W.heap.size->out k) {L:List (Int × ByteArray)} (b:∀e∈L,e.2.size<=9223372036854775807) {vs:List Value} (h:PutsAt W lo s L vs):
 WorksL w0 x out W 1 (L.map λe D=>BN D sy ep e.1 e.2) vs:=by
 refine ⟨by rw [fm];exact h.1,λk f v h1 h2=>?_⟩;rw [fo] at h1;cases hq:L[k]? with
 | none=>rw [hq] at h1;cases h1
 | some e=>
   rw [hq] at h1;obtain rfl:=Option.some.inj h1;exact Ow hb hs a (b e (ip hq)) (h.2 k e v hq h2)
def T5 (sy ep:Int) (L:List (Int × ByteArray)):List (Dev->Dev × Int):=L.map (λe D=>BN D sy ep e.1 e.2)++[λD=>Ci D sy ep,λD=>BN D sy ep 33 blankR,λD=>Ci D sy ep]
theorem TZ (sy ep:Int) (L:List (Int × ByteArray)) (D:Dev):Dh (T5 sy ep L) D=Bk sy ep (CI L) D:=by
 rw [<-UT];congr 1;unfold T5 CI;rw [fz,iq];rfl
section
variable {w0:World} {x s m:Nat} {sy ep:Int} {D:Dev} {out:Nat->Prop} {W:World} (hL:Live w0 x D out W) (hb:Blk W s 268 (Cs x sy ep m)) (hs:out s) (hp:D.pend.length<=980000)
include hL hb hs hp
theorem ZH (L:List (Int × ByteArray)) (hl:L.length<=1000) (j:∀e∈L,e.2.size<=9223372036854775807) {w2:World} {vs:List Value} {v2:Value} (f:Grew W w2) (h:PutsAt w2 W.heap.size s L vs)
 (i:OwnL w2 W.heap.size 196 1 v2 ((vs++([.func (.func 115) #[ptrV s] #[],.func (.func 143) #[ptrV s] #[],.func (.func 115) #[ptrV s] #[]]:List Value)).map λv=>[v])):
 ∃A2 n2 c2,v2=.slice A2 n2 c2/\Calls Tryz.prog 118 #[.slice A2 n2 c2] w2 λe w'=>e=.returned (.int .i64 (Bk sy ep (CI L) D).2)/\Live w0 x (Bk sy ep (CI L) D).1 out w'/\Beside w0 out W w':=by
 obtain ⟨A2,c2,a,_,_,o⟩:=i.listAt;rw [fm] at a;have l:=h.1;have m:(vs++([.func (.func 115) #[ptrV s] #[],.func (.func 143) #[ptrV s] #[],.func (.func 115) #[ptrV s] #[]]:List Value)).length=L.length+3:=by rw [gK,l];rfl
 refine ⟨A2,_,c2,a,?_⟩;have c:=hb.grew f;have d:(λk=>out k\/(W.heap.size<=k/\k<w2.heap.size)) s:=.inl hs;have n:∀k,W.heap.size<=k->k<w2.heap.size->(λk=>out k\/(W.heap.size<=k/\k<w2.heap.size)) k:=λk h1 h2=>.inr ⟨h1,h2⟩;refine (SU (hL.more f) 1 (T5 sy ep L) _ ((WorksL.puts c d n j h).app (WorksL.cons ((F8 c d).more oo) (WorksL.cons (MG c d) (WorksL.cons ((F8 c d).more oo) (WorksL.nil ..))))) oo oo A2 c2 o (λb off e=>?_)).mono ?_
 . rcases i.form with ⟨_,h0⟩ | ⟨g,cap,e1,h1,h2,_⟩
   . have:=gJ length h0;rw [fm,m,length_nil] at this;omega
   . rw [e1] at a;injection a with a _ _;rw [e] at a;injection a with a;injection a with a _ _;subst a;exact .inr (.inr ⟨h1,h2⟩)
 . rintro e w' ⟨he,h1,h2,_⟩;rw [TZ] at he h1;exact ⟨he,h1.few (λk hk=>.inl hk),Beside.wide f h2 (λk hk=>.inl hk)⟩
theorem KW (L:List (Int × ByteArray)) (hl:L.length<=1000) (q:∀e∈L,e.2.size<=9223372036854775807) (A:Option Addr) (c:Nat) (p:ListAt W W.heap.size 2 A (L.map BB)):
 Calls Tryz.prog 117 #[ptrV s,.slice A L.length c] W λe w'=>e=.returned (.int .i64 (Bk sy ep (CI L) D).2)/\Live w0 x (Bk sy ep (CI L) D).1 out w'/\Beside w0 out W w':=by
 have HL:=zh hL;have HB:=zh hb;have F:=zh p;have HS:=zh hs;have HP:=zh hp;have G:=zh q;have U:=hb.lt;clear hL hb p hs hp q;go_enter Tryz.func117,Tryz.ntmps117;go_wp2_with fail
 go_loopg [5,10] L.length (λgk u i wr=>∃(k:Nat) (vs:List Value),k<=L.length/\gk=L.length - k/\i=.int .i64 k/\OwnL wr W.heap.size 196 1 u (vs.map λv=>[v])/\PutsAt wr W.heap.size s (L.take k) vs/\Grew W wr)
 case atStart=>exact ⟨0,[],oo,oo,rfl,OwnL.nil ..,PutsAt.nil ..,fh _⟩
 case round=>
  obtain ⟨k,vs,hk,B,rfl,C,E,hg⟩:=hrel;have H:=zh B;have l:=zh C;have f:=zh E;have HG:=zh hg;clear B C E hg;by_cases z:k<L.length
  . obtain ⟨b,Y,rfl,Z,c0,c1⟩:=Hq (F.keep (fk _) HG) z;have V:(k:Int)<(L.length:Int):=oo;go_wp2_with fail;refine (JD _ _ _ _).mono ?_;rintro e w1 ⟨v,rfl,o,g1⟩;obtain ⟨d,rfl⟩:=o.form;have m:Grew W w1:=(HG.alloc _).trans g1;have r:=(l.alloc (.cells #[.int .i64 L[k].1,.string L[k].2] 193)).grew g1;have t:=(f.grew ((fh wr).alloc (.cells #[.int .i64 L[k].1,.string L[k].2] 193))).grew g1;have w:=(o.low (by simp;have:=HG.size;omega):PutAt w1 W.heap.size s L[k].1 L[k].2 (.func (.func 182) #[] d));have I:=zh m;have n:=zh r;have J:=zh (t.snoc (e:=L[k]) w);have K:vs.length=k:=by have:=f.1;rw [iX] at this;omega
    have M:W.heap.size<=w1.heap.size:=m.size;clear o g1 m r t w;go_wp2_with (at_builtin;refine BZ rfl _ _ 195 rfl W.heap.size 196 1 8 .nilFunc Tryz.underlying195 F9 rfl qd (w1.alloc (.cells #[.func (.func 182) #[] d] 196)) u5 (vs.map λv=>[v]) [.func (.func 182) #[] d] rfl rfl (n.alloc _) w1.heap.size (by rfl) (fy _ _ _ rfl) rfl (by rw [fm];omega) (by rw [fm];omega) (by simp;omega) k (by rw [fm];omega) ?_);intro g2 X w2 j a _ _;have g:Grew W w2:=(I.alloc _).own a n.row_ge (fk _);have h:=(J.grew ((fh w1).alloc (.cells #[.func (.func 182) #[] d] 196))).own (n.alloc (.cells #[.func (.func 182) #[] d] 196)) a;have N:=zh j;have O:=zh g;have P:=zh h;have Q:=zh (fr z);clear j a g h;go_wp2_with fail
    go_roundg (L.length - (k+1))
    case measure=>rw [H.out];omega
    case rel=>exact ⟨k+1,vs++[.func (.func 182) #[] d],oo,oo,by go_num,by rw [fz];exact N.out,by rw [Q.out];exact P.out,O⟩
  . obtain rfl:k=L.length:=oo;have K:vs.length=L.length:=by have:=f.1;rw [iX] at this;omega
    have y:L.take L.length=L:=gP (fk _);rw [y] at f;clear y;have M:W.heap.size<=wr.heap.size:=HG.size;go_wp2_with (at_builtin;refine CF (by rfl) _ _ 195 rfl W.heap.size 196 1 8 .nilFunc Tryz.underlying195 F9 rfl qd u5 (vs.map λv=>[v]) (([.func (.func 115) #[ptrV s] #[],.func (.func 143) #[ptrV s] #[],.func (.func 115) #[ptrV s] #[]]:List Value).map λv=>[v]) rfl (l.alloc _) (some ⟨wr.heap.size,0,none⟩) 3 3 (by rfl) rfl (OA _) (KT (fy _ _ _ rfl) qs) (Nr (by rfl)) (by rw [fm];omega) (by rw [fm];omega) (by simp;omega) ?_);intro v2 w2 j a _;have g:Grew W w2:=(HG.alloc _).own a l.row_ge (fk _);have h:=(f.grew ((fh wr).alloc (.cells #[.func (.func 115) #[ptrV s] #[],.func (.func 143) #[ptrV s] #[],.func (.func 115) #[ptrV s] #[]] 196))).own (l.alloc (.cells #[.func (.func 115) #[ptrV s] #[],.func (.func 143) #[ptrV s] #[],.func (.func 115) #[ptrV s] #[]] 196)) a;have HD:=zh (ZH HL HB HS HP L hl G g h (by rw [fz];exact j));clear j a h g;obtain ⟨A2,n2,c2,rfl,hd⟩:=HD.out;have R:=zh hd;clear hd;go_wp2_with fail;refine R.mono ?_;rintro e w3 ⟨rfl,S,T⟩;go_wp2_with fail;go_ret;exact ⟨rfl,S,T⟩
end

def LK (r:Raw):Value:=.agg #[.string r.data,.int .u32 (u32 r.ver),.bool r.ok]
def Dm (D:Dev) (i:Int):Raw × Int:=if (GT D i).2=0 then (AJ (GT D i).1 i,0) else (KV,(GT D i).2)
theorem P6 (t:ByteArray) (i:Int):∃er,Di t i=((AJ t i).data,(AJ t i).ver,er)/\(AJ t i).ok=(er==0):=by
 unfold AJ Di;by_cases h:okR t i
 . rw [if_pos h,if_pos h];exact ⟨0,rfl,rfl⟩
 . rw [if_neg h,if_neg h];exact ⟨11,rfl,rfl⟩
theorem Pd (w:World):(zeroValue 308).run Tryz.prog w=.ok (.agg #[.string ⟨#[]⟩,.string ⟨#[]⟩,.int .u32 0,.bool false]) w:=qk
theorem YL (l:List Wr) (i:Nat) (s:ByteArray) (h:FG l i=some s):∃r∈l,r.data=s:=by
 induction l with
 | nil=>cases h
 | cons r l ih=>
   unfold FG at h;cases hq:FG l i with
   | some t=>
     rw [hq] at h;obtain ⟨r',h1,h2⟩:=ih (by rw [hq];exact h);exact ⟨r',gM _ h1,h2⟩
   | none=>
     rw [hq] at h;dsimp only at h;split at h
     . exact ⟨r,gS ..,Option.some.inj h⟩
     . cases h
theorem Fi {D:Dev} (h:D.Ok) {i:Nat} (hi:i<D.st.length):(D.content i).size=140:=by
 unfold Dev.content;cases hq:FG D.pend i with
 | none=>exact Fh h hi
 | some s=>
   obtain ⟨r,h1,h2⟩:=YL _ _ _ hq;show s.size=140;rw [<-h2];exact (h.pend r h1).2.1
theorem U7 {D:Dev} (h:D.Ok) {i:Int} {t:ByteArray} (hr:GT D i=(t,0)):t.size=140:=by
 unfold GT at hr;split at hr
 . injection hr with _ h2;cases h2
 split at hr
 . injection hr with _ h2;cases h2
 . rename_i h1 _;injection hr with h1' _;rw [<-h1'];have:Cl D i=true:=by simpa using h1
   unfold Cl at this;have:=gV this;exact Fi h oo
theorem Live.turn1 {w0 ws ws':World} {x m:Nat} {D:Dev} {out:Nat->Prop} (h:Live w0 x D out ws) (hm:out m) (h0:w0.heap.size<=m) (ht:Turned (λk=>k=m) ws ws'):Live w0 x D out ws':=by
 obtain ⟨q,hx,hd,a,hf,hn⟩:=h;exact ⟨q,hx,hd.kept ht (λk hk h=>(hn m hm).2 (h▸hk)),a.turn ht (λk hk=>by rw [hk];exact h0),hf,λk hk=>⟨fw (hn k hk).1 ht.size,(hn k hk).2⟩⟩
structure Looked (w0:World) (x s m:Nat) (sy ep:Int) (D:Dev) (out:Nat->Prop) (W w':World):Prop where
 live:Live w0 x D out w'
 store:StoreM w' s m x sy ep
 turned:Turned (λk=>k=m) W w'
structure Held (w0:World) (x s m:Nat) (sy ep:Int) (D:Dev) (out:Nat->Prop) (W:World):Prop where
 live:Live w0 x D out W
 store:StoreM W s m x sy ep
 os:out s
 om:out m
 m0:w0.heap.size<=m
theorem Held.grew {w0:World} {x s m:Nat} {sy ep:Int} {D:Dev} {out:Nat->Prop} {W W':World} (h:Held w0 x s m sy ep D out W) (hg:Grew W W'):Held w0 x s m sy ep D out W':=⟨h.live.grew hg,h.store.grew hg,h.os,h.om,h.m0⟩
theorem Held.after {w0:World} {x s m:Nat} {sy ep:Int} {D:Dev} {out:Nat->Prop} {W W':World} (h:Held w0 x s m sy ep D out W) (hl:Looked w0 x s m sy ep D out W W'):Held w0 x s m sy ep D out W':=⟨hl.live,hl.store,h.os,h.om,h.m0⟩
theorem Looked.trans {w0:World} {x s m:Nat} {sy ep:Int} {D:Dev} {out:Nat->Prop} {a b c:World} (h:Looked w0 x s m sy ep D out a b) (k:Looked w0 x s m sy ep D out b c):Looked w0 x s m sy ep D out a c:=⟨k.live,k.store,h.turned.trans k.turned⟩
theorem Held.same {w0:World} {x s m:Nat} {sy ep:Int} {D:Dev} {out:Nat->Prop} {W W':World} (h:Held w0 x s m sy ep D out W) (hg:Grew W W'):Looked w0 x s m sy ep D out W W':=⟨h.live.grew hg,h.store.grew hg,hg.turned _⟩
theorem Looked.grew {w0:World} {x s m:Nat} {sy ep:Int} {D:Dev} {out:Nat->Prop} {a b c:World} (h:Looked w0 x s m sy ep D out a b) (hg:Grew b c):Looked w0 x s m sy ep D out a c:=⟨h.live.grew hg,h.store.grew hg,h.turned.trans (hg.turned _)⟩
def eR (w0:World) (x s m:Nat) (sy ep:Int) (D:Dev) (out:Nat->Prop) (W:World) (r:Raw × Int) (e:Ending) (w':World):Prop:=
 e=.returned (.tuple #[LK r.1,.int .i64 r.2])/\Looked w0 x s m sy ep D out W w'
theorem Mt {w0:World} {x s m:Nat} {sy ep:Int} {D:Dev} {out:Nat->Prop} {W w4 w9:World} {F:Int->Option Value} {i:Int} {t:ByteArray} {g:Nat} (h:Held w0 x s m sy ep D out W) (hF:∀i v,F i=some v->∃t:ByteArray,t.size<=200/\v=Mz t i) (hm:MapI w4 m (upd F i (some (Mz t i))))
 (ht:Turned (λk=>k=m) W w4) (h9:Turned (λk=>k=g) w4 w9) (hg:W.heap.size<=g/\¬g=m/\t.size<=200):Looked w0 x s m sy ep D out W w9:=by
 have hT:Turned (λk=>k=m) W w9:=ht.next h9 (λk hk e=>absurd hk oo);refine ⟨h.live.turn1 h.om h.m0 hT,⟨h.store.blk.turned hT h.store.ne,_,hm.turned h9 (λe=>hg.2.1 e.symm),λj v hj=>?_⟩,hT⟩;by_cases a:j=i
 . subst a;rw [DI] at hj;exact ⟨t,hg.2.2,(Option.some.inj hj).symm⟩
 . rw [DK _ _ a] at hj;exact hF j v hj
section
variable {w0:World} {x s m:Nat} {sy ep:Int} {D:Dev} {out:Nat->Prop} {W:World} (h:Held w0 x s m sy ep D out W)
include h
theorem WZ (i:Int) (hi:okI i):Calls Tryz.prog 178 #[ptrV s,.int .i64 i] W (eR w0 x s m sy ep D out W (Dm D i)):=by
 obtain ⟨⟨t,er⟩,hr⟩:∃r,GT D i=r:=⟨_,rfl⟩;have hb:=h.store.blk;unfold Cs at hb;have s0:=hb.cell 0;have s3:=hb.cell 3;have Y:=hb.lt;have N:Blk (W.alloc (.cells #[.string ⟨#[]⟩,.int .u32 0,.bool false] 178)) W.heap.size 178 #[.string ⟨#[]⟩,.int .u32 0,.bool false]:=fy W _ _ rfl;have HR:=zh (λw1 (hg:Grew W w1)=>Pn (h.live.grew hg) i t er hr);by_cases h0:er=0
 . subst h0;have T:=U7 h.live.ok hr;have Z:t.size<=140:=oo;have A:Hid (Dm D i=(AJ t i,0)):=zh (by unfold Dm;rw [hr];exact if_pos rfl);have HH:=zh h;obtain ⟨F,hF,R⟩:=h.store.seen;have H:=zh R;have G:=zh hF;obtain ⟨kl,l⟩:=E8 i hi;have O:=zh l;have d:=hF.lookup_ok Al Bc Tryz.underlying266 (Pd _) i l;have z:=zh (λw1 (hg:Grew W w1)=>(hF.grew hg).lookup_ok Al Bc Tryz.underlying266 (Pd _) i l);obtain ⟨eu,hu,S⟩:=P6 t i;have HU:=zh (λw1=>M0 t i w1 oo hi _ _ _ hu);have P:=zh S;have Q:=zh h.store.blk;clear d hF R l hu S h hr T;cases y:F i with
   | none=>
      rw [y] at z;clear y;have d:=z.out (W.alloc (.cells #[.string ⟨#[]⟩,.int .u32 0,.bool false] 178)) ((fh W).alloc _);simp only [Option.getD_none,Option.isSome_none] at d;go_enter Tryz.func178,Tryz.ntmps178;go_wp2_with fail;refine (HR _ ((fh W).alloc _)).mono ?_;rintro e w1 ⟨rfl,rfl⟩;go_wp2_with fail;refine (HU _).mono ?_;rintro e w2 ⟨rfl,g2⟩;have p:Grew W w2:=(((fh W).alloc _).alloc _).trans g2;have f:=Q.grew p;have a:=(N.alloc _).grew g2;have p0:=f.cell 0;have p3:=f.cell 3;have pl:=f.lt;have z0:=a.cell 0;have z1:=a.cell 1;have z2:=a.cell 2;have f0:=a.frozen 0;have f1:=a.frozen 1;have f2:=a.frozen 2;have zl:=a.lt;unfold Cs at p0 p3;have q:=zh p;have I:=zh f;have J:=zh a;clear p f a g2 d;go_wp2_with fail;rw [show (eu==0)=(AJ t i).ok from P.out.symm];have g:Grew w2 (w2.alloc (.cells #[.string (AJ t i).data,.int .u32 (u32 (AJ t i).ver),.bool (AJ t i).ok] 178)).drew:=((fh w2).alloc _).drew;have c:Blk (w2.alloc (.cells #[.string (AJ t i).data,.int .u32 (u32 (AJ t i).ver),.bool (AJ t i).ok] 178)).drew w2.heap.size 178 #[.string (AJ t i).data,.int .u32 (u32 (AJ t i).ver),.bool (AJ t i).ok]:=(fy w2 _ _ rfl).drew;have n:=I.grew g;have u:=J.grew g;have v:=(G.grew q).grew g;have w:=q.out.trans g;have U:=G.out.lt;have V:=q.size;obtain ⟨kl,l⟩:∃kl,keyOf Tryz.prog 3 (intV i)=some kl:=⟨_,O⟩;refine AB [8] (λw':World=>w'.cell? ⟨s,3,none⟩=some (.map (some m))/\s<w'.heap.size/\w'.cell? ⟨w2.heap.size,0,none⟩=some (.string (AJ t i).data)/\w'.cell? ⟨w2.heap.size,1,none⟩=some (.int .u32 (u32 (AJ t i).ver))/\w'.cell? ⟨w2.heap.size,2,none⟩=some (.bool (AJ t i).ok)/\w2.heap.size<w'.heap.size) qk ?_;have hS:=(show (λw':World=>w'.cell? ⟨s,3,none⟩=some (.map (some m))/\s<w'.heap.size/\w'.cell? ⟨w2.heap.size,0,none⟩=some (.string (AJ t i).data)/\w'.cell? ⟨w2.heap.size,1,none⟩=some (.int .u32 (u32 (AJ t i).ver))/\w'.cell? ⟨w2.heap.size,2,none⟩=some (.bool (AJ t i).ok)/\w2.heap.size<w'.heap.size) (w2.alloc (.cells #[.string (AJ t i).data,.int .u32 (u32 (AJ t i).ver),.bool (AJ t i).ok] 178)).drew from ⟨n.cell 3,n.lt,c.cell 0,c.cell 1,c.cell 2,c.lt⟩);clear p0 p3 pl z0 z1 z2 f0 f1 f2 zl;refine tQ 0 56 ?_;refine tT 1 (some 57) hS ?_;refine tQ 2 58 ?_;refine tT 3 (some 59) hS ?_;refine tQ 4 60 ?_;refine tQ 5 61 ?_;refine tT 6 (some 62) hS ?_;refine tQ 7 63 ?_;clear hS;obtain ⟨w3,E⟩:∃w3,w3=(w2.alloc (.cells #[.string (AJ t i).data,.int .u32 (u32 (AJ t i).ver),.bool (AJ t i).ok] 178)).drew:=⟨_,rfl⟩;rw [<-E] at c n u v w ⊢;clear E g;refine tO 8 λK' hK=>?_;refine D7 (.tmp 59) (.tmp 60) (.tmp 63) 266 rfl 308 Al Bc Tryz.underlying266 rfl v i l (Mz t i) rfl rfl ?_;intro w4 C o;refine hK.out _ _ (.inl (by rfl)) ?_;clear hK l;refine AA qk ?_ _;have j:=c.turned o oo;have b:=u.turned o oo;have p0:=j.cell 0;have p1:=j.cell 1;have p2:=j.cell 2;have pl:=j.lt;have z0:=b.cell 0;have z1:=b.cell 1;have z2:=b.cell 2;have f0:=b.frozen 0;have f1:=b.frozen 1;have f2:=b.frozen 2;have zl:=b.lt;have B:Turned (λk=>k=m) W w4:=(w.turned _).trans o;have K:=zh B;have L:=zh C;have X:¬W.heap.size=m:=oo;clear C o B j b v n u w c;go_wp2_with fail;refine f7 (by first | (simp [*,results,Tryz.results178,go_sem];rfl) | simp [*,results,Tryz.results178,go_sem]) rfl ?_;rw [A.out];refine ⟨rfl,?_⟩;have hT:∀w9,Turned (λk=>k=W.heap.size) w4 w9->Looked w0 x s m sy ep D out W w9:=λw9 h9=>Mt HH H L K h9 oo;exact hT _ (gT)
   | some mv=>
     obtain ⟨t',ae,rfl⟩:=H.out i mv y;by_cases M:t'=t
     . subst M;rw [y] at z;clear y;have d:=z.out (W.alloc (.cells #[.string ⟨#[]⟩,.int .u32 0,.bool false] 178)) ((fh W).alloc _);simp only [it,Option.isSome_some] at d;unfold Mz at d;go_enter Tryz.func178,Tryz.ntmps178;go_wp2_with fail;refine (HR _ ((fh W).alloc _)).mono ?_;rintro e w1 ⟨rfl,rfl⟩;go_wp2_with fail;refine f7 (by first | (simp [*,results,Tryz.results178,go_sem];rfl) | simp [*,results,Tryz.results178,go_sem]) rfl ?_;rw [A.out];exact ⟨rfl,HH.same (((fh W).alloc _).alloc _)⟩
     . have aa:=My M;rw [y] at z;clear y M;have d:=z.out (W.alloc (.cells #[.string ⟨#[]⟩,.int .u32 0,.bool false] 178)) ((fh W).alloc _);simp only [it,Option.isSome_some] at d;unfold Mz at d;go_enter Tryz.func178,Tryz.ntmps178;go_wp2_with fail;refine (HR _ ((fh W).alloc _)).mono ?_;rintro e w1 ⟨rfl,rfl⟩;go_wp2_with fail;refine (HU _).mono ?_;rintro e w2 ⟨rfl,g2⟩;have p:Grew W w2:=(((fh W).alloc _).alloc _).trans g2;have f:=Q.grew p;have a:=(N.alloc _).grew g2;have p0:=f.cell 0;have p3:=f.cell 3;have pl:=f.lt;have z0:=a.cell 0;have z1:=a.cell 1;have z2:=a.cell 2;have f0:=a.frozen 0;have f1:=a.frozen 1;have f2:=a.frozen 2;have zl:=a.lt;unfold Cs at p0 p3;have q:=zh p;have I:=zh f;have J:=zh a;clear p f a g2 d;go_wp2_with fail;rw [show (eu==0)=(AJ t i).ok from P.out.symm];have g:Grew w2 (w2.alloc (.cells #[.string (AJ t i).data,.int .u32 (u32 (AJ t i).ver),.bool (AJ t i).ok] 178)).drew:=((fh w2).alloc _).drew;have c:Blk (w2.alloc (.cells #[.string (AJ t i).data,.int .u32 (u32 (AJ t i).ver),.bool (AJ t i).ok] 178)).drew w2.heap.size 178 #[.string (AJ t i).data,.int .u32 (u32 (AJ t i).ver),.bool (AJ t i).ok]:=(fy w2 _ _ rfl).drew;have n:=I.grew g;have u:=J.grew g;have v:=(G.grew q).grew g;have w:=q.out.trans g;have U:=G.out.lt;have V:=q.size;obtain ⟨kl,l⟩:∃kl,keyOf Tryz.prog 3 (intV i)=some kl:=⟨_,O⟩;refine AB [8] (λw':World=>w'.cell? ⟨s,3,none⟩=some (.map (some m))/\s<w'.heap.size/\w'.cell? ⟨w2.heap.size,0,none⟩=some (.string (AJ t i).data)/\w'.cell? ⟨w2.heap.size,1,none⟩=some (.int .u32 (u32 (AJ t i).ver))/\w'.cell? ⟨w2.heap.size,2,none⟩=some (.bool (AJ t i).ok)/\w2.heap.size<w'.heap.size) qk ?_;have hS:=(show (λw':World=>w'.cell? ⟨s,3,none⟩=some (.map (some m))/\s<w'.heap.size/\w'.cell? ⟨w2.heap.size,0,none⟩=some (.string (AJ t i).data)/\w'.cell? ⟨w2.heap.size,1,none⟩=some (.int .u32 (u32 (AJ t i).ver))/\w'.cell? ⟨w2.heap.size,2,none⟩=some (.bool (AJ t i).ok)/\w2.heap.size<w'.heap.size) (w2.alloc (.cells #[.string (AJ t i).data,.int .u32 (u32 (AJ t i).ver),.bool (AJ t i).ok] 178)).drew from ⟨n.cell 3,n.lt,c.cell 0,c.cell 1,c.cell 2,c.lt⟩);clear p0 p3 pl z0 z1 z2 f0 f1 f2 zl;refine tQ 0 56 ?_;refine tT 1 (some 57) hS ?_;refine tQ 2 58 ?_;refine tT 3 (some 59) hS ?_;refine tQ 4 60 ?_;refine tQ 5 61 ?_;refine tT 6 (some 62) hS ?_;refine tQ 7 63 ?_;clear hS;obtain ⟨w3,E⟩:∃w3,w3=(w2.alloc (.cells #[.string (AJ t i).data,.int .u32 (u32 (AJ t i).ver),.bool (AJ t i).ok] 178)).drew:=⟨_,rfl⟩;rw [<-E] at c n u v w ⊢;clear E g;refine tO 8 λK' hK=>?_;refine D7 (.tmp 59) (.tmp 60) (.tmp 63) 266 rfl 308 Al Bc Tryz.underlying266 rfl v i l (Mz t i) rfl rfl ?_;intro w4 C o;refine hK.out _ _ (.inl (by rfl)) ?_;clear hK l;refine AA qk ?_ _;have j:=c.turned o oo;have b:=u.turned o oo;have p0:=j.cell 0;have p1:=j.cell 1;have p2:=j.cell 2;have pl:=j.lt;have z0:=b.cell 0;have z1:=b.cell 1;have z2:=b.cell 2;have f0:=b.frozen 0;have f1:=b.frozen 1;have f2:=b.frozen 2;have zl:=b.lt;have B:Turned (λk=>k=m) W w4:=(w.turned _).trans o;have K:=zh B;have L:=zh C;have X:¬W.heap.size=m:=oo;clear C o B j b v n u w c;go_wp2_with fail;refine f7 (by first | (simp [*,results,Tryz.results178,go_sem];rfl) | simp [*,results,Tryz.results178,go_sem]) rfl ?_;rw [A.out];refine ⟨rfl,?_⟩;have hT:∀w9,Turned (λk=>k=W.heap.size) w4 w9->Looked w0 x s m sy ep D out W w9:=λw9 h9=>Mt HH H L K h9 oo;exact hT _ (gT)
 . have ad:(er != 0)=true:=by rw [gu];exact h0
   have A:Hid (Dm D i=(KV,er)):=zh (by unfold Dm;rw [hr];exact if_neg h0);have HH:=zh h;clear h h0 hr hb;go_enter Tryz.func178,Tryz.ntmps178;go_wp2_with fail;refine (HR _ ((fh W).alloc _)).mono ?_;rintro e w1 ⟨rfl,rfl⟩;go_wp2_with fail;refine f7 (by first | (simp [*,results,Tryz.results178,go_sem];rfl) | simp [*,results,Tryz.results178,go_sem]) rfl ?_;rw [A.out];exact ⟨rfl,HH.same ((fh W).alloc _)⟩
end

def OK (D:Dev):Raw × Int:=((Dm D 0).1,if (Dm D 0).2=0 then (if (Dm D 0).1.ok=true then 0 else 11) else (Dm D 0).2)
def C1 (D:Dev) (i:Int) (v:BitVec 32):Raw × Int:=
 if (Dm D i).2≠0 then (KV,(Dm D i).2) else if (Dm D i).1.ok=false then (KV,11) else if (Dm D i).1.ver≠v then (KV,12) else ((Dm D i).1,0)
theorem CP {w0:World} {x s m:Nat} {sy ep:Int} {D:Dev} {out:Nat->Prop} {W w1 w9:World} (h:Held w0 x s m sy ep D out W) (hl:Looked w0 x s m sy ep D out W w1) (ht:Turned (λk=>W.heap.size<=k) w1 w9):Looked w0 x s m sy ep D out W w9:=by
 have hT:Turned (λk=>k=m) W w9:=hl.turned.next ht (λk hk e=>absurd hk oo);have a:=h.store.lt;exact ⟨h.live.turn1 h.om h.m0 hT,hl.store.kept ht oo oo,hT⟩
theorem Blk.looked {w0:World} {x s m:Nat} {sy ep:Int} {D:Dev} {out:Nat->Prop} {w1 w2:World} {g:Nat} {t:TypeId} {cs:Array Value} (hb:Blk w1 g t cs) (hl:Looked w0 x s m sy ep D out w1 w2) (hg:¬g=m):Blk w2 g t cs:=hb.turned hl.turned hg
section
variable {w0:World} {x s m:Nat} {sy ep:Int} {D:Dev} {out:Nat->Prop} {W:World} (h:Held w0 x s m sy ep D out W)
include h
theorem E7 (i:Int) (hi:okI i) (d:ByteArray) (v:BitVec 32) (k:Bool) (er:Int) (hr:Dm D i=(⟨d,v,k⟩,er)):Calls Tryz.prog 178 #[ptrV s,.int .i64 i] W λe w'=>e=.returned (.tuple #[.agg #[.string d,.int .u32 (u32 v),.bool k],.int .i64 er])/\Looked w0 x s m sy ep D out W w':=by
 have:=WZ h i hi;rw [hr] at this;exact this
theorem P2:Calls Tryz.prog 104 #[ptrV s] W (eR w0 x s m sy ep D out W (OK D)):=by
 obtain ⟨⟨⟨d,v,k⟩,er⟩,hr⟩:∃r,Dm D 0=r:=⟨_,rfl⟩;have hz:Blk (W.alloc (.cells #[.string ⟨#[]⟩,.int .u32 0,.bool false] 178)) W.heap.size 178 #[.string ⟨#[]⟩,.int .u32 0,.bool false]:=fy W _ _ rfl;have f:=zh (λw1 (hg:Grew W w1)=>E7 (h.grew hg) 0 (by unfold okI;omega) d v k er hr);have g:=h.store.lt.2;have HH:=zh h;have HZ:=zh hz;clear h hz;by_cases h0:er=0
 . subst h0;cases k with
   | true=>
     have HT:Hid (OK D=(⟨d,v,true⟩,0)):=zh (by unfold OK;rw [hr];rfl);clear hr;go_enter Tryz.func104,Tryz.ntmps104;go_wp2_with fail;refine (f _ ((fh W).alloc _)).mono ?_;rintro e w1 ⟨rfl,b⟩;have a:=HZ.looked b oo;have z0:=a.cell 0;have z1:=a.cell 1;have z2:=a.cell 2;have f0:=a.frozen 0;have f1:=a.frozen 1;have f2:=a.frozen 2;have zl:=a.lt;have c:=zh ((HH.same ((fh W).alloc (.cells #[.string ⟨#[]⟩,.int .u32 0,.bool false] 178))).trans b);clear b a;go_wp2_with fail;refine f7 (by first | (simp [*,results,Tryz.results104,go_sem];rfl) | simp [*,results,Tryz.results104,go_sem]) rfl ?_;rw [HT.out];exact ⟨rfl,CP HH c (gT)⟩
   | false=>
     have HT:Hid (OK D=(⟨d,v,false⟩,11)):=zh (by unfold OK;rw [hr];rfl);clear hr;go_enter Tryz.func104,Tryz.ntmps104;go_wp2_with fail;refine (f _ ((fh W).alloc _)).mono ?_;rintro e w1 ⟨rfl,b⟩;have a:=HZ.looked b oo;have z0:=a.cell 0;have z1:=a.cell 1;have z2:=a.cell 2;have f0:=a.frozen 0;have f1:=a.frozen 1;have f2:=a.frozen 2;have zl:=a.lt;have c:=zh ((HH.same ((fh W).alloc (.cells #[.string ⟨#[]⟩,.int .u32 0,.bool false] 178))).trans b);clear b a;go_wp2_with fail;refine f7 (by first | (simp [*,results,Tryz.results104,go_sem];rfl) | simp [*,results,Tryz.results104,go_sem]) rfl ?_;rw [HT.out];exact ⟨rfl,CP HH c (gT)⟩
 . have i:(er==0)=false:=by rw [gF];exact h0
   have HT:Hid (OK D=(⟨d,v,k⟩,er)):=zh (by unfold OK;rw [hr];show (_,if er=0 then _ else er)=_;rw [if_neg h0]);clear hr h0;go_enter Tryz.func104,Tryz.ntmps104;go_wp2_with fail;refine (f _ ((fh W).alloc _)).mono ?_;rintro e w1 ⟨rfl,b⟩;have a:=HZ.looked b oo;have z0:=a.cell 0;have z1:=a.cell 1;have z2:=a.cell 2;have f0:=a.frozen 0;have f1:=a.frozen 1;have f2:=a.frozen 2;have zl:=a.lt;have c:=zh ((HH.same ((fh W).alloc (.cells #[.string ⟨#[]⟩,.int .u32 0,.bool false] 178))).trans b);clear b a;go_wp2_with fail;refine f7 (by first | (simp [*,results,Tryz.results104,go_sem];rfl) | simp [*,results,Tryz.results104,go_sem]) rfl ?_;rw [HT.out];exact ⟨rfl,CP HH c (gT)⟩
theorem Iv (i:Int) (hi:okI i) (ver:BitVec 32):Calls Tryz.prog 109 #[ptrV s,.int .i64 i,.int .u32 (u32 ver)] W (eR w0 x s m sy ep D out W (C1 D i ver)):=by
 obtain ⟨⟨⟨d,v,k⟩,er⟩,hr⟩:∃r,Dm D i=r:=⟨_,rfl⟩;have hz:Blk (W.alloc (.cells #[.string ⟨#[]⟩,.int .u32 0,.bool false] 178)) W.heap.size 178 #[.string ⟨#[]⟩,.int .u32 0,.bool false]:=fy W _ _ rfl;have f:=zh (λw1 (hg:Grew W w1)=>E7 (h.grew hg) i hi d v k er hr);have g:=h.store.lt.2;have HH:=zh h;have HZ:=zh hz;clear h hz;by_cases h0:er=0
 . subst h0;cases k with
   | true=>
     by_cases hv:v=ver
     . have hb:(u32 v != u32 ver)=false:=by rw [hv];simp
       have HT:Hid (C1 D i ver=(⟨d,v,true⟩,0)):=zh (by unfold C1;rw [hr,if_neg qs,if_neg qs,if_neg (by simpa using hv)]);clear hr hv;go_enter Tryz.func109,Tryz.ntmps109;go_wp2_with fail;refine (f _ ((fh W).alloc _)).mono ?_;rintro e w1 ⟨rfl,b⟩;have a:=HZ.looked b oo;have z0:=a.cell 0;have z1:=a.cell 1;have z2:=a.cell 2;have f0:=a.frozen 0;have f1:=a.frozen 1;have f2:=a.frozen 2;have zl:=a.lt;have c:=zh ((HH.same ((fh W).alloc (.cells #[.string ⟨#[]⟩,.int .u32 0,.bool false] 178))).trans b);clear b a;go_wp2_with fail;refine f7 (by first | (simp [*,results,Tryz.results109,go_sem];rfl) | simp [*,results,Tryz.results109,go_sem]) rfl ?_;rw [HT.out];exact ⟨rfl,CP HH c (gT)⟩
     . have hb:(u32 v != u32 ver)=true:=by rw [gu];exact λe=>hv (He e)
       have HT:Hid (C1 D i ver=(KV,12)):=zh (by unfold C1;rw [hr,if_neg qs,if_neg qs,if_pos (by simpa using hv)]);clear hr hv;go_enter Tryz.func109,Tryz.ntmps109;go_wp2_with fail;refine (f _ ((fh W).alloc _)).mono ?_;rintro e w1 ⟨rfl,b⟩;have a:=HZ.looked b oo;have z0:=a.cell 0;have z1:=a.cell 1;have z2:=a.cell 2;have f0:=a.frozen 0;have f1:=a.frozen 1;have f2:=a.frozen 2;have zl:=a.lt;have c:=zh ((HH.same ((fh W).alloc (.cells #[.string ⟨#[]⟩,.int .u32 0,.bool false] 178))).trans b);clear b a;go_wp2_with fail;refine f7 (by first | (simp [*,results,Tryz.results109,go_sem];rfl) | simp [*,results,Tryz.results109,go_sem]) rfl ?_;rw [HT.out];exact ⟨rfl,CP HH c (gT)⟩
   | false=>
     have HT:Hid (C1 D i ver=(KV,11)):=zh (by unfold C1;rw [hr,if_neg qs,if_pos rfl]);clear hr;go_enter Tryz.func109,Tryz.ntmps109;go_wp2_with fail;refine (f _ ((fh W).alloc _)).mono ?_;rintro e w1 ⟨rfl,b⟩;have a:=HZ.looked b oo;have z0:=a.cell 0;have z1:=a.cell 1;have z2:=a.cell 2;have f0:=a.frozen 0;have f1:=a.frozen 1;have f2:=a.frozen 2;have zl:=a.lt;have c:=zh ((HH.same ((fh W).alloc (.cells #[.string ⟨#[]⟩,.int .u32 0,.bool false] 178))).trans b);clear b a;go_wp2_with fail;refine f7 (by first | (simp [*,results,Tryz.results109,go_sem];rfl) | simp [*,results,Tryz.results109,go_sem]) rfl ?_;rw [HT.out];exact ⟨rfl,CP HH c (gT)⟩
 . have j:(er != 0)=true:=by rw [gu];exact h0
   have HT:Hid (C1 D i ver=(KV,er)):=zh (by unfold C1;rw [hr,if_pos h0]);clear hr h0;go_enter Tryz.func109,Tryz.ntmps109;go_wp2_with fail;refine (f _ ((fh W).alloc _)).mono ?_;rintro e w1 ⟨rfl,b⟩;have a:=HZ.looked b oo;have z0:=a.cell 0;have z1:=a.cell 1;have z2:=a.cell 2;have f0:=a.frozen 0;have f1:=a.frozen 1;have f2:=a.frozen 2;have zl:=a.lt;have c:=zh ((HH.same ((fh W).alloc (.cells #[.string ⟨#[]⟩,.int .u32 0,.bool false] 178))).trans b);clear b a;go_wp2_with fail;refine f7 (by first | (simp [*,results,Tryz.results109,go_sem];rfl) | simp [*,results,Tryz.results109,go_sem]) rfl ?_;rw [HT.out];exact ⟨rfl,CP HH c (gT)⟩
end

section
variable {w0:World} {x:Nat} {D:Dev} {out:Nat->Prop} {W:World} (h:Live w0 x D out W)
include h
theorem Q1 (sy ep:Int) (h1:132<=D.st.length/\D.st.length<=1155) (hs:1<=sy/\sy<=4) (he:0<=ep/\ep<=1099511627776):
 Calls Tryz.prog 141 #[ptrV x,.agg #[.int .i64 sy,.int .i64 ep]] W λe w'=>e=.returned (.bool true)/\Grew W w':=by
 have HS:=zh (λw1 (hg:Grew W w1)=>DD (h.grew hg));obtain ⟨n,hn⟩:∃n:Nat,D.st.length - 131=n:=⟨_,rfl⟩;have a:(D.st.length:Int) - 131=(n:Int):=oo;have n1:(n:Int)>=1:=oo;have n2:(n:Int)<=1024:=oo;have s1:sy>=1:=hs.1;have s2:sy<=4:=hs.2;have e1:ep>=0:=he.1;have e2:ep<=1099511627776:=he.2;have hL:(D.st.length:Int)<=1155:=oo;clear h h1 hn hs he;go_enter Tryz.func141,Tryz.ntmps141;go_wp2_with fail;refine (HS _ ((fh W).alloc _)).mono ?_;rintro e w1 ⟨rfl,rfl⟩;go_wp2_with fail;go_ret;exact ⟨rfl,gG⟩
theorem Kc (sy ep:Int):Calls Tryz.prog 142 #[ptrV x,.agg #[.int .i64 sy,.int .i64 ep]] W λe w'=>∃s m,e=.returned (ptrV s)/\StoreM w' s m x sy ep/\Grew W w'/\W.heap.size<=s/\W.heap.size<=m:=by
 have a:=@run_makeMap Tryz.prog;have HG:Hid (Grew W (((W.alloc (.cells #[.int .i64 sy,.int .i64 ep] 37)).alloc (.map #[] 0)).alloc (.cells (Cs x sy ep (W.heap.size+1)) 268))):=zh ((((fh W).alloc _).alloc _).alloc _);have HB:Hid (Blk (((W.alloc (.cells #[.int .i64 sy,.int .i64 ep] 37)).alloc (.map #[] 0)).alloc (.cells (Cs x sy ep (W.heap.size+1)) 268)) (W.heap.size+1+1) 268 (Cs x sy ep (W.heap.size+1))):=zh (fy _ _ _ qs);have HM:Hid (MapI (((W.alloc (.cells #[.int .i64 sy,.int .i64 ep] 37)).alloc (.map #[] 0)).alloc (.cells (Cs x sy ep (W.heap.size+1)) 268)) (W.heap.size+1) (λ_=>none)):=zh ((MapIs.made _ qs).alloc _);clear h;go_enter Tryz.func142,Tryz.ntmps142;go_wp2_with fail;go_ret;exact ⟨_,_,rfl,⟨HB,_,HM,λi v h=>by cases h⟩,HG.out,oo,oo⟩
end
theorem KM {w0:World} {x s m:Nat} {sy ep:Int} {D:Dev} {out:Nat->Prop} {W:World} (h:Held w0 x s m sy ep D out W):Calls Tryz.prog 151 #[ptrV s] W λe w'=>e=.returned (.int .i64 ((D.st.length:Int) - 131))/\Grew W w':=by
 have HS:=zh (λw1 (hg:Grew W w1)=>DD (h.live.grew hg));have hb:=h.store.blk;unfold Cs at hb;have s0:=hb.cell 0;have sl:=hb.lt;have hl:=h.live.ok.lim;have a:(D.st.length:Int)<=1155:=oo;clear h hb hl;go_enter Tryz.func151,Tryz.ntmps151;go_wp2_with fail;refine (HS _ (fh W)).mono ?_;rintro e w1 ⟨rfl,rfl⟩;go_wp2_with fail;go_ret;exact ⟨rfl,gG⟩

theorem RU {D:Dev} (hf:D.failed=false) (i:Nat) (hi:i<D.st.length):GT D (i:Int)=(D.content i,0):=by
 unfold GT;rw [if_neg (by unfold Cl;simp;omega),if_neg (by rw [hf];simp)];rfl
theorem QQ {D:Dev} (hf:D.failed=true) (i:Nat) (hi:i<D.st.length):GT D (i:Int)=(emp,10):=by
 unfold GT;rw [if_neg (by unfold Cl;simp;omega),if_pos hf]
theorem Dx {D:Dev} (hf:D.failed=false) (i:Nat) (hi:i<D.st.length):Dm D (i:Int)=(AJ (D.content i) (i:Int),0):=by
 unfold Dm;rw [RU hf i hi];rfl
theorem QT {D:Dev} (hf:D.failed=true) (i:Nat) (hi:i<D.st.length):Dm D (i:Int)=(KV,10):=by
 unfold Dm;rw [QQ hf i hi];rfl
theorem Cr {t:ByteArray} {i:Int} (h:(AJ t i).ok=true):(AJ t i).data.size=128:=by
 unfold AJ at h ⊢;by_cases ho:okR t i
 . rw [if_pos ho];show (t.extract 0 128).size=128;rw [gO,ho.1];rfl
 . rw [if_neg ho] at h;cases h
theorem LD (l:List ByteArray) (s:ByteArray):Dp (l++[s])=Dp l++s:=by
 induction l with
 | nil=>show s++(⟨#[]⟩:ByteArray)=(⟨#[]⟩:ByteArray)++s;rw [show (⟨#[]⟩:ByteArray)=ByteArray.empty from rfl,jA,jV]
 | cons x l ih=>show x++Dp (l++[s])=(x++Dp l)++s;rw [ih,im]
theorem Lc (l:List ByteArray) (h:∀s∈l,s.size=140):(Dp l).size=140*l.length:=by
 induction l with
 | nil=>rfl
 | cons x l ih=>show (x++Dp l).size=_;rw [f8,ih (λs hs=>h s (gM _ hs)),h x (gS ..),iY];omega
theorem Iu (D:Dev) (k:Nat):CO D (k+1)=CO D k++[Fb D k]:=by
 unfold CO;rw [jW,fz];rfl
theorem IO {D:Dev} (h:D.Ok) (hl:131<=D.st.length) (k:Nat) (hk:k<=97):(Dp (CO D k)).size=140*k:=by
 rw [Lc _ (λs hs=>?_)]
 . unfold CO;rw [fm,io]
 . obtain ⟨j,hj,rfl⟩:=ft.1 hs;have:=gU.1 hj;exact Fi h oo
def Hb (D:Dev) (k:Nat):List (Int × ByteArray):=(CO D k).map λs=>(Eh s,s)
theorem NF (D:Dev) (k:Nat):Hb D (k+1)=Hb D k++[(Eh (Fb D k),Fb D k)]:=by
 unfold Hb;rw [Iu,fz];rfl
theorem PU (D:Dev) (k:Nat):(Hb D k).length=k:=by unfold Hb CO;rw [fm,fm,io]
theorem MQ {D:Dev} (h:FV D=false):AM D=[]:=by unfold AM D6;rw [h];rfl
theorem MX {D:Dev} (k:Nat) (hk:k<EW D) (h:FZ D.st.length (Be D).ver (Fb D k)=false):AM D=[]:=by
 have:Js D=false:=by
  unfold Js;rw [List.all_eq_false];exact ⟨Fb D k,ft.2 ⟨k,gU.2 hk,rfl⟩,by rw [h];simp⟩
 unfold AM D6;rw [this];simp
theorem dw {D:Dev} (h:U5 D=false):AM D=[]:=by unfold AM D6;rw [h];simp
theorem dX {D:Dev} (h:R8 D=false):AM D=[]:=by unfold AM D6;rw [h];simp
theorem bZ {D:Dev} (h1:FV D=true) (h2:∀k,k<EW D->FZ D.st.length (Be D).ver (Fb D k)=true) (h3:U5 D=true) (h4:R8 D=true):AM D=Hb D (EW D):=by
 have:Js D=true:=by
  unfold Js;rw [iD];intro s hs;obtain ⟨k,hk,rfl⟩:=ft.1 hs;exact h2 k (gU.1 hk)
 unfold AM D6;rw [h1,this,h3,h4];rfl
theorem G8 (k g:Nat) (hk:k<3) (d:ByteArray) (v:Int) (b:Bool) (hd:d.size=128) (W:World) (hb:Blk W g 178 #[.string d,.int .u32 v,.bool b]):
 Calls Tryz.prog 216 #[.int .i64 (k:Int),ptrV g] W λe w'=>e=.returned (.int .u32 (u32 (fld d k)))/\Grew W w':=by
 have HN:=zh (λ(w:World)=>Dl (d.extract (4*k) (4*k+4)) (by rw [gO];omega) w);have a:128<=d.size/\d.size<=128:=oo;have c0:=hb.cell 0;have hl:=hb.lt;clear hb hd;go_enter Tryz.func216,Tryz.ntmps216;go_wp2_with fail;refine (HN _).mono ?_;rintro e w1 ⟨rfl,g1⟩;go_wp2_with fail;go_ret;exact ⟨rfl,g1⟩

theorem KU:(Tryz.prog.info? 193).map (λi=>(i.zero,i.size,i.bytes))=some (some (.agg #[.int .i64 0,.string ⟨#[]⟩]),2,24):=qk
def SB (w0:World) (x s m:Nat) (sy ep:Int) (D:Dev) (out:Nat->Prop) (W:World) (r:List (Int × ByteArray) × Int) (e:Ending) (w':World):Prop:=
 ∃v,e=.returned (.tuple #[v,.int .i64 r.2])/\OwnL w' W.heap.size 193 2 v (r.1.map BB)/\Looked w0 x s m sy ep D out W w'
section
variable {w0:World} {x s m:Nat} {sy ep:Int} {D:Dev} {out:Nat->Prop} {W:World} (h:Held w0 x s m sy ep D out W) (hlen:132<=D.st.length)
include h hlen
theorem OU (hf:D.failed=true):Calls Tryz.prog 177 #[ptrV s] W (SB w0 x s m sy ep D out W ([],10)):=by
 have hr:=QT hf 33 oo;have b:=zh (λw1 (hg:Grew W w1)=>E7 (h.grew hg) 33 (by unfold okI;omega) _ _ _ 10 hr);have HH:=zh h;clear h hr hf hlen;go_enter Tryz.func177,Tryz.ntmps177;go_wp2_with fail;refine (b _ (fh W)).mono ?_;rintro e w1 ⟨rfl,a⟩;have c:=zh a;clear a;go_wp2_with fail;go_ret2;exact ⟨_,rfl,OwnL.nil ..,c.grew ((fh _).alloc _)⟩
theorem Rw (hf:D.failed=false) (hs:(Be D).ok=false):Calls Tryz.prog 177 #[ptrV s] W (SB w0 x s m sy ep D out W (AM D,0)):=by
 have hr:=Dx hf 33 oo;have hi:=Jl D hs;obtain ⟨⟨d,v,k⟩,hd⟩:∃r,Be D=r:=⟨_,rfl⟩;rw [show AJ (D.content 33) ((33:Nat):Int)=Be D from rfl,hd] at hr;rw [hd] at hs;have hk:k=false:=hs;subst hk;have b:=zh (λw1 (hg:Grew W w1)=>E7 (h.grew hg) 33 (by unfold okI;omega) _ _ _ 0 hr);have HH:=zh h;have HI:=zh hi;clear h hr hf hlen hs hd hi;go_enter Tryz.func177,Tryz.ntmps177;go_wp2_with fail;refine (b _ (fh W)).mono ?_;rintro e w1 ⟨rfl,a⟩;have c:=zh a;clear a;go_wp2_with fail;go_ret2;rw [HI.out];exact ⟨_,rfl,OwnL.nil ..,c.grew ((fh _).alloc _)⟩
end
section
variable {w0:World} {x s m:Nat} {sy ep:Int} {D:Dev} {out:Nat->Prop} {W:World} (h:Held w0 x s m sy ep D out W) (hlen:132<=D.st.length) (hf:D.failed=false) (d:ByteArray) (v:BitVec 32) (hd:Be D=⟨d,v,true⟩)
include h hlen hf hd
theorem UA (hv:fld d 0≠v):Calls Tryz.prog 177 #[ptrV s] W (SB w0 x s m sy ep D out W (AM D,0)):=by
 have hr:=Dx hf 33 oo;rw [show AJ (D.content 33) ((33:Nat):Int)=Be D from rfl,hd] at hr;have c:d.size=128:=by have:=Cr (t:=D.content 33) (i:=33) (by rw [show AJ (D.content 33) 33=Be D from rfl,hd]);rw [show AJ (D.content 33) 33=Be D from rfl,hd] at this;exact this
 have o:=zh (λw1 (hg:Grew W w1)=>E7 (h.grew hg) 33 (by unfold okI;omega) _ _ _ 0 hr);have HF:Hid (∀(k:Nat) (i:Int),k<3->i=(k:Int)->∀(g:Nat) (w:World),Blk w g 178 #[.string d,.int .u32 (u32 v),.bool true]->Calls Tryz.prog 216 #[.int .i64 i,ptrV g] w λe w'=>e=.returned (.int .u32 (u32 (fld d k)))/\Grew w w'):=zh (λk i hk hi g w hb=>by rw [hi];exact G8 k g hk d _ _ c w hb);have u0:=BD (fld d 0);have u1:=BD (fld d 1);have u2:=BD (fld d 2);have uv:=BD v;have HI:=zh (MQ (D:=D) (by unfold FV;rw [hd];simp [hv]));have hb:(u32 (fld d 0) != u32 v)=true:=by rw [gu];exact λe=>hv (He e)
 have HH:=zh h;clear h hr hf hlen hd c hv;go_enter Tryz.func177,Tryz.ntmps177;go_wp2_with fail;refine (o _ (fh W)).mono ?_;rintro e w1 ⟨rfl,b⟩;have f:Blk (w1.alloc (.cells #[.string d,.int .u32 (u32 v),.bool true] 178)) w1.heap.size 178 #[.string d,.int .u32 (u32 v),.bool true]:=fy w1 _ _ rfl;have y:=b.turned.size;have p:=zh (b.grew ((fh w1).alloc (.cells #[.string d,.int .u32 (u32 v),.bool true] 178)));have j:=zh f;clear b f;go_wp2_with fail;refine (HF 0 0 oo rfl _ _ j).mono ?_;rintro e w2 ⟨rfl,g2⟩;have l:=zh (j.grew g2);have q:=zh (p.grew g2);clear g2;go_wp2_with fail;refine (HF 1 1 oo rfl _ _ l).mono ?_;rintro e w3 ⟨rfl,g3⟩;have n:=zh (l.grew g3);have r:=zh (q.grew g3);clear g3;go_wp2_with fail;refine (HF 2 2 oo rfl _ _ n).mono ?_;rintro e w4 ⟨rfl,g4⟩;have a:=zh (n.grew g4);have u:=zh (r.grew g4);clear g4;go_wp2_with fail;refine AB [] (λw':World=>w'.cell? ⟨w1.heap.size,0,none⟩=some (.string d)/\w'.cell? ⟨w1.heap.size,1,none⟩=some (.int .u32 (u32 v))/\w1.heap.size<w'.heap.size) qk ?_;have hS:=(show (λw':World=>w'.cell? ⟨w1.heap.size,0,none⟩=some (.string d)/\w'.cell? ⟨w1.heap.size,1,none⟩=some (.int .u32 (u32 v))/\w1.heap.size<w'.heap.size) w4.drew from ⟨a.drew.cell 0,a.drew.cell 1,a.drew.lt⟩);refine tQ 0 40 ?_;refine tQ 1 41 ?_;refine tT 2 (some 42) hS ?_;refine tQ 3 43 ?_;refine tQ 4 44 ?_;refine tU 5 (some 45) ?_;refine tU 6 (some 46) ?_;refine tQ 7 47 ?_;refine tQ 8 48 ?_;refine tU 9 (some 49) ?_;refine tU 10 (some 50) ?_;refine tQ 11 51 ?_;refine tQ 12 52 ?_;refine tU 13 (some 53) ?_;refine tU 14 (some 54) ?_;refine tU 15 (some 55) ?_;refine tU 16 (some 56) ?_;refine tU 17 (some 57) ?_;refine tU 18 (some 58) ?_;refine tQ 19 59 ?_;refine AA qk ?_ _;go_wp2_with fail;go_ret2;rw [HI.out];exact ⟨_,rfl,OwnL.nil ..,u.grew (gG)⟩
theorem Ul (hv:fld d 0=v) (hc:EW D<1):Calls Tryz.prog 177 #[ptrV s] W (SB w0 x s m sy ep D out W (AM D,0)):=by
 have hr:=Dx hf 33 oo;rw [show AJ (D.content 33) ((33:Nat):Int)=Be D from rfl,hd] at hr;have c:d.size=128:=by have:=Cr (t:=D.content 33) (i:=33) (by rw [show AJ (D.content 33) 33=Be D from rfl,hd]);rw [show AJ (D.content 33) 33=Be D from rfl,hd] at this;exact this
 have o:=zh (λw1 (hg:Grew W w1)=>E7 (h.grew hg) 33 (by unfold okI;omega) _ _ _ 0 hr);have HF:Hid (∀(k:Nat) (i:Int),k<3->i=(k:Int)->∀(g:Nat) (w:World),Blk w g 178 #[.string d,.int .u32 (u32 v),.bool true]->Calls Tryz.prog 216 #[.int .i64 i,ptrV g] w λe w'=>e=.returned (.int .u32 (u32 (fld d k)))/\Grew w w'):=zh (λk i hk hi g w hb=>by rw [hi];exact G8 k g hk d _ _ c w hb);have u0:=BD (fld d 0);have u1:=BD (fld d 1);have u2:=BD (fld d 2);have uv:=BD v;have HI:=zh (MQ (D:=D) (by unfold FV;rw [gE (λe=>absurd e.1 oo)];simp));have hb:(u32 (fld d 0) != u32 v)=false:=by rw [hv];simp
 have p:u32 (fld d 1)<1:=by unfold EW at hc;rw [hd] at hc;unfold u32;show ((fld d 1).toNat:Int)<1;have:(fld d 1).toNat<1:=hc;omega
 have z:decide (u32 (fld d 1)<1)=true:=gD p;have HH:=zh h;clear h hr hf hlen hd c hv hc;go_enter Tryz.func177,Tryz.ntmps177;go_wp2_with fail;refine (o _ (fh W)).mono ?_;rintro e w1 ⟨rfl,b⟩;have f:Blk (w1.alloc (.cells #[.string d,.int .u32 (u32 v),.bool true] 178)) w1.heap.size 178 #[.string d,.int .u32 (u32 v),.bool true]:=fy w1 _ _ rfl;have A:=b.turned.size;have q:=zh (b.grew ((fh w1).alloc (.cells #[.string d,.int .u32 (u32 v),.bool true] 178)));have j:=zh f;clear b f;go_wp2_with fail;refine (HF 0 0 oo rfl _ _ j).mono ?_;rintro e w2 ⟨rfl,g2⟩;have l:=zh (j.grew g2);have r:=zh (q.grew g2);clear g2;go_wp2_with fail;refine (HF 1 1 oo rfl _ _ l).mono ?_;rintro e w3 ⟨rfl,g3⟩;have n:=zh (l.grew g3);have u:=zh (r.grew g3);clear g3;go_wp2_with fail;refine (HF 2 2 oo rfl _ _ n).mono ?_;rintro e w4 ⟨rfl,g4⟩;have a:=zh (n.grew g4);have y:=zh (u.grew g4);clear g4;go_wp2_with fail;refine AB [] (λw':World=>w'.cell? ⟨w1.heap.size,0,none⟩=some (.string d)/\w'.cell? ⟨w1.heap.size,1,none⟩=some (.int .u32 (u32 v))/\w1.heap.size<w'.heap.size) qk ?_;have hS:=(show (λw':World=>w'.cell? ⟨w1.heap.size,0,none⟩=some (.string d)/\w'.cell? ⟨w1.heap.size,1,none⟩=some (.int .u32 (u32 v))/\w1.heap.size<w'.heap.size) w4.drew from ⟨a.drew.cell 0,a.drew.cell 1,a.drew.lt⟩);refine tQ 0 40 ?_;refine tQ 1 41 ?_;refine tT 2 (some 42) hS ?_;refine tQ 3 43 ?_;refine tQ 4 44 ?_;refine tQ 5 45 ?_;refine tQ 6 46 ?_;refine tQ 7 47 ?_;refine tQ 8 48 ?_;refine tU 9 (some 49) ?_;refine tU 10 (some 50) ?_;refine tQ 11 51 ?_;refine tQ 12 52 ?_;refine tU 13 (some 53) ?_;refine tU 14 (some 54) ?_;refine tU 15 (some 55) ?_;refine tU 16 (some 56) ?_;refine tU 17 (some 57) ?_;refine tU 18 (some 58) ?_;refine tQ 19 59 ?_;refine AA qk ?_ _;go_wp2_with fail;go_ret2;rw [HI.out];exact ⟨_,rfl,OwnL.nil ..,y.grew (gG)⟩
theorem Q2 (hv:fld d 0=v) (hc:97<EW D):Calls Tryz.prog 177 #[ptrV s] W (SB w0 x s m sy ep D out W (AM D,0)):=by
 have hr:=Dx hf 33 oo;rw [show AJ (D.content 33) ((33:Nat):Int)=Be D from rfl,hd] at hr;have c:d.size=128:=by have:=Cr (t:=D.content 33) (i:=33) (by rw [show AJ (D.content 33) 33=Be D from rfl,hd]);rw [show AJ (D.content 33) 33=Be D from rfl,hd] at this;exact this
 have o:=zh (λw1 (hg:Grew W w1)=>E7 (h.grew hg) 33 (by unfold okI;omega) _ _ _ 0 hr);have HF:Hid (∀(k:Nat) (i:Int),k<3->i=(k:Int)->∀(g:Nat) (w:World),Blk w g 178 #[.string d,.int .u32 (u32 v),.bool true]->Calls Tryz.prog 216 #[.int .i64 i,ptrV g] w λe w'=>e=.returned (.int .u32 (u32 (fld d k)))/\Grew w w'):=zh (λk i hk hi g w hb=>by rw [hi];exact G8 k g hk d _ _ c w hb);have u0:=BD (fld d 0);have u1:=BD (fld d 1);have u2:=BD (fld d 2);have uv:=BD v;have HI:=zh (MQ (D:=D) (by unfold FV;rw [gE (λe=>absurd e.2 oo)];simp));have hb:(u32 (fld d 0) != u32 v)=false:=by rw [hv];simp
 have p:u32 (fld d 1)>97:=by unfold EW at hc;rw [hd] at hc;unfold u32;show ((fld d 1).toNat:Int)>97;have:97<(fld d 1).toNat:=hc;omega
 have z:decide (u32 (fld d 1)<1)=false:=gE oo;have A:decide (97<u32 (fld d 1))=true:=gD p;have HH:=zh h;clear h hr hf hlen hd c hv hc;go_enter Tryz.func177,Tryz.ntmps177;go_wp2_with fail;refine (o _ (fh W)).mono ?_;rintro e w1 ⟨rfl,b⟩;have f:Blk (w1.alloc (.cells #[.string d,.int .u32 (u32 v),.bool true] 178)) w1.heap.size 178 #[.string d,.int .u32 (u32 v),.bool true]:=fy w1 _ _ rfl;have B:=b.turned.size;have q:=zh (b.grew ((fh w1).alloc (.cells #[.string d,.int .u32 (u32 v),.bool true] 178)));have j:=zh f;clear b f;go_wp2_with fail;refine (HF 0 0 oo rfl _ _ j).mono ?_;rintro e w2 ⟨rfl,g2⟩;have l:=zh (j.grew g2);have r:=zh (q.grew g2);clear g2;go_wp2_with fail;refine (HF 1 1 oo rfl _ _ l).mono ?_;rintro e w3 ⟨rfl,g3⟩;have n:=zh (l.grew g3);have u:=zh (r.grew g3);clear g3;go_wp2_with fail;refine (HF 2 2 oo rfl _ _ n).mono ?_;rintro e w4 ⟨rfl,g4⟩;have a:=zh (n.grew g4);have y:=zh (u.grew g4);clear g4;go_wp2_with fail;refine AB [] (λw':World=>w'.cell? ⟨w1.heap.size,0,none⟩=some (.string d)/\w'.cell? ⟨w1.heap.size,1,none⟩=some (.int .u32 (u32 v))/\w1.heap.size<w'.heap.size) qk ?_;have hS:=(show (λw':World=>w'.cell? ⟨w1.heap.size,0,none⟩=some (.string d)/\w'.cell? ⟨w1.heap.size,1,none⟩=some (.int .u32 (u32 v))/\w1.heap.size<w'.heap.size) w4.drew from ⟨a.drew.cell 0,a.drew.cell 1,a.drew.lt⟩);refine tQ 0 40 ?_;refine tQ 1 41 ?_;refine tT 2 (some 42) hS ?_;refine tQ 3 43 ?_;refine tQ 4 44 ?_;refine tQ 5 45 ?_;refine tQ 6 46 ?_;refine tQ 7 47 ?_;refine tQ 8 48 ?_;refine tQ 9 49 ?_;refine tQ 10 50 ?_;refine tQ 11 51 ?_;refine tQ 12 52 ?_;refine tU 13 (some 53) ?_;refine tU 14 (some 54) ?_;refine tU 15 (some 55) ?_;refine tU 16 (some 56) ?_;refine tU 17 (some 57) ?_;refine tU 18 (some 58) ?_;refine tQ 19 59 ?_;refine AA qk ?_ _;go_wp2_with fail;go_ret2;rw [HI.out];exact ⟨_,rfl,OwnL.nil ..,y.grew (gG)⟩
end

section
variable {w0:World} {x s m:Nat} {sy ep:Int} {D:Dev} {out:Nat->Prop} {W:World} (h:Held w0 x s m sy ep D out W) (hlen:132<=D.st.length) (hf:D.failed=false) (d:ByteArray) (v:BitVec 32) (hd:Be D=⟨d,v,true⟩) (hv:fld d 0=v) (hc:1<=EW D/\EW D<=97)
include h hlen hf hd hv hc
theorem QY (hz:d.extract 12 128≠Ay 116):Calls Tryz.prog 177 #[ptrV s] W (SB w0 x s m sy ep D out W (AM D,0)):=by
 have hr:=Dx hf 33 oo;rw [show AJ (D.content 33) ((33:Nat):Int)=Be D from rfl,hd] at hr;have c:d.size=128:=by have:=Cr (t:=D.content 33) (i:=33) (by rw [show AJ (D.content 33) 33=Be D from rfl,hd]);rw [show AJ (D.content 33) 33=Be D from rfl,hd] at this;exact this
 have A:=zh (λw1 (hg:Grew W w1)=>E7 (h.grew hg) 33 (by unfold okI;omega) _ _ _ 0 hr);have HF:Hid (∀(k:Nat) (i:Int),k<3->i=(k:Int)->∀(g:Nat) (w:World),Blk w g 178 #[.string d,.int .u32 (u32 v),.bool true]->Calls Tryz.prog 216 #[.int .i64 i,ptrV g] w λe w'=>e=.returned (.int .u32 (u32 (fld d k)))/\Grew w w'):=zh (λk i hk hi g w hb=>by rw [hi];exact G8 k g hk d _ _ c w hb);have u0:=BD (fld d 0);have u1:=BD (fld d 1);have u2:=BD (fld d 2);have uv:=BD v;have hb:(u32 (fld d 0) != u32 v)=false:=by rw [hv];simp
 have l:u32 (fld d 1)=((EW D:Nat):Int):=by unfold EW;rw [hd];rfl
 obtain ⟨n,hn⟩:∃n,EW D=n:=⟨_,rfl⟩;rw [hn] at hc l;have J:decide ((n:Int)<1)=false:=gE oo;have K:decide (97<(n:Int))=false:=gE oo;have L:(n:Int)>=1:=oo;have M:(n:Int)<=97:=oo;have N:128<=d.size/\d.size<=128:=oo;have B:=zh (show d.extract 12 d.size=d.extract 12 128 from by rw [c]);have HI:=zh (MQ (D:=D) (by unfold FV;rw [hd];simp [hz]));have O:=My hz;rw [l] at u1;have HH:=zh h;clear h hr hf hlen hd c hv hc hz hn;go_enter Tryz.func177,Tryz.ntmps177;go_wp2_with fail;refine (A _ (fh W)).mono ?_;rintro e w1 ⟨rfl,j⟩;have o:Blk (w1.alloc (.cells #[.string d,.int .u32 (u32 v),.bool true] 178)) w1.heap.size 178 #[.string d,.int .u32 (u32 v),.bool true]:=fy w1 _ _ rfl;have P:=j.turned.size;have C:=zh (j.grew ((fh w1).alloc (.cells #[.string d,.int .u32 (u32 v),.bool true] 178)));have p:=zh o;clear j o;go_wp2_with fail;refine (HF 0 0 oo rfl _ _ p).mono ?_;rintro e w2 ⟨rfl,g2⟩;have q:=zh (p.grew g2);have E:=zh (C.grew g2);clear g2;go_wp2_with fail;refine (HF 1 1 oo rfl _ _ q).mono ?_;rintro e w3 ⟨rfl,g3⟩;have r:=zh (q.grew g3);have F:=zh (E.grew g3);clear g3;go_wp2_with fail;refine (HF 2 2 oo rfl _ _ r).mono ?_;rintro e w4 ⟨rfl,g4⟩;have b:=zh (r.grew g4);have G:=zh (F.grew g4);clear g4;go_wp2_with fail;refine AB [] (λw':World=>w'.cell? ⟨w1.heap.size,0,none⟩=some (.string d)/\w'.cell? ⟨w1.heap.size,1,none⟩=some (.int .u32 (u32 v))/\w1.heap.size<w'.heap.size) qk ?_;have hS:=(show (λw':World=>w'.cell? ⟨w1.heap.size,0,none⟩=some (.string d)/\w'.cell? ⟨w1.heap.size,1,none⟩=some (.int .u32 (u32 v))/\w1.heap.size<w'.heap.size) w4.drew from ⟨b.drew.cell 0,b.drew.cell 1,b.drew.lt⟩);refine tQ 0 40 ?_;refine tQ 1 41 ?_;refine tT 2 (some 42) hS ?_;refine tQ 3 43 ?_;refine tQ 4 44 ?_;refine tQ 5 45 ?_;refine tQ 6 46 ?_;refine tQ 7 47 ?_;refine tQ 8 48 ?_;refine tQ 9 49 ?_;refine tQ 10 50 ?_;refine tQ 11 51 ?_;refine tQ 12 52 ?_;refine tQ 13 53 ?_;refine tT 14 (some 54) hS ?_;refine tQ 15 55 ?_;clear hS;have H:(Instr.makeSlice 169 (.int .i64 116) (.int .i64 116)).run Tryz.prog w4.drew=_:=H6 w4.drew 116 oo;have u:Blk (w4.alloc (.cells (BC (Ay 116)) 5)).drew w4.heap.size 5 (BC (Ay 116)):=(fy w4 _ _ rfl).drew;have f:Grew w4 (w4.alloc (.cells (BC (Ay 116)) 5)).drew:=((fh w4).alloc _).drew;have I:(convert 169 9 (.slice (some ⟨w4.heap.size,0,none⟩) 116 116)).run Tryz.prog (w4.alloc (.cells (BC (Ay 116)) 5)).drew=.ok (.string (Ay 116)) (w4.alloc (.cells (BC (Ay 116)) 5)).drew:=EC _ _ 116 (Ay 116) (C7 116) u;have a:=b.grew f;have y:=zh (G.grew f);clear u f;refine tO 16 λK' hK=>?_;go_wp2_with fail;refine hK.out _ _ (.inr (λ_=>⟨a.cell 0,a.cell 1,a.lt⟩)) ?_;clear hK;refine tO 17 λK' hK=>?_;go_wp2_with fail;refine hK.out _ _ (.inr (λ_=>⟨a.cell 0,a.cell 1,a.lt⟩)) ?_;clear hK I H;obtain ⟨w5,z⟩:∃w5,w5=(w4.alloc (.cells (BC (Ay 116)) 5)).drew:=⟨_,rfl⟩;rw [<-z] at a y ⊢;have Q:=zh a;clear z a;rw [B.out];refine tQ 18 58 ?_;refine tQ 19 59 ?_;refine AA qk ?_ _;go_wp2_with fail;go_ret2;rw [HI.out];exact ⟨_,rfl,OwnL.nil ..,y⟩
end

theorem Ep (n:Nat) (m:U32) (s:ByteArray):FZ n m s=true↔okR s (Eh s)/\C9 (s.extract 128 132)=m/\¬(32<Eh s/\(Eh s<131\/(n:Int)<=Eh s)):=by
 unfold FZ;simp [and_assoc];intro _ _;omega
theorem SM (t:ByteArray) (i:Int) (h:okR t i):Di t i=(t.extract 0 128,C9 (t.extract 128 132),0):=by unfold Di;rw [if_pos h]
theorem NG {w0:World} {x s m:Nat} {sy ep:Int} {D:Dev} {out:Nat->Prop} {W w1 w2:World} {row:Option Nat} (h:Held w0 x s m sy ep D out W) (hl:Looked w0 x s m sy ep D out W w1) (hg:w1.grownBy w2 row) (hr:∀k,row=some k->W.heap.size<=k):Looked w0 x s m sy ep D out W w2:=
 CP h hl ⟨hg.os,hg.tape,hg.output,hg.size,λk hk hn=>hg.block k hk (λe=>hn (hr k e.symm))⟩
section
variable {w0:World} {x s m:Nat} {sy ep:Int} {D:Dev} {out:Nat->Prop} {W:World} (h:Held w0 x s m sy ep D out W) (hlen:132<=D.st.length) (hf:D.failed=false) (d:ByteArray) (v:BitVec 32) (hd:Be D=⟨d,v,true⟩) (hv:fld d 0=v) (hc:1<=EW D/\EW D<=97) (hz:d.extract 12 128=Ay 116)
include h hlen hf hd hv hc hz
theorem P3:Calls Tryz.prog 177 #[ptrV s] W (SB w0 x s m sy ep D out W (AM D,0)):=by
 have hr:=Dx hf 33 oo;rw [show AJ (D.content 33) ((33:Nat):Int)=Be D from rfl,hd] at hr;have T:d.size=128:=by have:=Cr (t:=D.content 33) (i:=33) (by rw [show AJ (D.content 33) 33=Be D from rfl,hd]);rw [show AJ (D.content 33) 33=Be D from rfl,hd] at this;exact this
 have b6:=zh (λw1 (hg:Grew W w1)=>E7 (h.grew hg) 33 (by unfold okI;omega) _ _ _ 0 hr);have HF:Hid (∀(k:Nat) (i:Int),k<3->i=(k:Int)->∀(g:Nat) (w:World),Blk w g 178 #[.string d,.int .u32 (u32 v),.bool true]->Calls Tryz.prog 216 #[.int .i64 i,ptrV g] w λe w'=>e=.returned (.int .u32 (u32 (fld d k)))/\Grew w w'):=zh (λk i hk hi g w hb=>by rw [hi];exact G8 k g hk d _ _ T w hb);have u0:=BD (fld d 0);have u1:=BD (fld d 1);have u2:=BD (fld d 2);have uv:=BD v;have hb:(u32 (fld d 0) != u32 v)=false:=by rw [hv];simp
 have a6:u32 (fld d 1)=((EW D:Nat):Int):=by unfold EW;rw [hd];rfl
 obtain ⟨n,hn⟩:∃n,EW D=n:=⟨_,rfl⟩;rw [hn] at hc a6;have b9:decide ((n:Int)<1)=false:=gE oo;have ca:decide (97<(n:Int))=false:=gE oo;have c5:(n:Int)>=1:=oo;have c6:(n:Int)<=97:=oo;have c7:128<=d.size/\d.size<=128:=oo;have cb:=zh (show d.extract 12 d.size=d.extract 12 128 from by rw [T]);have cc:((d.extract 12 128).toList==(Ay 116).toList)=true:=by rw [hz,iy]
 have a7:FV D=true:=by unfold FV;rw [hd,hn,gD hc,gD hz];simp [hv]
 have ce:=zh a7;have HN:=zh hn;have HV:=zh (show (Be D).ver=v from by rw [hd]);have C:=zh hv;have cf:=zh (show fld (Be D).data 2=fld d 2 from by rw [hd]);have E:=zh hlen;have a8:=zh hf;rw [a6] at u1;have HH:=zh h;clear h hr hf hlen hd T hv hz hn a7;go_enter Tryz.func177,Tryz.ntmps177;go_wp2_with fail;refine (b6 _ (fh W)).mono ?_;rintro e w1 ⟨rfl,a3⟩;have N:Blk (w1.alloc (.cells #[.string d,.int .u32 (u32 v),.bool true] 178)) w1.heap.size 178 #[.string d,.int .u32 (u32 v),.bool true]:=fy w1 _ _ rfl;have c8:=a3.turned.size;have ch:=zh (a3.grew ((fh w1).alloc (.cells #[.string d,.int .u32 (u32 v),.bool true] 178)));have a9:=zh N;clear a3 N;go_wp2_with fail;refine (HF 0 0 oo rfl _ _ a9).mono ?_;rintro e w2 ⟨rfl,g2⟩;have bb:=zh (a9.grew g2);have ci:=zh (ch.grew g2);clear g2;go_wp2_with fail;refine (HF 1 1 oo rfl _ _ bb).mono ?_;rintro e w3 ⟨rfl,g3⟩;have bc:=zh (bb.grew g3);have cj:=zh (ci.grew g3);clear g3;go_wp2_with fail;refine (HF 2 2 oo rfl _ _ bc).mono ?_;rintro e w4 ⟨rfl,g4⟩;have O:=zh (bc.grew g4);have cl:=zh (cj.grew g4);clear g4;go_wp2_with fail;refine AB [] (λw':World=>w'.cell? ⟨w1.heap.size,0,none⟩=some (.string d)/\w'.cell? ⟨w1.heap.size,1,none⟩=some (.int .u32 (u32 v))/\w1.heap.size<w'.heap.size) qk ?_;have hS:=(show (λw':World=>w'.cell? ⟨w1.heap.size,0,none⟩=some (.string d)/\w'.cell? ⟨w1.heap.size,1,none⟩=some (.int .u32 (u32 v))/\w1.heap.size<w'.heap.size) w4.drew from ⟨O.drew.cell 0,O.drew.cell 1,O.drew.lt⟩);refine tQ 0 40 ?_;refine tQ 1 41 ?_;refine tT 2 (some 42) hS ?_;refine tQ 3 43 ?_;refine tQ 4 44 ?_;refine tQ 5 45 ?_;refine tQ 6 46 ?_;refine tQ 7 47 ?_;refine tQ 8 48 ?_;refine tQ 9 49 ?_;refine tQ 10 50 ?_;refine tQ 11 51 ?_;refine tQ 12 52 ?_;refine tQ 13 53 ?_;refine tT 14 (some 54) hS ?_;refine tQ 15 55 ?_;clear hS;have cm:(Instr.makeSlice 169 (.int .i64 116) (.int .i64 116)).run Tryz.prog w4.drew=_:=H6 w4.drew 116 oo;have bd:Blk (w4.alloc (.cells (BC (Ay 116)) 5)).drew w4.heap.size 5 (BC (Ay 116)):=(fy w4 _ _ rfl).drew;have U:Grew w4 (w4.alloc (.cells (BC (Ay 116)) 5)).drew:=((fh w4).alloc _).drew;have co:(convert 169 9 (.slice (some ⟨w4.heap.size,0,none⟩) 116 116)).run Tryz.prog (w4.alloc (.cells (BC (Ay 116)) 5)).drew=.ok (.string (Ay 116)) (w4.alloc (.cells (BC (Ay 116)) 5)).drew:=EC _ _ 116 (Ay 116) (C7 116) bd;have u:=O.grew U;have V:=zh (cl.grew U);clear bd U;refine tO 16 λK' hK=>?_;go_wp2_with fail;refine hK.out _ _ (.inr (λ_=>⟨u.cell 0,u.cell 1,u.lt⟩)) ?_;clear hK;refine tO 17 λK' hK=>?_;go_wp2_with fail;refine hK.out _ _ (.inr (λ_=>⟨u.cell 0,u.cell 1,u.lt⟩)) ?_;clear hK co cm;obtain ⟨w5,b2⟩:∃w5,w5=(w4.alloc (.cells (BC (Ay 116)) 5)).drew:=⟨_,rfl⟩;rw [<-b2] at u V ⊢;have c9:=zh u;clear b2 u;rw [cb.out];refine tQ 18 58 ?_;refine tQ 19 59 ?_;refine AA qk ?_ _;go_wp2_with fail;clear b9 ca hb cc u1;have da:W.heap.size<=w5.heap.size:=V.turned.size
 go_loopg [10,11,62] n (λgk l a i wr=>∃k:Nat,k<=n/\gk=n - k/\i=.int .i64 k/\OwnL wr W.heap.size 193 2 l ((Hb D k).map BB)/\a=.string (Dp (CO D k))/\Looked w0 x s m sy ep D out W wr/\(∀j,j<k->FZ D.st.length v (Fb D j)=true))
 case atStart=>exact ⟨0,oo,oo,rfl,OwnL.nil ..,rfl,V,λj hj=>absurd hj oo⟩
 case round=>
  obtain ⟨k,hk,b3,rfl,b4,rfl,hl,b5⟩:=hrel;have bf:=zh b3;have X:=zh b4;have HL:=zh hl;have Y:=zh b5;clear b3 b4 hl b5;by_cases S:k<n
  . have dd:(k:Int)<(n:Int):=oo
    have bk:GT D (34+(k:Int))=(Fb D k,0):=by
     rw [show (34+(k:Int))=((34+k:Nat):Int) from oo];exact RU a8 (34+k) (by have:=E.out;omega)
    have bl:=zh (Pn HL.live (34+(k:Int)) _ _ bk);obtain ⟨t,ht⟩:∃t,Fb D k=t:=⟨_,rfl⟩;have cp:t.size=140:=by rw [<-ht];exact Fi HL.live.ok (by have:=E.out;omega)
    rw [ht] at bl;have df:140<=t.size/\t.size<=140:=oo;have bn:=zh (λ(w:World)=>Dl (t.extract 132 136) (by rw [gO];omega) w);obtain ⟨p,hp⟩:∃p,C9 (t.extract 132 136)=p:=⟨_,rfl⟩;rw [hp] at bn;have bo:Eh t=u32 p:=by unfold Eh;rw [hp]
    have dk:=BD p;obtain ⟨ud,uv,ue,hu⟩:∃a b c,Di t (u32 p)=(a,b,c):=⟨_,_,_,rfl⟩;have HU:=zh (λ(w:World)=>M0 t (u32 p) w oo (by unfold okI;omega) _ _ _ hu);have P:=HL.store.blk;unfold Cs at P;have s0:=P.cell 0;have sl:=P.lt;have HT:=zh ht;have z:=zh bo;have br:=zh hu;clear bk ht hp bo hu P cp;go_wp2_with fail;refine bl.mono ?_;rintro e w6 ⟨rfl,rfl⟩;go_wp2_with fail;refine (bn _).mono ?_;rintro e w7 ⟨rfl,g7⟩;have cq:=zh g7;clear g7 s0 sl;go_wp2_with fail;refine (HU _).mono ?_;rintro e w8 ⟨rfl,g8⟩;have f:=zh (cq.out.trans g8);clear g8;by_cases ho:okR t (u32 p)
    . have h1:=br.out;rw [SM t _ ho] at h1;injection h1 with h1 h2;injection h2 with h2 h3;subst h1;subst h3;by_cases o:uv=v
      . have cr:(u32 uv != u32 (fld d 0))=false:=by rw [C.out,o];simp
        by_cases i1:32<u32 p
        . have cs:decide (32<u32 p)=true:=gD i1;by_cases i2:u32 p<131
          . have cu:decide (u32 p<131)=true:=gD i2;have HI:=zh (MX (D:=D) k (by rw [HN.out];exact S) (by rw [HV.out,HT.out,Bool.eq_false_iff];intro e;have e2:=(Ep _ _ _).1 e;rw [z.out] at e2;exact absurd e2.2.2 (λe9=>e9 ⟨i1,.inl i2⟩)));clear o h2 i1 i2 ho;go_wp2_with fail;go_ret2;rw [HI.out];exact ⟨_,rfl,OwnL.nil ..,HL.grew f⟩
          . have cu:decide (u32 p<131)=false:=gE i2;have ds:¬u32 p<131:=i2;by_cases i3:(D.st.length:Int)<=u32 p
            . have cv:decide ((D.st.length:Int)<=u32 p)=true:=gD i3;have cw:u32 p>=(D.st.length:Int):=i3;have HI:=zh (MX (D:=D) k (by rw [HN.out];exact S) (by rw [HV.out,HT.out,Bool.eq_false_iff];intro e;have e2:=(Ep _ _ _).1 e;rw [z.out] at e2;exact absurd e2.2.2 (λe9=>e9 ⟨i1,.inr i3⟩)));clear o h2 i1 i2 ho;have Z:=zh (DD (HL.live.grew f));have y:=HL.store.blk.grew f;unfold Cs at y;have s0:=y.cell 0;have sl:=y.lt;clear y;go_wp2_with fail;refine Z.mono ?_;rintro e c3 ⟨rfl,rfl⟩;go_wp2_with fail;go_ret2;rw [HI.out];exact ⟨_,rfl,OwnL.nil ..,HL.grew f⟩
            . have cv:decide ((D.st.length:Int)<=u32 p)=false:=gE i3;have cw:¬u32 p>=(D.st.length:Int):=i3;have aa:Hid (okR t (u32 p)/\C9 (t.extract 128 132)=v/\¬(32<u32 p/\(u32 p<131\/(D.st.length:Int)<=u32 p))):=zh ⟨ho,by rw [h2,o],λe9=>e9.2.elim i2 i3⟩;clear o h2 i1 i2 ho;have Z:=zh (DD (HL.live.grew f));have y:=HL.store.blk.grew f;unfold Cs at y;have s0:=y.cell 0;have sl:=y.lt;clear y;go_wp2_with fail;refine Z.mono ?_;rintro e c3 ⟨rfl,rfl⟩;have cx:W.heap.size<=w8.heap.size:=fx HL.turned.size f.size;have bs:(Dp (CO D k)).size<=13580:=by rw [IO HL.out.live.ok (by have:=E.out;omega) k oo];omega
              have cy:=PU D k;have ad:Hid (FZ D.st.length v (Fb D k)=true):=zh (by rw [HT.out,Ep,z.out];exact aa.out);have G:=zh (Iu D k);have A:=zh (NF D k);rw [HT.out] at G A;rw [z.out] at A;have ae:Hid (Dp (CO D k++[t])=Dp (CO D k)++t):=zh (LD _ _);have H:=zh (X.grew f);go_wp2_with (at_builtin;refine BZ rfl _ _ 194 rfl W.heap.size 193 2 24 (.agg #[.int .i64 0,.string ⟨#[]⟩]) Tryz.underlying194 KU rfl qd (w8.alloc (.cells #[.int .i64 (u32 p),.string t] 193)) u10 ((Hb D k).map BB) [.int .i64 (u32 p),.string t] rfl rfl (H.alloc _) w8.heap.size (by rfl) (fy _ _ _ rfl) rfl (by rw [fm];omega) (by rw [fm];omega) (by simp;omega) k (by rw [fm];omega) ?_);intro g9 c4 w9 K L _ _;have aj:Grew W w9->True:=λ_=>trivial;have I:=NG HH (HL.grew (f.alloc (.cells #[.int .i64 (u32 p),.string t] 193))) L (H.row_ge);have al:=zh K;have an:=zh I;clear K L I aj;go_wp2_with fail
              go_roundg (n - (k+1))
              case measure=>rw [bf.out];omega
              case rel=>exact ⟨k+1,oo,oo,by go_num,by rw [A.out,fz];exact al.out,by rw [G.out,ae.out],an,λj hj=>by rcases iQ j k with M | M;exact Y.out j M;rw [show j=k from oo];exact ad.out⟩
        . have cs:decide (32<u32 p)=false:=gE i1;have aa:Hid (okR t (u32 p)/\C9 (t.extract 128 132)=v/\¬(32<u32 p/\(u32 p<131\/(D.st.length:Int)<=u32 p))):=zh ⟨ho,by rw [h2,o],λe9=>i1 e9.1⟩;clear o h2 i1 ho;have cx:W.heap.size<=w8.heap.size:=fx HL.turned.size f.size;have bs:(Dp (CO D k)).size<=13580:=by rw [IO HL.out.live.ok (by have:=E.out;omega) k oo];omega
          have cy:=PU D k;have ad:Hid (FZ D.st.length v (Fb D k)=true):=zh (by rw [HT.out,Ep,z.out];exact aa.out);have G:=zh (Iu D k);have A:=zh (NF D k);rw [HT.out] at G A;rw [z.out] at A;have ae:Hid (Dp (CO D k++[t])=Dp (CO D k)++t):=zh (LD _ _);have H:=zh (X.grew f);go_wp2_with (at_builtin;refine BZ rfl _ _ 194 rfl W.heap.size 193 2 24 (.agg #[.int .i64 0,.string ⟨#[]⟩]) Tryz.underlying194 KU rfl qd (w8.alloc (.cells #[.int .i64 (u32 p),.string t] 193)) u10 ((Hb D k).map BB) [.int .i64 (u32 p),.string t] rfl rfl (H.alloc _) w8.heap.size (by rfl) (fy _ _ _ rfl) rfl (by rw [fm];omega) (by rw [fm];omega) (by simp;omega) k (by rw [fm];omega) ?_);intro g9 c4 w9 K L _ _;have aj:Grew W w9->True:=λ_=>trivial;have I:=NG HH (HL.grew (f.alloc (.cells #[.int .i64 (u32 p),.string t] 193))) L (H.row_ge);have al:=zh K;have an:=zh I;clear K L I aj;go_wp2_with fail
          go_roundg (n - (k+1))
          case measure=>rw [bf.out];omega
          case rel=>exact ⟨k+1,oo,oo,by go_num,by rw [A.out,fz];exact al.out,by rw [G.out,ae.out],an,λj hj=>by rcases iQ j k with M | M;exact Y.out j M;rw [show j=k from oo];exact ad.out⟩
      . have cr:(u32 uv != u32 (fld d 0))=true:=by rw [C.out,gu];exact λe=>o (He e)
        have HI:=zh (MX (D:=D) k (by rw [HN.out];exact S) (by rw [HV.out,HT.out,Bool.eq_false_iff];intro e;have e2:=(Ep _ _ _).1 e;rw [z.out] at e2;exact o (h2.symm.trans e2.2.1)));clear o h2 ho;go_wp2_with fail;go_ret2;rw [HI.out];exact ⟨_,rfl,OwnL.nil ..,HL.grew f⟩
    . have h1:=br.out;rw [Hf t _ ho] at h1;injection h1 with h1 h2;injection h2 with h2 h3;subst h1;subst h2;subst h3;have HI:=zh (MX (D:=D) k (by rw [HN.out];exact S) (by rw [HV.out,HT.out,Bool.eq_false_iff];intro e;have e2:=(Ep _ _ _).1 e;rw [z.out] at e2;exact ho e2.1));clear ho;go_wp2_with fail;go_ret2;rw [HI.out];exact ⟨_,rfl,OwnL.nil ..,HL.grew f⟩
  . obtain rfl:k=n:=oo;have bs:(Dp (CO D k)).size<=13580:=by rw [IO HL.out.live.ok (by have:=E.out;omega) k oo];omega
    have bt:=zh (λ(w:World)=>MP (Dp (CO D k)) oo w);obtain ⟨q,hq⟩:∃q,Eg (Dp (CO D k))=q:=⟨_,rfl⟩;rw [hq] at bt;have bv:Hid (U5 D=decide (q=fld d 2)):=zh (by unfold U5;rw [HN.out,cf.out,hq]);have qb:=BD q;clear hq;go_wp2_with fail;refine (bt _).mono ?_;rintro e d1 ⟨rfl,b0⟩;have av:=zh b0;clear b0;by_cases F:q=fld d 2
    . have cz:(u32 q != u32 (fld d 2))=false:=by rw [F];simp
      have c0:Hid (U5 D=true):=zh (by rw [bv.out];exact gD F);clear F;have a0:=Dx a8 0 (by have:=E.out;omega);obtain ⟨⟨td,tv,tk⟩,a5⟩:∃r,topI D=r:=⟨_,rfl⟩;rw [show AJ (D.content 0) ((0:Nat):Int)=topI D from rfl,a5] at a0;have bw:=zh (HL.grew av);have bx:=zh (X.grew av);have c1:=zh (E7 (HH.after bw) 0 (by unfold okI;omega) td tv tk 0 a0);have Q:Hid (R8 D=(!tk || (v==tv) || decide (v.toNat=tv.toNat+1))):=zh (by unfold R8;rw [HV.out,a5]);have a1:Hid (R8 D=true->AM D=Hb D k):=zh (λht=>by have:=bZ ce (λj hj=>by rw [HV.out];exact Y.out j (by rw [<-HN.out];exact hj)) c0 ht;rw [HN.out] at this;exact this);have d0:=BD tv;clear a0 a5;go_wp2_with fail;refine c1.mono ?_;rintro e b1 ⟨rfl,a4⟩;have R:=zh ((bw.out.trans a4).grew ((fh b1).alloc (.cells #[.string td,.int .u32 (u32 tv),.bool tk] 178)));have a2:=zh ((bx.kept a4.turned (λg hg e=>by have:=(bx.own_ge hg).1;have:=HH.store.lt.2;omega)).grew ((fh b1).alloc (.cells #[.string td,.int .u32 (u32 tv),.bool tk] 178)));clear a4;cases tk with
      | false=>
        have HI:Hid (AM D=Hb D k):=zh (a1 (by rw [Q.out];rfl));go_wp2_with fail;go_ret2;rw [HI.out];exact ⟨_,rfl,a2,R⟩
      | true=>
        by_cases B:v=tv
        . have N:(u32 (fld d 0) != u32 tv)=false:=by rw [C.out,B];simp
          have HI:Hid (AM D=Hb D k):=zh (a1 (by rw [Q.out,B];simp));clear B;go_wp2_with fail;go_ret2;rw [HI.out];exact ⟨_,rfl,a2,R⟩
        . have N:(u32 (fld d 0) != u32 tv)=true:=by rw [C.out,gu];exact λe=>B (He e)
          by_cases J:v.toNat=tv.toNat+1
          . have c2:(u32 (fld d 0) != u32 tv+1)=false:=by rw [C.out];unfold u32;rw [J];simp
            have HI:Hid (AM D=Hb D k):=zh (a1 (by rw [Q.out];simp [J]));clear B J;go_wp2_with fail;go_ret2;rw [HI.out];exact ⟨_,rfl,a2,R⟩
          . have c2:(u32 (fld d 0) != u32 tv+1)=true:=by rw [C.out,gu];unfold u32;omega
            have HI:Hid (AM D=[]):=zh (dX (by rw [Q.out];simp [J,B]));clear B J;go_wp2_with fail;go_ret2;rw [HI.out];exact ⟨_,rfl,OwnL.nil ..,R⟩
    . have cz:(u32 q != u32 (fld d 2))=true:=by rw [gu];exact λe=>F (He e)
      have HI:=zh (dw (D:=D) (by rw [bv.out];exact gE F));clear F;go_wp2_with fail;go_ret2;rw [HI.out];exact ⟨_,rfl,OwnL.nil ..,HL.grew av⟩
end

def bF (D:Dev):List (Int × ByteArray) × Int:=if D.failed=true then ([],10) else (AM D,0)
structure Done (w0:World) (x s m:Nat) (sy ep:Int) (D':Dev) (out:Nat->Prop) (W w':World):Prop where
 live:Live w0 x D' out w'
 store:StoreM w' s m x sy ep
 turned:Turned (λk=>(w0.heap.size<=k/\¬out k)\/k=m) W w'
theorem Looked.done {w0:World} {x s m:Nat} {sy ep:Int} {D:Dev} {out:Nat->Prop} {W w':World} (h:Looked w0 x s m sy ep D out W w'):Done w0 x s m sy ep D out W w':=⟨h.live,h.store,h.turned.mono λk _ hk=>.inr hk⟩
theorem Done.look {w0:World} {x s m:Nat} {sy ep:Int} {D:Dev} {out:Nat->Prop} {W w1 w2:World} (h:Done w0 x s m sy ep D out W w1) (k:Looked w0 x s m sy ep D out w1 w2):Done w0 x s m sy ep D out W w2:=⟨k.live,k.store,h.turned.trans (k.turned.mono λ_ _ hk=>.inr hk)⟩
theorem Done.grew {w0:World} {x s m:Nat} {sy ep:Int} {D:Dev} {out:Nat->Prop} {W w1 w2:World} (h:Done w0 x s m sy ep D out W w1) (hg:Grew w1 w2):Done w0 x s m sy ep D out W w2:=⟨h.live.grew hg,h.store.grew hg,h.turned.trans (hg.turned _)⟩
theorem Held.done {w0:World} {x s m:Nat} {sy ep:Int} {D D':Dev} {out:Nat->Prop} {W w':World} (h:Held w0 x s m sy ep D out W) (hd:Done w0 x s m sy ep D' out W w'):Held w0 x s m sy ep D' out w':=⟨hd.live,hd.store,h.os,h.om,h.m0⟩
theorem Looked.beside {w0:World} {x s m:Nat} {sy ep:Int} {D D':Dev} {out:Nat->Prop} {W w1 w2:World} (h0:Held w0 x s m sy ep D out W) (h:Looked w0 x s m sy ep D out W w1) (hl:Live w0 x D' out w2) (hB:Beside w0 out w1 w2):Done w0 x s m sy ep D' out W w2:=
 ⟨hl,h.store.kept hB (λhk=>hk.2 h0.os) (λhk=>hk.2 h0.om),(h.turned.mono λ_ _ hk=>.inr hk).trans (hB.mono λ_ _ hk=>.inl hk)⟩
theorem Ie (D:Dev):(AM D).length<=97:=by
 unfold AM;split
 . rename_i h;unfold D6 FV at h;simp only [gZ,gm] at h;rw [fm];unfold CO;rw [fm,io];exact h.1.1.2.2
 . exact iB _
theorem QZ {D:Dev} (h:D.Ok) (hl:131<=D.st.length):∀e∈AM D,e.2.size=140:=by
 have hn:=Ie D;unfold AM at hn ⊢;split at hn
 . rename_i hb;rw [if_pos hb];intro e he;obtain ⟨s,hs,rfl⟩:=ft.1 he;rw [fm] at hn;unfold CO at hs hn;rw [fm,io] at hn;obtain ⟨j,hj,rfl⟩:=ft.1 hs;have:=gU.1 hj;exact Fi h oo
 . rename_i hb;rw [if_neg hb];intro e he;cases he
theorem Ot (D:Dev) (sy ep:Int):(finD D sy ep).1.pend.length<=D.pend.length+100:=by
 have hn:=Ie D;have hr:=Od sy ep (CI (AM D)) D;have hc:(CI (AM D)).length=(AM D).length+3:=by unfold CI;rw [gK,fm];rfl
 unfold finD;split
 . show D.pend.length<=_;omega
 split
 . show D.pend.length<=_;omega
 . show (Bk sy ep (CI (AM D)) D).1.pend.length<=_;omega
section
variable {w0:World} {x s m:Nat} {sy ep:Int} {D:Dev} {out:Nat->Prop} {W:World} (h:Held w0 x s m sy ep D out W) (hlen:132<=D.st.length)
include h hlen
theorem UV:Calls Tryz.prog 177 #[ptrV s] W (SB w0 x s m sy ep D out W (bF D)):=by
 unfold bF;cases hf:D.failed with
 | true=>rw [if_pos rfl];exact OU h hlen hf
 | false=>
   rw [if_neg qs];obtain ⟨⟨d,v,k⟩,hd⟩:∃r,Be D=r:=⟨_,rfl⟩;cases k with
   | false=>exact Rw h hlen hf (by rw [hd])
   | true=>
     by_cases hv:fld d 0=v
     . by_cases h1:EW D<1
       . exact Ul h hlen hf d v hd hv h1
       . by_cases h2:97<EW D
         . exact Q2 h hlen hf d v hd hv h2
         . by_cases hz:d.extract 12 128=Ay 116
           . exact P3 h hlen hf d v hd hv ⟨oo,oo⟩ hz
           . exact QY h hlen hf d v hd hv ⟨oo,oo⟩ hz
     . exact UA h hlen hf d v hd hv
theorem Ho (hp:D.pend.length<=980000) (D':Dev) (b:Bool) (er:Int) (hr:finD D sy ep=(D',b,er)):Calls Tryz.prog 102 #[ptrV s] W λe w'=>e=.returned (.tuple #[.bool b,.int .i64 er])/\Done w0 x s m sy ep D' out W w':=by
 have HI:=zh (UV h hlen);have HH:=zh h;have d:=QZ h.live.ok oo;have g:=Ie D;unfold finD at hr;cases hf:D.failed with
 | true=>
   rw [if_pos hf] at hr;injection hr with h1 h2;injection h2 with h2 h3;subst h1;subst h2;subst h3;have i:Hid (bF D=([],10)):=zh (if_pos hf);rw [i.out] at HI;clear h hlen d g hf;go_enter Tryz.func102,Tryz.ntmps102;go_wp2_with fail;refine HI.mono ?_;rintro e w1 ⟨v,rfl,a,hl⟩;have HL:=zh hl;clear a hl;go_wp2_with fail;go_ret2;exact ⟨rfl,HL.done⟩
 | false=>
   rw [if_neg (by rw [hf];simp)] at hr;have i:Hid (bF D=(AM D,0)):=zh (if_neg (by rw [hf];simp));rw [i.out] at HI;by_cases h0:AM D=[]
   . rw [if_pos h0] at hr;injection hr with h1 h2;injection h2 with h2 h3;subst h1;subst h2;subst h3;rw [h0] at HI;clear h hlen d g hf h0;go_enter Tryz.func102,Tryz.ntmps102;go_wp2_with fail;refine HI.mono ?_;rintro e w1 ⟨v,rfl,a,hl⟩;obtain ⟨A,c,rfl,_,_,_⟩:=a.listAt;have HL:=zh hl;clear a hl;go_wp2_with fail;go_ret2;exact ⟨rfl,HL.done⟩
   . rw [if_neg h0] at hr;injection hr with h1 h2;injection h2 with h2 h3;have n:0<(AM D).length:=length_pos_iff.2 h0;obtain ⟨L,hL⟩:∃L,AM D=L:=⟨_,rfl⟩;rw [hL] at HI h1 h2 h3 d g n;obtain ⟨⟨E,q⟩,hq⟩:∃r,Bk sy ep (CI L) D=r:=⟨_,rfl⟩;rw [hq] at h1 h2 h3;subst h1;subst h2;subst h3;have HC:=zh (λ(w1:World) (hl:Looked w0 x s m sy ep D out W w1)=>KW hl.live hl.store.blk h.os hp L oo (λe he=>by rw [d e he];omega));rw [hq] at HC;clear h hlen d hf h0 hL hq;have t:((L.length:Int)==0)=false:=by rw [gF];omega
     go_enter Tryz.func102,Tryz.ntmps102;go_wp2_with fail;refine HI.mono ?_;rintro e w1 ⟨v,rfl,a,hl⟩;obtain ⟨A,c,rfl,_,_,l⟩:=a.listAt;have HL:=zh hl;have o:=zh (HC w1 hl A c l);clear a hl l HC;go_wp2_with fail;refine o.mono ?_;rintro e w2 ⟨rfl,j,k⟩;have HD:=zh (HL.beside HH j k);clear j k;by_cases f:q=0
     . subst f;go_wp2_with fail;go_ret2;exact ⟨rfl,HD⟩
     . have u:(q != 0)=true:=by rw [gu];exact f
       have p:(q==0)=false:=by rw [gF];exact f
       clear f;go_wp2_with fail;go_ret2;rw [p];exact ⟨rfl,HD⟩
end

theorem Ra (p:Wr->Bool) (sv:Nat->Nat) (l:List Wr):∀s:Dev × Nat,(l.foldl (AV p sv) s).1.st.length=s.1.st.length/\(l.foldl (AV p sv) s).1.failed=s.1.failed:=by
 induction l with
 | nil=>intro s;exact ⟨rfl,rfl⟩
 | cons r l ih=>
   intro s;rw [foldl_cons];have h:=ih (AV p sv s r)
   have e:(AV p sv s r).1.st.length=s.1.st.length/\(AV p sv s r).1.failed=s.1.failed:=by
    unfold AV;split
    . exact ⟨C6 ..,Fx ..⟩
    . exact ⟨rfl,rfl⟩
   exact ⟨h.1.trans e.1,h.2.trans e.2⟩
theorem Lr (D:Dev) (p:Wr->Bool) (sv:Nat->Nat):(Bl D p sv).st.length=D.st.length/\(Bl D p sv).failed=D.failed:=Ra p sv D.pend (D,0)
theorem Yn (D:Dev):(Je D).1.st.length=D.st.length/\((Je D).2=false->(Je D).1.failed=D.failed):=by
 unfold Je;split
 . exact ⟨rfl,λ_=>rfl⟩
 . exact ⟨rfl,λ_=>rfl⟩
 . exact ⟨(Lr D _ _).1,λh=>by cases h⟩
theorem TQ (D:Dev) (sy ep:Int):(An D sy ep).1.st.length=D.st.length/\((An D sy ep).2=0->D.failed=false/\(An D sy ep).1.failed=false):=by
 have hu:=Yn D;unfold An;cases hf:D.failed with
 | true=>rw [if_pos rfl];exact ⟨rfl,λh=>by cases h⟩
 | false=>
   rw [if_neg qs];split
   . exact ⟨rfl,λh=>by cases h⟩
   split
   . exact ⟨hu.1,λh=>by cases h⟩
   . rename_i h2;exact ⟨hu.1,λ_=>⟨rfl,(hu.2 (by simpa using h2)).trans hf⟩⟩
theorem dP (D:Dev) (sy ep:Int) (t:St):(stD D sy ep t).1.st.length=D.st.length/\((stD D sy ep t).2=0->(stD D sy ep t).1.failed=false):=by
 have ha:=TQ D sy ep;cases t with
 | put i s=>
   show (BN D sy ep i s).1.st.length=_/\((BN D sy ep i s).2=0->(BN D sy ep i s).1.failed=false);unfold BN;split
   . exact ⟨rfl,λh=>by cases h⟩
   split
   . exact ⟨rfl,λh=>by cases h⟩
   split
   . rename_i h;exact ⟨ha.1,λe=>absurd e h⟩
   . rename_i h;exact ⟨ha.1,λ_=>(ha.2 (by simpa using h)).2⟩
 | sync=>
   show (Ci D sy ep).1.st.length=_/\((Ci D sy ep).2=0->(Ci D sy ep).1.failed=false);unfold Ci;split
   . exact ⟨rfl,λh=>by cases h⟩
   split
   . rename_i h;exact ⟨ha.1,λe=>absurd e h⟩
   . rename_i h;have hf:=Lr (An D sy ep).1 (GB sy) (λ_=>140);exact ⟨hf.1.trans ha.1,λ_=>hf.2.trans (ha.2 (by simpa using h)).2⟩
theorem aW (sy ep:Int) (l:List St):∀D,(Bk sy ep l D).1.st.length=D.st.length/\(D.failed=false->(Bk sy ep l D).2=0->(Bk sy ep l D).1.failed=false):=by
 induction l with
 | nil=>intro D;exact ⟨rfl,λh _=>h⟩
 | cons t l ih=>
   intro D;have h:=dP D sy ep t;show (if (stD D sy ep t).2=0 then Bk sy ep l (stD D sy ep t).1 else stD D sy ep t).1.st.length=_/\(_->(if (stD D sy ep t).2=0 then Bk sy ep l (stD D sy ep t).1 else stD D sy ep t).2=0->(if (stD D sy ep t).2=0 then Bk sy ep l (stD D sy ep t).1 else stD D sy ep t).1.failed=false);split
   . rename_i h0;have k:=ih (stD D sy ep t).1;exact ⟨k.1.trans h.1,λ_=>k.2 (h.2 h0)⟩
   . rename_i h0;exact ⟨h.1,λ_ e=>absurd e h0⟩
theorem IW (D:Dev) (sy ep:Int):(finD D sy ep).1.st.length=D.st.length/\((finD D sy ep).2.2=0->(finD D sy ep).1.failed=false):=by
 have hr:=aW sy ep (CI (AM D)) D;unfold finD;cases hf:D.failed with
 | true=>rw [if_pos rfl];exact ⟨rfl,λh=>by cases h⟩
 | false=>
   rw [if_neg qs];split
   . exact ⟨rfl,λ_=>hf⟩
   . exact ⟨hr.1,λh=>hr.2 hf h⟩
theorem Qm {D:Dev} (hf:D.failed=false) (hl:1<=D.st.length):OK D=(topI D,if (topI D).ok=true then 0 else 11):=by
 unfold OK;rw [show Dm D 0=(topI D,0) from Dx hf 0 oo];rfl
section
variable {w0:World} {x s m:Nat} {sy ep:Int} {D:Dev} {out:Nat->Prop} {W:World}
def fW (w0:World) (x:Nat) (sy ep:Int) (D':Dev) (out:Nat->Prop) (W:World) (e:Ending) (w':World):Prop:=
 ∃s m,e=.returned (.tuple #[ptrV s,.int .i64 0])/\Live w0 x D' (λk=>out k\/k=s\/k=m) w'/\StoreM w' s m x sy ep/\(W.heap.size<=s/\W.heap.size<=m)/\Beside w0 out W w'
theorem Pk (h:Live w0 x D out W) (d:132<=D.st.length/\D.st.length<=1155) (hs:1<=sy/\sy<=4) (he:0<=ep/\ep<=1099511627776) (hp:D.pend.length<=980000) (D':Dev) (hr:Qy D sy ep=(D',0)):
 Calls Tryz.prog 72 #[ptrV x,.agg #[.int .i64 sy,.int .i64 ep]] W (fW w0 x sy ep D' out W):=by
 have B:=zh (λ(w1:World) (hg:Grew W w1)=>Q1 (h.grew hg) sy ep d hs he);have C:=zh (λ(w1:World) (hg:Grew W w1)=>Kc (h.grew hg) sy ep);obtain ⟨⟨E,b,f⟩,hE⟩:∃r,finD D sy ep=r:=⟨_,rfl⟩;have F:=zh (λ(s m:Nat) (out2:Nat->Prop) (w1:World) (h2:Held w0 x s m sy ep D out2 w1)=>Ho h2 d.1 hp E b f hE);have hl:=IW D sy ep;have o:IG D sy ep=true:=by unfold IG DA;simp;omega
 unfold Qy at hr;rw [hE,if_neg (by rw [o];simp)] at hr;rw [hE] at hl
 have h0:f=0:=by
  rcases Decidable.em (f=0) with h0 | h0
  . exact h0
  . rw [if_pos (by simpa using h0)] at hr;injection hr with _ h2
 rw [if_neg (by simpa using h0)] at hr;subst h0;have p:=hl.2 rfl;have q:E.st.length=D.st.length:=hl.1;have g:=Qm p (by rw [q];omega);obtain ⟨⟨td,tv,tk⟩,ht⟩:∃r,topI E=r:=⟨_,rfl⟩;rw [ht] at g hr
 have hk:tk=true:=by
  cases tk with
  | true=>rfl
  | false=>rw [if_pos rfl] at hr;injection hr with _ h2;cases h2
 subst hk;rw [if_neg qs] at hr;injection hr with h1 _;subst h1;have G:=zh g;have HL:=zh h;have M:=h.base.size;have i:Grew W (W.alloc (.cells #[.int .i64 sy,.int .i64 ep] 37)):=(fh W).alloc _;clear h d hs he hp hE hl o p q g ht;go_enter Tryz.func72,Tryz.ntmps72;go_wp2_with fail;refine (B _ i).mono ?_;rintro e w1 ⟨rfl,g1⟩;have t:Grew W w1:=i.trans g1;have a:=(fy W 37 #[.int .i64 sy,.int .i64 ep] rfl).grew g1;have c0:=a.cell 0;have c1:=a.cell 1;have cl:=a.lt;have c:=zh t;clear t a g1 i;go_wp2_with fail;refine (C _ c).mono ?_;rintro e w2 ⟨s,m,rfl,n,g2,y,z⟩;have j:Grew W w2:=c.out.trans g2;have H:W.heap.size<=s:=fx c.size y;have I:W.heap.size<=m:=fx c.size z;have J:=n.lt
 have u:Live w0 x D (λk=>out k\/k=s\/k=m) w2:=(HL.more j).few (λk hk=>by
  rcases hk with hk | hk | hk
  . exact .inl hk
  . exact .inr ⟨oo,oo⟩
  . exact .inr ⟨oo,oo⟩)
 have v:Held w0 x s m sy ep D (λk=>out k\/k=s\/k=m) w2:=⟨u,n,.inr (.inl rfl),.inr (.inr rfl),oo⟩;have w:=zh v;have K:=zh j;clear n g2 y z J u v j c0 c1 cl;go_wp2_with fail;refine (F s m _ w2 w).mono ?_;rintro e w3 ⟨rfl,hd⟩;have HT:=zh (P2 (w.done hd));rw [G.out] at HT;have HD:=zh hd;clear hd;go_wp2_with fail;refine HT.mono ?_;rintro e w4 ⟨rfl,A⟩;unfold LK;have L:=zh A;clear A;go_wp2_with fail;go_ret2;have l:=(HD.look L).grew ((fh w4).alloc (.cells #[.string td,.int .u32 (u32 tv),.bool true] 178))
 exact ⟨s,m,rfl,l.live,l.store,⟨H,I⟩,(K.turned _).next (l.turned) (λk hk hS=>by
  rcases hS with hS | hS
  . exact ⟨hS.1,λh9=>hS.2 (.inl h9)⟩
  . exact absurd hk oo)⟩
end

end
end Go.Proofs.YtfklieeipokllaaGreat
