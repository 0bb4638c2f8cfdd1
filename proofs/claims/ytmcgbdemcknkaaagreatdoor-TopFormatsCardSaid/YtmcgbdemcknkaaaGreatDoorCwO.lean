/- Parts of the proof (packed), 15. -/
import Derived.Shelf.SlSortCmp.NoneTotal
import Derived.Test.YtmcgbdemcknkaaaGreatDoorCwL
import Derived.Test.YtmcgbdemcknkaaaGreatDoorCwD
namespace Go.Proofs.YtmcgbdemcknkaaaGreatDoor
set_option linter.all false
set_option maxRecDepth 100000
set_option maxHeartbeats 16000000
open List
section
attribute [local go_sem ↓] Go.wp_at_zero Go.wp_at_succ
open Go.RowKit
def C5 (D:Dev) (k:Nat):Prop:=(topI D).ok=true/\(mapI D k).ok=true/\(mapI D k).ver=fld (topI D).data k
instance (D:Dev) (k:Nat):Decidable (C5 D k):=by unfold C5;exact inferInstance
def Dr (D:Dev) (k:Nat):Int:=if (topI D).ok=false then 11 else if (mapI D k).ok=false then 11 else 12
structure ViewAt (w:World) (lo g s mm:Nat) (topv:Value) (F:Int->Option Value) (D:Dev):Prop where
 blk:Blk w g 277 #[ptrV s,topv,.map (some mm)]
 lg:lo<=g
 lm:lo<=mm
 map:MapI w mm F
 top:topv=.pointer none\/∃t,lo<=t/\topv=ptrV t/\Blk w t 201 (AE (fld (topI D).data))/\(topI D).ok=true
 maps:∀k v,F k=some v->∃(b j:Nat),k=(j:Int)/\v=ptrV b/\lo<=b/\Blk w b 201 (AE (fld (mapI D j).data))/\C5 D j
def ViewM (w:World) (lo g s mm:Nat) (D:Dev):Prop:=∃topv F,ViewAt w lo g s mm topv F D
theorem ViewAt.kept {w w':World} {lo g s mm:Nat} {topv:Value} {F:Int->Option Value} {D:Dev} (h:ViewAt w lo g s mm topv F D) {S:Nat->Prop} (ht:Turned S w w') (hS:∀k,lo<=k->k<w.heap.size->¬S k):ViewAt w' lo g s mm topv F D:=by
 refine ⟨h.blk.turned ht (hS g h.lg h.blk.lt),h.lg,h.lm,h.map.turned ht (hS mm h.lm h.map.lt),?_,λk v hk=>?_⟩
 . rcases h.top with h1 | ⟨t,h1,h2,h3,h4⟩
   . exact .inl h1
   . exact .inr ⟨t,h1,h2,h3.turned ht (hS t h1 h3.lt),h4⟩
 . obtain ⟨b,j,h1,h2,h3,h4,h5⟩:=h.maps k v hk;exact ⟨b,j,h1,h2,h3,h4.turned ht (hS b h3 h4.lt),h5⟩
theorem ViewAt.grew {w w':World} {lo g s mm:Nat} {topv:Value} {F:Int->Option Value} {D:Dev} (h:ViewAt w lo g s mm topv F D) (hg:Grew w w'):ViewAt w' lo g s mm topv F D:=h.kept (hg.turned (λ_=>False)) (λ_ _ _ h=>h)
theorem ViewAt.looked {w0:World} {x s' m:Nat} {sy ep:Int} {E:Dev} {out:Nat->Prop} {w w':World} {lo g s mm:Nat} {topv:Value} {F:Int->Option Value} {D:Dev} (h:ViewAt w lo g s mm topv F D) (hl:Looked w0 x s' m sy ep E out w w') (hm:m<lo):ViewAt w' lo g s mm topv F D:=h.kept hl.turned (λk hk _ e=>oo)
theorem ViewAt.ver_ne {w:World} {lo g s mm:Nat} {topv:Value} {F:Int->Option Value} {D:Dev} (h:ViewAt w lo g s mm topv F D) {b:Nat} {cs:Array Value} (hb:Blk w b 201 cs):¬b=g/\¬b=mm:=⟨Blk.ne_ hb h.blk qd,Ch hb h.map⟩
theorem ViewAt.setTop {w:World} {lo g s mm:Nat} {topv:Value} {F:Int->Option Value} {D:Dev} (h:ViewAt w lo g s mm topv F D) {t:Nat} (ht:lo<=t) (hb:Blk w t 201 (AE (fld (topI D).data))) (a:(topI D).ok=true):ViewAt (w.setCell ⟨g,1,none⟩ (ptrV t)) lo g s mm (ptrV t) F D:=by
 have hT:Turned (λk=>k=g) w (w.setCell ⟨g,1,none⟩ (ptrV t)):=(jD (λk=>k=g) w).setCell (p:=⟨g,1,none⟩) (λ_=>rfl) _;refine ⟨h.blk.set_ 1 _,h.lg,h.lm,h.map.turned hT (λe=>Ch h.blk h.map e.symm),.inr ⟨t,ht,rfl,hb.turned hT (h.ver_ne hb).1,a⟩,λk v hk=>?_⟩;obtain ⟨b,j,h1,h2,h3,h4,h5⟩:=h.maps k v hk;exact ⟨b,j,h1,h2,h3,h4.turned hT (h.ver_ne h4).1,h5⟩
theorem ViewAt.setMap {w w':World} {lo g s mm:Nat} {topv:Value} {F:Int->Option Value} {D:Dev} (h:ViewAt w lo g s mm topv F D) {b k:Nat} (c:lo<=b) (hb:Blk w b 201 (AE (fld (mapI D k).data))) (d:C5 D k) (hm:MapI w' mm (upd F (k:Int) (some (ptrV b)))) (ht:Turned (λq=>q=mm) w w'):ViewAt w' lo g s mm topv (upd F (k:Int) (some (ptrV b))) D:=by
 refine ⟨h.blk.turned ht (Ch h.blk h.map),h.lg,h.lm,hm,?_,λq v hq=>?_⟩
 . rcases h.top with h1 | ⟨t,h1,h2,h3,h4⟩
   . exact .inl h1
   . exact .inr ⟨t,h1,h2,h3.turned ht (h.ver_ne h3).2,h4⟩
 . by_cases a:q=(k:Int)
   . subst a;rw [ER] at hq;exact ⟨b,k,rfl,(Option.some.inj hq).symm,c,hb.turned ht (h.ver_ne hb).2,d⟩
   . rw [Ep _ _ a] at hq;obtain ⟨b',j,h1,h2,h3,h4,h5⟩:=h.maps q v hq;exact ⟨b',j,h1,h2,h3,h4.turned ht (h.ver_ne h4).2,h5⟩
theorem Tj {D:Dev} (hf:D.failed=false) (k:Nat) (hk:k<32) (hl:132<=D.st.length) (v:BitVec 32):C1 D (1+(k:Int)) v=(if (mapI D k).ok=false then (KQ,11) else if (mapI D k).ver≠v then (KQ,12) else (mapI D k,0)):=by
 unfold C1;rw [show (1+(k:Int))=((1+k:Nat):Int) from oo,Dv hf (1+k) oo,if_neg qs];rfl
theorem RH (s:Nat) (D:Dev) (lo:Nat) (w:World) (a:lo<=w.heap.size):Calls Tryz.prog 151 #[ptrV s] w λe w'=>∃g mm,e=.returned (ptrV g)/\ViewM w' lo g s mm D/\Grew w w':=by
 have b:=@run_makeMap Tryz.prog;have HB:Hid (Blk ((w.alloc (.map #[] 0)).alloc (.cells #[ptrV s,.pointer none,.map (some w.heap.size)] 277)) (w.heap.size+1) 277 #[ptrV s,.pointer none,.map (some w.heap.size)]):=zh (ik _ _ _ qs);have HM:Hid (MapI ((w.alloc (.map #[] 0)).alloc (.cells #[ptrV s,.pointer none,.map (some w.heap.size)] 277)) w.heap.size (λ_=>none)):=zh ((MapIs.made _ rfl).alloc _);go_enter Tryz.func151,Tryz.ntmps151;go_wp2_with fail;go_ret;exact ⟨_,_,rfl,⟨_,_,⟨HB,oo,oo,HM,.inl rfl,λk v h=>by cases h⟩⟩,gG⟩

theorem F6 (w:World):(zeroValue 215).run Tryz.prog w=.ok (.pointer none) w:=qk
theorem CQ {w1 w2:World} (hg:Grew w1 w2) {b o:Nat} {v:Value} (h:w1.cell? ⟨b,o,none⟩=some v):w2.cell? ⟨b,o,none⟩=some v:=(hg.cellEq b o (ME h).1).trans h
theorem Qo {w1 w2:World} {g t' k s:Nat} {ver:BitVec 32} (hg:Grew w1 w2) (h:(λw':World=>w'.cell? ⟨g,0,none⟩=some (ptrV s)/\w'.cell? ⟨g,1,none⟩=some (ptrV t')/\g<w'.heap.size/\w'.cell? ⟨t',k,none⟩=some (.int .u32 (u32 ver))/\t'<w'.heap.size) w1):(λw':World=>w'.cell? ⟨g,0,none⟩=some (ptrV s)/\w'.cell? ⟨g,1,none⟩=some (ptrV t')/\g<w'.heap.size/\w'.cell? ⟨t',k,none⟩=some (.int .u32 (u32 ver))/\t'<w'.heap.size) w2:=⟨CQ hg h.1,CQ hg h.2.1,ig h.2.2.1 hg.size,CQ hg h.2.2.2.1,ig h.2.2.2.2 hg.size⟩
def up (out:Nat->Prop) (lo:Nat) (w:World) (k:Nat):Prop:=out k\/(lo<=k/\k<w.heap.size)
theorem Held.up {w0:World} {x s m lo:Nat} {sy ep:Int} {D:Dev} {out:Nat->Prop} {W w':World} (h:Held w0 x s m sy ep D (up out lo W) W) (hl:w0.heap.size<=lo/\s<lo) (hm:m<lo) (ht:Turned (λq=>q=m\/lo<=q) W w') (c:StoreM w' s m x sy ep):Held w0 x s m sy ep D (up out lo w') w':=by
 have d:=h.os;have a:=h.om;obtain ⟨q,hx,hd,e,hf,hn⟩:=h.live
 have b:∀k,q.feet k->k<lo:=λk hk=>by
  rcases jY k lo with h9 | h9
  . exact h9
  . exact absurd hk (hn k (.inr ⟨h9,hd.feet_lt k hk⟩)).2
 refine ⟨⟨q,hx,hd.kept ht (λk hk h9=>?_),e.turn ht (λk hk=>?_),hf,λk hk=>?_⟩,c,?_,?_,h.m0⟩
 . rcases h9 with h9 | h9
   . rw [h9] at hk;exact (hn m a).2 hk
   . exact absurd (b k hk) oo
 . rcases hk with hk | hk
   . rw [hk];exact h.m0
   . omega
 . rcases hk with hk | hk
   . exact ⟨ig (hn k (.inl hk)).1 ht.size,(hn k (.inl hk)).2⟩
   . exact ⟨hk.2,λh9=>absurd (b k h9) oo⟩
 . rcases d with h9 | h9
   . exact .inl h9
   . exact absurd h9.1 oo
 . rcases a with h9 | h9
   . exact .inl h9
   . exact absurd h9.1 oo
def Yz (w0:World) (x s m:Nat) (sy ep:Int) (D:Dev) (out:Nat->Prop) (W:World) (lo g mm k:Nat) (e:Ending) (w':World):Prop:=
 ((C5 D k->∃b,e=.returned (.tuple #[ptrV b,.int .i64 0])/\Blk w' b 201 (AE (fld (mapI D k).data))/\lo<=b)/\(¬C5 D k->e=.returned (.tuple #[.pointer none,.int .i64 (Dr D k)])))/\
 Held w0 x s m sy ep D (up out lo w') w'/\ViewM w' lo g s mm D/\Turned (λq=>q=m\/q=g\/q=mm) W w'
section
variable {w0:World} {x s m:Nat} {sy ep:Int} {D:Dev} {out:Nat->Prop} {W:World} {lo g mm:Nat} (h:Held w0 x s m sy ep D (up out lo W) W) (hlow:w0.heap.size<=lo/\s<lo) (hlen:132<=D.st.length) (hf:D.failed=false) {F:Int->Option Value} (hm:m<lo) (k:Nat) (hk:k<32)
include h hlow hlen hf hm hk
theorem Y6 (t:Nat) (hv:ViewAt W lo g s mm (ptrV t) F D):Calls Tryz.prog 189 #[ptrV g,.int .i64 (k:Int)] W (Yz w0 x s m sy ep D out W lo g mm k):=by
 have A:=zh (λ(w':World) (ht:Turned (λq=>q=m\/lo<=q) W w') (hst:StoreM w' s m x sy ep)=>h.up hlow hm ht hst);have a5:Held w0 x s m sy ep D (up out lo W) W:=h;obtain ⟨U,a0⟩:∃o,o=up out lo W:=⟨_,rfl⟩;rw [<-a0] at h;have B:Hid (Turned (λq=>q=m\/q=g\/q=mm) W W):=zh (jD _ _);clear a5 a0;have c:=hv.blk;have g0:=c.cell 0;have g1:=c.cell 1;have g2:=c.cell 2;have gl:=c.lt;obtain ⟨kl,G⟩:=Fd (k:Int) (CR _ oo);have b1:(0:Int)<=(k:Int)/\(k:Int)<32:=oo;have I:=hv.map.lookup_val BH Bx Tryz.underlying214 (F6 _) (k:Int) G;have HV:=zh hv;have HH:=zh h;cases hF:F (k:Int) with
 | some v=>
   obtain ⟨b,j,hj,rfl,bx,a1,a2⟩:=hv.maps _ _ hF;obtain rfl:k=j:=oo;rw [hF,jv] at I;have HP:=zh (show C5 D k/\Blk W b 201 (AE (fld (mapI D k).data))/\lo<=b from ⟨a2,a1,bx⟩);clear h hv G hF a1 a2 c hf hlen;go_enter Tryz.func189,Tryz.ntmps189;go_wp2_with fail;go_ret2;exact ⟨⟨λ_=>⟨b,rfl,HP.2.1,HP.2.2⟩,λhn=>absurd HP.1 hn⟩,A _ (jD _ _) HH.store,⟨_,_,HV⟩,B⟩
 | none=>
   rw [hF,Option.getD_none] at I
   obtain ⟨t',cc,b0,H,a3⟩:∃t',lo<=t'/\t'=t/\Blk W t' 201 (AE (fld (topI D).data))/\(topI D).ok=true:=by
    rcases hv.top with h1 | ⟨t',h1,h2,h3,h4⟩
    . cases h1
    . refine ⟨t',h1,?_,h3,h4⟩;injection h2 with h2;injection h2 with h2;injection h2 with h2 _ _;exact h2.symm
   subst b0;obtain ⟨ver,V⟩:∃ver,fld (topI D).data k=ver:=⟨_,rfl⟩;have tc:=H.cell k;rw [Cg _ _ hk,V] at tc;have tl:=H.lt;have J:=zh (λ(w1:World) (hh:Held w0 x s m sy ep D U w1)=>JH hh (1+(k:Int)) (CR _ oo) ver);have X:=zh (Tj hf k hk hlen ver);have b2:IntKind.i64.wrap (1+(k:Int))=1+(k:Int):=jJ _ oo;have b3:(0:Int)<=1+(k:Int):=oo;have b4:=zh hF;have K:=zh a3;have b5:=zh H;have Y:=zh G;have Z:=zh V;obtain ⟨⟨⟨bd,bv,bb⟩,er⟩,a4⟩:∃r,C1 D (1+(k:Int)) ver=r:=⟨_,rfl⟩;rw [a4] at J X;clear h hv G hF c hf hlen H a3 V a4;go_enter Tryz.func189,Tryz.ntmps189;go_wp2_with fail;refine AB [14,19] (λw':World=>w'.cell? ⟨g,0,none⟩=some (ptrV s)/\w'.cell? ⟨g,1,none⟩=some (ptrV t')/\g<w'.heap.size/\w'.cell? ⟨t',k,none⟩=some (.int .u32 (u32 ver))/\t'<w'.heap.size) qk ?_;have hS:=(show (λw':World=>w'.cell? ⟨g,0,none⟩=some (ptrV s)/\w'.cell? ⟨g,1,none⟩=some (ptrV t')/\g<w'.heap.size/\w'.cell? ⟨t',k,none⟩=some (.int .u32 (u32 ver))/\t'<w'.heap.size) W.drew from ⟨g0,g1,gl,tc,tl⟩);refine tQ 0 42 ?_;refine tT 1 (some 43) hS ?_;refine tQ 2 44 ?_;refine tT 3 (some 45) hS ?_;refine tQ 4 46 ?_;refine tQ 5 47 ?_;refine tQ 6 48 ?_;refine tT 7 (some 49) hS ?_;refine tQ 8 50 ?_;refine tT 9 (some 51) hS ?_;refine tQ 10 52 ?_;refine tT 11 (some 53) hS ?_;refine tQ 12 54 ?_;refine tT 13 (some 55) hS ?_;refine Dk (i:=14) (j:=18) rfl rfl qk ?faa ?fab
   case' faa=>
    intro K' hK;rw [if_pos (by rfl)];simp only [jn,jS,ja];go_wp2_with fail;refine (J _ (HH.grew (iW W).drew)).mono ?_;rintro e w1 ⟨rfl,l⟩;unfold LB;have u:Looked w0 x s m sy ep D U W (w1.alloc (.cells #[.string bd,.int .u32 (u32 bv),.bool bb] 206)):=((HH.same (iW W).drew).trans l).grew ((iW w1).alloc _);have w:Blk (w1.alloc (.cells #[.string bd,.int .u32 (u32 bv),.bool bb] 206)) w1.heap.size 206 #[.string bd,.int .u32 (u32 bv),.bool bb]:=ik w1 _ _ rfl;have ad:W.heap.size<=w1.heap.size:=l.turned.size;have a6:Blk (w1.alloc (.cells #[.string ⟨#[]⟩,.int .u32 0,.bool false] 206)) w1.heap.size 206 #[.string ⟨#[]⟩,.int .u32 0,.bool false]:=ik w1 _ _ rfl;clear l;go_wp2_with fail;refine hK.out _ _ (.inl (by rfl)) ?_;clear hK;refine tQ 15 41 ?_;refine tQ 16 57 ?_;refine tQ 17 58 ?_;refine tO 18 λK' hK=>?_;go_wp2_with fail;refine hK.out _ _ (.inr (λhS=>Qo ((iW w1).alloc _) hS)) ?_;clear hK;refine tO 19 λK' hK=>?_;go_wp2_with fail;refine hK.out _ _ (.inl (by rfl)) ?_;clear hK a6;refine tQ 20 10 ?_;refine AA qk ?_ _;generalize hwz:w1.alloc (.cells #[.string bd,.int .u32 (u32 bv),.bool bb] 206)=wz at*
    generalize hgz:w1.heap.size=gx at*
    clear hwz hgz
   case' fab=>
    intro K' hK;rw [if_pos (by rfl)];simp only [jn,jS,ja];go_wp2_with fail;have c:Grew W (W.alloc (.cells #[.string ⟨#[]⟩,.int .u32 0,.bool false] 206)).drew:=((iW W).alloc _).drew;have af:Blk (W.alloc (.cells #[.string ⟨#[]⟩,.int .u32 0,.bool false] 206)).drew W.heap.size 206 #[.string ⟨#[]⟩,.int .u32 0,.bool false]:=(ik W _ _ rfl).drew;refine hK.out _ _ (.inr (λhS=>Qo ((iW W.drew).alloc _) hS)) ?_;clear hK;refine tO 14 λK' hK=>?_;go_wp2_with fail;refine (J _ (HH.grew c)).mono ?_;rintro e w1 ⟨rfl,l⟩;unfold LB;have a7:=HH.store.lt.2;have f:=af.looked l oo;have z0:=f.cell 0;have z1:=f.cell 1;have z2:=f.cell 2;have f0:=f.frozen 0;have f1:=f.frozen 1;have f2:=f.frozen 2;have zl:=f.lt;have ad:W.heap.size<=W.heap.size:=iX _;have u:Looked w0 x s m sy ep D U W (((w1.setCell ⟨W.heap.size,0,none⟩ (.string bd)).setCell ⟨W.heap.size,1,none⟩ (.int .u32 (u32 bv))).setCell ⟨W.heap.size,2,none⟩ (.bool bb)):=CX HH ((HH.same c).trans l) (gT);have w:Blk (((w1.setCell ⟨W.heap.size,0,none⟩ (.string bd)).setCell ⟨W.heap.size,1,none⟩ (.int .u32 (u32 bv))).setCell ⟨W.heap.size,2,none⟩ (.bool bb)) W.heap.size 206 #[.string bd,.int .u32 (u32 bv),.bool bb]:=gB;clear l f a7 c af;go_wp2_with fail;refine hK.out _ _ (.inl (by rfl)) ?_;clear hK;refine tQ 15 41 ?_;refine tQ 16 57 ?_;refine tQ 17 58 ?_;refine tO 19 λK' hK=>?_;go_wp2_with fail;refine hK.out _ _ (.inl (by rfl)) ?_;clear hK z0 z1 z2 f0 f1 f2 zl;refine tQ 20 10 ?_;refine AA qk ?_ _;generalize hwz:((w1.setCell ⟨W.heap.size,0,none⟩ (.string bd)).setCell ⟨W.heap.size,1,none⟩ (.int .u32 (u32 bv))).setCell ⟨W.heap.size,2,none⟩ (.bool bb)=wz at u w ⊢;obtain ⟨gx,hgz⟩:∃gx,gx=W.heap.size:=⟨_,rfl⟩;rw [<-hgz] at w ad ⊢;clear hwz hgz
   all_goals
    have y:=HV.looked u hm;have d:=zh u;have ag:=zh w;have n:=X.out;clear u w g0 g1 g2 gl tc tl I;by_cases a:(mapI D k).ok=false
    . rw [if_pos a] at n;injection n with h1 h2;subst h2;have L:Hid (¬C5 D k):=zh (λhn=>by rw [hn.2.1] at a;cases a);have M:Hid (Dr D k=11):=zh (by unfold Dr;rw [if_neg (by rw [K.out];simp),if_pos a]);clear a h1 y;go_wp2_with fail;go_ret2;exact ⟨⟨λhn=>absurd hn L,λ_=>by rw [M.out];rfl⟩,A _ (d.turned.mono λ_ _ hq=>.inl hq) d.store,⟨_,_,HV.looked d hm⟩,B.out.trans (d.turned.mono λ_ _ hq=>.inl hq)⟩
    by_cases p:(mapI D k).ver≠ver
    . rw [if_neg a,if_pos p] at n;injection n with h1 h2;subst h2;have L:Hid (¬C5 D k):=zh (λhn=>p (by rw [<-Z.out];exact hn.2.2));have M:Hid (Dr D k=12):=zh (by unfold Dr;rw [if_neg (by rw [K.out];simp),if_neg a]);clear a p h1 y;go_wp2_with fail;go_ret2;exact ⟨⟨λhn=>absurd hn L,λ_=>by rw [M.out];rfl⟩,A _ (d.turned.mono λ_ _ hq=>.inl hq) d.store,⟨_,_,HV.looked d hm⟩,B.out.trans (d.turned.mono λ_ _ hq=>.inl hq)⟩
    rw [if_neg a,if_neg p] at n;injection n with h1 h2;subst h2;have N:(mapI D k).ok=true:=by simpa using a
    have O:Hid ((mapI D k).data=bd):=zh (by rw [<-h1]);have al:bd.size=128:=by rw [<-O.out];exact Cr N
    have an:Hid (C5 D k):=zh ⟨K,N,by rw [Z.out];simpa using p⟩;have a8:=zh (Il bd al);have a9:=zh y;have x0:=ag.cell 0;have xl:=ag.out.lt;have b9:=Fy;have bc:lo<=g:=y.lg;have bf:=zh (show lo<=W.heap.size from ij HV.lg (Nat.le_of_lt HV.blk.lt));clear a p h1 y al N bc;go_wp2_with fail;refine (a8 _).mono ?_;rintro e w4 ⟨rfl,g4⟩;have ap:Blk ((w4.alloc (.cells (AE λ_=>0#32) 201)).setRow w4.heap.size (AE (fld bd))) w4.heap.size 201 (AE (fld bd)):=(ik w4 _ _ rfl).setRow _;have P:Grew wz ((w4.alloc (.cells (AE λ_=>0#32) 201)).setRow w4.heap.size (AE (fld bd))):=(g4.alloc _).setRow g4.size _;have C:=a9.grew P;have y2:=C.blk.cell 2;have yl:=C.blk.lt;have Q:=zh C;have R:=zh ap;have S:=zh (d.grew P);have av:lo<=w4.heap.size:=by have:=bf.out;have:=d.turned.size;have:=g4.size;omega
    clear ap P C g4 x0 xl;go_wp2_with (first | (refine AF rfl 201 _ _ rfl w4.heap.size (AE (fld bd)) rfl rfl 201 (AE λ_=>0#32) (ik w4 _ _ rfl) (by rw [AW,AW]) (by rw [AW];exact EW) (ED _) ?_) | (refine CY rfl _ _ _ 214 rfl 215 BH Bx Tryz.underlying214 rfl Q.map (k:Int) Y (ptrV w4.heap.size) rfl rfl ?_;intro w6 aw T;have z:=Q.setMap av (by rw [O.out];exact R.out) an aw T;have q2:=z.blk.cell 2;have ql:=z.blk.lt;have bk:=z.map.lookup_val BH Bx Tryz.underlying214 (F6 _) (k:Int) Y;rw [ER,jv] at bk;have bl:=zh z;have E:=zh T;clear z T aw));go_ret2;have bs:Turned (λq=>q=m\/lo<=q) W w6:=(S.turned.mono λ_ _ hq=>.inl hq).trans (E.mono λq _ hq=>.inr (by rw [hq];exact HV.lm));have bt:Turned (λq=>q=m\/q=g\/q=mm) W w6:=(S.turned.mono λ_ _ hq=>.inl hq).trans (E.mono λq _ hq=>.inr (.inr hq));have ca:=HV.lm;have cb:=hlow.2;exact ⟨⟨λ_=>⟨w4.heap.size,rfl,by rw [O.out];exact R.turned E (Q.ver_ne R).2,av⟩,λhn=>absurd an hn⟩,A _ bs (S.store.kept E oo oo),⟨_,_,bl⟩,B.out.trans bt⟩
theorem Zh (hv:ViewAt W lo g s mm (.pointer none) F D):Calls Tryz.prog 189 #[ptrV g,.int .i64 (k:Int)] W (Yz w0 x s m sy ep D out W lo g mm k):=by
 have R:=zh (λ(w':World) (ht:Turned (λq=>q=m\/lo<=q) W w') (hst:StoreM w' s m x sy ep)=>h.up hlow hm ht hst);have a:=hv.blk;have g0:=a.cell 0;have g1:=a.cell 1;have g2:=a.cell 2;have gl:=a.lt;obtain ⟨kl,K⟩:=Fd (k:Int) (CR _ oo);have cq:(0:Int)<=(k:Int)/\(k:Int)<32:=oo;have T:=zh hv;have U:=zh (Qh h);have V:=Qw hf oo;obtain ⟨⟨td,tv,tk⟩,ht⟩:∃r,topI D=r:=⟨_,rfl⟩;have a4:lo<=W.heap.size:=ij hv.lg (Nat.le_of_lt hv.blk.lt);rw [V,ht] at U;cases tk with
 | false=>
   have B:Hid (¬C5 D k):=zh (λhn=>by have:=hn.1;rw [ht] at this;cases this);have C:Hid (Dr D k=11):=zh (by unfold Dr;rw [ht];rfl);clear h hv K a hf hlen V ht;go_enter Tryz.func189,Tryz.ntmps189;go_wp2_with fail;refine U.mono ?_;rintro e w1 ⟨rfl,d⟩;unfold LB;have c:=zh (d.grew ((iW w1).alloc (.cells #[.string td,.int .u32 (u32 tv),.bool false] 206)));clear d;go_wp2_with fail;go_ret2;exact ⟨⟨λhn=>absurd hn B,λ_=>by rw [C.out];rfl⟩,R _ (c.turned.mono λ_ _ hq=>.inl hq) c.store,⟨_,_,T.looked c hm⟩,c.turned.mono λ_ _ hq=>.inl hq⟩
 | true=>
   have E:td.size=128:=by
    have e9:AN (D.content 0) 0=topI D:=rfl;have:=Cr (t:=D.content 0) (i:=0) (by rw [e9,ht]);rw [e9,ht] at this;exact this
   have L:(topI D).ok=true:=by rw [ht]
   have M:(topI D).data=td:=by rw [ht]
   have X:=zh (Il td E);have b5:=zh (λv=>Tj hf k hk hlen v);have b9:=Fy;clear E V ht;go_enter Tryz.func189,Tryz.ntmps189;go_wp2_with fail;refine U.mono ?_;rintro e w1 ⟨rfl,d⟩;unfold LB;have n:=d.grew ((iW w1).alloc (.cells #[.string td,.int .u32 (u32 tv),.bool true] 206));clear d;go_wp2_with fail;refine (X _).mono ?_;rintro e w3 ⟨rfl,g3⟩;have w:=n.grew g3;have a5:lo<=w3.heap.size:=ij a4 (w.turned.size);have G:Grew w3 ((w3.alloc (.cells (AE λ_=>0#32) 201)).setRow w3.heap.size (AE (fld td))):=((iW w3).alloc _).setRow (iX _) _;have N:Blk ((w3.alloc (.cells (AE λ_=>0#32) 201)).setRow w3.heap.size (AE (fld td))) w3.heap.size 201 (AE (fld td)):=(ik w3 _ _ rfl).setRow _;have y:=(T.looked w hm).grew G;have k1:=y.blk.cell 1;have kf:=y.blk.frozen 1;have ca:=y.blk.lt;have f:=y.setTop a5 (by rw [M];exact N) L;have Y:Turned (λq=>q=m\/lo<=q) W (((w3.alloc (.cells (AE λ_=>0#32) 201)).setRow w3.heap.size (AE (fld td))).setCell ⟨g,1,none⟩ (ptrV w3.heap.size)):=(((w.turned.mono λ_ _ hq=>.inl hq).trans (G.turned _))).setCell (p:=⟨g,1,none⟩) (λ_=>.inr hv.lg) _;have a6:StoreM (((w3.alloc (.cells (AE λ_=>0#32) 201)).setRow w3.heap.size (AE (fld td))).setCell ⟨g,1,none⟩ (ptrV w3.heap.size)) s m x sy ep:=(w.store.grew G).kept (S:=λq=>q=g) ((jD (λq=>q=g) _).setCell (p:=⟨g,1,none⟩) (λ_=>rfl) _) (by have:=hv.lg;have:=hlow.2;omega) (by have:=hv.lg;omega);have a7:=R.out _ Y a6;have a:=f.blk;have g0:=a.cell 0;have g1:=a.cell 1;have g2:=a.cell 2;have gl:=a.lt;have Z:=f.map.lookup_val BH Bx Tryz.underlying214 (F6 _) (k:Int) K;have O:=zh (λ(w':World) (ht:Turned (λq=>q=m\/lo<=q) (((w3.alloc (.cells (AE λ_=>0#32) 201)).setRow w3.heap.size (AE (fld td))).setCell ⟨g,1,none⟩ (ptrV w3.heap.size)) w') (hst:StoreM w' s m x sy ep)=>R w' (Y.trans ht) hst);have P:Hid (Turned (λq=>q=m\/q=g\/q=mm) W (((w3.alloc (.cells (AE λ_=>0#32) 201)).setRow w3.heap.size (AE (fld td))).setCell ⟨g,1,none⟩ (ptrV w3.heap.size))):=zh ((((w.turned.mono λ_ _ hq=>.inl hq).trans (G.turned _))).setCell (p:=⟨g,1,none⟩) (λ_=>.inr (.inl rfl)) _);have h':=a7;obtain ⟨a2,b1⟩:∃o,o=up out lo (((w3.alloc (.cells (AE λ_=>0#32) 201)).setRow w3.heap.size (AE (fld td))).setCell ⟨g,1,none⟩ (ptrV w3.heap.size)):=⟨_,rfl⟩;rw [<-b1] at h';have HH:=zh h';have HV:=zh f;have ad:=zh (show lo<=w3.heap.size/\Blk (((w3.alloc (.cells (AE λ_=>0#32) 201)).setRow w3.heap.size (AE (fld td))).setCell ⟨g,1,none⟩ (ptrV w3.heap.size)) w3.heap.size 201 (AE (fld (topI D).data)) from ⟨a5,by rw [M];exact N.turned (S:=λq=>q=g) ((jD (λq=>q=g) _).setCell (p:=⟨g,1,none⟩) (λ_=>rfl) _) (y.ver_ne N).1⟩);clear b1 Y a6 a7 h' w n G N y;cases hF:F (k:Int) with
   | some v=>
     obtain ⟨b,j,hj,rfl,cp,b2,b3⟩:=f.maps _ _ hF;obtain rfl:k=j:=oo;rw [hF,jv] at Z;have HP:=zh (show C5 D k/\Blk (((w3.alloc (.cells (AE λ_=>0#32) 201)).setRow w3.heap.size (AE (fld td))).setCell ⟨g,1,none⟩ (ptrV w3.heap.size)) b 201 (AE (fld (mapI D k).data))/\lo<=b from ⟨b3,b2,cp⟩);clear h hv K hF b2 b3 a hf hlen f L M;go_wp2_with (first | (refine AF rfl 201 _ _ rfl w3.heap.size (AE (fld td)) rfl rfl 201 (AE λ_=>0#32) (ik w3 _ _ rfl) (by rw [AW,AW]) (by rw [AW];exact EW) (ED _) ?_));go_ret2;exact ⟨⟨λ_=>⟨b,rfl,HP.2.1,HP.2.2⟩,λhn=>absurd HP.1 hn⟩,O _ (jD _ _) HH.store,⟨_,_,HV⟩,P⟩
   | none=>
     rw [hF,Option.getD_none] at Z;obtain ⟨ver,a3⟩:∃ver,fld (topI D).data k=ver:=⟨_,rfl⟩;have tc:=ad.2.cell k;rw [Cg _ _ hk,a3] at tc;have tl:=ad.2.lt;have af:=zh (λ(w1:World) (hh:Held w0 x s m sy ep D a2 w1)=>JH hh (1+(k:Int)) (CR _ oo) ver);have a8:=zh (b5 ver);have cr:IntKind.i64.wrap (1+(k:Int))=1+(k:Int):=jJ _ oo;have cs:(0:Int)<=1+(k:Int):=oo;have ct:=zh hF;have ag:=zh L;have a9:=zh K;have bc:=zh a3;obtain ⟨⟨⟨bd,bv,bb⟩,er⟩,b4⟩:∃r,C1 D (1+(k:Int)) ver=r:=⟨_,rfl⟩;rw [b4] at af a8;clear h hv K hF a hf hlen L a3 b4 f M;go_wp2_with (first | (refine AF rfl 201 _ _ rfl w3.heap.size (AE (fld td)) rfl rfl 201 (AE λ_=>0#32) (ik w3 _ _ rfl) (by rw [AW,AW]) (by rw [AW];exact EW) (ED _) ?_));clear k1 kf ca T ad;generalize hW5:(((w3.alloc (.cells (AE λ_=>0#32) 201)).setRow w3.heap.size (AE (fld td))).setCell ⟨g,1,none⟩ (ptrV w3.heap.size))=w5 at*
     clear hW5;generalize hgt:w3.heap.size=t' at*
     clear hgt;refine AB [14,19] (λw':World=>w'.cell? ⟨g,0,none⟩=some (ptrV s)/\w'.cell? ⟨g,1,none⟩=some (ptrV t')/\g<w'.heap.size/\w'.cell? ⟨t',k,none⟩=some (.int .u32 (u32 ver))/\t'<w'.heap.size) qk ?_;have hS:=(show (λw':World=>w'.cell? ⟨g,0,none⟩=some (ptrV s)/\w'.cell? ⟨g,1,none⟩=some (ptrV t')/\g<w'.heap.size/\w'.cell? ⟨t',k,none⟩=some (.int .u32 (u32 ver))/\t'<w'.heap.size) w5.drew from ⟨g0,g1,gl,tc,tl⟩);refine tQ 0 42 ?_;refine tT 1 (some 43) hS ?_;refine tQ 2 44 ?_;refine tT 3 (some 45) hS ?_;refine tQ 4 46 ?_;refine tQ 5 47 ?_;refine tQ 6 48 ?_;refine tT 7 (some 49) hS ?_;refine tQ 8 50 ?_;refine tT 9 (some 51) hS ?_;refine tQ 10 52 ?_;refine tT 11 (some 53) hS ?_;refine tQ 12 54 ?_;refine tT 13 (some 55) hS ?_;refine Dk (i:=14) (j:=18) rfl rfl qk ?faa ?fab
     case' faa=>
      intro K' hK;rw [if_pos (by rfl)];simp only [jn,jS,ja];go_wp2_with fail;refine (af _ (HH.grew (iW w5).drew)).mono ?_;rintro e w1 ⟨rfl,d⟩;unfold LB;have n:Looked w0 x s m sy ep D a2 w5 (w1.alloc (.cells #[.string bd,.int .u32 (u32 bv),.bool bb] 206)):=((HH.same (iW w5).drew).trans d).grew ((iW w1).alloc _);have H:Blk (w1.alloc (.cells #[.string bd,.int .u32 (u32 bv),.bool bb] 206)) w1.heap.size 206 #[.string bd,.int .u32 (u32 bv),.bool bb]:=ik w1 _ _ rfl;have bf:w5.heap.size<=w1.heap.size:=d.turned.size;have cb:Blk (w1.alloc (.cells #[.string ⟨#[]⟩,.int .u32 0,.bool false] 206)) w1.heap.size 206 #[.string ⟨#[]⟩,.int .u32 0,.bool false]:=ik w1 _ _ rfl;clear d;go_wp2_with fail;refine hK.out _ _ (.inl (by rfl)) ?_;clear hK;refine tQ 15 41 ?_;refine tQ 16 57 ?_;refine tQ 17 58 ?_;refine tO 18 λK' hK=>?_;go_wp2_with fail;refine hK.out _ _ (.inr (λhS=>Qo ((iW w1).alloc _) hS)) ?_;clear hK;refine tO 19 λK' hK=>?_;go_wp2_with fail;refine hK.out _ _ (.inl (by rfl)) ?_;clear hK cb;refine tQ 20 10 ?_;refine AA qk ?_ _;generalize hwz:w1.alloc (.cells #[.string bd,.int .u32 (u32 bv),.bool bb] 206)=wz at*
      generalize hgz:w1.heap.size=gx at*
      clear hwz hgz
     case' fab=>
      intro K' hK;rw [if_pos (by rfl)];simp only [jn,jS,ja];go_wp2_with fail;have a:Grew w5 (w5.alloc (.cells #[.string ⟨#[]⟩,.int .u32 0,.bool false] 206)).drew:=((iW w5).alloc _).drew;have bk:Blk (w5.alloc (.cells #[.string ⟨#[]⟩,.int .u32 0,.bool false] 206)).drew w5.heap.size 206 #[.string ⟨#[]⟩,.int .u32 0,.bool false]:=(ik w5 _ _ rfl).drew;refine hK.out _ _ (.inr (λhS=>Qo ((iW w5.drew).alloc _) hS)) ?_;clear hK;refine tO 14 λK' hK=>?_;go_wp2_with fail;refine (af _ (HH.grew a)).mono ?_;rintro e w1 ⟨rfl,d⟩;unfold LB;have cc:=HH.store.lt.2;have u:=bk.looked d oo;have z0:=u.cell 0;have z1:=u.cell 1;have z2:=u.cell 2;have f0:=u.frozen 0;have f1:=u.frozen 1;have f2:=u.frozen 2;have zl:=u.lt;have bf:w5.heap.size<=w5.heap.size:=iX _;have n:Looked w0 x s m sy ep D a2 w5 (((w1.setCell ⟨w5.heap.size,0,none⟩ (.string bd)).setCell ⟨w5.heap.size,1,none⟩ (.int .u32 (u32 bv))).setCell ⟨w5.heap.size,2,none⟩ (.bool bb)):=CX HH ((HH.same a).trans d) (gT);have H:Blk (((w1.setCell ⟨w5.heap.size,0,none⟩ (.string bd)).setCell ⟨w5.heap.size,1,none⟩ (.int .u32 (u32 bv))).setCell ⟨w5.heap.size,2,none⟩ (.bool bb)) w5.heap.size 206 #[.string bd,.int .u32 (u32 bv),.bool bb]:=gB;clear d u cc a bk;go_wp2_with fail;refine hK.out _ _ (.inl (by rfl)) ?_;clear hK;refine tQ 15 41 ?_;refine tQ 16 57 ?_;refine tQ 17 58 ?_;refine tO 19 λK' hK=>?_;go_wp2_with fail;refine hK.out _ _ (.inl (by rfl)) ?_;clear hK z0 z1 z2 f0 f1 f2 zl;refine tQ 20 10 ?_;refine AA qk ?_ _;generalize hwz:((w1.setCell ⟨w5.heap.size,0,none⟩ (.string bd)).setCell ⟨w5.heap.size,1,none⟩ (.int .u32 (u32 bv))).setCell ⟨w5.heap.size,2,none⟩ (.bool bb)=wz at n H ⊢;obtain ⟨gx,hgz⟩:∃gx,gx=w5.heap.size:=⟨_,rfl⟩;rw [<-hgz] at H bf ⊢;clear hwz hgz
     all_goals
      have I:=HV.looked n hm;have c:=zh n;have bl:=zh H;have z:=a8.out;clear n H g0 g1 g2 gl tc tl Z;by_cases l:(mapI D k).ok=false
      . rw [if_pos l] at z;injection z with h1 h2;subst h2;have B:Hid (¬C5 D k):=zh (λhn=>by rw [hn.2.1] at l;cases l);have C:Hid (Dr D k=11):=zh (by unfold Dr;rw [if_neg (by rw [ag.out];simp),if_pos l]);clear l h1 I;go_wp2_with fail;go_ret2;exact ⟨⟨λhn=>absurd hn B,λ_=>by rw [C.out];rfl⟩,O _ (c.turned.mono λ_ _ hq=>.inl hq) c.store,⟨_,_,HV.looked c hm⟩,P.out.trans (c.turned.mono λ_ _ hq=>.inl hq)⟩
      by_cases A:(mapI D k).ver≠ver
      . rw [if_neg l,if_pos A] at z;injection z with h1 h2;subst h2;have B:Hid (¬C5 D k):=zh (λhn=>A (by rw [<-bc.out];exact hn.2.2));have C:Hid (Dr D k=12):=zh (by unfold Dr;rw [if_neg (by rw [ag.out];simp),if_neg l]);clear l A h1 I;go_wp2_with fail;go_ret2;exact ⟨⟨λhn=>absurd hn B,λ_=>by rw [C.out];rfl⟩,O _ (c.turned.mono λ_ _ hq=>.inl hq) c.store,⟨_,_,HV.looked c hm⟩,P.out.trans (c.turned.mono λ_ _ hq=>.inl hq)⟩
      rw [if_neg l,if_neg A] at z;injection z with h1 h2;subst h2;have al:(mapI D k).ok=true:=by simpa using l
      have an:Hid ((mapI D k).data=bd):=zh (by rw [<-h1]);have E:bd.size=128:=by rw [<-an.out];exact Cr al
      have bs:Hid (C5 D k):=zh ⟨ag,al,by rw [bc.out];simpa using A⟩;have X:=zh (Il bd E);have ce:=zh I;have x0:=bl.cell 0;have xl:=bl.out.lt;have b9:=Fy;have cf:lo<=g:=I.lg;have ch:=zh (show lo<=w5.heap.size from ij HV.lg (Nat.le_of_lt HV.blk.lt));clear l A h1 I E al cf;go_wp2_with fail;refine (X _).mono ?_;rintro e w4 ⟨rfl,g4⟩;have bt:Blk ((w4.alloc (.cells (AE λ_=>0#32) 201)).setRow w4.heap.size (AE (fld bd))) w4.heap.size 201 (AE (fld bd)):=(ik w4 _ _ rfl).setRow _;have ap:Grew wz ((w4.alloc (.cells (AE λ_=>0#32) 201)).setRow w4.heap.size (AE (fld bd))):=(g4.alloc _).setRow g4.size _;have f:=ce.grew ap;have y2:=f.blk.cell 2;have yl:=f.blk.lt;have av:=zh f;have aw:=zh bt;have a0:=zh (c.grew ap);have bx:lo<=w4.heap.size:=by have:=ch.out;have:=c.turned.size;have:=g4.size;omega
      clear bt ap f g4 x0 xl;go_wp2_with (first | (refine AF rfl 201 _ _ rfl w4.heap.size (AE (fld bd)) rfl rfl 201 (AE λ_=>0#32) (ik w4 _ _ rfl) (by rw [AW,AW]) (by rw [AW];exact EW) (ED _) ?_) | (refine CY rfl _ _ _ 214 rfl 215 BH Bx Tryz.underlying214 rfl av.map (k:Int) a9 (ptrV w4.heap.size) rfl rfl ?_;intro w6 b0 a1;have J:=av.setMap bx (by rw [an.out];exact aw.out) bs b0 a1;have q2:=J.blk.cell 2;have ql:=J.blk.lt;have ci:=J.map.lookup_val BH Bx Tryz.underlying214 (F6 _) (k:Int) a9;rw [ER,jv] at ci;have cl:=zh J;have Q:=zh a1;clear J a1 b0));go_ret2;have cn:Turned (λq=>q=m\/lo<=q) w5 w6:=(a0.turned.mono λ_ _ hq=>.inl hq).trans (Q.mono λq _ hq=>.inr (by rw [hq];exact HV.lm));have co:Turned (λq=>q=m\/q=g\/q=mm) w5 w6:=(a0.turned.mono λ_ _ hq=>.inl hq).trans (Q.mono λq _ hq=>.inr (.inr hq));have a4:=HV.lm;have cu:=hlow.2;exact ⟨⟨λ_=>⟨w4.heap.size,rfl,by rw [an.out];exact aw.turned Q (av.ver_ne aw).2,bx⟩,λhn=>absurd bs hn⟩,O _ cn (a0.store.kept Q oo oo),⟨_,_,cl⟩,P.out.trans co⟩
end

section
variable {w0:World} {x s m:Nat} {sy ep:Int} {D:Dev} {out:Nat->Prop} {W:World} {lo g mm:Nat} (h:Held w0 x s m sy ep D (up out lo W) W) (hlow:w0.heap.size<=lo/\s<lo) (hlen:132<=D.st.length) (hf:D.failed=false) (hm:m<lo)
include h hlow hlen hf hm
theorem Wi (hv:ViewM W lo g s mm D) (k:Nat) (hk:k<32):Calls Tryz.prog 189 #[ptrV g,.int .i64 (k:Int)] W (Yz w0 x s m sy ep D out W lo g mm k):=by
 obtain ⟨a,F,hv⟩:=hv;rcases hv.top with h1 | ⟨t,_,h2,_,_⟩
 . subst h1;exact Zh h hlow hlen hf hm k hk hv
 . subst h2;exact Y6 h hlow hlen hf hm k hk t hv
end
theorem cU {D:Dev} {i:Nat} (h:¬C5 D (i / 32)):Dl D i=(⟨#[]⟩,Dr D (i / 32)):=by
 unfold Dl Dr;by_cases h1:(topI D).ok=false
 . rw [if_pos h1,if_pos h1]
 . rw [if_neg h1,if_neg h1];by_cases h2:(mapI D (i / 32)).ok=false
   . rw [if_pos h2,if_pos h2]
   . rw [if_neg h2,if_neg h2,if_pos];intro h3;exact h ⟨by simpa using h1,by simpa using h2,h3⟩
theorem Yl (D:Dev) (k:Nat):Dr D k≠0:=by
 unfold Dr;split
 . decide
 split
 . decide
 . decide
theorem gF {D:Dev} (hf:D.failed=false) (i:Nat) (hi:131+i<D.st.length) (v:BitVec 32):C1 D (131+(i:Int)) v=(if (datI D i).ok=false then (KQ,11) else if (datI D i).ver≠v then (KQ,12) else (datI D i,0)):=by
 unfold C1;rw [show (131+(i:Int))=((131+i:Nat):Int) from oo,Dv hf (131+i) hi,if_neg qs];rfl
theorem Zy {D:Dev} {i:Nat} (h:C5 D (i / 32)) (hf:D.failed=false) (hi:131+i<D.st.length):Dl D i=((C1 D (131+(i:Int)) (fld (mapI D (i / 32)).data (i % 32))).1.data,(C1 D (131+(i:Int)) (fld (mapI D (i / 32)).data (i % 32))).2):=by
 obtain ⟨h1,h2,h3⟩:=h;rw [gF hf i hi];unfold Dl;rw [if_neg (by rw [h1];simp),if_neg (by rw [h2];simp),if_neg (by simpa using h3)];by_cases h4:(datI D i).ok=false
 . rw [if_pos h4,if_pos h4];rfl
 . rw [if_neg h4,if_neg h4];by_cases h5:(datI D i).ver≠fld (mapI D (i / 32)).data (i % 32)
   . rw [if_pos h5,if_pos h5];rfl
   . rw [if_neg h5,if_neg h5]
theorem fG {w1 w2:World} {g b J s:Nat} {ver:BitVec 32} (hg:Grew w1 w2) (h:(λw':World=>w'.cell? ⟨g,0,none⟩=some (ptrV s)/\g<w'.heap.size/\w'.cell? ⟨b,J,none⟩=some (.int .u32 (u32 ver))/\b<w'.heap.size) w1):(λw':World=>w'.cell? ⟨g,0,none⟩=some (ptrV s)/\g<w'.heap.size/\w'.cell? ⟨b,J,none⟩=some (.int .u32 (u32 ver))/\b<w'.heap.size) w2:=⟨CQ hg h.1,ig h.2.1 hg.size,CQ hg h.2.2.1,ig h.2.2.2 hg.size⟩
theorem R6 {w0:World} {x s' m:Nat} {sy ep:Int} {E:Dev} {out:Nat->Prop} {w w':World} {lo g s mm:Nat} {D:Dev} (h:ViewM w lo g s mm D) (hl:Looked w0 x s' m sy ep E out w w') (hm:m<lo):ViewM w' lo g s mm D:=by
 obtain ⟨a,F,hv⟩:=h;exact ⟨a,F,hv.looked hl hm⟩
theorem ViewM.grew {w w':World} {lo g s mm:Nat} {D:Dev} (h:ViewM w lo g s mm D) (hg:Grew w w'):ViewM w' lo g s mm D:=by
 obtain ⟨a,F,hv⟩:=h;exact ⟨a,F,hv.grew hg⟩
def iT (w0:World) (x s m:Nat) (sy ep:Int) (D:Dev) (out:Nat->Prop) (W:World) (lo g mm:Nat) (r:ByteArray × Int) (e:Ending) (w':World):Prop:=
 e=.returned (.tuple #[.string r.1,.int .i64 r.2])/\Held w0 x s m sy ep D (up out lo w') w'/\ViewM w' lo g s mm D/\Turned (λq=>q=m\/q=g\/q=mm) W w'
section
variable {w0:World} {x s m:Nat} {sy ep:Int} {D:Dev} {out:Nat->Prop} {W:World} {lo g mm:Nat} (h:Held w0 x s m sy ep D (up out lo W) W) (hlow:w0.heap.size<=lo/\s<lo) (hlen:132<=D.st.length) (hf:D.failed=false) (hm:m<lo)
include h hlow hlen hf hm
theorem dy (hv:ViewM W lo g s mm D) (i:Nat) (hi:131+i<D.st.length) (P:i<1024):Calls Tryz.prog 153 #[ptrV g,.int .i64 (i:Int)] W (iT w0 x s m sy ep D out W lo g mm (Dl D i)):=by
 have HL:=zh (Wi h hlow hlen hf hm hv (i / 32) oo);obtain ⟨K,hK⟩:∃K,i / 32=K:=⟨_,rfl⟩;obtain ⟨J,hJ⟩:∃J,i % 32=J:=⟨_,rfl⟩;have hq:(i:Int) / 32=(K:Int):=oo;have hr:(i:Int).tmod 32=(J:Int):=by rw [kB oo];omega
 have Q:J<32:=oo;rw [hK] at HL;have G:=zh (λ(hn:¬C5 D K)=>cU (D:=D) (i:=i) (by rw [hK];exact hn));have H:=zh (λ(hn:C5 D K)=>Zy (D:=D) (i:=i) (by rw [hK];exact hn) hf hi);rw [hK,hJ] at H;rw [hK] at G;have hib:(0:Int)<=(i:Int)/\(i:Int)<=1024:=oo;clear hK hJ h hv hi hlen hf P;by_cases l:C5 D K
 . have HE:=zh (H l);have w:=zh l;clear l;go_enter Tryz.func153,Tryz.ntmps153;go_wp2_with fail;refine HL.mono ?_;rintro e w1 ⟨⟨hy,_⟩,d,n,p⟩;obtain ⟨b,rfl,hb,Y⟩:=hy w;have HR:=zh (show Held w0 x s m sy ep D (up out lo w1) w1/\ViewM w1 lo g s mm D/\Turned (λq=>q=m\/q=g\/q=mm) W w1 from ⟨d,n,p⟩);have R:=zh (λ(w':World) (ht:Turned (λq=>q=m\/lo<=q) w1 w') (hst:StoreM w' s m x sy ep)=>d.up hlow hm ht hst);obtain ⟨B,N⟩:∃o,o=up out lo w1:=⟨_,rfl⟩;rw [<-N] at d;have HH:=zh d;obtain ⟨ver,C⟩:∃ver,fld (mapI D K).data J=ver:=⟨_,rfl⟩;have y:=hb.cell J;rw [Cg _ _ Q,C] at y;have I:=hb.lt;have a:∃v,Blk w1 g 277 #[ptrV s,v,.map (some mm)]:=by obtain ⟨v,F,hv⟩:=n;exact ⟨v,hv.blk⟩
   obtain ⟨v,a⟩:=a;have g0:=a.cell 0;have gl:=a.lt;rw [C] at HE;have z:=zh (λ(w2:World) (hh:Held w0 x s m sy ep D B w2)=>JH hh (131+(i:Int)) (CR _ oo) ver);obtain ⟨⟨⟨bd,bv,bb⟩,er⟩,O⟩:∃r,C1 D (131+(i:Int)) ver=r:=⟨_,rfl⟩;rw [O] at z HE;have U:IntKind.i64.wrap (131+(i:Int))=131+(i:Int):=jJ _ oo;have V:(0:Int)<=(J:Int)/\(J:Int)<32:=oo;clear hy d n p hb a C O N;go_wp2_with fail;refine AB [12,17] (λw':World=>w'.cell? ⟨g,0,none⟩=some (ptrV s)/\g<w'.heap.size/\w'.cell? ⟨b,J,none⟩=some (.int .u32 (u32 ver))/\b<w'.heap.size) qk ?_;have hS:=(show (λw':World=>w'.cell? ⟨g,0,none⟩=some (ptrV s)/\g<w'.heap.size/\w'.cell? ⟨b,J,none⟩=some (.int .u32 (u32 ver))/\b<w'.heap.size) w1.drew from ⟨g0,gl,y,I⟩);refine tQ 0 20 ?_;refine tT 1 (some 21) hS ?_;refine tQ 2 22 ?_;refine tT 3 (some 23) hS ?_;refine tQ 4 24 ?_;refine tQ 5 25 ?_;refine tQ 6 26 ?_;refine tQ 7 27 ?_;refine tQ 8 28 ?_;refine tT 9 (some 29) hS ?_;refine tQ 10 30 ?_;refine tT 11 (some 31) hS ?_;clear hS;refine Dk (i:=12) (j:=16) rfl rfl qk ?faa ?fab
   case' faa=>
    intro K' hK;rw [if_pos (by rfl)];simp only [jn,jS,ja];go_wp2_with fail;refine (z _ (HH.grew (iW w1).drew)).mono ?_;rintro e w2 ⟨rfl,f⟩;unfold LB;have t:Looked w0 x s m sy ep D B w1 (w2.alloc (.cells #[.string bd,.int .u32 (u32 bv),.bool bb] 206)):=((HH.same (iW w1).drew).trans f).grew ((iW w2).alloc _);have k:Blk (w2.alloc (.cells #[.string bd,.int .u32 (u32 bv),.bool bb] 206)) w2.heap.size 206 #[.string bd,.int .u32 (u32 bv),.bool bb]:=ik w2 _ _ rfl;have L:w1.heap.size<=w2.heap.size:=f.turned.size;clear f;go_wp2_with fail;refine hK.out _ _ (.inl (by rfl)) ?_;clear hK;refine tQ 13 19 ?_;refine tQ 14 33 ?_;refine tQ 15 34 ?_;refine tO 16 λK' hK=>?_;go_wp2_with fail;refine hK.out _ _ (.inr (λhS=>fG ((iW w2).alloc _) hS)) ?_;clear hK;refine tO 17 λK' hK=>?_;go_wp2_with fail;refine hK.out _ _ (.inl (by rfl)) ?_;clear hK;refine tQ 18 7 ?_;refine AA qk ?_ _;generalize hwz:w2.alloc (.cells #[.string bd,.int .u32 (u32 bv),.bool bb] 206)=wz at*
    generalize hgz:w2.heap.size=gx at*
    clear hwz hgz
   case' fab=>
    intro K' hK;rw [if_pos (by rfl)];simp only [jn,jS,ja];go_wp2_with fail;have a:Grew w1 (w1.alloc (.cells #[.string ⟨#[]⟩,.int .u32 0,.bool false] 206)).drew:=((iW w1).alloc _).drew;have M:Blk (w1.alloc (.cells #[.string ⟨#[]⟩,.int .u32 0,.bool false] 206)).drew w1.heap.size 206 #[.string ⟨#[]⟩,.int .u32 0,.bool false]:=(ik w1 _ _ rfl).drew;refine hK.out _ _ (.inr (λhS=>fG ((iW w1.drew).alloc _) hS)) ?_;clear hK;refine tO 12 λK' hK=>?_;go_wp2_with fail;refine (z _ (HH.grew a)).mono ?_;rintro e w2 ⟨rfl,f⟩;unfold LB;have S:=HH.store.lt.2;have c:=M.looked f oo;have z0:=c.cell 0;have z1:=c.cell 1;have z2:=c.cell 2;have f0:=c.frozen 0;have f1:=c.frozen 1;have f2:=c.frozen 2;have zl:=c.lt;have L:w1.heap.size<=w1.heap.size:=iX _;have t:Looked w0 x s m sy ep D B w1 (((w2.setCell ⟨w1.heap.size,0,none⟩ (.string bd)).setCell ⟨w1.heap.size,1,none⟩ (.int .u32 (u32 bv))).setCell ⟨w1.heap.size,2,none⟩ (.bool bb)):=CX HH ((HH.same a).trans f) (gT);have k:Blk (((w2.setCell ⟨w1.heap.size,0,none⟩ (.string bd)).setCell ⟨w1.heap.size,1,none⟩ (.int .u32 (u32 bv))).setCell ⟨w1.heap.size,2,none⟩ (.bool bb)) w1.heap.size 206 #[.string bd,.int .u32 (u32 bv),.bool bb]:=gB;clear f c S a M;go_wp2_with fail;refine hK.out _ _ (.inl (by rfl)) ?_;clear hK;refine tQ 13 19 ?_;refine tQ 14 33 ?_;refine tQ 15 34 ?_;refine tO 17 λK' hK=>?_;go_wp2_with fail;refine hK.out _ _ (.inl (by rfl)) ?_;clear hK z0 z1 z2 f0 f1 f2 zl;refine tQ 18 7 ?_;refine AA qk ?_ _;generalize hwz:((w2.setCell ⟨w1.heap.size,0,none⟩ (.string bd)).setCell ⟨w1.heap.size,1,none⟩ (.int .u32 (u32 bv))).setCell ⟨w1.heap.size,2,none⟩ (.bool bb)=wz at t k ⊢;obtain ⟨gx,hgz⟩:∃gx,gx=w1.heap.size:=⟨_,rfl⟩;rw [<-hgz] at k L ⊢;clear hwz hgz
   all_goals
    have u:=zh t;have x0:=k.cell 0;have xl:=k.lt;clear t k g0 gl y I;go_wp2_with fail;go_ret2;exact ⟨by rw [HE.out];rfl,R _ (u.turned.mono λ_ _ hq=>.inl hq) u.store,R6 HR.2.1 u hm,HR.2.2.trans (u.turned.mono λ_ _ hq=>.inl hq)⟩
 . have HE:=zh (G l);have w:=zh l;have A:=Yl D K;obtain ⟨er,E⟩:∃er,Dr D K=er:=⟨_,rfl⟩;rw [E] at HE A;have X:(er != 0)=true:=by rw [jH];exact A
   have T:=zh E;clear l A E;go_enter Tryz.func153,Tryz.ntmps153;go_wp2_with fail;refine HL.mono ?_;rintro e w1 ⟨⟨_,hn⟩,d,n,p⟩;obtain rfl:=hn w;rw [T.out];have HR:=zh (show Held w0 x s m sy ep D (up out lo w1) w1/\ViewM w1 lo g s mm D/\Turned (λq=>q=m\/q=g\/q=mm) W w1 from ⟨d,n,p⟩);clear hn d n p;go_wp2_with fail;go_ret2;exact ⟨by rw [HE.out];rfl,HR⟩
end

theorem Mk {w0:World} {x s m:Nat} {sy ep:Int} {D:Dev} {out:Nat->Prop} {W:World} (h:Held w0 x s m sy ep D out W):Held w0 x s m sy ep D (up out W.heap.size W) W:=
 ⟨h.live.few (λk hk=>hk.elim id (λh9=>absurd h9.1 oo)),h.store,.inl h.os,.inl h.om,h.m0⟩
theorem ez {w0:World} {x s m:Nat} {sy ep:Int} {E:Dev} {out:Nat->Prop} {W w1 w':World} (hd:Done w0 x s m sy ep E out W w1) (hh:Held w0 x s m sy ep E (up out w1.heap.size w') w') (ht:Turned (λq=>q=m\/w1.heap.size<=q) w1 w'):Done w0 x s m sy ep E out W w':=
 ⟨hh.live.few (λk hk=>.inl hk),hh.store,hd.turned.next ht (λk hk hq=>by
  rcases hq with hq | hq
  . exact .inr hq
  . exact absurd hk (by have:=hd.turned.size;omega))⟩
theorem Ow:(Tryz.prog.info? 9).map (λi=>(i.zero,i.size,i.bytes))=some (some (.string ⟨#[]⟩),1,16):=qk
theorem FY {w:World} {m b o:Nat} {F:Int->Option Value} {v:Value} (hm:MapI w m F) (h:w.cell? ⟨b,o,none⟩=some v):b≠m:=by
 rintro rfl;obtain ⟨es,a,l,hb,_⟩:=hm;unfold World.cell? at h;simp [hb] at h
theorem FJ {w0:World} {x s m:Nat} {sy ep:Int} {E:Dev} {out out':Nat->Prop} {W w1 w':World} (hd:Done w0 x s m sy ep E out' w1 w') (hg:Grew W w1) (ho:∀k,out k->out' k):Done w0 x s m sy ep E out W w':=
 ⟨hd.live.few ho,hd.store,(hg.turned _).trans (hd.turned.mono λk _ hk=>hk.elim (λh9=>.inl ⟨h9.1,λh8=>h9.2 (ho k h8)⟩) .inr)⟩

end
section
open Go.RowKit
theorem EK (n:Nat) (ws:List (Int × ByteArray)) (e:Nat × ByteArray):e∈CS n ws↔e.1<n/\(ws.find? λx=>x.1==(e.1:Int)).map (·.2)=some e.2:=by
 unfold CS;rw [List.mem_filterMap];constructor
 . rintro ⟨i,hi,h⟩;obtain ⟨x,hx,rfl⟩:=kG.1 h;exact ⟨jB.1 hi,by show (ws.find? λx=>x.1==(i:Int)).map (·.2)=_;rw [hx];rfl⟩
 . rintro ⟨h1,h2⟩;obtain ⟨x,hx,a⟩:=kG.1 h2;exact ⟨e.1,jB.2 h1,by rw [hx];show some (e.1,x.2)=some e;rw [a]⟩
theorem Gn (n:Nat) (ws:List (Int × ByteArray)):(CS n ws).Pairwise λa b=>a.1<b.1:=by
 unfold CS;rw [pairwise_filterMap];refine pairwise_lt_range.imp ?_;intro a b c x hx y hy;obtain ⟨u,_,rfl⟩:=kG.1 hx;obtain ⟨v,_,rfl⟩:=kG.1 hy;exact c
theorem GV {ws:List (Int × ByteArray)} (hn:(ws.map (·.1)).Nodup) (x:Int × ByteArray) (hx:x∈ws):(ws.find? λy=>y.1==x.1)=some x:=by
 induction ws with
 | nil=>cases hx
 | cons y ws ih=>
   rw [map_cons,nodup_cons] at hn;rw [find?_cons];rcases jh.1 hx with rfl | hx
   . rw [beq_self_eq_true]
   . have:(y.1==x.1)=false:=it.2 (λe=>hn.1 (by rw [e];exact List.mem_map_of_mem hx));rw [this];exact ih hn.2 hx
def KD (ws:List (Int × ByteArray)) (i:Nat):Option ByteArray:=(ws.find? λx=>x.1==(i:Int)).map (·.2)
theorem UU (n:Nat) (ws:List (Int × ByteArray)) (i:Nat) (hi:i<n):Ad (CS n ws) i=KD ws i:=by
 have c:((CS n ws).map (·.1)).Nodup:=by
  rw [Nodup,kE];exact (Gn n ws).imp (λ{a b} hab=>oo)
 cases hv:KD ws i with
 | some s=>exact Ev _ c (i,s) ((EK n ws (i,s)).2 ⟨hi,hv⟩)
 | none=>
   refine CW _ _ (λe he hq=>?_);obtain ⟨_,h2⟩:=(EK n ws e).1 he;rw [hq] at h2;unfold KD at hv;rw [hv] at h2;cases h2
theorem Iu (n:Nat) (ws:List (Int × ByteArray)) (h:Ae n ws=0):(∀e∈ws,e.2.size=128/\0<=e.1/\e.1<(n:Int))/\(ws.map (·.1)).Nodup/\ws.length<=64:=by
 unfold Ae at h;split at h
 . cases h
 rename_i h1;split at h
 . cases h
 rename_i h2;split at h
 . cases h
 rename_i h3;simp only [not_or,jU,jl,jT,jG] at h1 h2;refine ⟨λe he=>⟨?_,?_⟩,h1.2,oo⟩
 . have:=h1.1 e he;exact this
 . have:=h2 e he;omega
theorem Ph (n:Nat) (ws:List (Int × ByteArray)) (h:∀e∈ws,0<=e.1/\e.1<(n:Int)) (hn:(ws.map (·.1)).Nodup):(CS n ws).length=ws.length:=by
 have hp:((CS n ws).map (λe=>(e.1:Int))).Perm (ws.map (·.1)):=by
  refine (perm_ext_iff_of_nodup ?_ hn).2 (λi=>?_)
  . rw [Nodup,kE];exact (Gn n ws).imp (λ{a b} hab=>oo)
  . constructor
    . intro hi;obtain ⟨e,he,rfl⟩:=ie.1 hi;obtain ⟨_,h2⟩:=(EK n ws e).1 he;obtain ⟨x,hx,_⟩:=kG.1 h2;have h3:=List.find?_some hx;exact ie.2 ⟨x,List.mem_of_find?_eq_some hx,by simpa using h3⟩
    . intro hi;obtain ⟨x,hx,rfl⟩:=ie.1 hi;have hb:=h x hx;refine ie.2 ⟨(x.1.toNat,x.2),(EK n ws _).2 ⟨by show x.1.toNat<n;omega,?_⟩,by show ((x.1.toNat:Nat):Int)=x.1;omega⟩;show (ws.find? λy=>y.1==((x.1.toNat:Nat):Int)).map (·.2)=some x.2;rw [show ((x.1.toNat:Nat):Int)=x.1 from oo,GV hn x hx];rfl
 have:=hp.length_eq;simpa using this
theorem S0 (I:Img) (ws:List (Int × ByteArray)) (h:Ae I.n ws=0) (h0:ws≠[]) (hr:I.N+1<4294967296):Takes I (CS I.n ws):=by
 obtain ⟨h1,h2,h3⟩:=Iu I.n ws h;have hl:=Ph I.n ws (λe he=>(h1 e he).2) h2;refine ⟨λe he=>?_,Gn _ _,?_,oo,hr⟩
 . obtain ⟨g1,g2⟩:=(EK I.n ws e).1 he;obtain ⟨x,hx,a⟩:=kG.1 g2;exact ⟨g1,by rw [<-a];exact (h1 x (List.mem_of_find?_eq_some hx)).1⟩
 . rw [hl];cases ws with
   | nil=>exact absurd rfl h0
   | cons x l=>simp
theorem Dy {D:Dev} {I:Img} {sy ep:Int} (h:Clean D I) (hc:Calm D sy ep) (hf:D.fuse=none) (ws:List (Int × ByteArray)) (hr:I.N+1<4294967295):
 (Ae I.n ws≠0\/ws=[]->Bk D sy ep ws=(D,Ae I.n ws))/\
 (Ae I.n ws=0->ws≠[]->∃E,Bk D sy ep ws=(E,0)/\Clean E (I.upd (CS I.n ws))/\E.fen=D.fen/\E.fuse=none):=by
 have hn:D.st.length - 131=I.n:=by rw [h.len];omega
 have a:=E0 h sy ep;constructor
 . intro c;unfold Bk;rw [a,hn,if_neg qs,if_pos c]
 . intro h0 b;have ht:=S0 I ws h0 b oo;obtain ⟨r1,r2,r3,r4⟩:=J1 h ht hc hf;refine ⟨_,?_,r2,r3,r4⟩;unfold Bk;rw [a,hn,if_neg qs,if_neg (by simp [h0,b])];show (if (topI D).ok=false then (D,11) else if FV D (ksW (CS I.n ws))≠0 then (D,FV D (ksW (CS I.n ws))) else if (topI D).ver=4294967295#32 then (D,8) else Bm sy ep (Cw (ID D (CS I.n ws) ((topI D).ver+1#32)) ((topI D).ver+1#32)) D)=_;rw [Rn h.toHolds _ (λk hk=>((CT _ k).1 hk).1),h.topI,if_neg qs,if_neg qs,if_neg]
   . show Bm sy ep (Cw (ID D (CS I.n ws) (nv I.N+1#32)) (nv I.N+1#32)) D=_;rw [Ve,Vn h.toHolds ht];exact r1
   . intro hq;have:=ix BitVec.toNat hq;rw [show (Raw.mk (AM I.tops) (nv I.N) true).ver=nv I.N from rfl,Nc _ oo] at this;simp at this;omega

end
section
attribute [local go_sem ↓] Go.wp_at_zero Go.wp_at_succ
open Go.RowKit
def EX (l:List Int):Int->Option Value:=λa=>if a∈l then some (.bool true) else none
theorem Jx (l:List Int) (a:Int):∀b,upd (EX l) a (some (.bool true)) b=EX (l++[a]) b:=by
 intro b;unfold EX;by_cases h:b=a
 . subst h;rw [ER,if_pos qs]
 . rw [Ep _ _ h];by_cases h2:b∈l
   . rw [if_pos h2,if_pos (by simp [h2])]
   . rw [if_neg h2,if_neg (by simp [h2,h])]
theorem Ml (w:World):(zeroValue 4).run Tryz.prog w=.ok (.bool false) w:=qk
theorem DG (ws:List (Int × ByteArray)) (k:Nat) (hk:k<ws.length):((ws.take (k+1)).map (·.1))=(ws.take k).map (·.1)++[ws[k].1]:=by
 rw [ic hk,il]
 try rfl
theorem Uv {n:Nat} {ws:List (Int × ByteArray)} (k:Nat) (hk:k<ws.length) (h:ws[k].2.size≠128):Ae n ws=1:=by
 unfold Ae;rw [if_pos (.inl (j6.2 ⟨ws[k],ib hk,by simpa using h⟩))]
theorem XQ {n:Nat} {ws:List (Int × ByteArray)} (k:Nat) (hk:k<ws.length) (h:ws[k].1∈(ws.take k).map (·.1)):Ae n ws=1:=by
 have hn:¬(ws.map (·.1)).Nodup:=by
  intro hn;have h1:((ws.take (k+1)).map (·.1)).Nodup:=(hn.sublist ((take_sublist _ _).map _));rw [DG ws k hk] at h1;exact (jg.1 h1).2.2 _ h _ (ia.2 rfl) rfl
 unfold Ae;rw [if_pos (.inr hn)]
theorem Lf {n:Nat} {ws:List (Int × ByteArray)} (h1:∀e∈ws,e.2.size=128) (h2:(ws.map (·.1)).Nodup) (k:Nat) (hk:k<ws.length) (h:ws[k].1<0\/(n:Int)<=ws[k].1):Ae n ws=2:=by
 unfold Ae;rw [if_neg (by simp only [not_or,jU];exact ⟨by rw [jl,jT];intro e he;simp [h1 e he],h2⟩),if_pos (j6.2 ⟨ws[k],ib hk,by simpa using h⟩)]
theorem V3 {n:Nat} {ws:List (Int × ByteArray)} (h1:∀e∈ws,e.2.size=128) (h2:(ws.map (·.1)).Nodup) (h3:∀e∈ws,¬(e.1<0\/(n:Int)<=e.1)):Ae n ws=if 64<ws.length then 8 else 0:=by
 unfold Ae;rw [if_neg (by simp only [not_or,jU];exact ⟨by rw [jl,jT];intro e he;simp [h1 e he],h2⟩),if_neg (by rw [jl,jT];intro e he;simpa using h3 e he)]
section
variable {w0:World} {x s m:Nat} {sy ep:Int} {D:Dev} {out:Nat->Prop} {W:World}
theorem Kt (h:Held w0 x s m sy ep D out W) (P:132<=D.st.length/\D.st.length<=1155) (ws:List (Int × ByteArray)) (hl:ws.length<=1000000) (w:∀e∈ws,okI e.1) (A:Option Addr) (c:Nat) (v:ListAt W W.heap.size 2 A (ws.map B0)):
 Calls Tryz.prog 125 #[ptrV s,.slice A ws.length c] W λe w'=>e=.returned (.int .i64 (Ae (D.st.length - 131) ws))/\Grew W w':=by
 have Q:=@run_makeMap Tryz.prog;have R:Hid (MapI (W.alloc (.map #[] 0)) W.heap.size (EX [])):=zh ((MapIs.made _ rfl).congr (λa=>rfl));obtain ⟨n,hn⟩:∃n:Nat,D.st.length - 131=n:=⟨_,rfl⟩;rw [hn];have y:(D.st.length:Int) - 131=(n:Int):=oo;have z:=zh (λ(w1:World) (hg:Grew W w1)=>J0 (h.grew hg));rw [y] at z;have B:=zh v;have S:=zh w;clear h P v hn w y;go_enter Tryz.func125,Tryz.ntmps125;go_wp2_with fail;clear Q
 go_loopg [13] ws.length (λgk i wr=>∃k:Nat,k<=ws.length/\gk=ws.length - k/\i=.int .i64 k/\MapI wr W.heap.size (EX ((ws.take k).map (·.1)))/\Grew W wr/\(∀j (hj:j<k) (hj2:j<ws.length),ws[j].2.size=128)/\((ws.take k).map (·.1)).Nodup)
 case atStart=>exact ⟨0,oo,oo,rfl,R,gG,λj hj=>absurd hj oo,qs⟩
 case round=>
  obtain ⟨k,hk,l,rfl,hm,hg,M,N⟩:=hrel;have T:=zh l;have HM:=zh hm;have HG:=zh hg;have C:=zh M;have E:=zh N;clear l hm hg M N;by_cases d:k<ws.length
  . obtain ⟨b,ap,rfl,av,c0,c1⟩:=LN (B.keep (iX _) HG) d;have U:(k:Int)<(ws.length:Int):=oo;by_cases hs:ws[k].2.size=128
    . have V:((ws[k].2.size:Int) != 128)=false:=by rw [hs];rfl
      obtain ⟨kl,r⟩:=Fd ws[k].1 (S _ (ib d));have X:=zh r;have o:=HM.alloc (.cells #[.int .i64 ws[k].1,.string ws[k].2] 41);have F:=o.lookup_val BH Bx Tryz.underlying231 (Ml _) ws[k].1 r;have Y:=zh o;by_cases g:ws[k].1∈(ws.take k).map (·.1)
      . rw [show EX ((ws.take k).map (·.1)) ws[k].1=some (.bool true) from if_pos g,jv] at F;have HC:=zh (XQ (n:=n) k d g);clear g hs r o;go_wp2_with fail;go_ret;rw [HC.out];exact ⟨rfl,HG.alloc _⟩
      . rw [show EX ((ws.take k).map (·.1)) ws[k].1=none from if_neg g,Option.getD_none] at F;have HS:=zh hs;have Z:=zh g;clear g hs r o;go_wp2_with (refine CY rfl _ _ _ 231 rfl 4 BH Bx Tryz.underlying231 rfl Y ws[k].1 X (.bool true) rfl rfl ?_;intro w3 K L;have ad:=zh K;have af:=zh L;clear K L)
        go_roundg (ws.length - (k+1))
        case measure=>rw [T.out];omega
        case rel=>
         refine ⟨k+1,oo,oo,by go_num,ad.congr (λa=>by rw [DG ws k d];exact Jx _ _ a),(HG.alloc _).turn af (λi e=>by rw [e];exact iX _),λj hj hj2=>?_,?_⟩
         . rcases jY j k with h9 | h9
           . exact C.out j h9 hj2
           . have:j=k:=oo;subst this;exact HS.out
         . rw [DG ws k d];exact jg.2 ⟨E,qs,λa ha b hb=>by rw [ia.1 hb];exact λe=>Z (e▸ha)⟩
    . have V:((ws[k].2.size:Int) != 128)=true:=by rw [jH];omega
      have HC:=zh (Uv (n:=n) k d hs);clear hs;go_wp2_with fail;go_ret;rw [HC.out];exact ⟨rfl,HG.alloc _⟩
  . obtain rfl:ws.length=k:=oo
    have H1:Hid (∀e∈ws,e.2.size=128):=zh (λe he=>by
     obtain ⟨j,hj,rfl⟩:=j4.1 he
     exact C.out j hj hj)
    have H2:Hid ((ws.map (·.1)).Nodup):=zh (by have:=E.out;rw [i8 (iX _)] at this;exact this);clear d;obtain ⟨wa,aw⟩:∃wa:World,wa=wr:=⟨_,rfl⟩;subst aw;go_wp2_with fail
    go_loopg [33] ws.length (λgk i wr=>∃k:Nat,k<=ws.length/\gk=ws.length - k/\i=.int .i64 k/\Grew W wr/\(∀j (hj:j<k) (hj2:j<ws.length),¬(ws[j].1<0\/(n:Int)<=ws[j].1)))
    case atStart=>exact ⟨0,oo,oo,rfl,HG,λj hj=>absurd hj oo⟩
    case round=>
     obtain ⟨k,a0,l,rfl,hg,O⟩:=hrel;have ag:=zh l;have p:=zh hg;have G:=zh O;clear l hg O;by_cases d:k<ws.length
     . obtain ⟨b,ap,rfl,av,c0,c1⟩:=LN (B.keep (iX _) p) d;have U:(k:Int)<(ws.length:Int):=oo;have hx:Blk (wr.alloc (.cells #[.int .i64 ws[k].1,.string ws[k].2] 41)) wr.heap.size 41 #[.int .i64 ws[k].1,.string ws[k].2]:=ik wr _ _ rfl;have HX:=zh hx;have t:=zh (p.alloc (.cells #[.int .i64 ws[k].1,.string ws[k].2] 41));clear hx;go_wp2_with fail;refine AB [] (λw':World=>w'.cell? ⟨wr.heap.size,0,none⟩=some (.int .i64 ws[k].1)/\wr.heap.size<w'.heap.size) qk ?_;have hS:=(show (λw':World=>w'.cell? ⟨wr.heap.size,0,none⟩=some (.int .i64 ws[k].1)/\wr.heap.size<w'.heap.size) (wr.alloc (.cells #[.int .i64 ws[k].1,.string ws[k].2] 41)).drew from ⟨HX.drew.cell 0,HX.drew.lt⟩);by_cases q:ws[k].1<0
       . have g:decide (ws[k].1<0)=true:=iq q;have HC:=zh (Lf (n:=n) H1 H2 k d (.inl q));refine tQ 0 37 ?_;refine tT 1 (some 38) hS ?_;refine tQ 2 39 ?_;refine tQ 3 40 ?_;refine tU 4 (some 41) ?_;refine tU 5 (some 42) ?_;refine tU 6 (some 43) ?_;refine tU 7 (some 44) ?_;refine tU 8 (some 45) ?_;refine tQ 9 46 ?_;refine AA qk ?_ _;go_wp2_with fail;go_ret;rw [HC.out];exact ⟨rfl,t.drew⟩
       . have g:decide (ws[k].1<0)=false:=ir q;refine tQ 0 37 ?_;refine tT 1 (some 38) hS ?_;refine tQ 2 39 ?_;refine tQ 3 40 ?_;refine tQ 4 41 ?_;refine tT 5 (some 42) hS ?_;refine tQ 6 43 ?_;refine tO 7 λK' hK=>?_;go_wp2_with fail;refine (z _ t.drew).mono ?_;rintro e w5 ⟨rfl,g5⟩;have H:=zh (t.drew.trans g5);have u:=HX.drew.grew g5;have I:=u.cell 0;have J:=u.lt;clear g5 u;go_wp2_with fail;refine hK.out _ _ (.inr (λ_=>⟨I,J⟩)) ?_;clear hK hS;have hS:=(show (λw':World=>w'.cell? ⟨wr.heap.size,0,none⟩=some (.int .i64 ws[k].1)/\wr.heap.size<w'.heap.size) w5 from ⟨I,J⟩);refine tQ 8 45 ?_;refine tQ 9 46 ?_;refine AA qk ?_ _;by_cases f:(n:Int)<=ws[k].1
         . have hib:decide ((n:Int)<=ws[k].1)=true:=iq f;have al:ws[k].1>=(n:Int):=f;have HC:=zh (Lf (n:=n) H1 H2 k d (.inr f));clear f;go_wp2_with fail;go_ret;rw [HC.out];exact ⟨rfl,H⟩
         . have hib:decide ((n:Int)<=ws[k].1)=false:=ir f;have al:¬ws[k].1>=(n:Int):=f;have an:Hid (¬(ws[k].1<0\/(n:Int)<=ws[k].1)):=zh oo;clear f q;go_wp2_with fail
           go_roundg (ws.length - (k+1))
           case measure=>rw [ag.out];omega
           case rel=>
            refine ⟨k+1,oo,oo,by go_num,H,λj hj hj2=>?_⟩;rcases jY j k with h9 | h9
            . exact G.out j h9 hj2
            . have:j=k:=oo;subst this;exact an.out
     . obtain rfl:ws.length=k:=oo
       have HC:=zh (V3 (n:=n) H1 H2 (λe he=>by
        obtain ⟨j,hj,rfl⟩:=j4.1 he
        exact G.out j hj hj))
       by_cases f:64<ws.length
       . have hb:(ws.length:Int)>64:=oo;rw [if_pos f] at HC;clear d;go_wp2_with fail;go_ret;rw [HC.out];exact ⟨rfl,p⟩
       . have hb:¬(ws.length:Int)>64:=oo;rw [if_neg f] at HC;clear d;go_wp2_with fail;go_ret;rw [HC.out];exact ⟨rfl,p⟩
end

end
section
open Go.RowKit
theorem QX:(Tryz.prog.info? 41).map (λi=>(i.zero,i.size,i.bytes))=some (some (.agg #[.int .i64 0,.string ⟨#[]⟩]),2,24):=qk
theorem eX:∀(a b:List (Int × ByteArray)),a.Perm b->(a.Pairwise λx y=>x.1<y.1)->(b.Pairwise λx y=>x.1<y.1)->a=b:=by
 intro a
 induction a with
 | nil=>intro b hp _ _;exact hp.nil_eq
 | cons x a ih=>
   intro b hp ha hb;cases b with
   | nil=>exact absurd hp.length_eq qs
   | cons y b=>
     have c:x=y:=by
      have h1:x∈y::b:=hp.subset (jA ..);have h2:y∈x::a:=hp.symm.subset (jA ..);rcases jh.1 h1 with h1 | h1
      . exact h1
      . rcases jh.1 h2 with h2 | h2
        . exact h2.symm
        . have e1:=(jx.1 ha).1 y h2;have e2:=(jx.1 hb).1 x h1;omega
     subst c;rw [ih b ((perm_cons x).1 hp) (jx.1 ha).2 (jx.1 hb).2]
theorem X7 (n:Nat) (ws d:List (Int × ByteArray)) (hn:(ws.map (·.1)).Nodup) (hb:∀e∈ws,0<=e.1/\e.1<(n:Int)) (hp:d.Perm ws) (hs:d.Pairwise λa b=>¬b.1<a.1):d=wlI (CS n ws):=by
 have f:ws.Nodup:=by
  have h:=hn;rw [Nodup,kE] at h;exact h.imp (λ{a b} hab e=>hab (by rw [e]))
 have c:(wlI (CS n ws)).Pairwise λa b=>a.1<b.1:=by
  unfold wlI;rw [kE];exact (Gn n ws).imp (λ{a b} h=>oo)
 have g:(wlI (CS n ws)).Perm ws:=by
  refine (perm_ext_iff_of_nodup (c.imp (λ{a b} h e=>by rw [e] at h;omega)) f).2 (λe=>?_);unfold wlI;rw [ie];constructor
  . rintro ⟨x,hx,rfl⟩;obtain ⟨h1,h2⟩:=(EK n ws x).1 hx;obtain ⟨y,hy,k⟩:=kG.1 h2;have h3:=List.find?_some hy;have h4:=List.mem_of_find?_eq_some hy;have:y=((x.1:Int),x.2):=Prod.ext (by simpa using h3) k;rw [<-this];exact h4
  . intro he;have l:=hb e he;refine ⟨(e.1.toNat,e.2),(EK n ws _).2 ⟨by show e.1.toNat<n;omega,?_⟩,Prod.ext (by show ((e.1.toNat:Nat):Int)=e.1;omega) rfl⟩;show (ws.find? λy=>y.1==((e.1.toNat:Nat):Int)).map (·.2)=some e.2;rw [show ((e.1.toNat:Nat):Int)=e.1 from oo,GV hn e he];rfl
 have i:d.Pairwise λa b=>a.1<b.1:=by
  have j:d.Pairwise λa b=>a.1≠b.1:=by
   have:=(hp.map (·.1)).nodup_iff.2 hn;rw [Nodup,kE] at this;exact this
  exact (hs.and j).imp (λ{a b} h=>oo)
 exact eX d _ (hp.trans g.symm) i c
attribute [local go_sem ↓] Go.wp_at_zero Go.wp_at_succ
theorem aH (A:Option Addr) (c n:Nat) (l:List (Int × ByteArray)) (w:World) (hn:n=l.length) (hl:l.length<=1000000) (hr:ListAt w w.heap.size 2 A (l.map B0)):
 Calls Tryz.prog 126 #[.slice A n c] w λe w'=>∃v,e=.returned v/\OwnL w' w.heap.size 41 2 v (l.map B0)/\Grew w w':=by
 subst hn;cases A with
 | none=>
   have h0:l=[]:=by
    rcases Nat.eq_zero_or_pos l.length with h0 | h0
    . exact kI.1 h0
    . obtain ⟨b,i,e,_⟩:=hr (by rw [iY];exact h0);cases e
   subst h0;have a:=λ(W:World)=>Lib.run_eql_slice_nil (P:=Tryz.prog) W 37 41 none 0 c 0 0 Tryz.underlying37;go_enter Tryz.func126,Tryz.ntmps126
   go_wp2
   go_ret;exact ⟨_,rfl,OwnL.nil _ _ _ _,gG⟩
 | some ad=>
   have a:=λ(W:World)=>Lib.run_eql_slice_nil (P:=Tryz.prog) W 37 41 (some ad) l.length c 0 0 Tryz.underlying37;have d:=ListAt.mono (B':=w.heap.size+1) (hr.keep (iX _) ((iW w).alloc (.cells #[] 41))) oo;go_enter Tryz.func126,Tryz.ntmps126;go_wp2_with (at_builtin;refine Ab (by rfl) _ _ 37 rfl w.heap.size 41 2 24 _ Tryz.underlying37 QX rfl qd _ [] (l.map B0) (by rfl) (OwnL.empty w _ _ _ (iX _) rfl) _ l.length _ (by rfl) qs (by intro r hr;obtain ⟨x,_,rfl⟩:=ie.1 hr;rfl) (by simpa using d) (by intro r hr;obtain ⟨x,_,rfl⟩:=ie.1 hr;rfl) (by simp;omega) (by simp;omega) qs ?_;intro v1 w3 f g h);go_ret;exact ⟨v1,rfl,f,Grew.own ((iW w).alloc _) g (by simp [Value.ownBlock]) (iX _)⟩

theorem VT:∀(a b:List Nat),(a.Pairwise λx y=>x<y)->(b.Pairwise λx y=>x<y)->(∀x,x∈a↔x∈b)->a=b:=by
 intro a
 induction a with
 | nil=>
   intro b _ _ h;cases b with
   | nil=>rfl
   | cons y b=>exact absurd ((h y).2 (jA ..)) qs
 | cons x a ih=>
   intro b ha hb h;cases b with
   | nil=>exact absurd ((h x).1 (jA ..)) qs
   | cons y b=>
     obtain ⟨c,f⟩:=jx.1 ha;obtain ⟨d,g⟩:=jx.1 hb
     have e:x=y:=by
      rcases jh.1 ((h x).1 (jA ..)) with h1 | h1
      . exact h1
      . rcases jh.1 ((h y).2 (jA ..)) with h2 | h2
        . exact h2.symm
        . have:=c y h2;have:=d x h1;omega
     subst e
     rw [ih b f g (λz=>by
      have hz:=h z
      constructor
      . intro h9
        rcases jh.1 (hz.1 (iz _ h9)) with h8 | h8
        . have:=c z h9;omega
        . exact h8
      . intro h9
        rcases jh.1 (hz.2 (iz _ h9)) with h8 | h8
        . have:=d z h9;omega
        . exact h8)]
theorem MC (S:Wl):(ksW S).Pairwise λx y=>x<y:=pairwise_lt_range.filter _
theorem Vz (S:Wl) (i:Nat) (hi:i<S.length) (h:S[i].1 / 32∈ksW (S.take i)):ksW (S.take (i+1))=ksW (S.take i):=by
 refine VT _ _ (MC _) (MC _) (λx=>?_);rw [ic hi,CT,CT];constructor
 . rintro ⟨h1,e,he,hx⟩;rcases ip.1 he with he | he
   . exact ⟨h1,e,he,hx⟩
   . rw [ia.1 he] at hx;rw [<-hx];exact (CT _ _).1 h
 . rintro ⟨h1,e,he,hx⟩;exact ⟨h1,e,jQ _ he,hx⟩
theorem Vm (S:Wl) (hS:S.Pairwise λa b=>a.1<b.1) (i:Nat) (hi:i<S.length) (c:S[i].1 / 32<32) (h:¬S[i].1 / 32∈ksW (S.take i)):ksW (S.take (i+1))=ksW (S.take i)++[S[i].1 / 32]:=by
 refine VT _ _ (MC _) (pairwise_append.2 ⟨MC _,pairwise_singleton _ _,λa ha b hb=>?_⟩) (λx=>?_)
 . rw [ia.1 hb];obtain ⟨_,e,he,hx⟩:=(CT _ _).1 ha;obtain ⟨j,hj,rfl⟩:=j4.1 he;rw [je] at hj;rw [getElem_take] at hx;have h1:=kN.1 hS j i oo hi oo;have h2:S[j].1 / 32≠S[i].1 / 32:=λe9=>h (by rw [<-e9,hx];exact ha);omega
 . rw [ic hi,ip,ia,CT,CT];constructor
   . rintro ⟨h1,e,he,hx⟩;rcases ip.1 he with he | he
     . exact .inl ⟨h1,e,he,hx⟩
     . rw [ia.1 he] at hx;exact .inr hx.symm
   . rintro (⟨h1,e,he,hx⟩ | rfl)
     . exact ⟨h1,e,jQ _ he,hx⟩
     . exact ⟨c,S[i],jI _ (ia.2 rfl),rfl⟩
theorem PM (l:Wl) (q:Nat):(Ad l q).isSome=true↔∃e∈l,e.1=q:=by
 induction l with
 | nil=>simp [Ad]
 | cons e l ih=>
   unfold Ad;cases hq:Ad l q with
   | some s=>
     rw [hq] at ih;obtain ⟨e',h1,h2⟩:=ih.1 rfl;exact ⟨λ_=>⟨e',iz _ h1,h2⟩,λ_=>rfl⟩
   | none=>
     rw [hq] at ih;constructor
     . intro h;by_cases a:q=e.1
       . exact ⟨e,jA ..,a.symm⟩
       . simp [a] at h
     . rintro ⟨e',h1,h2⟩;rcases jh.1 h1 with rfl | h1
       . simp [h2]
       . exact absurd (ih.2 ⟨e',h1,h2⟩) qs
def nm (E:Dev) (S:Wl) (v:U32) (i k j:Nat):U32:=if (Ad (S.take i) (32*k+j)).isSome=true then v else fld (mapI E k).data j
theorem dM (E:Dev) (S:Wl) (v:U32) (k j:Nat):nm E S v 0 k j=fld (mapI E k).data j:=by unfold nm;rw [take_zero];rfl
theorem fw (E:Dev) (S:Wl) (v:U32) (k:Nat):(List.range 32).map (nm E S v S.length k)=Ex E S v k:=by
 unfold Ex nm;rw [i8 (iX _)]
theorem eH (E:Dev) (S:Wl) (v:U32) (i:Nat) (hi:i<S.length) (k j:Nat) (hj:j<32):nm E S v (i+1) k j=if k=S[i].1 / 32/\j=S[i].1 % 32 then v else nm E S v i k j:=by
 unfold nm
 have h1:(Ad (S.take (i+1)) (32*k+j)).isSome=true↔((Ad (S.take i) (32*k+j)).isSome=true\/S[i].1=32*k+j):=by
  rw [PM,PM,ic hi];constructor
  . rintro ⟨e,he,hq⟩;rcases ip.1 he with he | he
    . exact .inl ⟨e,he,hq⟩
    . rw [ia.1 he] at hq;exact .inr hq
  . rintro (⟨e,he,hq⟩ | hq)
    . exact ⟨e,jQ _ he,hq⟩
    . exact ⟨S[i],jI _ (ia.2 rfl),hq⟩
 have h2:S[i].1=32*k+j↔(k=S[i].1 / 32/\j=S[i].1 % 32):=oo;by_cases h3:(Ad (S.take i) (32*k+j)).isSome=true
 . rw [if_pos (h1.2 (.inl h3)),if_pos h3];split<;>rfl
 . rw [if_neg h3];by_cases h4:k=S[i].1 / 32/\j=S[i].1 % 32
   . rw [if_pos h4,if_pos (h1.2 (.inr (h2.2 h4)))]
   . rw [if_neg h4,if_neg (λh9=>(h1.1 h9).elim h3 (λh8=>h4 (h2.1 h8)))]
def WP (ks:List Nat) (bk:Nat->Nat):Int->Option Value:=λa=>if 0<=a/\a.toNat∈ks then some (ptrV (bk a.toNat)) else none
theorem MI (ks:List Nat) (bk:Nat->Nat) (k:Nat):WP ks bk (k:Int)=if k∈ks then some (ptrV (bk k)) else none:=by
 unfold WP;rw [i9];by_cases h:k∈ks
 . rw [if_pos ⟨oo,h⟩,if_pos h]
 . rw [if_neg (λh9=>h h9.2),if_neg h]
structure MapsM (w:World) (lo mm:Nat) (ks:List Nat) (bk:Nat->Nat) (V:Nat->Nat->U32):Prop where
 map:MapI w mm (WP ks bk)
 lm:lo<=mm
 low:∀k∈ks,lo<=bk k
 blk:∀k∈ks,Blk w (bk k) 201 (AE (V k))
 inj:∀k∈ks,∀k'∈ks,bk k=bk k'->k=k'
theorem MapsM.kept {w w':World} {lo mm:Nat} {ks:List Nat} {bk:Nat->Nat} {V:Nat->Nat->U32} (h:MapsM w lo mm ks bk V) {S:Nat->Prop} (ht:Turned S w w') (hm:¬S mm) (hS:∀k∈ks,¬S (bk k)):MapsM w' lo mm ks bk V:=
 ⟨h.map.turned ht hm,h.lm,h.low,λk hk=>(h.blk k hk).turned ht (hS k hk),h.inj⟩
theorem MapsM.grew {w w':World} {lo mm:Nat} {ks:List Nat} {bk:Nat->Nat} {V:Nat->Nat->U32} (h:MapsM w lo mm ks bk V) (hg:Grew w w'):MapsM w' lo mm ks bk V:=h.kept (hg.turned (λ_=>False)) (λh=>h) (λ_ _ h=>h)
theorem MapsM.lookd {w w':World} {lo mm m:Nat} {ks:List Nat} {bk:Nat->Nat} {V:Nat->Nat->U32} (h:MapsM w lo mm ks bk V) (ht:Turned (λq=>q=m) w w') (hm:m<lo):MapsM w' lo mm ks bk V:=h.kept ht (by have:=h.lm;omega) (λk hk e=>by have:=h.low k hk;omega)
theorem MapsM.own {w w':World} {lo mm base e sz:Nat} {v:Value} {rows:List (List Value)} {ks:List Nat} {bk:Nat->Nat} {V:Nat->Nat->U32} (h:MapsM w lo mm ks bk V) (ho:OwnL w base e sz v rows) (hne:e≠201) (hg:w.grownBy w' v.ownBlock):MapsM w' lo mm ks bk V:=
 h.kept (S:=λq=>v.ownBlock=some q) ⟨hg.os,hg.tape,hg.output,hg.size,λk hk hn=>hg.block k hk (λe9=>hn e9.symm)⟩ (λe9=>DP ho h.map e9) (λk hk e9=>ho.ne_blk (h.blk k hk) hne e9)
theorem MapsM.snoc {w w':World} {lo mm b k:Nat} {ks:List Nat} {bk:Nat->Nat} {V:Nat->Nat->U32} {X:Nat->U32} (h:MapsM w lo mm ks bk V) (hk:¬k∈ks) (g:lo<=b) (hb:Blk w b 201 (AE X)) (f:∀j∈ks,¬bk j=b) (hm:MapI w' mm (upd (WP ks bk) (k:Int) (some (ptrV b)))) (ht:Turned (λq=>q=mm) w w'):
 MapsM w' lo mm (ks++[k]) (λj=>if j=k then b else bk j) (λj=>if j=k then X else V j):=by
 have d:∀j∈ks,¬j=k:=λj hj e=>hk (e▸hj);refine ⟨hm.congr (λa=>?_),h.lm,λj hj=>?_,λj hj=>?_,λj hj j' c he=>?_⟩
 . by_cases ha:a=(k:Int)
   . subst ha;rw [ER,MI,if_pos qs,if_pos rfl]
   . rw [Ep _ _ ha];unfold WP;by_cases h1:0<=a/\a.toNat∈ks
     . rw [if_pos h1,if_pos ⟨h1.1,jQ _ h1.2⟩];show _=some (ptrV (if a.toNat=k then b else bk a.toNat));rw [if_neg oo]
     . rw [if_neg h1,if_neg];rintro ⟨h2,h3⟩;rcases ip.1 h3 with h3 | h3
       . exact h1 ⟨h2,h3⟩
       . have:=ia.1 h3;omega
 . rcases ip.1 hj with hj | hj
   . show lo<=if j=k then b else bk j;rw [if_neg (d j hj)];exact h.low j hj
   . rw [ia.1 hj];show lo<=if k=k then b else bk k;rw [if_pos rfl];exact g
 . rcases ip.1 hj with hj | hj
   . simp only [if_neg (d j hj)];exact (h.blk j hj).turned ht (Ch (h.blk j hj) h.map)
   . rw [ia.1 hj];simp only [if_true];exact hb.turned ht (Ch hb h.map)
 . change (if j=k then b else bk j)=(if j'=k then b else bk j') at he;rcases ip.1 hj with hj | hj<;>rcases ip.1 c with c | c
   . rw [if_neg (d j hj),if_neg (d j' c)] at he;exact h.inj j hj j' c he
   . rw [ia.1 c] at he ⊢;rw [if_neg (d j hj),if_pos rfl] at he;exact absurd he (f j hj)
   . rw [ia.1 hj] at he ⊢;rw [if_pos rfl,if_neg (d j' c)] at he;exact absurd he.symm (f j' c)
   . rw [ia.1 hj,ia.1 c]
theorem MapsM.store {w:World} {lo mm k j:Nat} {ks:List Nat} {bk:Nat->Nat} {V:Nat->Nat->U32} (h:MapsM w lo mm ks bk V) (hk:k∈ks) (v:U32):MapsM (w.setCell ⟨bk k,j,none⟩ (.int .u32 (u32 v))) lo mm ks bk (λk' i=>if k'=k/\i=j then v else V k' i):=by
 have hT:Turned (λq=>q=bk k) w (w.setCell ⟨bk k,j,none⟩ (.int .u32 (u32 v))):=(jD (λq=>q=bk k) w).setCell (p:=⟨bk k,j,none⟩) (λ_=>rfl) _;refine ⟨h.map.turned hT (λe=>Ch (h.blk k hk) h.map e.symm),h.lm,h.low,λk' hk'=>?_,h.inj⟩;by_cases b:k'=k
 . subst b;have:=(h.blk k' hk').set_ j (.int .u32 (u32 v));rw [Ht] at this;refine this.conv (BF λi _=>?_);by_cases a:i=j
   . rw [if_pos a,if_pos ⟨rfl,a⟩]
   . rw [if_neg a,if_neg (λh9=>a h9.2)]
 . have:=(h.blk k' hk').turned hT (λe=>b (h.inj k' hk' k hk e));exact this.conv (BF λi _=>by rw [if_neg (λh9=>b h9.1)])
theorem MapsM.conv {w:World} {lo mm:Nat} {ks:List Nat} {bk:Nat->Nat} {V V':Nat->Nat->U32} (h:MapsM w lo mm ks bk V) (e:∀k∈ks,∀j,j<32->V k j=V' k j):MapsM w lo mm ks bk V':=
 ⟨h.map,h.lm,h.low,λk hk=>(h.blk k hk).conv (BF λj hj=>e k hk j hj),h.inj⟩

end
section
attribute [local go_sem ↓] Go.wp_at_zero Go.wp_at_succ
open Go.RowKit Go.Shelf Go.Lib
abbrev EltW:=Fin 1024 × ByteArray
def Gp (a:EltW):List Value:=[.int .i64 ((a.1.1:Nat):Int),.string a.2]
def Xt (x y:EltW):Int:=((x.1.1:Nat):Int) - ((y.1.1:Nat):Int)
theorem MN (x y:EltW):Go.Proofs.ltOf Xt x y=true↔x.1.1<y.1.1:=by
 unfold Go.Proofs.ltOf Xt;rw [jG];omega
theorem swW:Go.Sort.SWO (Go.Proofs.ltOf Xt) where
 irrefl x:=by
  cases h:Go.Proofs.ltOf Xt x x with
  | false=>rfl
  | true=>have:=(MN x x).1 h;omega
 trans x y z h1 h2:=by
  rw [MN] at h1 h2 ⊢;omega
 ntrans x y z h1 h2:=by
  rw [<-jl] at h1 h2 ⊢;rw [MN] at h1 h2 ⊢;omega
def toW (e:Int × ByteArray):EltW:=(⟨e.1.toNat % 1024,kT _ qd⟩,e.2)
def ofW (a:EltW):Int × ByteArray:=(((a.1.1:Nat):Int),a.2)
theorem e8 (e:Int × ByteArray) (h:0<=e.1/\e.1<1024):ofW (toW e)=e:=by
 unfold ofW toW;refine Prod.ext ?_ rfl;show ((e.1.toNat % 1024:Nat):Int)=e.1;omega
theorem eo (x y:EltW) (W:World):Calls Tryz.prog 128 #[.agg (Gp x).toArray,.agg (Gp y).toArray] W λe w'=>e=.returned (.int .i64 (Xt x y))/\∃q os',w'=Go.Sort.grow (W.drewN q) os':=by
 obtain ⟨⟨a,ha⟩,s⟩:=x;obtain ⟨⟨b,hb⟩,t⟩:=y;show Calls Tryz.prog 128 #[.agg #[.int .i64 (a:Int),.string s],.agg #[.int .i64 (b:Int),.string t]] W _;have c:-1024<=(a:Int) - (b:Int)/\(a:Int) - (b:Int)<=1024:=oo;go_enter Tryz.func128,Tryz.ntmps128;go_wp2_with fail;go_ret;exact ⟨rfl,0,_,by rw [Go.Sort.alloc_eq_grow,Go.Sort.alloc_eq_grow,Go.Sort.grow_grow];rfl⟩
theorem Mg (w:World) (g m:Nat) (d:Array EltW) (os:Array Obj):Turned (λi=>i=g) w (Go.Proofs.sortWorldK Gp 2 w g 0 m d os):=by
 refine ⟨rfl,rfl,rfl,?_,λk hk hs=>?_⟩
 . exact Go.Proofs.size_sortWorldK_c Gp 2 w g 0 m d os
 . unfold Go.Proofs.sortWorldK Go.Sort.grow Go.Sort.putRowK Go.Sort.putRow Go.Sort.mapBlock Go.Sort.ahead;show (w.heap.modify g _++os)[k]? =w.heap[k]?;rw [Array.getElem?_append_left (by rw [Array.size_modify];exact hk),kA,if_neg (λe=>hs e.symm)]
theorem QM (d:Array EltW) (i:Nat) (h:i<d.size):d[i]! =d.toList[i]'(by rw [jP];exact h):=by
 rw [getElem!_pos d i h,Array.getElem_toList]
theorem Ts {w:World} {base g cap:Nat} {N:List EltW} (h:OwnL w base 41 2 (.slice (some ⟨g,0,none⟩) N.length cap) (N.map Gp)):Go.Sort.HoldsK Gp 2 w g 0 N.toArray:=by
 intro t ht;have a:t<N.length*2:=by simpa using ht
 have hj:t / 2<N.length:=oo;rw [Go.Sort.get_flatK _ _ _ _ (by simpa using a),kF]
 have b:(N.toArray)[t / 2]! =N[t / 2]:=by
  rw [getElem!_pos _ _ (by simpa using hj)];simp
 have c:(N.map Gp)[t / 2]? =some (Gp N[t / 2]):=by rw [iZ,iV hj];rfl
 rw [b];refine ⟨?_,h.frozen t⟩;have hm:t=t / 2*2+t % 2:=oo;have d:t % 2<2:=kT _ qd
 have hu:(Gp N[t / 2])[t % 2]? =some ((Gp N[t / 2])[t % 2]!):=by
  have e:(Gp N[t / 2]).length=2:=rfl;rw [iV oo,getElem!_pos _ _ oo]
 have:=h.cell (j:=t / 2) (i:=t % 2) c hu;rwa [<-hm] at this
theorem ei {w:World} {g:Nat} {d:Array EltW} (h:Go.Sort.HoldsK Gp 2 w g 0 d) (hg:g<w.heap.size):ListAt w w.heap.size 2 (some ⟨g,0,none⟩) (d.toList.map Gp):=by
 refine λ_=>⟨g,0,rfl,hg,λj cs hj i v hi=>?_⟩;rw [iZ] at hj;cases hx:d.toList[j]? with
 | none=>rw [hx] at hj;cases hj
 | some x=>
   rw [hx] at hj;have f:j<d.toList.length:=(iw.1 hx).1;have b:j<d.size:=by rw [<-jP];exact f
   injection hj with hj;have e:cs=Gp x:=hj.symm;have a:i<cs.length:=(iw.1 hi).1;have k:i<2:=by rw [e] at a;exact a
   have hc:=(h.cell (i:=j) (c:=i) b k).1
   have l:d[j]! =x:=by
    rw [QM d j b];exact (iw.1 hx).2
   rw [l,<-e,getElem!_pos cs i a] at hc;rw [hc,(iw.1 hi).2]
theorem Wd (g cap n:Nat) (ws:List (Int × ByteArray)) (hl:0<ws.length/\ws.length<=100000) (hn:(ws.map (·.1)).Nodup) (hb:∀e∈ws,0<=e.1/\e.1<(n:Int)) (s:n<=1024) (w:World) (base:Nat) (b:OwnL w base 41 2 (.slice (some ⟨g,0,none⟩) ws.length cap) (ws.map B0)):
 Calls Tryz.prog 127 #[.slice (some ⟨g,0,none⟩) ws.length cap,.func (.func 128) #[] #[]] w λe w'=>e=.returned (.tuple #[])/\Turned (λi=>i=g) w w'/\ListAt w' w'.heap.size 2 (some ⟨g,0,none⟩) ((wlI (CS n ws)).map B0):=by
 obtain ⟨N,hN⟩:∃N:List EltW,ws.map toW=N:=⟨_,rfl⟩;have f:N.length=ws.length:=by rw [<-hN,iY]
 have o:N.map Gp=ws.map B0:=by
  rw [<-hN,jt];apply jO;intro e he;have:=hb e he;show B0 (ofW (toW e))=B0 e;rw [e8 e ⟨this.1,oo⟩]
 have p:N.map ofW=ws:=by
  rw [<-hN,jt];conv=>rhs;rw [<-List.map_id ws]
  apply jO;intro e he;have:=hb e he;exact e8 e ⟨this.1,oo⟩
 rw [<-o,<-f] at b;rw [<-f];have hg:g<w.heap.size:=(b.own_ge rfl).2;have hH:=Ts b;have a:N.toArray.size=N.length:=qs;have h:N.toArray.toList=N:=qs;obtain ⟨d,hd⟩:∃d,N.toArray=d:=⟨_,rfl⟩;rw [hd] at hH a h;have eg:∀args w,(callFunc 128 args).run Tryz.prog w=.ok (.enter 128 args) w:=BD Tryz.func128 qk qk;have c:=Go.Proofs.AnyQ.slices_SortFunc gQ 2 Tryz.isAgg41 Tryz.sizeOf41 Gp (λ_=>rfl) (λx v hv=>by simp [Gp] at hv;rcases hv with rfl | rfl<;>rfl) Xt swW 128 #[] g 0 cap d w eg (λm os dk hs x y=>eo x y _) hH hg (by rw [a];omega);change Calls Tryz.prog 127 _ _ _ at c;rw [a] at c;refine c.mono ?_;rintro e w' ⟨rfl,d',n',os,hp,hs,rfl⟩;refine ⟨rfl,Mg w g n' d' os,?_⟩;have k:d'.size=d.size:=hp.1;have hh:=ei (d:=d') (Go.Proofs.holdsK_sortWorldK_c Gp 2 w g 0 d d' n' os hH hg k) (ig hg (Go.Proofs.size_sortWorldK_c Gp 2 w g 0 n' d' os))
 have he:d'.toList.map ofW=wlI (CS n ws):=by
  refine X7 n ws _ hn hb ?_ ?_
  . have h3:=hp.2.2;rw [<-a,Array.extract_size,<-k,Array.extract_size] at h3;have h4:=(h3.map ofW);rw [h,p] at h4;exact h4
  . rw [kE,kN];intro i j hi hj r l;rw [jP] at hi hj;have h4:=hs i j (jL _) r oo;rw [QM d' j hj,QM d' i hi] at h4;rw [(MN _ _).2 (by unfold ofW at l;simp only at l;omega)] at h4;cases h4
 have q:d'.toList.map Gp=(wlI (CS n ws)).map B0:=by
  rw [<-he,jt];rfl
 rw [q] at hh;exact hh

end
section
open Go.RowKit
theorem DU {w w':World} {sz:Nat} {A:Option Addr} {rows:List (List Value)} {S:Nat->Prop} (h:ListAt w w.heap.size sz A rows) (ht:Turned S w w') (hS:∀b off o u,A=some ⟨b,off,none⟩->w.cell? ⟨b,o,none⟩=some u->¬S b):ListAt w' w'.heap.size sz A rows:=λhl=>by
 obtain ⟨b,off,e,hb,hc⟩:=h hl;refine ⟨b,off,e,ig hb ht.size,λj cs hj i v hi=>?_⟩;have hv:=hc j cs hj i v hi;rw [ht.cellEq b _ hb (hS b off _ v e hv)];exact hv
theorem AG {w w':World} {sz:Nat} {A:Option Addr} {cells:List (List Value)} (h:ListAt w w.heap.size sz A cells) (hg:Grew w w'):ListAt w' w'.heap.size sz A cells:=(h.keep (iX _) hg).mono hg.size
theorem OwnL.some_ {w:World} {base e sz:Nat} {v:Value} {rows:List (List Value)} (h:OwnL w base e sz v rows) (a:rows≠[]):∃g cap,v=.slice (some ⟨g,0,none⟩) rows.length cap/\base<=g/\g<w.heap.size:=by
 rcases h.form with ⟨_,h0⟩ | ⟨g,cap,e1,h1,h2,_⟩
 . exact absurd h0 a
 . exact ⟨g,cap,e1,h1,h2⟩
theorem Th {w0:World} {x s m:Nat} {sy ep:Int} {E R:Dev} {out:Nat->Prop} {b:Nat} {W wA w1 w9 w10:World} (d:Grew W wA) (hd:Done w0 x s m sy ep E (λk=>out k\/k=b) wA w1) (a:StoreM w9 s m x sy ep) (hT:Turned (λq=>q=m\/w1.heap.size<=q) w1 w9)
 (hL:Live w0 x R (up (λk=>out k\/k=b) w1.heap.size w9) w10) (hB:Beside w0 (up (λk=>out k\/k=b) w1.heap.size w9) w9 w10) (e:out s) (c:out m):Done w0 x s m sy ep R out W w10:=by
 have f:=a.lt.2;refine ⟨hL.few (λk hk=>.inl (.inl hk)),a.kept hB (λhk=>hk.2 (.inl (.inl e))) (λhk=>hk.2 (.inl (.inl c))),?_⟩;have h1:Turned (λk=>(w0.heap.size<=k/\¬out k)\/k=m) W w1:=(d.turned _).trans (hd.turned.mono λk _ hk=>hk.elim (λh9=>.inl ⟨h9.1,λh8=>h9.2 (.inl h8)⟩) .inr)
 have h2:Turned (λk=>(w0.heap.size<=k/\¬out k)\/k=m) W w9:=h1.next hT (λk hk hq=>by
  rcases hq with hq | hq
  . exact .inr hq
  . exact absurd hk (by have:=h1.size;omega))
 exact h2.trans (hB.mono λk _ hk=>.inl ⟨hk.1,λh9=>hk.2 (.inl (.inl h9))⟩)
theorem J3 {w:World} {g k:Nat} {l:Wl} (h:ListAt w w.heap.size 2 (some ⟨g,0,none⟩) ((wlI l).map B0)) (hk:k<l.length):g<w.heap.size/\w.cell? ⟨g,k*2,none⟩=some (.int .i64 ((l[k].1:Nat):Int))/\w.cell? ⟨g,k*2+1,none⟩=some (.string l[k].2):=by
 obtain ⟨b,a,e,hb,c0,c1⟩:=LN h (k:=k) (by unfold wlI;rw [iY];exact hk);injection e with e;injection e with e1 e2 _;subst e1;subst e2;have he:(wlI l)[k]'(by unfold wlI;rw [iY];exact hk)=(((l[k].1:Nat):Int),l[k].2):=by simp [wlI]
 rw [he] at c0 c1;simp only [kF] at c0 c1;exact ⟨hb,c0,c1⟩
theorem P3:ksW []=[]:=qd
theorem MapsM.made {w:World} (V:Nat->Nat->U32):MapsM (w.alloc (.map #[] 0)) w.heap.size w.heap.size (ksW []) (λ_=>0) V:=by
 rw [P3];exact ⟨(MapIs.made w rfl).congr (λa=>by unfold WP;rw [if_neg (λh=>absurd h.2 not_mem_nil)]),iX _,(λk hk=>absurd hk (not_mem_nil)),(λk hk=>absurd hk (not_mem_nil)),(λk hk=>absurd hk (not_mem_nil))⟩
theorem fE {w1 w2:World} {b s t' k:Nat} {ver:BitVec 32} (hg:Grew w1 w2) (h:(λw':World=>w'.cell? ⟨b,0,none⟩=some (ptrV s)/\b<w'.heap.size/\w'.cell? ⟨t',k,none⟩=some (.int .u32 (u32 ver))/\t'<w'.heap.size) w1):(λw':World=>w'.cell? ⟨b,0,none⟩=some (ptrV s)/\b<w'.heap.size/\w'.cell? ⟨t',k,none⟩=some (.int .u32 (u32 ver))/\t'<w'.heap.size) w2:=⟨CQ hg h.1,ig h.2.1 hg.size,CQ hg h.2.2.1,ig h.2.2.2 hg.size⟩
theorem fO {tv v:U32} (h:tv+1#32=v) (hn:tv≠4294967295#32):(u32 tv==4294967295)=false/\u32 tv+1=u32 v/\u32 tv+1<=4294967295/\IntKind.u32.wrap (u32 tv+1)=u32 v:=by
 have h1:tv.toNat≠4294967295:=λe=>hn (BitVec.eq_of_toNat_eq (by rw [e];rfl));have h2:=tv.isLt
 have h3:u32 tv+1=u32 v:=by
  unfold u32;rw [<-h,BitVec.toNat_add];have:(1#32:BitVec 32).toNat=1:=rfl;omega
 have h4:u32 tv+1<=4294967295:=by unfold u32;omega
 refine ⟨by rw [it];unfold u32;omega,h3,h4,?_⟩;rw [h3];exact IntWalk.u32_in _ (An v)
theorem VQ {w:World} {base g cap:Nat} {ks:List Nat} (h:OwnL w base 3 1 (.slice (some ⟨g,0,none⟩) ks.length cap) (ks.map λk:Nat=>[.int .i64 (k:Int)])) {j:Nat} (hj:j<ks.length):w.cell? ⟨g,j,none⟩=some (.int .i64 ((ks[j]:Nat):Int))/\g<w.heap.size:=by
 have h1:(ks.map λk:Nat=>[Value.int .i64 (k:Int)])[j]? =some [.int .i64 ((ks[j]:Nat):Int)]:=by rw [iZ,iV hj];rfl
 have h2:=h.cell (j:=j) (i:=0) h1 rfl;exact ⟨by simpa using h2,(h.own_ge rfl).2⟩
def nt (td:ByteArray) (S:Wl) (v:U32) (q p:Nat):U32:=if p∈(ksW S).take q then v else fld td p
theorem eM (td:ByteArray) (S:Wl) (v:U32) (p:Nat):nt td S v 0 p=fld td p:=by unfold nt;rw [take_zero,if_neg not_mem_nil]
theorem eP (td:ByteArray) (S:Wl) (v:U32) (q:Nat) (hq:q<(ksW S).length) (p:Nat):(if p=(ksW S)[q] then v else nt td S v q p)=nt td S v (q+1) p:=by
 unfold nt;rw [ic hq];by_cases h:p=(ksW S)[q]
 . rw [if_pos h,if_pos (jI _ (ia.2 h))]
 . rw [if_neg h];by_cases h2:p∈(ksW S).take q
   . rw [if_pos h2,if_pos (jQ _ h2)]
   . rw [if_neg h2,if_neg (λh9=>(ip.1 h9).elim h2 (λh8=>h (ia.1 h8)))]
theorem gJ (E:Dev) (td:ByteArray) (S:Wl) (v:U32) (h:(topI E).data=td):(List.range 32).map (nt td S v (ksW S).length)=GC E S v:=by
 unfold GC;apply jO;intro p hp;have a:=jB.1 hp;unfold nt;rw [i8 (iX _),h]
 have:p∈ksW S↔(S.any λe=>e.1 / 32==p)=true:=by
  unfold ksW;rw [jV];exact ⟨λh=>h.2,λh=>⟨hp,h⟩⟩
 by_cases h2:p∈ksW S
 . rw [if_pos h2,if_pos (this.1 h2)]
 . rw [if_neg h2,if_neg (λh9=>h2 (this.2 h9))]
theorem OG {go g n c:Nat} (h:(Value.slice (some ⟨go,0,none⟩) n c).ownBlock=some g):g=go:=by
 have e1:go=g:=by simpa [Value.ownBlock] using h
 exact e1.symm
def en0 (E:Dev) (S:Wl) (v:U32):Int × ByteArray:=(0,Ak (AM (GC E S v)) v 0)
def enM (E:Dev) (S:Wl) (v:U32) (q:Nat):List (Int × ByteArray):=((ksW S).take q).map λk:Nat=>(1+(k:Int),Ak (AM (Ex E S v k)) v (1+(k:Int)))
def enD (S:Wl) (v:U32) (q:Nat):List (Int × ByteArray):=(S.take q).map λe=>(131+((e.1:Nat):Int),Ak e.2 v (131+((e.1:Nat):Int)))
theorem ZE (E:Dev) (S:Wl) (v:U32) (q:Nat) (hq:q<(ksW S).length):enM E S v (q+1)=enM E S v q++[(1+(((ksW S)[q]:Nat):Int),Ak (AM (Ex E S v (ksW S)[q])) v (1+(((ksW S)[q]:Nat):Int)))]:=by
 unfold enM;rw [ic hq,il];rfl
theorem Zi (S:Wl) (v:U32) (q:Nat) (hq:q<S.length):enD S v (q+1)=enD S v q++[(131+((S[q].1:Nat):Int),Ak S[q].2 v (131+((S[q].1:Nat):Int)))]:=by
 unfold enD;rw [ic hq,il];rfl
theorem Vg (E:Dev) (S:Wl) (v:U32) (q:Nat):(enM E S v q).length<=(ksW S).length:=by unfold enM;rw [iY,je];omega
theorem eD (S:Wl) (v:U32) (q:Nat):(enD S v q).length<=S.length:=by unfold enD;rw [iY,je];omega
theorem gC (E:Dev) (S:Wl) (v:U32):en0 E S v::(enM E S v (ksW S).length++enD S v S.length)=wlI (ID E S v):=by
 unfold wlI ID enM enD en0;rw [i8 (iX _),i8 (iX _),map_cons,il,jt,jt];congr 1
def slU (l:Wl) (q:Nat):List (Int × ByteArray):=(List.range q).map λi:Nat=>(34+(i:Int),(l.getD i (0,⟨#[]⟩)).2)
theorem bj (l:Wl) (q:Nat) (hq:q<l.length):slU l (q+1)=slU l q++[(34+(q:Int),l[q].2)]:=by
 unfold slU;rw [kP,il];simp [iu,iV hq]
theorem Qp (l:Wl) (q:Nat):(slU l q).length=q:=by unfold slU;rw [iY,jr]
theorem cS (l:Wl):slU l l.length=wlI (Cb l):=by
 unfold slU wlI Cb;rw [jt];apply jO;intro j _;show (34+(j:Int),_)=(((34+j:Nat):Int),_);rw [show (((34+j:Nat)):Int)=34+(j:Int) from oo]
theorem TV (l:Wl) (q:Nat) (hq:q<l.length):AP (Fw (l.take (q+1)))=AP (Fw (l.take q))++l[q].2:=by
 unfold Fw;rw [ic hq,il];exact Ky _ _
theorem LL (l:Wl):((wlI l).map B0).length=l.length:=by unfold wlI;rw [iY,iY]
theorem bu (E:Dev) (S:Wl) (v:U32) (h:S.length<=64):0<(ID E S v).length/\(ID E S v).length<=97:=by
 have h1:(ksW S).length<=32:=by unfold ksW;exact ij (j5 _ _) (by rw [jr];exact iX _)
 unfold ID;rw [jf,iy,iY,iY];omega
theorem Wk (E:Dev) (S:Wl) (v:U32):∀e∈ID E S v,e.2.size=140:=by
 intro e he;unfold ID at he;rcases jh.1 he with rfl | he
 . exact Bc ..
 . rcases ip.1 he with he | he
   . obtain ⟨k,_,rfl⟩:=ie.1 he;exact Bc ..
   . obtain ⟨k,_,rfl⟩:=ie.1 he;exact Bc ..
def Zr:Prop:=∀(g cap n:Nat) (ws:List (Int × ByteArray)) (_:0<ws.length/\ws.length<=100000) (_:(ws.map (·.1)).Nodup) (_:∀e∈ws,0<=e.1/\e.1<(n:Int)) (_:n<=1024) (w:World) (base:Nat) (_:OwnL w base 41 2 (.slice (some ⟨g,0,none⟩) ws.length cap) (ws.map B0)),
 Calls Tryz.prog 127 #[.slice (some ⟨g,0,none⟩) ws.length cap,.func (.func 128) #[] #[]] w λe w'=>e=.returned (.tuple #[])/\Turned (λi=>i=g) w w'/\ListAt w' w'.heap.size 2 (some ⟨g,0,none⟩) ((wlI (CS n ws)).map B0)
theorem dY:Zr:=λg cap n ws a b c d w base e=>Wd g cap n ws a b c d w base e

end
section
attribute [local go_sem ↓] Go.wp_at_zero Go.wp_at_succ
open Go.RowKit
def Qm (w0:World) (x:Nat) (out:Nat->Prop) (W:World) (n B:Nat) (v:Value) (f:Dev->Dev × Int):Prop:=
 ∃fn first caps,v=.func (.func fn) first caps/\CF Tryz.prog fn/\∀D' w',Live w0 x D' out w'->Beside w0 out W w'->D'.pend.length<=B->Calls Tryz.prog fn (first++caps) w' λe w''=>
  e=.returned (.int .i64 (f D').2)/\Live w0 x (f D').1 out w''/\Beside w0 out w' w''/\(f D').1.pend.length<=D'.pend.length+n
theorem Works.toB {w0:World} {x:Nat} {out:Nat->Prop} {W:World} {n n' B:Nat} {v:Value} {f:Dev->Dev × Int} (h:Works w0 x out W n v f) (hn:n<=n') (hB:B<=990000):Qm w0 x out W n' B v f:=by
 obtain ⟨fn,first,d,h1,h2,h3⟩:=h;exact ⟨fn,first,d,h1,h2,λD' w' a b c=>(h3 D' w' a b oo).mono λe w'' h=>⟨h.1,h.2.1,h.2.2.1,oo⟩⟩
def WorksLB (w0:World) (x:Nat) (out:Nat->Prop) (W:World) (n B:Nat) (fs:List (Dev->Dev × Int)) (vs:List Value):Prop:=
 vs.length=fs.length/\∀(k:Nat) (f:Dev->Dev × Int) (v:Value),fs[k]? =some f->vs[k]? =some v->Qm w0 x out W n B v f
theorem WorksL.toB {w0:World} {x:Nat} {out:Nat->Prop} {W:World} {n n' B:Nat} {fs:List (Dev->Dev × Int)} {vs:List Value} (h:WorksL w0 x out W n fs vs) (hn:n<=n') (hB:B<=990000):WorksLB w0 x out W n' B fs vs:=
 ⟨h.1,λk f v h1 h2=>(h.2 k f v h1 h2).toB hn hB⟩
theorem WorksLB.snoc {w0:World} {x:Nat} {out:Nat->Prop} {W:World} {n B:Nat} {fs:List (Dev->Dev × Int)} {vs:List Value} {f:Dev->Dev × Int} {v:Value} (h:WorksLB w0 x out W n B fs vs) (hk:Qm w0 x out W n B v f):WorksLB w0 x out W n B (fs++[f]) (vs++[v]):=by
 refine ⟨by rw [iy,iy,h.1];rfl,λj f' v' h1 h2=>?_⟩;rcases jY j fs.length with hj | hj
 . rw [jm hj] at h1;rw [jm (by rw [h.1];exact hj)] at h2;exact h.2 j f' v' h1 h2
 . rw [jW hj] at h1;rw [jW (by rw [h.1];exact hj),h.1] at h2;have h0:j - fs.length=0:=by have:=(iw.1 h1).1;simp at this;omega
   rw [h0] at h1 h2;obtain rfl:f=f':=by simpa using h1
   obtain rfl:v=v':=by simpa using h2
   exact hk
theorem WT {w0:World} {x:Nat} {D:Dev} {out:Nat->Prop} {W:World} (hL:Live w0 x D out W) (n B:Nat) (fs:List (Dev->Dev × Int)) (vs:List Value) (hW:WorksLB w0 x out W n B fs vs)
 (i:D.pend.length+n*vs.length<=B) (hv:vs.length<=990000) (A:Option Addr) (c:Nat) (b:ListAt W W.heap.size 1 A (vs.map λv=>[v])) (hA:Et w0 out A):
 Calls Tryz.prog 120 #[.slice A vs.length c] W λe w'=>e=.returned (.int .i64 (De fs D).2)/\Live w0 x (De fs D).1 out w'/\Beside w0 out W w':=by
 refine (cO (λk D' w'=>(k<=vs.length->D'.pend.length<=D.pend.length+n*k)/\Live w0 x D' out w'/\Beside w0 out W w') fs vs hW.1 oo A c (λk D' w' h=>b.beside h.2.2 hA) (λk h1 h2=>?_) D W ⟨λ_=>oo,hL,jD _ _⟩).mono ?_
 . obtain ⟨fn,first,g,hv,hE,hc⟩:=hW.2 k _ _ (iV h1) (iV h2);refine ⟨fn,first,g,hv,hE,λD' w' ⟨hp,a,hB⟩=>?_⟩;have h9:=hp oo;have h8:n*k<=n*vs.length:=Nat.mul_le_mul_left n oo;refine (hc D' w' a hB oo).mono ?_;rintro e l ⟨he,d,f,m⟩;exact ⟨he,λ_=>by rw [Nat.mul_succ];omega,d,hB.trans f⟩
 . rintro e w' ⟨he,j,hj,hp,a,hB⟩;exact ⟨he,a,hB⟩
theorem Xn:CF Tryz.prog 133:=BD Tryz.func133 qk qk
theorem SG {w0:World} {x s m:Nat} {sy ep:Int} {out:Nat->Prop} {W:World} (hb:Blk W s 252 (Ct x sy ep m)) (hs:out s) {b2 b25 ge c:Nat} (h2:Blk W b2 106 #[ptrV s]) (o2:out b2) (L:List (Int × ByteArray)) (hl:L.length<=97) (d:∀e∈L,e.2.size<=9223372036854775807)
 (g:Blk W b25 219 #[.slice (some ⟨ge,0,none⟩) L.length c]) (h:out b25) (f:ListAt W W.heap.size 2 (some ⟨ge,0,none⟩) (L.map B0)) (og:out ge):
 Qm w0 x out W 100 980000 (.func (.func 133) #[] #[.pointer (some ⟨b2,0,none⟩),.pointer (some ⟨b25,0,none⟩)]) (λD=>Bm sy ep (CL L) D):=by
 refine ⟨_,_,_,rfl,Xn,λD' w' hL hB hp=>?_⟩;have hC:=KE hL (hb.beside hB hs) hs oo L oo d (some ⟨ge,0,none⟩) c (f.beside hB (λb off e=>by injection e with e;injection e with e _ _;subst e;exact .inr og));have i:=O4 sy ep (CL L) D';have j:(CL L).length=L.length+3:=by unfold CL;rw [iy,iY];rfl
 have k2:=h2.beside hB o2;have a:=g.beside hB h;have c2:=k2.cell 0;have l2:=k2.lt;have o:=a.cell 0;have p:=a.lt;have HC:=zh hC;have k:=zh (show (Bm sy ep (CL L) D').1.pend.length<=D'.pend.length+100 from oo);clear hC i j k2 a hb h2 g f d hL hB hp;show Calls Tryz.prog 133 #[.pointer (some ⟨b2,0,none⟩),.pointer (some ⟨b25,0,none⟩)] w' _;go_enter Tryz.func133,Tryz.ntmps133;go_wp2_with fail;refine HC.mono ?_;rintro e w3 ⟨rfl,l,n⟩;go_wp2_with fail;go_ret;exact ⟨rfl,l,n,k⟩
def VY (sy ep:Int) (l:Wl) (v:U32):List (Dev->Dev × Int):=((wlI (Cb l)).map (λe D=>BJ D sy ep e.1 e.2)++[λD=>Cl D sy ep,λD=>BJ D sy ep 33 (GE l v),λD=>Cl D sy ep])++[λD=>Bm sy ep (CL (wlI l)) D]
theorem Wz (sy ep:Int) (l:Wl) (v:U32) (D:Dev):De (VY sy ep l v) D=Bm sy ep (Cw l v) D:=by
 have h1:∀D,De ((wlI (Cb l)).map (λe D=>BJ D sy ep e.1 e.2)++[λD=>Cl D sy ep,λD=>BJ D sy ep 33 (GE l v),λD=>Cl D sy ep]) D=Bm sy ep (puts (Cb l)++[.sync]++(puts [(33,GE l v)]++[.sync])) D:=by
  intro D;rw [<-UJ];congr 1;unfold wlI puts;simp only [il,jt,map_cons,map_nil,jK,cons_append,nil_append];congr 1
 have h2:Cw l v=(puts (Cb l)++[.sync]++(puts [(33,GE l v)]++[.sync]))++CL (wlI l):=by
  rw [WX];unfold Cw;simp only [jK]
 obtain ⟨P,hP⟩:∃P,puts (Cb l)++[St.sync]++(puts [(33,GE l v)]++[St.sync])=P:=⟨_,rfl⟩;rw [hP] at h1 h2;unfold VY;rw [bO,h1,h2,Ih];split
 . show (if (Bm sy ep (CL (wlI l)) _).2=0 then (_,0) else Bm sy ep (CL (wlI l)) _)=_;split
   . rename_i h9;exact Prod.ext rfl h9.symm
   . rfl
 . rfl
theorem YB {w0:World} {x s m:Nat} {sy ep:Int} {E:Dev} {out9:Nat->Prop} {w9:World} (hH:Held w0 x s m sy ep E out9 w9) (hp:E.pend.length<=900000) {lo base:Nat} (d:∀k,lo<=k->k<w9.heap.size->out9 k) (I:lo<=base) (l:Wl) (v:U32) (hl:l.length<=97) (i:∀e∈l,e.2.size=140)
 {b2 b25 ge c:Nat} (h2:Blk w9 b2 106 #[ptrV s]) (o2:out9 b2) (n:Blk w9 b25 219 #[.slice (some ⟨ge,0,none⟩) l.length c]) (z:lo<=b25) (w:ListAt w9 w9.heap.size 2 (some ⟨ge,0,none⟩) ((wlI l).map B0)) (o:lo<=ge/\ge<w9.heap.size)
 {vs:List Value} {F v2:Value} (f:PutsAt w9 base s (slU l l.length) vs) (u:PutAt w9 base s 33 (GE l v) F)
 (h:OwnL w9 base 196 1 v2 ((vs++[.func (.func 122) #[ptrV s] #[],F,.func (.func 122) #[ptrV s] #[],.func (.func 133) #[] #[.pointer (some ⟨b2,0,none⟩),.pointer (some ⟨b25,0,none⟩)]]).map λv=>[v])):
 ∃A2 n2 c2,v2=.slice A2 n2 c2/\Calls Tryz.prog 120 #[.slice A2 n2 c2] w9 λe w'=>e=.returned (.int .i64 (Bm sy ep (Cw l v) E).2)/\Live w0 x (Bm sy ep (Cw l v) E).1 out9 w'/\Beside w0 out9 w9 w':=by
 obtain ⟨A2,c2,a,_,_,H⟩:=h.listAt;rw [iY] at a;have p:=f.1;rw [Qp] at p;rw [cS] at f;have A:(vs++[Value.func (.func 122) #[ptrV s] #[],F,.func (.func 122) #[ptrV s] #[],.func (.func 133) #[] #[.pointer (some ⟨b2,0,none⟩),.pointer (some ⟨b25,0,none⟩)]]).length=l.length+4:=by rw [iy,p];rfl
 refine ⟨A2,_,c2,a,?_⟩;have hb:=hH.store.blk;have q:∀k,base<=k->k<w9.heap.size->out9 k:=λk h1 h2=>d k oo h2
 have C:∀e∈wlI (Cb l),e.2.size<=9223372036854775807:=by
  intro e he;obtain ⟨y,hy,rfl⟩:=ie.1 he;unfold Cb at hy;obtain ⟨j,hj,rfl⟩:=ie.1 hy;have r:=jB.1 hj;show (l.getD j (0,⟨#[]⟩)).2.size<=_;rw [iu,iV r];have:=i _ (ib r);show l[j].2.size<=_;omega
 have D:∀e∈wlI l,e.2.size<=9223372036854775807:=by
  intro e he;obtain ⟨y,hy,rfl⟩:=ie.1 he;have:=i y hy;show y.2.size<=_;omega
 have G:(GE l v).size<=9223372036854775807:=by have:(GE l v).size=140:=Bc ..;omega
 have t:(wlI l).length=l.length:=by unfold wlI;rw [iY]
 have hC:=SG (x:=x) (m:=m) (sy:=sy) (ep:=ep) hb hH.os h2 o2 (wlI l) (by rw [t];exact hl) D (by rw [t];exact n) (d _ z n.lt) w (d _ o.1 o.2) (w0:=w0)
 have hw:WorksLB w0 x out9 w9 100 980000 (VY sy ep l v) (vs++[.func (.func 122) #[ptrV s] #[],F,.func (.func 122) #[ptrV s] #[],.func (.func 133) #[] #[.pointer (some ⟨b2,0,none⟩),.pointer (some ⟨b25,0,none⟩)]]):=by
  have h1:=(WorksL.puts (w0:=w0) (x:=x) hb hH.os q C f).app (WorksL.cons ((F8 hb hH.os).more oo) (WorksL.cons (PY hb hH.os q G u) (WorksL.cons ((F8 hb hH.os).more oo) (WorksL.nil ..))));have h3:=(h1.toB (n':=100) (B:=980000) oo oo).snoc hC;rw [jK vs] at h3;exact h3
 refine (WT hH.live 100 980000 (VY sy ep l v) _ hw oo oo A2 c2 H (λb off e=>?_)).mono ?_
 . obtain ⟨g,cap,e1,h1,h9⟩:=h.some_ (λe=>by have:=ix length e;rw [iY,A,length_nil] at this;omega);rw [e1] at a;injection a with a _ _;rw [e] at a;injection a with a;injection a with a _ _;subst a;exact .inr (d _ oo h9)
 . rintro e w' ⟨he,h1,h2⟩;rw [Wz] at he h1;exact ⟨he,h1,h2⟩
theorem aK (n:Nat) (h:n<=97):IntKind.u32.wrap (n:Int)=u32 (nv n):=by
 have h9:u32 (nv n)=(n:Int):=by unfold u32 nv;rw [ji];omega
 rw [h9];exact IntWalk.u32_in _ oo

end
end Go.Proofs.YtmcgbdemcknkaaaGreatDoor
