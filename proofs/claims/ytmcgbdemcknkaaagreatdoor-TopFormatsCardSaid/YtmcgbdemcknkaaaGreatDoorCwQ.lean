/- Parts of the proof (packed), 17. -/
import Derived.Test.YtmcgbdemcknkaaaGreatDoorCwO
namespace Go.Proofs.YtmcgbdemcknkaaaGreatDoor
set_option linter.all false
set_option maxRecDepth 100000
set_option maxHeartbeats 16000000
open List
section
attribute [local go_sem ↓] Go.wp_at_zero Go.wp_at_succ
open Go.RowKit
def Mh (E:Dev) (sy ep:Int) (S:Wl) (v:U32):Dev × Int:=if FV E (ksW S)≠0 then (E,FV E (ksW S)) else Bm sy ep (Cw (ID E S v) v) E
theorem I9 {E:Dev}:∀l:List Nat,(∀k∈l,C5 E k)->∀r,FV E (l++r)=FV E r
 | [],_,r=>rfl
 | k::l,h,r=>by
   have hk:=h k (jA ..);show (if (mapI E k).ok=false then 11 else if (mapI E k).ver≠fld (topI E).data k then 12 else FV E (l++r))=_;rw [if_neg (by rw [hk.2.1];simp),if_neg (by rw [hk.2.2];simp)];exact I9 l (λj hj=>h j (iz _ hj)) r
theorem Vy (S:Wl) (hS:S.Pairwise λa b=>a.1<b.1) (c:∀e∈S,e.1 / 32<32) (i:Nat):∀d,i+d<=S.length->∃r,ksW (S.take (i+d))=ksW (S.take i)++r
 | 0,_=>⟨[],qs⟩
 | d+1,hd=>by
   obtain ⟨r,hr⟩:=Vy S hS c i d oo;have hlt:i+d<S.length:=oo;by_cases f:S[i+d].1 / 32∈ksW (S.take (i+d))
   . exact ⟨r,by rw [show i+(d+1)=i+d+1 from rfl,Vz S (i+d) hlt f,hr]⟩
   . exact ⟨r++[S[i+d].1 / 32],by rw [show i+(d+1)=i+d+1 from rfl,Vm S hS (i+d) hlt (c _ (ib hlt)) f,hr,jK]⟩
theorem WO {E:Dev} (hf:E.failed=false) (hl:132<=E.st.length) (ht:(topI E).ok=true) (k:Nat) (hk:k<32) {d:ByteArray} {v:U32} {b:Bool} {er:Int} (h:C1 E (1+(k:Int)) (fld (topI E).data k)=(⟨d,v,b⟩,er)):(C5 E k/\er=0/\(mapI E k).data=d/\d.size=128)\/(er≠0/\∀r,FV E (k::r)=er):=by
 have hm:∀r,FV E (k::r)=if (mapI E k).ok=false then 11 else if (mapI E k).ver≠fld (topI E).data k then 12 else FV E r:=λ_=>rfl;rw [Tj hf k hk hl] at h;by_cases h1:(mapI E k).ok=false
 . rw [if_pos h1] at h;injection h with _ h2;exact .inr ⟨by rw [<-h2];simp,λr=>by rw [hm,if_pos h1,h2]⟩
 rw [if_neg h1] at h;by_cases h3:(mapI E k).ver≠fld (topI E).data k
 . rw [if_pos h3] at h;injection h with _ h2;exact .inr ⟨by rw [<-h2];simp,λr=>by rw [hm,if_neg h1,if_pos h3,h2]⟩
 rw [if_neg h3] at h;injection h with h4 h2;have hd:(mapI E k).data=d:=by rw [h4]
 have a:(mapI E k).ok=true:=by simpa using h1
 exact .inl ⟨⟨ht,a,jU.1 h3⟩,h2.symm,hd,by rw [<-hd];exact Cr a⟩
section
variable {w0:World} {x s m:Nat} {sy ep:Int} {D:Dev} {out:Nat->Prop} {W:World}
theorem RM (kc:Zr) (h:Held w0 x s m sy ep D out W) (ke:132<=D.st.length/\D.st.length<=1155) (hp:D.pend.length<=800000) (E:Dev) (fb:Bool) (hE:B9 D sy ep=(E,fb,0)) (n:Nat) (hn:D.st.length - 131=n) (ws:List (Int × ByteArray)) (kd:∀e∈ws,okI e.1) (A:Option Addr) (c:Nat) (kb:ListAt W W.heap.size 2 A (ws.map B0)) (hA:Et w0 out A) (fn:Ae n ws=0) (d5:ws≠[]) (cr:(topI E).ok=true) (S:Wl) (hS:CS n ws=S) (v:U32) (hv:(topI E).ver+1#32=v) (b1:(topI E).ver≠4294967295#32):
 Calls Tryz.prog 80 #[ptrV s,.slice A ws.length c] W λe w'=>e=.returned (.int .i64 (Mh E sy ep S v).2)/\Done w0 x s m sy ep (Mh E sy ep S v).1 out W w':=by
 obtain ⟨fl,i2,qy⟩:=Iu n ws fn;have d6:=Ii D sy ep;rw [hE] at d6;have fp:=d6.2 rfl;have fs:E.st.length=D.st.length:=d6.1;have kf:E.pend.length<=800100:=by have:=PZ D sy ep;rw [hE] at this;show E.pend.length<=_;have h9:(E,fb,(0:Int)).1.pend.length=E.pend.length:=rfl;omega
 have kg:=h.store.lt;have kh:=h.live.base.size;have d7:Grew W (W.alloc (.cells #[ptrV s] 106)):=(iW W).alloc _;have ki:Blk (W.alloc (.cells #[ptrV s] 106)) W.heap.size 106 #[ptrV s]:=ik W _ _ rfl;have fu:Held w0 x s m sy ep D (λk=>out k\/k=W.heap.size) (W.alloc (.cells #[ptrV s] 106)):=⟨(h.live.more d7).few (λk hk=>hk.elim .inl (λh9=>.inr (by rw [h9];simp))),h.store.grew d7,.inl h.os,.inl h.om,h.m0⟩;have HF:=zh (Hp fu ke.1 oo E fb 0 hE)
 have q9:((ws.length:Int)==0)=false:=by
  have:ws.length≠0:=λe=>d5 (kI.1 e);rw [it];omega
 have kj:0<ws.length:=length_pos_iff.2 d5;have nl:1<=n/\n<=1024:=oo;have kk:S.length=ws.length:=by rw [<-hS];exact Ph n ws (λe he=>(fl e he).2) i2
 have km:∀e∈S,e.1<n/\e.2.size=128:=λe he=>by
  rw [<-hS] at he;obtain ⟨h1,h2⟩:=(EK n ws e).1 he;obtain ⟨y,hy,qz⟩:=kG.1 h2;exact ⟨h1,by rw [<-qz];exact (fl y (List.mem_of_find?_eq_some hy)).1⟩
 have kn:S.Pairwise λa b=>a.1<b.1:=by rw [<-hS];exact Gn n ws
 obtain ⟨⟨td,tv,tk⟩,bt⟩:∃r,topI E=r:=⟨_,rfl⟩;have nn:tk=true:=by rw [bt] at cr;exact cr
 subst nn;have ko:tv+1#32=v:=by rw [bt] at hv;exact hv
 have kp:tv≠4294967295#32:=by rw [bt] at b1;exact b1
 have kq:Oi E=(⟨td,tv,true⟩,0):=by rw [Qw fp (by rw [fs];omega),bt];rfl
 have np:td.size=128:=by
  have:=Cr cr;have h9:(AN (E.content 0) 0).data=td:=(show (topI E).data=td from (by rw [bt]))
  rw [<-h9];exact this
 have kr:(topI E).data=td:=by rw [bt]
 have nq:=zh fu;have ks:=zh ki;have ea:=zh d7;have nr:=zh kb;have ns:=zh hA;have nu:=zh fp;have kt:=zh (show 132<=E.st.length/\E.st.length<=1155 from oo);have b2:=zh kg;have ku:=zh (show out s/\out m from ⟨h.os,h.om⟩);have nw:=zh h.store;have nx:=zh (show Ae (E.st.length - 131) ws=0 from by rw [fs,hn];exact fn);have ny:=zh fl;have nz:=zh i2;have n0:=zh kd;have cf:=zh (show CS n ws=S/\S.length=ws.length from ⟨hS,kk⟩);have ct:=zh km;have kv:=zh kn;have n1:=zh cr;have n3:=zh kq;have kw:=zh kr;have ra:=zh bt;have n4:=zh ko;have n5:=zh kp;have n6:=zh kf;have n7:=zh kc;have n8:=zh d5;have n9:=zh kh;clear kc h ke hp hE hn kd kb hA fn cr hS hv b1 fl i2 d6 fp fs kf kg d7 ki fu kk km kn bt ko kp kq kr d5 kh;go_enter Tryz.func80,Tryz.ntmps80;go_wp2_with fail;refine HF.mono ?_;rintro e w1 ⟨rfl,hd⟩;have kx:¬W.heap.size=m:=by have:=b2.2;omega
 have b3:Blk w1 W.heap.size 106 #[ptrV s]:=ks.turned hd.turned (λhq=>hq.elim (λh9=>h9.2 (.inr rfl)) kx);have eb:=Mk (nq.done hd);have oa:=hd.turned.size;have rb:W.heap.size<w1.heap.size:=by have:=ks.out.lt;omega
 have fv:ListAt w1 w1.heap.size 2 A (ws.map B0):=DU (AG nr ea) hd.turned (λb off o u e hu hq=>by
  rcases hq with hq | hq
  . rcases ns.out b off e with h9 | h9
    . exact absurd hq.1 (by have:=h9;omega)
    . exact hq.2 (.inl h9)
  . obtain ⟨F,i3,_⟩:=(nw.grew ea).seen
    exact FY i3 hu hq)
 have b4:=zh (show (w0.heap.size<=w1.heap.size/\s<w1.heap.size)/\m<w1.heap.size from ⟨⟨by have:=n9.out;omega,by have:=b2.1;omega⟩,by have:=b2.2;omega⟩);have ee:=zh (λ(w':World) (ht:Turned (λq=>q=m\/w1.heap.size<=q) w1 w') (d1:StoreM w' s m x sy ep)=>eb.up b4.1 b4.2 ht d1);have HD:=zh hd;have ob:=zh b3;have ky:=zh eb;have oc:=zh fv;have kz:=zh (Kt eb kt ws oo n0 A c fv);rw [nx.out] at kz;have an:=b3.cell 0;have ap:=b3.lt;clear hd b3 eb fv oa HF;go_wp2_with fail;refine kz.mono ?_;rintro e w2 ⟨rfl,g2⟩;have k0:=zh (Qh (ee w2 (g2.turned _) (ky.store.grew g2)));rw [n3.out] at k0;have fx:=zh g2;have an:=CQ g2 an;have ap:W.heap.size<w2.heap.size:=ig ap g2.size;clear g2;go_wp2_with fail;refine k0.mono ?_;rintro e w3 ⟨rfl,fa⟩;unfold LB;have eg:m<w1.heap.size:=b4.2;have f3:Hid (Turned (λq=>q=m) w1 w3):=zh ((fx.turned _).trans fa.turned);have od:=zh fa.store
 have k1:ListAt w3 w3.heap.size 2 A (ws.map B0):=DU (AG oc fx) fa.turned (λb off o u e hu hq=>by
  obtain ⟨F,i3,_⟩:=(ky.store.grew fx).seen
  exact FY i3 hu hq)
 have oe:=zh k1;have ch:=ob.turned f3 kx;have an:=ch.cell 0;have ap:=ch.lt;have og:=zh ch;clear fa k1 ch;have rc:=An tv;go_wp2_with fail;have k2:Hid (Blk (w3.alloc (.cells #[.string td,.int .u32 (u32 tv),.bool true] 206)) w3.heap.size 206 #[.string td,.int .u32 (u32 tv),.bool true]):=zh (ik w3 _ _ rfl);have f4:Grew w3 (w3.alloc (.cells #[.string td,.int .u32 (u32 tv),.bool true] 206)):=(iW w3).alloc _;have oh:=zh f4;refine (aH A c ws.length ws _ rfl oo (AG oe f4)).mono ?_;rintro e w4 ⟨v4,rfl,fi,g4⟩;have k3:ws.map B0≠[]:=λe=>n8 (map_eq_nil_iff.1 e);obtain ⟨gs,cs,rfl,my,r5⟩:=fi.some_ k3;rw [iY] at fi ⊢;have rd:w3.heap.size<gs:=ig k2.out.lt my;have cu:=zh (oh.out.trans g4);have oi:=zh (n7 gs cs n ws ⟨kj,oo⟩ nz (λe he=>(ny e he).2) nl.2 w4 _ fi);have oj:=zh (k2.grew g4);have an:=CQ cu an;have ap:W.heap.size<w4.heap.size:=ig ap cu.size;clear f4 fi g4 k3 my;go_wp2_with fail;refine oi.mono ?_;rintro e w5 ⟨rfl,dk,i1⟩;rw [cf.out.1] at i1;have re:w1.heap.size<=w3.heap.size:=f3.size;have eh:=zh (oj.turned dk (λe=>oo));have op:Hid (Turned (λq=>q=m\/w1.heap.size<=q) w1 w5):=zh (((f3.mono λq _ hq=>Or.inl hq).trans (cu.turned _)).trans (dk.mono λq _ hq=>.inr (by rw [hq];omega)));have oq:Hid (StoreM w5 s m x sy ep):=zh ((od.grew cu).kept dk (λe=>by have:=b4.1.2;omega) (λe=>oo));have k4:=zh i1;have a5:Blk w5 W.heap.size 106 #[ptrV s]:=(og.grew cu).turned dk (λe=>oo);have ot:=zh a5;have an:=a5.cell 0;have ap:=a5.lt;have cv:=eh.cell 0;have f5:=eh.cell 1;have cw:=eh.out.lt;have k5:=Fy;have ou:=@run_makeMap Tryz.prog;have ov:=zh (Il td np);clear dk i1 a5;go_wp2_with fail;refine (ov _).mono ?_;rintro e w6 ⟨rfl,g6⟩;have f6:=zh g6;have an:=CQ g6 an;have ap:W.heap.size<w6.heap.size:=ig ap g6.size;have cv:=CQ g6 cv;have f5:=CQ g6 f5;have cw:w3.heap.size<w6.heap.size:=ig cw g6.size;have ej:Hid (Blk ((w6.alloc (.cells (AE λ_=>0#32) 201)).setRow w6.heap.size (AE (fld td))) w6.heap.size 201 (AE (fld td))):=zh ((ik w6 _ _ rfl).setRow _);have k6:Hid (Grew w5 ((w6.alloc (.cells (AE λ_=>0#32) 201)).setRow w6.heap.size (AE (fld td)))):=zh ((f6.alloc _).setRow f6.size _);rw [<-cf.out.2];clear g6;go_wp2_with (refine AF rfl 201 _ _ rfl w6.heap.size (AE (fld td)) rfl rfl 201 (AE λ_=>0#32) (ik w6 _ _ rfl) (by rw [AW,AW]) (by rw [AW];exact EW) (ED _) ?_);have ow:S.length<=64:=by rw [cf.out.2];exact qy
 obtain ⟨wa,i4⟩:∃wa:World,wa=(w6.alloc (.cells (AE λ_=>0#32) 201)).setRow w6.heap.size (AE (fld td)):=⟨_,rfl⟩;rw [<-i4] at ej k6 ⊢;obtain ⟨R,i5⟩:∃q,q=w6.heap.size:=⟨_,rfl⟩;rw [<-i5] at ej ⊢;have ox:R+1=wa.heap.size:=by rw [i4,i5];simp
 rw [ox];have rf:R<wa.heap.size:=ej.out.lt;have k7:w3.heap.size<R/\gs<R/\w1.heap.size<=R:=⟨oo,by have:=k4.out;have h7:=f6.size;have h8:=(J3 this (k:=0) (by rw [cf.out.2];exact kj)).1;omega,oo⟩;obtain ⟨k7,r6,r7⟩:=k7;have cx:Hid (Grew w5 (wa.alloc (.map #[] 0))):=zh (k6.alloc _);have oy:Hid (Turned (λq=>q=m\/w1.heap.size<=q) w1 (wa.alloc (.map #[] 0))):=zh (op.out.trans (cx.turned _));have k8:=zh (oq.grew cx);have k9:=zh (ot.grew cx);have la:=zh (eh.grew cx);have lb:=zh (ej.alloc (.map #[] 0));have lc:=zh (AG k4 cx);have ld:Hid (MapsM (wa.alloc (.map #[] 0)) wa.heap.size wa.heap.size (ksW []) (λ_=>0) (λk=>fld (mapI E k).data)):=zh (MapsM.made _);have le:W.heap.size<w3.heap.size/\m<w3.heap.size:=by have:=b4.2;omega
 obtain ⟨le,r8⟩:=le;clear ou k5 cv f5 an cw ap i4 i5
 go_loopg [13,72] S.length (λgk u i' wr=>∃(i:Nat) (bk:Nat->Nat),i<=S.length/\gk=S.length - i/\i'=.int .i64 i/\MapsM wr wa.heap.size wa.heap.size (ksW (S.take i)) bk (λk=>fld (mapI E k).data)/\OwnL wr (wa.heap.size+1) 3 1 u ((ksW (S.take i)).map λk:Nat=>[.int .i64 (k:Int)])/\StoreM wr s m x sy ep/\Turned (λq=>q=m\/wa.heap.size<=q) (wa.alloc (.map #[] 0)) wr/\∀j∈ksW (S.take i),C5 E j)
 case atStart=>exact ⟨0,λ_=>0,oo,oo,rfl,ld,by rw [take_zero,P3];exact OwnL.nil ..,k8,jD _ _,λj hj=>by rw [take_zero,P3] at hj;cases hj⟩
 case round=>
  obtain ⟨i,bk,hi,mz,rfl,m1,m2,d1,ht,m3⟩:=hrel;have ga:=zh mz;have cy:=zh m3;have gb:=zh m1;have cz:=zh m2;have gc:=zh d1;have HT:=zh ht;have gi:=zh (k9.turned ht (λe=>oo));have gj:=zh (lb.turned ht (λe=>oo));have gl:=zh (la.turned ht (λe=>oo));have gr:Turned (λq=>q=m\/w1.heap.size<=q) w1 wr:=oy.out.trans (ht.mono λq _ hq=>by rcases hq with hq | hq;exact .inl hq;exact .inr oo);have ek:=zh gr;have gu:=zh (ee wr gr d1)
  have em:Hid (ListAt wr wr.heap.size 2 (some ⟨gs,0,none⟩) ((wlI S).map B0)):=zh (DU lc ht (λb off o u9 e hu hq=>by
   injection e with e
   injection e with e1 _ _
   rcases hq with hq | hq<;>omega))
  clear mz m1 m2 d1 ht gr m3;by_cases dd:i<S.length
  . have oz:(i:Int)<(S.length:Int):=oo;obtain ⟨q0,c0,c1⟩:=J3 em dd;obtain ⟨a,ha⟩:∃a,S[i].1=a:=⟨_,rfl⟩;have o1:a<n:=by rw [<-ha];exact (ct _ (ib dd)).1
    obtain ⟨k,hk⟩:∃k:Nat,a / 32=k:=⟨_,rfl⟩;have a6:k<32:=oo;have gv:(a:Int) / 32=(k:Int):=oo;have o2:Int.tdiv (a:Int) 32=(k:Int):=by rw [Int.tdiv_eq_ediv_of_nonneg oo];exact gv
    rw [ha] at c0;obtain ⟨kl,a4⟩:=Fd (k:Int) (CR _ oo);have o3:=zh a4;have c3:=zh (show S[i].1 / 32=k from by rw [ha];exact hk);have eg:=gb.grew ((iW wr).alloc (.cells #[.int .i64 (a:Int),.string S[i].2] 41));have av:=eg.map.lookup_val BH Bx Tryz.underlying214 (F6 _) (k:Int) a4;rw [MI] at av;have gz:=zh eg;clear a4 eg ha hk;by_cases ca:k∈ksW (S.take i)
    . rw [if_pos ca,jv] at av;have g0:=zh (Vz S i dd (by rw [c3.out];exact ca));clear ca;go_wp2_with fail
      go_roundg (S.length - (i+1))
      case measure=>rw [ga.out];omega
      case rel=>exact ⟨i+1,bk,oo,oo,by go_num,by rw [g0.out];exact gz.out,by rw [g0.out];exact cz.alloc _,gc.grew ((iW wr).alloc _),HT.alloc _,by rw [g0.out];exact cy.out⟩
    . rw [if_neg ca,Option.getD_none] at av;obtain ⟨ver,b1⟩:∃ver,fld td k=ver:=⟨_,rfl⟩;obtain ⟨⟨⟨bd,bv,bb⟩,er⟩,i6⟩:∃r,C1 E (1+(k:Int)) ver=r:=⟨_,rfl⟩;have o4:=zh (WO nu kt.1 n1 k a6 (d:=bd) (v:=bv) (b:=bb) (er:=er) (by rw [kw.out,b1];exact i6));obtain ⟨i7,m4⟩:∃o,o=up (λk=>out k\/k=W.heap.size) w1.heap.size wr:=⟨_,rfl⟩;rw [<-m4] at gu;obtain ⟨wx,H⟩:∃wx:World,wx=wr.alloc (.cells #[.int .i64 (a:Int),.string S[i].2] 41):=⟨_,rfl⟩;have C:Grew wr wx:=by rw [H];exact (iW wr).alloc _
      have c4:=zh (gu.grew C);rw [<-H] at gz;have N:=zh C;have aw:=gi.grew C;have g1:=gj.grew C;have bx:=aw.cell 0;have bl:=aw.lt;have tc:=g1.cell k;rw [Cg _ _ a6,b1] at tc;have tl:=g1.lt;have B:=zh (λ(w1:World) (hh:Held w0 x s m sy ep E i7 w1)=>JH hh (1+(k:Int)) (CR _ oo) ver);rw [i6] at B;have ci:IntKind.i64.wrap (1+(k:Int))=1+(k:Int):=jJ _ oo;have rg:(0:Int)<=(k:Int)/\(k:Int)<32:=oo;have o5:=zh ca;have lf:=zh (Vm S kv i dd (by rw [c3.out];exact a6) (by rw [c3.out];exact ca));have rh:(ksW (S.take i)).length<=32:=by unfold ksW;exact ij (j5 _ _) (by rw [jr];exact iX _)
      have cl:m<wx.heap.size:=by have:=N.size;have:=ek.size;omega
      have ri:wa.heap.size<=wx.heap.size:=by have:=N.size;have:=HT.size;simp at this;omega
      clear i6 C aw g1 ca b1 m4;go_wp2_with fail;rw [<-H];clear H av;refine AB [6,11] (λw':World=>w'.cell? ⟨W.heap.size,0,none⟩=some (ptrV s)/\W.heap.size<w'.heap.size/\w'.cell? ⟨R,k,none⟩=some (.int .u32 (u32 ver))/\R<w'.heap.size) qk ?_;have hS:=(show (λw':World=>w'.cell? ⟨W.heap.size,0,none⟩=some (ptrV s)/\W.heap.size<w'.heap.size/\w'.cell? ⟨R,k,none⟩=some (.int .u32 (u32 ver))/\R<w'.heap.size) wx.drew from ⟨bx,bl,tc,tl⟩);refine tT 0 (some 84) hS ?_;refine tQ 1 85 ?_;refine tQ 2 86 ?_;refine tQ 3 87 ?_;refine tQ 4 88 ?_;refine tT 5 (some 89) hS ?_;refine Dk (i:=6) (j:=10) rfl rfl qk ?faa ?fab
      case' faa=>
       intro K' hK;rw [if_pos (by rfl)];simp only [jn,jS,ja];go_wp2_with fail;refine (B _ (c4.grew (iW wx).drew)).mono ?_;rintro e wb ⟨rfl,cb⟩;unfold LB;have a0:Looked w0 x s m sy ep E i7 wx (wb.alloc (.cells #[.string bd,.int .u32 (u32 bv),.bool bb] 206)):=((c4.same (iW wx).drew).trans cb).grew ((iW wb).alloc _);have b5:Blk (wb.alloc (.cells #[.string bd,.int .u32 (u32 bv),.bool bb] 206)) wb.heap.size 206 #[.string bd,.int .u32 (u32 bv),.bool bb]:=ik wb _ _ rfl;have lg:wx.heap.size<=wb.heap.size:=cb.turned.size;have o6:Blk (wb.alloc (.cells #[.string ⟨#[]⟩,.int .u32 0,.bool false] 206)) wb.heap.size 206 #[.string ⟨#[]⟩,.int .u32 0,.bool false]:=ik wb _ _ rfl;clear cb;go_wp2_with fail;refine hK.out _ _ (.inl (by rfl)) ?_;clear hK;refine tQ 7 83 ?_;refine tQ 8 91 ?_;refine tQ 9 92 ?_;refine tO 10 λK' hK=>?_;go_wp2_with fail;refine hK.out _ _ (.inr (λhS=>fE ((iW wb).alloc _) hS)) ?_;clear hK;refine tO 11 λK' hK=>?_;go_wp2_with fail;refine hK.out _ _ (.inl (by rfl)) ?_;clear hK o6;refine tQ 12 18 ?_;refine AA qk ?_ _;generalize hwz:wb.alloc (.cells #[.string bd,.int .u32 (u32 bv),.bool bb] 206)=wz at*
       generalize hgz:wb.heap.size=gx at*
       clear hwz hgz
      case' fab=>
       intro K' hK;rw [if_pos (by rfl)];simp only [jn,jS,ja];go_wp2_with fail;have g3:Grew wx (wx.alloc (.cells #[.string ⟨#[]⟩,.int .u32 0,.bool false] 206)).drew:=((iW wx).alloc _).drew;have lh:Blk (wx.alloc (.cells #[.string ⟨#[]⟩,.int .u32 0,.bool false] 206)).drew wx.heap.size 206 #[.string ⟨#[]⟩,.int .u32 0,.bool false]:=(ik wx _ _ rfl).drew;refine hK.out _ _ (.inr (λhS=>fE ((iW wx.drew).alloc _) hS)) ?_;clear hK;refine tO 6 λK' hK=>?_;go_wp2_with fail;refine (B _ (c4.grew g3)).mono ?_;rintro e wb ⟨rfl,cb⟩;unfold LB;have a7:=lh.looked cb oo;have z0:=a7.cell 0;have z1:=a7.cell 1;have z2:=a7.cell 2;have f0:=a7.frozen 0;have f1:=a7.frozen 1;have f2:=a7.frozen 2;have zl:=a7.lt;have lg:wx.heap.size<=wx.heap.size:=iX _;have a0:Looked w0 x s m sy ep E i7 wx (((wb.setCell ⟨wx.heap.size,0,none⟩ (.string bd)).setCell ⟨wx.heap.size,1,none⟩ (.int .u32 (u32 bv))).setCell ⟨wx.heap.size,2,none⟩ (.bool bb)):=CX c4 ((c4.same g3).trans cb) (gT);have b5:Blk (((wb.setCell ⟨wx.heap.size,0,none⟩ (.string bd)).setCell ⟨wx.heap.size,1,none⟩ (.int .u32 (u32 bv))).setCell ⟨wx.heap.size,2,none⟩ (.bool bb)) wx.heap.size 206 #[.string bd,.int .u32 (u32 bv),.bool bb]:=gB;clear cb a7 g3 lh;go_wp2_with fail;refine hK.out _ _ (.inl (by rfl)) ?_;clear hK;refine tQ 7 83 ?_;refine tQ 8 91 ?_;refine tQ 9 92 ?_;refine tO 11 λK' hK=>?_;go_wp2_with fail;refine hK.out _ _ (.inl (by rfl)) ?_;clear hK z0 z1 z2 f0 f1 f2 zl;refine tQ 12 18 ?_;refine AA qk ?_ _;generalize hwz:((wb.setCell ⟨wx.heap.size,0,none⟩ (.string bd)).setCell ⟨wx.heap.size,1,none⟩ (.int .u32 (u32 bv))).setCell ⟨wx.heap.size,2,none⟩ (.bool bb)=wz at a0 b5 ⊢;obtain ⟨gx,hgz⟩:∃gx,gx=wx.heap.size:=⟨_,rfl⟩;rw [<-hgz] at b5 lg ⊢;clear hwz hgz
      all_goals
       have o7:Grew wr wx:=N.out;have c5:Hid (Turned (λq=>q=m) wx wz):=zh a0.turned;have li:=zh a0.store;have x0:=b5.cell 0;have xl:=b5.lt;have lj:Hid (Turned (λq=>q=m\/w1.heap.size<=q) w1 wz):=zh ((ek.out.trans (o7.turned _)).trans (c5.mono λq _ hq=>.inl hq));rcases o4.out with ⟨nh,rfl,ni,da⟩ | ⟨nj,nk⟩;rotate_left
       . have rj:(er != 0)=true:=by rw [jH];exact nj
         have o8:Hid (Mh E sy ep S v=(E,er)):=zh (by
          obtain ⟨r,hr⟩:=Vy S kv (λe he=>by have:=(ct e he).1;omega) (i+1) (S.length - (i+1)) oo
          rw [show i+1+(S.length - (i+1))=S.length from oo,i8 (iX _),lf.out,c3.out,jK] at hr
          have he:FV E (ksW S)=er:=by rw [hr,I9 _ cy.out];exact nk _
          unfold Mh
          rw [he,if_pos nj])
         clear a0 b5 bx bl tc tl nk;go_wp2_with fail;go_ret;rw [o8.out];exact ⟨rfl,FJ (ez HD (ee wz lj li) lj) ea (λk hk=>.inl hk)⟩
       have o9:=zh nh;have pa:=zh ni;clear nh ni;have k5:=Fy;have pb:=zh (Il bd da);have lk:=zh (gz.lookd c5 oo);have pc:=zh ((cz.grew N).kept c5 (λg hg e=>by have:=cz.row_ge g hg;omega));have rk:wx.heap.size<=wz.heap.size:=c5.size;have pd:Hid (Turned (λq=>q=m\/wa.heap.size<=q) (wa.alloc (.map #[] 0)) wz):=zh ((HT.out.trans (N.turned _)).trans (c5.mono λq _ hq=>.inl hq));clear a0 b5 bx bl tc tl;go_wp2_with fail;refine (pb _).mono ?_;rintro e J ⟨rfl,dn⟩;have a5:Blk ((J.alloc (.cells (AE λ_=>0#32) 201)).setRow J.heap.size (AE (fld bd))) J.heap.size 201 (AE (fld bd)):=(ik J _ _ rfl).setRow _;have c6:Grew wz ((J.alloc (.cells (AE λ_=>0#32) 201)).setRow J.heap.size (AE (fld bd))):=(dn.alloc _).setRow dn.size _;have pe:Hid (∀j∈ksW (S.take i),¬bk j=J.heap.size):=zh (λj hj e=>by have:=((lk.grew dn).blk j hj).lt;omega);have pf:wa.heap.size<=J.heap.size:=by have:=dn.size;omega
       have ll:=zh (lk.grew c6);have g5:=zh a5;have c7:=zh (pc.grew c6);have lm:=zh (li.grew c6);have g7:=zh (pd.out.trans (c6.turned _));have ln:=a5.lt;have lp:=g7.size;clear a5 c6 dn x0 xl;have pg:=c7;obtain ⟨wv,jj⟩:∃wv:World,wv=(J.alloc (.cells (AE λ_=>0#32) 201)).setRow J.heap.size (AE (fld bd)):=⟨_,rfl⟩;rw [<-jj] at ll g5 c7 lm g7 ln lp;have rm:wa.heap.size+1<=wv.heap.size:=(by have:(wa.alloc (.map #[] 0)).heap.size=wa.heap.size+1:=qs;omega)
       go_wp2_with (first | (refine AF rfl 201 _ _ rfl J.heap.size (AE (fld bd)) rfl rfl 201 (AE λ_=>0#32) (ik J _ _ rfl) (by rw [AW,AW]) (by rw [AW];exact EW) (ED _) ?_) | (at_builtin;refine Bh rfl _ _ 135 rfl (wa.heap.size+1) 3 1 8 (.int .i64 0) Tryz.underlying135 M3 rfl qd (((J.alloc (.cells (AE λ_=>0#32) 201)).setRow J.heap.size (AE (fld bd))).alloc (.cells #[.int .i64 (k:Int)] 3)) u13 ((ksW (S.take i)).map λk:Nat=>[.int .i64 (k:Int)]) [.int .i64 (k:Int)] rfl rfl (pg.alloc _) (J.heap.size+1) (by rfl) (ik _ _ _ qs) rfl (by rw [iY];omega) (by rw [iY];omega) (by rw [<-jj];simp;omega) (ksW (S.take i)).length (by rw [iY]) ?_));intro g9 a3 w9 L f _ _;rw [<-jj] at f;have eq:Grew wv (wv.alloc (.cells #[.int .i64 (k:Int)] 3)):=(iW wv).alloc _;have lq:=(c7.alloc (.cells #[.int .i64 (k:Int)] 3)).row_ge;have g8:Turned (λq=>wa.heap.size+1<=q) (wv.alloc (.cells #[.int .i64 (k:Int)] 3)) w9:=⟨f.os,f.tape,f.output,f.size,λq hq hn=>f.block q hq (λe9=>hn (lq q e9.symm))⟩;have ph:=zh ((lm.grew eq).kept g8 (by have:=b2.1;omega) (by have:=b2.2;omega));have pi:=zh ((g7.out.trans (eq.turned _)).trans (g8.mono λq _ hq=>Or.inr oo));have hb:=zh ((ll.grew eq).own (c7.alloc (.cells #[.int .i64 (k:Int)] 3)) qd f);have c8:=zh ((g5.alloc (.cells #[.int .i64 (k:Int)] 3)).own f ((c7.alloc (.cells #[.int .i64 (k:Int)] 3)).ne_blk (g5.alloc _) qd));have ad:=zh L;clear L f lq g8 eq lp ln;go_wp2_with (refine CY rfl _ _ _ 214 rfl 215 BH Bx Tryz.underlying214 rfl hb.map (k:Int) o3 (ptrV J.heap.size) rfl rfl ?_;intro qt mm mn;have pj:=zh mm;have es:=zh mn;clear mm mn)
       go_roundg (S.length - (i+1))
       case measure=>rw [ga.out];omega
       case rel=>
        have hc:ksW (S.take (i+1))=ksW (S.take i)++[k]:=by rw [lf.out,c3.out]
        refine ⟨i+1,(λj=>if j=k then J.heap.size else bk j),oo,oo,by go_num,by rw [hc];exact (hb.snoc (X:=fld bd) o5 pf c8 pe pj es).conv (λj hj q hq=>by (by_cases iv:j=k;(· rw [if_pos iv,iv,pa.out]);(· rw [if_neg iv]))),?_,ph.kept es (by have:=b2.1;omega) (by have:=b2.2;omega),pi.out.trans (es.mono λq _ hq=>Or.inr oo),λj hj=>by rw [hc] at hj;rcases ip.1 hj with h9 | h9;exact cy.out j h9;rw [ia.1 h9];exact o9.out⟩
        . rw [hc,il];exact ad.kept es (λg hg e=>DP ad hb.map (by rw [hg,e]))
  . obtain rfl:i=S.length:=oo;have hf:=gb;have cn:=cz;have hm:=cy;rw [i8 (iX _)] at hf cn hm;have pk:Hid (Mh E sy ep S v=Bm sy ep (Cw (ID E S v) v) E):=zh (by unfold Mh;rw [if_neg];have:=I9 (E:=E) (ksW S) hm [];rw [append_nil] at this;rw [this];exact λh9=>h9 rfl);obtain ⟨wb,q1⟩:∃wb:World,wb=wr:=⟨_,rfl⟩;subst q1;have pl:S≠[]:=λe=>by rw [e] at cf;have:=cf.2;simp at this;omega
    obtain ⟨q2,r9,q3,q4⟩:=fO n4 n5;have rn:=An v;have cv:=gl.cell 1;have cw:=gl.out.lt
    have pm:0<(ksW S).length/\(ksW S).length<=32:=by
     refine ⟨?_,by unfold ksW;exact ij (j5 _ _) (by rw [jr];exact iX _)⟩;obtain ⟨e,S',rfl⟩:=exists_cons_of_ne_nil pl;have lr:e.1 / 32∈ksW (e::S'):=(CT _ _).2 ⟨by have:=(ct e (jA ..)).1;omega,e,jA ..,rfl⟩;exact length_pos_iff.2 (λh9=>by rw [h9] at lr;cases lr)
    obtain ⟨m5,sa⟩:=pm;obtain ⟨go,co,rfl,sb,sc⟩:=cn.some_ (λe=>by have:=map_eq_nil_iff.1 e;rw [this] at m5;simp at m5);rw [iY] at cn ⊢;have ro:(wa.alloc (.map #[] 0)).heap.size=wa.heap.size+1:=qs;have rp:wa.heap.size+1<=wb.heap.size:=by have:=HT.size;omega
    clear gb cz ld k8 k9 la lb lc dd hi ga cy hm;go_wp2_with fail
    go_loopg [114] S.length (λgk i' wr=>∃j:Nat,j<=S.length/\gk=S.length - j/\i'=.int .i64 j/\MapsM wr wa.heap.size wa.heap.size (ksW S) bk (λk q=>nm E S v j k q)/\Turned (λq=>wa.heap.size<=q/\q≠go) wb wr)
    case atStart=>exact ⟨0,oo,oo,rfl,hf.conv (λk hk q hq=>(dM E S v k q).symm),jD _ _⟩
    case round=>
     obtain ⟨j,hj,m6,rfl,m7,m8⟩:=hrel;have ls:=zh m6;have et:=zh m7;have T:=zh m8;clear m6 m7 m8;by_cases df:j<S.length
     . have rq:(j:Int)<(S.length:Int):=oo
       have lu:ListAt wr wr.heap.size 2 (some ⟨gs,0,none⟩) ((wlI S).map B0):=DU em T (λb off o u9 e hu hq=>by
        injection e with e
        injection e with e1 _ _
        omega)
       obtain ⟨q0,c0,c1⟩:=J3 lu df;obtain ⟨a,ha⟩:∃a,S[j].1=a:=⟨_,rfl⟩;have o1:a<n:=by rw [<-ha];exact (ct _ (ib df)).1
       obtain ⟨k,hk⟩:∃k:Nat,a / 32=k:=⟨_,rfl⟩;obtain ⟨r,hr⟩:∃r:Nat,a % 32=r:=⟨_,rfl⟩;have a6:k<32:=oo;have pn:r<32:=oo;have rr:(0:Int)<=(r:Int)/\(r:Int)<32:=oo;have gv:(a:Int) / 32=(k:Int):=oo;have o2:Int.tdiv (a:Int) 32=(k:Int):=by rw [Int.tdiv_eq_ediv_of_nonneg oo];exact gv
       have po:(a:Int) % 32=(r:Int):=oo;have rs:Int.tmod (a:Int) 32=(r:Int):=by rw [kB oo];exact po
       have af:k∈ksW S:=(CT S k).2 ⟨a6,S[j],ib df,by rw [ha];exact hk⟩;rw [ha] at c0;have ci:IntKind.i64.wrap (k:Int)=(k:Int):=jJ _ oo;have rt:IntKind.i64.wrap (r:Int)=(r:Int):=jJ _ oo;obtain ⟨kl,a4⟩:=Fd (k:Int) (CR _ oo);obtain ⟨wx,H⟩:∃wx:World,wx=(wr.alloc (.cells #[.int .i64 (a:Int),.string S[j].2] 41)).drew:=⟨_,rfl⟩;have C:Grew wr wx:=by rw [H];exact ((iW wr).alloc _).drew
       have cl:=et.grew C;have av:=cl.map.lookup_val BH Bx Tryz.underlying214 (F6 _) (k:Int) a4;rw [MI,if_pos af,jv] at av;have O:Blk wx wr.heap.size 41 #[.int .i64 (a:Int),.string S[j].2]:=by rw [H];exact (ik wr _ _ rfl).drew
       have cp:=cl.blk k af;have x0:=O.cell 0;have xl:=O.lt;have m0:=cp.cell 0;rw [Cg _ _ oo] at m0;have mr:=cp.cell r;rw [Cg _ _ pn] at mr;have mf:=cp.frozen r;have ml:=cp.lt;have pp:=zh ((cl.store af (j:=r) v).conv (V':=λk q=>nm E S v (j+1) k q) (λk' hk' q hq=>by rw [eH E S v j df k' q hq,ha,hk,hr]))
       have lv:¬bk k=go:=λe=>by
        have h9:Blk wx go 3 _:=(((show Blk wb go 3 _ from (cn.block).choose_spec.2.1)).turned T.out (λh9=>h9.2 rfl)).grew C;exact Blk.ne_ cp h9 qd e
       have pq:Hid (Turned (λq=>wa.heap.size<=q/\q≠go) wb (wx.setCell ⟨bk k,r,none⟩ (.int .u32 (u32 v)))):=zh ((T.out.trans (C.turned _)).setCell (p:=⟨bk k,r,none⟩) (λ_=>⟨cl.low k af,lv⟩) _);clear lu a4 C cl O cp af lv ha hk hr;go_wp2_with fail;refine wp_region_still_tail 10 qk qk ?_;simp only [take_succ_cons,take_zero,drop_succ_cons,drop_zero];change wpStill _ _ (World.drew (wr.alloc (.cells #[.int .i64 (a:Int),.string S[j].2] 41))) (λa'=>wpList _ _ _ _ a' (World.drew (wr.alloc (.cells #[.int .i64 (a:Int),.string S[j].2] 41)))) _ _;obtain ⟨sd,ka⟩:∃w',w'=World.drew (wr.alloc (.cells #[.int .i64 (a:Int),.string S[j].2] 41)):=⟨_,rfl⟩;rw [<-ka];rw [<-H] at ka;subst ka;clear H c0 c1
       repeat still_step
       refine wpStill_nil ?_;go_wp2_with fail
       go_roundg (S.length - (j+1))
       case measure=>rw [ls.out];omega
       case rel=>exact ⟨j+1,oo,oo,by go_num,pp,pq⟩
     . obtain rfl:j=S.length:=oo;obtain ⟨wc,q5⟩:∃wc:World,wc=wr:=⟨_,rfl⟩;subst q5;have ru:wb.heap.size<=wc.heap.size:=T.size;have ho:=zh (cn.kept T (λg hg h9=>h9.2 (OG hg)));have lw:=zh (gj.turned T (λh9=>oo));have lx:=zh (gi.turned T (λh9=>oo))
       have ly:Hid (ListAt wc wc.heap.size 2 (some ⟨gs,0,none⟩) ((wlI S).map B0)):=zh (DU em T (λb off o u9 e hu hq=>by
        injection e with e
        injection e with e1 _ _
        omega))
       have lz:Hid (Turned (λq=>q=m\/w1.heap.size<=q) w1 wc):=zh (ek.out.trans (T.mono λq _ hq=>.inr oo));have l0:=zh (gc.kept T (by have:=b4.1.2;omega) oo);clear df hj ls T gi gj gl em ek gu hf cn gc HT cv cw q2 q3 q4;go_wp2_with fail
       go_loopg [132] (ksW S).length (λgk i' wr=>∃q:Nat,q<=(ksW S).length/\gk=(ksW S).length - q/\i'=.int .i64 q/\Blk wr R 201 (AE (nt td S v q))/\Turned (λz=>z=R) wc wr)
       case atStart=>exact ⟨0,oo,oo,rfl,lw.conv (BF λp _=>(eM td S v p).symm),jD _ _⟩
       case round=>
        obtain ⟨q,hq,Z,rfl,m9,na⟩:=hrel;have U:=zh Z;have c9:=zh m9;have ag:=zh na;clear Z m9 na;by_cases G:q<(ksW S).length
        . have hs:(q:Int)<((ksW S).length:Int):=oo;have l1:=ho.kept ag (λg hg h9=>by have:=OG hg;omega);obtain ⟨o0,ol⟩:=VQ l1 G;have eu:=zh (eP td S v q G);obtain ⟨k,hk⟩:∃k,(ksW S)[q]=k:=⟨_,rfl⟩;have a6:k<32:=by rw [<-hk];exact ((CT S _).1 (ib G)).1
          have oz:(0:Int)<=(k:Int)/\(k:Int)<32:=oo;rw [hk] at o0 eu;have b0:=c9.cell k;rw [Cg _ _ a6] at b0;have bf:=c9.frozen k;have bl:=c9.out.lt;have pr:=zh (((c9.set_ k (.int .u32 (u32 v))).conv (by rw [Ht])).conv (BF λp _=>eu p));have ps:=zh (ag.setCell (p:=⟨R,k,none⟩) (λ_=>rfl) (.int .u32 (u32 v)));clear l1 hk;go_wp2_with fail
          go_roundg ((ksW S).length - (q+1))
          case measure=>rw [U.out];omega
          case rel=>exact ⟨q+1,oo,oo,by go_num,pr,ps⟩
        . obtain rfl:q=(ksW S).length:=oo;obtain ⟨wd,q6⟩:∃wd:World,wd=wr:=⟨_,rfl⟩;subst q6;have rv:wc.heap.size<=wd.heap.size:=ag.size;have pt:=zh (ho.kept ag (λg hg h9=>by have:=OG hg;omega));have pu:=zh (lx.turned ag (λh9=>oo))
          have pw:Hid (ListAt wd wd.heap.size 2 (some ⟨gs,0,none⟩) ((wlI S).map B0)):=zh (DU ly ag (λb off o u9 e hu hq=>by
           injection e with e
           injection e with e1 _ _
           omega))
          have l2:=zh (et.kept ag oo (λk hk h9=>by have:=et.low k hk;omega));have px:Hid (Turned (λq=>q=m\/w1.heap.size<=q) w1 wd):=zh (lz.out.trans (ag.mono λq _ hq=>.inr oo));have py:=zh (l0.kept ag (by have:=b4.1.2;omega) oo);have eu:=zh (gJ E td S v kw);have pz:=zh (λk=>fw E S v k);clear G hq U ag ho lx ly et lz l0 lw;have l3:=zh (JB _ _ _ c9);rw [eu.out] at l3;go_wp2_with fail;refine l3.mono ?_;rintro e we ⟨rfl,ge⟩;have p0:=zh ge;have p1:=zh (Iv (AM (GC E S v)) v 0 we (by rw [EL];unfold GC;rw [iY,jr];omega) (CR 0 oo));clear ge;go_wp2_with fail;refine p1.mono ?_;rintro e wf ⟨rfl,gf⟩;have hw:=zh (p0.out.trans gf);have p2:Hid (Grew wd ((wf.alloc (.cells #[.int .i64 0,.string (Ak (AM (GC E S v)) v 0)] 218)).alloc (.cells #[.slice (some ⟨wf.heap.size,0,none⟩) 1 1] 219))):=zh ((hw.alloc _).alloc _);have p3:Hid (OwnL ((wf.alloc (.cells #[.int .i64 0,.string (Ak (AM (GC E S v)) v 0)] 218)).alloc (.cells #[.slice (some ⟨wf.heap.size,0,none⟩) 1 1] 219)) wd.heap.size 218 2 (.slice (some ⟨wf.heap.size,0,none⟩) 1 1) ([en0 E S v].map B0)):=zh ((OwnL.lit wf wd.heap.size 218 2 (B0 (en0 E S v)) rfl hw.size rfl).alloc _);have p4:Hid (Blk ((wf.alloc (.cells #[.int .i64 0,.string (Ak (AM (GC E S v)) v 0)] 218)).alloc (.cells #[.slice (some ⟨wf.heap.size,0,none⟩) 1 1] 219)) (wf.heap.size+1) 219 #[.slice (some ⟨wf.heap.size,0,none⟩) 1 1]):=zh (ik _ _ _ qs);have rx:wd.heap.size<=wf.heap.size:=hw.size;clear gf;go_wp2_with fail
          go_loopg [147] (ksW S).length (λgk i' wr=>∃(q:Nat) (u:Value),q<=(ksW S).length/\gk=(ksW S).length - q/\i'=.int .i64 q/\Blk wr (wf.heap.size+1) 219 #[u]/\OwnL wr wd.heap.size 218 2 u ((en0 E S v::enM E S v q).map B0)/\Grew wd wr)
          case atStart=>exact ⟨0,_,oo,oo,rfl,p4,by rw [show enM E S v 0=[] from rfl];exact p3.out,p2⟩
          case round=>
           obtain ⟨q,u,hq,Z,rfl,d2,d3,d4⟩:=hrel;have U:=zh Z;have B:=zh d2;have P:=zh d3;have M:=zh d4;clear Z d2 d3 d4;by_cases G:q<(ksW S).length
           . have hs:(q:Int)<((ksW S).length:Int):=oo;obtain ⟨o0,ol⟩:=VQ (pt.grew M) G;have l4:=zh (ZE E S v q G);obtain ⟨k,hk⟩:∃k,(ksW S)[q]=k:=⟨_,rfl⟩;have af:k∈ksW S:=by rw [<-hk];exact ib G
             have a6:k<32:=((CT S _).1 af).1;rw [hk] at o0 l4;obtain ⟨kl,a4⟩:=Fd (k:Int) (CR _ oo)
             have p5:Hid (∀w',Grew wr w'->(Instr.lookup 214 (.map (some wa.heap.size)) (.int .i64 (k:Int)) false).run Tryz.prog w'=.ok (ptrV (bk k)) w'):=zh (λw' hg=>by
              have av:=((l2.grew M).grew hg).map.lookup_val BH Bx Tryz.underlying214 (F6 _) (k:Int) a4
              rw [MI,if_pos af,jv] at av
              exact av)
             have t:Hid (∀w',Grew wr w'->(λw':World=>w'.cell? ⟨wf.heap.size+1,0,none⟩=some u/\wf.heap.size+1<w'.heap.size/\(Instr.lookup 214 (.map (some wa.heap.size)) (.int .i64 (k:Int)) false).run Tryz.prog w'=.ok (ptrV (bk k)) w') w'):=zh (λw' hg=>⟨(B.grew hg).cell 0,(B.grew hg).lt,p5 w' hg⟩);have p6:=zh ((l2.grew M).blk k af);have ci:IntKind.i64.wrap (1+(k:Int))=1+(k:Int):=jJ _ oo;have ry:IntKind.i64.wrap (k:Int)=(k:Int):=jJ _ oo;have hx:=zh (λw=>Iv (AM (Ex E S v k)) v (1+(k:Int)) w (by rw [EL];unfold Ex;rw [iY,jr];omega) (CR _ oo));have p7:(en0 E S v::enM E S v q).length<=33:=by rw [jf];have:=Vg E S v q;omega
             have p8:wf.heap.size+1<wr.heap.size:=B.out.lt;clear a4 af hk;go_wp2_with fail;refine AB [13,14] (λw':World=>w'.cell? ⟨wf.heap.size+1,0,none⟩=some u/\wf.heap.size+1<w'.heap.size/\(Instr.lookup 214 (.map (some wa.heap.size)) (.int .i64 (k:Int)) false).run Tryz.prog w'=.ok (ptrV (bk k)) w') qk ?_;have hS:=t.out wr.drew (iW wr).drew;refine tT 0 (some 151) hS ?_;refine tQ 1 152 ?_;refine tQ 2 153 ?_;refine tQ 3 154 ?_;refine tQ 4 155 ?_;refine tT 5 (some 156) hS ?_;refine tQ 7 158 ?_;refine tQ 8 159 ?_;refine tQ 9 160 ?_;refine tO 6 λK' hK=>?_;go_wp2_with fail;refine (JB _ _ _ (p6.drew)).mono ?_;rintro e wg ⟨rfl,gg⟩;have l5:Hid (Grew wr wg):=zh ((iW wr).drew.trans gg);rw [pz.out];clear gg;go_wp2_with fail;refine hK.out _ _ (.inr (λ_=>t wg l5)) ?_;clear hK hS;refine tO 10 λK' hK=>?_;go_wp2_with fail;refine (hx wg).mono ?_;rintro e wh ⟨rfl,gh⟩;have I:=zh (l5.out.trans gh);clear gh;go_wp2_with fail;refine hK.out _ _ (.inr (λ_=>t wh I)) ?_;clear hK;refine tQ 11 162 ?_;refine tO 12 λK' hK=>?_;go_wp2_with fail;refine hK.out _ _ (.inr (λ_=>t _ (I.alloc _))) ?_;clear hK;have p9:wd.heap.size<=wh.heap.size:=(M.out.trans I).size;refine tO 13 λK' hK=>?_;refine JD (.tmp 151) (.tmp 163) 219 rfl wd.heap.size 218 2 24 _ Tryz.underlying219 J5 rfl qd _ u ((en0 E S v::enM E S v q).map B0) (B0 (1+(k:Int),Ak (AM (Ex E S v k)) v (1+(k:Int)))) rfl rfl ((P.grew I).alloc _) wh.heap.size rfl (ik wh _ _ rfl) rfl (by rw [iY];omega) (by rw [iY];omega) (by simp;omega) (en0 E S v::enM E S v q).length (by rw [iY]) ?_;intro g9 a3 w9 L f _ _;have Q:=((B.grew I).alloc (.cells #[.int .i64 (1+(k:Int)),.string (Ak (AM (Ex E S v k)) v (1+(k:Int)))] 218)).own f (P.ne_blk B qd);have a8:=((M.out.trans I).alloc (.cells #[.int .i64 (1+(k:Int)),.string (Ak (AM (Ex E S v k)) v (1+(k:Int)))] 218)).own f P.row_ge (iX _);have c8:=zh (Q.set_ 0 (.slice (some ⟨g9,0,none⟩) ((en0 E S v::enM E S v q).length+1) a3));have ad:=zh (L.far (p:=⟨wf.heap.size+1,0,none⟩) (L.ne_blk Q qd) (.slice (some ⟨g9,0,none⟩) ((en0 E S v::enM E S v q).length+1) a3));have a1:=zh (a8.setCell (p:=⟨wf.heap.size+1,0,none⟩) (by show wd.heap.size<=wf.heap.size+1;omega) (.slice (some ⟨g9,0,none⟩) ((en0 E S v::enM E S v q).length+1) a3));have b9:=Q.cell 0;have f9:=Q.frozen 0;have l9:=Q.lt;refine hK.out _ _ (.inl (by rfl)) ?_;clear hK L f Q a8
             try simp only [Act.put,zA,zB,zC]
             refine tO 14 λK' hK=>?_;go_wp2_with fail;refine hK.out _ _ (.inl (by rfl)) ?_;clear hK b9 f9 l9;refine AA qk ?_ _;go_wp2_with fail
             go_roundg ((ksW S).length - (q+1))
             case measure=>rw [U.out];omega
             case rel=>exact ⟨q+1,_,oo,oo,by go_num,c8,by rw [l4.out,<-cons_append,il];exact ad.out,a1⟩
           . obtain rfl:q=(ksW S).length:=oo;clear G hq U;go_wp2_with fail
             go_loopg [168] S.length (λgk i' wr=>∃(q:Nat) (u:Value),q<=S.length/\gk=S.length - q/\i'=.int .i64 q/\Blk wr (wf.heap.size+1) 219 #[u]/\OwnL wr wd.heap.size 218 2 u ((en0 E S v::(enM E S v (ksW S).length++enD S v q)).map B0)/\Grew wd wr)
             case atStart=>exact ⟨0,_,oo,oo,rfl,B,by rw [show enD S v 0=[] from rfl,append_nil];exact P.out,M⟩
             case round=>
              clear B P M;obtain ⟨q,u,hq,Z,rfl,d2,d3,d4⟩:=hrel;have U:=zh Z;have B:=zh d2;have P:=zh d3;have M:=zh d4;clear Z d2 d3 d4;by_cases G:q<S.length
              . have hs:(q:Int)<(S.length:Int):=oo;obtain ⟨ol,c0,c1⟩:=J3 (AG pw M) G;have hz:=zh (Zi S v q G);have h0:=ct.out _ (ib G);obtain ⟨⟨a,ds⟩,ha⟩:∃e,S[q]=e:=⟨_,rfl⟩;rw [ha] at hz c0 c1 h0;simp only at hz c0 c1 h0;obtain ⟨se,sf⟩:=h0;have O:Blk (wr.alloc (.cells #[.int .i64 (a:Int),.string ds] 41)) wr.heap.size 41 #[.int .i64 (a:Int),.string ds]:=ik wr _ _ rfl;have C:Grew wr (wr.alloc (.cells #[.int .i64 (a:Int),.string ds] 41)):=(iW wr).alloc _;have t:Hid (∀w',Grew (wr.alloc (.cells #[.int .i64 (a:Int),.string ds] 41)) w'->(λw':World=>w'.cell? ⟨wf.heap.size+1,0,none⟩=some u/\wf.heap.size+1<w'.heap.size/\w'.cell? ⟨wr.heap.size,0,none⟩=some (.int .i64 (a:Int))/\w'.cell? ⟨wr.heap.size,1,none⟩=some (.string ds)/\wr.heap.size<w'.heap.size) w'):=zh (λw' hg=>⟨(B.grew (C.trans hg)).cell 0,(B.grew (C.trans hg)).lt,(O.grew hg).cell 0,(O.grew hg).cell 1,(O.grew hg).lt⟩);have N:=zh C;have ci:IntKind.i64.wrap (131+(a:Int))=131+(a:Int):=jJ _ oo;have hx:=zh (λw=>Iv ds v (131+(a:Int)) w oo (CR _ oo));have p7:(en0 E S v::(enM E S v (ksW S).length++enD S v q)).length<=97:=by rw [jf,iy];have:=Vg E S v (ksW S).length;have:=eD S v q;omega
                obtain ⟨rl,q7⟩:∃rl,(en0 E S v::(enM E S v (ksW S).length++enD S v q)).length=rl:=⟨_,rfl⟩;have p8:wf.heap.size+1<wr.heap.size:=B.out.lt;obtain ⟨wx,H⟩:∃wx:World,wx=wr.alloc (.cells #[.int .i64 (a:Int),.string ds] 41):=⟨_,rfl⟩;rw [<-H] at t N;clear O C ha;go_wp2_with fail;rw [<-H];clear H c0 c1;refine AB [13,14] (λw':World=>w'.cell? ⟨wf.heap.size+1,0,none⟩=some u/\wf.heap.size+1<w'.heap.size/\w'.cell? ⟨wr.heap.size,0,none⟩=some (.int .i64 (a:Int))/\w'.cell? ⟨wr.heap.size,1,none⟩=some (.string ds)/\wr.heap.size<w'.heap.size) qk ?_;have hS:=t.out wx.drew (iW wx).drew;refine tT 0 (some 172) hS ?_;refine tQ 1 173 ?_;refine tT 2 (some 174) hS ?_;refine tQ 3 175 ?_;refine tQ 4 176 ?_;refine tT 5 (some 177) hS ?_;refine tQ 6 178 ?_;refine tQ 7 179 ?_;refine tT 8 (some 180) hS ?_;refine tQ 9 181 ?_;refine tO 10 λK' hK=>?_;go_wp2_with fail;refine (hx wx.drew).mono ?_;rintro e wh ⟨rfl,gh⟩;have a2:=zh ((iW wx).drew.trans gh);have I:=zh (N.out.trans a2);clear gh;go_wp2_with fail;refine hK.out _ _ (.inr (λ_=>t wh a2)) ?_;clear hK hS;refine tQ 11 183 ?_;refine tO 12 λK' hK=>?_;go_wp2_with fail;refine hK.out _ _ (.inr (λ_=>t _ (a2.alloc _))) ?_;clear hK;have p9:wd.heap.size<=wh.heap.size:=(M.out.trans I).size;refine tO 13 λK' hK=>?_;refine JD (.tmp 172) (.tmp 184) 219 rfl wd.heap.size 218 2 24 _ Tryz.underlying219 J5 rfl qd _ u ((en0 E S v::(enM E S v (ksW S).length++enD S v q)).map B0) (B0 (131+(a:Int),Ak ds v (131+(a:Int)))) rfl rfl ((P.grew I).alloc _) wh.heap.size rfl (ik wh _ _ rfl) rfl (by rw [iY];omega) (by rw [iY];omega) (by simp;omega) rl (by rw [iY];exact q7) ?_;intro g9 a3 w9 L f _ _;have Q:=((B.grew I).alloc (.cells #[.int .i64 (131+(a:Int)),.string (Ak ds v (131+(a:Int)))] 218)).own f (P.ne_blk B qd);have a8:=((M.out.trans I).alloc (.cells #[.int .i64 (131+(a:Int)),.string (Ak ds v (131+(a:Int)))] 218)).own f P.row_ge (iX _);have c8:=zh (Q.set_ 0 (.slice (some ⟨g9,0,none⟩) (rl+1) a3));have ad:=zh (L.far (p:=⟨wf.heap.size+1,0,none⟩) (L.ne_blk Q qd) (.slice (some ⟨g9,0,none⟩) (rl+1) a3));have a1:=zh (a8.setCell (p:=⟨wf.heap.size+1,0,none⟩) (by show wd.heap.size<=wf.heap.size+1;omega) (.slice (some ⟨g9,0,none⟩) (rl+1) a3));have b9:=Q.cell 0;have f9:=Q.frozen 0;have l9:=Q.lt;refine hK.out _ _ (.inl (by rfl)) ?_;clear hK L f Q a8
                try simp only [Act.put,zA,zB,zC]
                refine tO 14 λK' hK=>?_;go_wp2_with fail;refine hK.out _ _ (.inl (by rfl)) ?_;clear hK b9 f9 l9;refine AA qk ?_ _;go_wp2_with fail
                go_roundg (S.length - (q+1))
                case measure=>rw [U.out];omega
                case rel=>exact ⟨q+1,_,oo,oo,by go_num,c8,by rw [hz.out,<-jK,<-cons_append,il];exact ad.out,a1⟩
              . obtain rfl:q=S.length:=oo;rw [gC] at P;have a0:=bu E S v ow;have da:=Wk E S v;obtain ⟨l,hl⟩:∃l,ID E S v=l:=⟨_,rfl⟩;rw [hl] at P a0 da;have qa:=zh hl;obtain ⟨sg,nb⟩:=a0;have ex:=zh da;obtain ⟨ge,ce,rfl,sh,si⟩:=P.some_ (λe=>by have h9:=LL l;rw [e] at h9;simp at h9;omega);rw [LL] at B;have l6:=P;rw [LL] at l6;obtain ⟨wg,q8⟩:∃wg:World,wg=wr:=⟨_,rfl⟩;subst q8;have qb:=B.cell 0;have qc:=B.out.lt;have l7:=zh l6.listA;have e0:=zh (pu.grew M);have rz:W.heap.size<wg.heap.size:=e0.out.lt;clear G hq U hl da;go_wp2_with fail;clear qb qc
                go_loopg [30,31,189] l.length (λgk a30 a31 i' wr=>∃(q:Nat) (vs:List Value),q<=l.length/\gk=l.length - q/\i'=.int .i64 q/\a31=.string (AP (Fw (l.take q)))/\OwnL wr wg.heap.size 196 1 a30 (vs.map λv=>[v])/\PutsAt wr wg.heap.size s (slU l q) vs/\Grew wg wr)
                case atStart=>exact ⟨0,[],oo,oo,rfl,rfl,OwnL.nil ..,PutsAt.nil ..,iW _⟩
                case round=>
                 obtain ⟨q,vs,hq,Z,rfl,rfl,nc,nd,nf⟩:=hrel;have U:=zh Z;have a9:=zh nc;have e2:=zh nd;have V:=zh nf;clear Z nc nd nf;by_cases G:q<l.length
                 . have hs:(q:Int)<(l.length:Int):=oo;obtain ⟨ol,c0,c1⟩:=J3 (AG l7 V) G;have h3:=zh (bj l q G);have h4:=zh (TV l q G);obtain ⟨⟨a,al⟩,ha⟩:∃e,l[q]=e:=⟨_,rfl⟩;have r0:al.size=140:=by have:=ex.out _ (ib G);rw [ha] at this;exact this
                   have l8:(AP (Fw (l.take q))).size<=14000:=by
                    rw [LZ _ (λr hr=>by
                     unfold Fw at hr
                     obtain ⟨e,he,rfl⟩:=ie.1 hr
                     exact ex.out _ (jw he))]
                    unfold Fw;rw [iY,je];omega
                   rw [ha] at h3 h4 c0 c1;simp only at h3 h4 c0 c1;have O:Blk (wr.alloc (.cells #[.int .i64 (a:Int),.string al] 218)) wr.heap.size 218 #[.int .i64 (a:Int),.string al]:=ik wr _ _ rfl;have C:Grew wr (wr.alloc (.cells #[.int .i64 (a:Int),.string al] 218)):=(iW wr).alloc _;have aw:=e0.grew V;have r1:W.heap.size<wr.heap.size:=aw.lt;have t:Hid (∀w',Grew (wr.alloc (.cells #[.int .i64 (a:Int),.string al] 218)) w'->(λw':World=>w'.cell? ⟨W.heap.size,0,none⟩=some (ptrV s)/\W.heap.size<w'.heap.size/\w'.cell? ⟨wr.heap.size,1,none⟩=some (.string al)/\wr.heap.size<w'.heap.size) w'):=zh (λw' hg=>⟨(aw.grew (C.trans hg)).cell 0,(aw.grew (C.trans hg)).lt,(O.grew hg).cell 1,(O.grew hg).lt⟩);have N:=zh C;have ci:IntKind.i64.wrap (34+(q:Int))=34+(q:Int):=jJ _ oo;have e3:=e2.1;rw [Qp] at e3;obtain ⟨wx,H⟩:∃wx:World,wx=wr.alloc (.cells #[.int .i64 (a:Int),.string al] 218):=⟨_,rfl⟩;have h5:=zh O;have ma:=zh aw;rw [<-H] at t N h5;have r2:wr.heap.size<wx.heap.size:=by rw [H];simp
                   clear O C ha aw;go_wp2_with fail;rw [<-H];clear H c0 c1;refine AB [] (λw':World=>w'.cell? ⟨W.heap.size,0,none⟩=some (ptrV s)/\W.heap.size<w'.heap.size/\w'.cell? ⟨wr.heap.size,1,none⟩=some (.string al)/\wr.heap.size<w'.heap.size) qk ?_;have hS:=t.out wx.drew (iW wx).drew;refine tQ 0 194 ?_;refine tT 1 (some 195) hS ?_;refine tQ 2 196 ?_;refine tQ 3 197 ?_;refine tQ 4 198 ?_;refine tT 5 (some 199) hS ?_;refine tQ 9 203 ?_;refine tQ 10 204 ?_;refine tT 11 (some 205) hS ?_;refine tQ 12 206 ?_;refine tO 6 λK' hK=>?_;go_wp2_with fail;refine (I7 _ _ _ _).mono ?_;rintro e wh ⟨pv,rfl,cc,gh⟩;obtain ⟨K,rfl⟩:=cc.form;have a2:=zh ((iW wx).drew.trans gh);have I:=zh (N.out.trans a2);have r3:wg.heap.size<=wh.heap.size:=(V.out.trans I).size;have mb:PutAt wh wg.heap.size s (34+(q:Int)) al (.func (.func 159) #[] K):=cc.low (by show wg.heap.size<=wx.drew.heap.size;have h8:=V.size;have:wx.drew.heap.size=wx.heap.size:=rfl;omega);have qe:=zh ((e2.grew I).snoc (e:=(34+(q:Int),al)) mb);clear gh cc mb;go_wp2_with fail;refine hK.out _ _ (.inr (λ_=>t wh a2)) ?_;clear hK hS;refine tO 7 λK' hK=>?_;go_wp2_with fail;refine hK.out _ _ (.inr (λ_=>t _ (a2.alloc _))) ?_;clear hK;refine tO 8 λK' hK=>?_;refine JD (.tmp 194) (.tmp 201) 195 rfl wg.heap.size 196 1 8 .nilFunc Tryz.underlying195 F5 rfl qd _ u30 (vs.map λv=>[v]) [.func (.func 159) #[] K] rfl rfl ((a9.grew I).alloc _) wh.heap.size rfl (ik wh _ _ rfl) rfl (by rw [iY];omega) (by rw [iY];omega) (by simp;omega) q (by rw [iY];exact e3) ?_;intro g9 a3 w9 L f _ _;have a8:=((V.out.trans I).alloc (.cells #[.func (.func 159) #[] K] 196)).own f a9.row_ge (iX _);have mc:=(qe.grew ((iW wh).alloc (.cells #[.func (.func 159) #[] K] 196))).own ((a9.grew I).alloc (.cells #[.func (.func 159) #[] K] 196)) f;have ad:=zh L;have a1:=zh a8;have qf:=zh mc;have bc:=((ma.grew (N.out.trans a2)).alloc (.cells #[.func (.func 159) #[] K] 196)).own f (a9.ne_blk ma qd);have h6:=((h5.grew a2).alloc (.cells #[.func (.func 159) #[] K] 196)).own f ((a9.grew N).ne_blk h5 qd);refine hK.out _ _ (.inr (λ_=>⟨bc.cell 0,bc.lt,h6.cell 1,h6.lt⟩)) ?_;clear hK L f a8 mc bc h6;refine tQ 13 30 ?_;refine tQ 14 31 ?_;refine AA qk ?_ _;go_wp2_with fail
                   go_roundg (l.length - (q+1))
                   case measure=>rw [U.out];omega
                   case rel=>exact ⟨q+1,vs++[.func (.func 159) #[] K],oo,oo,by go_num,by rw [h4.out],by rw [il];exact ad.out,by rw [h3.out];exact qf.out,a1⟩
                 . obtain rfl:q=l.length:=oo;rw [i8 (iX _)];obtain ⟨wk,ci⟩:∃wk:World,wk=wr:=⟨_,rfl⟩;subst ci;have e4:=zh (B.grew V);have id:=zh (e0.grew V)
                   have l8:(AP (Fw l)).size<=14000:=by
                    rw [LZ _ (λr hr=>by
                     unfold Fw at hr
                     obtain ⟨e,he,rfl⟩:=ie.1 hr
                     exact ex.out _ he)]
                    unfold Fw;rw [iY];omega
                   have qg:=aK l.length nb;have b3:(Bl v).size=4:=Ac v;have md:(Bl (nv l.length)).size=4:=Ac _;have ch:(Bl (Hq (AP (Fw l)))).size=4:=Ac _;have qh:(Bl v++Bl (nv l.length)).size=8:=by rw [io,b3,md]
                   have qi:Hid (Bl v++Bl (nv l.length)++Bl (Hq (AP (Fw l)))=I6 l v):=zh (by unfold I6;rw [jq]);have t:Hid (∀w',Grew wk w'->(λw':World=>w'.cell? ⟨wf.heap.size+1,0,none⟩=some (.slice (some ⟨ge,0,none⟩) l.length ce)/\wf.heap.size+1<w'.heap.size) w'):=zh (λw' hg=>⟨(e4.grew hg).cell 0,(e4.grew hg).lt⟩);clear G hq U;go_wp2_with fail;refine AB [] (λw':World=>w'.cell? ⟨wf.heap.size+1,0,none⟩=some (.slice (some ⟨ge,0,none⟩) l.length ce)/\wf.heap.size+1<w'.heap.size) qk ?_;have hS:=t.out wk.drew (iW wk).drew;refine tQ 0 208 ?_;refine tT 2 (some 210) hS ?_;refine tT 3 (some 211) hS ?_;refine tT 4 (some 212) hS ?_;refine tQ 7 215 ?_;refine tO 1 λK' hK=>?_;go_wp2_with fail;refine (Ez v _).mono ?_;rintro e qu ⟨rfl,mo⟩;have me:=zh ((iW wk).drew.trans mo);clear mo;go_wp2_with fail;refine hK.out _ _ (.inr (λ_=>t qu me)) ?_;clear hK hS;refine tO 5 λK' hK=>?_;go_wp2_with fail;refine (Ez (nv l.length) _).mono ?_;rintro e mp ⟨rfl,mq⟩;have ih:=zh (me.out.trans mq);clear mq;go_wp2_with fail;refine hK.out _ _ (.inr (λ_=>t mp ih)) ?_;clear hK;have hS:=t.out mp ih;refine tQ 6 214 ?_;refine tO 8 λK' hK=>?_;go_wp2_with fail;refine (MK (AP (Fw l)) oo _).mono ?_;rintro e qv ⟨rfl,ms⟩;have mg:=zh (ih.out.trans ms);clear ms;go_wp2_with fail;refine hK.out _ _ (.inr (λ_=>t qv mg)) ?_;clear hK hS;refine tO 9 λK' hK=>?_;go_wp2_with fail;refine (Ez (Hq (AP (Fw l))) _).mono ?_;rintro e cq ⟨rfl,mt⟩;have Y:=zh (mg.out.trans mt);clear mt;go_wp2_with fail;refine hK.out _ _ (.inr (λ_=>t cq Y)) ?_;clear hK;have hS:=t.out cq Y;refine tQ 10 218 ?_;refine tQ 11 34 ?_;refine AA qk ?_ _;rw [qi.out];clear hS qg b3 md ch qh l8;have e5:Hid (∀w',Grew cq w'->(λw':World=>w'.cell? ⟨W.heap.size,0,none⟩=some (ptrV s)/\W.heap.size<w'.heap.size) w'):=zh (λw' hg=>⟨((id.grew Y).grew hg).cell 0,((id.grew Y).grew hg).lt⟩);have qj:=zh (λw=>Iv (I6 l v) v 33 w (by rw [Qv];omega) (CR 33 oo));go_wp2_with fail;refine AB [] (λw':World=>w'.cell? ⟨W.heap.size,0,none⟩=some (ptrV s)/\W.heap.size<w'.heap.size) qk ?_;have hS:=e5.out cq.drew (iW cq).drew;refine tQ 0 219 ?_;refine tT 1 (some 220) hS ?_;refine tQ 2 221 ?_;refine tT 3 (some 222) hS ?_;refine tQ 4 223 ?_;refine tQ 5 224 ?_;refine tT 8 (some 227) hS ?_;refine tQ 9 228 ?_;refine tQ 10 229 ?_;refine tO 6 λK' hK=>?_;go_wp2_with fail;refine (qj _).mono ?_;rintro e mu ⟨rfl,mw⟩;have ii:=zh ((iW cq).drew.trans mw);clear mw;go_wp2_with fail;refine hK.out _ _ (.inr (λ_=>e5 mu ii)) ?_;clear hK hS;refine tO 7 λK' hK=>?_;go_wp2_with fail;refine (I7 _ _ _ _).mono ?_;rintro e d0 ⟨pv,rfl,cc,mx⟩;obtain ⟨K,rfl⟩:=cc.form;have bs:=zh (ii.out.trans mx);have ql:wg.heap.size<=mu.heap.size:=(V.out.trans (Y.out.trans ii)).size;have qm:=zh (cc.low ql);clear mx cc;go_wp2_with fail;refine hK.out _ _ (.inr (λ_=>e5 d0 bs)) ?_;clear hK;refine tO 11 λK' hK=>?_;go_wp2_with fail;refine hK.out _ _ (.inr (λ_=>e5 _ (bs.alloc _))) ?_;clear hK;have e3:=e2.1;rw [Qp] at e3;have e6:=zh (a9.grew (Y.out.trans bs));have r4:wg.heap.size<=d0.heap.size:=(V.out.trans (Y.out.trans bs)).size;refine tO 12 λK' hK=>?_;refine Hj (.tmp 219) (.tmp 230) 195 rfl wg.heap.size 196 1 8 .nilFunc Tryz.underlying195 F5 rfl qd u30 (vs.map λv=>[v]) (([.func (.func 122) #[ptrV s] #[],.func (.func 159) #[] K,.func (.func 122) #[ptrV s] #[],.func (.func 133) #[] #[.pointer (some ⟨W.heap.size,0,none⟩),.pointer (some ⟨wf.heap.size+1,0,none⟩)]]:List Value).map λv=>[v]) rfl (e6.alloc _) (some ⟨d0.heap.size,0,none⟩) 4 4 rfl rfl (NE _) (Ki (ik _ _ _ rfl) qs) (Mp (by rfl)) (by rw [iY];omega) (by rw [iY];omega) (by simp;omega) ?_;intro v9 w9 L f _;have bc:=((id.grew (Y.out.trans bs)).alloc (.cells #[.func (.func 122) #[ptrV s] #[],.func (.func 159) #[] K,.func (.func 122) #[ptrV s] #[],.func (.func 133) #[] #[.pointer (some ⟨W.heap.size,0,none⟩),.pointer (some ⟨wf.heap.size+1,0,none⟩)]] 196)).own f (a9.ne_blk (e0.grew V) qd);have qn:=zh bc;have ad:=zh L;have qo:=zh (((e4.grew (Y.out.trans bs)).alloc (.cells #[.func (.func 122) #[ptrV s] #[],.func (.func 159) #[] K,.func (.func 122) #[ptrV s] #[],.func (.func 133) #[] #[.pointer (some ⟨W.heap.size,0,none⟩),.pointer (some ⟨wf.heap.size+1,0,none⟩)]] 196)).own f (a9.ne_blk e4 qd));have qp:=zh (((e2.grew (Y.out.trans bs)).grew ((iW d0).alloc (.cells #[.func (.func 122) #[ptrV s] #[],.func (.func 159) #[] K,.func (.func 122) #[ptrV s] #[],.func (.func 133) #[] #[.pointer (some ⟨W.heap.size,0,none⟩),.pointer (some ⟨wf.heap.size+1,0,none⟩)]] 196))).own (e6.alloc (.cells #[.func (.func 122) #[ptrV s] #[],.func (.func 159) #[] K,.func (.func 122) #[ptrV s] #[],.func (.func 133) #[] #[.pointer (some ⟨W.heap.size,0,none⟩),.pointer (some ⟨wf.heap.size+1,0,none⟩)]] 196)) f);have qq:=zh ((qm.grew ((iW d0).alloc (.cells #[.func (.func 122) #[ptrV s] #[],.func (.func 159) #[] K,.func (.func 122) #[ptrV s] #[],.func (.func 133) #[] #[.pointer (some ⟨W.heap.size,0,none⟩),.pointer (some ⟨wf.heap.size+1,0,none⟩)]] 196))).own (e6.alloc (.cells #[.func (.func 122) #[ptrV s] #[],.func (.func 159) #[] K,.func (.func 122) #[ptrV s] #[],.func (.func 133) #[] #[.pointer (some ⟨W.heap.size,0,none⟩),.pointer (some ⟨wf.heap.size+1,0,none⟩)]] 196)) f);have a1:Hid (Grew wg w9):=zh (((V.out.trans (Y.out.trans bs)).alloc (.cells #[.func (.func 122) #[ptrV s] #[],.func (.func 159) #[] K,.func (.func 122) #[ptrV s] #[],.func (.func 133) #[] #[.pointer (some ⟨W.heap.size,0,none⟩),.pointer (some ⟨wf.heap.size+1,0,none⟩)]] 196)).own f e6.row_ge (iX _));refine hK.out _ _ (.inr (λ_=>⟨bc.cell 0,bc.lt⟩)) ?_;clear hK L f bc;have mh:=zh (M.out.trans a1);have mi:Hid (Turned (λq=>q=m\/w1.heap.size<=q) w1 w9):=zh (px.out.trans (mh.turned _));have mj:=zh (py.grew mh);have mk:=zh (YB (ee w9 mi mj) (by have:=n6.out;omega) (lo:=w1.heap.size) (base:=wg.heap.size) (λk h1 h2=>.inr ⟨h1,h2⟩) (by have:=M.size;omega) l v nb ex qn (.inl (.inr rfl)) qo oo (AG l7 a1) ⟨oo,by have:=a1.size;omega⟩ qp qq (by rw [il];exact ad.out));obtain ⟨A2,n2,c2,rfl,ng⟩:=mk.out;have qr:=zh ng;clear ng mk;refine tQ 13 30 ?_;refine AA qk ?_ _;go_wp2_with fail;refine qr.mono ?_;rintro e qt ⟨rfl,qw,qx⟩;go_wp2_with fail;go_ret;rw [pk.out,qa.out];exact ⟨rfl,Th ea HD mj mi qw qx ku.1 ku.2⟩
end

theorem U3 {w0:World} {x s m:Nat} {sy ep:Int} {D:Dev} {out:Nat->Prop} {W:World} (h:Held w0 x s m sy ep D out W) (hlen:132<=D.st.length/\D.st.length<=1155) (hp:D.pend.length<=800000) (E:Dev) (fb:Bool) (hE:B9 D sy ep=(E,fb,0)) (n:Nat) (hn:D.st.length - 131=n) (ws:List (Int × ByteArray)) (hok:∀e∈ws,okI e.1) (A:Option Addr) (c:Nat) (hat:ListAt W W.heap.size 2 A (ws.map B0)) (hA:Et w0 out A) (hck:Ae n ws=0) (hne:ws≠[]) (htop:(topI E).ok=true) (S:Wl) (hS:CS n ws=S) (hmaps:∀k∈ksW S,C5 E k) (v:U32) (hv:(topI E).ver+1#32=v) (hver:(topI E).ver≠4294967295#32):
 Calls Tryz.prog 80 #[ptrV s,.slice A ws.length c] W λe w'=>e=.returned (.int .i64 (Bm sy ep (Cw (ID E S v) v) E).2)/\Done w0 x s m sy ep (Bm sy ep (Cw (ID E S v) v) E).1 out W w':=
 (RM dY h hlen hp E fb hE n hn ws hok A c hat hA hck hne htop S hS v hv hver).mono (λe w' hq=>by
   have hz:=I9 (E:=E) (ksW S) hmaps []
   rw [append_nil] at hz
   unfold Mh at hq
   rwa [if_neg (by rw [hz];exact λh9=>h9 rfl)] at hq)
section
variable {w0:World} {x s m:Nat} {sy ep:Int} {D:Dev} {out:Nat->Prop} {W:World}
theorem Rx (h:Held w0 x s m sy ep D out W) (r:132<=D.st.length/\D.st.length<=1155) (hp:D.pend.length<=800000) (E:Dev) (fb:Bool) (hE:B9 D sy ep=(E,fb,0)) (ws:List (Int × ByteArray)) (hl:ws.length<=1000000) (t:∀e∈ws,okI e.1) (A:Option Addr) (c:Nat) (q:ListAt W W.heap.size 2 A (ws.map B0)) (hA:ws≠[]->Et w0 out A) (g:Ae (D.st.length - 131) ws≠0\/ws=[]):
 Calls Tryz.prog 80 #[ptrV s,.slice A ws.length c] W λe w'=>e=.returned (.int .i64 (Ae (D.st.length - 131) ws))/\Done w0 x s m sy ep E out W w':=by
 have l:=Ii D sy ep;rw [hE] at l;have v:E.st.length=D.st.length:=l.1;have K:=h.store.lt;have S:=h.live.base.size;have d:Grew W (W.alloc (.cells #[ptrV s] 106)):=(iW W).alloc _;have L:Held w0 x s m sy ep D out (W.alloc (.cells #[ptrV s] 106)):=h.grew d;have n:Held w0 x s m sy ep D (λk=>out k\/k=W.heap.size) (W.alloc (.cells #[ptrV s] 106)):=⟨(h.live.more d).few (λk hk=>hk.elim .inl (λh9=>.inr (by rw [h9];simp))),h.store.grew d,.inl h.os,.inl h.om,h.m0⟩;have w:Blk (W.alloc (.cells #[ptrV s] 106)) W.heap.size 106 #[ptrV s]:=ik W _ _ rfl;have HF:=zh (Hp n r.1 oo E fb 0 hE);obtain ⟨er,j⟩:∃er,Ae (D.st.length - 131) ws=er:=⟨_,rfl⟩;rw [j] at g ⊢;have y:=zh (show Ae (E.st.length - 131) ws=er from by rw [v];exact j);have z:=zh (show 132<=E.st.length/\E.st.length<=1155 from oo);have B:=zh n;have C:=zh w;have i:=zh d;have M:=zh q;have G:ws=[]->er=0:=λh9=>by rw [<-j,h9];unfold Ae;simp
 have N:=zh (λ(h9:er≠0)=>hA (λh8=>h9 (G h8)));have O:=zh h.store;have H:=zh t;have I:=zh K;clear G h r hp hE t q hA l v d L n w j;by_cases h0:er=0
 . subst h0;have hw:ws=[]:=g.elim (λh9=>absurd rfl h9) id;subst hw;clear g;go_enter Tryz.func80,Tryz.ntmps80;go_wp2_with fail;refine HF.mono ?_;rintro e w1 ⟨rfl,hd⟩;have a:Blk w1 W.heap.size 106 #[ptrV s]:=C.turned hd.turned (λhq=>hq.elim (λh9=>h9.2 (.inr rfl)) (by have:=I.2;omega));have f:=zh (Kt (B.done hd) z [] qs H A c (ListAt.none A));rw [y.out] at f;have P:=a.cell 0;have Q:=a.lt;have HD:=zh hd;clear hd a;go_wp2_with fail;refine f.mono ?_;rintro e w2 ⟨rfl,g2⟩;have p:=zh g2;clear g2;go_wp2_with fail;go_ret;exact ⟨rfl,FJ (HD.grew p) i (λk hk=>.inl hk)⟩
 . have T:(er != 0)=true:=by rw [jH];exact h0
   clear g;go_enter Tryz.func80,Tryz.ntmps80;go_wp2_with fail;refine HF.mono ?_;rintro e w1 ⟨rfl,hd⟩;have a:Blk w1 W.heap.size 106 #[ptrV s]:=C.turned hd.turned (λhq=>hq.elim (λh9=>h9.2 (.inr rfl)) (by have:=I.2;omega))
   have J:ListAt w1 w1.heap.size 2 A (ws.map B0):=DU (AG M i) hd.turned (λb off o u e hu hq=>by
    rcases hq with hq | hq
    . rcases N.out h0 b off e with h9 | h9
      . exact absurd hq.1 (by have:=h9;omega)
      . exact hq.2 (.inl h9)
    . obtain ⟨F,R,_⟩:=(O.grew i).seen
      exact FY R hu hq)
   have f:=zh (Kt (B.done hd) z ws hl H A c J);rw [y.out] at f;have P:=a.cell 0;have Q:=a.lt;have HD:=zh hd;clear hd a J h0;go_wp2_with fail;refine f.mono ?_;rintro e w2 ⟨rfl,g2⟩;have p:=zh g2;clear g2;go_wp2_with fail;go_ret;exact ⟨rfl,FJ (HD.grew p) i (λk hk=>.inl hk)⟩
end

def LX (k:Nat):Int:=1+((k % 3:Nat):Int)
theorem db (k:Nat):1<=LX k/\LX k<=4:=by unfold LX;omega

theorem U5 {w:World} {B:Nat} {A:Option Addr} {l:List ByteArray} (h:ListAt w B 1 A (l.map λs=>[.string s])) {k:Nat} (hk:k<l.length):
 ∃b off,A=some ⟨b,off,none⟩/\b<B/\w.cell? ⟨b,off+k,none⟩=some (.string l[k]):=by
 obtain ⟨b,off,e,hb,hc⟩:=h (by rw [iY];omega);have hj:(l.map λs=>[Value.string s])[k]? =some [.string l[k]]:=by rw [iZ,iV hk];rfl
 exact ⟨b,off,e,hb,by have:=hc k _ hj 0 _ rfl;simpa using this⟩

end
section
open Go.RowKit
theorem Sj {D:Dev} {I:Img} (h:Clean D I) (sy ep:Int) (hl:D.st.length=131+I.n) (i:Nat) (hi:i<I.n):NQ D sy ep (i:Int)=(D,I.cs i,0):=by
 unfold NQ;rw [E0 h,if_neg qs,if_neg oo,i9,h.toHolds.look i hi];rfl
theorem L7 {D:Dev} {I:Img} (h:Clean D I) (sy ep:Int) (hf:II D sy ep=true):TG D sy ep=(D,0):=by
 unfold TG;rw [E0 h,if_neg (by rw [hf];simp),if_neg qs,if_neg (by rw [h.toHolds.topI];simp)]

def Img.next (I:Img) (l:List (Int × ByteArray)):Img:=if l=[] then I else I.upd (CS I.n l)
theorem Zu (I:Img) (l:List (Int × ByteArray)):(I.next l).n=I.n:=by unfold Img.next;split<;>rfl
theorem ff (I:Img) (l:List (Int × ByteArray)):(I.next l).N=if l=[] then I.N else I.N+1:=by
 unfold Img.next;split<;>rfl

end
section
attribute [local go_sem ↓] Go.wp_at_zero Go.wp_at_succ
open Go.RowKit
theorem gH (s:ByteArray):Gc 128 (if 128<s.size then s.extract 0 128 else s)=Bt s:=by
 unfold Gc Bt;split
 . rw [i0,show 128 - (min 128 s.size - 0)=0 from oo,show 128 - s.size=0 from oo];rfl
 . rw [show s.extract 0 128=s from by apply ByteArray.ext;rw [ByteArray.data_extract];exact Array.extract_eq_self_of_le (by show s.size<=128;omega)];rfl
theorem ac (s:ByteArray) (w:World) (hs:s.size<=1000000):Calls Tryz.prog 16 #[.string s] w λe w'=>e=.returned (.string (Bt s))/\w=w':=by
 have hp:=gH s;by_cases h:128<s.size
 . rw [if_pos h] at hp;have HP:=zh (KY (s.extract 0 128) 128 w oo (by rw [i0];omega));rw [hp] at HP;have hi:(s.size:Int)>128:=oo;clear hp;go_enter Tryz.func16,Tryz.ntmps16;go_wp2_with fail;refine HP.mono ?_;rintro e w1 ⟨rfl,rfl⟩;go_wp2_with fail;go_ret;exact ⟨rfl,rfl⟩
 . rw [if_neg h] at hp;have HP:=zh (KY s 128 w oo hs);rw [hp] at HP;have hi:¬(s.size:Int)>128:=oo;clear hp;go_enter Tryz.func16,Tryz.ntmps16;go_wp2_with fail;refine HP.mono ?_;rintro e w1 ⟨rfl,rfl⟩;go_wp2_with fail;go_ret;exact ⟨rfl,rfl⟩

structure Neat (D:Dev) (I:Img):Prop where
 clean:Clean D I
 fen:D.fen=λ_=>0
 fuse:D.fuse=none
theorem Neat.calm {D:Dev} {I:Img} (h:Neat D I) {sy:Int} (hs:1<=sy/\sy<=4):Calm D sy 0:=⟨h.clean.ok,h.clean.live,by unfold DA;exact iq ⟨hs.1,hs.2,oo,oo⟩,by rw [h.fen];show ¬(0:Int)<0;omega⟩
def PF (I:Img) (ws:List (Int × ByteArray)):Img:=if Ae I.n ws=0 then I.next ws else I
theorem Ni {D:Dev} {I:Img} {sy ep:Int} (h:Clean D I) (ws:List (Int × ByteArray)) (hr:I.N+1<4294967295) (h0:Ae I.n ws=0) (c:ws≠[]):
 Bk D sy ep ws=Bm sy ep (Cw (ID D (CS I.n ws) (nv (I.N+1))) (nv (I.N+1))) D/\(topI D).ok=true/\(∀k∈ksW (CS I.n ws),C5 D k)/\(topI D).ver+1#32=nv (I.N+1)/\(topI D).ver≠4294967295#32:=by
 have hn:D.st.length - 131=I.n:=by rw [h.len];omega
 have d:=E0 h sy ep
 have hv:(topI D).ver≠4294967295#32:=by
  rw [h.topI];intro hq;have:=ix BitVec.toNat hq;rw [show (Raw.mk (AM I.tops) (nv I.N) true).ver=nv I.N from rfl,Nc _ oo] at this;simp at this;omega
 have a:(topI D).ver+1#32=nv (I.N+1):=by rw [h.topI];exact Ve I.N
 have hm:∀k∈ksW (CS I.n ws),C5 D k:=λk hk=>by
  have b:=((CT _ k).1 hk).1;unfold C5;rw [h.topI,h.mapI k b];refine ⟨rfl,rfl,?_⟩;show nv (I.ms k)=fld (AM I.tops) k;unfold Img.tops;rw [PS _ _ b]
 refine ⟨?_,by rw [h.topI],hm,a,hv⟩;unfold Bk;rw [d,hn,if_neg qs,if_neg (by simp [h0,c]),a,if_neg (by rw [h.topI];simp),if_neg (by rw [Rn h.toHolds _ (λk hk=>((CT _ k).1 hk).1)];simp),if_neg hv]
section
variable {w0:World} {x s m:Nat} {sy:Int} {D:Dev} {I:Img} {out:Nat->Prop} {W:World}
theorem TI {ep:Int} (h:Held w0 x s m sy ep D out W) (a:Clean D I) (i:Calm D sy ep) (f:D.fuse=none) (hN:I.N<1000) (ws:List (Int × ByteArray)) (hl:ws.length<=1000000) (k:∀e∈ws,okI e.1) (A:Option Addr) (c:Nat) (j:ListAt W W.heap.size 2 A (ws.map B0)) (hA:ws≠[]->Et w0 out A):
 Calls Tryz.prog 80 #[ptrV s,.slice A ws.length c] W λe w'=>e=.returned (.int .i64 (Ae I.n ws))/\∃D',Done w0 x s m sy ep D' out W w'/\Clean D' (PF I ws)/\D'.fen=D.fen/\D'.fuse=none/\D'=(Bk D sy ep ws).1:=by
 have l:132<=D.st.length/\D.st.length<=1155:=by have:=a.len;have:=a.img.n0;have:=a.img.n1;omega
 have g:D.st.length - 131=I.n:=by rw [a.len];omega
 have hp:D.pend.length<=800000:=by rw [a.pend];simp
 have o:=E0 a sy ep;by_cases d:Ae I.n ws≠0\/ws=[]
 . refine (Rx h l hp D false o ws hl k A c j hA (by rw [g];exact d)).mono ?_;rintro e w' ⟨rfl,hd⟩;rw [g];refine ⟨rfl,D,hd,?_,rfl,f,?_⟩
   . have:PF I ws=I:=by
      unfold PF;split
      . rename_i h0;unfold Img.next;rw [if_pos (d.elim (λh9=>absurd h0 h9) id)]
      . rfl
     rw [this];exact a
   . rw [(Dy a i f ws oo).1 d]
 . have h0:Ae I.n ws=0:=jU.1 (λh9=>d (.inl h9));have b:ws≠[]:=λh9=>d (.inr h9);obtain ⟨q1,q2,q3,q4,q5⟩:=Ni (sy:=sy) (ep:=ep) a ws oo h0 b;obtain ⟨E,r1,r2,r3,r4⟩:=(Dy a i f ws oo).2 h0 b;refine (U3 h l hp D false o I.n g ws k A c j (hA b) h0 b q2 _ rfl q3 _ q4 q5).mono ?_;rintro e w' ⟨rfl,hd⟩;rw [<-q1,r1] at hd ⊢;refine ⟨by rw [h0],E,hd,?_,r3,r4,rfl⟩
   have:PF I ws=I.upd (CS I.n ws):=by
    unfold PF Img.next;rw [if_pos h0,if_neg b]
   rw [this];exact r2
theorem Rj (h:Held w0 x s m sy 0 D out W) (hs:1<=sy/\sy<=4) (hn:Neat D I) (hN:I.N<1000) (ws:List (Int × ByteArray)) (hl:ws.length<=1000000) (b:∀e∈ws,okI e.1) (A:Option Addr) (c:Nat) (a:ListAt W W.heap.size 2 A (ws.map B0)) (hA:ws≠[]->Et w0 out A):
 Calls Tryz.prog 80 #[ptrV s,.slice A ws.length c] W λe w'=>e=.returned (.int .i64 (Ae I.n ws))/\∃D',Done w0 x s m sy 0 D' out W w'/\Neat D' (PF I ws)/\D'=(Bk D sy 0 ws).1:=by
 refine (TI h hn.clean (hn.calm hs) hn.fuse hN ws hl b A c a hA).mono ?_;rintro e w' ⟨he,D',h1,h2,h3,h4,h5⟩;exact ⟨he,D',h1,⟨h2,h3.trans hn.fen,h4⟩,h5⟩
end

theorem Ro {w:World} {g t sz:Nat} {rows:List (List Value)} {cs:Array Value} (h:Blk w g t cs) (hc:cs=rows.flatten.toArray) (hr:∀r∈rows,r.length=sz):ListAt w w.heap.size sz (some ⟨g,0,none⟩) rows:=λ_=>⟨g,0,rfl,h.lt,λj cs' hj i u hi=>by
 subst hc
 rw [h.cell,kF,getElem?_toArray]
 exact Jr hr j i cs' u hj hi⟩

end
section
open Go.RowKit
def H8 (s:ByteArray):Nat:=(Dn (s.extract 128 132)).toNat
theorem E3 (d:ByteArray) (v:Nat) (i:Int) (hv:v<4294967296):H8 (Ak d (nv v) i)=v:=by
 obtain ⟨_,_,_,h4,_⟩:=OT d (nv v) i;unfold H8;rw [h4,Gx,Nc v hv]
theorem Mu:H8 blankR=0:=by
 unfold H8;rw [Rb 128 oo];rfl
theorem Ri (D:Dev) (hl:D.old.length=D.st.length) (i:Nat) (s:ByteArray) (hi:i<D.st.length) (j:Nat):(AR D i s).olds j=if j=i/\D.at i≠s then (D.at i::D.olds i).take 8 else D.olds j:=by
 unfold AR;by_cases h:D.at i=s
 . rw [if_pos h,if_neg (λh9=>h9.2 h)]
 . rw [if_neg h];unfold Dev.olds;show (D.old.set i ((D.at i::D.old.getD i []).take 8)).getD j []=_;rw [iu,kD];by_cases hj:j=i
   . subst hj;rw [if_pos rfl,if_pos oo,if_pos ⟨rfl,h⟩];rfl
   . rw [if_neg (λe=>hj e.symm),if_neg (λe=>hj e.1),iu]
theorem eQ (D:Dev) (i:Nat) (s:ByteArray):(AR D i s).old.length=D.old.length:=by unfold AR;split<;>simp
theorem FC (l:Wl):∀D:Dev,D.old.length=D.st.length->okW D l->(l.map (·.1)).Nodup->∀i,∀t∈(B8 D l).olds i,t∈D.olds i\/(t=D.at i/\∃s,Ad l i=some s):=by
 induction l with
 | nil=>intro D _ _ _ i t ht;exact .inl ht
 | cons e l ih=>
   intro D hl a hn i t ht;rw [map_cons,nodup_cons] at hn;have h1:=(a e (jA ..)).1;have hE:Ad (e::l) i=match Ad l i with
    | some s=>some s
    | none=>if i=e.1 then some e.2 else none:=rfl
   rcases ih (AR D e.1 e.2) (by rw [eQ,C9];exact hl) (λx hx=>by rw [C9];exact a x (iz _ hx)) hn.2 i t ht with h9 | ⟨h9,s,h8⟩
   . rw [Ri D hl e.1 e.2 h1] at h9;by_cases hi:i=e.1/\D.at e.1≠e.2
     . rw [if_pos hi] at h9;rcases jh.1 (jw h9) with h7 | h7
       . refine .inr ⟨by rw [h7,hi.1],?_⟩;rw [hE,if_pos hi.1];cases Ad l i with
         | some s=>exact ⟨s,rfl⟩
         | none=>exact ⟨_,rfl⟩
       . exact .inl (by rw [hi.1];exact h7)
     . rw [if_neg hi] at h9;exact .inl h9
   . have b:i≠e.1:=λh7=>by
      rw [CW l i (λx hx hq=>hn.1 (by rw [<-h7,<-hq];exact List.mem_map_of_mem hx))] at h8;cases h8
     rw [ND D e.1 e.2 h1,if_neg b] at h9;exact .inr ⟨h9,s,by rw [hE,h8]⟩
structure Hist (D:Dev) (I:Img):Prop where
 clean:Clean D I
 N1:1<=I.N
 olds:∀i,i≠33->∀s∈D.olds i,H8 s<H8 (D.at i)
 slot:∀j,j<97->H8 (D.at (34+j))<=I.N
 head:∀s∈D.olds 33,s=blankR\/∃(l:Wl) (v:Nat),s=GE l (nv v)/\Entries D.st.length l (nv v)/\v<=I.N/\(v=I.N->(∀j (hj:j<l.length),D.at (34+j)=l[j].2)/\∀e∈l,D.at e.1=e.2)
theorem Z5 {D:Dev} {I:Img} (h:Holds D I):H8 (D.at 0)=I.N:=by rw [h.top];exact E3 _ _ _ h.img.N
theorem ZJ {D:Dev} {I:Img} (h:Holds D I) (k:Nat) (hk:k<32):H8 (D.at (1+k))=I.ms k:=by rw [h.map k hk];exact E3 _ _ _ (by have:=h.img.ms k;have:=h.img.N;omega)
theorem aq {D:Dev} {I:Img} (h:Holds D I) (i:Nat) (hi:i<I.n):H8 (D.at (131+i))=I.vs i:=by rw [h.dat i hi];exact E3 _ _ _ (by have:=h.img.vs i;have:=h.img.N;omega)
theorem eA {D:Dev} {I:Img} (h:Hist D I) (i:Nat) (hi:i≠33) (hl:i<D.st.length):H8 (D.at i)<=I.N:=by
 have a:=h.clean.len;by_cases h0:i=0
 . subst h0;rw [Z5 h.clean.toHolds];omega
 by_cases h1:i<=32
 . have:=ZJ h.clean.toHolds (i - 1) oo;rw [show 1+(i - 1)=i from oo] at this;rw [this];exact h.clean.img.ms _
 by_cases h2:i<131
 . have:=h.slot (i - 34) oo;rwa [show 34+(i - 34)=i from oo] at this
 . have:=aq h.clean.toHolds (i - 131) oo;rw [show 131+(i - 131)=i from oo] at this;rw [this];exact h.clean.img.vs _
theorem Fl:∀(l:Wl) (i:Nat) (s:ByteArray),Ad l i=some s->(i,s)∈l:=by
 intro l
 induction l with
 | nil=>intro i s h;cases h
 | cons x l ih=>
   intro i s h;have hE:Ad (x::l) i=match Ad l i with
    | some s=>some s
    | none=>if i=x.1 then some x.2 else none:=rfl
   rw [hE] at h;cases h2:Ad l i with
   | some t=>
     rw [h2] at h;injection h with h;exact iz _ (ih i s (by rw [h2,h]))
   | none=>
     rw [h2] at h;simp only [] at h;split at h
     . rename_i hi;injection h with h;rw [hi,<-h];exact jA ..
     . cases h
theorem Wm {n:Nat} {l:Wl} {v:Nat} (h:Entries n l (nv v)) (hv:v<4294967296) (e:Nat × ByteArray) (he:e∈l):H8 e.2=v:=by
 obtain ⟨d,hd⟩:=h.pack e he;rw [hd];exact E3 _ _ _ hv
theorem XJ (V:ByteArray->Nat) {D D1 D2 D3 D4:Dev} {l:Wl} {N n:Nat} {hd bl:ByteArray} (hn:131<=n) (m:l.length<=97)
 (d:∀i,D1.at i=if h:34<=i/\i<34+l.length then (l[i - 34]'oo).2 else D.at i) (b:∀i,D2.at i=if i=33 then hd else D1.at i) (f:∀i,D3.at i=(Ad l i).getD (D2.at i)) (g:∀i,D4.at i=if i=33 then bl else D3.at i)
 (o1:∀i t,t∈D1.olds i->t∈D.olds i\/(t=D.at i/\34<=i/\i<34+l.length)) (o2:∀i t,t∈D2.olds i->t∈D1.olds i\/(t=D1.at i/\i=33)) (o3:∀i t,t∈D3.olds i->t∈D2.olds i\/(t=D2.at i/\∃s,Ad l i=some s)) (o4:∀i t,t∈D4.olds i->t∈D3.olds i\/(t=D3.at i/\i=33))
 (c:∀i s,Ad l i=some s->V s=N+1/\(i<=32\/(131<=i/\i<n))) (e:∀j (hj:j<l.length),V l[j].2=N+1) (a:∀i,i≠33->i<n->V (D.at i)<=N) (hO:∀i,i≠33->∀t∈D.olds i,V t<V (D.at i)):
 (∀i,i≠33->∀t∈D4.olds i,V t<V (D4.at i))/\(∀j,j<97->V (D4.at (34+j))<=N+1):=by
 constructor
 . intro i hi t ht;have h4:=(o4 i t ht).resolve_right (λh9=>hi h9.2);rw [g,if_neg hi,f];rcases o3 i t h4 with h3 | ⟨h3,s,hs⟩
   . have h2:=(o2 i t h3).resolve_right (λh9=>hi h9.2);rcases o1 i t h2 with h1 | ⟨h1,c1,c2⟩
     . have hb:=hO i hi t h1;cases hq:Ad l i with
       | some s=>
         obtain ⟨hx,k⟩:=c i s hq;show V t<V s;have:=a i hi oo;omega
       | none=>
         show V t<V (D2.at i);rw [b,if_neg hi,d];split
         . rename_i hc;have:=e (i - 34) oo;have:=a i hi oo;omega
         . exact hb
     . cases hq:Ad l i with
       | some s=>
         obtain ⟨hx,k⟩:=c i s hq;omega
       | none=>
         show V t<V (D2.at i);rw [b,if_neg hi,d,dif_pos ⟨c1,c2⟩];have:=e (i - 34) oo;have:=a i hi oo;rw [h1];omega
   . rw [hs];obtain ⟨hx,k⟩:=c i s hs;show V t<V s;have hb:=a i hi oo;rw [h3,b,if_neg hi,d,dif_neg oo];omega
 . intro j hj;rw [g,if_neg oo,f];cases hq:Ad l (34+j) with
   | some s=>
     obtain ⟨hx,_⟩:=c _ s hq;show V s<=N+1;omega
   | none=>
     show V (D2.at (34+j))<=_;rw [b,if_neg oo,d];split
     . rename_i hc;have:=e (34+j - 34) oo;omega
     . have:=a (34+j) oo oo;omega
theorem R0 {D:Dev} {I:Img} {l:Wl} (h:Hist D I) (he:Entries D.st.length l (nv (I.N+1))) (hN:I.N+1<4294967296) {J:Img} (hJ:Clean (ph4 D l (nv (I.N+1))) J) (b:J.N=I.N+1):Hist (ph4 D l (nv (I.N+1))) J:=by
 have a:=h.clean.ok;obtain ⟨k1,k2,k3,k4⟩:=MQ (v:=nv (I.N+1)) a he;obtain ⟨l1,l2,l3,l4⟩:=K3 (v:=nv (I.N+1)) a he;have p:=he.low;have q:=he.lim;have m:∀e∈l,H8 e.2=I.N+1:=λe hm=>Wm he hN e hm;obtain ⟨v,hv⟩:∃v,nv (I.N+1)=v:=⟨_,rfl⟩;have d:∀i,(ph1 D l).at i=if h:34<=i/\i<34+l.length then (l[i - 34]'oo).2 else D.at i:=λi=>cN he i;have f:∀i,(ph2 D l (nv (I.N+1))).at i=if i=33 then GE l (nv (I.N+1)) else (ph1 D l).at i:=λi=>bJ a he i;have c:∀i,(ph3 D l (nv (I.N+1))).at i=(Ad l i).getD ((ph2 D l (nv (I.N+1))).at i):=λi=>Yw a he i;have g:∀i,(ph4 D l (nv (I.N+1))).at i=if i=33 then blankR else (ph3 D l (nv (I.N+1))).at i:=λi=>UI a he i
 have one:∀(s:ByteArray) i,(∃t,Ad [(33,s)] i=some t)->i=33:=λs i ⟨t,ht⟩=>by
  have:=Fl _ _ _ ht;rw [ia] at this;injection this with h1 _
 have o1:∀i t,t∈(ph1 D l).olds i->t∈D.olds i\/(t=D.at i/\34<=i/\i<34+l.length):=λi t ht=>by
  rcases FC _ D a.len (I2 he) (Kf l) i t ht with h9 | ⟨h9,s,hs⟩
  . exact .inl h9
  . obtain ⟨j,hj,x⟩:=Jc l _ (Fl _ _ _ hs);injection x with hj1 hj2;exact .inr ⟨h9,oo,oo⟩
 have o2:∀i t,t∈(ph2 D l (nv (I.N+1))).olds i->t∈(ph1 D l).olds i\/(t=(ph1 D l).at i/\i=33):=λi t ht=>
  (FC _ (ph1 D l) k1.ok.len (GL oo _ (Bc ..)) qs i t ht).imp id (λh9=>⟨h9.1,one _ i h9.2⟩)
 have o3:∀i t,t∈(ph3 D l (nv (I.N+1))).olds i->t∈(ph2 D l (nv (I.N+1))).olds i\/(t=(ph2 D l (nv (I.N+1))).at i/\∃s,Ad l i=some s):=λi t ht=>FC _ (ph2 D l (nv (I.N+1))) k2.ok.len (λe hm=>by rw [l2];exact he.lt e hm) he.nodup i t ht;have o4:∀i t,t∈(ph4 D l (nv (I.N+1))).olds i->t∈(ph3 D l (nv (I.N+1))).olds i\/(t=(ph3 D l (nv (I.N+1))).at i/\i=33):=λi t ht=>
  (FC _ (ph3 D l (nv (I.N+1))) k3.ok.len (GL oo _ EJ) qs i t ht).imp id (λh9=>⟨h9.1,one _ i h9.2⟩)
 have r:∀i s,Ad l i=some s->H8 s=I.N+1:=λi s hs=>m (i,s) (Fl l i s hs);have o:=XJ H8 (N:=I.N) (n:=D.st.length) p q d f c g o1 o2 o3 o4 (λi s hs=>⟨r i s hs,he.place (i,s) (Fl l i s hs)⟩) (λj hj=>m _ (ib hj)) (λi h1 h2=>eA h i h1 h2) h.olds;have k:∀i,33<=i->i<131->Ad l i=none:=λi h1 h2=>CW _ _ (λe hm hq=>by rcases he.place e hm with h9 | h9<;>omega);refine ⟨hJ,by rw [b];exact Nat.le_add_left _ _,o.1,λj hj=>by rw [b];exact o.2 j hj,λt ht=>?_⟩
 have u:∀j (hj:j<l.length),(ph4 D l (nv (I.N+1))).at (34+j)=l[j].2:=λj hj=>by
  rw [g,if_neg oo,c,k _ oo oo];show (ph2 D l (nv (I.N+1))).at (34+j)=_;rw [f,if_neg oo,d,dif_pos ⟨Nat.le_add_right _ _,Nat.add_lt_add_left hj _⟩];simp only [Nat.add_sub_cancel_left]
 have w:∀e∈l,(ph4 D l (nv (I.N+1))).at e.1=e.2:=λe hm=>by
  have hp:=he.place e hm;rw [g,if_neg oo,c,Ev l he.nodup e hm];rfl
 rcases o4 33 t ht with h4 | ⟨h4,_⟩
 . rcases o3 33 t h4 with h3 | ⟨_,s,hs⟩
   . rcases o2 33 t h3 with h2 | ⟨h2,_⟩
     . rcases o1 33 t h2 with h1 | ⟨_,h9,_⟩
       . rcases h.head t h1 with h9 | ⟨l',v',h1,h2,h3,_⟩
         . exact .inl h9
         . exact .inr ⟨l',v',h1,by rw [l4];exact h2,by rw [b];exact Nat.le_succ_of_le h3,λh9=>by rw [b] at h9;rw [h9] at h3;exact absurd h3 (Nat.not_succ_le_self _)⟩
       . exact absurd h9 qd
     . left;rw [h2,d,dif_neg (λh9=>absurd h9.1 qd)];exact h.clean.head
   . rw [k 33 qd qd] at hs;cases hs
 . right;refine ⟨l,I.N+1,?_,by rw [l4];exact he,by rw [b];exact iX _,λ_=>⟨u,w⟩⟩;rw [h4,c,k 33 qd qd];show (ph2 D l (nv (I.N+1))).at 33=_;rw [f,if_pos rfl]

theorem VX (n i:Nat) (hi:i<n):(EQ n).at i=blankR:=by
 unfold Dev.at EQ;rw [iu,kL,if_pos hi];rfl
theorem Yp (n i:Nat):(EQ n).olds i=[]:=by
 unfold Dev.olds EQ;rw [iu,kL];split<;>rfl
theorem dm (n:Nat) (e:Nat × ByteArray) (he:e∈FN n) (a:e.1≠33):H8 e.2=1:=by
 unfold FN at he;rcases ip.1 he with he | he
 . obtain ⟨i,_,rfl⟩:=ie.1 he;exact E3 _ 1 _ qd
 rcases ip.1 he with he | he
 . obtain ⟨i,_,rfl⟩:=ie.1 he;exact E3 _ 1 _ qd
 . simp only [jh,not_mem_nil,or_false] at he;rcases he with rfl | rfl
   . exact E3 _ 1 _ qd
   . exact absurd rfl a
theorem V1 (n:Nat) (e:Nat × ByteArray) (he:e∈FN n):e.1<=33\/131<=e.1:=by
 unfold FN at he;rcases ip.1 he with he | he
 . obtain ⟨i,_,rfl⟩:=ie.1 he;right;show 131<=131+i;omega
 rcases ip.1 he with he | he
 . obtain ⟨k,hk,rfl⟩:=ie.1 he;have:=jB.1 hk;left;show 1+k<=33;omega
 . simp only [jh,not_mem_nil,or_false] at he;rcases he with rfl | rfl
   . left;show 0<=33;omega
   . left;show 33<=33;omega
theorem aZ {n:Nat} (h1:1<=n) (h2:n<=1024) {E:Dev} (hE:GT (EQ (131+n)) 1 0=(E,0)) (hc:Clean E (KO n)):Hist E (KO n):=by
 have a:(EQ (131+n)).st.length=131+n:=by unfold EQ;simp
 have b:Calm (EQ (131+n)) 1 0:=⟨QE _ oo oo,rfl,by unfold DA;decide,by show ¬(0:Int)<0;omega⟩;have hw:=aI a;have f:=Fo 1 0 (FN n) (EQ (131+n)) b rfl rfl hw;unfold GT II at hE;rw [b.plain,iq (show 132<=(EQ (131+n)).st.length/\(EQ (131+n)).st.length<=1155 from oo),if_neg qs,a,show 131+n - 131=n from oo,f] at hE;injection hE with hE _;subst hE;have c:∀i,(B8 (EQ (131+n)) (FN n)).at i=(Ad (FN n) i).getD ((EQ (131+n)).at i):=G9 _ _ hw;have g:=FC (FN n) (EQ (131+n)) b.ok.len hw (SZ n)
 have hb:∀i,∀t∈(B8 (EQ (131+n)) (FN n)).olds i,t=blankR/\∃s,Ad (FN n) i=some s:=λi t ht=>by
  rcases g i t ht with h9 | ⟨h9,s,hs⟩
  . rw [Yp] at h9;cases h9
  . have d:=(hw _ (Fl _ _ _ hs)).1;rw [a] at d;exact ⟨by rw [h9,VX _ _ d],s,hs⟩
 refine ⟨hc,iX 1,λi hi t ht=>?_,λj hj=>?_,λt ht=>.inl (hb 33 t ht).1⟩
 . obtain ⟨h9,s,hs⟩:=hb i t ht;have hv:H8 s=1:=dm n (i,s) (Fl _ _ _ hs) hi;rw [c,hs,h9,Mu];show 0<H8 s;rw [hv];exact Nat.zero_lt_one
 . have h:Ad (FN n) (34+j)=none:=CW _ _ (λe he hq=>by rcases V1 n e he with h9 | h9<;>omega);rw [c,h];show H8 ((EQ (131+n)).at (34+j))<=1;rw [VX _ _ oo,Mu];exact jL _
theorem V5 {D:Dev} {I:Img} (h:Hist D I) (hn:Neat D I) {sy:Int} (hs:1<=sy/\sy<=4) (fl:List (Int × ByteArray)) (c:Ae I.n fl=0) (hN:I.N<1000):Hist (Bk D sy 0 fl).1 (I.next fl)/\Neat (Bk D sy 0 fl).1 (I.next fl):=by
 have a:=hn.clean;by_cases b:fl=[]
 . have hx:I.next fl=I:=if_pos b;rw [hx,(Dy a (hn.calm hs) hn.fuse fl oo).1 (.inr b)];exact ⟨h,hn⟩
 . have hx:I.next fl=I.upd (CS I.n fl):=if_neg b;obtain ⟨q1,q2,q3,q4,q5⟩:=Ni (sy:=sy) (ep:=0) a fl oo c b;have ht:=S0 I fl c b oo;obtain ⟨r1,r2,r3,r4⟩:=J1 a ht (hn.calm hs) hn.fuse;have he:=Vo a.img ht;rw [<-a.len] at he;rw [q1,Vn a.toHolds ht,r1,hx];exact ⟨R0 h he oo r2 rfl,r2,r3.trans hn.fen,r4⟩

end
end Go.Proofs.YtmcgbdemcknkaaaGreatDoor
