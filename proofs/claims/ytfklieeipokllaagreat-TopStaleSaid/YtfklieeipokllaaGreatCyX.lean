/- Parts of the proof (packed), 24. -/
import Derived.Test.YtfklieeipokllaaGreatCyW
namespace Go.Proofs.YtfklieeipokllaaGreat
set_option linter.all false
set_option maxRecDepth 100000
set_option maxHeartbeats 16000000
open List
section
attribute [local go_sem ↓] Go.wp_at_zero Go.wp_at_succ
open Go.RowKit
theorem IH (k:Nat) (hk:k<256) (w:World):Calls Tryz.prog 28 #[.int .u8 (k:Int)] w λe w'=>e=.returned (.agg #[.int .i64 (Ha k),.int .i64 0])/\Grew w w':=by
 obtain ⟨r,hr⟩:∃r:Nat,k % 3=r:=⟨_,rfl⟩;have b:r<3:=oo;have a:(k:Int) % 3=(r:Int):=oo;have c:Int.tmod (k:Int) 3=(r:Int):=by rw [jI oo];exact a
 have hs:Ha k=1+(r:Int):=by unfold Ha;rw [hr]
 have d:IntKind.u8.wrap (r:Int)=(r:Int):=IntWalk.u8_in _ oo;have f:IntKind.i64.wrap (r:Int)=(r:Int):=gy _ oo;have g:IntKind.i64.wrap (1+(r:Int))=1+(r:Int):=gy _ oo;rw [hs];clear hr hs;go_enter Tryz.func28,Tryz.ntmps28;go_wp2_with fail;refine f7 (by first | (simp [*,results,Tryz.results28,go_sem];rfl) | simp [*,results,Tryz.results28,go_sem]) rfl ?_;exact ⟨rfl,gG⟩
def UF:ByteArray:=⟨#[86,79,76]⟩
theorem Te:Cj UF=true:=by decide+kernel
def Ob (k:Nat):Nat:=8+k % 9
theorem Vs (k:Nat):okT (Ob k:Int)=true:=by unfold okT Ob;exact gD oo
theorem IU (k:Nat) (hk:k<256) (T:Tab) (hT:Nm UF (Ob k:Int)=(T,0)) (hg:GoodT T) (ht:T.tracks=(Ob k:Int)) (hz:∀i (h:i<(AP T).length),0<i->(AP T)[i]=Ay 128) (w:World):
 Calls Tryz.prog 8 #[.int .u8 (k:Int)] w λe w'=>∃x E I,e=.returned (.tuple #[ptrV x,.bool true])/\VGood E I T (Ob k)/\I.N=2/\Live w x E (λ_=>False) w':=by
 obtain ⟨r,hr⟩:∃r:Nat,k % 9=r:=⟨_,rfl⟩;have l:r<9:=oo;have g:(k:Int) % 9=(r:Int):=oo;have m:Int.tmod (k:Int) 9=(r:Int):=by rw [jI oo];exact g
 obtain ⟨n,hn⟩:∃n,Ob k=n:=⟨_,rfl⟩;have b:(n:Int)=8+(r:Int):=by rw [<-hn];unfold Ob;rw [hr];omega
 have o:IntKind.u8.wrap (r:Int)=(r:Int):=IntWalk.u8_in _ oo;have p:IntKind.i64.wrap (r:Int)=(r:Int):=gy _ oo;have q:IntKind.i64.wrap (8+(r:Int))=8+(r:Int):=gy _ oo;have a:=Vs k;rw [hn] at a hT ht ⊢;have c:=zh (RW n a w);rw [b] at c;have d:=zh (λ(x:Nat) (w1:World) (hl:Live w x (ES (131+8*n)) (λ_=>False) w1)=>SS hl a UF Te T hT hg ht hz);unfold UF at d;clear hr hn a hT hg ht hz;go_enter Tryz.func8,Tryz.ntmps8;go_wp2_with fail;refine c.mono ?_;rintro e w1 ⟨x,rfl,hl⟩;have HL:=zh hl;clear hl b;go_wp2_with fail;refine (IH 0 oo _).mono ?_;rintro e w2 ⟨rfl,g2⟩;have j:=zh (HL.grew g2);clear g2;rw [show Ha 0=1 from rfl];go_wp2_with fail;refine (d x _ j).mono ?_;rintro e w3 ⟨rfl,E,I,hv,hN,f,_⟩;have HR:=zh (show VGood E I T n/\I.N=2/\Live w x E (λ_=>False) w3 from ⟨hv,hN,f⟩);clear hv hN f;go_wp2_with fail;go_ret2;exact ⟨x,E,I,rfl,HR⟩
theorem DY {w0:World} {x n:Nat} {D:Dev} {out:Nat->Prop} {W:World} {I:Img} {T:Tab} (h:Live w0 x D out W) (hg:VGood D I T n) (k:Nat) (hk:k<256):
 Calls Tryz.prog 9 #[ptrV x,.int .u8 (k:Int)] W λe w'=>∃s m v out',e=.returned (.tuple #[ptrV v,.bool true])/\Mounted w0 x n (Ha k) 0 D out W s m v out' w':=by
 have hs:=Vw k;obtain ⟨h1,h2,_⟩:=okN hg.okn
 have hf:IG D (Ha k) 0=true:=by
  unfold IG DA;rw [gD (by rw [hg.len];omega),gD ⟨hs.1,hs.2,oo,oo⟩];rfl
 have hp:D.pend.length<=980000:=by rw [hg.neat.clean.pend];simp
 have HM:=zh (λ(w1:World) (g1:Grew W w1)=>Tz (h.grew g1) hg.okn hg.len hp hs (by omega:(0:Int)<=0/\(0:Int)<=1099511627776) D D T (Lq hg.neat.clean _ _ hf) hg.len hp (hg.table (Ha k) 0));clear h hg hs h1 h2 hf hp;go_enter Tryz.func9,Tryz.ntmps9;go_wp2_with fail;refine (IH k hk _).mono ?_;rintro e w1 ⟨rfl,g1⟩;have HG:=zh g1;clear g1;go_wp2_with fail;refine (HM _ HG).mono ?_;rintro e w2 ⟨s,m,v,o,rfl,hm⟩;have hz:=HG.size;have HR:=zh (show Mounted w0 x n (Ha k) 0 D out W s m v o w2 from ⟨hm.held,hm.sub,⟨fx hz hm.news.1,fx hz hm.news.2.1,fx hz hm.news.2.2⟩,(HG.turned _).trans hm.beside,hm.vol.mono λq hq=>⟨fx hz hq.1,hq.2⟩⟩);clear hm hz;go_wp2_with fail;go_ret2;exact ⟨s,m,v,o,rfl,HR⟩

theorem VHeld.beside {w0:World} {x s m v:Nat} {n sy ep:Int} {D D':Dev} {o o':Nat->Prop} {W W':World} (h:VHeld w0 x s m v n sy ep D o W) (hl:Live w0 x D' o' W') (hs:∀k,o k->o' k) (hb:Beside w0 o W W'):VHeld w0 x s m v n sy ep D' o' W':=
 ⟨⟨hl,h.held.store.kept hb (λh9=>h9.2 h.held.os) (λh9=>h9.2 h.held.om),hs _ h.held.os,hs _ h.held.om,h.held.m0⟩,hs _ h.ov,h.v0,h.vol.turned hb (λh9=>h9.2 h.ov) (λk hk h9=>hk.1.elim (λh8=>by have:=h9.1;omega) h9.2) (λk hk=>hk.mono hs)⟩
theorem VHeld.other {w0:World} {x s m v s2 m2 v2:Nat} {n sy ep sy2 ep2:Int} {D D':Dev} {o o':Nat->Prop} {W W':World} (h:VHeld w0 x s2 m2 v2 n sy2 ep2 D o W) (hd:VDid w0 x s m v n sy ep D' o W o' W') {lo:Nat} (hv:VolM W v2 s2 n (λk=>lo<=k/\Far w0 o m2 v2 k)) (a:m<lo/\v<lo/\lo<=s2/\lo<=m2/\lo<=v2):VHeld w0 x s2 m2 v2 n sy2 ep2 D' o' W':=by
 have b:∀k,o k->lo<=k->¬VSet w0 o m v k:=λk h1 h2 h9=>by
  rcases h9 with h9 | h9 | h9
  . exact h9.2 h1
  . omega
  . omega
 refine ⟨⟨hd.held.held.live,h.held.store.kept hd.turned (b _ h.held.os a.2.2.1) (b _ h.held.om a.2.2.2.1),hd.sub _ h.held.os,hd.sub _ h.held.om,h.held.m0⟩,hd.sub _ h.ov,h.v0,hv.turned hd.turned (b _ h.ov a.2.2.2.2) (λk hk h9=>?_) (λk hk=>hk.2.mono hd.sub)⟩;rcases h9 with h9 | h9 | h9
 . exact hk.2.1.elim (λh8=>oo) h9.2
 . have:=hk.1;omega
 . have:=hk.1;omega
theorem Cb (w:World):Calls Tryz.prog 5 #[] w λe w'=>e=.returned (.bool true)/\Grew w w':=by
 obtain ⟨T,hT,hg,ht,hz⟩:=Su UF 8 qd Te
 have D:T=exT:=by
  have:=eD;unfold UF at hT;rw [show (((8:Nat):Int))=8 from rfl] at hT;rw [this] at hT;injection hT with h1 _;exact h1.symm
 subst D;have h:=zh (IU 0 oo exT hT hg ht hz w);rw [show Ob 0=8 from rfl] at h;clear hT hg ht hz;go_enter Tryz.func5,Tryz.ntmps5;go_wp2_with fail;refine h.mono ?_;rintro e w1 ⟨x,E,I,rfl,hv,hN,hl⟩;have HV:=zh hv;have HN:=zh hN;have HL:=zh hl;clear hv hN hl h;go_wp2_with fail;refine (DY HL HV 0 oo).mono ?_;rintro e w2 ⟨s,m,v,o1,rfl,y⟩;have c:=zh y;clear y;rw [show Ha 0=1 from rfl] at c;go_wp2_with fail;refine (DY c.held.held.live HV 1 oo).mono ?_;rintro e w3 ⟨s2,m2,v2,o2,rfl,a⟩;rw [show Ha 1=2 from rfl] at a;have f:=zh a;have F:=zh (c.held.beside a.held.held.live a.sub a.beside);clear a;go_wp2_with fail;refine (Sf FT w3 qd).mono ?_;rintro e w4 ⟨rfl,rfl⟩;obtain ⟨D',I',A,B,C⟩:=Zf HV HN;have i:=zh B;have G:=zh C;have d:Grew w3 ((w3.alloc (.cells #[.int .i64 5,.int .i64 2] 32)).alloc (.cells #[.int .i64 3,.string (BE FT)] 65)):=((fh w3).alloc _).alloc _;have j:=fy (w3.alloc (.cells #[.int .i64 5,.int .i64 2] 32)) 65 #[.int .i64 3,.string (BE FT)] (n:=w3.heap.size+1) qs;have l:=(fy w3 32 #[.int .i64 5,.int .i64 2] rfl).alloc (.cells #[.int .i64 3,.string (BE FT)] 65);obtain ⟨w5,p⟩:∃w5,w5=(w3.alloc (.cells #[.int .i64 5,.int .i64 2] 32)).alloc (.cells #[.int .i64 3,.string (BE FT)] 65):=⟨_,rfl⟩;have H:w5.heap.size=w3.heap.size+2:=by rw [p];simp
 go_wp2_with fail;rw [<-p] at d j l ⊢;clear p;have J:=zh l;have q:=c.held.held.store.lt.2;have r:=c.held.vol.lt;have K:w2.heap.size<=w3.heap.size:=f.beside.size;have L:=zh (F.more d);have M:=zh (show 132<=E.st.length/\E.st.length<=1155 from by rw [HV.out.len];omega)
 have t:=zh (MA L M (by rw [HV.out.neat.clean.pend];simp) HV.okn (λE' h1 _=>by
  rw [HV.out.table 1 0] at h1
  subst h1
  exact Gl HV.neat (by rw [HN.out];omega) oo) 5 2 ⟨#[65]⟩ ⟨#[]⟩ qd qd 1 (by unfold okI;omega) exW qd (λe he=>by unfold exW at he;rw [fp.1 he];unfold okI;simp) (some ⟨w3.heap.size+1,0,none⟩) 1 (R1 j rfl qd) (λ_ b off e=>by
   injection e with e
   injection e with e _ _
   subst e
   exact ⟨.inr (.inr ⟨Nat.le_succ _,oo⟩),oo,oo⟩) D' 0 A)
 rw [show exW.length=1 from rfl] at t;have N:=zh (f.held.more d);have O:=zh (f.vol.turned (d.turned (λ_=>False)) id (λ_ _=>id) (λk hk=>(show w2.heap.size<=k/\Far w (λk=>o2 k\/(w3.heap.size<=k/\k<w5.heap.size)) m2 v2 k from ⟨hk.1,hk.2.mono λ_=>.inl⟩)));have u:=zh (show m<w2.heap.size/\v<w2.heap.size/\w2.heap.size<=s2/\w2.heap.size<=m2/\w2.heap.size<=v2 from ⟨q,r,f.news⟩);clear A B C d j l q r;refine t.mono ?_;rintro e w6 ⟨rfl,o6,g⟩;have U:=zh g;have P:=zh (N.other g O u)
 have o:=zh (J.turned g.turned (λh9=>by
  have:=u.out
  rcases h9 with h9 | h9 | h9
  . exact h9.2 (.inr ⟨fk _,oo⟩)
  . omega
  . omega))
 have Q:=zh (show 132<=D'.st.length/\D'.st.length<=1155 from by rw [i.out.len];omega);have R:=zh (I6 P Q (by rw [i.out.neat.clean.pend];simp) i.okn 5 2 3 (by unfold okI;omega) D' (BE FT) 0 G);have r0:=o.cell 0;have r1:=o.cell 1;have rl:=o.out.lt;clear g H K;go_wp2_with fail;refine R.mono ?_;rintro e w7 ⟨rfl,o7,z⟩;have S:=zh z.held.held.live.base;clear z r0 r1 rl;have V:((BE FT).toList==(BE FT).toList)=true:=beq_self_eq_true _;go_wp2_with fail;go_ret;exact ⟨rfl,S⟩

theorem OP {w0:World} {x:Nat} {D:Dev} {out:Nat->Prop} {W:World} (h:Live w0 x D out W) (first i:Nat) (hr:first<=i) (cs:D.st.length=i+1) (cr:D.st.length<=1155) (hs:List HarmD) (A:Option Addr) (c:Nat) (a4:HarmsAt w0 w0.heap.size A hs) (hn:hs.length<=30):
 Calls Tryz.prog 12 #[ptrV x,.slice A hs.length c,.int .i64 (first:Int)] W λe w'=>∃D' H,e=.returned (.tuple #[])/\RH first i false D hs=(D',H)/\Live w0 x D' out w'/\Beside w0 out W w'/\Harmed first i false D D' H:=by
 have b2:=@run_makeMap Tryz.prog;have R:Grew W (W.alloc (.map #[] 0)):=(fh W).alloc _;have b3:Hid (MapI (W.alloc (.map #[] 0)) W.heap.size (hF [])):=zh ((MapIs.made _ rfl).congr (λa=>rfl));have b4:=zh ((h.more R).few (out':=λq=>out q\/q=W.heap.size) (λq hq=>hq.elim .inl (λh9=>.inr ⟨oo,by rw [h9];simp⟩)));have b5:Hid (Beside w0 out W (W.alloc (.map #[] 0))):=zh (R.turned _);have b6:=zh (Harmed.refl first i false h.ok);have b9:=zh h.ok;have S:=zh a4;have ca:=zh h.base.size;obtain ⟨m,hm⟩:∃m,i - first=m:=⟨_,rfl⟩;have cb:i=first+m:=oo;subst cb;have cu:m<=1154/\first<=1154:=oo;clear h a4 R hm hr;go_enter Tryz.func12,Tryz.ntmps12;go_wp2_with fail;clear b2
 go_loopg [14] hs.length (λgk i' wr=>∃(k:Nat) (D1:Dev) (H1:List Nat),k<=hs.length/\gk=hs.length - k/\i'=.int .i64 k/\RH first (first+m) false D (hs.take k)=(D1,H1)/\Harmed first (first+m) false D D1 H1/\MapI wr W.heap.size (hF H1)/\Live w0 x D1 (λq=>out q\/q=W.heap.size) wr/\Beside w0 out W wr)
 case atStart=>exact ⟨0,D,[],oo,oo,rfl,rfl,b6,b3,b4,b5⟩
 case round=>
  obtain ⟨k,D1,H1,hk,bt,rfl,hp,hh,bv,bw,bx⟩:=hrel;have T:=zh bt;have HP:=zh hp;have HH:=zh hh;have HM:=zh bv;have HL:=zh bw;have HB:=zh bx;clear bt hp hh bv bw bx;by_cases a1:k<hs.length
  . have cv:(k:Int)<(hs.length:Int):=oo;have a5:=S.2.keep (fk _) HL.base;obtain ⟨b,d3,rfl,d4,c0,c1,c2,c3⟩:=de ⟨S.1,a5⟩ a1;have cw:w0.heap.size<=wr.heap.size:=HL.base.size;have U:=S.1 _ (fq a1);have g:=UC first (first+m) false D hs k a1;rw [HP.out] at g;have j:=Yf b9 (Nat.le_add_right first m) oo (p:=(D1,H1)) HH hs[k] U;obtain ⟨r,s⟩:∃r:Nat,hs[k].raw % (m+1)=r:=⟨_,rfl⟩
    have V:hs[k].sec first (first+m)=first+r:=by
     unfold HarmD.sec;rw [show first+m - first+1=m+1 from oo,s]
    have cx:r<=m:=by have:=ja hs[k].raw (show m+1>0 by omega);omega
    obtain ⟨⟨r1,r2,r3,r4⟩,he⟩:∃e,hs[k]=e:=⟨_,rfl⟩;rw [he] at c0 c1 c2 c3 U g j V s;simp only at c0 c1 c2 c3 s;obtain ⟨k1,k2,k3,k4⟩:=U;simp only at k1 k2 k3 k4;have cy:Int.tmod (r1:Int) ((m:Int)+1)=(r:Int):=by rw [jI oo,<-s,Int.natCast_emod];rfl
    have cz:IntKind.i64.wrap (r1:Int)=(r1:Int):=gy _ oo;have c4:IntKind.i64.wrap (r:Int)=(r:Int):=gy _ oo;have c5:((first+m:Nat):Int) - (first:Int)=(m:Int):=oo;have c6:(m:Int)+1≠0:=oo;have c7:(r1:Int) % ((first:Int)+(m:Int) - (first:Int)+1)=(r:Int):=by rw [show (first:Int)+(m:Int) - (first:Int)+1=(m:Int)+1 from oo,<-s,Int.natCast_emod];rfl
    have t:=Uh (Nat.le_add_right first m) oo (p:=(D1,H1)) HH ⟨r1,r2,r3,r4⟩ ⟨k1,k2,k3,k4⟩;unfold Ls at g j;rw [V] at g j t;simp only at g j t;have z:((first+r:Nat):Int)=(first:Int)+(r:Int):=oo;rw [z] at g j t;have a6:=zh (λ(w9:World) (hg9:Grew wr w9)=>DD (HL.grew hg9));have a7:(D1.st.length:Int)=(first:Int)+(m:Int)+1:=by have:=HH.len;omega
    rw [a7] at a6;obtain ⟨b0,d5⟩:Grew wr (wr.alloc (.cells #[.int .u16 (r1:Int),.int .u16 (r2:Int),.int .u8 (r3:Int),.int .u8 (r4:Int)] 94))/\True:=⟨(fh wr).alloc _,trivial⟩;have X:=HM.alloc (.cells #[.int .u16 (r1:Int),.int .u16 (r2:Int),.int .u8 (r3:Int),.int .u8 (r4:Int)] 94);obtain ⟨kl,a2⟩:=E8 ((first:Int)+(r:Int)) (by unfold okI;omega);have u:=X.lookup_val Al Bc Tryz.underlying91 (Hy _) ((first:Int)+(r:Int)) a2;have B:=zh g;have Y:=zh j;have Z:=zh t;have c8:=zh X;have a8:=zh a2;have c9:r<=1154:=oo;have C:=(fy wr 94 #[.int .u16 (r1:Int),.int .u16 (r2:Int),.int .u8 (r3:Int),.int .u8 (r4:Int)] rfl);have cc:=zh u;have HX:=zh C;have ad:=zh b0;have a9:=C.cell 0;have bc:=C.lt;have ce:(first:Int)+(m:Int)+1 - (first:Int)=(m:Int)+1:=oo;have cf:IntKind.i64.wrap ((m:Int)+1)=(m:Int)+1:=gy _ oo;have da:IntKind.i64.wrap ((first:Int)+(r:Int))=(first:Int)+(r:Int):=gy _ oo;clear g j t he a5 s V u C X a2 a7;go_wp2_with fail;refine AB [] (λw':World=>w'.cell? ⟨wr.heap.size,0,none⟩=some (.int .u16 (r1:Int))/\wr.heap.size<w'.heap.size) qk ?_;have hS:=(show (λw':World=>w'.cell? ⟨wr.heap.size,0,none⟩=some (.int .u16 (r1:Int))/\wr.heap.size<w'.heap.size) (wr.alloc (.cells #[.int .u16 (r1:Int),.int .u16 (r2:Int),.int .u8 (r3:Int),.int .u8 (r4:Int)] 94)).drew from ⟨a9,bc⟩);refine tQ 0 18 ?_;refine tQ 1 19 ?_;refine tT 2 (some 20) hS ?_;refine tT 3 (some 21) hS ?_;refine tQ 4 22 ?_;refine tQ 6 24 ?_;refine tO 5 λK' hK=>?_;go_wp2_with fail;refine (a6 _ ad.drew).mono ?_;rintro e w2 ⟨rfl,rfl⟩;go_wp2_with fail;refine hK.out _ _ (.inr id) ?_;clear hK hS;refine tQ 7 25 ?_;refine tQ 8 26 ?_;refine tQ 9 27 ?_;refine tQ 10 9 ?_;refine AA qk ?_ _;have n:=zh (ad.drew);have bd:=zh (HX.drew);have E:MapI (wr.alloc (.cells #[.int .u16 (r1:Int),.int .u16 (r2:Int),.int .u8 (r3:Int),.int .u8 (r4:Int)] 94)).drew W.heap.size (hF H1):=HM.grew n;obtain ⟨wx,b1⟩:∃wx,wx=(wr.alloc (.cells #[.int .u16 (r1:Int),.int .u16 (r2:Int),.int .u8 (r3:Int),.int .u8 (r4:Int)] 94)).drew:=⟨_,rfl⟩;rw [<-b1] at n bd E ⊢;have bf:=zh E;have u:=E.lookup_val Al Bc Tryz.underlying91 (Hy _) ((first:Int)+(r:Int)) a8;clear b1 E a9 bc cc HX ad ce cf b0;by_cases o:first+r∈H1
    . rw [show hF H1 ((first:Int)+(r:Int))=some (.bool true) from by rw [<-z];exact fI o,it] at u;have F:=zh o;clear o;go_wp2_with fail
      go_roundg (hs.length - (k+1))
      case measure=>rw [T.out];omega
      case rel=>exact ⟨k+1,D1,H1,oo,oo,by go_num,by rw [B.out,if_pos F.out],HH,bf,HL.grew n,HB.andGrew n⟩
    . rw [show hF H1 ((first:Int)+(r:Int))=none from by rw [<-z];exact eU o,Option.getD_none] at u;have F:=zh o;obtain ⟨od,N⟩:∃od,Bj D1 ((first:Int)+(r:Int))=od:=⟨_,rfl⟩;rw [N] at Z B Y;have bk:=zh (λ(w9:World) (hl:Live w0 x D1 (λq=>out q\/q=W.heap.size) w9)=>Y7 hl ((first:Int)+(r:Int)));rw [N] at bk
      have dd:od<=8:=by
       rw [<-N];unfold Bj;split
       . exact KI HH.ok ((first:Int)+(r:Int)).toNat
       . exact iB _
      have ch:wr.heap.size≠W.heap.size:=by have:=HM.out.lt;omega
      clear o N;go_wp2_with (refine Bs rfl _ _ _ 91 rfl 4 Al Bc Tryz.underlying91 rfl bf ((first:Int)+(r:Int)) a8 (.bool true) rfl rfl ?_;intro w4 bs M;have bl:=zh (show MapI w4 W.heap.size (hF ((first+r)::H1)) from bs.congr (λa=>by rw [<-z];exact bj H1 (first+r) a));have ci:=zh M;have G:=zh (bd.turned M ch);have ae:=zh ((HL.grew n).turn1 (.inr rfl) ca M);clear bs M);have bn:=zh (show Beside w0 out W w4 from (HB.andGrew n.out).next ci.out (λq hq h9=>oo));refine (bk _ ae).mono ?_;rintro e w5 ⟨rfl,rfl⟩;have y1:=G.cell 1;have y2:=G.cell 2;have y3:=G.cell 3;have yl:=G.out.lt;by_cases K:r3 % 2=0/\0<od
      . obtain ⟨L,O⟩:=K;have d:=B.out;have f:=Y.1;rw [if_neg F.out,if_pos ⟨(by first | trivial | rfl),L,O⟩] at d f;have I:=Z.1 O;obtain ⟨bb,P⟩:∃bb:Nat,r4 % od=bb:=⟨_,rfl⟩;have df:bb<od:=by rw [<-P];exact ja _ O
        rw [P] at d f I;obtain ⟨⟨D2,er⟩,y⟩:∃p,Cg D1 ((first:Int)+(r:Int)) (1+(bb:Int))=p:=⟨_,rfl⟩;have v:=zh (Rm ae ((first:Int)+(r:Int)) (1+(bb:Int)) (by unfold okI;omega) (by unfold okI;omega));rw [y] at d f I v;have cj:er=0:=I;subst cj;have bo:((r3:Int) % 2==0)=true:=by rw [iy];omega
        have cl:(od:Int)>0:=oo;have cm:(r4:Int) % (od:Int)=(bb:Int):=by rw [<-P,Int.natCast_emod]
        have dk:(od:Int)≠0:=oo;have ds:decide ((0:Int)<(od:Int))=true:=gD oo;have aj:=zh d;have al:=zh f;clear d f I P y L O;go_wp2_with fail;refine v.mono ?_;rintro e w3 ⟨rfl,w,l⟩;have an:=zh (bl.turned l (λh9=>h9.2 (.inr rfl)));have av:=zh w;have a0:=zh (Beside.andThen bn l (λq hq=>.inl hq));clear w l y1 y2 y3 yl;go_wp2_with fail
        go_roundg (hs.length - (k+1))
        case measure=>rw [T.out];omega
        case rel=>exact ⟨k+1,D2,(first+r)::H1,oo,oo,by go_num,aj,al,an,av,a0⟩
      . have d:=B.out;have f:=Y.1;rw [if_neg F.out,if_neg (λh9=>K h9.2)] at d f;have J:=Z.2;obtain ⟨aa,Q⟩:∃aa:Nat,r2 % 140=aa:=⟨_,rfl⟩;have d0:aa<140:=by rw [<-Q];exact ja _ oo
        obtain ⟨mb,a3⟩:∃mb:UInt8,UInt8.ofNat (r3 ||| 1)=mb:=⟨_,rfl⟩;have co:=fD r3 k3;rw [a3] at co;have br:(⟨r1,r2,r3,r4⟩:HarmD).bits=mb:=a3;rw [Q,br] at d f J;obtain ⟨⟨D2,er⟩,y⟩:∃p,CK D1 ((first:Int)+(r:Int)) (aa:Int) mb=p:=⟨_,rfl⟩;have v:=zh (Qw ae ((first:Int)+(r:Int)) (aa:Int) mb (by unfold okI;omega) (by unfold okI;omega));rw [y] at d f J v;have cp:er=0:=J;subst cp;have d1:(r2:Int) % 140=(aa:Int):=by rw [<-Q,Int.natCast_emod];rfl
        have d2:IntKind.i64.wrap (r2:Int)=(r2:Int):=gy _ oo
        have cq:((r3:Int) % 2==0)=false\/(((r3:Int) % 2==0)=true/\decide ((0:Int)<(od:Int))=false/\¬(od:Int)>0):=by
         by_cases L:r3 % 2=0
         . have:¬0<od:=λh9=>K ⟨L,h9⟩;exact .inr ⟨by rw [iy];omega,gE oo,oo⟩
         . exact .inl (by rw [gF];omega)
        have aj:=zh d;have al:=zh f;clear d f J Q y K a3 br;rcases cq with bo | ⟨bo,cl,cm⟩
        all_goals
         go_wp2_with fail;refine v.mono ?_;rintro e w3 ⟨rfl,w,l⟩;have an:=zh (bl.turned l (λh9=>h9.2 (.inr rfl)));have av:=zh w;have a0:=zh (Beside.andThen bn l (λq hq=>.inl hq));clear w l y1 y2 y3 yl;go_wp2_with fail
         go_roundg (hs.length - (k+1))
         case measure=>rw [T.out];omega
         case rel=>exact ⟨k+1,D2,(first+r)::H1,oo,oo,by go_num,aj,al,an,av,a0⟩
  . obtain rfl:k=hs.length:=oo;have HE:=HP;rw [gP (fk _)] at HE;go_wp2_with fail;go_end0;exact ⟨D1,H1,rfl,HE,HL.few (λq hq=>.inl hq),HB,HH⟩

end
section
open Go.RowKit
theorem ao {D E:Dev} {sy ep:Int} {fb:Bool} (hE:finD D sy ep=(E,fb,0)) (ws:List (Int × ByteArray)) (b:AU (D.st.length - 131) ws=0) (a:ws≠[]) (c:(topI E).ok=true) (d:(topI E).ver≠4294967295#32):Ak D sy ep ws=Kb E sy ep (B3 (D.st.length - 131) ws) ((topI E).ver+1#32):=by
 unfold Ak Kb;rw [hE,if_neg qs,if_neg (by simp [b,a])];simp only;rw [if_neg (by rw [c];simp),if_neg d]
theorem RX {D:Dev} {I:Img} {T:Tab} {n:Nat} {F:Dev} {b:Bool} {H:List Nat} (h:SickV D I T n F b H) (hN:I.N<1000) {x s m:Nat}:CR x s m 2 0 F:=by
 intro w0 p W hh ws hl k A c l hA;have hn:=h.sick.img.n1;have o:=h.sick.img.n0;have g:132<=F.st.length/\F.st.length<=1155:=by rw [h.sick.len];omega
 have hp:F.pend.length<=800000:=by rw [h.sick.pend];simp
 have a:=h.next.fin;by_cases d:AU (F.st.length - 131) ws≠0\/ws=[]
 . have e:Ak F 2 0 ws=(F,AU (F.st.length - 131) ws):=by unfold Ak;rw [a,if_neg qs,if_pos d]
   rw [e];exact Lz hh g hp F false a ws hl k A c l hA d
 . have h0:AU (F.st.length - 131) ws=0:=iL.1 (λh9=>d (.inl h9));have f:ws≠[]:=λh9=>d (.inr h9);have i:(topI F).ok=true:=by rw [h.sick.topI]
   have j:(topI F).ver≠4294967295#32:=by
    rw [h.sick.topI];intro hq;have:=gJ BitVec.toNat hq;rw [show (Raw.mk (AI I.tops) (nv I.N) true).ver=nv I.N from rfl,C0 _ oo] at this;simp at this;omega
   rw [ao a ws h0 f i j];exact MC Vq hh g hp F false a _ rfl ws k A c l (hA f) h0 f i _ rfl _ rfl j
theorem Live.wide {w0 ws ws':World} {x:Nat} {D:Dev} {out S:Nat->Prop} (h:Live w0 x D out ws) (ht:Turned S ws ws') (hS:∀k,k<ws.heap.size->S k->out k/\w0.heap.size<=k):Live w0 x D (λk=>out k\/(ws.heap.size<=k/\k<ws'.heap.size)) ws':=by
 obtain ⟨q,hx,hd,b,hf,hn⟩:=h;have a:Turned (λk=>S k/\k<ws.heap.size) ws ws':=ht.mono λk hk h=>⟨h,hk⟩;refine ⟨q,hx,hd.kept a (λk hk h=>(hn k (hS k h.2 h.1).1).2 hk),b.turn a (λk hk=>(hS k hk.2 hk.1).2),hf,λk hk=>?_⟩;rcases hk with hk | hk
 . exact ⟨fw (hn k hk).1 ht.size,(hn k hk).2⟩
 . exact ⟨hk.2,λh9=>absurd (hd.feet_lt k h9) oo⟩
structure VOwn (w0:World) (x s m v:Nat) (n sy ep:Int) (D:Dev) (out my:Nat->Prop) (W:World):Prop where
 held:VHeld w0 x s m v n sy ep D out W
 vol:VolM W v s n (λk=>Far w0 out m v k/\¬my k)
 mine:∀k,my k->out k/\w0.heap.size<=k/\k<W.heap.size/\k≠s/\k≠m/\k≠v
section
variable {w0:World} {x s m v:Nat} {n sy ep:Int} {D D':Dev} {out out' my:Nat->Prop} {W w':World}
theorem VOwn.still (h:VOwn w0 x s m v n sy ep D out my W) (k:Nat) (hk:my k):¬VSet w0 out m v k:=Far.not ⟨.inr (h.mine k hk).1,(h.mine k hk).2.2.2.2⟩
theorem VOwn.call (h:VOwn w0 x s m v n sy ep D out my W) (hd:VDid w0 x s m v n sy ep D' out W out' w'):VOwn w0 x s m v n sy ep D' out' my w':=
 ⟨hd.held,(hd.fresh _ (λk hk=>hk.1) h.vol).mono λk hk=>⟨hk.2,λh9=>hk.1.elim (λh8=>h8.2 h9) (λh8=>by have:=(h.mine k h9).2.2.1;omega)⟩,λk hk=>by
  obtain ⟨a,b,c,d⟩:=h.mine k hk
  exact ⟨hd.sub k a,b,fw c hd.turned.size,d⟩⟩
theorem VOwn.own (h:VOwn w0 x s m v n sy ep D out my W) (ht:Turned (λk=>my k\/W.heap.size<=k) W w'):
 VOwn w0 x s m v n sy ep D (λk=>out k\/(W.heap.size<=k/\k<w'.heap.size)) (λk=>my k\/(W.heap.size<=k/\k<w'.heap.size)) w':=by
 have hl:=h.held.held.store.lt;have hv:=h.vol.lt;have hw:=h.held.held.live.base.size;refine ⟨⟨⟨h.held.held.live.wide ht (λk hk hq=>?_),h.held.held.store.kept ht (λhq=>?_) (λhq=>?_),.inl h.held.held.os,.inl h.held.held.om,h.held.held.m0⟩,.inl h.held.ov,h.held.v0,?_⟩,?_,λk hk=>?_⟩
 . rcases hq with hq | hq
   . exact ⟨(h.mine k hq).1,(h.mine k hq).2.1⟩
   . omega
 . rcases hq with hq | hq
   . exact (h.mine s hq).2.2.2.1 rfl
   . omega
 . rcases hq with hq | hq
   . exact (h.mine m hq).2.2.2.2.1 rfl
   . omega
 . exact h.vol.low.turned ht (λhq=>hq.elim (λh9=>(h.mine v h9).2.2.2.2.2 rfl) (λh9=>oo)) (λk hk hq=>hq.elim hk.1.2 (λh9=>by have:=hk.2;omega)) (λk hk=>hk.1.1.mono λ_=>.inl)
 . exact h.vol.low.turned ht (λhq=>hq.elim (λh9=>(h.mine v h9).2.2.2.2.2 rfl) (λh9=>oo)) (λk hk hq=>hq.elim hk.1.2 (λh9=>by have:=hk.2;omega)) (λk hk=>⟨hk.1.1.mono λ_=>.inl,λhq=>hq.elim hk.1.2 (λh9=>by have:=hk.2;omega)⟩)
 . rcases hk with hk | hk
   . obtain ⟨a,b,c,d⟩:=h.mine k hk;exact ⟨.inl a,b,fw c ht.size,d⟩
   . exact ⟨.inr hk,oo,hk.2,oo,oo,oo⟩
end
theorem Mounted.own {w0:World} {x s m v:Nat} {n sy ep:Int} {D:Dev} {out out' my:Nat->Prop} {W w':World} (h:Mounted w0 x n sy ep D out W s m v out' w') (hmy:∀k,my k->out k/\w0.heap.size<=k/\k<W.heap.size):VOwn w0 x s m v n sy ep D out' my w':=
 ⟨h.held,h.vol.mono λk hk=>⟨hk.2,λh9=>by have:=(hmy k h9).2.2;have:=hk.1;omega⟩,λk hk=>by
  obtain ⟨a,b,c⟩:=hmy k hk
  have:=h.news
  exact ⟨h.sub k a,b,fw c h.beside.size,oo,oo,oo⟩⟩

end
section
attribute [local go_sem ↓] Go.wp_at_zero Go.wp_at_succ
open Go.RowKit
abbrev nilS:Value:=.slice none 0 0
structure DataM (w:World) (mb lo:Nat) (kp:Nat->Prop) (I:Img) (T:Tab) (rs:List (Int × Int)) (F:Int × Int->Option Value):Prop where
 map:MapIs Tryz.prog 32 ID w mb F
 own:∀r∈rs,∀l,Ba T r.1 r.2=(l,true)->OwnL w lo 9 1 ((F r).getD nilS) ((CS I l).map QB)/\∀g,((F r).getD nilS).ownBlock=some g->kp g
theorem DataM.turned {w w':World} {mb lo:Nat} {kp:Nat->Prop} {I:Img} {T:Tab} {rs:List (Int × Int)} {F:Int × Int->Option Value} (h:DataM w mb lo kp I T rs F) {S:Nat->Prop} (ht:Turned S w w') (hm:¬S mb) (hS:∀k,kp k->¬S k):DataM w' mb lo kp I T rs F:=
 ⟨h.map.turned ht hm,λr hr l hl=>⟨(h.own r hr l hl).1.kept ht λg hg=>hS g ((h.own r hr l hl).2 g hg),(h.own r hr l hl).2⟩⟩
structure Kept (w0:World) (out my:Nat->Prop) (m v lo lim:Nat) (k:Nat):Prop where
 out:out k
 pos:lo<=k/\k<lim
 ne:k≠m/\k≠v
 nm:¬my k
theorem JM {w:World} {g m:Nat} {t:TypeId} {cs:Array Value} {F:Int × Int->Option Value} (h:Blk w g t cs) (hm:MapIs Tryz.prog 32 ID w m F):g≠m:=by
 obtain ⟨es,a,_,hb,_⟩:=hm;intro e;have hh:w.heap[g]? =some (Obj.cells cs t):=h;rw [e,hb] at hh;cases hh
theorem Ll {w:World} {base e sz m:Nat} {v:Value} {rows:List (List Value)} {F:Int × Int->Option Value} (h:OwnL w base e sz v rows) (hm:MapIs Tryz.prog 32 ID w m F):v.ownBlock≠some m:=by
 obtain ⟨es,a,_,hb,_⟩:=hm;rcases h.2.2 with ⟨rfl,_⟩ | ⟨g',cap,b,rfl,_,hh,_⟩
 . simp [Value.ownBlock]
 . intro he;have:g'=m:=by simpa [Value.ownBlock] using he
   rw [this,hb] at hh;cases hh
theorem VOwn.aside {w0:World} {x s m v:Nat} {n sy ep:Int} {D:Dev} {out my:Nat->Prop} {W w':World} (h:VOwn w0 x s m v n sy ep D out my W) (hg:Grew W w'):VOwn w0 x s m v n sy ep D (λk=>out k\/(W.heap.size<=k/\k<w'.heap.size)) my w':=
 ⟨h.held.more hg,h.vol.turned (hg.turned (λ_=>False)) id (λ_ _=>id) (λ_ hk=>⟨hk.1.mono λ_=>.inl,hk.2⟩),λk hk=>by
  obtain ⟨a,b,c,d⟩:=h.mine k hk
  exact ⟨.inl a,b,fw c hg.size,d⟩⟩
structure ReadM (w0:World) (x s m v:Nat) (n sy:Int) (D:Dev) (out0 out my:Nat->Prop) (W:World) (lim:Nat) (w:World) (bx b4 mb:Nat) (I:Img) (T:Tab) (A RA:Option Addr) (c:Nat) (ys:List LabE) (rs:List (Int × Int)) (hi:Nat) (da re:List (Int × Int)) (F:Int × Int->Option Value):Prop where
 vol:VOwn w0 x s m v n sy 0 D out my w
 sub:∀k,out0 k->out k
 beside:Beside w0 out0 W w
 news:(W.heap.size<=m/\W.heap.size<=v)/\lim<=w.heap.size
 low:∀k,my k->W.heap.size<=k
 mine:my bx/\my b4/\my mb
 b4b:Blk w b4 53 #[.string ⟨#[]⟩,.int .i64 0,.slice none 0 0,.map none]
 bxb:Blk w bx 53 #[.string T.name,.int .i64 T.tracks,.slice A T.labels.length c,.map (some mb)]
 tab:TabAt w A c ys T
 tin:TabIn (Kept w0 out my m v W.heap.size lim) A ys
 refs:ListAt w w.heap.size 2 RA (rs.map ER)
 rin:0<rs.length->∀b off,RA=some ⟨b,off,none⟩->Kept w0 out my m v W.heap.size lim b
 data:DataM w mb W.heap.size (λk=>my k/\k<hi) I T da F
 none_:∀r∈re,F r=none
section
variable {w0:World} {x s m v:Nat} {n sy:Int} {D:Dev} {out0 out my:Nat->Prop} {W:World} {lim:Nat} {w:World} {bx b4 mb:Nat} {I:Img} {T:Tab} {A RA:Option Addr} {c:Nat} {ys:List LabE} {rs:List (Int × Int)} {hi:Nat} {da re:List (Int × Int)} {F:Int × Int->Option Value} (h:ReadM w0 x s m v n sy D out0 out my W lim w bx b4 mb I T A RA c ys rs hi da re F)
include h
theorem ReadM.call {out':Nat->Prop} {w':World} (hd:VDid w0 x s m v n sy 0 D out w out' w'):ReadM w0 x s m v n sy D out0 out' my W lim w' bx b4 mb I T A RA c ys rs hi da re F:=by
 have a:=h.vol.still;have d:∀k,Kept w0 out my m v W.heap.size lim k->¬VSet w0 out m v k:=λk hk=>Far.not ⟨.inr hk.out,hk.ne⟩;have f:∀k,Kept w0 out my m v W.heap.size lim k->Kept w0 out' my m v W.heap.size lim k:=λk hk=>⟨hd.sub k hk.out,hk.pos,hk.ne,hk.nm⟩;have hn:=h.news
 exact ⟨h.vol.call hd,λk hk=>hd.sub k (h.sub k hk),h.beside.next hd.turned (λk hk hq=>by
  rcases hq with hq | hq | hq
  . exact ⟨hq.1,λh9=>hq.2 (h.sub k h9)⟩
  . omega
  . omega),⟨hn.1,fx hn.2 hd.turned.size⟩,h.low,h.mine,h.b4b.turned hd.turned (a _ h.mine.2.1),h.bxb.turned hd.turned (a _ h.mine.1),h.tab.stay h.tin hd.turned d,h.tin.mono f,CC h.refs hd.turned (λh0 b off e=>d b (h.rin (by rw [fm] at h0;exact h0) b off e)),λh0 b off e=>f b (h.rin h0 b off e),h.data.turned hd.turned (a _ h.mine.2.2) (λk hk=>a k hk.1),h.none_⟩
theorem ReadM.own {S:Nat->Prop} {w':World} {G:Int × Int->Option Value} {re':List (Int × Int)} (ht:Turned S w w') (hS:∀k,k<w.heap.size->S k->my k/\k≠bx/\k≠b4/\(k=mb\/hi<=k)) (hm:MapIs Tryz.prog 32 ID w' mb G) (hG:∀r∈da,G r=F r) (i:∀r∈re',G r=none):
 ReadM w0 x s m v n sy D out0 (λk=>out k\/(w.heap.size<=k/\k<w'.heap.size)) (λk=>my k\/(w.heap.size<=k/\k<w'.heap.size)) W lim w' bx b4 mb I T A RA c ys rs hi da re' G:=by
 have hn:=h.news;have hb:=h.beside.size;have d:∀k,Kept w0 out my m v W.heap.size lim k->Kept w0 (λk=>out k\/(w.heap.size<=k/\k<w'.heap.size)) (λk=>my k\/(w.heap.size<=k/\k<w'.heap.size)) m v W.heap.size lim k:=λk hk=>⟨.inl hk.out,hk.pos,hk.ne,λh9=>h9.elim hk.nm (λh8=>by have:=hk.pos;omega)⟩;have a:Turned (λk=>S k/\k<w.heap.size) w w':=ht.mono λk hk hq=>⟨hq,hk⟩;have f:∀k,Kept w0 out my m v W.heap.size lim k->¬(S k/\k<w.heap.size):=λk hk hq=>hk.nm (hS k hq.2 hq.1).1;refine ⟨h.vol.own (ht.mono λk hk hq=>.inl (hS k hk hq).1),λk hk=>.inl (h.sub k hk),h.beside.next a (λk hk hq=>?_),⟨hn.1,fx hn.2 ht.size⟩,λk hk=>hk.elim (h.low k) (λh9=>oo),⟨.inl h.mine.1,.inl h.mine.2.1,.inl h.mine.2.2⟩,h.b4b.turned a (λhq=>(hS _ hq.2 hq.1).2.2.1 rfl),h.bxb.turned a (λhq=>(hS _ hq.2 hq.1).2.1 rfl),h.tab.stay h.tin a f,h.tin.mono d,CC h.refs a (λh0 b off e=>f b (h.rin (by rw [fm] at h0;exact h0) b off e)),λh0 b off e=>d b (h.rin h0 b off e),⟨hm,λr hr l hl=>?_⟩,i⟩
 . have:=h.low k (hS k hq.2 hq.1).1;omega
 . rw [hG r hr];obtain ⟨h1,h2⟩:=h.data.own r hr l hl;refine ⟨h1.kept a (λg hg hq=>?_),λg hg=>⟨.inl (h2 g hg).1,(h2 g hg).2⟩⟩;rcases (hS g hq.2 hq.1).2.2.2 with h9 | h9
   . exact Ll h1 h.data.map (by rw [hg,h9])
   . have:=(h2 g hg).2;omega
theorem ReadM.done {r:Int × Int} {l:Lab} (hl:Ba T r.1 r.2=(l,true)) (ho:OwnL w hi 9 1 ((F r).getD nilS) ((CS I l).map QB)) (hm:∀g,((F r).getD nilS).ownBlock=some g->my g) (hW:W.heap.size<=hi):ReadM w0 x s m v n sy D out0 out my W lim w bx b4 mb I T A RA c ys rs w.heap.size (da++[r]) re F:=
 { h with data:=⟨h.data.map,λr' hr l' hl'=>by
  rcases gC.1 hr with hr | hr
  . exact ⟨(h.data.own r' hr l' hl').1,λg hg=>⟨((h.data.own r' hr l' hl').2 g hg).1,((h.data.own r' hr l' hl').1.own_ge hg).2⟩⟩
  . obtain rfl:=fp.1 hr
    rw [hl] at hl'
    injection hl' with hl' _
    subst hl'
    exact ⟨ho.low hW,λg hg=>⟨hm g hg,(ho.own_ge hg).2⟩⟩⟩ }
end
theorem Wc:(Tryz.prog.info? 9).map (λi=>(i.zero,i.size,i.bytes))=some (some (.string ⟨#[]⟩),1,16):=qk
theorem OH {w0:World} {x n:Nat} {D:Dev} {out:Nat->Prop} {W:World} {I:Img} {T:Tab} (h:Live w0 x D out W) (hG:VGood D I T n) (k:Nat) (hk:k<256):
 Calls Tryz.prog 11 #[ptrV x,.int .u8 (k:Int)] W λe w'=>∃out' kp A c ys mb F,e=.returned (.tuple #[.agg #[.string T.name,.int .i64 T.tracks,.slice A T.labels.length c,.map (some mb)],.bool true])/\Live w0 x D out' w'/\(∀k,out k->out' k)/\Beside w0 out W w'/\(∀k,kp k->out' k/\W.heap.size<=k/\k<w'.heap.size)/\TabAt w' A c ys T/\TabIn kp A ys/\SmallT T/\kp mb/\DataM w' mb W.heap.size kp I T (Lw T) F:=by
 have hp:D.pend.length<=900000:=by rw [hG.neat.clean.pend];simp
 have cw:=hG.neat.len;have cx:=hG.okn;obtain ⟨cl,bb⟩:=Ox hG.good
 have L:(Lw T).length<=1000:=by
  have h1:=Mo T.labels T.labels.length;rw [gP (fk _)] at h1;have h2:=hG.good.small.1;have h3:=(GO (Gc T.labels)).length_eq;show (GH (Gc T.labels)).length<=_;omega
 obtain ⟨rs,cm⟩:∃rs,Lw T=rs:=⟨_,rfl⟩;rw [cm] at cl bb L ⊢;have bk:=@run_makeMap Tryz.prog;have HL:=zh h;have HG:=zh hG;have M:=zh (And.intro cw hp);have gr:=zh cl;have gs:=zh (λr hr=>(bb r hr).1);have gt:=zh cm;have gv:=zh (show ∀r∈rs,okI r.1/\okI r.2 from λr hr=>(bb r hr).2);have bl:=zh cx;clear h hG hp cw cl bb cm cx;go_enter Tryz.func11,Tryz.ntmps11;go_wp2_with fail;have ae:Grew W (((W.alloc (.cells #[.string ⟨#[]⟩,.int .i64 0,.slice none 0 0,.map none] 53)).alloc (.map #[] 0)).alloc (.cells #[.string ⟨#[]⟩,.int .i64 0,.slice none 0 0,.map (some (W.heap.size+1))] 53)):=(((fh W).alloc _).alloc _).alloc _;have aj:=((fy W 53 #[.string ⟨#[]⟩,.int .i64 0,.slice none 0 0,.map none] rfl).alloc (.map #[] 0)).alloc (.cells #[.string ⟨#[]⟩,.int .i64 0,.slice none 0 0,.map (some (W.heap.size+1))] 53);have al:MapIs Tryz.prog 32 ID (((W.alloc (.cells #[.string ⟨#[]⟩,.int .i64 0,.slice none 0 0,.map none] 53)).alloc (.map #[] 0)).alloc (.cells #[.string ⟨#[]⟩,.int .i64 0,.slice none 0 0,.map (some (W.heap.size+1))] 53)) (W.heap.size+1) (λ_=>none):=(MapIs.made _ qs).alloc _;have Q:=fy ((W.alloc (.cells #[.string ⟨#[]⟩,.int .i64 0,.slice none 0 0,.map none] 53)).alloc (.map #[] 0)) 53 #[.string ⟨#[]⟩,.int .i64 0,.slice none 0 0,.map (some (W.heap.size+1))] (n:=W.heap.size+1+1) qs;obtain ⟨W1,co⟩:∃W1,W1=(((W.alloc (.cells #[.string ⟨#[]⟩,.int .i64 0,.slice none 0 0,.map none] 53)).alloc (.map #[] 0)).alloc (.cells #[.string ⟨#[]⟩,.int .i64 0,.slice none 0 0,.map (some (W.heap.size+1))] 53)):=⟨_,rfl⟩;have cy:W1.heap.size=W.heap.size+3:=by rw [co];simp
 rw [<-co] at ae aj al Q ⊢;obtain ⟨bx,f⟩:∃b,b=W.heap.size+1+1:=⟨_,rfl⟩;rw [<-f] at Q ⊢;obtain ⟨mb,cp⟩:∃b,b=W.heap.size+1:=⟨_,rfl⟩;rw [<-cp] at al Q ⊢;obtain ⟨b4,a⟩:∃b,b=W.heap.size:=⟨_,rfl⟩;rw [<-a] at aj ⊢;have an:=zh (show b4=W.heap.size/\mb=W.heap.size+1/\bx=W.heap.size+1+1/\W1.heap.size=W.heap.size+3 from ⟨a,cp,f,cy⟩);have cz:=zh ae;have c2:=zh aj;have c3:=zh al;have c4:=zh Q;have c5:=zh (HL.more ae);clear bk co f cp a cy ae aj al Q;refine (DY c5 HG k hk).mono ?_;rintro e w2 ⟨s,m,v,o2,rfl,w⟩;have gx:=HL.base.size;have c6:=w.own (my:=λq=>W.heap.size<=q/\q<W1.heap.size) (λq hq=>⟨.inr hq,oo,hq.2⟩);have av:∀q,W.heap.size<=q->q<W1.heap.size->¬(w0.heap.size<=q/\¬(out q\/(W.heap.size<=q/\q<W1.heap.size))):=λq h1 h2 h9=>h9.2 (.inr ⟨h1,h2⟩);obtain ⟨e1,e2,e3,e4⟩:=an.out;have c7:=zh (c2.turned w.beside (av b4 oo oo));have c8:=zh (c3.turned w.beside (av mb oo oo));have c9:=zh (c4.turned w.beside (av bx oo oo));have da:Hid (Beside w0 out W w2):=zh ((cz.turned _).trans (w.beside.mono λq _ hq=>⟨hq.1,λh9=>hq.2 (.inl h9)⟩));have y:=zh c6;have z:=zh (show (∀q,out q->o2 q)/\W1.heap.size<=s/\W1.heap.size<=m/\W1.heap.size<=v from ⟨λq hq=>w.sub q (.inl hq),w.news⟩);clear e1 e2 e3 e4 av c6 w gx c2 c3 c4;go_wp2_with fail;refine (Fy y.held M.1 (by have:=M.2;omega) bl D T 0 (HG.table (Ha k) 0)).mono ?_;rintro e w3 ⟨o3,A,c,ys,rfl,J,f6,f9,ga⟩;have dd:=zh (y.call J);have a0:∀q,W.heap.size<=q->q<W1.heap.size->¬VSet w0 o2 m v q:=λq h1 h2=>y.still q ⟨h1,h2⟩;obtain ⟨e1,e2,e3,e4⟩:=an.out;have df:=zh (c7.turned J.turned (a0 b4 oo oo));have dk:=zh (c8.turned J.turned (a0 mb oo oo));have hx:=(c9.turned J.turned (a0 bx oo oo)).alloc (.cells #[.string T.name,.int .i64 T.tracks,.slice A T.labels.length c] 50);have ds:=zh hx;have x0:=hx.cell 0;have x1:=hx.cell 1;have x2:=hx.cell 2;have f0:=hx.frozen 0;have f1:=hx.frozen 1;have f2:=hx.frozen 2;have xl:=hx.lt;have d0:w2.heap.size<=w3.heap.size:=J.turned.size;have d1:W1.heap.size<=w2.heap.size:=by have:=y.held.held.store.lt;have:=z.out;omega
 have gz:bx≠w3.heap.size:=oo;have g0:w3.heap.size≠bx:=oo;have bn:=zh J;have B:=zh (And.intro f6 (And.intro f9 ga));have d2:=zh (And.intro d1 d0);clear J f6 f9 ga a0 e1 e2 e3 e4 d1 d0 hx;go_wp2_with fail;have bo:Turned (λq=>q=bx) w3 ((((w3.alloc (.cells #[.string T.name,.int .i64 T.tracks,.slice A T.labels.length c] 50)).setCell ⟨bx,0,none⟩ (.string T.name)).setCell ⟨bx,1,none⟩ (.int .i64 T.tracks)).setCell ⟨bx,2,none⟩ (.slice A T.labels.length c)):=gT;have br:=((ds.set_ 0 (.string T.name)).set_ 1 (.int .i64 T.tracks)).set_ 2 (.slice A T.labels.length c);obtain ⟨W4,gc⟩:∃W4,W4=(((w3.alloc (.cells #[.string T.name,.int .i64 T.tracks,.slice A T.labels.length c] 50)).setCell ⟨bx,0,none⟩ (.string T.name)).setCell ⟨bx,1,none⟩ (.int .i64 T.tracks)).setCell ⟨bx,2,none⟩ (.slice A T.labels.length c):=⟨_,rfl⟩;rw [<-gc] at bo br ⊢;have C:=zh bo;have d3:=zh (show Blk W4 bx 53 #[.string T.name,.int .i64 T.tracks,.slice A T.labels.length c,.map (some mb)] from br);clear gc bo br x0 x1 x2 f0 f1 f2 xl ds;obtain ⟨e1,e2,e3,e4⟩:=an.out;obtain ⟨z1,z2⟩:=d2.out;have d4:TabAt W4 A c ys T:=B.1.stay B.2.1 C (λq hq e=>by have:=hq.1;omega);have bs:=zh d4;clear d4;refine (Of A c ys T W4 bs B.2.2 _ rfl rs gt).mono ?_;rintro e w5 ⟨RA,cR,rfl,hR,gR,gb⟩;have g1:(s<w2.heap.size/\m<w2.heap.size)/\v<w2.heap.size:=⟨y.held.held.store.lt,y.held.vol.lt⟩;have z4:=C.size;have z5:=gR.size;have d5:=dd.own (C.mono λq _ hq=>.inl (by rw [hq];show W.heap.size<=bx/\bx<W1.heap.size;omega));have d6:=d5.aside gR;have t:=(B.1.lt B.2.1)
 have d7:ReadM w0 x s m v n (Ha k) D out _ _ W w5.heap.size w5 bx b4 mb I T A RA c ys rs w5.heap.size (rs.take 0) (rs.drop 0) (λ_=>none):={
  vol:=d6
  sub:=λq hq=>.inl (.inl (bn.sub q (z.1 q hq)))
  beside:=((da.next bn.turned (λq hq h9=>by
   rcases h9 with h9 | h9 | h9
   . exact ⟨h9.1,λh8=>h9.2 (z.1 q h8)⟩
   . have:=z.2.2;omega
   . have:=z.2.2;omega)).next C (λq hq h9=>oo)).trans (gR.turned _)
  news:=⟨by have:=z.2.2;omega,fk _⟩
  low:=λq hq=>hq.elim (λh9=>h9.1) (λh9=>oo)
  mine:=⟨.inl ⟨oo,oo⟩,.inl ⟨oo,oo⟩,.inl ⟨oo,oo⟩⟩
  b4b:=(df.turned C (λh9=>oo)).grew gR
  bxb:=d3.grew gR
  tab:=bs.hold gR
  tin:=t.mono λq hq=>⟨.inl (.inl hq.1.2),⟨by have:=hq.1.1;omega,by have:=hq.2;omega⟩,⟨by have:=hq.1.1;omega,by have:=hq.1.1;omega⟩,λh9=>by have:=hq.1.1;have:=hq.2;rcases h9 with h9 | h9<;>omega⟩
  refs:=hR
  rin:=λh0 b bc e=>by
   have h7:=gb b bc e
   have h8:=Fo hR (by rw [fm];exact h0) b bc e
   exact ⟨.inr ⟨h7,h8⟩,⟨oo,h8⟩,⟨oo,oo⟩,λh9=>by rcases h9 with h9 | h9<;>omega⟩
  data:=⟨(dk.turned C (λh9=>oo)).grew gR,λr hr=>by rw [take_zero] at hr;cases hr⟩
  none_:=λ_ _=>rfl }
 have ea:=zh d7;have eb:=zh B.2.2;clear d7 d6 d5 hR gR gb t e1 e2 e3 e4 z1 z2 z4 z5 g1 bs B df dk d3 C bn dd d2 an y da z c7 c8 c9 gz g0 cz c5;go_wp2_with fail
 go_loopg [41] rs.length (λgk i' wr=>∃(j:Nat) (o my:Nat->Prop) (F:Int × Int->Option Value),j<=rs.length/\gk=rs.length - j/\i'=.int .i64 j/\ReadM w0 x s m v n (Ha k) D out o my W w5.heap.size wr bx b4 mb I T A RA c ys rs wr.heap.size (rs.take j) (rs.drop j) F)
 case atStart=>exact ⟨0,_,_,_,oo,oo,rfl,ea⟩
 case round=>
  obtain ⟨j,o,my,F,hj,gd,rfl,ge⟩:=hrel;have g2:=zh gd;have d:=zh ge;clear gd ge ea;by_cases t:j<rs.length
  . have hs:(j:Int)<(rs.length:Int):=oo;obtain ⟨rb,bc,ho,L,gf⟩:=JA d.refs (by rw [fm];omega);subst ho;obtain ⟨⟨r1,r2⟩,hr⟩:∃r,rs[j]=r:=⟨_,rfl⟩;have bt:=gf j (ER (r1,r2)) (by rw [fo,fg t,hr];rfl);have c0:=bt 0 _ rfl;have c1:=bt 1 _ rfl;rw [ik] at c0;clear gf bt
    have ec:(r1,r2) ∉ rs.take j/\(r1,r2) ∉ rs.drop (j+1):=by
     have h9:=gr.out;rw [<-jR j rs,iz t,hr,iZ,nodup_cons] at h9;exact ⟨λh8=>h9.2.2 _ h8 _ (gS ..) rfl,h9.2.1.1⟩
    have ee:=zh ec;clear ec;have eg:=gv.out;have bv:(r1,r2)∈rs:=by rw [<-hr];exact fq t
    obtain ⟨l,hl⟩:=gs.out _ bv;simp only at hl;have ei:F (r1,r2)=none:=d.none_ _ (by rw [<-hr,iz t];exact gS ..);have bw:Grew wr (wr.alloc (.cells #[.int .i64 r1,.int .i64 r2] 32)):=(fh wr).alloc _;have b0:=d.own (S:=λ_=>False) (re':=rs.drop (j+1)) (bw.turned _) (λ_ _ hq=>hq.elim) (d.data.map.grew bw) (λ_ _=>rfl) (λr hq=>d.none_ r (by rw [iz t];exact gM _ hq));have ek:=zh (fy wr 32 #[.int .i64 r1,.int .i64 r2] rfl);have b1:=zh b0;have b2:=zh (Pu b0.vol.held M.1 (by have:=M.2;omega) bl r1 r2 D ((AW l.ext:Int)*8) 0 (Z9 HG (Ha k) 0 hl));have el:=zh hl;have em:=zh (show okI r1/\okI r2 from eg _ bv);have ep:=zh ei;have g3:=zh hr;obtain ⟨nz,gg⟩:∃nz,AW l.ext*8=nz:=⟨_,rfl⟩;have eq:(CS I l).length=nz:=by unfold CS;rw [fm,io,gg]
    rw [show (AW l.ext:Int)*8=(nz:Int) from oo] at b2
    have er:nz<=1024000:=by
     have h1:=FH l.ext;have h2:=Ko eb r1 r2;rw [hl] at h2;simp only at h2;omega
    have N:=zh (And.intro eq er);clear eg bv hl ei bw b0 hr gg eq er;go_wp2_with fail;refine b2.mono ?_;rintro e w6 ⟨rfl,o6,a8⟩;have a4:=zh (b1.call a8);have b3:=zh (ek.turned a8.turned (b1.vol.still _ (.inr ⟨fk _,qs⟩)));have es:=zh (show wr.heap.size<w6.heap.size from by have:=a8.turned.size;simp at this;omega);obtain ⟨lo,cq⟩:∃lo,lo=wr.heap.size:=⟨_,rfl⟩;obtain ⟨bd,cr⟩:∃bd,bd=λq=>my q\/(wr.heap.size<=q/\q<(wr.alloc (.cells #[.int .i64 r1,.int .i64 r2] 32)).heap.size):=⟨_,rfl⟩;have et:=zh (show bd lo from by rw [cr,cq];exact .inr ⟨fk _,qs⟩);rw [<-cr] at a4;rw [<-cq] at a4 b3 es ⊢;have g4:=zh (show W.heap.size<=lo from by have:=d.beside.size;omega);clear a8 cq cr b1 ek b2 d c0 c1 L;go_wp2_with fail
    go_loopg [15,14] nz (λgk i' f' wq=>∃(i:Nat) (o my:Nat->Prop) (G:Int × Int->Option Value),i<=nz/\gk=nz - i/\i'=.int .i64 i/\f'=.int .i64 0/\ReadM w0 x s m v n (Ha k) D out o my W w5.heap.size wq bx b4 mb I T A (some ⟨rb,bc,none⟩) c ys rs lo (rs.take j) (rs.drop (j+1)) G/\Blk wq lo 32 #[.int .i64 r1,.int .i64 r2]/\my lo/\OwnL wq lo 9 1 ((G (r1,r2)).getD nilS) (((CS I l).take i).map QB)/\∀g,((G (r1,r2)).getD nilS).ownBlock=some g->my g)
    case atStart=>exact ⟨0,o6,bd,F,oo,oo,rfl,rfl,a4,b3,et,by rw [ep.out,take_zero];exact OwnL.nil _ _ _ _,λg hg=>by rw [ep.out] at hg;cases hg⟩
    case round=>
     obtain ⟨i,o7,gh,G,hi,gi,rfl,rfl,cs,Z,gj,gl,gn⟩:=hrel;have g5:=zh gi;have b5:=zh cs;have g6:=zh Z;have eu:=zh gj;have ex:=zh gl;have b6:=zh gn;have R:=zh (λ(hk2:i<(CS I l).length)=>I6 cs.vol.held M.1 (by have:=M.2;omega) bl r1 r2 (i:Int) (by have:=N.1;have:=N.2;unfold okI;omega) D ((CS I l)[i]) 0 (cP HG (Ha k) 0 el i hk2));have y0:=Z.cell 0;have y1:=Z.cell 1;have yl:=Z.lt;clear gi cs Z gj gl gn a4 b3 et es;by_cases hm:i<nz
     . have hu:=N.2;have hw:(i:Int)<(nz:Int):=oo;have e0:i<(CS I l).length:=by rw [N.out.1];exact hm
       have R:=zh (R e0);go_wp2_with fail;refine R.mono ?_;rintro e w7 ⟨rfl,o8,a9⟩;have u:=b5.call a9;have b9:=b5.vol.still;have ca:=u.bxb;have O:=g6.turned a9.turned (b9 _ eu);have E:=ex.kept a9.turned (λg hg=>b9 g (b6 g hg));have H:=zh u;have a5:=zh O;have U:=zh E;have x3:=ca.cell 3;have xl:=ca.lt;have z0:=O.cell 0;have z1:=O.cell 1;have zl:=O.lt;obtain ⟨kx,go⟩:=Vo (r1,r2) em.1 em.2;have cb:=u.data.map.alloc (.cells #[.string (CS I l)[i]] 9);obtain ⟨st,o1,bf,cu⟩:=XI O3 Ph cb Tryz.underlying51 Pp (r1,r2) go;obtain ⟨v7,aa⟩:∃v7,(G (r1,r2)).getD nilS=v7:=⟨_,rfl⟩;obtain ⟨sv,cv⟩:∃sv,goInt (st:Int)=sv:=⟨_,rfl⟩;rw [aa,cv] at bf;rw [cv] at cu;rw [aa] at E;have e5:OwnL { (w7.alloc (.cells #[.string (CS I l)[i]] 9)) with heap:=(w7.alloc (.cells #[.string (CS I l)[i]] 9)).heap.setIfInBounds mb o1 } lo 9 1 v7 (((CS I l).take i).map QB):=(E.alloc _).kept (Ct _ mb o1) (λg hg e=>Ll E u.data.map (by rw [hg,e]));have e6:Blk { (w7.alloc (.cells #[.string (CS I l)[i]] 9)) with heap:=(w7.alloc (.cells #[.string (CS I l)[i]] 9)).heap.setIfInBounds mb o1 } w7.heap.size 9 #[.string (CS I l)[i]]:=(fy w7 _ _ rfl).turned (Ct _ mb o1) (λe=>by have:=u.data.map.lt;omega);have V:Turned (λq=>q=mb\/w7.heap.size<=q) w7 { (w7.alloc (.cells #[.string (CS I l)[i]] 9)) with heap:=(w7.alloc (.cells #[.string (CS I l)[i]] 9)).heap.setIfInBounds mb o1 }:=(((fh w7).alloc _).turned _).trans ((Ct _ mb o1).mono λq _ e=>.inl e);have cc:({ (w7.alloc (.cells #[.string (CS I l)[i]] 9)) with heap:=(w7.alloc (.cells #[.string (CS I l)[i]] 9)).heap.setIfInBounds mb o1 }:World).heap[mb]? =some o1:=Cu _ mb o1 cb.lt;obtain ⟨we,gp⟩:∃we,we={ (w7.alloc (.cells #[.string (CS I l)[i]] 9)) with heap:=(w7.alloc (.cells #[.string (CS I l)[i]] 9)).heap.setIfInBounds mb o1 }:=⟨_,rfl⟩;rw [<-gp] at bf e5 e6 V cc;unfold ID at bf;simp only at bf;have g7:=zh cu;have L:(((CS I l).take i).map QB).length=i:=by rw [fm,iX];omega
       have ce:=zh (show ((((CS I l).take i).map QB).length+1)*16<=140737488355328/\(((CS I l).take i).map QB).length+1<=9223372036854775807/\(((CS I l).take i).map QB).length=i from by rw [L];have:=N.2;omega);have fa:=zh (show v7.ownBlock≠some mb from Ll E u.data.map);have fb:=zh (show ∀g,v7.ownBlock=some g->gh g from λg hg=>b6.out g (by rw [aa];exact hg));have U:=zh E;have fi:mb<we.heap.size:=fw u.data.map.lt V.size;have fj:=zh fi;have fl:=zh V;have g8:=zh cc;have hy:=zh aa;have cf:=zh u.data.map;have ha:lo<=we.heap.size:=by have:=O.lt;have:=V.size;omega
       clear a9 b9 u ca O E y0 y1 yl R cb cu V cc aa cv gp go L fi;go_wp2_with (at_builtin;refine BZ rfl _ _ 60 rfl lo 9 1 16 (.string ⟨#[]⟩) Tryz.underlying60 Wc rfl qd we v7 (((CS I l).take i).map QB) [.string (CS I l)[i]] rfl rfl e5 w7.heap.size (by rfl) e6 rfl ce.1 ce.2.1 ha i ce.2.2 ?_;intro g9 cj w9 X p P Y;obtain ⟨gq,h4,ad,K⟩:=g7.out w9 (.slice (some ⟨g9,0,none⟩) (i+1) cj) ((p.block mb fj (λe9=>fa e9.symm)).trans g8);have hb:=zh (And.intro ad K);have hc:=zh (And.intro X (And.intro p (And.intro P Y)));clear X p P Y ad K);have hd:(CS I l).take (i+1)=(CS I l).take i++[(CS I l)[i]]:=fr e0;obtain ⟨ad,K⟩:=hb.out;obtain ⟨X,p,P,Y⟩:=hc.out;have ch:Turned (λq=>q=mb\/v7.ownBlock=some q\/w7.heap.size<=q) w7 gq:=((fl.mono λq _ hq=>hq.imp id .inr).trans ⟨p.os,p.tape,p.output,p.size,λq hq hn=>p.block q hq (λe9=>hn (.inr (.inl e9.symm)))⟩).trans (K.mono λq _ e=>.inl e);have fn:=U.row_ge
       have fs:=H.own (G:=upd G (r1,r2) (some (.slice (some ⟨g9,0,none⟩) (i+1) cj))) (re':=rs.drop (j+1)) ch (λq hq hS=>by
        rcases hS with rfl | hS | hS
        . exact ⟨H.mine.2.2,λe=>JM H.bxb cf e.symm,λe=>JM H.b4b cf e.symm,.inl rfl⟩
        . exact ⟨fb q hS,λe=>U.ne_blk H.bxb qd (by rw [hS,e]),λe=>U.ne_blk H.b4b qd (by rw [hS,e]),.inr (fn q hS)⟩
        . omega) ad (λr hr=>DK _ _ λe=>ee.1 (by rw [<-e];exact hr)) (λr hr=>(DK _ _ λe=>ee.2 (by rw [<-e];exact hr)).trans (H.none_ r hr))
       have fu:=a5.turned ch (λhS=>by
        rcases hS with hS | hS | hS
        . exact JM a5 cf hS
        . exact U.ne_blk a5 qd hS
        . have:=a5.out.lt;omega)
       have fv:=X.kept K (λg hg e=>by
        obtain rfl:g9=g:=by simpa [Value.ownBlock] using hg
        rcases P with h9 | h9
        . exact fa.out (by rw [h9,e])
        . have:=fj.out;omega)
       have f4:∀g,(Value.slice (some ⟨g9,0,none⟩) (i+1) cj).ownBlock=some g->gh g\/(w7.heap.size<=g/\g<gq.heap.size):=λg hg=>by
        obtain rfl:g9=g:=by simpa [Value.ownBlock] using hg
        rcases P with h9 | h9
        . exact .inl (fb _ h9)
        . exact .inr ⟨by have:=fl.size;omega,fw Y K.size⟩
       have a6:=zh (And.intro fs (And.intro fu (And.intro fv f4)));clear ad K X p P Y ch fn fs fu fv f4
       go_roundg (nz - (i+1))
       case measure=>rw [g5.out];omega
       case rel=>exact ⟨i+1,_,_,_,oo,oo,by go_num,rfl,a6.1,a6.2.1,.inl eu,by rw [DI,it,hd,fz];exact a6.2.2.1,λg hg=>a6.2.2.2 g (by rw [DI,it] at hg;exact hg)⟩
     . obtain rfl:i=nz:=oo;have f5:(CS I l).take i=CS I l:=gP (by rw [N.out.1];exact fk _);have ci:=b5.done el.out (by rw [<-f5];exact ex.out) b6 g4;have a7:rs.take j++[(r1,r2)]=rs.take (j+1):=by rw [fr t,g3.out]
       rw [a7] at ci;have he:=zh ci;clear f5 ci a7 y0 y1 yl R;go_wp2_with fail
       go_roundg (rs.length - (j+1))
       case measure=>rw [g2.out];omega
       case rel=>exact ⟨j+1,_,_,_,oo,oo,by go_num,he⟩
  . obtain rfl:j=rs.length:=oo;have f:=d.bxb;have a:=d.b4b;have x0:=f.cell 0;have x1:=f.cell 1;have x2:=f.cell 2;have x3:=f.cell 3;have xl:=f.lt;have z0:=a.cell 0;have z1:=a.cell 1;have z2:=a.cell 2;have z3:=a.cell 3;have f0:=a.frozen 0;have f1:=a.frozen 1;have f2:=a.frozen 2;have f3:=a.frozen 3;have zl:=a.lt;clear f a;go_wp2_with fail;refine f7 (by first | (simp [*,results,Tryz.results11,go_sem];rfl) | simp [*,results,Tryz.results11,go_sem]) rfl ?_;have hr:=d.out;have ht:Turned (λq=>q=b4) wr ((((wr.setCell ⟨b4,0,none⟩ (.string T.name)).setCell ⟨b4,1,none⟩ (.int .i64 T.tracks)).setCell ⟨b4,2,none⟩ (.slice A T.labels.length c)).setCell ⟨b4,3,none⟩ (.map (some mb))):=gT;have hv:=hr.vol.own (ht.mono λq _ e=>.inl (by rw [e];exact hr.mine.2.1));have hf:∀q,Kept w0 o my m v W.heap.size w5.heap.size q->¬q=b4:=λq hq e=>hq.nm (by rw [e];exact hr.mine.2.1);have hz:=hr.news.2;have bk:=hr.data.map.turned ht (λe=>JM hr.b4b hr.data.map e.symm);have a7:rs.take rs.length=rs:=gP (fk _);have hh:=ht.size;refine ⟨_,λq=>my q\/Kept w0 o my m v W.heap.size w5.heap.size q,A,c,ys,mb,F,rfl,hv.held.held.live,λq hq=>.inl (hr.sub q hq),hr.beside.next ht (λq hq e=>by have:=hr.low q (by rw [e];exact hr.mine.2.1);omega),λq hq=>?_,hr.tab.stay hr.tin ht hf,hr.tin.mono λq hq=>.inr hq,eb,.inl hr.mine.2.2,⟨bk,λr hq l hl=>?_⟩⟩
    . rcases hq with hq | hq
      . obtain ⟨a1,a2,a3,_⟩:=hr.vol.mine q hq;exact ⟨.inl a1,hr.low q hq,fw a3 hh⟩
      . exact ⟨.inl hq.out,hq.pos.1,by have:=hq.pos.2;omega⟩
    . obtain ⟨a1,a2⟩:=hr.data.own r (by rw [a7];exact hq) l hl;exact ⟨a1.kept ht λg hg e=>a1.ne_blk hr.b4b qd (by rw [hg,e]),λg hg=>.inl (a2 g hg).1⟩

structure StaleM (w0:World) (x s m v:Nat) (n:Int) (D:Dev) (o Q:Nat->Prop) (w:World) (bl mb lo:Nat) (I:Img) (T:Tab) (A RA AL:Option Addr) (c:Nat) (rs:List (Int × Int)) (L:List (Int × ByteArray)) (FD:Int × Int->Option Value):Prop where
 held:VHeld w0 x s m v n 2 0 D o w
 q:∀k,Q k->o k/\k≠m/\k≠v
 blk:Blk w bl 53 #[.string T.name,.int .i64 T.tracks,.slice A T.labels.length c,.map (some mb)]
 qb:Q bl/\Q mb
 data:DataM w mb lo Q I T rs FD
 refs:ListAt w w.heap.size 2 RA (rs.map ER)
 rin:0<rs.length->∀b off,RA=some ⟨b,off,none⟩->Q b
 lst:ListAt w w.heap.size 2 AL (L.map BB)
 lin:0<L.length->∀b off,AL=some ⟨b,off,none⟩->Q b
section
variable {w0:World} {x s m v:Nat} {n:Int} {D D':Dev} {o o' Q:Nat->Prop} {w w':World} {bl mb lo:Nat} {I:Img} {T:Tab} {A RA AL:Option Addr} {c:Nat} {rs:List (Int × Int)} {L:List (Int × ByteArray)} {FD:Int × Int->Option Value} (h:StaleM w0 x s m v n D o Q w bl mb lo I T A RA AL c rs L FD)
include h
theorem StaleM.still (k:Nat) (hk:Q k):¬VSet w0 o m v k:=Far.not ⟨.inr (h.q k hk).1,(h.q k hk).2⟩
theorem StaleM.call (hd:VDid w0 x s m v n 2 0 D' o w o' w'):StaleM w0 x s m v n D' o' Q w' bl mb lo I T A RA AL c rs L FD:=
 ⟨hd.held,λk hk=>⟨hd.sub k (h.q k hk).1,(h.q k hk).2⟩,h.blk.turned hd.turned (h.still _ h.qb.1),h.qb,h.data.turned hd.turned (h.still _ h.qb.2) (λk hk=>h.still k hk),CC h.refs hd.turned (λh0 b off e=>h.still b (h.rin (by rw [fm] at h0;exact h0) b off e)),h.rin,CC h.lst hd.turned (λh0 b off e=>h.still b (h.lin (by rw [fm] at h0;exact h0) b off e)),h.lin⟩
theorem StaleM.more (hg:Grew w w'):StaleM w0 x s m v n D (λk=>o k\/(w.heap.size<=k/\k<w'.heap.size)) (λk=>Q k\/(w.heap.size<=k/\k<w'.heap.size)) w' bl mb lo I T A RA AL c rs L FD:=by
 have h1:=h.held.held.store.lt.2;have h2:=h.held.vol.lt;have ht:=hg.turned (λ_=>False);exact ⟨h.held.more hg,λk hk=>hk.elim (λh9=>⟨.inl (h.q k h9).1,(h.q k h9).2⟩) (λh9=>⟨.inr h9,oo,oo⟩),h.blk.grew hg,⟨.inl h.qb.1,.inl h.qb.2⟩,⟨h.data.map.grew hg,λr hr l hl=>⟨(h.data.own r hr l hl).1.grew hg,λg hq=>.inl ((h.data.own r hr l hl).2 g hq)⟩⟩,AO h.refs hg,λh0 b off e=>.inl (h.rin h0 b off e),AO h.lst hg,λh0 b off e=>.inl (h.lin h0 b off e)⟩
end
theorem OpTOk.hold {w w':World} {o:OpT} (h:OpTOk w o) (hg:Grew w w'):OpTOk w' o:=⟨h.kind,h.on.hold hg,AO h.at_ hg,h.len,h.ok,h.size⟩
theorem Nl {P:Program} {ops:Array Oper} {rest:List Oper} {o:Oper} {a:Act} {w:World} {Q:Exit->Act->World->Prop} (e:o.guard=none) (ty:TypeId) (x:Operand) (ho:o.op=.load ty x) (b c:Nat) (hx:a.eval x=.pointer (some ⟨b,c,none⟩)) (cs:List Value) (hc:∀i v,cs[i]? =some v->w.cell? ⟨b,c+i,none⟩=some v)
 (d:TypeDesc) (hu:P.underlying ty=some d) (hd:(match d with | .struct _ | .array _ _=>true | _=>false)=true) (hi:(P.info? ty).map (·.size)=some cs.length) (h:wpList P ops Q rest (a.put o.dst (.agg cs.toArray)) w):wpList P ops Q (o::rest) a w:=
 wpList_plain e λ_ hK=>by
  have hl:(loadCells ⟨b,c,none⟩ cs.length).run P w=.ok cs.toArray w:=run_loadCells_list (P:=P) w ⟨b,c,none⟩ cs (λj v hv=>by
   have hadd:(⟨b,c,none⟩:Addr).add j=⟨b,c+j,none⟩:=by unfold Addr.add;split<;>simp_all
   rw [hadd]
   exact hc j v hv)
  have hr:(loadVar ty ⟨b,c,none⟩).run P w=.ok (.agg cs.toArray) w:=by
   cases hq:P.info? ty with
   | none=>simp [hq] at hi
   | some i=>
     have hs:i.size=cs.length:=by simpa [hq] using hi
     have f:(isAgg ty).run P w=.ok true w:=by
      unfold isAgg;rw [Sem.run_bind,jE hu w];cases d<;>simp_all
     simp [loadVar,Sem.run_bind,f,sizeOf,typeInfo,hq,hs,hl]
  unfold Oper.wp execOp;simp only [ho,hx,Instr.loadAt,Instr.sureAddr,Sem.run_bind,Sem.run_pure,Result.andThen_ok,hr];exact hK _ _ h
theorem Qn (k:Nat) (hk:k<256) (A:Option Addr) (c:Nat) (l:List OpT) (B:Option Addr) (cb:Nat) (hs:List HarmD) (C:Option Addr) (cc:Nat) (ws:List (Int × ByteArray)) (w:World) (hv:∀o∈l,OpTIn w o) (cw:ListAt w w.heap.size 20 A (l.map Jy)) (hl:l.length<=9223372036854775807) (eu:HarmsAt w w.heap.size B hs) (i6:hs.length<=9223372036854775807) (a1:WsOk w w.heap.size C ws):
 Calls Tryz.prog 3 #[.int .u8 (k:Int),.slice A l.length c,.slice B hs.length cb,.slice C ws.length cc] w λe w'=>e=.returned (.bool true)/\Grew w w':=by
 have HV:=zh hv;have i7:=zh cw;have ex:=zh eu;have cx:=zh a1;have y:=zh (λ(w1:World) (g:Grew w w1)=>ZR A c l 12 w1 (λo ho=>(hv o ho).hold g) (AO cw g) hl oo);have a2:=zh (λ(w1:World) (g:Grew w w1)=>O8 ws C cc 12 oo w1 (AO a1.at_ g) a1.len)
 have a3:MN l 12=false\/(MN l 12=true/\(hs.length:Int)>30)\/(MN l 12=true/\¬(hs.length:Int)>30/\Du ws 12=false)\/(MN l 12=true/\¬(hs.length:Int)>30/\Du ws 12=true):=by
  cases MN l 12<;>cases Du ws 12<;>by_cases h9:(hs.length:Int)>30<;>simp [h9]
 have kr:=a1.len;clear hv cw eu a1;rcases a3 with hf | ⟨hf,i5⟩ | ⟨hf,i5,a0⟩ | ⟨hf,i5,a0⟩
 . rw [hf] at y;clear hf;go_enter Tryz.func3,Tryz.ntmps3;go_wp2_with fail;refine (Cb w).mono ?_;rintro e w1 ⟨rfl,g1⟩;have h:=zh g1;clear g1;go_wp2_with fail;refine (y w1 h).mono ?_;rintro e w2 ⟨rfl,g2⟩;have z:=zh (h.out.trans g2);clear g2;go_wp2_with fail;refine (Cb w2).mono ?_;rintro e w3 ⟨rfl,g3⟩;go_wp2_with fail;go_ret;exact ⟨rfl,z.out.trans g3⟩
 . rw [hf] at y;clear hf;go_enter Tryz.func3,Tryz.ntmps3;go_wp2_with fail;refine (Cb w).mono ?_;rintro e w1 ⟨rfl,g1⟩;have h:=zh g1;clear g1;go_wp2_with fail;refine (y w1 h).mono ?_;rintro e w2 ⟨rfl,g2⟩;have z:=zh (h.out.trans g2);clear g2;go_wp2_with fail;refine (Cb w2).mono ?_;rintro e w3 ⟨rfl,g3⟩;go_wp2_with fail;go_ret;exact ⟨rfl,z.out.trans g3⟩
 . rw [hf] at y;rw [a0] at a2;clear hf a0;go_enter Tryz.func3,Tryz.ntmps3;go_wp2_with fail;refine (Cb w).mono ?_;rintro e w1 ⟨rfl,g1⟩;have h:=zh g1;clear g1;go_wp2_with fail;refine (y w1 h).mono ?_;rintro e w2 ⟨rfl,g2⟩;have z:=zh (h.out.trans g2);clear g2;go_wp2_with fail;refine (a2 w2 z).mono ?_;rintro e w3 ⟨rfl,g3⟩;have P:=zh (z.out.trans g3);clear g3;go_wp2_with fail;refine (Cb w3).mono ?_;rintro e w4 ⟨rfl,g4⟩;go_wp2_with fail;go_ret;exact ⟨rfl,P.out.trans g4⟩
 . obtain ⟨T0,hT,hg,ht,hz⟩:=Su UF (Ob k) (Vs k) Te;have U:=zh (λw1=>IU k hk T0 hT hg ht hz w1);obtain ⟨n,hn⟩:∃n,Ob k=n:=⟨_,rfl⟩;rw [hn] at U;have ks:=zh hf;have cy:=zh (cM hf HV);have kt:=cy.1;have jc:=zh a0;rw [hf] at y;rw [a0] at a2;have jd:=zh (show hs.length<=30 from oo);clear hf a0 hT hg ht hz hn hl i6;go_enter Tryz.func3,Tryz.ntmps3;go_wp2_with fail;refine (Cb w).mono ?_;rintro e w1 ⟨rfl,g1⟩;have h:=zh g1;clear g1;go_wp2_with fail;refine (y w1 h).mono ?_;rintro e w2 ⟨rfl,g2⟩;have z:=zh (h.out.trans g2);clear g2;go_wp2_with fail;refine (a2 w2 z).mono ?_;rintro e w3 ⟨rfl,g3⟩;have P:=zh (z.out.trans g3);clear g3 y a2;go_wp2_with fail;refine (U w3).mono ?_;rintro e w4 ⟨x,E,I0,rfl,gh,gi,gj⟩;have je:=zh gj;have jf:=zh gh;have jg:=zh gi;clear gj gh gi U;go_wp2_with fail
   go_loopg [56] l.length (λgk i' wr=>∃(j:Nat) (D:Dev) (I:Img) (T:Tab) (o:Nat->Prop),j<=l.length/\gk=l.length - j/\i'=.int .i64 j/\VGood D I T n/\I.N<=2+18*j/\Live w3 x D o wr)
   case atStart=>exact ⟨0,E,I0,T0,_,oo,oo,rfl,jf,by rw [jg.out];omega,je⟩
   case round=>
    obtain ⟨j,D,I,T,o,hj,bf,rfl,gr,gs,gt⟩:=hrel;have bk:=zh bf;have a:=zh gr;have bl:=zh gs;have cz:=zh gt;clear bf gr gs gt;by_cases S:j<l.length
    . have jh:(j:Int)<(l.length:Int):=oo;have V:Grew w wr:=P.out.trans cz.base;obtain ⟨b,f,rfl,k5,hc⟩:=aY (AO i7 V) S;obtain ⟨p,hp⟩:∃p,l[j]=p:=⟨_,rfl⟩;have e0:p∈l:=hp▸fq S;have e1:=zh e0;have ku:=zh V;rw [hp] at hc;have ji:∀i v,(Jy p)[i]? =some v->wr.cell? ⟨b,f+j*20+i,none⟩=some v:=hc;have g5:Grew wr ((wr.alloc (.cells #[.int .u8 0,.int .u8 0,.int .u8 0,.int .i64 0,.int .i64 0,.string ⟨#[]⟩,.string ⟨#[]⟩,.int .i64 0,.slice none 0 0,.slice none 0 0,.int .i64 0,.int .i64 0,.int .u8 0,.int .i64 0,.int .i64 0,.int .i64 0,.string ⟨#[]⟩,.int .i64 0,.int .u8 0,.slice none 0 0] 42)).setRow wr.heap.size (Jy p).toArray):=((fh wr).alloc _).setRow (fk _) _;have b5:Blk ((wr.alloc (.cells #[.int .u8 0,.int .u8 0,.int .u8 0,.int .i64 0,.int .i64 0,.string ⟨#[]⟩,.string ⟨#[]⟩,.int .i64 0,.slice none 0 0,.slice none 0 0,.int .i64 0,.int .i64 0,.int .u8 0,.int .i64 0,.int .i64 0,.int .i64 0,.string ⟨#[]⟩,.int .i64 0,.int .u8 0,.slice none 0 0] 42)).setRow wr.heap.size (Jy p).toArray) wr.heap.size 42 (Jy p).toArray:=(fy wr _ _ rfl).setRow _;have y1:=b5.cell 1;change _=some (Value.int .u8 (p.sys:Int)) at y1;have yl:=b5.lt;have e2:=zh g5;have W:=zh b5;clear hc hp e0 V g5 b5;go_wp2_with (first | (refine Nl rfl _ _ rfl b (f+j*20) (by rfl) (Jy p) ji _ Tryz.underlying42 rfl qk ?_) | (refine Ae rfl 42 _ _ rfl wr.heap.size (Jy p).toArray rfl rfl 42 _ (fy wr _ _ rfl) qk qk qk ?_));have e3:=cz.more e2;refine (DY e3 a p.sys (HV p e1).sys).mono ?_;rintro e w6 ⟨s,m,v,o6,rfl,ca⟩;have e4:=W.turned ca.beside (λh9=>h9.2 (.inr ⟨fk _,W.out.lt⟩));have a4:=zh (show Blk w6 wr.heap.size 42 (Ux p) from e4);have jj:=zh ca;have e5:Grew w w6:=P.out.trans ca.held.held.live.base;have jk:=zh ((cy.2 p e1).hold e5);clear e3 ca e4 e5 y1 yl W e2;go_wp2_with (refine Dz rfl 42 _ rfl wr.heap.size rfl 42 (Ux p) _ a4 Tryz.underlying42 rfl qk ?_);refine (Sc jj.held a (Vw p.sys) (by have:=bl.out;have:=cy.1;omega) p jk).mono ?_;rintro e w7 ⟨er,D',o7,I',T',rfl,gl,kj,ad⟩;have c2:=zh (show VGood D' I' T' n/\I'.N<=2+18*(j+1)/\Live w3 x D' o7 w7 from ⟨gl,by have:=bl.out;omega,ad.held.held.live⟩);clear gl kj ad;go_wp2_with fail
      go_roundg (l.length - (j+1))
      case measure=>rw [bk.out];omega
      case rel=>exact ⟨j+1,D',I',T',o7,oo,oo,by go_num,c2.1,c2.2.1,c2.2.2⟩
    . obtain rfl:j=l.length:=oo;go_wp2_with fail;refine (OH cz a 0 oo).mono ?_;rintro e w8 ⟨o8,kp,A8,c8,ys,mb,FD,rfl,gn,kk,kl,ae,bb,bc,bd,aj,al⟩;have e9:=zh gn;have fa:=zh (And.intro ae (And.intro bb (And.intro bc (And.intro bd (And.intro aj al)))));have bn:Grew w8 (w8.alloc (.cells #[.string T.name,.int .i64 T.tracks,.slice A8 T.labels.length c8,.map (some mb)] 53)):=(fh w8).alloc _;have R:Blk (w8.alloc (.cells #[.string T.name,.int .i64 T.tracks,.slice A8 T.labels.length c8,.map (some mb)] 53)) w8.heap.size 53 #[.string T.name,.int .i64 T.tracks,.slice A8 T.labels.length c8,.map (some mb)]:=fy w8 _ _ rfl;clear gn kk kl ae bb bc bd aj al;obtain ⟨w9,cm⟩:∃w9,w9=w8.alloc (.cells #[.string T.name,.int .i64 T.tracks,.slice A8 T.labels.length c8,.map (some mb)] 53):=⟨_,rfl⟩;rw [<-cm] at bn R;have fb:w9.heap.size=w8.heap.size+1:=by rw [cm];simp
      go_wp2_with fail;rw [<-cm];clear cm;have fi:=zh (e9.more bn);have c3:=zh bn;have fj:=zh R;have c4:=zh fb;clear bn R fb;refine (DY fi a 1 oo).mono ?_;rintro e ce ⟨s,m,v,k1,rfl,ec⟩;rw [show Ha 1=2 from rfl] at ec;have t:=zh ec;clear ec;go_wp2_with fail;have jl:=a.len;have jm:=okN a.okn;refine (OP t.held.held.live 1 (D.st.length - 1) oo oo oo hs B cb (ex.on P) jd).mono ?_;rintro e an ⟨D2,H,rfl,_,go,cf,ch⟩;obtain ⟨F,b,gv,gx,gz,g0⟩:=Sx a.hist a.neat (by have:=bl.out;omega) ch;have fl:=zh (show SickV D2 I T n F b H from ⟨gv,gx,gz.trans a.neat.fen,g0,ch.len.trans a.neat.clean.len,ch.pend.trans a.neat.clean.pend,a.size,a.tr,a.good,a.tab⟩);have c5:=zh (t.held.beside go (λ_=>id) cf);have jn:=zh cf.size;have a5:=zh (show Beside w3 _ w9 an from QR t.sub t.beside cf);clear go cf ch gv gx gz g0 jl jm ex;go_wp2_with fail;have V:Grew w an:=P.out.trans c5.held.live.base;obtain ⟨g6,km⟩:=RB jc;refine (Sh ws C cc 8 6 oo oo an (AO cx.at_ V) oo cx.ok (λe he=>by have:=g6 e he;omega)).mono ?_;rintro e ci ⟨vL,rfl,cj,ee⟩;have a6:=zh (P8 (n:=8) (most:=6) oo ws);obtain ⟨L,hL⟩:∃L,Dn 8 6 ws=L:=⟨_,rfl⟩;rw [hL] at cj a6;obtain ⟨AL,cL,g7,_,_,g8⟩:=cj.listAt;rw [fm] at g7;subst g7;have fn:=zh g8;have c6:=zh (show ∀b f,AL=some ⟨b,f,none⟩->an.heap.size<=b/\b<ci.heap.size from λb f e=>cj.own_ge (g:=b) (by rw [e];rfl));have a7:=zh ee;have X:=zh ((fj.turned a5 (λh9=>h9.2 (.inr ⟨fk _,by have:=c4.out;omega⟩))).grew ee);have b0:=X.cell 0;have b1:=X.cell 1;have b2:=X.cell 2;have jo:=X.out.lt;clear V g6 km hL cj g8 ee cx;go_wp2_with fail;obtain ⟨ae,bb,bc,bd,aj,al⟩:=fa.out;have bo:∀q,kp q->¬(w3.heap.size<=q/\¬(o8 q\/(w8.heap.size<=q/\q<w9.heap.size))):=λq hq h9=>h9.2 (.inl (ae q hq).1);have fs:=((bb.hold c3).stay bc a5 bo).hold a7;obtain ⟨ei,ek⟩:=Ox a.good
      have jp:(Lw T).length<=31:=by
       have h1:=Mo T.labels T.labels.length;rw [gP (fk _)] at h1;have h2:=a.good.small.1;have h3:=(GO (Gc T.labels)).length_eq;show (GH (Gc T.labels)).length<=_;omega
      obtain ⟨rs,co⟩:∃rs,Lw T=rs:=⟨_,rfl⟩;rw [co] at ei ek jp;refine (Of A8 c8 ys T ci fs bd _ rfl rs co).mono ?_;rintro e gp ⟨RA,cR,rfl,hR,gR,gq⟩;rw [co] at al
      have jq:(m<ce.heap.size/\v<ce.heap.size)/\ce.heap.size<=an.heap.size/\w9.heap.size<=ce.heap.size:=by
       have h1:=t.held.held.store.lt;have h2:=t.held.vol.lt;have h3:=t.beside.size;have h4:=a5.size;exact ⟨⟨h1.2,h2⟩,jn,h3⟩
      have jr:=t.news;have js:=c4.out;have jt:=a7.size;have ju:=gR.size
      have G:StaleM w3 x s m v n D2 _ (λq=>(kp q\/q=w8.heap.size)\/(an.heap.size<=q/\q<gp.heap.size)) gp w8.heap.size mb wr.heap.size I T A8 RA AL c8 rs L FD:={
       held:=(c5.more a7).more gR
       q:=λq hq=>by
        rcases hq with (hq | hq) | hq
        . have:=ae q hq
          exact ⟨.inl (.inl (t.sub q (.inl this.1))),oo,oo⟩
        . exact ⟨.inl (.inl (t.sub q (.inr ⟨oo,oo⟩))),oo,oo⟩
        . refine ⟨?_,oo,oo⟩
          by_cases h9:q<ci.heap.size
          . exact .inl (.inr ⟨hq.1,h9⟩)
          . exact .inr ⟨oo,hq.2⟩
       blk:=X.grew gR
       qb:=⟨.inl (.inr rfl),.inl (.inl aj)⟩
       data:=by
        have h9:DataM ci mb wr.heap.size kp I T rs FD:=by
         have h8:DataM w9 mb wr.heap.size kp I T rs FD:=al.turned (c3.turned (λ_=>False)) id (λ_ _=>id)
         exact (h8.turned a5 (bo _ aj) bo).turned (a7.turned (λ_=>False)) id (λ_ _=>id)
        have c7:=h9.turned (gR.turned (λ_=>False)) id (λ_ _=>id)
        exact ⟨c7.map,λr hr l hl=>⟨(c7.own r hr l hl).1,λg hg=>.inl (.inl ((c7.own r hr l hl).2 g hg))⟩⟩
       refs:=hR
       rin:=λh0 b f e=>.inr ⟨by have:=gq b f e;omega,Fo hR (by rw [fm];exact h0) b f e⟩
       lst:=AO fn gR
       lin:=λh0 b f e=>.inr ⟨(c6 b f e).1,by have:=(c6 b f e).2;omega⟩ }
      obtain ⟨lo,g9⟩:∃lo,lo=wr.heap.size:=⟨_,rfl⟩;rw [<-g9] at G;have U:=zh G;have fu:=zh (show I.N<=218 from by have:=bl.out;omega);have jv:=zh ei;have jw:=zh ek;clear g9 G ei ek co jq jr js jt ju hR gR gq fs bo ae bb bc bd aj al fa fn c6 X a5 c5 a7 c3 fj c4 t e9 fi b0 b1 b2 jo;go_wp2_with fail
      go_loopg [98] rs.length (λgk i' wr=>∃(j:Nat) (D:Dev) (I':Img) (F:Dev) (b:Bool) (o Q:Nat->Prop),j<=rs.length/\gk=rs.length - j/\i'=.int .i64 j/\SickV D I' T n F b H/\I'.N<=I.N+j/\StaleM w3 x s m v n D o Q wr w8.heap.size mb lo I T A8 RA AL c8 rs L FD/\∀i (hi:i<rs.length) l,j<=i->Ba T rs[i].1 rs[i].2=(l,true)->CS I' l=CS I l)
      case atStart=>exact ⟨0,D2,I,F,b,_,_,oo,oo,rfl,fl,oo,U,λ_ _ _ _ _=>rfl⟩
      case round=>
       obtain ⟨j,D3,I3,F3,b3,o3,Q3,hj,bf,rfl,K,ha,G,hb⟩:=hrel;have bk:=zh bf;have fv:=zh K;have br:=zh ha;have bs:=zh G;have da:=zh hb;clear bf K ha G hb fl U;by_cases S:j<rs.length
       . have jh:(j:Int)<(rs.length:Int):=oo;obtain ⟨rb,f,cp,kn,hd⟩:=JA bs.refs (by rw [fm];omega);subst cp;obtain ⟨⟨r1,r2⟩,hr⟩:∃r,rs[j]=r:=⟨_,rfl⟩;have dd:=hd j (ER (r1,r2)) (by rw [fo,fg S,hr];rfl);have c0:=dd 0 _ rfl;have c1:=dd 1 _ rfl;rw [ik] at c0;have bt:(r1,r2)∈rs:=by rw [<-hr];exact fq S
         obtain ⟨⟨la,hl⟩,cq⟩:=jw.out _ bt;simp only at hl cq;have f0:=da.out j S la (fk _) (by rw [hr];exact hl);obtain ⟨kx,hh⟩:=Vo (r1,r2) cq.1 cq.2;have f1:Grew wr (wr.alloc (.cells #[.int .i64 r1,.int .i64 r2] 32)):=(fh wr).alloc _;have M:Blk (wr.alloc (.cells #[.int .i64 r1,.int .i64 r2] 32)) wr.heap.size 32 #[.int .i64 r1,.int .i64 r2]:=fy wr _ _ rfl;have Y:=bs.more f1;have bv:=Y.data.map.lookup_val O3 Ph Tryz.underlying51 (Pp _) (r1,r2) hh;obtain ⟨AD,cD,cr,_,_,_⟩:=(Y.data.own _ bt la hl).1.listAt;rw [fm] at cr;obtain ⟨nz,cu⟩:∃nz,(CS I la).length=nz:=⟨_,rfl⟩
         have kv:nz<=1024000:=by
          rw [<-cu];unfold CS;rw [fm,io];have h1:=FH la.ext;have h2:=Ko (Bd a.good) r1 r2;rw [hl] at h2;simp only at h2;omega
         rw [cu] at cr;have df:(FD (r1,r2)).getD nilS=.slice AD nz cD:=cr;rw [df] at bv;unfold ID at bv;simp only at bv;have q3:=Y.blk.cell 3;have ql:=Y.blk.lt;have bx:=zh Y;have dk:=zh M;have jx:=zh df;have b4:=zh hl;have jy:=zh bt;have jz:=zh f0;have j0:=zh hr;have j1:=zh cu;have f2:=zh (show wr.heap.size<(wr.alloc (.cells #[.int .i64 r1,.int .i64 r2] 32)).heap.size from qs);clear hd dd hr bt hl cq f0 hh f1 M Y cr df cu bs;go_wp2_with fail;obtain ⟨hm,em⟩:∃hm,hm=wr.alloc (.cells #[.int .i64 r1,.int .i64 r2] 32):=⟨_,rfl⟩;obtain ⟨gb,ep⟩:∃gb,gb=wr.heap.size:=⟨_,rfl⟩;obtain ⟨Q4,eq⟩:∃Q4:Nat->Prop,Q4=λk=>Q3 k\/(wr.heap.size<=k/\k<(wr.alloc (.cells #[.int .i64 r1,.int .i64 r2] 32)).heap.size):=⟨_,rfl⟩;have f3:=zh (show Q4 gb from by rw [eq,ep];exact .inr ⟨fk _,f2⟩);rw [<-eq] at bx;rw [<-em,<-ep] at dk ⊢;rw [<-em] at bx;clear em ep eq f2 bv q3 ql c0 c1 kn
         go_loopg [107] nz (λgk i' wq=>∃(i:Nat) (D:Dev) (F:Dev) (b:Bool) (o Q:Nat->Prop),i<=nz/\gk=nz - i/\i'=.int .i64 i/\SickV D I3 T n F b H/\StaleM w3 x s m v n D o Q wq w8.heap.size mb lo I T A8 (some ⟨rb,f,none⟩) AL c8 rs L FD/\Blk wq gb 32 #[.int .i64 r1,.int .i64 r2]/\Q gb)
         case atStart=>exact ⟨0,D3,F3,b3,_,Q4,oo,oo,rfl,fv,bx,dk,f3⟩
         case round=>
          obtain ⟨i,D5,F5,b5,o5,Q5,hi,hu,rfl,K,G,M,hw⟩:=hrel;have ds:=zh hu;have O:=zh K;have u:=zh G;have W:=zh M;have Z:=zh hw;have y0:=M.cell 0;have y1:=M.cell 1;have yl:=M.lt
          have f4:(132<=D5.st.length/\D5.st.length<=1155)/\D5.pend.length<=900000:=by
           have h1:=K.sick.img.n1;have h2:=K.sick.img.n0;rw [K.len,K.pend];simp;omega
          have b6:=zh f4;clear hu K G M hw f4 bx fv dk f3;by_cases ki:i<nz
          . have kw:(i:Int)<(nz:Int):=oo;have a8:i<(CS I la).length:=by rw [j1.out];exact ki
            obtain ⟨A9,c9,cv,_,_,hx⟩:=(u.data.own _ jy la b4).1.listAt;rw [jx.out] at cv;injection cv with cv h91 h92;clear h91 h92;subst cv;obtain ⟨tx,es⟩:∃tx,(CS I la)[i]=tx:=⟨_,rfl⟩;obtain ⟨b9,k6,rfl,hy,c9⟩:=VH hx a8;rw [es] at c9;have d0:i<AW la.ext*8:=by unfold CS at a8;rw [fm,io] at a8;exact a8
            obtain ⟨q,hq⟩:=Im d0
            have f5:I3.cs q.toNat=tx:=by
             have h1:(CS I3 la)[i]? =(CS I la)[i]? :=by rw [jz.out]
             rw [fg a8,es] at h1;unfold CS at h1;rw [fo,ic d0] at h1;simp only [Option.map_some,hq] at h1;injection h1
            obtain ⟨er,d,aa,_,a3⟩:=O.read b4 hq;rw [f5] at a3;have j2:=zh (I6 u.held b6.1 (by have:=b6.2;omega) a.okn r1 r2 (i:Int) (by unfold okI;omega) F5 d er aa);have j3:=zh (show (er=0/\d=tx)\/((er=11\/er=12)/\d=⟨#[]⟩) from a3);have j4:=zh (And.intro hy c9);clear hx es d0 hq f5 aa a3;go_wp2_with fail;refine j2.mono ?_;rintro e k2 ⟨rfl,o6,eg⟩;have d1:=zh (u.call eg);have a4:=zh (W.turned eg.turned (u.still _ Z));clear eg y0 y1 yl hy c9 j4;rcases j3.out with ⟨rfl,rfl⟩ | ⟨rfl | rfl,rfl⟩
            . go_wp2_with fail
              go_roundg (nz - (i+1))
              case measure=>rw [ds.out];omega
              case rel=>exact ⟨i+1,F5,F5,false,o6,Q5,oo,oo,by go_num,O.next,d1,a4,Z⟩
            . go_wp2_with fail
              go_roundg (nz - (i+1))
              case measure=>rw [ds.out];omega
              case rel=>exact ⟨i+1,F5,F5,false,o6,Q5,oo,oo,by go_num,O.next,d1,a4,Z⟩
            . go_wp2_with fail
              go_roundg (nz - (i+1))
              case measure=>rw [ds.out];omega
              case rel=>exact ⟨i+1,F5,F5,false,o6,Q5,oo,oo,by go_num,O.next,d1,a4,Z⟩
          . obtain rfl:i=nz:=oo;go_wp2_with fail;obtain ⟨G6,e6,h5,h6⟩:=O.write b4 L (by have:=fu.out;have:=br.out;omega);obtain ⟨el,ul,h7,_⟩:=O.label b4;have hQ:=u.q
            refine (NA u.held b6.1 b6.2 a.okn r1 r2 (λE h1 h2=>by
             rw [h7] at h1
             subst h1
             exact RX O (by have:=fu.out;have:=br.out;omega)) L (by have:=a6.len;omega) (λe he=>by have:=(a6.all e he).2;unfold okI;omega) AL cL u.lst (λhne b' off' e=>by
              have h9:=hQ b' (u.lin (length_pos_iff.2 hne) b' off' e)
              exact ⟨.inr h9.1,h9.2⟩) G6 e6 h5).mono ?_
            rintro e k3 ⟨rfl,o7,ad⟩;have d2:=zh (u.call ad);have f6:=zh (W.turned ad.turned (u.still _ Z));have f9:=zh h6;clear h5 h6 h7 hQ ad y0 y1 yl;by_cases eb:e6=0;rotate_left
            . have ky:(e6 != 0)=true:=by rw [gu];exact eb
              have j5:G6=F5:=(f9.out.resolve_right (λh9=>eb h9.1)).2;subst j5;go_wp2_with fail
              go_roundg (rs.length - (j+1))
              case measure=>rw [bk.out];omega
              case rel=>exact ⟨j+1,G6,I3,G6,false,o7,Q5,oo,oo,by go_num,O.next,by have:=br.out;omega,d2,λi hi l hij hl=>da i hi l oo hl⟩
            subst eb;obtain ⟨_,J,ih,av,cp,ii⟩:=f9.out.resolve_left (λh9=>h9.1 rfl);have j6:=zh av;have j7:=zh cp;have j8:=zh ii;have j9:=zh ih
            have ga:(132<=G6.st.length/\G6.st.length<=1155)/\G6.pend.length<=900000:=by
             have h1:=av.sick.img.n1;have h2:=av.sick.img.n0;rw [av.len,av.pend];simp;omega
            have gc:=zh ga;clear ih av cp ii ga;go_wp2_with fail
            go_loopg [150] L.length (λgk i' wq=>∃(i:Nat) (o Q:Nat->Prop),i<=L.length/\gk=L.length - i/\i'=.int .i64 i/\StaleM w3 x s m v n G6 o Q wq w8.heap.size mb lo I T A8 (some ⟨rb,f,none⟩) AL c8 rs L FD/\Blk wq gb 32 #[.int .i64 r1,.int .i64 r2]/\Q gb)
            case atStart=>exact ⟨0,o7,Q5,oo,oo,rfl,d2,f6,Z⟩
            case round=>
             obtain ⟨i4,o8,Q8,k7,iv,rfl,ix,i1,i2⟩:=hrel;have ka:=zh iv;have d3:=zh ix;have kb:=zh i1;have gd:=zh i2;clear iv ix i1 i2 d2 f6;by_cases gg:i4<L.length
             . have kz:=a6.len;have k0:(i4:Int)<(L.length:Int):=oo;obtain ⟨bw,k8,ko,kq,i3⟩:=JA d3.lst (by rw [fm];omega);subst ko;obtain ⟨⟨sa,sd⟩,et⟩:∃e,L[i4]=e:=⟨_,rfl⟩;have d4:=i3 i4 (BB (sa,sd)) (by rw [fo,fg gg,et];rfl);have c0:=d4 0 _ rfl;have c1:=d4 1 _ rfl;rw [ik] at c0;simp only at c0 c1;have d5:(sa,sd)∈L:=by rw [<-et];exact fq gg
               have aa:=j7.out _ d5;simp only at aa;have ge:okI sa:=by have:=(a6.all _ d5).2;simp only at this;unfold okI;omega
               have d6:Grew wr (wr.alloc (.cells #[.int .i64 sa,.string sd] 65)):=(fh wr).alloc _;have gf:Blk (wr.alloc (.cells #[.int .i64 sa,.string sd] 65)) wr.heap.size 65 #[.int .i64 sa,.string sd]:=fy wr _ _ rfl;have d7:=d3.more d6;have a9:=kb.grew d6;have y0:=a9.cell 0;have y1:=a9.cell 1;have yl:=a9.lt;have kc:=zh (I6 d7.held gc.1 (by have:=gc.2;omega) a.okn r1 r2 sa ge G6 sd 0 aa);have ea:=zh d7;have kd:=zh a9;have ke:=zh gf;have kf:=zh (show wr.heap.size<(wr.alloc (.cells #[.int .i64 sa,.string sd] 65)).heap.size from qs);clear i3 d4 et d5 aa ge d6 gf d7 a9;go_wp2_with fail;refine kc.mono ?_;rintro e k4 ⟨rfl,o9,cl⟩;have kg:=zh (ea.call cl);have kh:=zh (kd.turned cl.turned (ea.still _ (.inl gd)));have R:=ke.turned cl.turned (ea.still _ (.inr ⟨fk _,kf⟩));have z1:=R.cell 1;have zl:=R.lt;clear cl R y0 y1 yl c0 c1 kq;go_wp2_with fail
               go_roundg (L.length - (i4+1))
               case measure=>rw [ka.out];omega
               case rel=>exact ⟨i4+1,o9,_,oo,oo,by go_num,kg,kh,.inl gd⟩
             . obtain rfl:i4=L.length:=oo;go_wp2_with fail
               go_roundg (rs.length - (j+1))
               case measure=>rw [bk.out];omega
               case rel=>exact ⟨j+1,G6,J,G6,false,o8,Q8,oo,oo,by go_num,j6,by have:=br.out;have:=j9.out;omega,d3,λi hi l hij hl=>(j8 _ _ l hl (λh9=>by
                have h8:=jU.1 jv j i S hi oo
                rw [j0.out] at h8
                exact h8 h9.symm)).trans (da i hi l oo hl)⟩
       . obtain rfl:j=rs.length:=oo;go_wp2_with fail;go_ret;exact ⟨rfl,P.out.trans bs.held.held.live.base⟩

end
section
open Go.RowKit Go.ChangeShapes Go.WideShapes Go.ChangeAt Go.Deep
theorem Vf {x:Int} (h:Lit.wf (.int .u16 x)=true):0<=x/\x<65536:=by
 simp only [Lit.wf,IntKind.min,IntKind.max,IntKind.signed,IntKind.bits] at h;simp at h;omega
theorem ZD {x:Int} (h:Lit.wf (.int .u8 x)=true):0<=x/\x<256:=by
 simp only [Lit.wf,IntKind.min,IntKind.max,IntKind.signed,IntKind.bits] at h;simp at h;omega
section
variable {H:Type} {enc:TypeId × Value->H} {w:World}
theorem UM {n:Nat} {cs:List Value} {y:DataW H × List MemPlace} (f:cs.length=4) (h:DataW.trod enc Tryz.prog w 0 (λ_=>true) true n 94 cs=some y):∃e:HarmD,e.ok/\cs=hC e:=by
 have hf:=Dv Tryz.underlying94 qk h;obtain ⟨v0,_,_,e0,f0⟩:=hf 0 _ rfl oo;obtain ⟨v1,_,_,e1,f1⟩:=hf 1 _ rfl oo;obtain ⟨v2,_,_,e2,f2⟩:=hf 2 _ rfl oo;obtain ⟨v3,_,_,e3,f3⟩:=hf 3 _ rfl oo;obtain ⟨n0,a,_,w0⟩:=iW Tryz.underlying92 f0;obtain ⟨n1,b,_,w1⟩:=iW Tryz.underlying92 f1;obtain ⟨n2,c,_,w2⟩:=iW Tryz.underlying5 f2;obtain ⟨n3,d,_,w3⟩:=iW Tryz.underlying5 f3;injection a with a _;injection b with b _;injection c with c _;injection d with d _;subst a;subst b;subst c;subst d;have b0:=Vf w0;have b1:=Vf w1;have b2:=ZD w2;have b3:=ZD w3;refine ⟨⟨n0.toNat,n1.toNat,n2.toNat,n3.toNat⟩,⟨by show n0.toNat<_;omega,by show n1.toNat<_;omega,by show n2.toNat<_;omega,by show n3.toNat<_;omega⟩,?_⟩
 match cs,f with
 | [x0,x1,x2,x3],_=>
   simp at e0 e1 e2 e3;rw [e0,e1,e2,e3];unfold hC;simp only [];rw [show ((n0.toNat:Nat):Int)=n0 from oo,show ((n1.toNat:Nat):Int)=n1 from oo,show ((n2.toNat:Nat):Int)=n2 from oo,show ((n3.toNat:Nat):Int)=n3 from oo]
theorem Uv {r:Reach} {b0:Nat} {v:Value} {d:DataW H} {ps:List MemPlace} (hv:Value.okWide Tryz.prog w r b0 23 v) (hd:DataW.Trod enc Tryz.prog w 0 (λ_=>true) true 23 v d ps):
 ∃A c,∃l:List HarmD,v=.slice A l.length c/\l.length<=c/\c<=9223372036854775807/\HarmsAt w w.heap.size A l:=by
 obtain ⟨A,c,l,rfl,h1,h2,h3,h4⟩:=LT (α:=HarmD) (sz:=4) Tryz.underlying23 qk oo hC HarmD.ok (λn cs y hlen h=>UM hlen h) hv hd;exact ⟨A,c,l,rfl,h1,h2,h3,h4⟩
end

end
end Go.Proofs.YtfklieeipokllaaGreat
