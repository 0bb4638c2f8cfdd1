/- Parts of the proof (packed), 22. -/
import Derived.Test.YtmcgbdemcknkaaaGreatDoorCwT
namespace Go.Proofs.YtmcgbdemcknkaaaGreatDoor
set_option linter.all false
set_option maxRecDepth 100000
set_option maxHeartbeats 16000000
open List
section
attribute [local go_sem ↓] Go.wp_at_zero Go.wp_at_succ
open Go.RowKit
theorem IJ (k:Nat) (hk:k<256) (w:World):Calls Tryz.prog 42 #[.int .u8 (k:Int)] w λe w'=>e=.returned (.agg #[.int .i64 (LX k),.int .i64 0])/\Grew w w':=by
 obtain ⟨r,hr⟩:∃r:Nat,k % 3=r:=⟨_,rfl⟩;have b:r<3:=oo;have a:(k:Int) % 3=(r:Int):=oo;have c:Int.tmod (k:Int) 3=(r:Int):=by rw [kB oo];exact a
 have hs:LX k=1+(r:Int):=by unfold LX;rw [hr]
 have d:IntKind.u8.wrap (r:Int)=(r:Int):=IntWalk.u8_in _ oo;have f:IntKind.i64.wrap (r:Int)=(r:Int):=jJ _ oo;have g:IntKind.i64.wrap (1+(r:Int))=1+(r:Int):=jJ _ oo;rw [hs];clear hr hs;go_enter Tryz.func42,Tryz.ntmps42;go_wp2_with fail;refine im (by first | (simp [*,results,Tryz.results42,go_sem];rfl) | simp [*,results,Tryz.results42,go_sem]) rfl ?_;exact ⟨rfl,gG⟩
def YM:ByteArray:=⟨#[86,79,76]⟩
theorem cJ:Cn YM=true:=by decide+kernel
def SH (k:Nat):Nat:=8+k % 9
theorem dQ (k:Nat):okT (SH k:Int)=true:=by unfold okT SH;exact iq oo
theorem Nh (k:Nat) (hk:k<256) (T:Tab) (hT:Nu YM (SH k:Int)=(T,0)) (hg:GoodT T) (ht:T.tracks=(SH k:Int)) (hz:∀i (h:i<(AQ T).length),0<i->(AQ T)[i]=AO 128) (w:World):
 Calls Tryz.prog 14 #[.int .u8 (k:Int)] w λe w'=>∃x E I,e=.returned (.tuple #[ptrV x,.bool true])/\VGood E I T (SH k)/\I.N=2/\Live w x E (λ_=>False) w':=by
 obtain ⟨r,hr⟩:∃r:Nat,k % 9=r:=⟨_,rfl⟩;have l:r<9:=oo;have g:(k:Int) % 9=(r:Int):=oo;have m:Int.tmod (k:Int) 9=(r:Int):=by rw [kB oo];exact g
 obtain ⟨n,hn⟩:∃n,SH k=n:=⟨_,rfl⟩;have b:(n:Int)=8+(r:Int):=by rw [<-hn];unfold SH;rw [hr];omega
 have o:IntKind.u8.wrap (r:Int)=(r:Int):=IntWalk.u8_in _ oo;have p:IntKind.i64.wrap (r:Int)=(r:Int):=jJ _ oo;have q:IntKind.i64.wrap (8+(r:Int))=8+(r:Int):=jJ _ oo;have a:=dQ k;rw [hn] at a hT ht ⊢;have c:=zh (RT n a w);rw [b] at c;have d:=zh (λ(x:Nat) (w1:World) (hl:Live w x (EQ (131+8*n)) (λ_=>False) w1)=>Ss hl a YM cJ T hT hg ht hz);unfold YM at d;clear hr hn a hT hg ht hz;go_enter Tryz.func14,Tryz.ntmps14;go_wp2_with fail;refine c.mono ?_;rintro e w1 ⟨x,rfl,hl⟩;have HL:=zh hl;clear hl b;go_wp2_with fail;refine (IJ 0 oo _).mono ?_;rintro e w2 ⟨rfl,g2⟩;have j:=zh (HL.grew g2);clear g2;rw [show LX 0=1 from rfl];go_wp2_with fail;refine (d x _ j).mono ?_;rintro e w3 ⟨rfl,E,I,hv,hN,f,_⟩;have HR:=zh (show VGood E I T n/\I.N=2/\Live w x E (λ_=>False) w3 from ⟨hv,hN,f⟩);clear hv hN f;go_wp2_with fail;go_ret2;exact ⟨x,E,I,rfl,HR⟩
theorem IZ {w0:World} {x n:Nat} {D:Dev} {out:Nat->Prop} {W:World} {I:Img} {T:Tab} (h:Live w0 x D out W) (hg:VGood D I T n) (k:Nat) (hk:k<256):
 Calls Tryz.prog 15 #[ptrV x,.int .u8 (k:Int)] W λe w'=>∃s m v out',e=.returned (.tuple #[ptrV v,.bool true])/\Mounted w0 x n (LX k) 0 D out W s m v out' w':=by
 have hs:=db k;obtain ⟨h1,h2,_⟩:=okN hg.okn
 have hf:II D (LX k) 0=true:=by
  unfold II DA;rw [iq (by rw [hg.len];omega),iq ⟨hs.1,hs.2,oo,oo⟩];rfl
 have hp:D.pend.length<=980000:=by rw [hg.neat.clean.pend];simp
 have HM:=zh (λ(w1:World) (g1:Grew W w1)=>TN (h.grew g1) hg.okn hg.len hp hs (by omega:(0:Int)<=0/\(0:Int)<=1099511627776) D D T (L7 hg.neat.clean _ _ hf) hg.len hp (hg.table (LX k) 0));clear h hg hs h1 h2 hf hp;go_enter Tryz.func15,Tryz.ntmps15;go_wp2_with fail;refine (IJ k hk _).mono ?_;rintro e w1 ⟨rfl,g1⟩;have HG:=zh g1;clear g1;go_wp2_with fail;refine (HM _ HG).mono ?_;rintro e w2 ⟨s,m,v,o,rfl,hm⟩;have hz:=HG.size;have HR:=zh (show Mounted w0 x n (LX k) 0 D out W s m v o w2 from ⟨hm.held,hm.sub,⟨ij hz hm.news.1,ij hz hm.news.2.1,ij hz hm.news.2.2⟩,(HG.turned _).trans hm.beside,hm.vol.mono λq hq=>⟨ij hz hq.1,hq.2⟩⟩);clear hm hz;go_wp2_with fail;go_ret2;exact ⟨s,m,v,o,rfl,HR⟩

theorem VHeld.beside {w0:World} {x s m v:Nat} {n sy ep:Int} {D D':Dev} {o o':Nat->Prop} {W W':World} (h:VHeld w0 x s m v n sy ep D o W) (hl:Live w0 x D' o' W') (hs:∀k,o k->o' k) (hb:Beside w0 o W W'):VHeld w0 x s m v n sy ep D' o' W':=
 ⟨⟨hl,h.held.store.kept hb (λh9=>h9.2 h.held.os) (λh9=>h9.2 h.held.om),hs _ h.held.os,hs _ h.held.om,h.held.m0⟩,hs _ h.ov,h.v0,h.vol.turned hb (λh9=>h9.2 h.ov) (λk hk h9=>hk.1.elim (λh8=>by have:=h9.1;omega) h9.2) (λk hk=>hk.mono hs)⟩
theorem VHeld.other {w0:World} {x s m v s2 m2 v2:Nat} {n sy ep sy2 ep2:Int} {D D':Dev} {o o':Nat->Prop} {W W':World} (h:VHeld w0 x s2 m2 v2 n sy2 ep2 D o W) (hd:VDid w0 x s m v n sy ep D' o W o' W') {lo:Nat} (hv:VolM W v2 s2 n (λk=>lo<=k/\Far w0 o m2 v2 k)) (a:m<lo/\v<lo/\lo<=s2/\lo<=m2/\lo<=v2):VHeld w0 x s2 m2 v2 n sy2 ep2 D' o' W':=by
 have b:∀k,o k->lo<=k->¬VSet w0 o m v k:=λk h1 h2 h9=>by
  rcases h9 with h9 | h9 | h9
  . exact h9.2 h1
  . omega
  . omega
 refine ⟨⟨hd.held.held.live,h.held.store.kept hd.turned (b _ h.held.os a.2.2.1) (b _ h.held.om a.2.2.2.1),hd.sub _ h.held.os,hd.sub _ h.held.om,h.held.m0⟩,hd.sub _ h.ov,h.v0,hv.turned hd.turned (b _ h.ov a.2.2.2.2) (λk hk h9=>?_) (λk hk=>hk.2.mono hd.sub)⟩;rcases h9 with h9 | h9 | h9
 . exact hk.2.1.elim (λh8=>oo) h9.2
 . have:=hk.1;omega
 . have:=hk.1;omega
theorem Ci (w:World):Calls Tryz.prog 4 #[] w λe w'=>e=.returned (.bool true)/\Grew w w':=by
 obtain ⟨T,hT,hg,ht,hz⟩:=Z6 YM 8 qd cJ
 have D:T=exT:=by
  have:=fr;unfold YM at hT;rw [show (((8:Nat):Int))=8 from rfl] at hT;rw [this] at hT;injection hT with h1 _;exact h1.symm
 subst D;have h:=zh (Nh 0 oo exT hT hg ht hz w);rw [show SH 0=8 from rfl] at h;clear hT hg ht hz;go_enter Tryz.func4,Tryz.ntmps4;go_wp2_with fail;refine h.mono ?_;rintro e w1 ⟨x,E,I,rfl,hv,hN,hl⟩;have HV:=zh hv;have HN:=zh hN;have HL:=zh hl;clear hv hN hl h;go_wp2_with fail;refine (IZ HL HV 0 oo).mono ?_;rintro e w2 ⟨s,m,v,o1,rfl,y⟩;have c:=zh y;clear y;rw [show LX 0=1 from rfl] at c;go_wp2_with fail;refine (IZ c.held.held.live HV 1 oo).mono ?_;rintro e w3 ⟨s2,m2,v2,o2,rfl,a⟩;rw [show LX 1=2 from rfl] at a;have f:=zh a;have F:=zh (c.held.beside a.held.held.live a.sub a.beside);clear a;go_wp2_with fail;refine (ac FE w3 qd).mono ?_;rintro e w4 ⟨rfl,rfl⟩;obtain ⟨D',I',A,B,C⟩:=Z3 HV HN;have i:=zh B;have G:=zh C;have d:Grew w3 ((w3.alloc (.cells #[.int .i64 5,.int .i64 2] 53)).alloc (.cells #[.int .i64 3,.string (Bt FE)] 41)):=((iW w3).alloc _).alloc _;have j:=ik (w3.alloc (.cells #[.int .i64 5,.int .i64 2] 53)) 41 #[.int .i64 3,.string (Bt FE)] (n:=w3.heap.size+1) qs;have l:=(ik w3 53 #[.int .i64 5,.int .i64 2] rfl).alloc (.cells #[.int .i64 3,.string (Bt FE)] 41);obtain ⟨w5,p⟩:∃w5,w5=(w3.alloc (.cells #[.int .i64 5,.int .i64 2] 53)).alloc (.cells #[.int .i64 3,.string (Bt FE)] 41):=⟨_,rfl⟩;have H:w5.heap.size=w3.heap.size+2:=by rw [p];simp
 go_wp2_with fail;rw [<-p] at d j l ⊢;clear p;have J:=zh l;have q:=c.held.held.store.lt.2;have r:=c.held.vol.lt;have K:w2.heap.size<=w3.heap.size:=f.beside.size;have L:=zh (F.more d);have M:=zh (show 132<=E.st.length/\E.st.length<=1155 from by rw [HV.out.len];omega)
 have t:=zh (Q2 L M (by rw [HV.out.neat.clean.pend];simp) HV.okn (λE' h1 _=>by
  rw [HV.out.table 1 0] at h1
  subst h1
  exact Ox HV.neat (by rw [HN.out];omega) oo) 5 2 ⟨#[65]⟩ ⟨#[]⟩ qd qd 1 (by unfold okI;omega) exW qd (λe he=>by unfold exW at he;rw [ia.1 he];unfold okI;simp) (some ⟨w3.heap.size+1,0,none⟩) 1 (Ro j rfl qd) (λ_ b off e=>by
   injection e with e
   injection e with e _ _
   subst e
   exact ⟨.inr (.inr ⟨Nat.le_succ _,oo⟩),oo,oo⟩) D' 0 A)
 rw [show exW.length=1 from rfl] at t;have N:=zh (f.held.more d);have O:=zh (f.vol.turned (d.turned (λ_=>False)) id (λ_ _=>id) (λk hk=>(show w2.heap.size<=k/\Far w (λk=>o2 k\/(w3.heap.size<=k/\k<w5.heap.size)) m2 v2 k from ⟨hk.1,hk.2.mono λ_=>.inl⟩)));have u:=zh (show m<w2.heap.size/\v<w2.heap.size/\w2.heap.size<=s2/\w2.heap.size<=m2/\w2.heap.size<=v2 from ⟨q,r,f.news⟩);clear A B C d j l q r;refine t.mono ?_;rintro e w6 ⟨rfl,o6,g⟩;have U:=zh g;have P:=zh (N.other g O u)
 have o:=zh (J.turned g.turned (λh9=>by
  have:=u.out
  rcases h9 with h9 | h9 | h9
  . exact h9.2 (.inr ⟨iX _,oo⟩)
  . omega
  . omega))
 have Q:=zh (show 132<=D'.st.length/\D'.st.length<=1155 from by rw [i.out.len];omega);have R:=zh (Xk P Q (by rw [i.out.neat.clean.pend];simp) i.okn 5 2 3 (by unfold okI;omega) D' (Bt FE) 0 G);have r0:=o.cell 0;have r1:=o.cell 1;have rl:=o.out.lt;clear g H K;go_wp2_with fail;refine R.mono ?_;rintro e w7 ⟨rfl,o7,z⟩;have S:=zh z.held.held.live.base;clear z r0 r1 rl;have V:((Bt FE).toList==(Bt FE).toList)=true:=beq_self_eq_true _;go_wp2_with fail;go_ret;exact ⟨rfl,S⟩

end
end Go.Proofs.YtmcgbdemcknkaaaGreatDoor
