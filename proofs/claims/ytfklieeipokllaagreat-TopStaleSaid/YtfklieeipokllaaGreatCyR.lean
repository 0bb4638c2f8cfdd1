/- Parts of the proof (packed), 18. -/
import Derived.Test.YtfklieeipokllaaGreatCyP
namespace Go.Proofs.YtfklieeipokllaaGreat
set_option linter.all false
set_option maxRecDepth 100000
set_option maxHeartbeats 16000000
open List
section
open Go.RowKit
theorem KD (s:ByteArray) (i j:Int) (k:Nat) (m:UInt8) (h:okR s i) (hk:k<140) (hm:m≠0):¬okR (Ee s k m) j:=by
 obtain ⟨h1,h2,_⟩:=h;rintro ⟨g1,g2,_⟩;by_cases c1:k<136
 . rw [KA _ _ _ 136 140 (.inl oo),Mc _ _ _ 0 136 (iB _) oo,h2] at g2;exact cI _ _ m (by rw [gO];omega) hm g2.symm
 . rw [Mc _ _ _ 136 140 oo oo,KA _ _ _ 0 136 (.inr oo),<-h2] at g2;have e:=gJ BK g2;rw [PS _ (by rw [OE,gO];omega),PS _ (by rw [gO];omega)] at e;exact dZ _ _ m (by rw [gO];omega) hm e
theorem Jj (i j:Nat) (h:i+4<=140) (hj:j=i+4):blankR.extract i j=Ay 4:=by
 subst hj;apply E1;rw [Eb];show ((List.replicate 140 (0:UInt8)).toArray.toList.drop i).take (i+4 - i)=(List.replicate 4 (0:UInt8)).toArray.toList;rw [drop_replicate,take_replicate,show min (i+4 - i) (140 - i)=4 from oo]
theorem XP:Eg ((Ee blankR 132 33).extract 0 136)≠0#32:=by
 have hl:((Ee blankR 132 33).extract 0 136).data.toList=List.replicate 12 0++(List.replicate 12 0++(List.replicate 12 0++(List.replicate 12 0++(List.replicate 12 0++(List.replicate 12 0++(List.replicate 12 0++(List.replicate 12 0++(List.replicate 12 0++(List.replicate 12 0++(List.replicate 12 0++[33,0,0,0])))))))))):=by
  rw [Eb,Fq];decide+kernel
 have c0:D9 (List.replicate 12 0) 0xffffffff#32=0xd49f4aa2#32:=by decide+kernel
 have c1:D9 (List.replicate 12 0) 0xd49f4aa2#32=0x7b041311#32:=by decide+kernel
 have c2:D9 (List.replicate 12 0) 0x7b041311#32=0x5d9d92d#32:=by decide+kernel
 have c3:D9 (List.replicate 12 0) 0x5d9d92d#32=0xd773c546#32:=by decide+kernel
 have c4:D9 (List.replicate 12 0) 0xd773c546#32=0xa5f4face#32:=by decide+kernel
 have c5:D9 (List.replicate 12 0) 0xa5f4face#32=0xe01da034#32:=by decide+kernel
 have c6:D9 (List.replicate 12 0) 0xe01da034#32=0xc286c65#32:=by decide+kernel
 have c7:D9 (List.replicate 12 0) 0xc286c65#32=0xae0dfb54#32:=by decide+kernel
 have c8:D9 (List.replicate 12 0) 0xae0dfb54#32=0xb3f88c19#32:=by decide+kernel
 have c9:D9 (List.replicate 12 0) 0xb3f88c19#32=0x9650e1c#32:=by decide+kernel
 have c:D9 (List.replicate 12 0) 0x9650e1c#32=0x45cd45d#32:=by decide+kernel
 have cz:D9 [33,0,0,0] 0x45cd45d#32=0x6e6984b0#32:=by decide+kernel
 have ha:∀(a b:List UInt8) (x:BitVec 32),D9 (a++b) x=D9 b (D9 a x):=λa b x=>by unfold D9;rw [iV]
 unfold Eg;rw [hl,show (~~~0#32:BitVec 32)=0xffffffff#32 from qd,ha,c0,ha,c1,ha,c2,ha,c3,ha,c4,ha,c5,ha,c6,ha,c7,ha,c8,ha,c9,ha,c,cz];decide
theorem TM (k:Nat) (m:UInt8) (hk:k<140) (hm:m≠0):¬okR (Ee blankR k m) 33:=by
 rintro ⟨_,g2,g3⟩;have b:EV 33=nv 33:=qd;rw [b] at g3;by_cases c1:132<=k/\k<136
 . by_cases c2:k=132
   . subst c2;rw [Mc _ _ _ 132 136 oo oo,Jj 132 136 oo rfl] at g3;have a:∀x:Fin 256,C9 (Ee (Ay 4) (132 - 132) (UInt8.ofNat x.1))=nv 33->x.1=33:=by decide+kernel
     have:=a ⟨m.toNat,m.toNat_lt⟩ (by rw [UInt8.ofNat_toNat];exact g3);have c:m=33:=UInt8.toNat_inj.1 this;subst c;rw [KA _ _ _ 136 140 (.inl oo),Jj 136 140 oo rfl] at g2;exact XP (by rw [<-g2];decide)
   . have a:∀(y:Fin 3) (x:Fin 256),C9 (Ee (Ay 4) (y.1+1) (UInt8.ofNat x.1))≠nv 33:=by decide+kernel
     rw [Mc _ _ _ 132 136 c1.1 c1.2,Jj 132 136 oo rfl] at g3;have:=a ⟨k - 133,oo⟩ ⟨m.toNat,m.toNat_lt⟩;rw [UInt8.ofNat_toNat] at this;exact this (by rw [show k - 133+1=k - 132 from oo];exact g3)
 . rw [KA _ _ _ 132 136 oo,N3 132 oo] at g3;exact absurd g3 qd
def LO (idx ver:Nat) (s:ByteArray):Prop:=¬okR s (idx:Nat)\/GF s<ver
structure Sick (F:Dev) (I:Img) (H:List Nat):Prop where
 ok:F.Ok
 img:I.Ok
 len:F.st.length=131+I.n
 live:F.failed=false
 pend:F.pend=[]
 noint:AM F=[]
 top:F.at 0=I.topR
 map:∀k,k<32->F.at (1+k)=I.mapR k\/(1+k∈H/\LO (1+k) (I.ms k) (F.at (1+k)))
 dat:∀i,i<I.n->F.at (131+i)=I.datR i\/(131+i∈H/\LO (131+i) (I.vs i) (F.at (131+i)))
theorem Sick.content {F:Dev} {I:Img} {H:List Nat} (h:Sick F I H) (i:Nat):F.content i=F.at i:=by unfold Dev.content;rw [h.pend];rfl
theorem Sick.topI {F:Dev} {I:Img} {H:List Nat} (h:Sick F I H):topI F=⟨AI I.tops,nv I.N,true⟩:=by
 unfold Go.Proofs.YtfklieeipokllaaGreat.topI;rw [h.content,h.top];unfold Img.topR;rw [C8];unfold Img.tops;rw [Zn]
theorem Sick.finD {F:Dev} {I:Img} {H:List Nat} (h:Sick F I H) (sy ep:Int):finD F sy ep=(F,false,0):=by
 unfold Go.Proofs.YtfklieeipokllaaGreat.finD;rw [if_neg (by rw [h.live];simp),if_pos h.noint]
theorem Vj {idx ver:Nat} {s:ByteArray} (h:LO idx ver s) (hv:ver<4294967296):(AJ s (idx:Nat)).ok=false\/((AJ s (idx:Nat)).ok=true/\(AJ s (idx:Nat)).ver≠nv ver):=by
 unfold AJ;by_cases hk:okR s (idx:Nat)
 . rw [if_pos hk];right;refine ⟨rfl,λe=>?_⟩;have h2:=h.resolve_left (λh9=>h9 hk);unfold GF at h2;have e2:C9 (s.extract 128 132)=nv ver:=e;rw [e2,C0 ver hv] at h2;exact Nat.lt_irrefl _ h2
 . rw [if_neg hk];exact .inl rfl

theorem Harmed.content {first last:Nat} {dmg:Bool} {D D':Dev} {I:Img} {H:List Nat} (hh:Harmed first last dmg D D' H) (h:Clean D I) (i:Nat):D'.content i=D'.at i:=by unfold Dev.content;rw [hh.pend,h.pend];rfl
theorem TD (d:ByteArray) (v:U32) (i:Int):okR (Ao d v i) i:=by
 obtain ⟨h1,h2,_,_,h5⟩:=Hs d v i;exact ⟨BS d v i,by rw [h1,h2,Cx],by rw [h5,Cx]⟩
theorem Hi {first last:Nat} {dmg:Bool} {D D':Dev} {I:Img} {H:List Nat} (h:Hist D I) (hh:Harmed first last dmg D D' H) {i ver:Nat} (hi:i∈H) (a:i≠33) {d:ByteArray} {v:U32} (hp:D.at i=Ao d v (i:Nat)) (hv:GF (D.at i)=ver):LO i ver (D'.at i):=by
 rcases hh.inn i hi with ⟨k,m,hk,hm,he⟩ | ⟨_,ho⟩
 . left;rw [he];exact KD _ (i:Nat) _ k m (by rw [hp];exact TD d v (i:Nat)) hk hm
 . right;have:=h.olds i a _ ho;rw [hv] at this;exact this
theorem bS {dmg:Bool} {first last:Nat} {D D':Dev} {I:Img} {H:List Nat} (h:Hist D I) (hh:Harmed first last dmg D D' H) (hf:1<=first) (hi:AM D'=[]):Sick D' I H:=by
 have hc:=h.clean;refine ⟨hh.ok,hc.img,hh.len.trans hc.len,hh.failed.trans hc.live,hh.pend.trans hc.pend,hi,?_,λk hk=>?_,λi hi=>?_⟩
 . rw [hh.out 0 (λh9=>by have:=(hh.rng 0 h9).1;omega),hc.top]
 . by_cases a:1+k∈H
   . exact .inr ⟨a,Hi h hh a oo (hc.map k hk) (M6 hc.toHolds k hk)⟩
   . exact .inl (by rw [hh.out _ a,hc.map k hk])
 . by_cases a:131+i∈H
   . exact .inr ⟨a,Hi h hh a oo (hc.dat i hi) (Ms hc.toHolds i hi)⟩
   . exact .inl (by rw [hh.out _ a,hc.dat i hi])
theorem XK {E:Dev} {l:Wl} {v:U32} (b:l.length<=97) (hc:E.content 33=FS l v):Be E=⟨BE (Bm l v),v,true⟩/\EW E=l.length:=by
 obtain ⟨f0,f1,f2,f3⟩:=PB l v
 have a:Be E=⟨BE (Bm l v),v,true⟩:=by
  unfold Be;rw [hc];exact C8 _ _ 33
 refine ⟨a,?_⟩;unfold EW;rw [a];show (fld (BE (Bm l v)) 1).toNat=_;rw [f1,C0 _ oo]
theorem Sx {D D':Dev} {I:Img} {H:List Nat} (h:Hist D I) (hn:Neat D I) (hN:I.N<1000) (hh:Harmed 1 (D.st.length - 1) false D D' H):∃F b,finD D' 2 0=(F,b,0)/\Sick F I H/\F.fen=D.fen/\F.fuse=none:=by
 have hc:=h.clean;have c:=hh.content hc;have ae:=hn.len;have aj:=hc.len;have h0:0 ∉ H:=λh9=>by have:=(hh.rng 0 h9).1;omega
 have C:D'.at 0=I.topR:=by rw [hh.out 0 h0,hc.top]
 have G:topI D'=⟨AI I.tops,nv I.N,true⟩:=by
  unfold topI;rw [c,C];unfold Img.topR;rw [C8];unfold Img.tops;rw [Zn]
 have p:Calm D' 2 0:=⟨hh.ok,hh.failed.trans hc.live,qd,by rw [hh.fen,hn.fen];show ¬(0:Int)<0;omega⟩
 have g:AM D'=[]->∃F b,finD D' 2 0=(F,b,0)/\Sick F I H/\F.fen=D.fen/\F.fuse=none:=λhi=>by
  have hs:=bS h hh (fk 1) hi;exact ⟨D',false,hs.finD 2 0,hs,hh.fen,hh.fuse.trans hn.fuse⟩
 by_cases O:33∈H
 . rcases hh.inn 33 O with ⟨k,m,hk,hm,he⟩ | ⟨_,ho⟩
   . refine g (Jl D' ?_);unfold Be AJ;rw [c,he,hc.head,if_neg (TM k m hk hm)];rfl
   . rcases h.head _ ho with hb | ⟨l,v,hl,f,a0,aa⟩
     . exact g (FI D' (by rw [c,hb]))
     . have t:=XK (E:=D') f.lim (by rw [c,hl]);have q:v<4294967296:=oo;by_cases A:v=I.N
       . obtain ⟨B,Y⟩:=aa A;by_cases P:∃j,j<l.length/\34+j∈H
         ·
          obtain ⟨j,hj,Z⟩:=P;refine g ?_
          have Q:FZ D'.st.length (Be D').ver (Fb D' j)=false:=by
           unfold Fb FZ;rw [c,t.1];rcases hh.inn _ Z with ⟨k,m,hk,hm,he⟩ | ⟨_,ad⟩
           . rw [he,gE]
             . rfl
             . obtain ⟨d,hd⟩:=f.pack _ (fq hj);exact KD _ ((l[j].1:Nat):Int) _ k m (by rw [B j hj,hd];exact TD ..) hk hm
           . have r:=h.olds (34+j) oo _ ad;rw [B j hj,PE f q _ (fq hj)] at r
             have u:C9 ((D'.at (34+j)).extract 128 132)≠nv v:=λe=>by
              unfold GF at r;rw [e,C0 v q] at r;exact Nat.lt_irrefl _ r
             rw [gF.2 u];simp
          unfold AM D6 Js;rw [if_neg];intro h9;simp only [gZ,iD] at h9
          have:=h9.2.1 (Fb D' j) (by
           unfold CO
           rw [t.2]
           exact ft.2 ⟨j,gU.2 hj,rfl⟩)
          rw [Q] at this;cases this
         ·
          have R:∀j,j<l.length->34+j ∉ H:=λj hj h9=>P ⟨j,hj,h9⟩;have n:Entries D'.st.length l (nv v):=by rw [hh.len];exact f
          have J:=WF D' l (nv v) n (hh.pend.trans hc.pend) hl (λj hj=>by rw [hh.out _ (R j hj),B j hj]) (λ_=>.inl (by rw [G,A]));have w:D'.fuse=none:=hh.fuse.trans hn.fuse;have x:D'.pend=[]:=hh.pend.trans hc.pend;have al:=n.low;have r1:=EM 2 0 l D' p w x n.lt;have k1:=C5 l D' hh.ok n.lt;have y:okW (BL D' l) [(33,blankR)]:=Fd (by rw [k1.len];omega) _ DW;have r2:=EM 2 0 [(33,blankR)] (BL D' l) (p.kept k1) (k1.fuse.trans w) (k1.pend.trans x) y;have k2:=C5 [(33,blankR)] (BL D' l) k1.ok y
          have u:AM D'≠[]:=by
           rw [J];intro h9;have h8:=gJ length h9;unfold wlI at h8;rw [fm,length_nil] at h8;have:=f.pos;omega
          have o:∀i,(BL (BL D' l) [(33,blankR)]).at i=if i=33 then blankR else (Ad l i).getD (D'.at i):=λi=>by
           rw [TH (BL D' l) 33 blankR y i,Ft l D' n.lt i]
          have K:finD D' 2 0=(BL (BL D' l) [(33,blankR)],true,0):=by
           unfold finD;rw [if_neg (by rw [p.live];simp),if_neg u,J,Pg,Gm,r1,if_pos rfl,r2];rfl
          have z:∀i s,Ad l i=some s->D.at i=s:=λi s hs=>Y (i,s) (Ey l i s hs);have av:∀i,33<=i->i<131->Ad l i=none:=λi h1 h2=>B7 _ _ (λe hm hq=>by rcases f.place e hm with h9 | h9<;>omega);have L:(BL (BL D' l) [(33,blankR)]).st.length=D.st.length:=k2.len.trans (k1.len.trans hh.len);obtain ⟨F,hF⟩:∃F,BL (BL D' l) [(33,blankR)]=F:=⟨_,rfl⟩;have S:=k2.fen;have T:=k2.fuse;rw [hF] at k2 o K L;have M:F.pend=[]:=k2.pend.trans (k1.pend.trans x);have U:∀i,F.content i=F.at i:=λi=>by unfold Dev.content;rw [M];rfl
          have V:AM F=[]:=FI F (by rw [U,o,if_pos rfl])
          have W:F.at 0=I.topR:=by
           rw [o,if_neg oo];cases hq:Ad l 0 with
           | some s=>show s=_;rw [<-z 0 s hq,hc.top]
           | none=>exact C
          have X:Sick F I H:=by
           refine ⟨k2.ok,hc.img,L.trans hc.len,k2.failed.trans (k1.failed.trans p.live),M,V,W,λk hk=>?_,λi hi=>?_⟩
           . rw [o,if_neg oo];cases hq:Ad l (1+k) with
             | some s=>left;show s=_;rw [<-z _ s hq,hc.map k hk]
             | none=>
               show D'.at (1+k)=_\/(_/\LO _ _ (D'.at (1+k)));by_cases a:1+k∈H
               . exact .inr ⟨a,Hi h hh a oo (hc.map k hk) (M6 hc.toHolds k hk)⟩
               . exact .inl (by rw [hh.out _ a,hc.map k hk])
           . rw [o,if_neg oo];cases hq:Ad l (131+i) with
             | some s=>left;show s=_;rw [<-z _ s hq,hc.dat i hi]
             | none=>
               show D'.at (131+i)=_\/(_/\LO _ _ (D'.at (131+i)));by_cases a:131+i∈H
               . exact .inr ⟨a,Hi h hh a oo (hc.dat i hi) (Ms hc.toHolds i hi)⟩
               . exact .inl (by rw [hh.out _ a,hc.dat i hi])
          exact ⟨F,true,K,X,by rw [<-hF];exact S.trans (k1.fen.trans hh.fen),by rw [<-hF];exact T.trans (k1.fuse.trans w)⟩
       ·
        refine g ?_;unfold AM D6 R8;rw [if_neg];intro h9;simp only [gZ] at h9;have ht:=h9.2.2.2;rw [G,t.1] at ht;simp only [Bool.or_eq_true,jT,iy,gm] at ht;rcases ht with (ht | ht) | ht
        . cases ht
        . exact A (eN q oo ht)
        . rw [C0 v q,C0 I.N oo] at ht;omega
 . exact g (FI D' (by rw [c,hh.out 33 O,hc.head]))

end
section
attribute [local go_sem ↓] Go.wp_at_zero Go.wp_at_succ
open Go.RowKit
def hC (h:HarmD):List Value:=[.int .u16 (h.raw:Int),.int .u16 (h.at_:Int),.int .u8 (h.mask:Int),.int .u8 (h.back:Int)]
instance:Inhabited HarmD:=⟨⟨0,0,0,0⟩⟩
def HarmsAt (w:World) (B:Nat) (A:Option Addr) (hs:List HarmD):Prop:=(∀h∈hs,h.ok)/\ListAt w B 4 A (hs.map hC)
theorem HarmsAt.on {w w':World} {A:Option Addr} {hs:List HarmD} (h:HarmsAt w w.heap.size A hs) (hg:Grew w w'):HarmsAt w' w'.heap.size A hs:=⟨h.1,(h.2.keep (fk _) hg).mono hg.size⟩
theorem de {w:World} {B:Nat} {A:Option Addr} {hs:List HarmD} (h:HarmsAt w B A hs) {k:Nat} (hk:k<hs.length):
 ∃b off,A=some ⟨b,off,none⟩/\b<B/\w.cell? ⟨b,off+k*4,none⟩=some (.int .u16 (hs[k].raw:Int))/\w.cell? ⟨b,off+k*4+1,none⟩=some (.int .u16 (hs[k].at_:Int))/\w.cell? ⟨b,off+k*4+2,none⟩=some (.int .u8 (hs[k].mask:Int))/\w.cell? ⟨b,off+k*4+3,none⟩=some (.int .u8 (hs[k].back:Int)):=by
 obtain ⟨b,off,e,hb,hc⟩:=h.2 (by rw [fm];omega);have hj:(hs.map hC)[k]? =some (hC hs[k]):=by rw [fo,fg hk];rfl
 exact ⟨b,off,e,hb,by have:=hc k _ hj 0 _ rfl;rwa [ik] at this,hc k _ hj 1 _ rfl,hc k _ hj 2 _ rfl,hc k _ hj 3 _ rfl⟩
def hF (H:List Nat):Int->Option Value:=Dj (H.map λi:Nat=>(i:Int))
theorem bj (H:List Nat) (i:Nat):∀b,upd (hF H) (i:Int) (some (.bool true)) b=hF (i::H) b:=by
 intro b;unfold hF Dj;rw [map_cons];by_cases h:b=(i:Int)
 . subst h;rw [DI,if_pos (gS ..)]
 . rw [DK _ _ h];by_cases h2:b∈H.map λi:Nat=>(i:Int)
   . rw [if_pos h2,if_pos (gM _ h2)]
   . rw [if_neg h2,if_neg (λh9=>(ia.1 h9).elim h h2)]
theorem fI {H:List Nat} {i:Nat} (h:i∈H):hF H (i:Int)=some (.bool true):=if_pos (ft.2 ⟨i,h,rfl⟩)
theorem eU {H:List Nat} {i:Nat} (h:i ∉ H):hF H (i:Int)=none:=if_neg (λh9=>by
 obtain ⟨j,hj,e⟩:=ft.1 h9
 have e2:j=i:=oo
 exact h (e2▸hj))
theorem Uh {first last:Nat} {dmg:Bool} {D:Dev} (hr:first<=last) (hl:last<D.st.length) {p:Dev × List Nat} (hp:Harmed first last dmg D p.1 p.2) (h:HarmD) (d:h.ok):
 (0<Bj p.1 (h.sec first last:Nat)->(Cg p.1 (h.sec first last:Nat) (1+((h.back % Bj p.1 (h.sec first last:Nat):Nat):Int))).2=0)/\(CK p.1 (h.sec first last:Nat) ((h.at_ % 140:Nat):Int) h.bits).2=0:=by
 have hb:first<=h.sec first last/\h.sec first last<=last:=by
  unfold HarmD.sec;have:=ja h.raw (show last - first+1>0 by omega);omega
 have a:Cl p.1 (h.sec first last:Nat)=true:=by
  unfold Cl;exact gD ⟨oo,by rw [hp.len];omega⟩
 constructor
 . intro h0;have he:Bj p.1 (h.sec first last:Nat)=(p.1.olds (h.sec first last)).length:=by unfold Bj;rw [if_pos a,gQ]
   have hm:=ja h.back h0;obtain ⟨b,c⟩:∃b,h.back % Bj p.1 (h.sec first last:Nat)=b:=⟨_,rfl⟩;rw [c,he] at hm;rw [c];unfold Cg;rw [if_neg];rw [a,gQ];intro h9;rcases h9 with h9 | h9 | h9
   . cases h9
   . omega
   . omega
 . have hk:h.at_ % 140<140:=ja _ oo;unfold CK
   rw [if_neg (by
    rw [a]
    intro h9
    rcases h9 with h9 | h9 | h9
    . cases h9
    . omega
    . omega),if_neg (P1 h d)]
theorem fD (m:Nat) (hm:m<256):bits .or .u8 (m:Int) 1=(((UInt8.ofNat (m ||| 1)).toNat:Nat):Int):=by
 have a:∀x:Fin 256,bits .or .u8 (x.1:Int) 1=(((UInt8.ofNat (x.1 ||| 1)).toNat:Nat):Int):=by decide+kernel
 exact a ⟨m,hm⟩

end
section
open Go.RowKit Go.ChangeShapes Go.WideShapes Go.ChangeAt Go.Deep
theorem cn {x:Int} (h:Lit.wf (.int .i64 x)=true):okI x:=by
 simp only [Lit.wf,IntKind.min,IntKind.max,IntKind.signed,IntKind.bits] at h;unfold okI;simp at h;omega
section
variable {H:Type} {enc:TypeId × Value->H} {w:World}
theorem Sz {n:Nat} {cs:List Value} {y:DataW H × List MemPlace} (c:cs.length=2) (h:DataW.trod enc Tryz.prog w 0 (λ_=>true) true n 65 cs=some y):∃e:Int × ByteArray,okI e.1/\cs=BB e:=by
 have hf:=Dv Tryz.underlying65 qk h;obtain ⟨v0,_,_,e0,f0⟩:=hf 0 _ rfl oo;obtain ⟨v1,_,_,e1,f1⟩:=hf 1 _ rfl oo;obtain ⟨n0,a,_,w0⟩:=iW Tryz.underlying3 f0;obtain ⟨n1,b,_,w1⟩:=DataW.trod_string Tryz.underlying9 f1;injection a with a _;injection b with b _;subst a;subst b;refine ⟨(n0,n1),cn w0,?_⟩
 match cs,c with
 | [x0,x1],_=>
   simp at e0 e1;rw [e0,e1];rfl
theorem dt {r:Reach} {b0:Nat} {v:Value} {d:DataW H} {ps:List MemPlace} (hv:Value.okWide Tryz.prog w r b0 24 v) (hd:DataW.Trod enc Tryz.prog w 0 (λ_=>true) true 24 v d ps):
 ∃A c,∃l:List (Int × ByteArray),v=.slice A l.length c/\l.length<=c/\c<=9223372036854775807/\WsOk w w.heap.size A l:=by
 obtain ⟨A,c,l,rfl,h1,h2,h3,h4⟩:=LT (α:=Int × ByteArray) (sz:=2) Tryz.underlying24 qk oo BB (λe=>okI e.1) (λn cs y hlen h=>Sz hlen h) hv hd;exact ⟨A,c,l,rfl,h1,h2,h4,fx h1 h2,h3⟩
end

end
end Go.Proofs.YtfklieeipokllaaGreat
