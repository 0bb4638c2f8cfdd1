/- Parts of the proof (packed), 14. -/
import Derived.Test.YtfklieeipokllaaGreatCzL
namespace Go.Proofs.YtfklieeipokllaaGreat
set_option linter.all false
set_option maxRecDepth 100000
set_option maxHeartbeats 16000000
open List
section
open Go.RowKit
def Fg (D:Dev) (sy ep:Int):Bool:=decide (132<=D.st.length/\D.st.length<=1155) && Cr sy ep
def LE (n:Nat):Img:=⟨n,1,λ_=>1,λ_=>1,λ_=>BI 128⟩
def Ec:ByteArray:=⟨#[]⟩
def GK (n k:Nat):List U32:=(List.range 32).map λj=>if 32*k+j<n then nv 1 else nv 0
def Fe (n:Nat):Wl:=((List.range n).map λi=>(131+i,AZ Ec (nv 1) (131+i:Nat)))++(((List.range 32).map λk=>(1+k,AZ (AM (GK n k)) (nv 1) (1+k:Nat)))++[(0,AZ (AM ((List.range 32).map λ_=>nv 1)) (nv 1) 0),(33,blankR)])
def Gh (D:Dev) (sy ep:Int):Dev × Int:=if Fg D sy ep=false then (D,1) else BS sy ep (puts (Fe (D.st.length - 131))++[.sync]) D
def Io (D:Dev) (sy ep:Int):Dev × Int:=
 if Fg D sy ep=false then (D,1) else if (Bs D sy ep).2.2≠0 then ((Bs D sy ep).1,(Bs D sy ep).2.2) else if (topI (Bs D sy ep).1).ok=false then ((Bs D sy ep).1,11) else ((Bs D sy ep).1,0)
def NC (D:Dev) (sy ep:Int) (i:Int):Dev × ByteArray × Int:=
 if (Bs D sy ep).2.2≠0 then ((Bs D sy ep).1,Ec,(Bs D sy ep).2.2)
 else if i<0\/(D.st.length:Int) - 131<=i then ((Bs D sy ep).1,Ec,2)
 else ((Bs D sy ep).1,if (Dl (Bs D sy ep).1 i.toNat).2=0 then (Dl (Bs D sy ep).1 i.toNat).1 else Ec,(Dl (Bs D sy ep).1 i.toNat).2)
def Ac (n:Nat) (ws:List (Int × ByteArray)):Int:=
 if (ws.any λe=>decide (e.2.size≠128))=true\/¬(ws.map (·.1)).Nodup then 1 else if (ws.any λe=>decide (e.1<0\/(n:Int)<=e.1))=true then 2 else if 64<ws.length then 8 else 0
def Bw (n:Nat) (ws:List (Int × ByteArray)):Wl:=(List.range n).filterMap λ(i:Nat)=>(ws.find? λe=>e.1==(i:Int)).map λe=>(i,e.2)
def El (E:Dev):List Nat->Int
 | []=>0
 | k::l=>if (mapI E k).ok=false then 11 else if (mapI E k).ver≠fld (topI E).data k then 12 else El E l
def GE (E:Dev) (S:Wl) (v:U32):List U32:=(List.range 32).map λk=>if (S.any λe=>e.1 / 32==k)=true then v else fld (topI E).data k
def Es (E:Dev) (S:Wl) (v:U32) (k:Nat):List U32:=(List.range 32).map λj=>if (Ak S (32*k+j)).isSome=true then v else fld (mapI E k).data j
def Gr (E:Dev) (S:Wl) (v:U32):Wl:=(0,AZ (AM (GE E S v)) v 0)::((ksW S).map (λk=>(1+k,AZ (AM (Es E S v k)) v (1+k:Nat)))++S.map λe=>(131+e.1,AZ e.2 v (131+e.1:Nat)))
def Al (D:Dev) (sy ep:Int) (ws:List (Int × ByteArray)):Dev × Int:=
 if (Bs D sy ep).2.2≠0 then ((Bs D sy ep).1,(Bs D sy ep).2.2)
 else if Ac (D.st.length - 131) ws≠0\/ws=[] then ((Bs D sy ep).1,Ac (D.st.length - 131) ws)
 else if (topI (Bs D sy ep).1).ok=false then ((Bs D sy ep).1,11)
 else if El (Bs D sy ep).1 (ksW (Bw (D.st.length - 131) ws))≠0 then ((Bs D sy ep).1,El (Bs D sy ep).1 (ksW (Bw (D.st.length - 131) ws)))
 else if (topI (Bs D sy ep).1).ver=4294967295#32 then ((Bs D sy ep).1,8)
 else BS sy ep (B3 (Gr (Bs D sy ep).1 (Bw (D.st.length - 131) ws) ((topI (Bs D sy ep).1).ver+1#32)) ((topI (Bs D sy ep).1).ver+1#32)) (Bs D sy ep).1
theorem dataS_empty:BD Ec=BI 128:=by decide+kernel
theorem YD {d d':ByteArray} (h:BD d=BD d') (v:U32) (i:Int):AZ d v i=AZ d' v i:=by unfold AZ Gi;rw [h]
theorem Qf (N:Nat):nv N+1#32=nv (N+1):=by
 unfold nv;rw [<-BitVec.ofNat_add]
theorem SH (n:Nat):((Fe n).map (·.1)).Nodup:=by
 unfold Fe;rw [gm,gm,jM,jM];refine jA.2 ⟨?_,jA.2 ⟨?_,qs,?_⟩,?_⟩
 . rw [Nodup,jh];exact nodup_range.imp (λ{a b} hab he=>hab (by simp only [Function.comp] at he;omega))
 . rw [Nodup,jh];exact nodup_range.imp (λ{a b} hab he=>hab (by simp only [Function.comp] at he;omega))
 . intro a ha b hb e;obtain ⟨k,hk,rfl⟩:=gV.1 ha;have:=iP.1 hk;simp only [Function.comp] at e;simp at hb;omega
 . intro a ha b hb e;obtain ⟨k,hk,rfl⟩:=gV.1 ha;simp only [Function.comp] at e;rcases iA.1 hb with hb | hb
   . obtain ⟨j,hj,rfl⟩:=gV.1 hb;have:=iP.1 hj;simp only [Function.comp] at e;omega
   . simp at hb;omega
theorem aY {D:Dev} {n:Nat} (h:D.st.length=131+n):okW D (Fe n):=by
 intro e he;unfold Fe at he;rcases iA.1 he with he | he
 . obtain ⟨i,hi,rfl⟩:=gV.1 he;have:=iP.1 hi;exact ⟨by show 131+i<_;omega,An ..⟩
 rcases iA.1 he with he | he
 . obtain ⟨k,hk,rfl⟩:=gV.1 he;have:=iP.1 hk;exact ⟨by show 1+k<_;omega,An ..⟩
 . simp only [jB,not_mem_nil,or_false] at he;rcases he with rfl | rfl
   . exact ⟨by show 0<_;omega,An ..⟩
   . exact ⟨by show 33<_;omega,Bn⟩
theorem RH {D:Dev} {sy ep:Int} {n:Nat} (hc:Calm D sy ep) (hf:D.fuse=none) (hp:D.pend=[]) (hl:D.st.length=131+n) (h1:1<=n) (h2:n<=1024):
 ∃E,Gh D sy ep=(E,0)/\Clean E (LE n)/\E.fen=D.fen/\E.fuse=none:=by
 have ho:=aY hl;have k:=DA (Fe n) D hc.ok ho
 have hm:∀e∈Fe n,(BF D (Fe n)).at e.1=e.2:=λe he=>by
  rw [Fq _ _ ho,EN _ (SH n) e he];rfl
 refine ⟨BF D (Fe n),?_,⟨⟨k.ok,⟨h1,h2,by show 1<_;omega,λ_=>gM _,λ_=>gM _,λ_ _=>DD 128⟩,k.len.trans hl,k.failed.trans hc.live,k.pend.trans hp,?_,λj hj=>?_,λi hi=>?_⟩,?_⟩,k.fen,k.fuse.trans hf⟩
 . unfold Gh Fg;rw [hc.plain,iB ⟨oo,oo⟩,if_neg qs,hl,show 131+n - 131=n from oo];exact EK sy ep _ D hc hf hp ho
 . have e0:(LE n).topR=AZ (AM ((List.range 32).map λ_=>nv 1)) (nv 1) 0:=by
    unfold Img.topR Img.tops;rfl
   rw [e0];exact hm (0,AZ (AM ((List.range 32).map λ_=>nv 1)) (nv 1) 0) (iX _ (iX _ (iO ..)))
 . refine (hm (1+j,AZ (AM (GK n j)) (nv 1) (1+j:Nat)) (iX _ (ij _ (gV.2 ⟨j,iP.2 hj,rfl⟩)))).trans ?_
   have e1:(LE n).mapL j=GK n j:=by
    unfold Img.mapL GK;apply ie;intro x _;unfold Img.mv;show nv (if 32*j+x<n then 1 else 0)=(if 32*j+x<n then nv 1 else nv 0);split<;>rfl
   unfold Img.mapR;rw [e1];rfl
 . refine (hm (131+i,AZ Ec (nv 1) (131+i:Nat)) (ij _ (gV.2 ⟨i,iP.2 hi,rfl⟩))).trans ?_;unfold Img.datR;have e2:BD Ec=BD ((LE n).cs i):=dataS_empty.trans (GH _ (DD 128)).symm;rw [YD e2];rfl
 . exact hm (33,blankR) (iX _ (iX _ (iJ _ (iO ..))))
theorem X0 {E:Dev} {I:Img} (h:topI E=⟨AM I.tops,nv I.N,true⟩) (S:Wl):GE E S (nv (I.N+1))=(I.upd S).tops:=by
 unfold GE Img.tops;apply ie;intro k hk;have a:=iP.1 hk;rw [h];show (if _ then _ else fld (AM I.tops) k)=nv (if _ then I.N+1 else I.ms k);unfold Img.tops;rw [Pm _ _ a];split<;>rfl
theorem XG {E:Dev} {I:Img} {S:Wl} (k:Nat) (h:mapI E k=⟨AM (I.mapL k),nv (I.ms k),true⟩) (ht:Takes I S):Es E S (nv (I.N+1)) k=(I.upd S).mapL k:=by
 unfold Es Img.mapL;apply ie;intro j hj;have a:=iP.1 hj;rw [h];show (if _ then _ else fld (AM (I.mapL k)) j)=_;unfold Img.mapL;rw [Pm _ _ a];unfold Img.mv;show _=nv (if 32*k+j<I.n then (if (Ak S (32*k+j)).isSome=true then I.N+1 else I.vs (32*k+j)) else 0);by_cases hs:(Ak S (32*k+j)).isSome=true
 . rw [if_pos hs,if_pos hs]
   have b:32*k+j<I.n:=by
    rcases it (32*k+j) I.n with h9 | h9
    . exact h9
    . rw [B5 S _ (λe he hq=>by have:=(ht.lt e he).1;omega)] at hs;cases hs
   rw [if_pos b]
 . rw [if_neg hs,if_neg hs]
theorem cM {E:Dev} {I:Img} {S:Wl} (h:topI E=⟨AM I.tops,nv I.N,true⟩) (a:∀k∈ksW S,mapI E k=⟨AM (I.mapL k),nv (I.ms k),true⟩) (ht:Takes I S):Gr E S (nv (I.N+1))=DE (I.upd S) S:=by
 unfold Gr DE;rw [X0 h S]
 have e1:(ksW S).map (λk=>(1+k,AZ (AM (Es E S (nv (I.N+1)) k)) (nv (I.N+1)) (1+k:Nat)))=(ksW S).map (λk=>(1+k,(I.upd S).mapR k)):=by
  apply ie;intro k hk;obtain ⟨c,x,hx,b⟩:=(CR S k).1 hk;have hm:(I.upd S).ms k=I.N+1:=if_pos (jZ.2 ⟨x,hx,by simpa using b⟩);unfold Img.mapR;rw [XG k (a k hk) ht,hm]
 have e2:S.map (λe=>(131+e.1,AZ e.2 (nv (I.N+1)) (131+e.1:Nat)))=S.map (λe=>(131+e.1,(I.upd S).datR e.1)):=by
  apply ie;intro e he;have hl:=EN S (ME ht) e he;have hc:(I.upd S).cs e.1=e.2:=by show (Ak S e.1).getD _=_;rw [hl];rfl
  have hv:(I.upd S).vs e.1=I.N+1:=if_pos (by rw [hl];rfl);unfold Img.datR;rw [hc,hv]
 rw [e1,e2];rfl
theorem Q5 {E:Dev} {I:Img} {S:Wl} (h:Holds E I) (ht:Takes I S):Gr E S (nv (I.N+1))=DE (I.upd S) S:=cM h.topI (λk hk=>h.mapI k ((CR S k).1 hk).1) ht
theorem Ni {E:Dev} {I:Img} (h:Holds E I):∀l:List Nat,(∀k∈l,k<32)->El E l=0:=by
 intro l
 induction l with
 | nil=>intro _;rfl
 | cons k l ih=>
   intro hl;have hk:=hl k (iO ..);unfold El;rw [h.mapI k hk,h.topI,if_neg qs,if_neg,ih (λx hx=>hl x (iJ _ hx))];intro hc;apply hc;show nv (I.ms k)=fld (AM I.tops) k;unfold Img.tops;rw [Pm _ _ hk]

end
section
attribute [local go_sem ↓] Go.wp_at_zero Go.wp_at_succ
open Go.RowKit
def Od (t:ByteArray) (i:Int):Value:=.agg #[.string t,.string (AQ t i).data,.int .u32 (u32 (AQ t i).ver),.bool (AQ t i).ok]
abbrev ptrV (s:Nat):Value:=.pointer (some ⟨s,0,none⟩)
def C5 (x:Nat) (sy ep:Int) (m:Nat):Array Value:=#[ptrV x,.int .i64 sy,.int .i64 ep,.map (some m)]
structure StoreM (W:World) (s m x:Nat) (sy ep:Int):Prop where
 blk:Blk W s 268 (C5 x sy ep m)
 seen:∃F,MapI W m F/\∀i v,F i=some v->∃t:ByteArray,t.size<=200/\v=Od t i
theorem StoreM.ne {W:World} {s m x:Nat} {sy ep:Int} (h:StoreM W s m x sy ep):¬s=m:=by
 obtain ⟨F,hF,_⟩:=h.seen;exact Cn h.blk hF
theorem StoreM.lt {W:World} {s m x:Nat} {sy ep:Int} (h:StoreM W s m x sy ep):s<W.heap.size/\m<W.heap.size:=by
 obtain ⟨F,hF,_⟩:=h.seen;exact ⟨h.blk.lt,hF.lt⟩
theorem StoreM.kept {W W':World} {s m x:Nat} {sy ep:Int} (h:StoreM W s m x sy ep) {S:Nat->Prop} (ht:Turned S W W') (h1:¬S s) (h2:¬S m):StoreM W' s m x sy ep:=by
 obtain ⟨F,hF,hv⟩:=h.seen;exact ⟨h.blk.turned ht h1,F,hF.turned ht h2,hv⟩
theorem StoreM.grew {W W':World} {s m x:Nat} {sy ep:Int} (h:StoreM W s m x sy ep) (hg:Grew W W'):StoreM W' s m x sy ep:=h.kept (hg.turned (λ_=>False)) (λh=>h) (λh=>h)
def PutAt (W:World) (lo s:Nat) (i:Int) (raw:ByteArray) (v:Value):Prop:=
 ∃a b c,v=.func (.func 182) #[] #[ptrV a,ptrV b,ptrV c]/\lo<=a/\lo<=b/\lo<=c/\Blk W a 110 #[ptrV s]/\Blk W b 3 #[.int .i64 i]/\Blk W c 9 #[.string raw]
theorem Jc (s:Nat) (i:Int) (a:ByteArray) (w:World):Calls Tryz.prog 112 #[ptrV s,.int .i64 i,.string a] w λe w'=>∃v,e=.returned v/\PutAt w' w.heap.size s i a v/\Grew w w':=by
 have b:=((gZ w 110 #[ptrV s] rfl).alloc (.cells #[.int .i64 i] 3)).alloc (.cells #[.string a] 9);have c:=(gZ (w.alloc (.cells #[ptrV s] 110)) 3 #[.int .i64 i] (n:=w.heap.size+1) qs).alloc (.cells #[.string a] 9);have d:=gZ ((w.alloc (.cells #[ptrV s] 110)).alloc (.cells #[.int .i64 i] 3)) 9 #[.string a] (n:=w.heap.size+1+1) qs;have HB:=zh (⟨b,c,d⟩:_/\_/\_);have HG:=zh ((((gK w).alloc (.cells #[ptrV s] 110)).alloc (.cells #[.int .i64 i] 3)).alloc (.cells #[.string a] 9));clear b c d;go_enter Tryz.func112,Tryz.ntmps112;go_wp2_with fail;go_ret;exact ⟨_,rfl,⟨_,_,_,rfl,oo,oo,oo,HB.1,HB.2.1,HB.2.2⟩,HG⟩
section
variable {w0:World} {x s m:Nat} {sy ep:Int} {D:Dev} {out:Nat->Prop} {W:World} (hL:Live w0 x D out W) (hb:Blk W s 268 (C5 x sy ep m)) (hp:D.pend.length<=999999)
include hL hb hp
theorem ao (i:Int) (f:ByteArray) (hr:f.size<=9223372036854775807) (a b c:Nat) (ha:Blk W a 110 #[ptrV s]) (h:Blk W b 3 #[.int .i64 i]) (hc:Blk W c 9 #[.string f]):
 Calls Tryz.prog 182 #[ptrV a,ptrV b,ptrV c] W λe w'=>e=.returned (.int .i64 (BC D sy ep i f).2)/\Live w0 x (BC D sy ep i f).1 out w'/\Beside w0 out W w':=by
 have HW:=zh (N5 (hL.grew (gK W).drew) sy ep i f hp hr);clear hL hp;go_enter Tryz.func182,Tryz.ntmps182;go_wp2_with fail;refine wp_region_still_tail 10 qk qk ?_;simp only [take_succ_cons,take_zero,drop_succ_cons,drop_zero];change wpStill _ _ (World.drew W) (λa'=>wpList _ _ _ _ a' (World.drew W)) _ _;obtain ⟨w2,d⟩:∃w',w'=World.drew W:=⟨_,rfl⟩;rw [<-d];have g:Blk w2 s 268 (C5 x sy ep m):=by rw [d];exact hb.drew
 rw [<-d] at HW;have h1:=g.lt;have s0:=g.cell 0;have s1:=g.cell 1;have s2:=g.cell 2;have hB:Beside w0 out W w2:=by rw [d];exact ((gK W).drew).turned _
 have a0:w2.cell? ⟨a,0,none⟩=some (ptrV s):=by rw [d];exact ha.drew.cell 0
 have b0:w2.cell? ⟨b,0,none⟩=some (.int .i64 i):=by rw [d];exact h.drew.cell 0
 have c0:w2.cell? ⟨c,0,none⟩=some (.string f):=by rw [d];exact hc.drew.cell 0
 have la:a<w2.heap.size:=by rw [d];exact ha.drew.lt
 have lb:b<w2.heap.size:=by rw [d];exact h.drew.lt
 have lc:c<w2.heap.size:=by rw [d];exact hc.drew.lt
 have HB:=zh hB;clear d g ha h hc hb hB;unfold C5 at s0 s1 s2
 repeat still_step
 refine wpStill_nil ?_;go_wp2_with fail;refine HW.mono ?_;rintro e w3 ⟨rfl,j,k⟩;go_wp2_with fail;go_ret;exact ⟨rfl,j,HB.out.trans k⟩
theorem XB:Calls Tryz.prog 115 #[ptrV s] W λe w'=>e=.returned (.int .i64 (CW D sy ep).2)/\Live w0 x (CW D sy ep).1 out w'/\Beside w0 out W w':=by
 have HW:=zh (Xa (hL.grew (gK W).drew) sy ep oo);clear hL hp;go_enter Tryz.func115,Tryz.ntmps115;go_wp2_with fail;refine wp_region_still_tail 8 qk qk ?_;simp only [take_succ_cons,take_zero,drop_succ_cons,drop_zero];change wpStill _ _ (World.drew W) (λa'=>wpList _ _ _ _ a' (World.drew W)) _ _;obtain ⟨w2,b⟩:∃w',w'=World.drew W:=⟨_,rfl⟩;rw [<-b];have a:Blk w2 s 268 (C5 x sy ep m):=by rw [b];exact hb.drew
 rw [<-b] at HW;have h1:=a.lt;have s0:=a.cell 0;have s1:=a.cell 1;have s2:=a.cell 2;have hB:Beside w0 out W w2:=by rw [b];exact ((gK W).drew).turned _
 have HB:=zh hB;clear b a hb hB;unfold C5 at s0 s1 s2
 repeat still_step
 refine wpStill_nil ?_;go_wp2_with fail;refine HW.mono ?_;rintro e w3 ⟨rfl,c,d⟩;go_wp2_with fail;go_ret;exact ⟨rfl,c,HB.out.trans d⟩
theorem W9:Calls Tryz.prog 143 #[ptrV s] W λe w'=>e=.returned (.int .i64 (BC D sy ep 33 blankR).2)/\Live w0 x (BC D sy ep 33 blankR).1 out w'/\Beside w0 out W w':=by
 have HW:=zh (λw9 (hg:Grew W w9)=>N5 (hL.grew hg) sy ep 33 blankR hp (by rw [Bn];omega));clear hL hp;go_enter Tryz.func143,Tryz.ntmps143;go_wp2_with fail;refine AB [10] (λw':World=>w'.cell? ⟨s,0,none⟩=some (ptrV x)/\w'.cell? ⟨s,1,none⟩=some (.int .i64 sy)/\w'.cell? ⟨s,2,none⟩=some (.int .i64 ep)/\s<w'.heap.size) qk ?_;have hS:=(show (λw':World=>w'.cell? ⟨s,0,none⟩=some (ptrV x)/\w'.cell? ⟨s,1,none⟩=some (.int .i64 sy)/\w'.cell? ⟨s,2,none⟩=some (.int .i64 ep)/\s<w'.heap.size) W.drew from ⟨hb.drew.cell 0,hb.drew.cell 1,hb.drew.cell 2,hb.drew.lt⟩);refine tQ 0 3 ?_;refine tT 1 (some 4) hS ?_;refine tQ 2 5 ?_;refine tT 3 (some 6) hS ?_;refine tQ 4 7 ?_;refine tT 5 (some 8) hS ?_;refine tQ 6 9 ?_;refine tT 7 (some 10) hS ?_;clear hS;have d:(Instr.makeSlice 169 (.int .i64 140) (.int .i64 140)).run Tryz.prog W.drew=_:=Hz W.drew 140 oo;have c:Blk (W.alloc (.cells (BK (BI 140)) 5)).drew W.heap.size 5 (BK (BI 140)):=(gZ W _ _ rfl).drew;have b:Grew W (W.alloc (.cells (BK (BI 140)) 5)).drew:=((gK W).alloc _).drew;have f:(convert 169 9 (.slice (some ⟨W.heap.size,0,none⟩) 140 140)).run Tryz.prog (W.alloc (.cells (BK (BI 140)) 5)).drew=.ok (.string blankR) (W.alloc (.cells (BK (BI 140)) 5)).drew:=D5 _ _ 140 (BI 140) (DD 140) c;have a:=hb.grew b;have g:=zh (HW _ b);have HG:=zh b;clear c b;refine tO 8 λK' hK=>?_;go_wp2_with fail;refine hK.out _ _ (.inr (λ_=>⟨a.cell 0,a.cell 1,a.cell 2,a.lt⟩)) ?_;clear hK;refine tO 9 λK' hK=>?_;go_wp2_with fail;refine hK.out _ _ (.inr (λ_=>⟨a.cell 0,a.cell 1,a.cell 2,a.lt⟩)) ?_;clear hK f d;refine tO 10 λK' hK=>?_;go_wp2_with fail;refine g.mono ?_;rintro e w3 ⟨rfl,h,i⟩;go_wp2_with fail;refine hK.out _ _ (.inl (by rfl)) ?_;clear hK;refine tQ 11 2 ?_;refine AA qk ?_ _;go_wp2_with fail;go_ret;exact ⟨rfl,h,(HG.turned _).trans i⟩
end

def Dd:List (Dev->Dev × Int)->Dev->Dev × Int
 | [],D=>(D,0)
 | f::l,D=>if (f D).2=0 then Dd l (f D).1 else f D
theorem aP (a b:List (Dev->Dev × Int)):∀D,Dd (a++b) D=if (Dd a D).2=0 then Dd b (Dd a D).1 else Dd a D:=by
 induction a with
 | nil=>intro D;rfl
 | cons t a ih=>
   intro D;show (if (t D).2=0 then Dd (a++b) (t D).1 else t D)=_;by_cases h:(t D).2=0
   . rw [if_pos h,ih];show _=if (if (t D).2=0 then Dd a (t D).1 else t D).2=0 then Dd b (if (t D).2=0 then Dd a (t D).1 else t D).1 else (if (t D).2=0 then Dd a (t D).1 else t D);rw [if_pos h]
   . rw [if_neg h];show _=if (if (t D).2=0 then Dd a (t D).1 else t D).2=0 then Dd b (if (t D).2=0 then Dd a (t D).1 else t D).1 else (if (t D).2=0 then Dd a (t D).1 else t D);rw [if_neg h,if_neg h]
theorem TX (sy ep:Int) (l:List St):∀D,Dd (l.map λt D=>stD D sy ep t) D=BS sy ep l D:=by
 induction l with
 | nil=>intro D;rfl
 | cons t l ih=>
   intro D;show (if (stD D sy ep t).2=0 then Dd (l.map λt D=>stD D sy ep t) (stD D sy ep t).1 else stD D sy ep t)=(if (stD D sy ep t).2=0 then BS sy ep l (stD D sy ep t).1 else stD D sy ep t);rw [ih]
theorem X1 (fs:List (Dev->Dev × Int)) (k:Nat) (hk:k<fs.length) (D:Dev):Dd (fs.drop k) D=if (fs[k] D).2=0 then Dd (fs.drop (k+1)) (fs[k] D).1 else fs[k] D:=by
 rw [jS hk];rfl
def fd (I:Nat->Dev->World->Prop) (k:Nat) (f:Dev->Dev × Int) (v:Value):Prop:=
 ∃fn first caps,v=.func (.func fn) first caps/\C8 Tryz.prog fn/\∀D w,I k D w->Calls Tryz.prog fn (first++caps) w λe w'=>e=.returned (.int .i64 (f D).2)/\I (k+1) (f D).1 w'
theorem Yy (I:Nat->Dev->World->Prop) (fs:List (Dev->Dev × Int)) (vs:List Value) (m:vs.length=fs.length) (E:vs.length<=9223372036854775807) (A:Option Addr) (c:Nat)
 (n:∀k D w,I k D w->ListAt w w.heap.size 1 A (vs.map λv=>[v])) (l:∀k (h1:k<fs.length) (h2:k<vs.length),fd I k fs[k] vs[k]) (D0:Dev) (w:World) (hI:I 0 D0 w):
 Calls Tryz.prog 118 #[.slice A vs.length c] w λe w'=>e=.returned (.int .i64 (Dd fs D0).2)/\∃j,j<=vs.length/\I j (Dd fs D0).1 w':=by
 have z:=zh n;have B:=zh l;have HI:=zh hI;have o:=zh m;clear n l hI m;go_enter Tryz.func118,Tryz.ntmps118;go_wp2_with fail
 go_loopg [8] vs.length (λgk i wr=>∃(k:Nat) (D:Dev),k<=vs.length/\gk=vs.length - k/\i=.int .i64 k/\I k D wr/\Dd (fs.drop k) D=Dd fs D0)
 case atStart=>exact ⟨0,D0,oo,oo,rfl,HI,rfl⟩
 case round=>
  obtain ⟨k,D,hk,s,rfl,t,u⟩:=hrel;have C:=zh s;have HR:=zh u;have d:=zh t;clear s u t;by_cases h:k<vs.length
  . have p:k<fs.length:=by rw [<-o.out];exact h
    obtain ⟨b,G,rfl,hb,x⟩:=z.out k D wr d (by rw [gO];omega);have q:=x k [vs[k]] (by rw [gP,gJ h];rfl) 0 vs[k] rfl;rw [Nat.mul_one,jH] at q;obtain ⟨fn,first,H,hv,hE,y⟩:=B.out k p h;rw [hv] at q;have HC:=zh (y D wr d);have HE:=zh hE;have f:=zh (X1 fs k p D);clear x hv hE y;obtain ⟨⟨D1,er⟩,hr⟩:∃r,fs[k] D=r:=⟨_,rfl⟩;rw [hr] at HC f;clear hr;unfold C8 at HE;have hE:=HE.out;by_cases h0:er=0
    . subst h0;go_wp2_with fail;refine HC.mono ?_;rintro e w1 ⟨rfl,a⟩;have g:=zh a;clear a hE;go_wp2_with fail
      go_roundg (vs.length - (k+1))
      case measure=>rw [C.out];omega
      case rel=>exact ⟨k+1,D1,oo,oo,by go_num,g,by rw [<-HR.out,f.out];rfl⟩
    . have F:(er != 0)=true:=by rw [iW];exact h0
      have HF:Hid (Dd fs D0=(D1,er)):=zh (by rw [<-HR.out,f.out];exact if_neg h0);clear h0;go_wp2_with fail;refine HC.mono ?_;rintro e w1 ⟨rfl,a⟩;have g:=zh a;clear a hE;go_wp2_with fail;go_ret;rw [HF.out];exact ⟨rfl,k+1,oo,g⟩
  . obtain rfl:k=vs.length:=oo;have HF:Hid (Dd fs D0=(D,0)):=zh (by rw [<-HR.out,drop_of_length_le (by rw [<-o.out];omega)];rfl);go_wp2_with fail;go_ret;rw [HF.out];exact ⟨rfl,vs.length,oo,d⟩

end
section
open Go.RowKit
theorem PQ (D:Dev):(JQ D).1.pend.length<=D.pend.length:=by
 unfold JQ;split
 . exact gM _
 . exact gM _
 . show ((D.pend.filter λr=>!(λ_=>true) r)).length<=_;exact jY _ _
theorem MB (D:Dev) (sy ep:Int):(AY D sy ep).1.pend.length<=D.pend.length:=by
 unfold AY;split
 . exact gM _
 split
 . exact gM _
 split
 . exact PQ D
 . exact PQ D
theorem JJ (D:Dev) (sy ep i:Int) (s:ByteArray):(BC D sy ep i s).1.pend.length<=D.pend.length+1:=by
 have h:=MB D sy ep;unfold BC;split
 . show D.pend.length<=_;omega
 split
 . show D.pend.length<=_;omega
 split
 . omega
 . show ((AY D sy ep).1.pend++[_]).length<=_;rw [iI,jN];omega
theorem Nm (D:Dev) (sy ep:Int):(CW D sy ep).1.pend.length<=D.pend.length:=by
 have h:=MB D sy ep;unfold CW;split
 . exact gM _
 split
 . exact h
 . show ((AY D sy ep).1.pend.filter _).length<=_;exact gY (jY _ _) h
theorem Z1 (D:Dev) (sy ep:Int) (t:St):(stD D sy ep t).1.pend.length<=D.pend.length+1:=by
 cases t with
 | put i s=>exact JJ D sy ep i s
 | sync=>exact Nat.le_succ_of_le (Nm D sy ep)
theorem PA (sy ep:Int) (l:List St):∀D,(BS sy ep l D).1.pend.length<=D.pend.length+l.length:=by
 induction l with
 | nil=>intro D;exact gM _
 | cons t l ih=>
   intro D;have h:=Z1 D sy ep t;show (if (stD D sy ep t).2=0 then BS sy ep l (stD D sy ep t).1 else stD D sy ep t).1.pend.length<=_;rw [i9];split
   . have:=ih (stD D sy ep t).1;omega
   . omega
def Works (w0:World) (x:Nat) (out:Nat->Prop) (W:World) (n:Nat) (v:Value) (f:Dev->Dev × Int):Prop:=
 ∃fn first caps,v=.func (.func fn) first caps/\C8 Tryz.prog fn/\∀D' w',Live w0 x D' out w'->Beside w0 out W w'->D'.pend.length<=990000->Calls Tryz.prog fn (first++caps) w' λe w''=>
  e=.returned (.int .i64 (f D').2)/\Live w0 x (f D').1 out w''/\Beside w0 out w' w''/\(f D').1.pend.length<=D'.pend.length+n
theorem Sb:C8 Tryz.prog 182:=BV Tryz.func182 qk qk
theorem SU:C8 Tryz.prog 115:=BV Tryz.func115 qk qk
theorem Qv:C8 Tryz.prog 143:=BV Tryz.func143 qk qk
theorem Blk.beside {w0 W w':World} {out:Nat->Prop} {g:Nat} {t:TypeId} {cs:Array Value} (h:Blk W g t cs) (hB:Beside w0 out W w') (ho:out g):Blk w' g t cs:=h.turned hB (λhh=>hh.2 ho)
section
variable {w0:World} {x s m:Nat} {sy ep:Int} {out:Nat->Prop} {W:World} (hb:Blk W s 268 (C5 x sy ep m)) (hs:out s)
include hb hs
theorem Pp {lo:Nat} (d:∀k,lo<=k->k<W.heap.size->out k) {i:Int} {raw:ByteArray} (hr:raw.size<=9223372036854775807) {v:Value} (h:PutAt W lo s i raw v):Works w0 x out W 1 v (λD=>BC D sy ep i raw):=by
 obtain ⟨a,b,c,rfl,la,lb,lc,ha,f,hc⟩:=h;refine ⟨_,_,_,rfl,Sb,λD' w' hL hB hp=>?_⟩;refine (ao hL (hb.beside hB hs) oo i raw hr a b c (ha.beside hB (d a la ha.lt)) (f.beside hB (d b lb f.lt)) (hc.beside hB (d c lc hc.lt))).mono ?_;rintro e g ⟨he,h1,h2⟩;exact ⟨he,h1,h2,JJ ..⟩
theorem F6:Works w0 x out W 0 (.func (.func 115) #[ptrV s] #[]) (λD=>CW D sy ep):=by
 refine ⟨_,_,_,rfl,SU,λD' w' hL hB hp=>?_⟩;refine (XB hL (hb.beside hB hs) oo).mono ?_;rintro e a ⟨he,h1,h2⟩;exact ⟨he,h1,h2,Nm ..⟩
theorem Ma:Works w0 x out W 1 (.func (.func 143) #[ptrV s] #[]) (λD=>BC D sy ep 33 blankR):=by
 refine ⟨_,_,_,rfl,Qv,λD' w' hL hB hp=>?_⟩;refine (W9 hL (hb.beside hB hs) oo).mono ?_;rintro e a ⟨he,h1,h2⟩;exact ⟨he,h1,h2,JJ ..⟩
end
def EB (w0:World) (out:Nat->Prop) (A:Option Addr):Prop:=∀b off,A=some ⟨b,off,none⟩->b<w0.heap.size\/out b
theorem ListAt.beside {w0 W w':World} {out:Nat->Prop} {sz:Nat} {A:Option Addr} {rows:List (List Value)} (h:ListAt W W.heap.size sz A rows) (hB:Beside w0 out W w') (hA:EB w0 out A):ListAt w' w'.heap.size sz A rows:=λhl=>by
 obtain ⟨b,off,e,hb,hc⟩:=h hl;refine ⟨b,off,e,gW hb hB.size,λj cs hj i v hi=>?_⟩;rw [hB.cellEq b _ hb (λhh=>by rcases hA b off e with h9 | h9;exact absurd hh.1 oo;exact hh.2 h9)];exact hc j cs hj i v hi
theorem Works.more {w0:World} {x:Nat} {out:Nat->Prop} {W:World} {n n':Nat} {v:Value} {f:Dev->Dev × Int} (h:Works w0 x out W n v f) (hn:n<=n'):Works w0 x out W n' v f:=by
 obtain ⟨fn,first,d,h1,h2,h3⟩:=h;exact ⟨fn,first,d,h1,h2,λD' w' a b c=>(h3 D' w' a b c).mono λe w'' h=>⟨h.1,h.2.1,h.2.2.1,oo⟩⟩
def WorksL (w0:World) (x:Nat) (out:Nat->Prop) (W:World) (n:Nat) (fs:List (Dev->Dev × Int)) (vs:List Value):Prop:=
 vs.length=fs.length/\∀(k:Nat) (f:Dev->Dev × Int) (v:Value),fs[k]? =some f->vs[k]? =some v->Works w0 x out W n v f
theorem WorksL.nil (w0:World) (x:Nat) (out:Nat->Prop) (W:World) (n:Nat):WorksL w0 x out W n [] []:=⟨rfl,λk f v h=>by simp at h⟩
theorem WorksL.app {w0:World} {x:Nat} {out:Nat->Prop} {W:World} {n:Nat} {fs gs:List (Dev->Dev × Int)} {vs us:List Value} (h:WorksL w0 x out W n fs vs) (k:WorksL w0 x out W n gs us):WorksL w0 x out W n (fs++gs) (vs++us):=by
 refine ⟨by rw [iI,iI,h.1,k.1],λj f v h1 h2=>?_⟩;rcases it j fs.length with hj | hj
 . rw [jF hj] at h1;rw [jF (by rw [h.1];exact hj)] at h2;exact h.2 j f v h1 h2
 . rw [iq hj] at h1;rw [iq (by rw [h.1];exact hj),h.1] at h2;exact k.2 _ f v h1 h2
theorem WorksL.cons {w0:World} {x:Nat} {out:Nat->Prop} {W:World} {n:Nat} {fs:List (Dev->Dev × Int)} {vs:List Value} {f:Dev->Dev × Int} {v:Value} (h:Works w0 x out W n v f) (k:WorksL w0 x out W n fs vs):WorksL w0 x out W n (f::fs) (v::vs):=by
 refine ⟨by rw [i9,i9,k.1],λj f' v' h1 h2=>?_⟩;cases j with
 | zero=>
   obtain rfl:f=f':=by simpa using h1
   obtain rfl:v=v':=by simpa using h2
   exact h
 | succ j=>exact k.2 j f' v' (by simpa using h1) (by simpa using h2)
theorem SC {w0:World} {x:Nat} {D:Dev} {out:Nat->Prop} {W:World} (hL:Live w0 x D out W) (n:Nat) (fs:List (Dev->Dev × Int)) (vs:List Value) (hW:WorksL w0 x out W n fs vs)
 (i:D.pend.length+n*vs.length<=990000) (hv:vs.length<=990000) (A:Option Addr) (c:Nat) (b:ListAt W W.heap.size 1 A (vs.map λv=>[v])) (hA:EB w0 out A):
 Calls Tryz.prog 118 #[.slice A vs.length c] W λe w'=>e=.returned (.int .i64 (Dd fs D).2)/\Live w0 x (Dd fs D).1 out w'/\Beside w0 out W w'/\(Dd fs D).1.pend.length<=D.pend.length+n*vs.length:=by
 refine (Yy (λk D' w'=>(k<=vs.length->D'.pend.length<=D.pend.length+n*k)/\Live w0 x D' out w'/\Beside w0 out W w') fs vs hW.1 oo A c (λk D' w' h=>b.beside h.2.2 hA) (λk h1 h2=>?_) D W ⟨λ_=>oo,hL,iR _ _⟩).mono ?_
 . obtain ⟨fn,first,g,hv,hE,hc⟩:=hW.2 k _ _ (gJ h1) (gJ h2);refine ⟨fn,first,g,hv,hE,λD' w' ⟨hp,a,hB⟩=>?_⟩;have h9:=hp oo;have h8:n*k<=n*vs.length:=Nat.mul_le_mul_left n oo;refine (hc D' w' a hB oo).mono ?_;rintro e l ⟨he,d,f,m⟩;exact ⟨he,λ_=>by rw [Nat.mul_succ];omega,d,hB.trans f⟩
 . rintro e w' ⟨he,j,hj,hp,a,hB⟩;have h8:n*j<=n*vs.length:=Nat.mul_le_mul_left n hj;exact ⟨he,a,hB,by have:=hp hj;omega⟩

end
section
attribute [local go_sem ↓] Go.wp_at_zero Go.wp_at_succ
open Go.RowKit
def BM (e:Int × ByteArray):List Value:=[.int .i64 e.1,.string e.2]
theorem GN:(Tryz.prog.info? 196).map (λi=>(i.zero,i.size,i.bytes))=some (some .nilFunc,1,8):=qk
theorem PutAt.same {W W':World} {lo s:Nat} {i:Int} {raw:ByteArray} {v:Value} (h:PutAt W lo s i raw v) (hk:∀k t cs,lo<=k->t≠196->Blk W k t cs->Blk W' k t cs):PutAt W' lo s i raw v:=by
 obtain ⟨a,b,c,rfl,la,lb,lc,ha,d,hc⟩:=h;exact ⟨a,b,c,rfl,la,lb,lc,hk a _ _ la qd ha,hk b _ _ lb qd d,hk c _ _ lc qd hc⟩
theorem PutAt.form {W:World} {lo s:Nat} {i:Int} {raw:ByteArray} {v:Value} (h:PutAt W lo s i raw v):∃caps,v=.func (.func 182) #[] caps:=by
 obtain ⟨a,b,c,rfl,_⟩:=h;exact ⟨_,rfl⟩
theorem PutAt.grew {W W':World} {lo s:Nat} {i:Int} {raw:ByteArray} {v:Value} (h:PutAt W lo s i raw v) (hg:Grew W W'):PutAt W' lo s i raw v:=h.same λ_ _ _ _ _ hb=>hb.grew hg
theorem PutAt.low {W:World} {lo lo' s:Nat} {i:Int} {raw:ByteArray} {v:Value} (h:PutAt W lo s i raw v) (hl:lo'<=lo):PutAt W lo' s i raw v:=by
 obtain ⟨a,b,c,rfl,la,lb,lc,ha,d,hc⟩:=h;exact ⟨a,b,c,rfl,oo,oo,oo,ha,d,hc⟩
theorem PutAt.own {W W':World} {lo s:Nat} {i:Int} {raw:ByteArray} {v u:Value} {rows:List (List Value)} {base:Nat} (h:PutAt W lo s i raw v) (hown:OwnL W base 196 1 u rows) (hg:W.grownBy W' u.ownBlock):PutAt W' lo s i raw v:=
 h.same λ_ _ _ _ hne hb=>hb.own hg (hown.ne_blk hb (λe=>hne e.symm))
def PutsAt (W:World) (lo s:Nat) (L:List (Int × ByteArray)) (vs:List Value):Prop:=vs.length=L.length/\∀(k:Nat) (e:Int × ByteArray) (v:Value),L[k]? =some e->vs[k]? =some v->PutAt W lo s e.1 e.2 v
theorem PutsAt.grew {W W':World} {lo s:Nat} {L:List (Int × ByteArray)} {vs:List Value} (h:PutsAt W lo s L vs) (hg:Grew W W'):PutsAt W' lo s L vs:=⟨h.1,λk e v h1 h2=>(h.2 k e v h1 h2).grew hg⟩
theorem PutsAt.own {W W':World} {lo s:Nat} {L:List (Int × ByteArray)} {vs:List Value} {u:Value} {rows:List (List Value)} {base:Nat} (h:PutsAt W lo s L vs) (hown:OwnL W base 196 1 u rows) (hg:W.grownBy W' u.ownBlock):PutsAt W' lo s L vs:=⟨h.1,λk e v h1 h2=>(h.2 k e v h1 h2).own hown hg⟩
theorem PutsAt.snoc {W:World} {lo s:Nat} {L:List (Int × ByteArray)} {vs:List Value} {e:Int × ByteArray} {v:Value} (h:PutsAt W lo s L vs) (hp:PutAt W lo s e.1 e.2 v):PutsAt W lo s (L++[e]) (vs++[v]):=by
 refine ⟨by rw [iI,iI,h.1];rfl,λk e' v' h1 h2=>?_⟩;rcases it k L.length with hk | hk
 . rw [jF hk] at h1;rw [jF (by rw [h.1];exact hk)] at h2;exact h.2 k e' v' h1 h2
 . rw [iq hk] at h1;rw [iq (by rw [h.1];exact hk),h.1] at h2;have h0:k - L.length=0:=by have:=(iG.1 h1).1;simp at this;omega
   rw [h0] at h1 h2;obtain rfl:e=e':=by simpa using h1
   obtain rfl:v=v':=by simpa using h2
   exact hp
theorem PutsAt.nil (W:World) (lo s:Nat):PutsAt W lo s [] []:=⟨rfl,λk e v h=>by simp at h⟩
theorem Om (l:List Value):∀r∈(l.map λv=>[v]),r.length=1:=by
 intro r hr;obtain ⟨v,_,rfl⟩:=gV.1 hr;rfl
theorem Nk {l:List Value} (h:l.all (·.oneCell')=true):∀r∈(l.map λv=>[v]),r.all (·.oneCell')=true:=by
 intro r hr;obtain ⟨v,hv,rfl⟩:=gV.1 hr;have:=ic.1 h v hv;simp [this]
theorem K8 {w:World} {g B:Nat} {t:TypeId} {l:List Value} (h:Blk w g t l.toArray) (hB:g<B):ListAt w B 1 (some ⟨g,0,none⟩) (l.map λv=>[v]):=λ_=>⟨g,0,rfl,hB,λj cs hj i v hi=>by
 rw [gP] at hj
 cases hq:l[j]? with
 | none=>rw [hq] at hj;cases hj
 | some u=>
   rw [hq] at hj
   obtain rfl:[u]=cs:=by simpa using hj
   have h0:i=0:=by have:=(iG.1 hi).1;simp at this;omega
   subst h0
   obtain rfl:u=v:=by simpa using hi
   rw [h.cell]
   simpa using hq⟩
theorem IE {w:World} {B:Nat} {A:Option Addr} {l:List (Int × ByteArray)} (h:ListAt w B 2 A (l.map BM)) {k:Nat} (hk:k<l.length):
 ∃b off,A=some ⟨b,off,none⟩/\b<B/\w.cell? ⟨b,off+k*2,none⟩=some (.int .i64 l[k].1)/\w.cell? ⟨b,off+k*2+1,none⟩=some (.string l[k].2):=by
 obtain ⟨b,off,e,hb,hc⟩:=h (by rw [gO];omega);have hj:(l.map BM)[k]? =some (BM l[k]):=by rw [gP,gJ hk];rfl
 exact ⟨b,off,e,hb,by have:=hc k _ hj 0 _ rfl;rwa [jH] at this,hc k _ hj 1 _ rfl⟩
theorem Beside.wide {w0 W w1 w2:World} {out out':Nat->Prop} (hg:Grew W w1) (h:Beside w0 out' w1 w2) (ho:∀k,out k->out' k):Beside w0 out W w2:=
 (hg.turned _).trans (h.mono λk _ hk=>⟨hk.1,λh9=>hk.2 (ho k h9)⟩)
theorem WorksL.puts {w0:World} {x s m:Nat} {sy ep:Int} {out:Nat->Prop} {W:World} (hb:Blk W s 268 (C5 x sy ep m)) (hs:out s) {lo:Nat} (a:∀k,lo<=k->k<W.heap.size->out k) {L:List (Int × ByteArray)} (b:∀e∈L,e.2.size<=9223372036854775807) {vs:List Value} (h:PutsAt W lo s L vs):
 WorksL w0 x out W 1 (L.map λe D=>BC D sy ep e.1 e.2) vs:=by
 refine ⟨by rw [gO];exact h.1,λk f v h1 h2=>?_⟩;rw [gP] at h1;cases hq:L[k]? with
 | none=>rw [hq] at h1;cases h1
 | some e=>
   rw [hq] at h1;obtain rfl:=Option.some.inj h1;exact Pp hb hs a (b e (jL hq)) (h.2 k e v hq h2)
def Tb (sy ep:Int) (L:List (Int × ByteArray)):List (Dev->Dev × Int):=L.map (λe D=>BC D sy ep e.1 e.2)++[λD=>CW D sy ep,λD=>BC D sy ep 33 blankR,λD=>CW D sy ep]
theorem Un (sy ep:Int) (L:List (Int × ByteArray)) (D:Dev):Dd (Tb sy ep L) D=BS sy ep (CN L) D:=by
 rw [<-TX];congr 1;unfold Tb CN;rw [gm,jM];rfl
section
variable {w0:World} {x s m:Nat} {sy ep:Int} {D:Dev} {out:Nat->Prop} {W:World} (hL:Live w0 x D out W) (hb:Blk W s 268 (C5 x sy ep m)) (hs:out s) (hp:D.pend.length<=980000)
include hL hb hs hp
theorem aA (L:List (Int × ByteArray)) (hl:L.length<=1000) (j:∀e∈L,e.2.size<=9223372036854775807) {w2:World} {vs:List Value} {v2:Value} (f:Grew W w2) (i:PutsAt w2 W.heap.size s L vs)
 (h:OwnL w2 W.heap.size 196 1 v2 ((vs++([.func (.func 115) #[ptrV s] #[],.func (.func 143) #[ptrV s] #[],.func (.func 115) #[ptrV s] #[]]:List Value)).map λv=>[v])):
 ∃A2 n2 c2,v2=.slice A2 n2 c2/\Calls Tryz.prog 118 #[.slice A2 n2 c2] w2 λe w'=>e=.returned (.int .i64 (BS sy ep (CN L) D).2)/\Live w0 x (BS sy ep (CN L) D).1 out w'/\Beside w0 out W w':=by
 obtain ⟨A2,c2,a,_,_,o⟩:=h.listAt;rw [gO] at a;have l:=i.1;have m:(vs++([.func (.func 115) #[ptrV s] #[],.func (.func 143) #[ptrV s] #[],.func (.func 115) #[ptrV s] #[]]:List Value)).length=L.length+3:=by rw [iI,l];rfl
 refine ⟨A2,_,c2,a,?_⟩;have c:=hb.grew f;have d:(λk=>out k\/(W.heap.size<=k/\k<w2.heap.size)) s:=.inl hs;have n:∀k,W.heap.size<=k->k<w2.heap.size->(λk=>out k\/(W.heap.size<=k/\k<w2.heap.size)) k:=λk h1 h2=>.inr ⟨h1,h2⟩;refine (SC (hL.more f) 1 (Tb sy ep L) _ ((WorksL.puts c d n j i).app (WorksL.cons ((F6 c d).more oo) (WorksL.cons (Ma c d) (WorksL.cons ((F6 c d).more oo) (WorksL.nil ..))))) oo oo A2 c2 o (λb off e=>?_)).mono ?_
 . rcases h.form with ⟨_,h0⟩ | ⟨g,cap,e1,h1,h2,_⟩
   . have:=iH length h0;rw [gO,m,length_nil] at this;omega
   . rw [e1] at a;injection a with a _ _;rw [e] at a;injection a with a;injection a with a _ _;subst a;exact .inr (.inr ⟨h1,h2⟩)
 . rintro e w' ⟨he,h1,h2,_⟩;rw [Un] at he h1;exact ⟨he,h1.few (λk hk=>.inl hk),Beside.wide f h2 (λk hk=>.inl hk)⟩
theorem Kd (L:List (Int × ByteArray)) (hl:L.length<=1000) (q:∀e∈L,e.2.size<=9223372036854775807) (A:Option Addr) (c:Nat) (p:ListAt W W.heap.size 2 A (L.map BM)):
 Calls Tryz.prog 117 #[ptrV s,.slice A L.length c] W λe w'=>e=.returned (.int .i64 (BS sy ep (CN L) D).2)/\Live w0 x (BS sy ep (CN L) D).1 out w'/\Beside w0 out W w':=by
 have HL:=zh hL;have HB:=zh hb;have F:=zh p;have HS:=zh hs;have HP:=zh hp;have G:=zh q;have U:=hb.lt;clear hL hb p hs hp q;go_enter Tryz.func117,Tryz.ntmps117;go_wp2_with fail
 go_loopg [5,10] L.length (λgk u i wr=>∃(k:Nat) (vs:List Value),k<=L.length/\gk=L.length - k/\i=.int .i64 k/\OwnL wr W.heap.size 196 1 u (vs.map λv=>[v])/\PutsAt wr W.heap.size s (L.take k) vs/\Grew W wr)
 case atStart=>exact ⟨0,[],oo,oo,rfl,OwnL.nil ..,PutsAt.nil ..,gK _⟩
 case round=>
  obtain ⟨k,vs,hk,B,rfl,C,E,hg⟩:=hrel;have H:=zh B;have l:=zh C;have f:=zh E;have HG:=zh hg;clear B C E hg;by_cases z:k<L.length
  . obtain ⟨b,Y,rfl,Z,c0,c1⟩:=IE (F.keep (gM _) HG) z;have V:(k:Int)<(L.length:Int):=oo;go_wp2_with fail;refine (Jc _ _ _ _).mono ?_;rintro e w1 ⟨v,rfl,o,g1⟩;obtain ⟨d,rfl⟩:=o.form;have m:Grew W w1:=(HG.alloc _).trans g1;have r:=(l.alloc (.cells #[.int .i64 L[k].1,.string L[k].2] 193)).grew g1;have t:=(f.grew ((gK wr).alloc (.cells #[.int .i64 L[k].1,.string L[k].2] 193))).grew g1;have w:=(o.low (by simp;have:=HG.size;omega):PutAt w1 W.heap.size s L[k].1 L[k].2 (.func (.func 182) #[] d));have I:=zh m;have n:=zh r;have J:=zh (t.snoc (e:=L[k]) w);have K:vs.length=k:=by have:=f.1;rw [i8] at this;omega
    have M:W.heap.size<=w1.heap.size:=m.size;clear o g1 m r t w;go_wp2_with (at_builtin;refine Bi rfl _ _ 195 rfl W.heap.size 196 1 8 .nilFunc Tryz.underlying195 GN rfl qd (w1.alloc (.cells #[.func (.func 182) #[] d] 196)) u5 (vs.map λv=>[v]) [.func (.func 182) #[] d] rfl rfl (n.alloc _) w1.heap.size (by rfl) (gZ _ _ _ rfl) rfl (by rw [gO];omega) (by rw [gO];omega) (by simp;omega) k (by rw [gO];omega) ?_);intro g2 X w2 j a _ _;have g:Grew W w2:=(I.alloc _).own a n.row_ge (gM _);have h:=(J.grew ((gK w1).alloc (.cells #[.func (.func 182) #[] d] 196))).own (n.alloc (.cells #[.func (.func 182) #[] d] 196)) a;have N:=zh j;have O:=zh g;have P:=zh h;have Q:=zh (gU z);clear j a g h;go_wp2_with fail
    go_roundg (L.length - (k+1))
    case measure=>rw [H.out];omega
    case rel=>exact ⟨k+1,vs++[.func (.func 182) #[] d],oo,oo,by go_num,by rw [gm];exact N.out,by rw [Q.out];exact P.out,O⟩
  . obtain rfl:k=L.length:=oo;have K:vs.length=L.length:=by have:=f.1;rw [i8] at this;omega
    have y:L.take L.length=L:=iL (gM _);rw [y] at f;clear y;have M:W.heap.size<=wr.heap.size:=HG.size;go_wp2_with (at_builtin;refine Be (by rfl) _ _ 195 rfl W.heap.size 196 1 8 .nilFunc Tryz.underlying195 GN rfl qd u5 (vs.map λv=>[v]) (([.func (.func 115) #[ptrV s] #[],.func (.func 143) #[ptrV s] #[],.func (.func 115) #[ptrV s] #[]]:List Value).map λv=>[v]) rfl (l.alloc _) (some ⟨wr.heap.size,0,none⟩) 3 3 (by rfl) rfl (Om _) (K8 (gZ _ _ _ rfl) qs) (Nk (by rfl)) (by rw [gO];omega) (by rw [gO];omega) (by simp;omega) ?_);intro v2 w2 j a _;have g:Grew W w2:=(HG.alloc _).own a l.row_ge (gM _);have h:=(f.grew ((gK wr).alloc (.cells #[.func (.func 115) #[ptrV s] #[],.func (.func 143) #[ptrV s] #[],.func (.func 115) #[ptrV s] #[]] 196))).own (l.alloc (.cells #[.func (.func 115) #[ptrV s] #[],.func (.func 143) #[ptrV s] #[],.func (.func 115) #[ptrV s] #[]] 196)) a;have HD:=zh (aA HL HB HS HP L hl G g h (by rw [gm];exact j));clear j a h g;obtain ⟨A2,n2,c2,rfl,hd⟩:=HD.out;have R:=zh hd;clear hd;go_wp2_with fail;refine R.mono ?_;rintro e w3 ⟨rfl,S,T⟩;go_wp2_with fail;go_ret;exact ⟨rfl,S,T⟩
end

def L7 (r:Raw):Value:=.agg #[.string r.data,.int .u32 (u32 r.ver),.bool r.ok]
def Dm (D:Dev) (i:Int):Raw × Int:=if (Gg D i).2=0 then (AQ (Gg D i).1 i,0) else (LB,(Gg D i).2)
theorem Qu (t:ByteArray) (i:Int):∃er,Da t i=((AQ t i).data,(AQ t i).ver,er)/\(AQ t i).ok=(er==0):=by
 unfold AQ Da;by_cases h:okR t i
 . rw [if_pos h,if_pos h];exact ⟨0,rfl,rfl⟩
 . rw [if_neg h,if_neg h];exact ⟨11,rfl,rfl⟩
theorem P2 (w:World):(zeroValue 308).run Tryz.prog w=.ok (.agg #[.string ⟨#[]⟩,.string ⟨#[]⟩,.int .u32 0,.bool false]) w:=qk
theorem W4 (l:List Wr) (i:Nat) (s:ByteArray) (h:FU l i=some s):∃r∈l,r.data=s:=by
 induction l with
 | nil=>cases h
 | cons r l ih=>
   unfold FU at h;cases hq:FU l i with
   | some t=>
     rw [hq] at h;obtain ⟨r',h1,h2⟩:=ih (by rw [hq];exact h);exact ⟨r',iJ _ h1,h2⟩
   | none=>
     rw [hq] at h;dsimp only at h;split at h
     . exact ⟨r,iO ..,Option.some.inj h⟩
     . cases h
theorem Fj {D:Dev} (h:D.Ok) {i:Nat} (hi:i<D.st.length):(D.content i).size=140:=by
 unfold Dev.content;cases hq:FU D.pend i with
 | none=>exact Gc h hi
 | some s=>
   obtain ⟨r,h1,h2⟩:=W4 _ _ _ hq;show s.size=140;rw [<-h2];exact (h.pend r h1).2.1
theorem VR {D:Dev} (h:D.Ok) {i:Int} {t:ByteArray} (hr:Gg D i=(t,0)):t.size=140:=by
 unfold Gg at hr;split at hr
 . injection hr with _ h2;cases h2
 split at hr
 . injection hr with _ h2;cases h2
 . rename_i h1 _;injection hr with h1' _;rw [<-h1'];have:E0 D i=true:=by simpa using h1
   unfold E0 at this;have:=iQ this;exact Fj h oo
theorem Live.turn1 {w0 ws ws':World} {x m:Nat} {D:Dev} {out:Nat->Prop} (h:Live w0 x D out ws) (hm:out m) (h0:w0.heap.size<=m) (ht:Turned (λk=>k=m) ws ws'):Live w0 x D out ws':=by
 obtain ⟨q,hx,hd,a,hf,hn⟩:=h;exact ⟨q,hx,hd.kept ht (λk hk h=>(hn m hm).2 (h▸hk)),a.turn ht (λk hk=>by rw [hk];exact h0),hf,λk hk=>⟨gW (hn k hk).1 ht.size,(hn k hk).2⟩⟩
structure Looked (w0:World) (x s m:Nat) (sy ep:Int) (D:Dev) (out:Nat->Prop) (W w':World):Prop where
 live:Live w0 x D out w'
 store:StoreM w' s m x sy ep
 turned:Turned (λk=>k=m) W w'
structure Held (w0:World) (x s m:Nat) (sy ep:Int) (D:Dev) (out:Nat->Prop) (W:World):Prop where
 live:Live w0 x D out W
 store:StoreM W s m x sy ep
 os:out s
 om:out m
 m0:w0.heap.size<=m
theorem Held.grew {w0:World} {x s m:Nat} {sy ep:Int} {D:Dev} {out:Nat->Prop} {W W':World} (h:Held w0 x s m sy ep D out W) (hg:Grew W W'):Held w0 x s m sy ep D out W':=⟨h.live.grew hg,h.store.grew hg,h.os,h.om,h.m0⟩
theorem Held.after {w0:World} {x s m:Nat} {sy ep:Int} {D:Dev} {out:Nat->Prop} {W W':World} (h:Held w0 x s m sy ep D out W) (hl:Looked w0 x s m sy ep D out W W'):Held w0 x s m sy ep D out W':=⟨hl.live,hl.store,h.os,h.om,h.m0⟩
theorem Looked.trans {w0:World} {x s m:Nat} {sy ep:Int} {D:Dev} {out:Nat->Prop} {a b c:World} (h:Looked w0 x s m sy ep D out a b) (k:Looked w0 x s m sy ep D out b c):Looked w0 x s m sy ep D out a c:=⟨k.live,k.store,h.turned.trans k.turned⟩
theorem Held.same {w0:World} {x s m:Nat} {sy ep:Int} {D:Dev} {out:Nat->Prop} {W W':World} (h:Held w0 x s m sy ep D out W) (hg:Grew W W'):Looked w0 x s m sy ep D out W W':=⟨h.live.grew hg,h.store.grew hg,hg.turned _⟩
theorem Looked.grew {w0:World} {x s m:Nat} {sy ep:Int} {D:Dev} {out:Nat->Prop} {a b c:World} (h:Looked w0 x s m sy ep D out a b) (hg:Grew b c):Looked w0 x s m sy ep D out a c:=⟨h.live.grew hg,h.store.grew hg,h.turned.trans (hg.turned _)⟩
def fD (w0:World) (x s m:Nat) (sy ep:Int) (D:Dev) (out:Nat->Prop) (W:World) (r:Raw × Int) (e:Ending) (w':World):Prop:=
 e=.returned (.tuple #[L7 r.1,.int .i64 r.2])/\Looked w0 x s m sy ep D out W w'
theorem Oh {w0:World} {x s m:Nat} {sy ep:Int} {D:Dev} {out:Nat->Prop} {W w4 w9:World} {F:Int->Option Value} {i:Int} {t:ByteArray} {g:Nat} (h:Held w0 x s m sy ep D out W) (hF:∀i v,F i=some v->∃t:ByteArray,t.size<=200/\v=Od t i) (hm:MapI w4 m (upd F i (some (Od t i))))
 (ht:Turned (λk=>k=m) W w4) (h9:Turned (λk=>k=g) w4 w9) (hg:W.heap.size<=g/\¬g=m/\t.size<=200):Looked w0 x s m sy ep D out W w9:=by
 have hT:Turned (λk=>k=m) W w9:=ht.next h9 (λk hk e=>absurd hk oo);refine ⟨h.live.turn1 h.om h.m0 hT,⟨h.store.blk.turned hT h.store.ne,_,hm.turned h9 (λe=>hg.2.1 e.symm),λj v hj=>?_⟩,hT⟩;by_cases a:j=i
 . subst a;rw [Ea] at hj;exact ⟨t,hg.2.2,(Option.some.inj hj).symm⟩
 . rw [Ey _ _ a] at hj;exact hF j v hj
section
variable {w0:World} {x s m:Nat} {sy ep:Int} {D:Dev} {out:Nat->Prop} {W:World} (h:Held w0 x s m sy ep D out W)
include h
theorem XR (i:Int) (hi:okI i):Calls Tryz.prog 178 #[ptrV s,.int .i64 i] W (fD w0 x s m sy ep D out W (Dm D i)):=by
 obtain ⟨⟨t,er⟩,hr⟩:∃r,Gg D i=r:=⟨_,rfl⟩;have hb:=h.store.blk;unfold C5 at hb;have s0:=hb.cell 0;have s3:=hb.cell 3;have Y:=hb.lt;have N:Blk (W.alloc (.cells #[.string ⟨#[]⟩,.int .u32 0,.bool false] 178)) W.heap.size 178 #[.string ⟨#[]⟩,.int .u32 0,.bool false]:=gZ W _ _ rfl;have HR:=zh (λw1 (hg:Grew W w1)=>Pa (h.live.grew hg) i t er hr);by_cases h0:er=0
 . subst h0;have T:=VR h.live.ok hr;have Z:t.size<=140:=oo;have A:Hid (Dm D i=(AQ t i,0)):=zh (by unfold Dm;rw [hr];exact if_pos rfl);have HH:=zh h;obtain ⟨F,hF,R⟩:=h.store.seen;have H:=zh R;have G:=zh hF;obtain ⟨kl,l⟩:=ET i hi;have O:=zh l;have d:=hF.lookup_ok BB Bj Tryz.underlying266 (P2 _) i l;have z:=zh (λw1 (hg:Grew W w1)=>(hF.grew hg).lookup_ok BB Bj Tryz.underlying266 (P2 _) i l);obtain ⟨eu,hu,S⟩:=Qu t i;have HU:=zh (λw1=>NN t i w1 oo hi _ _ _ hu);have P:=zh S;have Q:=zh h.store.blk;clear d hF R l hu S h hr T;cases y:F i with
   | none=>
      rw [y] at z;clear y;have d:=z.out (W.alloc (.cells #[.string ⟨#[]⟩,.int .u32 0,.bool false] 178)) ((gK W).alloc _);simp only [Option.getD_none,Option.isSome_none] at d;go_enter Tryz.func178,Tryz.ntmps178;go_wp2_with fail;refine (HR _ ((gK W).alloc _)).mono ?_;rintro e w1 ⟨rfl,rfl⟩;go_wp2_with fail;refine (HU _).mono ?_;rintro e w2 ⟨rfl,g2⟩;have p:Grew W w2:=(((gK W).alloc _).alloc _).trans g2;have f:=Q.grew p;have a:=(N.alloc _).grew g2;have p0:=f.cell 0;have p3:=f.cell 3;have pl:=f.lt;have z0:=a.cell 0;have z1:=a.cell 1;have z2:=a.cell 2;have f0:=a.frozen 0;have f1:=a.frozen 1;have f2:=a.frozen 2;have zl:=a.lt;unfold C5 at p0 p3;have q:=zh p;have I:=zh f;have J:=zh a;clear p f a g2 d;go_wp2_with fail;rw [show (eu==0)=(AQ t i).ok from P.out.symm];have g:Grew w2 (w2.alloc (.cells #[.string (AQ t i).data,.int .u32 (u32 (AQ t i).ver),.bool (AQ t i).ok] 178)).drew:=((gK w2).alloc _).drew;have c:Blk (w2.alloc (.cells #[.string (AQ t i).data,.int .u32 (u32 (AQ t i).ver),.bool (AQ t i).ok] 178)).drew w2.heap.size 178 #[.string (AQ t i).data,.int .u32 (u32 (AQ t i).ver),.bool (AQ t i).ok]:=(gZ w2 _ _ rfl).drew;have n:=I.grew g;have u:=J.grew g;have v:=(G.grew q).grew g;have w:=q.out.trans g;have U:=G.out.lt;have V:=q.size;obtain ⟨kl,l⟩:∃kl,keyOf Tryz.prog 3 (intV i)=some kl:=⟨_,O⟩;refine AB [8] (λw':World=>w'.cell? ⟨s,3,none⟩=some (.map (some m))/\s<w'.heap.size/\w'.cell? ⟨w2.heap.size,0,none⟩=some (.string (AQ t i).data)/\w'.cell? ⟨w2.heap.size,1,none⟩=some (.int .u32 (u32 (AQ t i).ver))/\w'.cell? ⟨w2.heap.size,2,none⟩=some (.bool (AQ t i).ok)/\w2.heap.size<w'.heap.size) qk ?_;have hS:=(show (λw':World=>w'.cell? ⟨s,3,none⟩=some (.map (some m))/\s<w'.heap.size/\w'.cell? ⟨w2.heap.size,0,none⟩=some (.string (AQ t i).data)/\w'.cell? ⟨w2.heap.size,1,none⟩=some (.int .u32 (u32 (AQ t i).ver))/\w'.cell? ⟨w2.heap.size,2,none⟩=some (.bool (AQ t i).ok)/\w2.heap.size<w'.heap.size) (w2.alloc (.cells #[.string (AQ t i).data,.int .u32 (u32 (AQ t i).ver),.bool (AQ t i).ok] 178)).drew from ⟨n.cell 3,n.lt,c.cell 0,c.cell 1,c.cell 2,c.lt⟩);clear p0 p3 pl z0 z1 z2 f0 f1 f2 zl;refine tQ 0 56 ?_;refine tT 1 (some 57) hS ?_;refine tQ 2 58 ?_;refine tT 3 (some 59) hS ?_;refine tQ 4 60 ?_;refine tQ 5 61 ?_;refine tT 6 (some 62) hS ?_;refine tQ 7 63 ?_;clear hS;obtain ⟨w3,E⟩:∃w3,w3=(w2.alloc (.cells #[.string (AQ t i).data,.int .u32 (u32 (AQ t i).ver),.bool (AQ t i).ok] 178)).drew:=⟨_,rfl⟩;rw [<-E] at c n u v w ⊢;clear E g;refine tO 8 λK' hK=>?_;refine Dx (.tmp 59) (.tmp 60) (.tmp 63) 266 rfl 308 BB Bj Tryz.underlying266 rfl v i l (Od t i) rfl rfl ?_;intro w4 C o;refine hK.out _ _ (.inl (by rfl)) ?_;clear hK l;refine AA qk ?_ _;have j:=c.turned o oo;have b:=u.turned o oo;have p0:=j.cell 0;have p1:=j.cell 1;have p2:=j.cell 2;have pl:=j.lt;have z0:=b.cell 0;have z1:=b.cell 1;have z2:=b.cell 2;have f0:=b.frozen 0;have f1:=b.frozen 1;have f2:=b.frozen 2;have zl:=b.lt;have B:Turned (λk=>k=m) W w4:=(w.turned _).trans o;have K:=zh B;have L:=zh C;have X:¬W.heap.size=m:=oo;clear C o B j b v n u w c;go_wp2_with fail;refine gw (by first | (simp [*,results,Tryz.results178,go_sem];rfl) | simp [*,results,Tryz.results178,go_sem]) rfl ?_;rw [A.out];refine ⟨rfl,?_⟩;have hT:∀w9,Turned (λk=>k=W.heap.size) w4 w9->Looked w0 x s m sy ep D out W w9:=λw9 h9=>Oh HH H L K h9 oo;exact hT _ (gT)
   | some mv=>
     obtain ⟨t',al,rfl⟩:=H.out i mv y;by_cases M:t'=t
     . subst M;rw [y] at z;clear y;have d:=z.out (W.alloc (.cells #[.string ⟨#[]⟩,.int .u32 0,.bool false] 178)) ((gK W).alloc _);simp only [jO,Option.isSome_some] at d;unfold Od at d;go_enter Tryz.func178,Tryz.ntmps178;go_wp2_with fail;refine (HR _ ((gK W).alloc _)).mono ?_;rintro e w1 ⟨rfl,rfl⟩;go_wp2_with fail;refine gw (by first | (simp [*,results,Tryz.results178,go_sem];rfl) | simp [*,results,Tryz.results178,go_sem]) rfl ?_;rw [A.out];exact ⟨rfl,HH.same (((gK W).alloc _).alloc _)⟩
     . have ad:=OA M;rw [y] at z;clear y M;have d:=z.out (W.alloc (.cells #[.string ⟨#[]⟩,.int .u32 0,.bool false] 178)) ((gK W).alloc _);simp only [jO,Option.isSome_some] at d;unfold Od at d;go_enter Tryz.func178,Tryz.ntmps178;go_wp2_with fail;refine (HR _ ((gK W).alloc _)).mono ?_;rintro e w1 ⟨rfl,rfl⟩;go_wp2_with fail;refine (HU _).mono ?_;rintro e w2 ⟨rfl,g2⟩;have p:Grew W w2:=(((gK W).alloc _).alloc _).trans g2;have f:=Q.grew p;have a:=(N.alloc _).grew g2;have p0:=f.cell 0;have p3:=f.cell 3;have pl:=f.lt;have z0:=a.cell 0;have z1:=a.cell 1;have z2:=a.cell 2;have f0:=a.frozen 0;have f1:=a.frozen 1;have f2:=a.frozen 2;have zl:=a.lt;unfold C5 at p0 p3;have q:=zh p;have I:=zh f;have J:=zh a;clear p f a g2 d;go_wp2_with fail;rw [show (eu==0)=(AQ t i).ok from P.out.symm];have g:Grew w2 (w2.alloc (.cells #[.string (AQ t i).data,.int .u32 (u32 (AQ t i).ver),.bool (AQ t i).ok] 178)).drew:=((gK w2).alloc _).drew;have c:Blk (w2.alloc (.cells #[.string (AQ t i).data,.int .u32 (u32 (AQ t i).ver),.bool (AQ t i).ok] 178)).drew w2.heap.size 178 #[.string (AQ t i).data,.int .u32 (u32 (AQ t i).ver),.bool (AQ t i).ok]:=(gZ w2 _ _ rfl).drew;have n:=I.grew g;have u:=J.grew g;have v:=(G.grew q).grew g;have w:=q.out.trans g;have U:=G.out.lt;have V:=q.size;obtain ⟨kl,l⟩:∃kl,keyOf Tryz.prog 3 (intV i)=some kl:=⟨_,O⟩;refine AB [8] (λw':World=>w'.cell? ⟨s,3,none⟩=some (.map (some m))/\s<w'.heap.size/\w'.cell? ⟨w2.heap.size,0,none⟩=some (.string (AQ t i).data)/\w'.cell? ⟨w2.heap.size,1,none⟩=some (.int .u32 (u32 (AQ t i).ver))/\w'.cell? ⟨w2.heap.size,2,none⟩=some (.bool (AQ t i).ok)/\w2.heap.size<w'.heap.size) qk ?_;have hS:=(show (λw':World=>w'.cell? ⟨s,3,none⟩=some (.map (some m))/\s<w'.heap.size/\w'.cell? ⟨w2.heap.size,0,none⟩=some (.string (AQ t i).data)/\w'.cell? ⟨w2.heap.size,1,none⟩=some (.int .u32 (u32 (AQ t i).ver))/\w'.cell? ⟨w2.heap.size,2,none⟩=some (.bool (AQ t i).ok)/\w2.heap.size<w'.heap.size) (w2.alloc (.cells #[.string (AQ t i).data,.int .u32 (u32 (AQ t i).ver),.bool (AQ t i).ok] 178)).drew from ⟨n.cell 3,n.lt,c.cell 0,c.cell 1,c.cell 2,c.lt⟩);clear p0 p3 pl z0 z1 z2 f0 f1 f2 zl;refine tQ 0 56 ?_;refine tT 1 (some 57) hS ?_;refine tQ 2 58 ?_;refine tT 3 (some 59) hS ?_;refine tQ 4 60 ?_;refine tQ 5 61 ?_;refine tT 6 (some 62) hS ?_;refine tQ 7 63 ?_;clear hS;obtain ⟨w3,E⟩:∃w3,w3=(w2.alloc (.cells #[.string (AQ t i).data,.int .u32 (u32 (AQ t i).ver),.bool (AQ t i).ok] 178)).drew:=⟨_,rfl⟩;rw [<-E] at c n u v w ⊢;clear E g;refine tO 8 λK' hK=>?_;refine Dx (.tmp 59) (.tmp 60) (.tmp 63) 266 rfl 308 BB Bj Tryz.underlying266 rfl v i l (Od t i) rfl rfl ?_;intro w4 C o;refine hK.out _ _ (.inl (by rfl)) ?_;clear hK l;refine AA qk ?_ _;have j:=c.turned o oo;have b:=u.turned o oo;have p0:=j.cell 0;have p1:=j.cell 1;have p2:=j.cell 2;have pl:=j.lt;have z0:=b.cell 0;have z1:=b.cell 1;have z2:=b.cell 2;have f0:=b.frozen 0;have f1:=b.frozen 1;have f2:=b.frozen 2;have zl:=b.lt;have B:Turned (λk=>k=m) W w4:=(w.turned _).trans o;have K:=zh B;have L:=zh C;have X:¬W.heap.size=m:=oo;clear C o B j b v n u w c;go_wp2_with fail;refine gw (by first | (simp [*,results,Tryz.results178,go_sem];rfl) | simp [*,results,Tryz.results178,go_sem]) rfl ?_;rw [A.out];refine ⟨rfl,?_⟩;have hT:∀w9,Turned (λk=>k=W.heap.size) w4 w9->Looked w0 x s m sy ep D out W w9:=λw9 h9=>Oh HH H L K h9 oo;exact hT _ (gT)
 . have ae:(er != 0)=true:=by rw [iW];exact h0
   have A:Hid (Dm D i=(LB,er)):=zh (by unfold Dm;rw [hr];exact if_neg h0);have HH:=zh h;clear h h0 hr hb;go_enter Tryz.func178,Tryz.ntmps178;go_wp2_with fail;refine (HR _ ((gK W).alloc _)).mono ?_;rintro e w1 ⟨rfl,rfl⟩;go_wp2_with fail;refine gw (by first | (simp [*,results,Tryz.results178,go_sem];rfl) | simp [*,results,Tryz.results178,go_sem]) rfl ?_;rw [A.out];exact ⟨rfl,HH.same ((gK W).alloc _)⟩
end

def Oy (D:Dev):Raw × Int:=((Dm D 0).1,if (Dm D 0).2=0 then (if (Dm D 0).1.ok=true then 0 else 11) else (Dm D 0).2)
def C7 (D:Dev) (i:Int) (v:BitVec 32):Raw × Int:=
 if (Dm D i).2≠0 then (LB,(Dm D i).2) else if (Dm D i).1.ok=false then (LB,11) else if (Dm D i).1.ver≠v then (LB,12) else ((Dm D i).1,0)
theorem Cd {w0:World} {x s m:Nat} {sy ep:Int} {D:Dev} {out:Nat->Prop} {W w1 w9:World} (h:Held w0 x s m sy ep D out W) (hl:Looked w0 x s m sy ep D out W w1) (ht:Turned (λk=>W.heap.size<=k) w1 w9):Looked w0 x s m sy ep D out W w9:=by
 have hT:Turned (λk=>k=m) W w9:=hl.turned.next ht (λk hk e=>absurd hk oo);have a:=h.store.lt;exact ⟨h.live.turn1 h.om h.m0 hT,hl.store.kept ht oo oo,hT⟩
theorem Blk.looked {w0:World} {x s m:Nat} {sy ep:Int} {D:Dev} {out:Nat->Prop} {w1 w2:World} {g:Nat} {t:TypeId} {cs:Array Value} (hb:Blk w1 g t cs) (hl:Looked w0 x s m sy ep D out w1 w2) (hg:¬g=m):Blk w2 g t cs:=hb.turned hl.turned hg
section
variable {w0:World} {x s m:Nat} {sy ep:Int} {D:Dev} {out:Nat->Prop} {W:World} (h:Held w0 x s m sy ep D out W)
include h
theorem FG (i:Int) (hi:okI i) (d:ByteArray) (v:BitVec 32) (k:Bool) (er:Int) (hr:Dm D i=(⟨d,v,k⟩,er)):Calls Tryz.prog 178 #[ptrV s,.int .i64 i] W λe w'=>e=.returned (.tuple #[.agg #[.string d,.int .u32 (u32 v),.bool k],.int .i64 er])/\Looked w0 x s m sy ep D out W w':=by
 have:=XR h i hi;rw [hr] at this;exact this
theorem RG:Calls Tryz.prog 104 #[ptrV s] W (fD w0 x s m sy ep D out W (Oy D)):=by
 obtain ⟨⟨⟨d,v,k⟩,er⟩,hr⟩:∃r,Dm D 0=r:=⟨_,rfl⟩;have hz:Blk (W.alloc (.cells #[.string ⟨#[]⟩,.int .u32 0,.bool false] 178)) W.heap.size 178 #[.string ⟨#[]⟩,.int .u32 0,.bool false]:=gZ W _ _ rfl;have f:=zh (λw1 (hg:Grew W w1)=>FG (h.grew hg) 0 (by unfold okI;omega) d v k er hr);have g:=h.store.lt.2;have HH:=zh h;have HZ:=zh hz;clear h hz;by_cases h0:er=0
 . subst h0;cases k with
   | true=>
     have HT:Hid (Oy D=(⟨d,v,true⟩,0)):=zh (by unfold Oy;rw [hr];rfl);clear hr;go_enter Tryz.func104,Tryz.ntmps104;go_wp2_with fail;refine (f _ ((gK W).alloc _)).mono ?_;rintro e w1 ⟨rfl,b⟩;have a:=HZ.looked b oo;have z0:=a.cell 0;have z1:=a.cell 1;have z2:=a.cell 2;have f0:=a.frozen 0;have f1:=a.frozen 1;have f2:=a.frozen 2;have zl:=a.lt;have c:=zh ((HH.same ((gK W).alloc (.cells #[.string ⟨#[]⟩,.int .u32 0,.bool false] 178))).trans b);clear b a;go_wp2_with fail;refine gw (by first | (simp [*,results,Tryz.results104,go_sem];rfl) | simp [*,results,Tryz.results104,go_sem]) rfl ?_;rw [HT.out];exact ⟨rfl,Cd HH c (gT)⟩
   | false=>
     have HT:Hid (Oy D=(⟨d,v,false⟩,11)):=zh (by unfold Oy;rw [hr];rfl);clear hr;go_enter Tryz.func104,Tryz.ntmps104;go_wp2_with fail;refine (f _ ((gK W).alloc _)).mono ?_;rintro e w1 ⟨rfl,b⟩;have a:=HZ.looked b oo;have z0:=a.cell 0;have z1:=a.cell 1;have z2:=a.cell 2;have f0:=a.frozen 0;have f1:=a.frozen 1;have f2:=a.frozen 2;have zl:=a.lt;have c:=zh ((HH.same ((gK W).alloc (.cells #[.string ⟨#[]⟩,.int .u32 0,.bool false] 178))).trans b);clear b a;go_wp2_with fail;refine gw (by first | (simp [*,results,Tryz.results104,go_sem];rfl) | simp [*,results,Tryz.results104,go_sem]) rfl ?_;rw [HT.out];exact ⟨rfl,Cd HH c (gT)⟩
 . have i:(er==0)=false:=by rw [iD];exact h0
   have HT:Hid (Oy D=(⟨d,v,k⟩,er)):=zh (by unfold Oy;rw [hr];show (_,if er=0 then _ else er)=_;rw [if_neg h0]);clear hr h0;go_enter Tryz.func104,Tryz.ntmps104;go_wp2_with fail;refine (f _ ((gK W).alloc _)).mono ?_;rintro e w1 ⟨rfl,b⟩;have a:=HZ.looked b oo;have z0:=a.cell 0;have z1:=a.cell 1;have z2:=a.cell 2;have f0:=a.frozen 0;have f1:=a.frozen 1;have f2:=a.frozen 2;have zl:=a.lt;have c:=zh ((HH.same ((gK W).alloc (.cells #[.string ⟨#[]⟩,.int .u32 0,.bool false] 178))).trans b);clear b a;go_wp2_with fail;refine gw (by first | (simp [*,results,Tryz.results104,go_sem];rfl) | simp [*,results,Tryz.results104,go_sem]) rfl ?_;rw [HT.out];exact ⟨rfl,Cd HH c (gT)⟩
theorem JV (i:Int) (hi:okI i) (ver:BitVec 32):Calls Tryz.prog 109 #[ptrV s,.int .i64 i,.int .u32 (u32 ver)] W (fD w0 x s m sy ep D out W (C7 D i ver)):=by
 obtain ⟨⟨⟨d,v,k⟩,er⟩,hr⟩:∃r,Dm D i=r:=⟨_,rfl⟩;have hz:Blk (W.alloc (.cells #[.string ⟨#[]⟩,.int .u32 0,.bool false] 178)) W.heap.size 178 #[.string ⟨#[]⟩,.int .u32 0,.bool false]:=gZ W _ _ rfl;have f:=zh (λw1 (hg:Grew W w1)=>FG (h.grew hg) i hi d v k er hr);have g:=h.store.lt.2;have HH:=zh h;have HZ:=zh hz;clear h hz;by_cases h0:er=0
 . subst h0;cases k with
   | true=>
     by_cases hv:v=ver
     . have hb:(u32 v != u32 ver)=false:=by rw [hv];simp
       have HT:Hid (C7 D i ver=(⟨d,v,true⟩,0)):=zh (by unfold C7;rw [hr,if_neg qs,if_neg qs,if_neg (by simpa using hv)]);clear hr hv;go_enter Tryz.func109,Tryz.ntmps109;go_wp2_with fail;refine (f _ ((gK W).alloc _)).mono ?_;rintro e w1 ⟨rfl,b⟩;have a:=HZ.looked b oo;have z0:=a.cell 0;have z1:=a.cell 1;have z2:=a.cell 2;have f0:=a.frozen 0;have f1:=a.frozen 1;have f2:=a.frozen 2;have zl:=a.lt;have c:=zh ((HH.same ((gK W).alloc (.cells #[.string ⟨#[]⟩,.int .u32 0,.bool false] 178))).trans b);clear b a;go_wp2_with fail;refine gw (by first | (simp [*,results,Tryz.results109,go_sem];rfl) | simp [*,results,Tryz.results109,go_sem]) rfl ?_;rw [HT.out];exact ⟨rfl,Cd HH c (gT)⟩
     . have hb:(u32 v != u32 ver)=true:=by rw [iW];exact λe=>hv (Ic e)
       have HT:Hid (C7 D i ver=(LB,12)):=zh (by unfold C7;rw [hr,if_neg qs,if_neg qs,if_pos (by simpa using hv)]);clear hr hv;go_enter Tryz.func109,Tryz.ntmps109;go_wp2_with fail;refine (f _ ((gK W).alloc _)).mono ?_;rintro e w1 ⟨rfl,b⟩;have a:=HZ.looked b oo;have z0:=a.cell 0;have z1:=a.cell 1;have z2:=a.cell 2;have f0:=a.frozen 0;have f1:=a.frozen 1;have f2:=a.frozen 2;have zl:=a.lt;have c:=zh ((HH.same ((gK W).alloc (.cells #[.string ⟨#[]⟩,.int .u32 0,.bool false] 178))).trans b);clear b a;go_wp2_with fail;refine gw (by first | (simp [*,results,Tryz.results109,go_sem];rfl) | simp [*,results,Tryz.results109,go_sem]) rfl ?_;rw [HT.out];exact ⟨rfl,Cd HH c (gT)⟩
   | false=>
     have HT:Hid (C7 D i ver=(LB,11)):=zh (by unfold C7;rw [hr,if_neg qs,if_pos rfl]);clear hr;go_enter Tryz.func109,Tryz.ntmps109;go_wp2_with fail;refine (f _ ((gK W).alloc _)).mono ?_;rintro e w1 ⟨rfl,b⟩;have a:=HZ.looked b oo;have z0:=a.cell 0;have z1:=a.cell 1;have z2:=a.cell 2;have f0:=a.frozen 0;have f1:=a.frozen 1;have f2:=a.frozen 2;have zl:=a.lt;have c:=zh ((HH.same ((gK W).alloc (.cells #[.string ⟨#[]⟩,.int .u32 0,.bool false] 178))).trans b);clear b a;go_wp2_with fail;refine gw (by first | (simp [*,results,Tryz.results109,go_sem];rfl) | simp [*,results,Tryz.results109,go_sem]) rfl ?_;rw [HT.out];exact ⟨rfl,Cd HH c (gT)⟩
 . have j:(er != 0)=true:=by rw [iW];exact h0
   have HT:Hid (C7 D i ver=(LB,er)):=zh (by unfold C7;rw [hr,if_pos h0]);clear hr h0;go_enter Tryz.func109,Tryz.ntmps109;go_wp2_with fail;refine (f _ ((gK W).alloc _)).mono ?_;rintro e w1 ⟨rfl,b⟩;have a:=HZ.looked b oo;have z0:=a.cell 0;have z1:=a.cell 1;have z2:=a.cell 2;have f0:=a.frozen 0;have f1:=a.frozen 1;have f2:=a.frozen 2;have zl:=a.lt;have c:=zh ((HH.same ((gK W).alloc (.cells #[.string ⟨#[]⟩,.int .u32 0,.bool false] 178))).trans b);clear b a;go_wp2_with fail;refine gw (by first | (simp [*,results,Tryz.results109,go_sem];rfl) | simp [*,results,Tryz.results109,go_sem]) rfl ?_;rw [HT.out];exact ⟨rfl,Cd HH c (gT)⟩
end

section
variable {w0:World} {x:Nat} {D:Dev} {out:Nat->Prop} {W:World} (h:Live w0 x D out W)
include h
theorem M1 (sy ep:Int) (h1:132<=D.st.length/\D.st.length<=1155) (hs:1<=sy/\sy<=4) (he:0<=ep/\ep<=1099511627776):
 Calls Tryz.prog 141 #[ptrV x,.agg #[.int .i64 sy,.int .i64 ep]] W λe w'=>e=.returned (.bool true)/\Grew W w':=by
 have HS:=zh (λw1 (hg:Grew W w1)=>Db (h.grew hg));obtain ⟨n,hn⟩:∃n:Nat,D.st.length - 131=n:=⟨_,rfl⟩;have a:(D.st.length:Int) - 131=(n:Int):=oo;have n1:(n:Int)>=1:=oo;have n2:(n:Int)<=1024:=oo;have s1:sy>=1:=hs.1;have s2:sy<=4:=hs.2;have e1:ep>=0:=he.1;have e2:ep<=1099511627776:=he.2;have hL:(D.st.length:Int)<=1155:=oo;clear h h1 hn hs he;go_enter Tryz.func141,Tryz.ntmps141;go_wp2_with fail;refine (HS _ ((gK W).alloc _)).mono ?_;rintro e w1 ⟨rfl,rfl⟩;go_wp2_with fail;go_ret;exact ⟨rfl,gG⟩
theorem IA (sy ep:Int):Calls Tryz.prog 142 #[ptrV x,.agg #[.int .i64 sy,.int .i64 ep]] W λe w'=>∃s m,e=.returned (ptrV s)/\StoreM w' s m x sy ep/\Grew W w'/\W.heap.size<=s/\W.heap.size<=m:=by
 have a:=@run_makeMap Tryz.prog;have HG:Hid (Grew W (((W.alloc (.cells #[.int .i64 sy,.int .i64 ep] 37)).alloc (.map #[] 0)).alloc (.cells (C5 x sy ep (W.heap.size+1)) 268))):=zh ((((gK W).alloc _).alloc _).alloc _);have HB:Hid (Blk (((W.alloc (.cells #[.int .i64 sy,.int .i64 ep] 37)).alloc (.map #[] 0)).alloc (.cells (C5 x sy ep (W.heap.size+1)) 268)) (W.heap.size+1+1) 268 (C5 x sy ep (W.heap.size+1))):=zh (gZ _ _ _ qs);have HM:Hid (MapI (((W.alloc (.cells #[.int .i64 sy,.int .i64 ep] 37)).alloc (.map #[] 0)).alloc (.cells (C5 x sy ep (W.heap.size+1)) 268)) (W.heap.size+1) (λ_=>none)):=zh ((MapIs.made _ qs).alloc _);clear h;go_enter Tryz.func142,Tryz.ntmps142;go_wp2_with fail;go_ret;exact ⟨_,_,rfl,⟨HB,_,HM,λi v h=>by cases h⟩,HG.out,oo,oo⟩
end
theorem IW {w0:World} {x s m:Nat} {sy ep:Int} {D:Dev} {out:Nat->Prop} {W:World} (h:Held w0 x s m sy ep D out W):Calls Tryz.prog 151 #[ptrV s] W λe w'=>e=.returned (.int .i64 ((D.st.length:Int) - 131))/\Grew W w':=by
 have HS:=zh (λw1 (hg:Grew W w1)=>Db (h.live.grew hg));have hb:=h.store.blk;unfold C5 at hb;have s0:=hb.cell 0;have sl:=hb.lt;have hl:=h.live.ok.lim;have a:(D.st.length:Int)<=1155:=oo;clear h hb hl;go_enter Tryz.func151,Tryz.ntmps151;go_wp2_with fail;refine (HS _ (gK W)).mono ?_;rintro e w1 ⟨rfl,rfl⟩;go_wp2_with fail;go_ret;exact ⟨rfl,gG⟩

theorem Sk {D:Dev} (hf:D.failed=false) (i:Nat) (hi:i<D.st.length):Gg D (i:Int)=(D.content i,0):=by
 unfold Gg;rw [if_neg (by unfold E0;simp;omega),if_neg (by rw [hf];simp)];rfl
theorem QW {D:Dev} (hf:D.failed=true) (i:Nat) (hi:i<D.st.length):Gg D (i:Int)=(emp,10):=by
 unfold Gg;rw [if_neg (by unfold E0;simp;omega),if_pos hf]
theorem Du {D:Dev} (hf:D.failed=false) (i:Nat) (hi:i<D.st.length):Dm D (i:Int)=(AQ (D.content i) (i:Int),0):=by
 unfold Dm;rw [Sk hf i hi];rfl
theorem RE {D:Dev} (hf:D.failed=true) (i:Nat) (hi:i<D.st.length):Dm D (i:Int)=(LB,10):=by
 unfold Dm;rw [QW hf i hi];rfl
theorem C4 {t:ByteArray} {i:Int} (h:(AQ t i).ok=true):(AQ t i).data.size=128:=by
 unfold AQ at h ⊢;by_cases ho:okR t i
 . rw [if_pos ho];show (t.extract 0 128).size=128;rw [iK,ho.1];rfl
 . rw [if_neg ho] at h;cases h
theorem Lg (l:List ByteArray) (s:ByteArray):DR (l++[s])=DR l++s:=by
 induction l with
 | nil=>show s++(⟨#[]⟩:ByteArray)=(⟨#[]⟩:ByteArray)++s;rw [show (⟨#[]⟩:ByteArray)=ByteArray.empty from rfl,jW,js]
 | cons x l ih=>show x++DR (l++[s])=(x++DR l)++s;rw [ih,jJ]
theorem Le (l:List ByteArray) (h:∀s∈l,s.size=140):(DR l).size=140*l.length:=by
 induction l with
 | nil=>rfl
 | cons x l ih=>show (x++DR l).size=_;rw [gy,ih (λs hs=>h s (iJ _ hs)),h x (iO ..),i9];omega
theorem I1 (D:Dev) (k:Nat):CM D (k+1)=CM D k++[Hg D k]:=by
 unfold CM;rw [jt,gm];rfl
theorem JL {D:Dev} (h:D.Ok) (hl:131<=D.st.length) (k:Nat) (hk:k<=97):(DR (CM D k)).size=140*k:=by
 rw [Le _ (λs hs=>?_)]
 . unfold CM;rw [gO,jK]
 . obtain ⟨j,hj,rfl⟩:=gV.1 hs;have:=iP.1 hj;exact Fj h oo
def Gz (D:Dev) (k:Nat):List (Int × ByteArray):=(CM D k).map λs=>(EZ s,s)
theorem OZ (D:Dev) (k:Nat):Gz D (k+1)=Gz D k++[(EZ (Hg D k),Hg D k)]:=by
 unfold Gz;rw [I1,gm];rfl
theorem PC (D:Dev) (k:Nat):(Gz D k).length=k:=by unfold Gz CM;rw [gO,gO,jK]
theorem Ml {D:Dev} (h:Ez D=false):AU D=[]:=by unfold AU De;rw [h];rfl
theorem Mj {D:Dev} (k:Nat) (hk:k<DQ D) (h:F9 D.st.length (Bc D).ver (Hg D k)=false):AU D=[]:=by
 have:J6 D=false:=by
  unfold J6;rw [List.all_eq_false];exact ⟨Hg D k,gV.2 ⟨k,iP.2 hk,rfl⟩,by rw [h];simp⟩
 unfold AU De;rw [this];simp
theorem dL {D:Dev} (h:TE D=false):AU D=[]:=by unfold AU De;rw [h];simp
theorem dY {D:Dev} (h:Qh D=false):AU D=[]:=by unfold AU De;rw [h];simp
theorem cV {D:Dev} (h1:Ez D=true) (h2:∀k,k<DQ D->F9 D.st.length (Bc D).ver (Hg D k)=true) (h3:TE D=true) (h4:Qh D=true):AU D=Gz D (DQ D):=by
 have:J6 D=true:=by
  unfold J6;rw [ic];intro s hs;obtain ⟨k,hk,rfl⟩:=gV.1 hs;exact h2 k (iP.1 hk)
 unfold AU De;rw [h1,this,h3,h4];rfl
theorem Hn (k g:Nat) (hk:k<3) (d:ByteArray) (v:Int) (b:Bool) (hd:d.size=128) (W:World) (hb:Blk W g 178 #[.string d,.int .u32 v,.bool b]):
 Calls Tryz.prog 216 #[.int .i64 (k:Int),ptrV g] W λe w'=>e=.returned (.int .u32 (u32 (fld d k)))/\Grew W w':=by
 have HN:=zh (λ(w:World)=>Df (d.extract (4*k) (4*k+4)) (by rw [iK];omega) w);have a:128<=d.size/\d.size<=128:=oo;have c0:=hb.cell 0;have hl:=hb.lt;clear hb hd;go_enter Tryz.func216,Tryz.ntmps216;go_wp2_with fail;refine (HN _).mono ?_;rintro e w1 ⟨rfl,g1⟩;go_wp2_with fail;go_ret;exact ⟨rfl,g1⟩

theorem LD:(Tryz.prog.info? 193).map (λi=>(i.zero,i.size,i.bytes))=some (some (.agg #[.int .i64 0,.string ⟨#[]⟩]),2,24):=qk
def SG (w0:World) (x s m:Nat) (sy ep:Int) (D:Dev) (out:Nat->Prop) (W:World) (r:List (Int × ByteArray) × Int) (e:Ending) (w':World):Prop:=
 ∃v,e=.returned (.tuple #[v,.int .i64 r.2])/\OwnL w' W.heap.size 193 2 v (r.1.map BM)/\Looked w0 x s m sy ep D out W w'
section
variable {w0:World} {x s m:Nat} {sy ep:Int} {D:Dev} {out:Nat->Prop} {W:World} (h:Held w0 x s m sy ep D out W) (hlen:132<=D.st.length)
include h hlen
theorem O2 (hf:D.failed=true):Calls Tryz.prog 177 #[ptrV s] W (SG w0 x s m sy ep D out W ([],10)):=by
 have hr:=RE hf 33 oo;have b:=zh (λw1 (hg:Grew W w1)=>FG (h.grew hg) 33 (by unfold okI;omega) _ _ _ 10 hr);have HH:=zh h;clear h hr hf hlen;go_enter Tryz.func177,Tryz.ntmps177;go_wp2_with fail;refine (b _ (gK W)).mono ?_;rintro e w1 ⟨rfl,a⟩;have c:=zh a;clear a;go_wp2_with fail;go_ret2;exact ⟨_,rfl,OwnL.nil ..,c.grew ((gK _).alloc _)⟩
theorem SF (hf:D.failed=false) (hs:(Bc D).ok=false):Calls Tryz.prog 177 #[ptrV s] W (SG w0 x s m sy ep D out W (AU D,0)):=by
 have hr:=Du hf 33 oo;have hi:=Ny D hs;obtain ⟨⟨d,v,k⟩,hd⟩:∃r,Bc D=r:=⟨_,rfl⟩;rw [show AQ (D.content 33) ((33:Nat):Int)=Bc D from rfl,hd] at hr;rw [hd] at hs;have hk:k=false:=hs;subst hk;have b:=zh (λw1 (hg:Grew W w1)=>FG (h.grew hg) 33 (by unfold okI;omega) _ _ _ 0 hr);have HH:=zh h;have HI:=zh hi;clear h hr hf hlen hs hd hi;go_enter Tryz.func177,Tryz.ntmps177;go_wp2_with fail;refine (b _ (gK W)).mono ?_;rintro e w1 ⟨rfl,a⟩;have c:=zh a;clear a;go_wp2_with fail;go_ret2;rw [HI.out];exact ⟨_,rfl,OwnL.nil ..,c.grew ((gK _).alloc _)⟩
end
section
variable {w0:World} {x s m:Nat} {sy ep:Int} {D:Dev} {out:Nat->Prop} {W:World} (h:Held w0 x s m sy ep D out W) (hlen:132<=D.st.length) (hf:D.failed=false) (d:ByteArray) (v:BitVec 32) (hd:Bc D=⟨d,v,true⟩)
include h hlen hf hd
theorem Tn (hv:fld d 0≠v):Calls Tryz.prog 177 #[ptrV s] W (SG w0 x s m sy ep D out W (AU D,0)):=by
 have hr:=Du hf 33 oo;rw [show AQ (D.content 33) ((33:Nat):Int)=Bc D from rfl,hd] at hr;have c:d.size=128:=by have:=C4 (t:=D.content 33) (i:=33) (by rw [show AQ (D.content 33) 33=Bc D from rfl,hd]);rw [show AQ (D.content 33) 33=Bc D from rfl,hd] at this;exact this
 have o:=zh (λw1 (hg:Grew W w1)=>FG (h.grew hg) 33 (by unfold okI;omega) _ _ _ 0 hr);have HF:Hid (∀(k:Nat) (i:Int),k<3->i=(k:Int)->∀(g:Nat) (w:World),Blk w g 178 #[.string d,.int .u32 (u32 v),.bool true]->Calls Tryz.prog 216 #[.int .i64 i,ptrV g] w λe w'=>e=.returned (.int .u32 (u32 (fld d k)))/\Grew w w'):=zh (λk i hk hi g w hb=>by rw [hi];exact Hn k g hk d _ _ c w hb);have u0:=BJ (fld d 0);have u1:=BJ (fld d 1);have u2:=BJ (fld d 2);have uv:=BJ v;have HI:=zh (Ml (D:=D) (by unfold Ez;rw [hd];simp [hv]));have hb:(u32 (fld d 0) != u32 v)=true:=by rw [iW];exact λe=>hv (Ic e)
 have HH:=zh h;clear h hr hf hlen hd c hv;go_enter Tryz.func177,Tryz.ntmps177;go_wp2_with fail;refine (o _ (gK W)).mono ?_;rintro e w1 ⟨rfl,b⟩;have f:Blk (w1.alloc (.cells #[.string d,.int .u32 (u32 v),.bool true] 178)) w1.heap.size 178 #[.string d,.int .u32 (u32 v),.bool true]:=gZ w1 _ _ rfl;have y:=b.turned.size;have p:=zh (b.grew ((gK w1).alloc (.cells #[.string d,.int .u32 (u32 v),.bool true] 178)));have j:=zh f;clear b f;go_wp2_with fail;refine (HF 0 0 oo rfl _ _ j).mono ?_;rintro e w2 ⟨rfl,g2⟩;have l:=zh (j.grew g2);have q:=zh (p.grew g2);clear g2;go_wp2_with fail;refine (HF 1 1 oo rfl _ _ l).mono ?_;rintro e w3 ⟨rfl,g3⟩;have n:=zh (l.grew g3);have r:=zh (q.grew g3);clear g3;go_wp2_with fail;refine (HF 2 2 oo rfl _ _ n).mono ?_;rintro e w4 ⟨rfl,g4⟩;have a:=zh (n.grew g4);have u:=zh (r.grew g4);clear g4;go_wp2_with fail;refine AB [] (λw':World=>w'.cell? ⟨w1.heap.size,0,none⟩=some (.string d)/\w'.cell? ⟨w1.heap.size,1,none⟩=some (.int .u32 (u32 v))/\w1.heap.size<w'.heap.size) qk ?_;have hS:=(show (λw':World=>w'.cell? ⟨w1.heap.size,0,none⟩=some (.string d)/\w'.cell? ⟨w1.heap.size,1,none⟩=some (.int .u32 (u32 v))/\w1.heap.size<w'.heap.size) w4.drew from ⟨a.drew.cell 0,a.drew.cell 1,a.drew.lt⟩);refine tQ 0 40 ?_;refine tQ 1 41 ?_;refine tT 2 (some 42) hS ?_;refine tQ 3 43 ?_;refine tQ 4 44 ?_;refine tU 5 (some 45) ?_;refine tU 6 (some 46) ?_;refine tQ 7 47 ?_;refine tQ 8 48 ?_;refine tU 9 (some 49) ?_;refine tU 10 (some 50) ?_;refine tQ 11 51 ?_;refine tQ 12 52 ?_;refine tU 13 (some 53) ?_;refine tU 14 (some 54) ?_;refine tU 15 (some 55) ?_;refine tU 16 (some 56) ?_;refine tU 17 (some 57) ?_;refine tU 18 (some 58) ?_;refine tQ 19 59 ?_;refine AA qk ?_ _;go_wp2_with fail;go_ret2;rw [HI.out];exact ⟨_,rfl,OwnL.nil ..,u.grew (gG)⟩
theorem VK (hv:fld d 0=v) (hc:DQ D<1):Calls Tryz.prog 177 #[ptrV s] W (SG w0 x s m sy ep D out W (AU D,0)):=by
 have hr:=Du hf 33 oo;rw [show AQ (D.content 33) ((33:Nat):Int)=Bc D from rfl,hd] at hr;have c:d.size=128:=by have:=C4 (t:=D.content 33) (i:=33) (by rw [show AQ (D.content 33) 33=Bc D from rfl,hd]);rw [show AQ (D.content 33) 33=Bc D from rfl,hd] at this;exact this
 have o:=zh (λw1 (hg:Grew W w1)=>FG (h.grew hg) 33 (by unfold okI;omega) _ _ _ 0 hr);have HF:Hid (∀(k:Nat) (i:Int),k<3->i=(k:Int)->∀(g:Nat) (w:World),Blk w g 178 #[.string d,.int .u32 (u32 v),.bool true]->Calls Tryz.prog 216 #[.int .i64 i,ptrV g] w λe w'=>e=.returned (.int .u32 (u32 (fld d k)))/\Grew w w'):=zh (λk i hk hi g w hb=>by rw [hi];exact Hn k g hk d _ _ c w hb);have u0:=BJ (fld d 0);have u1:=BJ (fld d 1);have u2:=BJ (fld d 2);have uv:=BJ v;have HI:=zh (Ml (D:=D) (by unfold Ez;rw [iC (λe=>absurd e.1 oo)];simp));have hb:(u32 (fld d 0) != u32 v)=false:=by rw [hv];simp
 have p:u32 (fld d 1)<1:=by unfold DQ at hc;rw [hd] at hc;unfold u32;show ((fld d 1).toNat:Int)<1;have:(fld d 1).toNat<1:=hc;omega
 have z:decide (u32 (fld d 1)<1)=true:=iB p;have HH:=zh h;clear h hr hf hlen hd c hv hc;go_enter Tryz.func177,Tryz.ntmps177;go_wp2_with fail;refine (o _ (gK W)).mono ?_;rintro e w1 ⟨rfl,b⟩;have f:Blk (w1.alloc (.cells #[.string d,.int .u32 (u32 v),.bool true] 178)) w1.heap.size 178 #[.string d,.int .u32 (u32 v),.bool true]:=gZ w1 _ _ rfl;have A:=b.turned.size;have q:=zh (b.grew ((gK w1).alloc (.cells #[.string d,.int .u32 (u32 v),.bool true] 178)));have j:=zh f;clear b f;go_wp2_with fail;refine (HF 0 0 oo rfl _ _ j).mono ?_;rintro e w2 ⟨rfl,g2⟩;have l:=zh (j.grew g2);have r:=zh (q.grew g2);clear g2;go_wp2_with fail;refine (HF 1 1 oo rfl _ _ l).mono ?_;rintro e w3 ⟨rfl,g3⟩;have n:=zh (l.grew g3);have u:=zh (r.grew g3);clear g3;go_wp2_with fail;refine (HF 2 2 oo rfl _ _ n).mono ?_;rintro e w4 ⟨rfl,g4⟩;have a:=zh (n.grew g4);have y:=zh (u.grew g4);clear g4;go_wp2_with fail;refine AB [] (λw':World=>w'.cell? ⟨w1.heap.size,0,none⟩=some (.string d)/\w'.cell? ⟨w1.heap.size,1,none⟩=some (.int .u32 (u32 v))/\w1.heap.size<w'.heap.size) qk ?_;have hS:=(show (λw':World=>w'.cell? ⟨w1.heap.size,0,none⟩=some (.string d)/\w'.cell? ⟨w1.heap.size,1,none⟩=some (.int .u32 (u32 v))/\w1.heap.size<w'.heap.size) w4.drew from ⟨a.drew.cell 0,a.drew.cell 1,a.drew.lt⟩);refine tQ 0 40 ?_;refine tQ 1 41 ?_;refine tT 2 (some 42) hS ?_;refine tQ 3 43 ?_;refine tQ 4 44 ?_;refine tQ 5 45 ?_;refine tQ 6 46 ?_;refine tQ 7 47 ?_;refine tQ 8 48 ?_;refine tU 9 (some 49) ?_;refine tU 10 (some 50) ?_;refine tQ 11 51 ?_;refine tQ 12 52 ?_;refine tU 13 (some 53) ?_;refine tU 14 (some 54) ?_;refine tU 15 (some 55) ?_;refine tU 16 (some 56) ?_;refine tU 17 (some 57) ?_;refine tU 18 (some 58) ?_;refine tQ 19 59 ?_;refine AA qk ?_ _;go_wp2_with fail;go_ret2;rw [HI.out];exact ⟨_,rfl,OwnL.nil ..,y.grew (gG)⟩
theorem RW (hv:fld d 0=v) (hc:97<DQ D):Calls Tryz.prog 177 #[ptrV s] W (SG w0 x s m sy ep D out W (AU D,0)):=by
 have hr:=Du hf 33 oo;rw [show AQ (D.content 33) ((33:Nat):Int)=Bc D from rfl,hd] at hr;have c:d.size=128:=by have:=C4 (t:=D.content 33) (i:=33) (by rw [show AQ (D.content 33) 33=Bc D from rfl,hd]);rw [show AQ (D.content 33) 33=Bc D from rfl,hd] at this;exact this
 have o:=zh (λw1 (hg:Grew W w1)=>FG (h.grew hg) 33 (by unfold okI;omega) _ _ _ 0 hr);have HF:Hid (∀(k:Nat) (i:Int),k<3->i=(k:Int)->∀(g:Nat) (w:World),Blk w g 178 #[.string d,.int .u32 (u32 v),.bool true]->Calls Tryz.prog 216 #[.int .i64 i,ptrV g] w λe w'=>e=.returned (.int .u32 (u32 (fld d k)))/\Grew w w'):=zh (λk i hk hi g w hb=>by rw [hi];exact Hn k g hk d _ _ c w hb);have u0:=BJ (fld d 0);have u1:=BJ (fld d 1);have u2:=BJ (fld d 2);have uv:=BJ v;have HI:=zh (Ml (D:=D) (by unfold Ez;rw [iC (λe=>absurd e.2 oo)];simp));have hb:(u32 (fld d 0) != u32 v)=false:=by rw [hv];simp
 have p:u32 (fld d 1)>97:=by unfold DQ at hc;rw [hd] at hc;unfold u32;show ((fld d 1).toNat:Int)>97;have:97<(fld d 1).toNat:=hc;omega
 have z:decide (u32 (fld d 1)<1)=false:=iC oo;have A:decide (97<u32 (fld d 1))=true:=iB p;have HH:=zh h;clear h hr hf hlen hd c hv hc;go_enter Tryz.func177,Tryz.ntmps177;go_wp2_with fail;refine (o _ (gK W)).mono ?_;rintro e w1 ⟨rfl,b⟩;have f:Blk (w1.alloc (.cells #[.string d,.int .u32 (u32 v),.bool true] 178)) w1.heap.size 178 #[.string d,.int .u32 (u32 v),.bool true]:=gZ w1 _ _ rfl;have B:=b.turned.size;have q:=zh (b.grew ((gK w1).alloc (.cells #[.string d,.int .u32 (u32 v),.bool true] 178)));have j:=zh f;clear b f;go_wp2_with fail;refine (HF 0 0 oo rfl _ _ j).mono ?_;rintro e w2 ⟨rfl,g2⟩;have l:=zh (j.grew g2);have r:=zh (q.grew g2);clear g2;go_wp2_with fail;refine (HF 1 1 oo rfl _ _ l).mono ?_;rintro e w3 ⟨rfl,g3⟩;have n:=zh (l.grew g3);have u:=zh (r.grew g3);clear g3;go_wp2_with fail;refine (HF 2 2 oo rfl _ _ n).mono ?_;rintro e w4 ⟨rfl,g4⟩;have a:=zh (n.grew g4);have y:=zh (u.grew g4);clear g4;go_wp2_with fail;refine AB [] (λw':World=>w'.cell? ⟨w1.heap.size,0,none⟩=some (.string d)/\w'.cell? ⟨w1.heap.size,1,none⟩=some (.int .u32 (u32 v))/\w1.heap.size<w'.heap.size) qk ?_;have hS:=(show (λw':World=>w'.cell? ⟨w1.heap.size,0,none⟩=some (.string d)/\w'.cell? ⟨w1.heap.size,1,none⟩=some (.int .u32 (u32 v))/\w1.heap.size<w'.heap.size) w4.drew from ⟨a.drew.cell 0,a.drew.cell 1,a.drew.lt⟩);refine tQ 0 40 ?_;refine tQ 1 41 ?_;refine tT 2 (some 42) hS ?_;refine tQ 3 43 ?_;refine tQ 4 44 ?_;refine tQ 5 45 ?_;refine tQ 6 46 ?_;refine tQ 7 47 ?_;refine tQ 8 48 ?_;refine tQ 9 49 ?_;refine tQ 10 50 ?_;refine tQ 11 51 ?_;refine tQ 12 52 ?_;refine tU 13 (some 53) ?_;refine tU 14 (some 54) ?_;refine tU 15 (some 55) ?_;refine tU 16 (some 56) ?_;refine tU 17 (some 57) ?_;refine tU 18 (some 58) ?_;refine tQ 19 59 ?_;refine AA qk ?_ _;go_wp2_with fail;go_ret2;rw [HI.out];exact ⟨_,rfl,OwnL.nil ..,y.grew (gG)⟩
end

section
variable {w0:World} {x s m:Nat} {sy ep:Int} {D:Dev} {out:Nat->Prop} {W:World} (h:Held w0 x s m sy ep D out W) (hlen:132<=D.st.length) (hf:D.failed=false) (d:ByteArray) (v:BitVec 32) (hd:Bc D=⟨d,v,true⟩) (hv:fld d 0=v) (hc:1<=DQ D/\DQ D<=97)
include h hlen hf hd hv hc
theorem QG (hz:d.extract 12 128≠BI 116):Calls Tryz.prog 177 #[ptrV s] W (SG w0 x s m sy ep D out W (AU D,0)):=by
 have hr:=Du hf 33 oo;rw [show AQ (D.content 33) ((33:Nat):Int)=Bc D from rfl,hd] at hr;have c:d.size=128:=by have:=C4 (t:=D.content 33) (i:=33) (by rw [show AQ (D.content 33) 33=Bc D from rfl,hd]);rw [show AQ (D.content 33) 33=Bc D from rfl,hd] at this;exact this
 have A:=zh (λw1 (hg:Grew W w1)=>FG (h.grew hg) 33 (by unfold okI;omega) _ _ _ 0 hr);have HF:Hid (∀(k:Nat) (i:Int),k<3->i=(k:Int)->∀(g:Nat) (w:World),Blk w g 178 #[.string d,.int .u32 (u32 v),.bool true]->Calls Tryz.prog 216 #[.int .i64 i,ptrV g] w λe w'=>e=.returned (.int .u32 (u32 (fld d k)))/\Grew w w'):=zh (λk i hk hi g w hb=>by rw [hi];exact Hn k g hk d _ _ c w hb);have u0:=BJ (fld d 0);have u1:=BJ (fld d 1);have u2:=BJ (fld d 2);have uv:=BJ v;have hb:(u32 (fld d 0) != u32 v)=false:=by rw [hv];simp
 have l:u32 (fld d 1)=((DQ D:Nat):Int):=by unfold DQ;rw [hd];rfl
 obtain ⟨n,hn⟩:∃n,DQ D=n:=⟨_,rfl⟩;rw [hn] at hc l;have J:decide ((n:Int)<1)=false:=iC oo;have K:decide (97<(n:Int))=false:=iC oo;have L:(n:Int)>=1:=oo;have M:(n:Int)<=97:=oo;have N:128<=d.size/\d.size<=128:=oo;have B:=zh (show d.extract 12 d.size=d.extract 12 128 from by rw [c]);have HI:=zh (Ml (D:=D) (by unfold Ez;rw [hd];simp [hz]));have O:=OA hz;rw [l] at u1;have HH:=zh h;clear h hr hf hlen hd c hv hc hz hn;go_enter Tryz.func177,Tryz.ntmps177;go_wp2_with fail;refine (A _ (gK W)).mono ?_;rintro e w1 ⟨rfl,j⟩;have o:Blk (w1.alloc (.cells #[.string d,.int .u32 (u32 v),.bool true] 178)) w1.heap.size 178 #[.string d,.int .u32 (u32 v),.bool true]:=gZ w1 _ _ rfl;have P:=j.turned.size;have C:=zh (j.grew ((gK w1).alloc (.cells #[.string d,.int .u32 (u32 v),.bool true] 178)));have p:=zh o;clear j o;go_wp2_with fail;refine (HF 0 0 oo rfl _ _ p).mono ?_;rintro e w2 ⟨rfl,g2⟩;have q:=zh (p.grew g2);have E:=zh (C.grew g2);clear g2;go_wp2_with fail;refine (HF 1 1 oo rfl _ _ q).mono ?_;rintro e w3 ⟨rfl,g3⟩;have r:=zh (q.grew g3);have F:=zh (E.grew g3);clear g3;go_wp2_with fail;refine (HF 2 2 oo rfl _ _ r).mono ?_;rintro e w4 ⟨rfl,g4⟩;have b:=zh (r.grew g4);have G:=zh (F.grew g4);clear g4;go_wp2_with fail;refine AB [] (λw':World=>w'.cell? ⟨w1.heap.size,0,none⟩=some (.string d)/\w'.cell? ⟨w1.heap.size,1,none⟩=some (.int .u32 (u32 v))/\w1.heap.size<w'.heap.size) qk ?_;have hS:=(show (λw':World=>w'.cell? ⟨w1.heap.size,0,none⟩=some (.string d)/\w'.cell? ⟨w1.heap.size,1,none⟩=some (.int .u32 (u32 v))/\w1.heap.size<w'.heap.size) w4.drew from ⟨b.drew.cell 0,b.drew.cell 1,b.drew.lt⟩);refine tQ 0 40 ?_;refine tQ 1 41 ?_;refine tT 2 (some 42) hS ?_;refine tQ 3 43 ?_;refine tQ 4 44 ?_;refine tQ 5 45 ?_;refine tQ 6 46 ?_;refine tQ 7 47 ?_;refine tQ 8 48 ?_;refine tQ 9 49 ?_;refine tQ 10 50 ?_;refine tQ 11 51 ?_;refine tQ 12 52 ?_;refine tQ 13 53 ?_;refine tT 14 (some 54) hS ?_;refine tQ 15 55 ?_;clear hS;have H:(Instr.makeSlice 169 (.int .i64 116) (.int .i64 116)).run Tryz.prog w4.drew=_:=Hz w4.drew 116 oo;have u:Blk (w4.alloc (.cells (BK (BI 116)) 5)).drew w4.heap.size 5 (BK (BI 116)):=(gZ w4 _ _ rfl).drew;have f:Grew w4 (w4.alloc (.cells (BK (BI 116)) 5)).drew:=((gK w4).alloc _).drew;have I:(convert 169 9 (.slice (some ⟨w4.heap.size,0,none⟩) 116 116)).run Tryz.prog (w4.alloc (.cells (BK (BI 116)) 5)).drew=.ok (.string (BI 116)) (w4.alloc (.cells (BK (BI 116)) 5)).drew:=D5 _ _ 116 (BI 116) (DD 116) u;have a:=b.grew f;have y:=zh (G.grew f);clear u f;refine tO 16 λK' hK=>?_;go_wp2_with fail;refine hK.out _ _ (.inr (λ_=>⟨a.cell 0,a.cell 1,a.lt⟩)) ?_;clear hK;refine tO 17 λK' hK=>?_;go_wp2_with fail;refine hK.out _ _ (.inr (λ_=>⟨a.cell 0,a.cell 1,a.lt⟩)) ?_;clear hK I H;obtain ⟨w5,z⟩:∃w5,w5=(w4.alloc (.cells (BK (BI 116)) 5)).drew:=⟨_,rfl⟩;rw [<-z] at a y ⊢;have Q:=zh a;clear z a;rw [B.out];refine tQ 18 58 ?_;refine tQ 19 59 ?_;refine AA qk ?_ _;go_wp2_with fail;go_ret2;rw [HI.out];exact ⟨_,rfl,OwnL.nil ..,y⟩
end

theorem Ep (n:Nat) (m:U32) (s:ByteArray):F9 n m s=true↔okR s (EZ s)/\Cp (s.extract 128 132)=m/\¬(32<EZ s/\(EZ s<131\/(n:Int)<=EZ s)):=by
 unfold F9;simp [and_assoc];intro _ _;omega
theorem SV (t:ByteArray) (i:Int) (h:okR t i):Da t i=(t.extract 0 128,Cp (t.extract 128 132),0):=by unfold Da;rw [if_pos h]
theorem Nu {w0:World} {x s m:Nat} {sy ep:Int} {D:Dev} {out:Nat->Prop} {W w1 w2:World} {row:Option Nat} (h:Held w0 x s m sy ep D out W) (hl:Looked w0 x s m sy ep D out W w1) (hg:w1.grownBy w2 row) (hr:∀k,row=some k->W.heap.size<=k):Looked w0 x s m sy ep D out W w2:=
 Cd h hl ⟨hg.os,hg.tape,hg.output,hg.size,λk hk hn=>hg.block k hk (λe=>hn (hr k e.symm))⟩
section
variable {w0:World} {x s m:Nat} {sy ep:Int} {D:Dev} {out:Nat->Prop} {W:World} (h:Held w0 x s m sy ep D out W) (hlen:132<=D.st.length) (hf:D.failed=false) (d:ByteArray) (v:BitVec 32) (hd:Bc D=⟨d,v,true⟩) (hv:fld d 0=v) (hc:1<=DQ D/\DQ D<=97) (hz:d.extract 12 128=BI 116)
include h hlen hf hd hv hc hz
theorem QK:Calls Tryz.prog 177 #[ptrV s] W (SG w0 x s m sy ep D out W (AU D,0)):=by
 have hr:=Du hf 33 oo;rw [show AQ (D.content 33) ((33:Nat):Int)=Bc D from rfl,hd] at hr;have T:d.size=128:=by have:=C4 (t:=D.content 33) (i:=33) (by rw [show AQ (D.content 33) 33=Bc D from rfl,hd]);rw [show AQ (D.content 33) 33=Bc D from rfl,hd] at this;exact this
 have ce:=zh (λw1 (hg:Grew W w1)=>FG (h.grew hg) 33 (by unfold okI;omega) _ _ _ 0 hr);have HF:Hid (∀(k:Nat) (i:Int),k<3->i=(k:Int)->∀(g:Nat) (w:World),Blk w g 178 #[.string d,.int .u32 (u32 v),.bool true]->Calls Tryz.prog 216 #[.int .i64 i,ptrV g] w λe w'=>e=.returned (.int .u32 (u32 (fld d k)))/\Grew w w'):=zh (λk i hk hi g w hb=>by rw [hi];exact Hn k g hk d _ _ T w hb);have u0:=BJ (fld d 0);have u1:=BJ (fld d 1);have u2:=BJ (fld d 2);have uv:=BJ v;have hb:(u32 (fld d 0) != u32 v)=false:=by rw [hv];simp
 have a8:u32 (fld d 1)=((DQ D:Nat):Int):=by unfold DQ;rw [hd];rfl
 obtain ⟨n,hn⟩:∃n,DQ D=n:=⟨_,rfl⟩;rw [hn] at hc a8;have cf:decide ((n:Int)<1)=false:=iC oo;have ch:decide (97<(n:Int))=false:=iC oo;have dd:(n:Int)>=1:=oo;have df:(n:Int)<=97:=oo;have dk:128<=d.size/\d.size<=128:=oo;have ci:=zh (show d.extract 12 d.size=d.extract 12 128 from by rw [T]);have cj:((d.extract 12 128).toList==(BI 116).toList)=true:=by rw [hz,jR]
 have a9:Ez D=true:=by unfold Ez;rw [hd,hn,iB hc,iB hz];simp [hv]
 have cl:=zh a9;have HN:=zh hn;have HV:=zh (show (Bc D).ver=v from by rw [hd]);have C:=zh hv;have cm:=zh (show fld (Bc D).data 2=fld d 2 from by rw [hd]);have E:=zh hlen;have bb:=zh hf;rw [a8] at u1;have HH:=zh h;clear h hr hf hlen hd T hv hz hn a9;go_enter Tryz.func177,Tryz.ntmps177;go_wp2_with fail;refine (ce _ (gK W)).mono ?_;rintro e w1 ⟨rfl,a5⟩;have N:Blk (w1.alloc (.cells #[.string d,.int .u32 (u32 v),.bool true] 178)) w1.heap.size 178 #[.string d,.int .u32 (u32 v),.bool true]:=gZ w1 _ _ rfl;have ds:=a5.turned.size;have co:=zh (a5.grew ((gK w1).alloc (.cells #[.string d,.int .u32 (u32 v),.bool true] 178)));have bc:=zh N;clear a5 N;go_wp2_with fail;refine (HF 0 0 oo rfl _ _ bc).mono ?_;rintro e w2 ⟨rfl,g2⟩;have bd:=zh (bc.grew g2);have cp:=zh (co.grew g2);clear g2;go_wp2_with fail;refine (HF 1 1 oo rfl _ _ bd).mono ?_;rintro e w3 ⟨rfl,g3⟩;have bf:=zh (bd.grew g3);have cq:=zh (cp.grew g3);clear g3;go_wp2_with fail;refine (HF 2 2 oo rfl _ _ bf).mono ?_;rintro e w4 ⟨rfl,g4⟩;have O:=zh (bf.grew g4);have cr:=zh (cq.grew g4);clear g4;go_wp2_with fail;refine AB [] (λw':World=>w'.cell? ⟨w1.heap.size,0,none⟩=some (.string d)/\w'.cell? ⟨w1.heap.size,1,none⟩=some (.int .u32 (u32 v))/\w1.heap.size<w'.heap.size) qk ?_;have hS:=(show (λw':World=>w'.cell? ⟨w1.heap.size,0,none⟩=some (.string d)/\w'.cell? ⟨w1.heap.size,1,none⟩=some (.int .u32 (u32 v))/\w1.heap.size<w'.heap.size) w4.drew from ⟨O.drew.cell 0,O.drew.cell 1,O.drew.lt⟩);refine tQ 0 40 ?_;refine tQ 1 41 ?_;refine tT 2 (some 42) hS ?_;refine tQ 3 43 ?_;refine tQ 4 44 ?_;refine tQ 5 45 ?_;refine tQ 6 46 ?_;refine tQ 7 47 ?_;refine tQ 8 48 ?_;refine tQ 9 49 ?_;refine tQ 10 50 ?_;refine tQ 11 51 ?_;refine tQ 12 52 ?_;refine tQ 13 53 ?_;refine tT 14 (some 54) hS ?_;refine tQ 15 55 ?_;clear hS;have cs:(Instr.makeSlice 169 (.int .i64 116) (.int .i64 116)).run Tryz.prog w4.drew=_:=Hz w4.drew 116 oo;have bk:Blk (w4.alloc (.cells (BK (BI 116)) 5)).drew w4.heap.size 5 (BK (BI 116)):=(gZ w4 _ _ rfl).drew;have U:Grew w4 (w4.alloc (.cells (BK (BI 116)) 5)).drew:=((gK w4).alloc _).drew;have cu:(convert 169 9 (.slice (some ⟨w4.heap.size,0,none⟩) 116 116)).run Tryz.prog (w4.alloc (.cells (BK (BI 116)) 5)).drew=.ok (.string (BI 116)) (w4.alloc (.cells (BK (BI 116)) 5)).drew:=D5 _ _ 116 (BI 116) (DD 116) bk;have u:=O.grew U;have V:=zh (cr.grew U);clear bk U;refine tO 16 λK' hK=>?_;go_wp2_with fail;refine hK.out _ _ (.inr (λ_=>⟨u.cell 0,u.cell 1,u.lt⟩)) ?_;clear hK;refine tO 17 λK' hK=>?_;go_wp2_with fail;refine hK.out _ _ (.inr (λ_=>⟨u.cell 0,u.cell 1,u.lt⟩)) ?_;clear hK cu cs;obtain ⟨w5,b6⟩:∃w5,w5=(w4.alloc (.cells (BK (BI 116)) 5)).drew:=⟨_,rfl⟩;rw [<-b6] at u V ⊢;have d0:=zh u;clear b6 u;rw [ci.out];refine tQ 18 58 ?_;refine tQ 19 59 ?_;refine AA qk ?_ _;go_wp2_with fail;clear cf ch hb cj u1;have d1:W.heap.size<=w5.heap.size:=V.turned.size
 go_loopg [10,11,62] n (λgk l a i wr=>∃k:Nat,k<=n/\gk=n - k/\i=.int .i64 k/\OwnL wr W.heap.size 193 2 l ((Gz D k).map BM)/\a=.string (DR (CM D k))/\Looked w0 x s m sy ep D out W wr/\(∀j,j<k->F9 D.st.length v (Hg D j)=true))
 case atStart=>exact ⟨0,oo,oo,rfl,OwnL.nil ..,rfl,V,λj hj=>absurd hj oo⟩
 case round=>
  obtain ⟨k,hk,b9,rfl,ca,rfl,hl,cb⟩:=hrel;have bl:=zh b9;have X:=zh ca;have HL:=zh hl;have Y:=zh cb;clear b9 ca hl cb;by_cases S:k<n
  . have d2:(k:Int)<(n:Int):=oo
    have bn:Gg D (34+(k:Int))=(Hg D k,0):=by
     rw [show (34+(k:Int))=((34+k:Nat):Int) from oo];exact Sk bb (34+k) (by have:=E.out;omega)
    have br:=zh (Pa HL.live (34+(k:Int)) _ _ bn);obtain ⟨t,ht⟩:∃t,Hg D k=t:=⟨_,rfl⟩;have cv:t.size=140:=by rw [<-ht];exact Fj HL.live.ok (by have:=E.out;omega)
    rw [ht] at br;have d3:140<=t.size/\t.size<=140:=oo;have bs:=zh (λ(w:World)=>Df (t.extract 132 136) (by rw [iK];omega) w);obtain ⟨p,hp⟩:∃p,Cp (t.extract 132 136)=p:=⟨_,rfl⟩;rw [hp] at bs;have bt:EZ t=u32 p:=by unfold EZ;rw [hp]
    have d4:=BJ p;obtain ⟨ud,uv,ue,hu⟩:∃a b c,Da t (u32 p)=(a,b,c):=⟨_,_,_,rfl⟩;have HU:=zh (λ(w:World)=>NN t (u32 p) w oo (by unfold okI;omega) _ _ _ hu);have P:=HL.store.blk;unfold C5 at P;have s0:=P.cell 0;have sl:=P.lt;have HT:=zh ht;have z:=zh bt;have bv:=zh hu;clear bn ht hp bt hu P cv;go_wp2_with fail;refine br.mono ?_;rintro e w6 ⟨rfl,rfl⟩;go_wp2_with fail;refine (bs _).mono ?_;rintro e w7 ⟨rfl,g7⟩;have cw:=zh g7;clear g7 s0 sl;go_wp2_with fail;refine (HU _).mono ?_;rintro e w8 ⟨rfl,g8⟩;have f:=zh (cw.out.trans g8);clear g8;by_cases ho:okR t (u32 p)
    . have h1:=bv.out;rw [SV t _ ho] at h1;injection h1 with h1 h2;injection h2 with h2 h3;subst h1;subst h3;by_cases o:uv=v
      . have cx:(u32 uv != u32 (fld d 0))=false:=by rw [C.out,o];simp
        by_cases i1:32<u32 p
        . have cy:decide (32<u32 p)=true:=iB i1;by_cases i2:u32 p<131
          . have cz:decide (u32 p<131)=true:=iB i2;have HI:=zh (Mj (D:=D) k (by rw [HN.out];exact S) (by rw [HV.out,HT.out,Bool.eq_false_iff];intro e;have e2:=(Ep _ _ _).1 e;rw [z.out] at e2;exact absurd e2.2.2 (λe9=>e9 ⟨i1,.inl i2⟩)));clear o h2 i1 i2 ho;go_wp2_with fail;go_ret2;rw [HI.out];exact ⟨_,rfl,OwnL.nil ..,HL.grew f⟩
          . have cz:decide (u32 p<131)=false:=iC i2;have d5:¬u32 p<131:=i2;by_cases i3:(D.st.length:Int)<=u32 p
            . have c0:decide ((D.st.length:Int)<=u32 p)=true:=iB i3;have c1:u32 p>=(D.st.length:Int):=i3;have HI:=zh (Mj (D:=D) k (by rw [HN.out];exact S) (by rw [HV.out,HT.out,Bool.eq_false_iff];intro e;have e2:=(Ep _ _ _).1 e;rw [z.out] at e2;exact absurd e2.2.2 (λe9=>e9 ⟨i1,.inr i3⟩)));clear o h2 i1 i2 ho;have Z:=zh (Db (HL.live.grew f));have y:=HL.store.blk.grew f;unfold C5 at y;have s0:=y.cell 0;have sl:=y.lt;clear y;go_wp2_with fail;refine Z.mono ?_;rintro e c8 ⟨rfl,rfl⟩;go_wp2_with fail;go_ret2;rw [HI.out];exact ⟨_,rfl,OwnL.nil ..,HL.grew f⟩
            . have c0:decide ((D.st.length:Int)<=u32 p)=false:=iC i3;have c1:¬u32 p>=(D.st.length:Int):=i3;have ad:Hid (okR t (u32 p)/\Cp (t.extract 128 132)=v/\¬(32<u32 p/\(u32 p<131\/(D.st.length:Int)<=u32 p))):=zh ⟨ho,by rw [h2,o],λe9=>e9.2.elim i2 i3⟩;clear o h2 i1 i2 ho;have Z:=zh (Db (HL.live.grew f));have y:=HL.store.blk.grew f;unfold C5 at y;have s0:=y.cell 0;have sl:=y.lt;clear y;go_wp2_with fail;refine Z.mono ?_;rintro e c8 ⟨rfl,rfl⟩;have c2:W.heap.size<=w8.heap.size:=gY HL.turned.size f.size;have bx:(DR (CM D k)).size<=13580:=by rw [JL HL.out.live.ok (by have:=E.out;omega) k oo];omega
              have c3:=PC D k;have ae:Hid (F9 D.st.length v (Hg D k)=true):=zh (by rw [HT.out,Ep,z.out];exact ad.out);have G:=zh (I1 D k);have A:=zh (OZ D k);rw [HT.out] at G A;rw [z.out] at A;have al:Hid (DR (CM D k++[t])=DR (CM D k)++t):=zh (Lg _ _);have H:=zh (X.grew f);go_wp2_with (at_builtin;refine Bi rfl _ _ 194 rfl W.heap.size 193 2 24 (.agg #[.int .i64 0,.string ⟨#[]⟩]) Tryz.underlying194 LD rfl qd (w8.alloc (.cells #[.int .i64 (u32 p),.string t] 193)) u10 ((Gz D k).map BM) [.int .i64 (u32 p),.string t] rfl rfl (H.alloc _) w8.heap.size (by rfl) (gZ _ _ _ rfl) rfl (by rw [gO];omega) (by rw [gO];omega) (by simp;omega) k (by rw [gO];omega) ?_);intro g9 c9 w9 K L _ _;have an:Grew W w9->True:=λ_=>trivial;have I:=Nu HH (HL.grew (f.alloc (.cells #[.int .i64 (u32 p),.string t] 193))) L (H.row_ge);have av:=zh K;have a0:=zh I;clear K L I an;go_wp2_with fail
              go_roundg (n - (k+1))
              case measure=>rw [bl.out];omega
              case rel=>exact ⟨k+1,oo,oo,by go_num,by rw [A.out,gm];exact av.out,by rw [G.out,al.out],a0,λj hj=>by rcases it j k with M | M;exact Y.out j M;rw [show j=k from oo];exact ae.out⟩
        . have cy:decide (32<u32 p)=false:=iC i1;have ad:Hid (okR t (u32 p)/\Cp (t.extract 128 132)=v/\¬(32<u32 p/\(u32 p<131\/(D.st.length:Int)<=u32 p))):=zh ⟨ho,by rw [h2,o],λe9=>i1 e9.1⟩;clear o h2 i1 ho;have c2:W.heap.size<=w8.heap.size:=gY HL.turned.size f.size;have bx:(DR (CM D k)).size<=13580:=by rw [JL HL.out.live.ok (by have:=E.out;omega) k oo];omega
          have c3:=PC D k;have ae:Hid (F9 D.st.length v (Hg D k)=true):=zh (by rw [HT.out,Ep,z.out];exact ad.out);have G:=zh (I1 D k);have A:=zh (OZ D k);rw [HT.out] at G A;rw [z.out] at A;have al:Hid (DR (CM D k++[t])=DR (CM D k)++t):=zh (Lg _ _);have H:=zh (X.grew f);go_wp2_with (at_builtin;refine Bi rfl _ _ 194 rfl W.heap.size 193 2 24 (.agg #[.int .i64 0,.string ⟨#[]⟩]) Tryz.underlying194 LD rfl qd (w8.alloc (.cells #[.int .i64 (u32 p),.string t] 193)) u10 ((Gz D k).map BM) [.int .i64 (u32 p),.string t] rfl rfl (H.alloc _) w8.heap.size (by rfl) (gZ _ _ _ rfl) rfl (by rw [gO];omega) (by rw [gO];omega) (by simp;omega) k (by rw [gO];omega) ?_);intro g9 c9 w9 K L _ _;have an:Grew W w9->True:=λ_=>trivial;have I:=Nu HH (HL.grew (f.alloc (.cells #[.int .i64 (u32 p),.string t] 193))) L (H.row_ge);have av:=zh K;have a0:=zh I;clear K L I an;go_wp2_with fail
          go_roundg (n - (k+1))
          case measure=>rw [bl.out];omega
          case rel=>exact ⟨k+1,oo,oo,by go_num,by rw [A.out,gm];exact av.out,by rw [G.out,al.out],a0,λj hj=>by rcases it j k with M | M;exact Y.out j M;rw [show j=k from oo];exact ae.out⟩
      . have cx:(u32 uv != u32 (fld d 0))=true:=by rw [C.out,iW];exact λe=>o (Ic e)
        have HI:=zh (Mj (D:=D) k (by rw [HN.out];exact S) (by rw [HV.out,HT.out,Bool.eq_false_iff];intro e;have e2:=(Ep _ _ _).1 e;rw [z.out] at e2;exact o (h2.symm.trans e2.2.1)));clear o h2 ho;go_wp2_with fail;go_ret2;rw [HI.out];exact ⟨_,rfl,OwnL.nil ..,HL.grew f⟩
    . have h1:=bv.out;rw [Hw t _ ho] at h1;injection h1 with h1 h2;injection h2 with h2 h3;subst h1;subst h2;subst h3;have HI:=zh (Mj (D:=D) k (by rw [HN.out];exact S) (by rw [HV.out,HT.out,Bool.eq_false_iff];intro e;have e2:=(Ep _ _ _).1 e;rw [z.out] at e2;exact ho e2.1));clear ho;go_wp2_with fail;go_ret2;rw [HI.out];exact ⟨_,rfl,OwnL.nil ..,HL.grew f⟩
  . obtain rfl:k=n:=oo;have bx:(DR (CM D k)).size<=13580:=by rw [JL HL.out.live.ok (by have:=E.out;omega) k oo];omega
    have b0:=zh (λ(w:World)=>Mt (DR (CM D k)) oo w);obtain ⟨q,hq⟩:∃q,FF (DR (CM D k))=q:=⟨_,rfl⟩;rw [hq] at b0;have b1:Hid (TE D=decide (q=fld d 2)):=zh (by unfold TE;rw [HN.out,cm.out,hq]);have qb:=BJ q;clear hq;go_wp2_with fail;refine (b0 _).mono ?_;rintro e d7 ⟨rfl,b4⟩;have a1:=zh b4;clear b4;by_cases F:q=fld d 2
    . have c4:(u32 q != u32 (fld d 2))=false:=by rw [F];simp
      have c5:Hid (TE D=true):=zh (by rw [b1.out];exact iB F);clear F;have a2:=Du bb 0 (by have:=E.out;omega);obtain ⟨⟨td,tv,tk⟩,a7⟩:∃r,topI D=r:=⟨_,rfl⟩;rw [show AQ (D.content 0) ((0:Nat):Int)=topI D from rfl,a7] at a2;have b2:=zh (HL.grew a1);have b3:=zh (X.grew a1);have c6:=zh (FG (HH.after b2) 0 (by unfold okI;omega) td tv tk 0 a2);have Q:Hid (Qh D=(!tk || (v==tv) || decide (v.toNat=tv.toNat+1))):=zh (by unfold Qh;rw [HV.out,a7]);have a3:Hid (Qh D=true->AU D=Gz D k):=zh (λht=>by have:=cV cl (λj hj=>by rw [HV.out];exact Y.out j (by rw [<-HN.out];exact hj)) c5 ht;rw [HN.out] at this;exact this);have d6:=BJ tv;clear a2 a7;go_wp2_with fail;refine c6.mono ?_;rintro e b5 ⟨rfl,a6⟩;have R:=zh ((b2.out.trans a6).grew ((gK b5).alloc (.cells #[.string td,.int .u32 (u32 tv),.bool tk] 178)));have a4:=zh ((b3.kept a6.turned (λg hg e=>by have:=(b3.own_ge hg).1;have:=HH.store.lt.2;omega)).grew ((gK b5).alloc (.cells #[.string td,.int .u32 (u32 tv),.bool tk] 178)));clear a6;cases tk with
      | false=>
        have HI:Hid (AU D=Gz D k):=zh (a3 (by rw [Q.out];rfl));go_wp2_with fail;go_ret2;rw [HI.out];exact ⟨_,rfl,a4,R⟩
      | true=>
        by_cases B:v=tv
        . have N:(u32 (fld d 0) != u32 tv)=false:=by rw [C.out,B];simp
          have HI:Hid (AU D=Gz D k):=zh (a3 (by rw [Q.out,B];simp));clear B;go_wp2_with fail;go_ret2;rw [HI.out];exact ⟨_,rfl,a4,R⟩
        . have N:(u32 (fld d 0) != u32 tv)=true:=by rw [C.out,iW];exact λe=>B (Ic e)
          by_cases J:v.toNat=tv.toNat+1
          . have c7:(u32 (fld d 0) != u32 tv+1)=false:=by rw [C.out];unfold u32;rw [J];simp
            have HI:Hid (AU D=Gz D k):=zh (a3 (by rw [Q.out];simp [J]));clear B J;go_wp2_with fail;go_ret2;rw [HI.out];exact ⟨_,rfl,a4,R⟩
          . have c7:(u32 (fld d 0) != u32 tv+1)=true:=by rw [C.out,iW];unfold u32;omega
            have HI:Hid (AU D=[]):=zh (dY (by rw [Q.out];simp [J,B]));clear B J;go_wp2_with fail;go_ret2;rw [HI.out];exact ⟨_,rfl,OwnL.nil ..,R⟩
    . have c4:(u32 q != u32 (fld d 2))=true:=by rw [iW];exact λe=>F (Ic e)
      have HI:=zh (dL (D:=D) (by rw [b1.out];exact iC F));clear F;go_wp2_with fail;go_ret2;rw [HI.out];exact ⟨_,rfl,OwnL.nil ..,HL.grew a1⟩
end

def di (D:Dev):List (Int × ByteArray) × Int:=if D.failed=true then ([],10) else (AU D,0)
structure Done (w0:World) (x s m:Nat) (sy ep:Int) (D':Dev) (out:Nat->Prop) (W w':World):Prop where
 live:Live w0 x D' out w'
 store:StoreM w' s m x sy ep
 turned:Turned (λk=>(w0.heap.size<=k/\¬out k)\/k=m) W w'
theorem Looked.done {w0:World} {x s m:Nat} {sy ep:Int} {D:Dev} {out:Nat->Prop} {W w':World} (h:Looked w0 x s m sy ep D out W w'):Done w0 x s m sy ep D out W w':=⟨h.live,h.store,h.turned.mono λk _ hk=>.inr hk⟩
theorem Done.look {w0:World} {x s m:Nat} {sy ep:Int} {D:Dev} {out:Nat->Prop} {W w1 w2:World} (h:Done w0 x s m sy ep D out W w1) (k:Looked w0 x s m sy ep D out w1 w2):Done w0 x s m sy ep D out W w2:=⟨k.live,k.store,h.turned.trans (k.turned.mono λ_ _ hk=>.inr hk)⟩
theorem Done.grew {w0:World} {x s m:Nat} {sy ep:Int} {D:Dev} {out:Nat->Prop} {W w1 w2:World} (h:Done w0 x s m sy ep D out W w1) (hg:Grew w1 w2):Done w0 x s m sy ep D out W w2:=⟨h.live.grew hg,h.store.grew hg,h.turned.trans (hg.turned _)⟩
theorem Held.done {w0:World} {x s m:Nat} {sy ep:Int} {D D':Dev} {out:Nat->Prop} {W w':World} (h:Held w0 x s m sy ep D out W) (hd:Done w0 x s m sy ep D' out W w'):Held w0 x s m sy ep D' out w':=⟨hd.live,hd.store,h.os,h.om,h.m0⟩
theorem Looked.beside {w0:World} {x s m:Nat} {sy ep:Int} {D D':Dev} {out:Nat->Prop} {W w1 w2:World} (h0:Held w0 x s m sy ep D out W) (h:Looked w0 x s m sy ep D out W w1) (hl:Live w0 x D' out w2) (hB:Beside w0 out w1 w2):Done w0 x s m sy ep D' out W w2:=
 ⟨hl,h.store.kept hB (λhk=>hk.2 h0.os) (λhk=>hk.2 h0.om),(h.turned.mono λ_ _ hk=>.inr hk).trans (hB.mono λ_ _ hk=>.inl hk)⟩
theorem JG (D:Dev):(AU D).length<=97:=by
 unfold AU;split
 . rename_i h;unfold De Ez at h;simp only [iU,iV] at h;rw [gO];unfold CM;rw [gO,jK];exact h.1.1.2.2
 . exact ia _
theorem Qx {D:Dev} (h:D.Ok) (hl:131<=D.st.length):∀e∈AU D,e.2.size=140:=by
 have hn:=JG D;unfold AU at hn ⊢;split at hn
 . rename_i hb;rw [if_pos hb];intro e he;obtain ⟨s,hs,rfl⟩:=gV.1 he;rw [gO] at hn;unfold CM at hs hn;rw [gO,jK] at hn;obtain ⟨j,hj,rfl⟩:=gV.1 hs;have:=iP.1 hj;exact Fj h oo
 . rename_i hb;rw [if_neg hb];intro e he;cases he
theorem Pu (D:Dev) (sy ep:Int):(Bs D sy ep).1.pend.length<=D.pend.length+100:=by
 have hn:=JG D;have hr:=PA sy ep (CN (AU D)) D;have hc:(CN (AU D)).length=(AU D).length+3:=by unfold CN;rw [iI,gO];rfl
 unfold Bs;split
 . show D.pend.length<=_;omega
 split
 . show D.pend.length<=_;omega
 . show (BS sy ep (CN (AU D)) D).1.pend.length<=_;omega
section
variable {w0:World} {x s m:Nat} {sy ep:Int} {D:Dev} {out:Nat->Prop} {W:World} (h:Held w0 x s m sy ep D out W) (hlen:132<=D.st.length)
include h hlen
theorem UW:Calls Tryz.prog 177 #[ptrV s] W (SG w0 x s m sy ep D out W (di D)):=by
 unfold di;cases hf:D.failed with
 | true=>rw [if_pos rfl];exact O2 h hlen hf
 | false=>
   rw [if_neg qs];obtain ⟨⟨d,v,k⟩,hd⟩:∃r,Bc D=r:=⟨_,rfl⟩;cases k with
   | false=>exact SF h hlen hf (by rw [hd])
   | true=>
     by_cases hv:fld d 0=v
     . by_cases h1:DQ D<1
       . exact VK h hlen hf d v hd hv h1
       . by_cases h2:97<DQ D
         . exact RW h hlen hf d v hd hv h2
         . by_cases hz:d.extract 12 128=BI 116
           . exact QK h hlen hf d v hd hv ⟨oo,oo⟩ hz
           . exact QG h hlen hf d v hd hv ⟨oo,oo⟩ hz
     . exact Tn h hlen hf d v hd hv
theorem Eo (hp:D.pend.length<=980000) (D':Dev) (b:Bool) (er:Int) (hr:Bs D sy ep=(D',b,er)):Calls Tryz.prog 102 #[ptrV s] W λe w'=>e=.returned (.tuple #[.bool b,.int .i64 er])/\Done w0 x s m sy ep D' out W w':=by
 have HI:=zh (UW h hlen);have HH:=zh h;have d:=Qx h.live.ok oo;have g:=JG D;unfold Bs at hr;cases hf:D.failed with
 | true=>
   rw [if_pos hf] at hr;injection hr with h1 h2;injection h2 with h2 h3;subst h1;subst h2;subst h3;have i:Hid (di D=([],10)):=zh (if_pos hf);rw [i.out] at HI;clear h hlen d g hf;go_enter Tryz.func102,Tryz.ntmps102;go_wp2_with fail;refine HI.mono ?_;rintro e w1 ⟨v,rfl,a,hl⟩;have HL:=zh hl;clear a hl;go_wp2_with fail;go_ret2;exact ⟨rfl,HL.done⟩
 | false=>
   rw [if_neg (by rw [hf];simp)] at hr;have i:Hid (di D=(AU D,0)):=zh (if_neg (by rw [hf];simp));rw [i.out] at HI;by_cases h0:AU D=[]
   . rw [if_pos h0] at hr;injection hr with h1 h2;injection h2 with h2 h3;subst h1;subst h2;subst h3;rw [h0] at HI;clear h hlen d g hf h0;go_enter Tryz.func102,Tryz.ntmps102;go_wp2_with fail;refine HI.mono ?_;rintro e w1 ⟨v,rfl,a,hl⟩;obtain ⟨A,c,rfl,_,_,_⟩:=a.listAt;have HL:=zh hl;clear a hl;go_wp2_with fail;go_ret2;exact ⟨rfl,HL.done⟩
   . rw [if_neg h0] at hr;injection hr with h1 h2;injection h2 with h2 h3;have n:0<(AU D).length:=length_pos_iff.2 h0;obtain ⟨L,hL⟩:∃L,AU D=L:=⟨_,rfl⟩;rw [hL] at HI h1 h2 h3 d g n;obtain ⟨⟨E,q⟩,hq⟩:∃r,BS sy ep (CN L) D=r:=⟨_,rfl⟩;rw [hq] at h1 h2 h3;subst h1;subst h2;subst h3;have HC:=zh (λ(w1:World) (hl:Looked w0 x s m sy ep D out W w1)=>Kd hl.live hl.store.blk h.os hp L oo (λe he=>by rw [d e he];omega));rw [hq] at HC;clear h hlen d hf h0 hL hq;have t:((L.length:Int)==0)=false:=by rw [iD];omega
     go_enter Tryz.func102,Tryz.ntmps102;go_wp2_with fail;refine HI.mono ?_;rintro e w1 ⟨v,rfl,a,hl⟩;obtain ⟨A,c,rfl,_,_,l⟩:=a.listAt;have HL:=zh hl;have o:=zh (HC w1 hl A c l);clear a hl l HC;go_wp2_with fail;refine o.mono ?_;rintro e w2 ⟨rfl,j,k⟩;have HD:=zh (HL.beside HH j k);clear j k;by_cases f:q=0
     . subst f;go_wp2_with fail;go_ret2;exact ⟨rfl,HD⟩
     . have u:(q != 0)=true:=by rw [iW];exact f
       have p:(q==0)=false:=by rw [iD];exact f
       clear f;go_wp2_with fail;go_ret2;rw [p];exact ⟨rfl,HD⟩
end

end
end Go.Proofs.YtfklieeipokllaaGreat
