/- Parts of the proof (packed), 19. -/
import Derived.RangeFuncBox
import Derived.RangeFuncNested
import Derived.RangeFuncLeaves
import Derived.RangeFuncCalls
import Derived.RangeFuncRecord
import Derived.Shelf.Abstract
import Derived.Shelf.RegionOpen
import Derived.OwnWalkIn
import Derived.TacticsInMore
import Derived.LoopNIn
import Derived.LoopIn
import Derived.Test.YtfklieeipokllaaGreatCzQ
import Derived.Test.YtfklieeipokllaaGreatCzR
namespace Go.Proofs.YtfklieeipokllaaGreat
set_option linter.all false
set_option maxRecDepth 100000
set_option maxHeartbeats 16000000
open List
section
attribute [local go_sem ↓] Go.wp_at_zero Go.wp_at_succ
open Go.RowKit
theorem F0 {D:Dev} {sy ep n:Int} {T:Tab} (h1:(CZ D sy ep n).2.1=T) (h2:(CZ D sy ep n).2.2=0):GoodT T:=by
 unfold CZ at h1 h2;simp only at h1 h2;unfold asT at h1 h2;split at h1
 . rename_i h3;rw [if_pos h3] at h2;exact absurd h2 h3
 . rename_i h3;rw [if_neg h3] at h2;split at h1
   . rename_i U hU;rw [hU] at h2;simp only at h2;split at h1
     . have h4:=XW hU;subst h1;exact (AX _).1 h4.1
     . rename_i h5;rw [if_neg h5] at h2;cases h2
   . rename_i hU;rw [hU] at h2;cases h2
theorem Bg {T:Tab} (h:GoodT T):SmallT T:=⟨by have:=h.small.1;omega,λl hl=>by have:=(h.small.2 l hl).1;omega⟩
theorem Ew {w0:World} {out:Nat->Prop} {m v:Nat} {W W1 w':World} {b:Nat} {t:TypeId} {cs:Array Value} (hb:Blk W1 b t cs) (h1:W.heap.size<=b) (hm:m<W.heap.size) (hv:v<W.heap.size) (ht:Turned (VSet w0 (λk=>out k\/(W.heap.size<=k/\k<W1.heap.size)) m v) W1 w'):Blk w' b t cs:=
 hb.turned ht (λh9=>by
  rcases h9 with h9 | h9 | h9
  . exact h9.2 (.inr ⟨h1,hb.lt⟩)
  . omega
  . omega)
theorem No {w0:World} {out:Nat->Prop} {m v:Nat} {P:Nat->Prop} {b:Nat} (h:Far w0 out m v b):Far w0 (λk=>out k\/P k) m v b:=h.mono λ_=>.inl
def Qz (id unit:Int) (nm nt:ByteArray) (k:Int) (b1 b2 b3 b4:Nat) (w:World):Prop:=Blk w b1 32 #[.int .i64 id,.int .i64 unit]/\Blk w b2 9 #[.string nm]/\Blk w b3 9 #[.string nt]/\Blk w b4 3 #[.int .i64 k]
theorem WP (T:Tab) (hs:SmallT T) (id a:Int) (nm nt:ByteArray) (h:nm.size<=9223372036854775807) (g:nt.size<=9223372036854775807) (k:Int) (hk:okI k) (b1 b2 b3 b4:Nat):MG (.func (.func 65) #[] #[.pointer (some ⟨b1,0,none⟩),.pointer (some ⟨b2,0,none⟩),.pointer (some ⟨b3,0,none⟩),.pointer (some ⟨b4,0,none⟩)]) (Qz id a nm nt k b1 b2 b3 b4) T (CI T id a nm nt k):=by
 refine ⟨65,#[],_,rfl,BV Tryz.func65 qk qk,λw A c ys hP ht=>?_⟩;show Calls Tryz.prog 65 #[.agg #[.string T.name,.int .i64 T.tracks,.slice A T.labels.length c],.pointer (some ⟨b1,0,none⟩),.pointer (some ⟨b2,0,none⟩),.pointer (some ⟨b3,0,none⟩),.pointer (some ⟨b4,0,none⟩)] w _;obtain ⟨⟨T',er⟩,hr⟩:∃r,CI T id a nm nt k=r:=⟨_,rfl⟩;rw [hr];have b:Grew w ((w.alloc (.cells #[.string T.name,.int .i64 T.tracks,.slice A T.labels.length c] 50)).alloc (.cells #[.string ⟨#[]⟩,.int .i64 0,.slice none 0 0] 50)):=((gK w).alloc _).alloc _;have d:=gZ (w.alloc (.cells #[.string T.name,.int .i64 T.tracks,.slice A T.labels.length c] 50)) 50 #[.string ⟨#[]⟩,.int .i64 0,.slice none 0 0] (n:=w.heap.size+1) qs;unfold Qz at hP;obtain ⟨q1,q2,q3,q4⟩:=hP;have m:=q1.cell 0;have o:=q1.cell 1;have l1:=q1.lt;have p:=q2.cell 0;have l2:=q2.lt;have q:=q3.cell 0;have l3:=q3.lt;have s:=q4.cell 0;have l4:=q4.lt;have HK:=zh hk;unfold okI at hk;have HC:=zh (Tf A c ys T id a _ (ht.hold b) hs nm nt h g k hk.1 hk.2 _ _ hr);have HZ:=zh d;have HG:=zh b;clear b d q1 q2 q3 q4 hr;go_enter Tryz.func65,Tryz.ntmps65;go_wp2_with fail;refine HC.mono ?_;rintro e w1 ⟨A1,c1,zs,rfl,f,g1⟩;have hz:=HZ.grew g1;have i:=zh hz;have j:=zh (HG.out.trans g1);have l:=zh f;have z0:=hz.cell 0;have z1:=hz.cell 1;have z2:=hz.cell 2;have f0:=hz.frozen 0;have f1:=hz.frozen 1;have f2:=hz.frozen 2;have zl:=hz.lt;clear hz g1 f l1 l2 l3 l4;go_wp2_with fail;refine gw (by first | (simp [*,results,Tryz.results65,go_sem];rfl) | simp [*,results,Tryz.results65,go_sem]) rfl ?_;exact ⟨A1,c1,zs,rfl,l.apart i (gT),by have hg:=j.out;exact gG⟩
def Qo (id unit:Int) (k:Int) (b1 b2:Nat) (w:World):Prop:=Blk w b1 32 #[.int .i64 id,.int .i64 unit]/\Blk w b2 3 #[.int .i64 k]
theorem WW (T:Tab) (hs:SmallT T) (id a:Int) (k:Int) (hk:okI k) (b1 b2:Nat):MG (.func (.func 81) #[] #[.pointer (some ⟨b1,0,none⟩),.pointer (some ⟨b2,0,none⟩)]) (Qo id a k b1 b2) T (Bt T id a (Ho T k)):=by
 refine ⟨81,#[],_,rfl,BV Tryz.func81 qk qk,λw A c ys hP ht=>?_⟩;show Calls Tryz.prog 81 #[.agg #[.string T.name,.int .i64 T.tracks,.slice A T.labels.length c],.pointer (some ⟨b1,0,none⟩),.pointer (some ⟨b2,0,none⟩)] w _;obtain ⟨⟨T',er⟩,hr⟩:∃r,Bt T id a (Ho T k)=r:=⟨_,rfl⟩;rw [hr];have b:Grew w ((w.alloc (.cells #[.string T.name,.int .i64 T.tracks,.slice A T.labels.length c] 50)).alloc (.cells #[.string ⟨#[]⟩,.int .i64 0,.slice none 0 0] 50)):=((gK w).alloc _).alloc _;have d:=gZ (w.alloc (.cells #[.string T.name,.int .i64 T.tracks,.slice A T.labels.length c] 50)) 50 #[.string ⟨#[]⟩,.int .i64 0,.slice none 0 0] (n:=w.heap.size+1) qs;unfold Qo at hP;obtain ⟨q1,q2⟩:=hP;have j:=q1.cell 0;have l:=q1.cell 1;have l1:=q1.lt;have m:=q2.cell 0;have l2:=q2.lt;have HK:=zh hk;unfold okI at hk;have HC:=zh (Tq A c ys T id a _ (ht.hold b) hs k hk.1 hk.2 _ _ hr);have HZ:=zh d;have HG:=zh b;clear b d q1 q2 hr;go_enter Tryz.func81,Tryz.ntmps81;go_wp2_with fail;refine HC.mono ?_;rintro e w1 ⟨A1,c1,zs,rfl,f,g1⟩;have hz:=HZ.grew g1;have g:=zh hz;have h:=zh (HG.out.trans g1);have i:=zh f;have z0:=hz.cell 0;have z1:=hz.cell 1;have z2:=hz.cell 2;have f0:=hz.frozen 0;have f1:=hz.frozen 1;have f2:=hz.frozen 2;have zl:=hz.lt;clear hz g1 f l1 l2;go_wp2_with fail;refine gw (by first | (simp [*,results,Tryz.results81,go_sem];rfl) | simp [*,results,Tryz.results81,go_sem]) rfl ?_;exact ⟨A1,c1,zs,rfl,i.apart g (gT),by have hg:=h.out;exact gG⟩
def N8 (id unit:Int) (k:Int) (b1 b2:Nat) (w:World):Prop:=Blk w b1 32 #[.int .i64 id,.int .i64 unit]/\Blk w b2 3 #[.int .i64 k]
theorem VC (T:Tab) (hs:SmallT T) (id a:Int) (k:Int) (hk:okI k) (b1 b2:Nat):MG (.func (.func 83) #[] #[.pointer (some ⟨b1,0,none⟩),.pointer (some ⟨b2,0,none⟩)]) (N8 id a k b1 b2) T (Bt T id a (G5 T k)):=by
 refine ⟨83,#[],_,rfl,BV Tryz.func83 qk qk,λw A c ys hP ht=>?_⟩;show Calls Tryz.prog 83 #[.agg #[.string T.name,.int .i64 T.tracks,.slice A T.labels.length c],.pointer (some ⟨b1,0,none⟩),.pointer (some ⟨b2,0,none⟩)] w _;obtain ⟨⟨T',er⟩,hr⟩:∃r,Bt T id a (G5 T k)=r:=⟨_,rfl⟩;rw [hr];have b:Grew w ((w.alloc (.cells #[.string T.name,.int .i64 T.tracks,.slice A T.labels.length c] 50)).alloc (.cells #[.string ⟨#[]⟩,.int .i64 0,.slice none 0 0] 50)):=((gK w).alloc _).alloc _;have d:=gZ (w.alloc (.cells #[.string T.name,.int .i64 T.tracks,.slice A T.labels.length c] 50)) 50 #[.string ⟨#[]⟩,.int .i64 0,.slice none 0 0] (n:=w.heap.size+1) qs;unfold N8 at hP;obtain ⟨q1,q2⟩:=hP;have j:=q1.cell 0;have l:=q1.cell 1;have l1:=q1.lt;have m:=q2.cell 0;have l2:=q2.lt;have HK:=zh hk;unfold okI at hk;have HC:=zh (Sx A c ys T id a _ (ht.hold b) hs k hk.1 hk.2 _ _ hr);have HZ:=zh d;have HG:=zh b;clear b d q1 q2 hr;go_enter Tryz.func83,Tryz.ntmps83;go_wp2_with fail;refine HC.mono ?_;rintro e w1 ⟨A1,c1,zs,rfl,f,g1⟩;have hz:=HZ.grew g1;have g:=zh hz;have h:=zh (HG.out.trans g1);have i:=zh f;have z0:=hz.cell 0;have z1:=hz.cell 1;have z2:=hz.cell 2;have f0:=hz.frozen 0;have f1:=hz.frozen 1;have f2:=hz.frozen 2;have zl:=hz.lt;clear hz g1 f l1 l2;go_wp2_with fail;refine gw (by first | (simp [*,results,Tryz.results83,go_sem];rfl) | simp [*,results,Tryz.results83,go_sem]) rfl ?_;exact ⟨A1,c1,zs,rfl,i.apart g (gT),by have hg:=h.out;exact gG⟩
def M0 (id unit:Int) (nt:ByteArray) (b1 b2:Nat) (w:World):Prop:=Blk w b1 32 #[.int .i64 id,.int .i64 unit]/\Blk w b2 9 #[.string nt]
theorem UM (T:Tab) (hs:SmallT T) (id a:Int) (nt:ByteArray) (g:nt.size<=9223372036854775807) (b1 b2:Nat):MG (.func (.func 85) #[] #[.pointer (some ⟨b1,0,none⟩),.pointer (some ⟨b2,0,none⟩)]) (M0 id a nt b1 b2) T (Bt T id a (Ig T id nt)):=by
 refine ⟨85,#[],_,rfl,BV Tryz.func85 qk qk,λw A c ys hP ht=>?_⟩;show Calls Tryz.prog 85 #[.agg #[.string T.name,.int .i64 T.tracks,.slice A T.labels.length c],.pointer (some ⟨b1,0,none⟩),.pointer (some ⟨b2,0,none⟩)] w _;obtain ⟨⟨T',er⟩,hr⟩:∃r,Bt T id a (Ig T id nt)=r:=⟨_,rfl⟩;rw [hr];have b:Grew w ((w.alloc (.cells #[.string T.name,.int .i64 T.tracks,.slice A T.labels.length c] 50)).alloc (.cells #[.string ⟨#[]⟩,.int .i64 0,.slice none 0 0] 50)):=((gK w).alloc _).alloc _;have d:=gZ (w.alloc (.cells #[.string T.name,.int .i64 T.tracks,.slice A T.labels.length c] 50)) 50 #[.string ⟨#[]⟩,.int .i64 0,.slice none 0 0] (n:=w.heap.size+1) qs;unfold M0 at hP;obtain ⟨q1,q2⟩:=hP;have k:=q1.cell 0;have l:=q1.cell 1;have l1:=q1.lt;have m:=q2.cell 0;have l2:=q2.lt;have HC:=zh (Rb A c ys T id a _ (ht.hold b) hs nt g _ _ hr);have HZ:=zh d;have HG:=zh b;clear b d q1 q2 hr;go_enter Tryz.func85,Tryz.ntmps85;go_wp2_with fail;refine HC.mono ?_;rintro e w1 ⟨A1,c1,zs,rfl,f,g1⟩;have hz:=HZ.grew g1;have h:=zh hz;have i:=zh (HG.out.trans g1);have j:=zh f;have z0:=hz.cell 0;have z1:=hz.cell 1;have z2:=hz.cell 2;have f0:=hz.frozen 0;have f1:=hz.frozen 1;have f2:=hz.frozen 2;have zl:=hz.lt;clear hz g1 f l1 l2;go_wp2_with fail;refine gw (by first | (simp [*,results,Tryz.results85,go_sem];rfl) | simp [*,results,Tryz.results85,go_sem]) rfl ?_;exact ⟨A1,c1,zs,rfl,j.apart h (gT),by have hg:=i.out;exact gG⟩
def bI (id unit:Int) (nt:ByteArray) (b1 b2:Nat) (w:World):Prop:=Blk w b1 32 #[.int .i64 id,.int .i64 unit]/\Blk w b2 9 #[.string nt]
theorem dR (T:Tab) (hs:SmallT T) (id a:Int) (nt:ByteArray) (g:nt.size<=9223372036854775807) (b1 b2:Nat):MG (.func (.func 87) #[] #[.pointer (some ⟨b1,0,none⟩),.pointer (some ⟨b2,0,none⟩)]) (bI id a nt b1 b2) T (Bt T id a (Et T nt)):=by
 refine ⟨87,#[],_,rfl,BV Tryz.func87 qk qk,λw A c ys hP ht=>?_⟩;show Calls Tryz.prog 87 #[.agg #[.string T.name,.int .i64 T.tracks,.slice A T.labels.length c],.pointer (some ⟨b1,0,none⟩),.pointer (some ⟨b2,0,none⟩)] w _;obtain ⟨⟨T',er⟩,hr⟩:∃r,Bt T id a (Et T nt)=r:=⟨_,rfl⟩;rw [hr];have b:Grew w ((w.alloc (.cells #[.string T.name,.int .i64 T.tracks,.slice A T.labels.length c] 50)).alloc (.cells #[.string ⟨#[]⟩,.int .i64 0,.slice none 0 0] 50)):=((gK w).alloc _).alloc _;have d:=gZ (w.alloc (.cells #[.string T.name,.int .i64 T.tracks,.slice A T.labels.length c] 50)) 50 #[.string ⟨#[]⟩,.int .i64 0,.slice none 0 0] (n:=w.heap.size+1) qs;unfold bI at hP;obtain ⟨q1,q2⟩:=hP;have k:=q1.cell 0;have l:=q1.cell 1;have l1:=q1.lt;have m:=q2.cell 0;have l2:=q2.lt;have HC:=zh (bh A c ys T id a _ (ht.hold b) hs nt g _ _ hr);have HZ:=zh d;have HG:=zh b;clear b d q1 q2 hr;go_enter Tryz.func87,Tryz.ntmps87;go_wp2_with fail;refine HC.mono ?_;rintro e w1 ⟨A1,c1,zs,rfl,f,g1⟩;have hz:=HZ.grew g1;have h:=zh hz;have i:=zh (HG.out.trans g1);have j:=zh f;have z0:=hz.cell 0;have z1:=hz.cell 1;have z2:=hz.cell 2;have f0:=hz.frozen 0;have f1:=hz.frozen 1;have f2:=hz.frozen 2;have zl:=hz.lt;clear hz g1 f l1 l2;go_wp2_with fail;refine gw (by first | (simp [*,results,Tryz.results87,go_sem];rfl) | simp [*,results,Tryz.results87,go_sem]) rfl ?_;exact ⟨A1,c1,zs,rfl,j.apart h (gT),by have hg:=i.out;exact gG⟩
def Qk (id unit:Int) (b1:Nat) (w:World):Prop:=Blk w b1 32 #[.int .i64 id,.int .i64 unit]
theorem XA (T:Tab) (hs:SmallT T) (id a:Int) (b1:Nat):MG (.func (.func 89) #[] #[.pointer (some ⟨b1,0,none⟩)]) (Qk id a b1) T (Bt T id a (Ju T)):=by
 refine ⟨89,#[],_,rfl,BV Tryz.func89 qk qk,λw A c ys hP ht=>?_⟩;show Calls Tryz.prog 89 #[.agg #[.string T.name,.int .i64 T.tracks,.slice A T.labels.length c],.pointer (some ⟨b1,0,none⟩)] w _;obtain ⟨⟨T',er⟩,hr⟩:∃r,Bt T id a (Ju T)=r:=⟨_,rfl⟩;rw [hr];have b:Grew w ((w.alloc (.cells #[.string T.name,.int .i64 T.tracks,.slice A T.labels.length c] 50)).alloc (.cells #[.string ⟨#[]⟩,.int .i64 0,.slice none 0 0] 50)):=((gK w).alloc _).alloc _;have d:=gZ (w.alloc (.cells #[.string T.name,.int .i64 T.tracks,.slice A T.labels.length c] 50)) 50 #[.string ⟨#[]⟩,.int .i64 0,.slice none 0 0] (n:=w.heap.size+1) qs;unfold Qk at hP;have q1:=hP;have j:=q1.cell 0;have k:=q1.cell 1;have l1:=q1.lt;have HC:=zh (Td A c ys T id a _ (ht.hold b) hs _ _ hr);have HZ:=zh d;have HG:=zh b;clear b d q1 hr;go_enter Tryz.func89,Tryz.ntmps89;go_wp2_with fail;refine HC.mono ?_;rintro e w1 ⟨A1,c1,zs,rfl,f,g1⟩;have hz:=HZ.grew g1;have g:=zh hz;have h:=zh (HG.out.trans g1);have i:=zh f;have z0:=hz.cell 0;have z1:=hz.cell 1;have z2:=hz.cell 2;have f0:=hz.frozen 0;have f1:=hz.frozen 1;have f2:=hz.frozen 2;have zl:=hz.lt;clear hz g1 f l1;go_wp2_with fail;refine gw (by first | (simp [*,results,Tryz.results89,go_sem];rfl) | simp [*,results,Tryz.results89,go_sem]) rfl ?_;exact ⟨A1,c1,zs,rfl,i.apart g (gT),by have hg:=h.out;exact gG⟩
section
variable {w0:World} {x s m v:Nat} {n sy ep:Int} {D:Dev} {out:Nat->Prop} {W:World} (h:VHeld w0 x s m v n sy ep D out W) (hlen:132<=D.st.length/\D.st.length<=1155) (hp:D.pend.length<=900000) (hn:okT n=true) (HCM:∀E,(CZ D sy ep n).1=E->(CZ D sy ep n).2.2=0->Cm x s m sy ep E)
include h hlen hp hn HCM
theorem MN (id a:Int) (nm nt:ByteArray) (p:nm.size<=9223372036854775807) (o:nt.size<=9223372036854775807) (k:Int) (hk:okI k) (ws:List (Int × ByteArray)) (hl:ws.length<=900000) (j:∀e∈ws,okI e.1) (B:Option Addr) (d:Nat) (l:ListAt W W.heap.size 2 B (ws.map BM)) (hB:ws≠[]->∀b off,B=some ⟨b,off,none⟩->Far w0 out m v b) (D':Dev) (er:Int) (hr:chP D sy ep n id a ws (λT=>CI T id a nm nt k)=(D',er)):
 Calls Tryz.prog 23 #[ptrV v,.agg #[.int .i64 id,.int .i64 a],.string nm,.string nt,.int .i64 k,.slice B ws.length d] W λe w'=>e=.returned (.int .i64 er)/\∃out',VDid w0 x s m v n sy ep D' out W out' w':=by
 have c:Grew W ((((W.alloc (.cells #[.int .i64 id,.int .i64 a] 32)).alloc (.cells #[.string nm] 9)).alloc (.cells #[.string nt] 9)).alloc (.cells #[.int .i64 k] 3)):=((((gK W).alloc _).alloc _).alloc _).alloc _;have f:=h.held.store.lt.2;have g:=h.vol.lt;have q1:=((((gZ W 32 #[.int .i64 id,.int .i64 a] (n:=W.heap.size) qs).alloc (.cells #[.string nm] 9)).alloc (.cells #[.string nt] 9)).alloc (.cells #[.int .i64 k] 3));have q2:=(((gZ (W.alloc (.cells #[.int .i64 id,.int .i64 a] 32)) 9 #[.string nm] (n:=W.heap.size+1) qs).alloc (.cells #[.string nt] 9)).alloc (.cells #[.int .i64 k] 3));have q3:=((gZ ((W.alloc (.cells #[.int .i64 id,.int .i64 a] 32)).alloc (.cells #[.string nm] 9)) 9 #[.string nt] (n:=W.heap.size+1+1) qs).alloc (.cells #[.int .i64 k] 3));have q4:=gZ (((W.alloc (.cells #[.int .i64 id,.int .i64 a] 32)).alloc (.cells #[.string nm] 9)).alloc (.cells #[.string nt] 9)) 3 #[.int .i64 k] (n:=W.heap.size+1+1+1) qs;obtain ⟨W1,i⟩:∃W1,W1=((((W.alloc (.cells #[.int .i64 id,.int .i64 a] 32)).alloc (.cells #[.string nm] 9)).alloc (.cells #[.string nt] 9)).alloc (.cells #[.int .i64 k] 3)):=⟨_,rfl⟩;rw [<-i] at c q1 q2 q3 q4
 have HC:=zh (DW (h.more c) hlen hp hn id a HCM ws hl j B d (Ad l c) (λhne b off e=>No (hB hne b off e)) (λT=>CI T id a nm nt k) _ (Qz id a nm nt k (W.heap.size) (W.heap.size+1) (W.heap.size+1+1) (W.heap.size+1+1+1))
  (λw' ht=>⟨Ew q1 oo f g ht,Ew q2 oo f g ht,Ew q3 oo f g ht,Ew q4 oo f g ht⟩)
  (λT h1 h2=>⟨WP T (Bg (F0 h1 h2)) id a nm nt p o k hk (W.heap.size) (W.heap.size+1) (W.heap.size+1+1) (W.heap.size+1+1+1),λh3=>by
    obtain ⟨⟨U,e3⟩,hu⟩:∃r,CI T id a nm nt k=r:=⟨_,rfl⟩
    simp only [hu] at h3 ⊢
    subst h3
    exact Bg (EU T U id a nm nt k hu).good⟩) D' er hr)
 have HG:=zh c;have q:=q1.cell 0;have t:=q1.cell 1;have l1:=q1.lt;have u:=q2.cell 0;have l2:=q2.lt;have w:=q3.cell 0;have l3:=q3.lt;have y:=q4.cell 0;have l4:=q4.lt;unfold okI at hk;clear h hlen hp hn HCM c f g hr q1 q2 q3 q4 j l hB;go_enter Tryz.func23,Tryz.ntmps23;rw [i] at HC HG q t l1 u l2 w l3 y l4;clear i W1;go_wp2_with fail;refine HC.mono ?_;rintro e w1 ⟨rfl,o1,hd⟩;have HD:=zh (VDid.after2 HG hd);clear hd;go_wp2_with fail;go_ret;exact ⟨rfl,_,HD⟩
theorem RT (id a:Int) (k:Int) (hk:okI k) (D':Dev) (er:Int) (hr:chP D sy ep n id a [] (λT=>Bt T id a (Ho T k))=(D',er)):
 Calls Tryz.prog 31 #[ptrV v,.agg #[.int .i64 id,.int .i64 a],.int .i64 k] W λe w'=>e=.returned (.int .i64 er)/\∃out',VDid w0 x s m v n sy ep D' out W out' w':=by
 have b:Grew W ((W.alloc (.cells #[.int .i64 id,.int .i64 a] 32)).alloc (.cells #[.int .i64 k] 3)):=((gK W).alloc _).alloc _;have c:=h.held.store.lt.2;have d:=h.vol.lt;have q1:=((gZ W 32 #[.int .i64 id,.int .i64 a] (n:=W.heap.size) qs).alloc (.cells #[.int .i64 k] 3));have q2:=gZ (W.alloc (.cells #[.int .i64 id,.int .i64 a] 32)) 3 #[.int .i64 k] (n:=W.heap.size+1) qs;obtain ⟨W1,f⟩:∃W1,W1=((W.alloc (.cells #[.int .i64 id,.int .i64 a] 32)).alloc (.cells #[.int .i64 k] 3)):=⟨_,rfl⟩;rw [<-f] at b q1 q2
 have HC:=zh (DW (h.more b) hlen hp hn id a HCM [] qs (λe he=>by cases he) none 0 (λh9=>absurd h9 qs) (λhne=>absurd rfl hne) (λT=>Bt T id a (Ho T k)) _ (Qo id a k (W.heap.size) (W.heap.size+1))
  (λw' ht=>⟨Ew q1 oo c d ht,Ew q2 oo c d ht⟩)
  (λT h1 h2=>⟨WW T (Bg (F0 h1 h2)) id a k hk (W.heap.size) (W.heap.size+1),λh3=>by
    obtain ⟨⟨U,e3⟩,hu⟩:∃r,Bt T id a (Ho T k)=r:=⟨_,rfl⟩
    simp only [hu] at h3 ⊢
    subst h3
    exact Bg (IU T U id a k hu).good⟩) D' er hr)
 have HG:=zh b;have g:=q1.cell 0;have i:=q1.cell 1;have l1:=q1.lt;have j:=q2.cell 0;have l2:=q2.lt;unfold okI at hk;clear h hlen hp hn HCM b c d hr q1 q2;go_enter Tryz.func31,Tryz.ntmps31;rw [f] at HC HG g i l1 j l2;clear f W1;go_wp2_with fail;refine HC.mono ?_;rintro e w1 ⟨rfl,o1,hd⟩;have HD:=zh (VDid.after2 HG hd);clear hd;go_wp2_with fail;go_ret;exact ⟨rfl,_,HD⟩
theorem Q2 (id a:Int) (k:Int) (hk:okI k) (D':Dev) (er:Int) (hr:chP D sy ep n id a [] (λT=>Bt T id a (G5 T k))=(D',er)):
 Calls Tryz.prog 32 #[ptrV v,.agg #[.int .i64 id,.int .i64 a],.int .i64 k] W λe w'=>e=.returned (.int .i64 er)/\∃out',VDid w0 x s m v n sy ep D' out W out' w':=by
 have b:Grew W ((W.alloc (.cells #[.int .i64 id,.int .i64 a] 32)).alloc (.cells #[.int .i64 k] 3)):=((gK W).alloc _).alloc _;have c:=h.held.store.lt.2;have d:=h.vol.lt;have q1:=((gZ W 32 #[.int .i64 id,.int .i64 a] (n:=W.heap.size) qs).alloc (.cells #[.int .i64 k] 3));have q2:=gZ (W.alloc (.cells #[.int .i64 id,.int .i64 a] 32)) 3 #[.int .i64 k] (n:=W.heap.size+1) qs;obtain ⟨W1,f⟩:∃W1,W1=((W.alloc (.cells #[.int .i64 id,.int .i64 a] 32)).alloc (.cells #[.int .i64 k] 3)):=⟨_,rfl⟩;rw [<-f] at b q1 q2
 have HC:=zh (DW (h.more b) hlen hp hn id a HCM [] qs (λe he=>by cases he) none 0 (λh9=>absurd h9 qs) (λhne=>absurd rfl hne) (λT=>Bt T id a (G5 T k)) _ (N8 id a k (W.heap.size) (W.heap.size+1))
  (λw' ht=>⟨Ew q1 oo c d ht,Ew q2 oo c d ht⟩)
  (λT h1 h2=>⟨VC T (Bg (F0 h1 h2)) id a k hk (W.heap.size) (W.heap.size+1),λh3=>by
    obtain ⟨⟨U,e3⟩,hu⟩:∃r,Bt T id a (G5 T k)=r:=⟨_,rfl⟩
    simp only [hu] at h3 ⊢
    subst h3
    exact Bg (Gn T U id a k hu).good⟩) D' er hr)
 have HG:=zh b;have g:=q1.cell 0;have i:=q1.cell 1;have l1:=q1.lt;have j:=q2.cell 0;have l2:=q2.lt;unfold okI at hk;clear h hlen hp hn HCM b c d hr q1 q2;go_enter Tryz.func32,Tryz.ntmps32;rw [f] at HC HG g i l1 j l2;clear f W1;go_wp2_with fail;refine HC.mono ?_;rintro e w1 ⟨rfl,o1,hd⟩;have HD:=zh (VDid.after2 HG hd);clear hd;go_wp2_with fail;go_ret;exact ⟨rfl,_,HD⟩
theorem Qw (id a:Int) (nt:ByteArray) (l:nt.size<=9223372036854775807) (ws:List (Int × ByteArray)) (hl:ws.length<=900000) (j:∀e∈ws,okI e.1) (B:Option Addr) (d:Nat) (k:ListAt W W.heap.size 2 B (ws.map BM)) (hB:ws≠[]->∀b off,B=some ⟨b,off,none⟩->Far w0 out m v b) (D':Dev) (er:Int) (hr:chP D sy ep n id 0 ws (λT=>Bt T id a (Ig T id nt))=(D',er)):
 Calls Tryz.prog 33 #[ptrV v,.agg #[.int .i64 id,.int .i64 a],.string nt,.slice B ws.length d] W λe w'=>e=.returned (.int .i64 er)/\∃out',VDid w0 x s m v n sy ep D' out W out' w':=by
 have c:Grew W ((W.alloc (.cells #[.int .i64 id,.int .i64 a] 32)).alloc (.cells #[.string nt] 9)):=((gK W).alloc _).alloc _;have f:=h.held.store.lt.2;have g:=h.vol.lt;have q1:=((gZ W 32 #[.int .i64 id,.int .i64 a] (n:=W.heap.size) qs).alloc (.cells #[.string nt] 9));have q2:=gZ (W.alloc (.cells #[.int .i64 id,.int .i64 a] 32)) 9 #[.string nt] (n:=W.heap.size+1) qs;obtain ⟨W1,i⟩:∃W1,W1=((W.alloc (.cells #[.int .i64 id,.int .i64 a] 32)).alloc (.cells #[.string nt] 9)):=⟨_,rfl⟩;rw [<-i] at c q1 q2
 have HC:=zh (DW (h.more c) hlen hp hn id 0 HCM ws hl j B d (Ad k c) (λhne b off e=>No (hB hne b off e)) (λT=>Bt T id a (Ig T id nt)) _ (M0 id a nt (W.heap.size) (W.heap.size+1))
  (λw' ht=>⟨Ew q1 oo f g ht,Ew q2 oo f g ht⟩)
  (λT h1 h2=>⟨UM T (Bg (F0 h1 h2)) id a nt l (W.heap.size) (W.heap.size+1),λh3=>by
    obtain ⟨⟨U,e3⟩,hu⟩:∃r,Bt T id a (Ig T id nt)=r:=⟨_,rfl⟩
    simp only [hu] at h3 ⊢
    subst h3
    exact Bg (Gp T U id a nt hu).good⟩) D' er hr)
 have HG:=zh c;have o:=q1.cell 0;have p:=q1.cell 1;have l1:=q1.lt;have q:=q2.cell 0;have l2:=q2.lt;clear h hlen hp hn HCM c f g hr q1 q2 j k hB;go_enter Tryz.func33,Tryz.ntmps33;rw [i] at HC HG o p l1 q l2;clear i W1;go_wp2_with fail;refine HC.mono ?_;rintro e w1 ⟨rfl,o1,hd⟩;have HD:=zh (VDid.after2 HG hd);clear hd;go_wp2_with fail;go_ret;exact ⟨rfl,_,HD⟩
theorem Xw (id a:Int) (nt:ByteArray) (l:nt.size<=9223372036854775807) (ws:List (Int × ByteArray)) (hl:ws.length<=900000) (j:∀e∈ws,okI e.1) (B:Option Addr) (d:Nat) (k:ListAt W W.heap.size 2 B (ws.map BM)) (hB:ws≠[]->∀b off,B=some ⟨b,off,none⟩->Far w0 out m v b) (D':Dev) (er:Int) (hr:chP D sy ep n id a ws (λT=>Bt T id a (Et T nt))=(D',er)):
 Calls Tryz.prog 34 #[ptrV v,.agg #[.int .i64 id,.int .i64 a],.string nt,.slice B ws.length d] W λe w'=>e=.returned (.int .i64 er)/\∃out',VDid w0 x s m v n sy ep D' out W out' w':=by
 have c:Grew W ((W.alloc (.cells #[.int .i64 id,.int .i64 a] 32)).alloc (.cells #[.string nt] 9)):=((gK W).alloc _).alloc _;have f:=h.held.store.lt.2;have g:=h.vol.lt;have q1:=((gZ W 32 #[.int .i64 id,.int .i64 a] (n:=W.heap.size) qs).alloc (.cells #[.string nt] 9));have q2:=gZ (W.alloc (.cells #[.int .i64 id,.int .i64 a] 32)) 9 #[.string nt] (n:=W.heap.size+1) qs;obtain ⟨W1,i⟩:∃W1,W1=((W.alloc (.cells #[.int .i64 id,.int .i64 a] 32)).alloc (.cells #[.string nt] 9)):=⟨_,rfl⟩;rw [<-i] at c q1 q2
 have HC:=zh (DW (h.more c) hlen hp hn id a HCM ws hl j B d (Ad k c) (λhne b off e=>No (hB hne b off e)) (λT=>Bt T id a (Et T nt)) _ (bI id a nt (W.heap.size) (W.heap.size+1))
  (λw' ht=>⟨Ew q1 oo f g ht,Ew q2 oo f g ht⟩)
  (λT h1 h2=>⟨dR T (Bg (F0 h1 h2)) id a nt l (W.heap.size) (W.heap.size+1),λh3=>by
    obtain ⟨⟨U,e3⟩,hu⟩:∃r,Bt T id a (Et T nt)=r:=⟨_,rfl⟩
    simp only [hu] at h3 ⊢
    subst h3
    exact Bg (KT T U id a nt hu).good⟩) D' er hr)
 have HG:=zh c;have o:=q1.cell 0;have p:=q1.cell 1;have l1:=q1.lt;have q:=q2.cell 0;have l2:=q2.lt;clear h hlen hp hn HCM c f g hr q1 q2 j k hB;go_enter Tryz.func34,Tryz.ntmps34;rw [i] at HC HG o p l1 q l2;clear i W1;go_wp2_with fail;refine HC.mono ?_;rintro e w1 ⟨rfl,o1,hd⟩;have HD:=zh (VDid.after2 HG hd);clear hd;go_wp2_with fail;go_ret;exact ⟨rfl,_,HD⟩
theorem SM (id a:Int) (D':Dev) (er:Int) (hr:chP D sy ep n id a [] (λT=>Bt T id a (Ju T))=(D',er)):
 Calls Tryz.prog 35 #[ptrV v,.agg #[.int .i64 id,.int .i64 a]] W λe w'=>e=.returned (.int .i64 er)/\∃out',VDid w0 x s m v n sy ep D' out W out' w':=by
 have b:Grew W (W.alloc (.cells #[.int .i64 id,.int .i64 a] 32)):=(gK W).alloc _;have d:=h.held.store.lt.2;have f:=h.vol.lt;have q1:=gZ W 32 #[.int .i64 id,.int .i64 a] (n:=W.heap.size) qs;obtain ⟨W1,c⟩:∃W1,W1=(W.alloc (.cells #[.int .i64 id,.int .i64 a] 32)):=⟨_,rfl⟩;rw [<-c] at b q1
 have HC:=zh (DW (h.more b) hlen hp hn id a HCM [] qs (λe he=>by cases he) none 0 (λh9=>absurd h9 qs) (λhne=>absurd rfl hne) (λT=>Bt T id a (Ju T)) _ (Qk id a (W.heap.size))
  (λw' ht=>Ew q1 oo d f ht)
  (λT h1 h2=>⟨XA T (Bg (F0 h1 h2)) id a (W.heap.size),λh3=>by
    obtain ⟨⟨U,e3⟩,hu⟩:∃r,Bt T id a (Ju T)=r:=⟨_,rfl⟩
    simp only [hu] at h3 ⊢
    subst h3
    exact Bg (IX T U id a hu).good⟩) D' er hr)
 have HG:=zh b;have g:=q1.cell 0;have i:=q1.cell 1;have l1:=q1.lt;clear h hlen hp hn HCM b d f hr q1;go_enter Tryz.func35,Tryz.ntmps35;rw [c] at HC HG g i l1;clear c W1;go_wp2_with fail;refine HC.mono ?_;rintro e w1 ⟨rfl,o1,hd⟩;have HD:=zh (VDid.after2 HG hd);clear hd;go_wp2_with fail;go_ret;exact ⟨rfl,_,HD⟩
end

end
section
attribute [local go_sem] Oper.semAt_some
open Go.RowKit Go.Shelf
theorem WV (w:World) (A:Option Addr) (N c:Nat):
 Calls Tryz.prog 153 #[.slice A N c,.int .i64 64] w λe w'=>e=.returned (.func (.func 205) #[] #[ptrV w.heap.size,ptrV (w.heap.size+1)])/\w'=(w.alloc (.cells #[.slice A N c] 24)).alloc (.cells #[.int .i64 64] 3):=by
 go_enter Tryz.func153,Tryz.ntmps153;go_wp2_with fail;go_ret;exact ⟨rfl,rfl⟩
theorem UO (l B1 B2:Nat) (b a N c n:Nat) (hn:1<=n) (hN:N<=1000000) (hc:N<=c/\c<=9223372036854775807) (J:Nat->World->Prop) (Jx:World->Prop)
 (A:Option Addr) (hA:0<N->A=some ⟨b,a,none⟩) (hJ:∀k W,J k W->W.cell? ⟨B1,0,none⟩=some (.slice A N c)/\W.cell? ⟨B2,0,none⟩=some (.int .i64 64)) (hd:∀k W,J k W->J k W.drew)
 (hY:∀k W,J k W->64*k<N->∀d,YieldAt Fence.wide (n - 1) Tryz.prog l #[.slice (some ⟨b,a+64*k*2,none⟩) (min 64 (N - 64*k)) d] W λe W'=>(e=.returned (.bool true)/\J (k+1) W')\/(e=.returned (.bool false)/\Jx W'))
 (W:World) (h0:J 0 W):
 CallsIn Fence.wide n Tryz.prog 205 #[.func (.yield l) #[] #[],ptrV B1,ptrV B2] W λe W'=>(∃v,e=.returned v)/\((∃k,N<=64*k/\J k W')\/Jx W'):=by
 refine callsIn_of_wp Tryz.func205 rfl trivial ?_ rfl;simp only [Tryz.ntmps205,size_toArray,i9,length_nil,Nat.reduceAdd,Nat.reduceSub,Array.replicate_succ,Array.replicate_zero,push_toArray,append_toArray,nil_append,cons_append];gi_wp2;gi_loopw [4] (λi wr=>∃k:Nat,64*k<=N+63/\i=.int .i64 (64*k:Nat)/\J k wr) (λi _=>N+64 - (intOf i).toNat)
 case atStart=>exact ⟨0,oo,rfl,h0⟩
 case round=>
  obtain ⟨k,hk,rfl,f⟩:=hrel;obtain ⟨x1,x2⟩:=hJ k wr f;by_cases o:64*k<N
  . have m:((64*k:Nat):Int)<(N:Int):=oo;obtain rfl:A=some ⟨b,a,none⟩:=hA oo;have g:=hd k wr f;obtain ⟨y1,y2⟩:=hJ k wr.drew g;have hm:Tryz.prog.follows .mixedOrders=true:=qk;have q:64*k<=N:=oo;have r:64*k<=c:=oo;gi_wp2;gi_region_o;obtain ⟨e,he⟩:∃e:Nat,e=min 64 (N - 64*k):=⟨_,rfl⟩;have h:(min 64 ((N - 64*k:Nat):Int))=(e:Int):=oo;rw [h];have s:IntKind.i64.wrap (64*(k:Int)+(e:Int))=64*(k:Int)+(e:Int):=iY _ oo;obtain ⟨fn,w,x,y,hy,hR⟩:=hY k wr.drew g o e;rw [<-he] at hy;have z1:64*k+e<=c:=oo;have t:0<e:=oo;have HE:=zh he;clear he h;gi_wp2;refine hR.mono ?_;rintro e3 W3 (⟨rfl,j⟩ | ⟨rfl,p⟩)
    . obtain ⟨-,v2⟩:=hJ _ _ j;have u:IntKind.i64.wrap (64*(k:Int)+64)=64*(k:Int)+64:=iY _ oo;gi_wp2
      go_roundw
      case rel=>exact ⟨k+1,oo,by go_num,j⟩
      case measure=>simp [intOf];omega
    . gi_wp2;refine gw (results_none rfl _ _ _) rfl ?_;exact ⟨⟨_,rfl⟩,.inr p⟩
  . have m:¬((64*k:Nat):Int)<(N:Int):=oo;gi_wp2;go_end0;exact ⟨⟨_,rfl⟩,.inl ⟨k,oo,f⟩⟩
def gH (D:Nat) (I Ix:World->Prop) (W:World):Exit->Act->World->Prop
 | .normal,_,W'=>(W'.heap[D]? =W.heap[D]? /\W'.heap[D+1]? =W.heap[D+1]?)/\I W'
 | .ret,_,W'=>(W'.heap[D]? =W.heap[D]? /\W'.heap[D+1]? =W.heap[D+1]?)/\Ix W'
 | _,_,_=>False
theorem fL {n:Nat} {P:Program} {g:Operand} {p:Tmp} {assign body:Code} {Q:Exit->Act->World->Prop} {a:Act} {w:World}
 (h1:1<=n) {gf:Nat} {lb:Array Value} (hg:a.eval g=.func (.func gf) #[] lb) (eg:∀args w,(callFunc gf args).run P w=.ok (.enter gf args) w)
 (I:Nat->World->Prop) (Ix:World->Prop) (N:Nat->Prop) (enc:Nat->Value->Prop)
 (A:∀(l:Nat) (J:Nat->World->Prop) (Jx:World->Prop) (W:World),(∀k W,J k W->I k W)->(∀k W,J k W->J k W.drew)->
   (∀k W,J k W->N k->∀v,enc k v->YieldAt Fence.wide (n - 1 - 1) P l #[v] W λe W'=>(e=.returned (.bool true)/\J (k+1) W')\/(e=.returned (.bool false)/\Jx W'))->J 0 W->
   CallsIn Fence.wide (n - 1) P gf (#[.func (.yield l) #[] #[]]++lb) W λe W'=>(∃v,e=.returned v)/\((∃k,¬N k/\J k W')\/Jx W'))
 (C:∀k W,I k W->I k W.drew) (i:∀k W o,I k W->w.heap.size+1<W.heap.size->I k (W.putObj (w.heap.size+1) o)) (r:∀W o,Ix W->w.heap.size+1<W.heap.size->Ix (W.putObj (w.heap.size+1) o))
 (h0:∀o,I 0 ((w.alloc (.deferred (some []))).alloc o)) (a1:Value->Act)
 (z:∀(l:Nat) (v:Value) (W:World) (K:Act->World->Prop),K (a1 v) W->assign.wpIn (Fence.wide.inRound l) (n - 1 - 1) P (Exit.then K (λ_ _ _=>False)) { tmps:=a.tmps.setIfInBounds p v,defers:=[] } W)
 (D:∀(l k:Nat) (v:Value) (W:World),I k W->N k->enc k v->body.wpIn (Fence.wide.inRound l) (n - 1 - 1) P (gH w.heap.size (I (k+1)) Ix W) (a1 v) W)
 (y:∀(k:Nat) (W:World),I k W->¬N k->W.heap[w.heap.size]? =some (.deferred (some []))->Q .normal { a with defers:={ target:=.collected w.heap.size,args:=#[] }::a.defers } W)
 (B:∀W:World,Ix W->W.heap[w.heap.size]? =some (.deferred (some []))->Code.ret.wpIn Fence.wide n P Q { a with defers:={ target:=.collected w.heap.size,args:=#[] }::a.defers } W):
 (Code.rangeFunc g #[p] assign body).wpIn Fence.wide n P Q a w:=by
 refine wpIn_rangeFunc ?_;intro fn H;obtain ⟨b,c⟩:∃b:LoopState->Option Code->Loop,b=λst pe=>{ state:=st,pending:=pe,fn,tmps:=a.tmps,params:=#[p],assign,body,defers:=w.heap.size }:=⟨_,rfl⟩;obtain ⟨W1,f⟩:∃W1,(w.alloc (.deferred (some []))).alloc (.loop (b .ready none))=W1:=⟨_,rfl⟩
 have E:W1.heap[w.heap.size+1]? =some (.loop (b .ready none)):=by
  rw [<-f];have:=World.alloc_heap_new (w.alloc (.deferred (some []))) (.loop (b .ready none));rwa [World.size_alloc] at this
 have F:W1.heap[w.heap.size]? =some (.deferred (some [])):=by
  rw [<-f];exact (Below.heap_alloc _ _ _ qs).trans (World.alloc_heap_new w _)
 have G:I 0 W1:=by rw [<-f];exact h0 _
 refine ⟨w.heap.size+1,[{ target:=.collected w.heap.size,args:=#[] }],W1,{ target:=.fn (.func gf) lb,args:=#[.func (.yield (w.heap.size+1)) #[] #[]] },W1,gf,
  #[.func (.yield (w.heap.size+1)) #[] #[]]++lb,W1,?_,?_,?_,?_,λ_=>h1,?_⟩
 . rw [<-f,c];exact run_enterLoop_outer _ _ _ _ _
 . simp only [resolve,hg];simp [go_sem]
 . intro f' _;trivial
 . simp [invoke,go_sem,eg]
 . refine (A (w.heap.size+1)
    (λk W=>I k W/\W.heap[w.heap.size+1]? =some (.loop (b .ready none))/\W.heap[w.heap.size]? =some (.deferred (some [])))
    (λW=>Ix W/\W.heap[w.heap.size+1]? =some (.loop (b .done (some .ret)))/\W.heap[w.heap.size]? =some (.deferred (some [])))
    W1 (λk W h=>h.1) (λk W h=>⟨C k W h.1,h.2⟩) ?_ ⟨G,E,F⟩).mono ?_
   . rintro k W ⟨hi,hl,hk⟩ hN v hv;have s:w.heap.size+1<W.heap.size:=(ib.1 hl).1;have hy:=run_yield (P:=P) (args:=#[v]) hl (by rw [c];rfl);rw [c] at hy;replace hy:(Instr.yield (w.heap.size+1) #[v]).run P W=.ok (.round (w.heap.size+1) fn (a.tmps.setIfInBounds p v) assign body) W:=by simpa using hy
     refine ⟨fn,_,assign,body,hy,roundIn_of_wpIn H ?_⟩;apply z;refine ⟨_,run_beginRound hl (by rw [c]),?_⟩;have u:(W.putObj (w.heap.size+1) (.loop { b .ready none with state:=.busy })).heap[w.heap.size+1]? =some (.loop { b .ready none with state:=.busy }):=World.putObj_heap_same s;have x:(W.putObj (w.heap.size+1) (.loop { b .ready none with state:=.busy })).heap[w.heap.size]? =some (.deferred (some [])):=(World.putObj_heap_other oo).trans hk;refine wpIn_mono (D _ k v _ (i k W _ hi s) hN hv) ?_;have fin:∀(jump:Option Code) (W3:World),W3.heap[w.heap.size]? =some (.deferred (some []))->W3.heap[w.heap.size+1]? =some (.loop { b .ready none with state:=.busy })->
      (Instr.endRound (w.heap.size+1) jump).run P W3=.ok (.bool jump.isNone) (W3.putObj (w.heap.size+1) (.loop (b (if jump.isNone then .ready else .done) jump)))/\
      w.heap.size+1<W3.heap.size/\
      (W3.putObj (w.heap.size+1) (.loop (b (if jump.isNone then .ready else .done) jump))).heap[w.heap.size+1]? =some (.loop (b (if jump.isNone then .ready else .done) jump))/\
      (W3.putObj (w.heap.size+1) (.loop (b (if jump.isNone then .ready else .done) jump))).heap[w.heap.size]? =some (.deferred (some [])):=λjump W3 hk3 d=>by
      have:=run_endRound (P:=P) jump d;rw [c] at this ⊢;exact ⟨this,(ib.1 d).1,World.putObj_heap_same (ib.1 d).1,(World.putObj_heap_other oo).trans hk3⟩
     rintro e a3 W3 hp;cases e with
     | normal=>
       obtain ⟨⟨b1,b2⟩,j⟩:=hp;obtain ⟨hr,d,m,q⟩:=fin none W3 (b1.trans x) (b2.trans u);exact ⟨_,_,hr,.inl ⟨rfl,i _ _ _ j d,m,q⟩⟩
     | ret=>
       obtain ⟨⟨b1,b2⟩,j⟩:=hp;obtain ⟨hr,d,m,q⟩:=fin (some .ret) W3 (b1.trans x) (b2.trans u);exact ⟨_,_,hr,.inr ⟨rfl,r _ _ j d,m,q⟩⟩
     | exit id=>exact hp.elim
     | goto t=>exact hp.elim
     | panic ch=>exact hp.elim
     | outgrown=>exact hp.elim
   . rintro e W2 ⟨⟨v,rfl⟩,(⟨k,hN,hi,hl,hk⟩ | ⟨hi,hl,hk⟩)⟩
     . exact ⟨none,_,by have:=run_endLoop (P:=P) hl (by rw [c];simp);rw [c] at this;exact this,y k _ (i _ _ _ hi (ib.1 hl).1) hN ((World.putObj_heap_other oo).trans hk)⟩
     . exact ⟨some .ret,_,by have:=run_endLoop (P:=P) hl (by rw [c];simp);rw [c] at this;exact this,B _ (r _ _ hi (ib.1 hl).1) ((World.putObj_heap_other oo).trans hk)⟩

def MP (ws:List (Int × ByteArray)) (k:Nat):List (Int × ByteArray):=(ws.drop (64*k)).take 64
noncomputable def Di (D:Dev) (sy ep:Int) (ws:List (Int × ByteArray)):Nat->Dev × Int
 | 0=>(D,0)
 | k+1=>if (Di D sy ep ws k).2≠0 then Di D sy ep ws k else Al (Di D sy ep ws k).1 sy ep (MP ws k)
noncomputable def L0 (D:Dev) (sy ep:Int) (ws:List (Int × ByteArray)):Dev × Int:=Di D sy ep ws ((ws.length+63) / 64)
theorem Sg {D:Dev} {sy ep:Int} {ws:List (Int × ByteArray)} {k:Nat} (h:(Di D sy ep ws k).2≠0):∀j,Di D sy ep ws (k+j)=Di D sy ep ws k
 | 0=>rfl
 | j+1=>by
   show (if (Di D sy ep ws (k+j)).2≠0 then Di D sy ep ws (k+j) else _)=_;rw [Sg h j,if_pos h]
theorem ZT {D:Dev} {sy ep:Int} {ws:List (Int × ByteArray)} {k:Nat} (h:(Di D sy ep ws (k+1)).2≠0) (hk:64*k<ws.length):L0 D sy ep ws=Di D sy ep ws (k+1):=by
 unfold L0;obtain ⟨j,hj⟩:∃j,(ws.length+63) / 64=k+1+j:=⟨(ws.length+63) / 64 - (k+1),oo⟩;rw [hj];exact Sg h j
theorem bC {D:Dev} {sy ep:Int} {ws:List (Int × ByteArray)} {k:Nat} (h1:64*k<ws.length+64) (h2:¬64*k<ws.length):L0 D sy ep ws=Di D sy ep ws k:=by
 unfold L0;rw [show (ws.length+63) / 64=k by omega]
theorem YL {ws:List (Int × ByteArray)} (k:Nat):(MP ws k).length=min 64 (ws.length - 64*k):=by unfold MP;rw [i8,length_drop]
theorem bL {w:World} {b off:Nat} {ws:List (Int × ByteArray)} (h:ListAt w w.heap.size 2 (some ⟨b,off,none⟩) (ws.map BM)) (k:Nat):ListAt w w.heap.size 2 (some ⟨b,off+64*k*2,none⟩) ((MP ws k).map BM):=by
 unfold MP;rw [map_take,map_drop];exact (h.drop (64*k) rfl).take 64
theorem IY (w:World) (l:Nat) (o:Obj):Turned (λk=>k=l) w (w.putObj l o):=⟨rfl,rfl,rfl,qs,λk _ hk=>World.putObj_heap_other hk⟩
structure ComI (w0:World) (x s m v:Nat) (sy ep:Int) (D:Dev) (out:Nat->Prop) (W:World) (o1:Nat->Prop) (sl:Value) (ws:List (Int × ByteArray)) (E:Dev) (r:Value) (w':World):Prop where
 held:Held w0 x s m sy ep E o1 w'
 turned:Turned (λk=>(w0.heap.size<=k/\¬out k)\/k=m) W w'
 bv:Blk w' W.heap.size 43 #[ptrV v]
 br:Blk w' (W.heap.size+1) 46 #[r]
 bs:Blk w' (W.heap.size+2) 24 #[sl]
 bn:Blk w' (W.heap.size+3) 3 #[.int .i64 64]
theorem ComI.drew {w0:World} {x s m v:Nat} {sy ep:Int} {D:Dev} {out:Nat->Prop} {W:World} {o1:Nat->Prop} {sl:Value} {ws:List (Int × ByteArray)} {E:Dev} {r:Value} {w':World} (h:ComI w0 x s m v sy ep D out W o1 sl ws E r w'):ComI w0 x s m v sy ep D out W o1 sl ws E r w'.drew:=
 ⟨h.held.grew (gK w').drew,h.turned.drew,h.bv.drew,h.br.drew,h.bs.drew,h.bn.drew⟩
theorem ComI.local_ {w0:World} {x s m v:Nat} {sy ep:Int} {D:Dev} {out:Nat->Prop} {W:World} {o1:Nat->Prop} {sl:Value} {ws:List (Int × ByteArray)} {E:Dev} {r:Value} {w' w2:World} (h:ComI w0 x s m v sy ep D out W o1 sl ws E r w') {l:Nat}
 (hs:s<W.heap.size) (hm:m<W.heap.size) (h0:w0.heap.size<=W.heap.size) (hl:W.heap.size+4<=l) (ho:o1 l) (ht:Turned (λk=>k=l) w' w2):ComI w0 x s m v sy ep D out W o1 sl ws E r w2:=
 ⟨h.held.turnS ht (λk _ e=>by subst e;exact ⟨ho,oo⟩) oo oo,h.turned.next ht (λi hi e=>oo),h.bv.turned ht oo,h.br.turned ht oo,h.bs.turned ht oo,h.bn.turned ht oo⟩
theorem ComI.done {w0:World} {x s m v:Nat} {sy ep:Int} {D:Dev} {out:Nat->Prop} {W:World} {o1:Nat->Prop} {sl:Value} {ws:List (Int × ByteArray)} {E E':Dev} {r:Value} {w' w2:World} (h:ComI w0 x s m v sy ep D out W o1 sl ws E r w')
 (hm:m<W.heap.size) (hsub:∀k,out k->o1 k) (ho:∀k,W.heap.size<=k->k<W.heap.size+6->o1 k) (hd:Done w0 x s m sy ep E' o1 w' w2):ComI w0 x s m v sy ep D out W o1 sl ws E' r w2:=
 have q:∀j,j<4->¬((w0.heap.size<=W.heap.size+j/\¬o1 (W.heap.size+j))\/W.heap.size+j=m):=λj hj h9=>h9.elim (λh8=>h8.2 (ho _ oo oo)) (λh8=>oo)
 ⟨h.held.done hd,h.turned.next hd.turned (λi hi h9=>h9.imp (λh8=>⟨h8.1,λh7=>h8.2 (hsub _ h7)⟩) id),h.bv.turned hd.turned (q 0 oo),h.br.turned hd.turned (q 1 oo),h.bs.turned hd.turned (q 2 oo),h.bn.turned hd.turned (q 3 oo)⟩
theorem ComI.set {w0:World} {x s m v:Nat} {sy ep:Int} {D:Dev} {out:Nat->Prop} {W:World} {o1:Nat->Prop} {sl:Value} {ws:List (Int × ByteArray)} {E:Dev} {r:Value} {w':World} (h:ComI w0 x s m v sy ep D out W o1 sl ws E r w')
 (hs:s<W.heap.size) (hm:m<W.heap.size) (h0:w0.heap.size<=W.heap.size) (ho:o1 (W.heap.size+1)) (u:Value):ComI w0 x s m v sy ep D out W o1 sl ws E u (w'.setCell ⟨W.heap.size+1,0,none⟩ u):=
 have ht:Turned (λk=>k=W.heap.size+1) w' (w'.setCell ⟨W.heap.size+1,0,none⟩ u):=(iR (λk=>k=W.heap.size+1) w').setCell (p:=⟨W.heap.size+1,0,none⟩) (λ_=>rfl) u
 ⟨h.held.turnS ht (λk _ e=>by subst e;exact ⟨ho,oo⟩) oo oo,h.turned.next ht (λi hi e=>oo),h.bv.turned ht oo,h.br.set_ 0 u,h.bs.turned ht oo,h.bn.turned ht oo⟩
theorem Q6:∀args w,(callFunc 205 args).run Tryz.prog w=.ok (.enter 205 args) w:=BV Tryz.func205 qk rfl
section
variable {w0:World} {x s m v:Nat} {n sy ep:Int} {D:Dev} {out:Nat->Prop} {W:World} (h:VHeld w0 x s m v n sy ep D out W)
include h
theorem R1 (ws:List (Int × ByteArray)) (hl:ws.length<=1000000) (N:∀k,64*k<ws.length->(Di D sy ep ws k).2=0->Cm x s m sy ep (Di D sy ep ws k).1) (M:∀e∈ws,okI e.1) (A:Option Addr) (c:Nat) (G:ListAt W W.heap.size 2 A (ws.map BM)) (hA:ws≠[]->∀b off,A=some ⟨b,off,none⟩->Far w0 out m v b) (hc:ws.length<=c/\c<=9223372036854775807) (E:Dev) (er:Int) (hE:L0 D sy ep ws=(E,er)):
 Calls Tryz.prog 78 #[ptrV v,.slice A ws.length c] W λe w'=>e=.returned (.int .i64 er)/\∃out',VDid w0 x s m v n sy ep E out W out' w':=by
 refine (callsIn_wide (n:=5)).1 ?_;refine callsIn_of_wp_marks Tryz.func78 rfl trivial ?_ rfl;simp only [Tryz.ntmps78,size_toArray,i9,length_nil,Nat.reduceAdd,Nat.reduceSub,Array.replicate_succ,Array.replicate_zero,push_toArray,append_toArray,nil_append,cons_append];gi_wp2_with (refine ⟨trivial,?_⟩;gi_at_call 153;refine (callsIn_wide.2 (WV _ A ws.length c)).mono ?_;rintro e w3 ⟨rfl,rfl⟩);obtain ⟨w4,w⟩:∃w4,w4=((((W.alloc (.cells #[ptrV v] 43)).alloc (.cells #[.int .i64 0] 46)).alloc (.cells #[.slice A ws.length c] 24)).alloc (.cells #[.int .i64 64] 3)):=⟨_,rfl⟩;rw [<-w];have O:Grew W w4:=by rw [w];exact ((((gK W).alloc _).alloc _).alloc _).alloc _
 have y:w4.heap.size=W.heap.size+4:=by rw [w];simp
 obtain ⟨b,off,V⟩:∃b off,0<ws.length->A=some ⟨b,off,none⟩:=by
  by_cases h0:0<ws.length
  . obtain ⟨b,off,e,_⟩:=G (by rw [gO];exact h0);exact ⟨b,off,λ_=>e⟩
  . exact ⟨0,0,λh9=>absurd h9 h0⟩
 have p:s<W.heap.size:=h.held.store.lt.1;have al:v<W.heap.size:=h.vol.lt;have f:m<W.heap.size:=h.held.store.lt.2;have t:w0.heap.size<=W.heap.size:=h.held.live.base.size;refine fL (n:=5) oo (gf:=205) rfl Q6
  (λk W'=>(Di D sy ep ws k).2=0/\64*k<ws.length+64/\ComI w0 x s m v sy ep D out W (λk=>out k\/(W.heap.size<=k/\k<W.heap.size+6)) (.slice A ws.length c) ws (Di D sy ep ws k).1 (.int .i64 0) W')
  (λW'=>∃k,(Di D sy ep ws (k+1)).2≠0/\64*k<ws.length/\ComI w0 x s m v sy ep D out W (λk=>out k\/(W.heap.size<=k/\k<W.heap.size+6)) (.slice A ws.length c) ws (Di D sy ep ws (k+1)).1 (.int .i64 (Di D sy ep ws (k+1)).2) W')
  (λk=>64*k<ws.length) (λk u=>0<ws.length/\∃d,u=.slice (some ⟨b,off+64*k*2,none⟩) (min 64 (ws.length - 64*k)) d)
  ?iter (λk W' hI=>⟨hI.1,hI.2.1,hI.2.2.drew⟩) (λk W' o hI _=>⟨hI.1,hI.2.1,hI.2.2.local_ p f t (l:=w4.heap.size+1) oo (.inr ⟨oo,oo⟩) (IY _ _ _)⟩)
  (λW' o hI _=>by
    obtain ⟨k,h1,h2,h3⟩:=hI
    exact ⟨k,h1,h2,h3.local_ p f t (l:=w4.heap.size+1) oo (.inr ⟨oo,oo⟩) (IY _ _ _)⟩)
  ?start (λu=>{ tmps:=#[ptrV v,.slice A ws.length c,.pointer (some ⟨W.heap.size,0,none⟩),undef,.pointer (some ⟨W.heap.size+1,0,none⟩),u,undef,.slice A ws.length c,.func (.func 205) #[] #[ptrV (W.heap.size+1+1),ptrV (W.heap.size+1+1+1)],u,undef,undef,undef,undef,undef,undef,undef,undef,undef],defers:=[] }) ?assign ?body ?done ?stop
 case iter=>
  intro l J Jx W' U ad hY ae;refine CallsIn.mono (UO l (W.heap.size+1+1) (W.heap.size+1+1+1) b off ws.length c 4 oo hl hc J Jx A V (λk W2 hj=>⟨(U k W2 hj).2.2.bs.cell 0,(U k W2 hj).2.2.bn.cell 0⟩) ad (λk W2 hj hk d=>hY k W2 hj hk _ ⟨oo,d,rfl⟩) W' ae) ?_;rintro e W2 ⟨h1,h2⟩;exact ⟨h1,h2.imp (λ⟨k,h3,h4⟩=>⟨k,oo,h4⟩) id⟩
 case start=>
  intro o;have P:Grew W ((w4.alloc (.deferred (some []))).alloc o):=(O.alloc _).alloc o;have Y:((w4.alloc (.deferred (some []))).alloc o).heap.size=W.heap.size+6:=by simp [y]
  have hm:=(h.more P).held;rw [Y] at hm;refine ⟨rfl,oo,hm,P.turned _,?_,?_,?_,?_⟩<;>rw [w]
  . exact (((((gZ W _ #[ptrV v] rfl).alloc _).alloc _).alloc _).alloc _).alloc _
  . exact ((((gZ (n:=W.heap.size+1) _ _ #[.int .i64 0] qs).alloc _).alloc _).alloc _).alloc _
  . exact (((gZ (n:=W.heap.size+2) _ _ #[.slice A ws.length c] qs).alloc _).alloc _).alloc _
  . exact ((gZ (n:=W.heap.size+3) _ _ #[.int .i64 64] qs).alloc _).alloc _
 case assign=>
  intro l u W' K hK;gi_wp2;exact hK
 case body=>
  rintro l k u W' ⟨he,hk,hI⟩ hN ⟨C,d,rfl⟩;obtain rfl:=V C;have z0:=hI.bv.cell 0;have zl:=hI.bv.lt;have zr:=hI.br.cell 0;have zf:=hI.br.frozen 0;obtain ⟨sv,T,tv,X,_⟩:=h.vol;have hF:∀i,Far w0 out m v i->¬((w0.heap.size<=i/\¬out i)\/i=m):=λi hi h9=>hi.not (h9.imp id .inl);have z:=X.turned hI.turned (λh9=>h9.elim (λh8=>h8.2 h.ov) h.vm);unfold Fo at z;have v0:=z.cell 0;have vl:=z.lt;have H:ws≠[]:=by intro h9;rw [h9] at C;exact absurd C qs
  have Q:=bL (DN G hI.turned (λ_ b' off' e=>hF _ (hA H b' off' e))) k;have R:=YL (ws:=ws) k
  have HR:=N k hN he w0 _ W' hI.held (MP ws k) oo (λe he=>M e (mem_of_mem_drop (jP he))) _ d Q (λ_ b' off' e=>by
   injection e with e
   injection e with e1 e2
   subst e1
   exact (hA H _ _ rfl).1.imp id .inl)
  have S:Di D sy ep ws (k+1)=Al (Di D sy ep ws k).1 sy ep (MP ws k):=by
   show (if _ then _ else _)=_;rw [if_neg (by rw [he];simp)]
  rw [<-S,R] at HR;obtain ⟨⟨E',e'⟩,L⟩:∃r,Di D sy ep ws (k+1)=r:=⟨_,rfl⟩;rw [L] at HR;simp only at HR;have HI:=zh hI;have HE:=zh L;have HN:=zh hN;have HH:=zh h;clear Q R S L hI he hk hN C H X hF z hE w G hA M N h
  have HD:Hid (∀j,j<2->w4.heap.size+j<W'.heap.size):=zh (λj hj=>by
   obtain ⟨q,_,_,_,_,hn⟩:=HI.held.live
   exact (hn _ (.inr ⟨oo,oo⟩)).1)
  have HB:Hid (∀w3,Turned (λi=>(w0.heap.size<=i/\¬(out i\/(W.heap.size<=i/\i<W.heap.size+6)))\/i=m) W' w3->w3.heap[w4.heap.size]? =W'.heap[w4.heap.size]? /\w3.heap[w4.heap.size+1]? =W'.heap[w4.heap.size+1]?):=zh (λw3 ht=>by
   have q:∀j,j<2->¬((w0.heap.size<=w4.heap.size+j/\¬(out (w4.heap.size+j)\/(W.heap.size<=w4.heap.size+j/\w4.heap.size+j<W.heap.size+6)))\/w4.heap.size+j=m):=λj hj h9=>h9.elim (λh8=>h8.2 (.inr ⟨oo,oo⟩)) (λh8=>oo)
   exact ⟨ht.block _ (HD 0 oo) (q 0 oo),ht.block _ (HD 1 oo) (q 1 oo)⟩)
  gi_wp2_with (refine ⟨trivial,?_⟩;gi_at_call 51;refine (CallsIn.inRound l (callsIn_wide.2 HR)).mono (R':=λe w3=>e=.returned (.int .i64 e')/\Hid (Done w0 x s m sy ep E' (λk=>out k\/(W.heap.size<=k/\k<W.heap.size+6)) W' w3)/\w3.cell? ⟨W.heap.size+1,0,none⟩=some (.int .i64 0)/\w3.frozen? ⟨W.heap.size+1,0,none⟩=false) (λe w3 he=>⟨he.1,zh he.2,(HI.done f (λk=>.inl) (λk a b=>.inr ⟨a,b⟩) he.2).br.cell 0,(HI.done f (λk=>.inl) (λk a b=>.inr ⟨a,b⟩) he.2).br.frozen 0⟩) |>.mono ?_;rintro e w3 ⟨rfl,F,q0,qf⟩)
  . rename_i hx;have I2:=HI.done f (λk=>.inl) (λk a b=>.inr ⟨a,b⟩) F;have B:=HB.out _ F.turned;have I:e'≠0:=iW.1 hx;refine ⟨⟨(Below.heap_setCell _ _ _ _ (by rw [y];show W.heap.size+4≠W.heap.size+1;omega)).trans B.1,(Below.heap_setCell _ _ _ _ (by rw [y];show W.heap.size+4+1≠W.heap.size+1;omega)).trans B.2⟩,k,by rw [HE.out];exact λh9=>I h9,HN,?_⟩;rw [HE.out];exact I2.set p f t (.inr ⟨oo,oo⟩) _
  . rename_i hx;have I2:=HI.done f (λk=>.inl) (λk a b=>.inr ⟨a,b⟩) F;have B:=HB.out _ F.turned;have I:e'=0:=by simpa using hx
    have an:=HN.out;refine ⟨B,by rw [HE.out];exact I,oo,?_⟩;rw [HE.out];exact I2
 case done=>
  rintro k W' ⟨he,hk,hI⟩ hN hD;have yr:=hI.br.cell 0;have yf:=hI.br.frozen 0;rw [bC hk hN] at hE;gi_wp2;have Z:(W'.setCell ⟨W.heap.size+1,0,none⟩ (.int .i64 0)).heap[w4.heap.size]? =some (.deferred (some [])):=(Below.heap_setCell _ _ _ _ (by rw [y];show W.heap.size+4≠W.heap.size+1;omega)).trans hD;have g:=(hI.set p f t (.inr ⟨oo,oo⟩) (.int .i64 0)).local_ p f t (l:=w4.heap.size) oo (.inr ⟨oo,oo⟩) (IY _ _ (.deferred none));refine ⟨qs,.inl ⟨_,_,rfl,run_takeDeferred Z,?_⟩⟩;have y5:=g.br.cell 0;rw [hE] at he g;refine ⟨.int .i64 0,?_,by rw [<-he],_,h.step (λk hk=>.inl hk) g.held g.turned⟩;simp [results,Tryz.f78,go_sem,y5]
 case stop=>
  rintro W' ⟨k,he,hk,hI⟩ hD;rw [ZT he hk] at hE;rw [hE] at he hI;have g:=hI.local_ p f t (l:=w4.heap.size) oo (.inr ⟨oo,oo⟩) (IY _ _ (.deferred none));clear w y O;gi_wp2;refine ⟨qs,.inl ⟨_,_,rfl,run_takeDeferred hD,?_⟩⟩;have y5:=g.br.cell 0;refine ⟨.int .i64 er,?_,rfl,_,h.step (λk hk=>.inl hk) g.held g.turned⟩;simp [results,Tryz.f78,go_sem,y5]
end

end
section
attribute [local go_sem ↓] Go.wp_at_zero Go.wp_at_succ
open Go.RowKit
theorem ZU {w:World} {g:Nat} {a b:Int} (h:Blk w g 136 #[.int .i64 a,.int .i64 b]) (ha:okI a) (hb:okI b):RunsAt w w.heap.size (some ⟨g,0,none⟩) [(a,b)]:=by
 refine ⟨λr hr=>?_,λ_=>⟨g,0,rfl,h.lt,λj cs hj i v hi=>?_⟩⟩
 . obtain rfl:=gQ.1 hr;exact ⟨ha.1,ha.2,hb.1,hb.2⟩
 . match j,hj with
   | 0,hj=>
     obtain rfl:EC (a,b)=cs:=by simpa using hj
     match i,hi with
     | 0,hi=>obtain rfl:Value.int .i64 a=v:=by simpa [EC] using hi
             exact h.cell 0
     | 1,hi=>obtain rfl:Value.int .i64 b=v:=by simpa [EC] using hi
             exact h.cell 1
     | i+2,hi=>simp [EC] at hi
   | j+1,hj=>simp at hj
def eY (id unit a b:Int) (b1 b2:Nat) (w:World):Prop:=Blk w b1 32 #[.int .i64 id,.int .i64 unit]/\Blk w b2 136 #[.int .i64 a,.int .i64 b]
theorem en (T:Tab) (hs:SmallT T) (id d a b:Int) (ha:okI a) (hb:okI b) (b1 b2:Nat):MG (.func (.func 79) #[] #[.pointer (some ⟨b1,0,none⟩),.pointer (some ⟨b2,0,none⟩)]) (eY id d a b b1 b2) T (Bt T id d (Gf T [(a,b)])):=by
 refine ⟨79,#[],_,rfl,BV Tryz.func79 qk qk,λw A c ys hP ht=>?_⟩;show Calls Tryz.prog 79 #[.agg #[.string T.name,.int .i64 T.tracks,.slice A T.labels.length c],.pointer (some ⟨b1,0,none⟩),.pointer (some ⟨b2,0,none⟩)] w _;obtain ⟨⟨T',er⟩,hr⟩:∃r,Bt T id d (Gf T [(a,b)])=r:=⟨_,rfl⟩;rw [hr];have f:Grew w (((w.alloc (.cells #[.string T.name,.int .i64 T.tracks,.slice A T.labels.length c] 50)).alloc (.cells #[.string ⟨#[]⟩,.int .i64 0,.slice none 0 0] 50)).alloc (.cells #[.int .i64 a,.int .i64 b] 136)):=(((gK w).alloc _).alloc _).alloc _;have g:=(gZ (w.alloc (.cells #[.string T.name,.int .i64 T.tracks,.slice A T.labels.length c] 50)) 50 #[.string ⟨#[]⟩,.int .i64 0,.slice none 0 0] (n:=w.heap.size+1) qs).alloc (.cells #[.int .i64 a,.int .i64 b] 136);have h:=gZ ((w.alloc (.cells #[.string T.name,.int .i64 T.tracks,.slice A T.labels.length c] 50)).alloc (.cells #[.string ⟨#[]⟩,.int .i64 0,.slice none 0 0] 50)) 136 #[.int .i64 a,.int .i64 b] (n:=w.heap.size+1+1) qs;unfold eY at hP;obtain ⟨q1,q2⟩:=hP;have m:=q1.cell 0;have o:=q1.cell 1;have l1:=q1.lt;have p:=q2.cell 0;have q:=q2.cell 1;have l2:=q2.lt;have HC:=zh (λcx=>Rn A c ys T id d _ (ht.hold f) hs _ cx [(a,b)] (ZU h ha hb) qs _ _ hr);have HZ:=zh g;have HG:=zh f;clear f g h q1 q2 hr;go_enter Tryz.func79,Tryz.ntmps79;go_wp2_with fail;refine (HC _).mono ?_;rintro e w1 ⟨A1,c1,zs,rfl,i,g1⟩;have hz:=HZ.grew g1;have j:=zh hz;have k:=zh (HG.out.trans g1);have l:=zh i;have z0:=hz.cell 0;have z1:=hz.cell 1;have z2:=hz.cell 2;have f0:=hz.frozen 0;have f1:=hz.frozen 1;have f2:=hz.frozen 2;have zl:=hz.lt;clear hz g1 i l1 l2;go_wp2_with fail;refine gw (by first | (simp [*,results,Tryz.results79,go_sem];rfl) | simp [*,results,Tryz.results79,go_sem]) rfl ?_;exact ⟨A1,c1,zs,rfl,l.apart j (gT),by have hg:=k.out;exact gG⟩
def Fm (l:Lab):List Int:=(List.range (Ao l.ext*8)).map λ(i:Nat)=>(A0 l.ext (i:Int)).1
def DH (a:Int) (ss:List ByteArray):List (Int × ByteArray):=ss.mapIdx λi s=>(a*8+(i:Int),s)
noncomputable def UR (D:Dev) (sy ep n id unit:Int):Dev × Bool × Int:=
 match CZ D sy ep n with
 | (E,T,f)=>if f≠0 then (E,false,f) else match CK T id unit with
   | (l,ok)=>if ok=false then (E,false,6) else match Ki l.ext (Bp T) with
     | ((a,b),ok2)=>if ok2=false then (E,false,0) else match CS E sy ep (Fm l) with
       | (E2,ss,e2)=>if e2≠0 then (E2,false,e2) else match L0 E2 sy ep (DH a ss) with
         | (E3,e3)=>if e3≠0 then (E3,false,e3) else match chP E3 sy ep n id unit [] (λT=>Bt T id unit (Gf T [(a,b)])) with
           | (E4,e4)=>if e4≠0 then (E4,false,e4) else (E4,true,0)
theorem YN (a:Int) (ss:List ByteArray) (k:Nat) (hk:k<ss.length):DH a (ss.take (k+1))=DH a (ss.take k)++[(a*8+(k:Int),ss[k])]:=by
 unfold DH;rw [gU hk,mapIdx_concat,i8,Nat.min_eq_left (Nat.le_of_lt hk)]
theorem M2 (a:Int) (ss:List ByteArray):(DH a ss).length=ss.length:=by unfold DH;exact length_mapIdx
theorem eK {a:Int} {ss:List ByteArray} (ha:0<=a/\a<=128) (hs:ss.length<=1024):∀e∈DH a ss,okI e.1:=by
 intro e he;unfold DH at he;obtain ⟨i,hi,rfl⟩:=List.mem_mapIdx.1 he;unfold okI;simp only;omega
def Kh (D:Dev):Prop:=(132<=D.st.length/\D.st.length<=1155)/\D.pend.length<=900000
section
variable {w0:World} {x s m v:Nat} {n sy ep:Int} {D:Dev} {out:Nat->Prop} {W:World} (h:VHeld w0 x s m v n sy ep D out W) (hL:Kh D) (hn:okT n=true)
include h hL hn
theorem RM (id unit:Int)
 (HE:∀E T f,CZ D sy ep n=(E,T,f)->f=0->Kh E)
 (c3:∀E T l a b E2 ss,CZ D sy ep n=(E,T,0)->CK T id unit=(l,true)->Ki l.ext (Bp T)=((a,b),true)->CS E sy ep (Fm l)=(E2,ss,0)->
   (∀k,64*k<(DH a ss).length->(Di E2 sy ep (DH a ss) k).2=0->Cm x s m sy ep (Di E2 sy ep (DH a ss) k).1)/\
   ∀E3,L0 E2 sy ep (DH a ss)=(E3,0)->Kh E3/\∀E,(CZ E3 sy ep n).1=E->(CZ E3 sy ep n).2.2=0->Cm x s m sy ep E)
 (D':Dev) (ok:Bool) (er:Int) (hr:UR D sy ep n id unit=(D',ok,er)):
 Calls Tryz.prog 30 #[ptrV v,.agg #[.int .i64 id,.int .i64 unit]] W λe w'=>e=.returned (.tuple #[.bool ok,.int .i64 er])/\∃out',VDid w0 x s m v n sy ep D' out W out' w':=by
 have b1:Grew W (W.alloc (.cells #[.int .i64 id,.int .i64 unit] 32)):=(gK W).alloc _;have c4:=gZ W 32 #[.int .i64 id,.int .i64 unit] rfl;obtain ⟨⟨E,T,f⟩,hE⟩:∃r,CZ D sy ep n=r:=⟨_,rfl⟩;have c5:=HE E T f hE;have H:=λl a b E2 ss (h0:f=0)=>c3 E T l a b E2 ss (by rw [hE,h0]);unfold UR at hr;rw [hE] at hr;simp only at hr;have c6:=zh c5;have f9:=zh H;have HC:=zh (Dz (h.more b1) hL.1 (by have:=hL.2;omega) hn E T f hE);have I:=zh b1;have ga:=zh c4;have HH:=zh h;have c7:=h.held.store.lt.2;have c8:=h.vol.lt;have F:=zh (And.intro c7 c8);clear h hL hE b1 c4 HE c3 c5 H c7 c8;go_enter Tryz.func30,Tryz.ntmps30;go_wp2_with fail;refine HC.mono ?_;rintro e w1 ⟨o1,A,c,ys,rfl,hd,bd,eu,bf⟩
 have a3:=zh (ga.turned hd.turned (λh9=>by
  rcases h9 with h9 | h9 | h9
  . exact h9.2 (.inr ⟨gM _,qs⟩)
  . have:=F.1;omega
  . have:=F.2;omega))
 have HD:=zh hd;have Q:Grew w1 (w1.alloc (.cells #[.string T.name,.int .i64 T.tracks,.slice A T.labels.length c] 50)):=(gK w1).alloc _;have c9:=zh Q;have gb:=zh (gZ w1 50 #[.string T.name,.int .i64 T.tracks,.slice A T.labels.length c] rfl);have gc:=zh (bd.hold Q);have gd:=zh (λw9 (hg:Grew w1 w9)=>bd.hold hg);have dd:=zh bf;have r0:=(a3.grew Q).cell 0;have r1:=(a3.grew Q).cell 1;have rl:=a3.out.lt;by_cases hf:f=0;rotate_left
 . rw [if_pos hf] at hr;injection hr with h1 hr;injection hr with h2 h3;subst h1;subst h2;subst h3;have Y:(f != 0)=true:=by rw [iW];exact hf
   clear hf hd bd eu bf Q r0 r1 rl;go_wp2_with fail;go_ret2;exact ⟨rfl,_,VDid.after2 I (HD.grew c9)⟩
 subst hf;rw [if_neg qs] at hr;obtain ⟨⟨l,fa⟩,bk⟩:∃r,CK T id unit=r:=⟨_,rfl⟩;rw [bk] at hr;simp only at hr;have HF:=zh (Yl A c ys T _ gc bf _ rfl id unit l fa bk);have df:=zh bk;clear bk hd bd eu bf Q;go_wp2_with fail;refine HF.mono ?_;rintro e w2 ⟨B,d,rfl,cr,g2⟩;have gL:Grew w2 (w2.alloc (.cells #[.int .i64 l.id,.int .i64 l.unit,.string l.name,.string l.note,.slice B l.ext.length d] 100)):=(gK w2).alloc _;have a4:=zh (gZ w2 100 #[.int .i64 l.id,.int .i64 l.unit,.string l.name,.string l.note,.slice B l.ext.length d] rfl);have R:=zh ((c9.out.trans g2).trans gL);have J:=zh (gb.grew (g2.trans gL));have Z:=zh (cr.hold gL);cases fa with
 | false=>
   rw [if_pos rfl] at hr;injection hr with h1 hr;injection hr with h2 h3;subst h1;subst h2;subst h3;clear g2 gL cr r0 r1 rl;go_wp2_with fail;go_ret2;exact ⟨rfl,_,VDid.after2 I (HD.grew R)⟩
 | true=>
 rw [if_neg qs] at hr
 have ad:l.ext.length<=1000:=by
  have:=dU T dd id unit;rw [df.out] at this;exact this
 obtain ⟨⟨⟨a,b⟩,bl⟩,X⟩:∃r,Ki l.ext (Bp T)=r:=⟨_,rfl⟩;rw [X] at hr;simp only at hr;obtain ⟨kf,bn⟩:∃kf,Bp T=kf:=⟨_,rfl⟩;have b2:kf.length<=1000:=by rw [<-bn];exact gY (Jk T) oo
 have dk:=zh (λw9 (hg:Grew w1 w9)=>Ir A c ys T w9 (gd w9 hg) dd _ rfl kf bn);have ae:=zh X;have b3:=zh bn;clear g2 gL cr r0 r1 rl X bn;go_wp2_with fail;obtain ⟨w3,fb⟩:∃w3,w3=w2.alloc (.cells #[.int .i64 l.id,.int .i64 l.unit,.string l.name,.string l.note,.slice B l.ext.length d] 100):=⟨_,rfl⟩;rw [<-fb] at a4 R J Z ⊢;clear fb;have y4:=a4.cell 4;have t0:=J.cell 0;have t1:=J.cell 1;have t2:=J.cell 2;have w:=zh (λw9 (hg:Grew w3 w9)=>(show (λw':World=>w'.cell? ⟨w2.heap.size,4,none⟩=some (.slice B l.ext.length d)/\w'.cell? ⟨w1.heap.size,0,none⟩=some (.string T.name)/\w'.cell? ⟨w1.heap.size,1,none⟩=some (.int .i64 T.tracks)/\w'.cell? ⟨w1.heap.size,2,none⟩=some (.slice A T.labels.length c)) w9 from ⟨(a4.grew hg).cell 4,(J.grew hg).cell 0,(J.grew hg).cell 1,(J.grew hg).cell 2⟩));refine AB [9] (λw':World=>w'.cell? ⟨w2.heap.size,4,none⟩=some (.slice B l.ext.length d)/\w'.cell? ⟨w1.heap.size,0,none⟩=some (.string T.name)/\w'.cell? ⟨w1.heap.size,1,none⟩=some (.int .i64 T.tracks)/\w'.cell? ⟨w1.heap.size,2,none⟩=some (.slice A T.labels.length c)) qk ?_;have hS:=w.out w3.drew (gK w3).drew;clear y4 t0 t1 t2;refine tQ 0 38 ?_;refine tT 1 (some 39) hS ?_;refine tT 2 (some 40) hS ?_;clear hS;refine E1 (i:=3) (j:=8) rfl rfl qk ?faa ?fab
 case' faa=>
  intro K' hK;rw [if_pos (by rfl)];simp only [jG,il,iw];go_wp2_with fail;refine (dk w3.drew (R.out.trans (gK w3).drew)).mono ?_;rintro e w4 ⟨Af,cf,rfl,O,g4⟩;have y:=zh ((gK w3).drew.trans g4);go_wp2_with fail;refine hK.out _ _ (.inr (λ_=>w _ y)) ?_;clear hK g4;refine E1 (i:=4) (j:=8) rfl rfl qk ?fba ?fbb
  case' fba=>
   intro K' hK;rw [if_pos (by rfl)];simp only [jG,il,iw];go_wp2_with fail;refine (KD (c1:=d) (c2:=cf) rfl rfl ad b2 (Z.hold y).runs O a b bl (by rw [<-b3.out];exact ae.out)).mono ?_;rintro e w5 ⟨rfl,g5⟩;have t:=zh (y.out.trans g5);go_wp2_with fail;refine hK.out _ _ (.inr (λ_=>w _ t)) ?_;clear hK g5;refine tQ 5 37 ?_;refine tQ 6 43 ?_;refine tQ 7 44 ?_;refine tO 8 λK' hK=>?_;go_wp2_with fail;have z:w3.heap.size<=w5.heap.size:=t.size;have gX:=t.alloc (.cells #[.int .i64 0,.int .i64 0] 136);have o:=gZ w5 136 #[.int .i64 0,.int .i64 0] rfl;refine hK.out _ _ (.inr (λ_=>w _ gX)) ?_;clear hK O;obtain ⟨wX,fc⟩:∃wX,wX=w5.alloc (.cells #[.int .i64 0,.int .i64 0] 136):=⟨_,rfl⟩;rw [<-fc] at gX o ⊢;obtain ⟨p,hp⟩:∃p,p=w5.heap.size:=⟨_,rfl⟩;rw [<-hp] at o z ⊢;clear fc hp
  case' fbb=>
   intro K' hK;rw [if_pos (by rfl)];simp only [jG,il,iw];go_wp2_with fail;have g5:=(gK w4).alloc (.cells #[.int .i64 0,.int .i64 0] 136);have ds:=gZ w4 136 #[.int .i64 0,.int .i64 0] rfl;have t:=zh (y.out.trans g5);refine hK.out _ _ (.inr (λ_=>w _ t)) ?_;clear hK;refine tO 4 λK' hK=>?_;go_wp2_with fail;refine (KD (c1:=d) (c2:=cf) rfl rfl ad b2 (Z.hold t).runs (O.hold g5) a b bl (by rw [<-b3.out];exact ae.out)).mono ?_;rintro e wX ⟨rfl,g6⟩;have z:w3.heap.size<=w4.heap.size:=y.size;have gX:=t.out.trans g6;have o:=ds.grew g6;go_wp2_with fail;refine hK.out _ _ (.inr (λ_=>w _ gX)) ?_;clear hK O g5 g6 ds;obtain ⟨p,hp⟩:∃p,p=w4.heap.size:=⟨_,rfl⟩;rw [<-hp] at o z ⊢;clear hp;refine tQ 5 37 ?_;refine tQ 6 43 ?_;refine tQ 7 44 ?_
 case' fab=>
  intro K' hK;rw [if_pos (by rfl)];simp only [jG,il,iw];go_wp2_with fail;have g4:=(gK w3).drew.alloc (.cells #[.int .i64 0,.int .i64 0] 136);have d0:Blk _ w3.heap.size _ _:=gZ w3.drew 136 #[.int .i64 0,.int .i64 0] rfl;have y:=zh g4;refine hK.out _ _ (.inr (λ_=>w _ y)) ?_;clear hK;refine tO 3 λK' hK=>?_;go_wp2_with fail;refine (dk _ (R.out.trans y)).mono ?_;rintro e w4 ⟨Af,cf,rfl,O,g5⟩;have t:=zh (y.out.trans g5);go_wp2_with fail;refine hK.out _ _ (.inr (λ_=>w _ t)) ?_;clear hK;refine tO 4 λK' hK=>?_;go_wp2_with fail;refine (KD (c1:=d) (c2:=cf) rfl rfl ad b2 (Z.hold t).runs O a b bl (by rw [<-b3.out];exact ae.out)).mono ?_;rintro e wX ⟨rfl,g6⟩;have z:w3.heap.size<=w3.heap.size:=gM _;have gX:=t.out.trans g6;have o:=(d0.grew g5).grew g6;go_wp2_with fail;refine hK.out _ _ (.inr (λ_=>w _ gX)) ?_;clear hK O g4 g5 g6 d0;obtain ⟨p,hp⟩:∃p,p=w3.heap.size:=⟨_,rfl⟩;replace z:w3.heap.size<=p:=oo;rw [<-hp] at o ⊢;clear hp;refine tQ 5 37 ?_;refine tQ 6 43 ?_;refine tQ 7 44 ?_
 all_goals
  have x0:=o.cell 0;have x1:=o.cell 1;have f0:=o.frozen 0;have f1:=o.frozen 1;have xl:=o.lt;refine tO 9 λK' hK=>?_;go_wp2_with fail;refine hK.out _ _ (.inl rfl) ?_;refine tQ 10 9 ?_;refine AA qk ?_ _;have g6:=(gX.setCell (p:=⟨_,0,none⟩) z (.int .i64 a)).setCell (p:=⟨_,1,none⟩) z (.int .i64 b);have b4:=(o.set_ 0 (.int .i64 a)).set_ 1 (.int .i64 b);obtain ⟨w6,fi⟩:∃w6,w6=(wX.setCell ⟨p,0,none⟩ (.int .i64 a)).setCell ⟨p,1,none⟩ (.int .i64 b):=⟨_,rfl⟩;rw [<-fi] at g6 b4 ⊢;clear x0 x1 f0 f1 xl hK gX o fi;have d1:=zh (R.out.trans g6);have K:=zh (a4.grew g6);have d2:=zh (Z.hold g6);have d3:=zh (show Blk w6 p 136 #[.int .i64 a,.int .i64 b] from b4);have a5:=zh z;clear g6 b4 z;cases bl with
  | false=>
    rw [if_pos rfl] at hr;injection hr with h1 hr;injection hr with h2 h3;subst h1;subst h2;subst h3;go_wp2_with fail;go_ret2;exact ⟨rfl,_,VDid.after2 I (HD.grew d1)⟩
  | true=>
  rw [if_neg qs] at hr;have y0:=K.cell 0;have y1:=K.cell 1;have y2:=K.cell 2;have y3:=K.cell 3;have y4:=K.cell 4;have yl:=K.out.lt;obtain ⟨nz,fl⟩:∃nz,Ao l.ext*8=nz:=⟨_,rfl⟩;obtain ⟨_,br,xa,xd,hl,hm,_,ho,_⟩:=Uq _ _ _ _ ae;have ge:nz<=1024:=oo;have al:Hid (0<=a/\a<=128/\okI a/\okI b):=zh (by unfold okI;omega);have b5:=zh (bJ w6 B d l d2 ad);rw [show ((Ao l.ext:Nat):Int)*8=(nz:Int) by omega] at b5;have gf:=zh fl;unfold Gl at b5;clear fl br hl hm ho;go_wp2_with fail;refine b5.mono ?_;rintro e w7 ⟨rfl,g7⟩;have b6:=zh (d1.out.trans g7);have a6:=zh g7;clear g7 y0 y1 y2 y3 y4 yl;go_wp2_with fail
  go_loopg [11,49] nz (λgk u i wr=>∃k:Nat,k<=nz/\gk=nz - k/\i=.int .i64 (k:Int)/\OwnL wr w7.heap.size 3 1 u (((Fm l).take k).map ND)/\Grew w7 wr)
  case atStart=>exact ⟨0,oo,oo,rfl,OwnL.nil _ _ _ _,gK w7⟩
  case round=>
   obtain ⟨k,hk,a1,rfl,G,hg⟩:=hrel;have b9:=zh a1;have d4:=zh G;have L:=zh hg;have ca:(Fm l).length=nz:=by unfold Fm;rw [gO,jK];exact gf.out
   have S:=zh ca;clear a1 G hg;by_cases cp:k<nz
   . have gg:(k:Int)<(nz:Int):=oo;obtain ⟨⟨q,hs⟩,hq⟩:∃r,A0 l.ext (k:Int)=r:=⟨_,rfl⟩;have HS:=zh (KG B d l _ (d2.hold (a6.out.trans L)) ad (k:Int) oo oo q hs hq);have M:=(K.grew a6).grew L;have y0:=M.cell 0;have y1:=M.cell 1;have y2:=M.cell 2;have y3:=M.cell 3;have y4:=M.cell 4;have yl:=M.lt;have HQ:Hid ((Fm l)[k]'(by rw [S.out];exact cp)=q):=zh (by unfold Fm;rw [ju,List.getElem_range,hq]);clear hq M ca;go_wp2_with fail;refine HS.mono ?_;rintro e w9 ⟨rfl,g9⟩;have d5:=zh (d4.grew g9);have d6:=zh (L.out.trans g9);have gh:w7.heap.size<=w9.heap.size:=d6.size;have N:(((Fm l).take k).map ND).length=k:=by rw [gO,i8,S.out];omega
     clear g9 y0 y1 y2 y3 y4 yl;go_wp2_with (at_builtin;refine Bi rfl _ _ 38 rfl w7.heap.size 3 1 8 (.int .i64 0) Tryz.underlying38 NE rfl qd (w9.alloc (.cells #[.int .i64 q] 3)) u11 (((Fm l).take k).map ND) (ND q) rfl (by first | rfl | (simp;done)) (d5.alloc _) w9.heap.size (by first | rfl | (simp;done)) (gZ _ _ _ rfl) rfl (by rw [N];omega) (by rw [N];omega) (by simp;omega) k N ?_);intro gp cv wp ex e0 _ _
     have gi:=zh (show OwnL wp w7.heap.size 3 1 (.slice (some ⟨gp,0,none⟩) (k+1) cv) (((Fm l).take (k+1)).map ND) from by
      rw [gU (by rw [S.out];exact cp),gm,HQ.out,List.map_singleton,map_take]
      exact ex)
     have gj:=zh (Grew.own (d6.alloc (.cells #[.int .i64 q] 3)) e0 (λg e=>(d5.own_ge e).1) (gM _));clear ex e0;go_wp2_with fail
     go_roundg (nz - (k+1))
     case measure=>rw [b9.out];omega
     case rel=>exact ⟨k+1,oo,rfl,by go_num,gi,gj⟩
   . obtain rfl:k=nz:=oo
     have HU:=zh (show OwnL wr w7.heap.size 3 1 u11 ((Fm l).map ND) from by
      have:=d4.out
      rw [iL (Nat.le_of_eq S.out)] at this
      exact this)
     have d7:=zh (b6.out.trans L);obtain ⟨o8,P⟩:∃o8,o8=(λq=>o1 q\/(w1.heap.size<=q/\q<wr.heap.size)):=⟨_,rfl⟩;have an:=zh (HD.more d7);rw [<-P] at an;obtain ⟨Au,cu,hu,_,_,fn⟩:=HU.listAt;rw [gO] at hu;subst hu
     have ea:Fm l≠[]->EB w0 o8 Au:=λ_ b' off' e=>.inr (by
      have h1:=HU.own_ge (g:=b') (by rw [e];rfl)
      have h2:=b6.size
      rw [P]
      exact .inr ⟨gY h2 h1.1,h1.2⟩)
     obtain ⟨⟨E2,ss,e2⟩,bt⟩:∃r,CS E sy ep (Fm l)=r:=⟨_,rfl⟩;have hv:=OB E sy ep (Fm l)
     have gl:=zh (Iw an.held.held (c6 trivial).1 (by have:=(c6 trivial).2;omega) (Fm l) (λi hi=>by
      unfold Fm at hi
      obtain ⟨j,_,rfl⟩:=gV.1 hi
      exact Lp (l:=l.ext) (i:=(j:Int)) (ok:=(A0 l.ext (j:Int)).2) rfl) (by rw [S.out];omega) Au cu fn ea E2 ss e2 bt)
     rw [bt] at hr;simp only at hr;have cb:=zh bt;obtain ⟨sv,Tv,tv,bv,_⟩:=an.held.vol;unfold Fo at bv;have v0:=bv.cell 0;have vl:=bv.lt;clear cp fn ea bt bv ca;go_wp2_with fail;refine gl.mono ?_;rintro e w9 ⟨vs,lo,rfl,a0,G⟩;clear v0 vl;have ce:=zh (an.out.trans (an.held.back a0));have gn:W.heap.size+1<=w1.heap.size:=by have:=HD.turned.size;simpa using this
     have go:=R.size;have ch:=(d3.grew (a6.out.trans L)).lt;have a7:=zh (((d3.grew a6).grew L).turned a0.turned (λh9=>h9.elim (λh8=>h8.2 (by rw [P];exact .inr ⟨by have:=a5.out;omega,ch⟩)) (λh8=>by have:=a5.out;have:=F.1;omega)));have gr:=zh (((a3.grew (b6.out.trans L)).turned a0.turned (λh9=>h9.elim (λh8=>h8.2 (by rw [P];exact .inl (HD.sub _ (.inr ⟨gM _,qs⟩)))) (λh8=>by have:=F.1;omega))));have eb:=zh (show W.heap.size+1<=p/\p<w9.heap.size/\w1.heap.size<=w9.heap.size from ⟨by have:=a5.out;omega,a7.out.lt,gY d7.size a0.turned.size⟩);have ci:=zh (show ∀q,o8 q->up o8 lo w9 q from λq=>.inl);have ec:=zh (show o8 p/\o8 W.heap.size from ⟨by rw [P];exact .inr ⟨by have:=a5.out;omega,ch⟩,by rw [P];exact .inl (HD.sub _ (.inr ⟨gM _,qs⟩))⟩);obtain ⟨o9,fs⟩:∃o9,o9=up o8 lo w9:=⟨_,rfl⟩;rw [<-fs] at ce ci;have gs:=zh G;clear gn go ch a0 G P fs;by_cases H:e2=0;rotate_left
     . rw [if_pos H] at hr;injection hr with h1 hr;injection hr with h2 h3;subst h1;subst h2;subst h3;have Y:(e2 != 0)=true:=by rw [iW];exact H
       clear H;go_wp2_with fail;go_ret2;exact ⟨rfl,_,VDid.after2 I ce⟩
     subst H;rw [if_neg qs] at hr;have a8:=PN E sy ep (Fm l) (by rw [cb.out]);rw [cb.out] at a8;simp only at a8;obtain ⟨As,cs,fu,_,_,fv⟩:=(gs rfl).listAt;rw [gO] at fu;subst fu;have gt:=zh fv;have cj:=zh (a8.trans S);clear a8 fv;go_wp2_with fail
     go_loopg [16,77] ss.length (λgk u i wr=>∃k:Nat,k<=ss.length/\gk=ss.length - k/\i=.int .i64 (k:Int)/\OwnL wr w9.heap.size 65 2 u ((DH a (ss.take k)).map BM)/\Grew w9 wr)
     case atStart=>exact ⟨0,oo,oo,rfl,OwnL.nil _ _ _ _,gK w9⟩
     case round=>
      obtain ⟨k,hk,a1,rfl,G,hg⟩:=hrel;have b9:=zh a1;have cl:=zh G;have C:=zh hg;clear a1 G hg;by_cases cq:k<ss.length
      . have gg:(k:Int)<(ss.length:Int):=oo;have z0:=(a7.grew C).cell 0;have zl:=(a7.grew C).lt;have ee:=gt.keep (gM _) C;obtain ⟨bs,os,rfl,br,X⟩:=ee (by rw [gO];omega);obtain ⟨sk,cx⟩:∃sk,ss[k]=sk:=⟨_,rfl⟩;have gu:=zh cx;have hx:=X k [.string sk] (by rw [gP,gJ cq,cx];rfl) 0 (.string sk) rfl;simp only [Nat.mul_one,jH] at hx;have hw:bs<wr.heap.size:=gW br C.size;obtain ⟨ih,ii,_,_⟩:=al.out;have gv:=cj.out;have hy:IntKind.i64.wrap (a*8)=a*8:=iY _ oo;have hz:IntKind.i64.wrap (a*8+(k:Int))=a*8+(k:Int):=iY _ oo;have gh:w9.heap.size<=wr.heap.size:=C.size;have N:((DH a (ss.take k)).map BM).length=k:=by rw [gO,M2,i8];omega
        have h4:k<=1024:=oo;clear cx X ee br gv;go_wp2_with (at_builtin;refine Bi rfl _ _ 24 rfl w9.heap.size 65 2 24 _ Tryz.underlying24 Kt rfl qd (wr.alloc (.cells #[.int .i64 (a*8+(k:Int)),.string sk] 65)) u16 ((DH a (ss.take k)).map BM) (BM (a*8+(k:Int),sk)) rfl (by first | rfl | (simp;done)) (cl.alloc _) wr.heap.size (by first | rfl | (simp;done)) (gZ _ _ _ rfl) rfl (by rw [N];omega) (by rw [N];omega) (by simp;omega) k N ?_);intro gq cv wq e1 e6 _ _
        have gx:=zh (show OwnL wq w9.heap.size 65 2 (.slice (some ⟨gq,0,none⟩) (k+1) cv) ((DH a (ss.take (k+1))).map BM) from by
         rw [YN a ss k cq,gm,gu.out,List.map_singleton]
         exact e1)
        have gz:=zh (Grew.own (C.alloc (.cells #[.int .i64 (a*8+(k:Int)),.string sk] 65)) e6 (λg e=>(cl.own_ge e).1) (gM _));clear e1 e6 z0 zl hx;go_wp2_with fail
        go_roundg (ss.length - (k+1))
        case measure=>rw [b9.out];omega
        case rel=>exact ⟨k+1,oo,rfl,by go_num,gx,gz⟩
      . obtain rfl:k=ss.length:=oo
        have eg:=zh (show OwnL wr w9.heap.size 65 2 u16 ((DH a ss).map BM) from by
         have:=cl.out
         rw [iL (gM _)] at this
         exact this)
        obtain ⟨a2,bx⟩:∃a2,a2=(λq=>o9 q\/(w9.heap.size<=q/\q<wr.heap.size)):=⟨_,rfl⟩;have cm:=zh (ce.more C);rw [<-bx] at cm;obtain ⟨Aw,cw,f2,cy,f3,f4⟩:=eg.listAt;rw [gO] at f2 cy;subst f2
        have ei:DH a ss≠[]->∀b' off',Aw=some ⟨b',off',none⟩->Far w0 a2 m v b':=λ_ b' off' e=>by
         have h1:=eg.own_ge (g:=b') (by rw [e];rfl);have h2:=eb.out;have h3:=F.out;exact ⟨.inr (by rw [bx];exact .inr h1),oo,oo⟩
        obtain ⟨⟨E3,e3⟩,b0⟩:∃r,L0 E2 sy ep (DH a ss)=r:=⟨_,rfl⟩;obtain ⟨f5,f6⟩:=f9.out l a b E2 ss trivial df ae cb;have g0:=zh (R1 cm.held (DH a ss) (by rw [M2,cj.out];omega) f5 (eK ⟨al.1,al.2.1⟩ (by rw [cj.out];exact ge)) Aw cw f4 ei ⟨cy,f3⟩ E3 e3 b0);rw [b0] at hr;simp only at hr;have g1:=zh (f6 E3);have g3:=zh b0;have a9:=zh (show a2 p/\a2 W.heap.size from by rw [bx];exact ⟨.inl (ci _ ec.1),.inl (ci _ ec.2)⟩);have ek:=(gr.grew C);have g8:=zh ek;clear cq bx f4 ei b0 f5 f6 ek cy f3;go_wp2_with fail;refine g0.mono ?_;rintro e h5 ⟨rfl,e8,V⟩;have co:=zh (cm.out.trans V);have em:=eb.out;have ha:=F.out
        have av:=g8.turned V.turned (λh9=>by
         rcases h9 with h9 | h9 | h9
         . exact h9.2 a9.2
         . omega
         . omega)
        have eq:=(a7.grew C).turned V.turned (λh9=>by
         rcases h9 with h9 | h9 | h9
         . exact h9.2 a9.1
         . omega
         . omega)
        have es:=zh (show e8 p/\e8 W.heap.size from ⟨V.sub _ a9.1,V.sub _ a9.2⟩);have hb:=zh av;have hc:=zh eq;have r0:=av.cell 0;have r1:=av.cell 1;have rl:=av.lt;have hh:=zh (show W.heap.size+1<=p from em.1);clear V em ha av eq;by_cases bb:e3=0;rotate_left
        . rw [if_pos bb] at hr;injection hr with h1 hr;injection hr with h2 h3;subst h1;subst h2;subst h3;have Y:(e3 != 0)=true:=by rw [iW];exact bb
          clear bb;go_wp2_with fail;go_ret2;exact ⟨rfl,_,VDid.after2 I co⟩
        subst bb;rw [if_neg qs] at hr;obtain ⟨⟨E4,e4⟩,cz⟩:∃r,chP E3 sy ep n id unit [] (λT=>Bt T id unit (Gf T [(a,b)]))=r:=⟨_,rfl⟩;rw [cz] at hr;simp only at hr;obtain ⟨c0,f7⟩:=g1.out g3
        have hj:=zh (DW co.held c0.1 c0.2 hn id unit f7 [] qs (λe he=>by cases he) none 0 (λh9=>absurd h9 qs) (λY=>absurd rfl Y) (λT=>Bt T id unit (Gf T [(a,b)])) _ (eY id unit a b W.heap.size p)
         (λw' ht=>⟨hb.turned ht (λh9=>by
           have:=F.out
           rcases h9 with h9 | h9 | h9
           . exact h9.2 es.2
           . omega
           . omega),hc.turned ht (λh9=>by
           have:=F.out
           have:=hh.out
           rcases h9 with h9 | h9 | h9
           . exact h9.2 es.1
           . omega
           . omega)⟩)
         (λT h1 h2=>⟨en T (Bg (F0 h1 h2)) id unit a b al.2.2.1 al.2.2.2 W.heap.size p,λh3=>by
           obtain ⟨⟨U,e5⟩,hu⟩:∃r,Bt T id unit (Gf T [(a,b)])=r:=⟨_,rfl⟩
           simp only [hu] at h3 ⊢
           subst h3
           exact Bg (Gq T U id unit [(a,b)] hu).good⟩) E4 e4 cz)
        clear c0 f7 cz;go_wp2_with fail;refine hj.mono ?_;rintro e h6 ⟨rfl,h7,e9⟩;have et:=zh (co.out.trans e9);clear e9 r0 r1 rl;by_cases bc:e4=0;rotate_left
        . rw [if_pos bc] at hr;injection hr with h1 hr;injection hr with h2 h3;subst h1;subst h2;subst h3;have Y:(e4 != 0)=true:=by rw [iW];exact bc
          clear bc;go_wp2_with fail;go_ret2;exact ⟨rfl,_,VDid.after2 I et⟩
        subst bc;rw [if_neg qs] at hr;injection hr with h1 hr;injection hr with h2 h3;subst h1;subst h2;subst h3;go_wp2_with fail;go_ret2;exact ⟨rfl,_,VDid.after2 I et⟩
end

structure OpT where
 kind:Nat
 sys:Nat
 on:Opr
 ws:List (Int × ByteArray)
 sec:Int
 size:Int
 raw:OpD
 X:Option Addr
 cx:Nat
 B:Option Addr
 cb:Nat
def R8 (o:OpT):Array Value:=#[.int .u8 (o.kind:Int),.int .u8 (o.sys:Int),.int .u8 (o.on.kind:Int),.int .i64 o.on.id,.int .i64 o.on.unit,.string o.on.name,.string o.on.note,.int .i64 o.on.n,.slice o.X o.on.ext.length o.cx,.slice o.B o.ws.length o.cb,.int .i64 o.sec,.int .i64 o.size,.int .u8 (o.raw.kind:Int),.int .i64 o.raw.sys,.int .i64 o.raw.ep,.int .i64 o.raw.sec,.string o.raw.data,.int .i64 o.raw.n,.int .u8 (o.raw.mask.toNat:Int),.slice o.raw.A o.raw.sv.length o.raw.c]
structure OpTOk (w:World) (o:OpT):Prop where
 kind:o.kind<256
 on:OprAt w o.X o.on
 at_:ListAt w w.heap.size 2 o.B (o.ws.map BM)
 len:o.ws.length<=1000
 ok:∀e∈o.ws,okI e.1
 size:∀e∈o.ws,e.2.size<=1000000
noncomputable def stP (D:Dev) (sy ep n:Int) (o:OpT):Dev × Int:=
 if (o.kind:Int) % 4=1 then wrP D sy ep n o.on.id o.on.unit (Dv 8 6 o.ws)
 else if (o.kind:Int) % 4=3 then ((UR D sy ep n o.on.id o.on.unit).1,(UR D sy ep n o.on.id o.on.unit).2.2)
 else if (o.on.kind:Int) % 7=0 then chP D sy ep n o.on.id o.on.unit (Dv 8 6 o.ws) (λT=>CI T o.on.id o.on.unit o.on.name o.on.note o.on.n)
 else if (o.on.kind:Int) % 7=1 then chP D sy ep n o.on.id o.on.unit [] (λT=>Bt T o.on.id o.on.unit (Ho T o.on.n))
 else if (o.on.kind:Int) % 7=2 then chP D sy ep n o.on.id o.on.unit [] (λT=>Bt T o.on.id o.on.unit (G5 T o.on.n))
 else if (o.on.kind:Int) % 7=3\/(o.on.kind:Int) % 7=4 then chP D sy ep n o.on.id 0 (Dv 8 6 o.ws) (λT=>Bt T o.on.id o.on.unit (Ig T o.on.id o.on.note))
 else if (o.on.kind:Int) % 7=5 then chP D sy ep n o.on.id o.on.unit (Dv 8 6 o.ws) (λT=>Bt T o.on.id o.on.unit (Et T o.on.note))
 else chP D sy ep n o.on.id o.on.unit [] (λT=>Bt T o.on.id o.on.unit (Ju T))
section
variable {w0:World} {x s m v:Nat} {n sy ep:Int} {D:Dev} {out:Nat->Prop} {W:World} (h:VHeld w0 x s m v n sy ep D out W) (hL:Kh D) (hn:okT n=true)
include h hL hn
theorem Rm (o:OpT) (ho:OpTOk W o) (H1:∀E,(ES D sy ep n o.on.id o.on.unit).1=E->(ES D sy ep n o.on.id o.on.unit).2.2=0->Cm x s m sy ep E) (H2:∀E,(CZ D sy ep n).1=E->(CZ D sy ep n).2.2=0->Cm x s m sy ep E)
 (HE:∀E T f,CZ D sy ep n=(E,T,f)->f=0->Kh E)
 (P:∀E T l a b E2 ss,CZ D sy ep n=(E,T,0)->CK T o.on.id o.on.unit=(l,true)->Ki l.ext (Bp T)=((a,b),true)->CS E sy ep (Fm l)=(E2,ss,0)->
   (∀k,64*k<(DH a ss).length->(Di E2 sy ep (DH a ss) k).2=0->Cm x s m sy ep (Di E2 sy ep (DH a ss) k).1)/\
   ∀E3,L0 E2 sy ep (DH a ss)=(E3,0)->Kh E3/\∀E,(CZ E3 sy ep n).1=E->(CZ E3 sy ep n).2.2=0->Cm x s m sy ep E)
 (D':Dev) (er:Int) (hr:stP D sy ep n o=(D',er)):
 Calls Tryz.prog 10 #[ptrV v,.agg (R8 o)] W λe w'=>e=.returned (.int .i64 er)/\∃out',VDid w0 x s m v n sy ep D' out W out' w':=by
 have Q:Grew W (W.alloc (.cells (R8 o) 42)):=(gK W).alloc _;have p:=zh (gZ W 42 (R8 o) rfl);have j:=zh (ZN o.ws o.B o.cb 8 6 ⟨oo,oo⟩ oo _ (Ad ho.at_ Q) (by have:=ho.len;omega) ho.ok ho.size);have R:=Vs (n:=8) (most:=6) oo o.ws;obtain ⟨L,Z⟩:∃L,Dv 8 6 o.ws=L:=⟨_,rfl⟩;have hk:=ho.kind;have al:=ho.on.kind;have U:=ho.on.name;have q:=ho.on.note;have t:okI o.on.n:=⟨ho.on.n0,ho.on.n1⟩;unfold stP at hr;rw [Z] at hr R j;have w:=zh Q;have HH:=zh h;clear Q ho Z
 obtain ⟨⟨a1,id,unit,nm,nt,kn,ex⟩,kind,F,ws,X,cx,B,cb,G,size,H,I,J,K,M,rn,N,RA,rc,O,ho⟩:∃(on:Opr) (kind F:Nat) (ws:List (Int × ByteArray)) (X:Option Addr) (cx:Nat) (B:Option Addr) (cb:Nat) (G size:Int) (H:Nat) (I J K:Int) (M:ByteArray) (rn:Int) (N:UInt8) (RA:Option Addr) (rc:Nat) (O:List Int),o=⟨kind,F,on,ws,G,size,⟨H,I,J,K,M,rn,N,RA,rc,O⟩,X,cx,B,cb⟩:=by
  obtain ⟨kind,F,on,ws,G,size,⟨H,I,J,K,M,rn,N,RA,rc,O⟩,X,cx,B,cb⟩:=o;exact ⟨on,kind,F,ws,X,cx,B,cb,G,size,H,I,J,K,M,rn,N,RA,rc,O,rfl⟩
 subst ho;unfold R8 at p w j ⊢;simp only at hr hk al U q t H1 P p w j ⊢;obtain ⟨r4,a2⟩:∃r4:Int,(kind:Int) % 4=r4:=⟨_,rfl⟩;obtain ⟨r7,a3⟩:∃r7:Int,(a1:Int) % 7=r7:=⟨_,rfl⟩;rw [a2,a3] at hr;have an:=zh H1;have i:=zh H2;have av:=zh HE;have a0:=zh P;have V:=zh R;clear H1 H2 HE P R h;go_enter Tryz.func10,Tryz.ntmps10;go_wp2_with fail;refine j.mono ?_;rintro e w1 ⟨u,rfl,S,g1⟩;have c:=zh (w.out.trans g1);have d:=p.grew g1;have z0:=d.cell 0;have z2:=d.cell 2;have z3:=d.cell 3;have z4:=d.cell 4;have z5:=d.cell 5;have z6:=d.cell 6;have z7:=d.cell 7;have zl:=d.lt;have HM:=zh (HH.more c);obtain ⟨Au,cu,hu,_,_,ad⟩:=S.listAt;rw [gO] at hu;subst hu
 have Y:L≠[]->∀b' off',Au=some ⟨b',off',none⟩->Far w0 (λk=>out k\/(W.heap.size<=k/\k<w1.heap.size)) m v b':=λ_ b' off' e=>by
  have h1:=S.own_ge (g:=b') (by rw [e];rfl);have h2:=w.size;have h3:=HH.held.store.lt.2;have h4:=HH.vol.lt;exact ⟨.inr (.inr ⟨gY h2 h1.1,h1.2⟩),oo,oo⟩
 have y:=zh ad;have z:=zh Y;clear S g1 d ad Y p j;have A:=zh (show L.length<=900000 from by have:=V.len;omega);have C:=zh (show ∀e∈L,okI e.1 from λe he=>by have:=V.all e he;unfold okI;omega);by_cases e1:r4=1
 . rw [if_pos e1] at hr;subst e1;have HC:=zh (VG HM hL.1 hL.2 hn id unit an L (gY A oo) C Au cu y z D' er hr);clear hr;go_wp2_with fail;refine HC.mono ?_;rintro e w2 ⟨rfl,o2,hd⟩;have HD:=zh (VDid.after2 c hd);clear hd z0 z2 z3 z4 z5 z6 z7 zl;go_wp2_with fail;go_ret;exact ⟨rfl,_,HD⟩
 rw [if_neg e1] at hr;by_cases e3:r4=3
 . rw [if_pos e3] at hr;subst e3;obtain ⟨⟨Dc,a4,ec⟩,ae⟩:∃r,UR D sy ep n id unit=r:=⟨_,rfl⟩;rw [ae] at hr;injection hr with h1 h2;simp only at h1 h2;subst h1;subst h2;have hr:=True.intro;have HC:=zh (RM HM hL hn id unit av a0 _ a4 _ ae);clear hr;go_wp2_with fail;refine HC.mono ?_;rintro e w2 ⟨rfl,o2,hd⟩;have HD:=zh (VDid.after2 c hd);clear hd z0 z2 z3 z4 z5 z6 z7 zl;go_wp2_with fail;go_ret;exact ⟨rfl,_,HD⟩
 rw [if_neg e3] at hr;by_cases f0:r7=0
 . rw [if_pos f0] at hr;subst f0;have HC:=zh (MN HM hL.1 hL.2 hn i id unit nm nt U q kn t L A C Au cu y z D' er hr);clear hr;go_wp2_with fail;refine HC.mono ?_;rintro e w2 ⟨rfl,o2,hd⟩;have HD:=zh (VDid.after2 c hd);clear hd z0 z2 z3 z4 z5 z6 z7 zl;go_wp2_with fail;go_ret;exact ⟨rfl,_,HD⟩
 rw [if_neg f0] at hr;by_cases f1:r7=1
 . rw [if_pos f1] at hr;subst f1;have HC:=zh (RT HM hL.1 hL.2 hn i id unit kn t D' er hr);clear hr;go_wp2_with fail;refine HC.mono ?_;rintro e w2 ⟨rfl,o2,hd⟩;have HD:=zh (VDid.after2 c hd);clear hd z0 z2 z3 z4 z5 z6 z7 zl;go_wp2_with fail;go_ret;exact ⟨rfl,_,HD⟩
 rw [if_neg f1] at hr;by_cases f2:r7=2
 . rw [if_pos f2] at hr;subst f2;have HC:=zh (Q2 HM hL.1 hL.2 hn i id unit kn t D' er hr);clear hr;go_wp2_with fail;refine HC.mono ?_;rintro e w2 ⟨rfl,o2,hd⟩;have HD:=zh (VDid.after2 c hd);clear hd z0 z2 z3 z4 z5 z6 z7 zl;go_wp2_with fail;go_ret;exact ⟨rfl,_,HD⟩
 rw [if_neg f2] at hr;by_cases f3:r7=3\/r7=4
 . rw [if_pos f3] at hr;rcases f3 with f3 | f3<;>subst f3
   all_goals
    have HC:=zh (Qw HM hL.1 hL.2 hn i id unit nt q L A C Au cu y z D' er hr);clear hr;go_wp2_with fail;refine HC.mono ?_;rintro e w2 ⟨rfl,o2,hd⟩;have HD:=zh (VDid.after2 c hd);clear hd z0 z2 z3 z4 z5 z6 z7 zl;go_wp2_with fail;go_ret;exact ⟨rfl,_,HD⟩
 rw [if_neg f3] at hr;by_cases f5:r7=5
 . rw [if_pos f5] at hr;subst f5;have HC:=zh (Xw HM hL.1 hL.2 hn i id unit nt q L A C Au cu y z D' er hr);clear hr;go_wp2_with fail;refine HC.mono ?_;rintro e w2 ⟨rfl,o2,hd⟩;have HD:=zh (VDid.after2 c hd);clear hd z0 z2 z3 z4 z5 z6 z7 zl;go_wp2_with fail;go_ret;exact ⟨rfl,_,HD⟩
 rw [if_neg f5] at hr;have f6:r7=6:=oo;subst f6;have HC:=zh (SM HM hL.1 hL.2 hn i id unit D' er hr);clear hr;go_wp2_with fail;refine HC.mono ?_;rintro e w2 ⟨rfl,o2,hd⟩;have HD:=zh (VDid.after2 c hd);clear hd z0 z2 z3 z4 z5 z6 z7 zl;go_wp2_with fail;go_ret;exact ⟨rfl,_,HD⟩
end

end
section
open Go.RowKit
structure VGood (D:Dev) (I:Img) (T:Tab) (n:Nat):Prop where
 hist:Hist D I
 neat:Neat D I
 size:I.n=8*n
 tr:T.tracks=(n:Int)
 good:GoodT T
 tab:∀i (h:i<(AW T).length),I.cs i=(AW T)[i]
theorem VGood.okn {D:Dev} {I:Img} {T:Tab} {n:Nat} (h:VGood D I T n):okT (n:Int)=true:=by rw [<-h.tr];exact h.good.tr
theorem Ct {T:Tab} (h:GoodT T):(AW T).length=8*(ttS T.tracks).toNat/\∀x∈AW T,x.size=128:=by
 have h1:=DZ T ((AX T).2 h) _ rfl;have h2:=h.len;have h3:=Ce T.tracks
 have h4:1<=ttS T.tracks:=by
  obtain ⟨h5,h6⟩:=BT h.tr;unfold ttS;rw [if_pos h.tr];omega
 unfold Cg at h2;exact ⟨by rw [h1.1];omega,h1.2.1⟩
theorem VGood.len {D:Dev} {I:Img} {T:Tab} {n:Nat} (h:VGood D I T n):D.st.length=131+8*n:=by rw [h.neat.clean.len,h.size]
theorem VGood.tabs {D:Dev} {I:Img} {T:Tab} {n:Nat} (h:VGood D I T n):(AW T).length=(tsI n).length/\(AW T).length<=8*n:=by
 have h1:=(Ct h.good).1;have h2:=Ce (n:Int);rw [h.tr] at h1;obtain ⟨h3,h4⟩:=BT h.okn;have h5:ttS (n:Int)<=(n:Int):=by unfold ttS;rw [if_pos h.okn];omega
 rw [LF,h1];exact ⟨rfl,oo⟩
theorem Su {D:Dev} {I:Img} (h:Clean D I) (sy ep:Int) (l:List Int) (hl:∀i∈l,0<=i/\i<(I.n:Int)):CS D sy ep l=(D,l.map (λi=>I.cs i.toNat),0):=by
 have hn:(D.st.length:Int) - 131=(I.n:Int):=by rw [h.len];omega
 have a:∀k:List Int,(∀i∈k,0<=i/\i<(I.n:Int))->Bl D (I.n:Int) k=0:=by
  intro k
  induction k with
  | nil=>intro _;rfl
  | cons i k ih=>
    intro hk;obtain ⟨h1,h2⟩:=hk i (iO ..);unfold Bl;rw [if_neg oo,h.toHolds.look i.toNat oo,if_neg qs];exact ih λj hj=>hk j (iJ _ hj)
 unfold CS;rw [E8 h,if_neg qs];simp only;rw [hn,a l hl,if_pos rfl]
 have:Dp D l=l.map (λi=>I.cs i.toNat):=by
  unfold Dp;apply ie;intro i hi;obtain ⟨h1,h2⟩:=hl i hi;rw [h.toHolds.look i.toNat oo]
 rw [this]
theorem VGood.table {D:Dev} {I:Img} {T:Tab} {n:Nat} (h:VGood D I T n) (sy ep:Int):CZ D sy ep n=(D,T,0):=by
 obtain ⟨h1,h2⟩:=h.tabs;have a:=h.size
 have hr:CS D sy ep (tsI n)=(D,AW T,0):=by
  rw [Su h.neat.clean sy ep (tsI n) (λi hi=>by
   unfold tsI Ii at hi
   obtain ⟨j,hj,rfl⟩:=gV.1 hi
   have:=iP.1 hj
   rw [LF] at h1
   omega)]
  congr 2;apply jv
  . rw [gO,h1]
  . intro i h3 h4;rw [ju];unfold tsI Ii;rw [ju,List.getElem_range,iM];exact h.tab i h4
 unfold CZ;rw [hr,QJ ⟨(AX T).2 h.good,rfl⟩ h.tr]
theorem Mr {I:Img} {ws:List (Int × ByteArray)} (i:Nat) (hi:i<I.n):(I.next ws).cs i=(Kv ws i).getD (I.cs i):=by
 unfold Img.next;split
 . rename_i h;subst h;rfl
 . show (Ak (Bw I.n ws) i).getD (I.cs i)=_;rw [Tp I.n ws i hi]
theorem GY {D:Dev} {I:Img} (hh:Hist D I) (hn:Neat D I) {sy:Int} (hs:1<=sy/\sy<=4) (ws:List (Int × ByteArray)) (hN:I.N<1000):
 (Al D sy 0 ws).2=Ac I.n ws/\(Ac I.n ws≠0->(Al D sy 0 ws).1=D)/\(Ac I.n ws=0->Hist (Al D sy 0 ws).1 (I.next ws)/\Neat (Al D sy 0 ws).1 (I.next ws)):=by
 obtain ⟨h1,h2⟩:=Dw hn.clean (hn.calm hs) hn.fuse ws oo;refine ⟨?_,λh0=>by rw [h1 (.inl h0)],λh0=>Ww hh hn hs ws h0 hN⟩;by_cases h0:Ac I.n ws=0
 . by_cases a:ws=[]
   . rw [h1 (.inr a)]
   . obtain ⟨E,hE,_⟩:=h2 h0 a;rw [hE,h0]
 . rw [h1 (.inl h0)]
theorem P6 {D:Dev} {I:Img} (hn:Neat D I) (hN:I.N<1000) {x s m:Nat} {sy:Int} (hs:1<=sy/\sy<=4):Cm x s m sy 0 D:=by
 intro w0 out W h ws hl b A c d hA;refine (SE h hs hn hN ws hl b A c d hA).mono ?_;rintro e w' ⟨he,D',hd,_,hD⟩
 have h2:(Al D sy 0 ws).2=Ac I.n ws:=by
  obtain ⟨h1,h2⟩:=Dw hn.clean (hn.calm hs) hn.fuse ws oo;by_cases h0:Ac I.n ws=0
  . by_cases a:ws=[]
    . rw [h1 (.inr a)]
    . obtain ⟨E,hE,_⟩:=h2 h0 a;rw [hE,h0]
  . rw [h1 (.inl h0)]
 rw [h2,<-hD];exact ⟨he,hd⟩
theorem Hs {T:Tab} (hg:GoodT T) (id a:Int) (i:Nat) (hi:i∈BL (CK T id a).1.ext):ttS T.tracks<=(i:Int)/\(i:Int)<T.tracks:=by
 rcases H5 T id a with ⟨k,hk,_,h2,h3⟩ | ⟨_,h2,_⟩
 . rw [h2] at hi;have hv:=(Hd T hg id a k hk h3).2;exact (Ev _ _ hv).2.2.1 i hi
 . rw [h2] at hi;cases hi
theorem Lf {l:Lab} {s q:Int} (h:A0 l.ext s=(q,true)):∃k:Nat,k∈BL l.ext/\q=(k:Int)*8+s % 8/\0<=s:=by
 rcases Int.lt_or_le s 0 with h9 | h9
 . rw [JE l.ext s h9] at h;cases h
 . rcases Gm l.ext s h9 with ⟨_,h2⟩ | ⟨k,h1,_,_,h4,h5⟩
   . rw [h2] at h;cases h
   . rw [h5] at h;injection h with h _;exact ⟨k,jL h4,h.symm,h9⟩
theorem YG {l:Lab} {ws:List (Int × ByteArray)} (e:Int × ByteArray) (he:e∈(Ay l ws).1):e.2.size=128/\∃a∈ws,a.2=e.2/\A0 l.ext a.1=(e.1,true):=by
 unfold Ay at he;split at he
 . cases he
 rename_i h1;split at he
 . cases he
 rename_i h2;obtain ⟨a,ha,rfl⟩:=gV.1 he;simp only [not_or,io] at h1
 have h3:a.2.size=128:=by
  rw [jE,im] at h1;simpa using h1.1 a ha
 have h4:(A0 l.ext a.1).2=true:=by
  rw [jE,im] at h2;simpa using h2 a ha
 exact ⟨h3,a,ha,rfl,by rw [<-h4]⟩
theorem JO {ws:List (Int × ByteArray)} {i:Nat} (h:∀e∈ws,e.1≠(i:Int)):Kv ws i=none:=by
 unfold Kv;rw [List.find?_eq_none.2 (λe he=>by simpa using h e he)];rfl
theorem Qg (a b:List (Int × ByteArray)) (i:Nat):Kv (a++b) i=(Kv a i).or (Kv b i):=by
 unfold Kv;rw [List.find?_append];cases a.find? (λx=>x.1==(i:Int)) with
 | none=>simp
 | some v=>simp
theorem Nf (T U:Tab) (hl:(AW T).length=(AW U).length) (ht:T.tracks=U.tracks) (i:Nat):Kv (Bz T U) i=if h:i<(AW U).length then (if (AW T)[i]'oo=(AW U)[i] then none else some (AW U)[i]) else none:=by
 unfold Bz;rw [if_pos ⟨hl,ht⟩];by_cases h:i<(AW U).length
 . rw [dif_pos h];have hT:i<(AW T).length:=oo;have e1:(AW T).getD i ⟨#[]⟩=(AW T)[i]:=by rw [iE,gJ hT];rfl
   have e2:(AW U).getD i ⟨#[]⟩=(AW U)[i]:=by rw [iE,gJ h];rfl
   by_cases hq:(AW T)[i]=(AW U)[i]
   . rw [if_pos hq];refine JO λe he=>?_;unfold C1 at he;obtain ⟨j,hj,rfl⟩:=gV.1 he;have h1:=(ip.1 hj).2;intro h2;have h3:j=i:=by simp only at h2;omega
     subst h3;rw [e1,e2,hq] at h1;simp at h1
   . rw [if_neg hq];unfold Kv
     have hm:((i:Int),(AW U)[i])∈C1 (AW T) (AW U) (AW T).length:=by
      unfold C1;exact gV.2 ⟨i,ip.2 ⟨iP.2 hT,by rw [e1,e2];simpa using hq⟩,by rw [e2]⟩
     have c:((C1 (AW T) (AW U) (AW T).length).map (·.1)).Nodup:=by
      unfold C1;rw [jM,Nodup,jh];exact (nodup_range.filter _).imp (λ{a b} hab he=>hab (by simp only [Function.comp] at he;omega))
     rw [GX c _ hm];rfl
 . rw [dif_neg h];refine JO λe he=>?_;unfold C1 at he;obtain ⟨j,hj,rfl⟩:=gV.1 he;have h1:=iP.1 (ip.1 hj).1;simp only;omega
theorem Jm {T U:Tab} (hT:GoodT T) (hU:GoodT U) (h:U.tracks=T.tracks):(AW T).length=(AW U).length:=by rw [(Ct hT).1,(Ct hU).1,h]
theorem Hm {U:Tab} (hU:GoodT U) (id b:Int) (ws:List (Int × ByteArray)):∀e∈(Ay (CK U id b).1 ws).1,((AW U).length:Int)<=e.1/\e.1<8*U.tracks:=by
 intro e he;obtain ⟨_,a,_,_,h3⟩:=YG e he;obtain ⟨k,hk,hq,h0⟩:=Lf h3;have h4:=Hs hU id b k hk;have h5:=Ce U.tracks;rw [(Ct hU).1];omega
theorem SO {D:Dev} {I:Img} {T U:Tab} {n:Nat} (h:VGood D I T n) (hU:GoodT U) (ht:U.tracks=T.tracks) {sy:Int} (hs:1<=sy/\sy<=4) (ps:List (Int × ByteArray)) (a:∀e∈ps,((AW U).length:Int)<=e.1) (hN:I.N<1000) (h0:Ac I.n (Bz T U++ps)=0):
 VGood (Al D sy 0 (Bz T U++ps)).1 (I.next (Bz T U++ps)) U n:=by
 obtain ⟨_,_,h3⟩:=GY h.hist h.neat hs (Bz T U++ps) hN;obtain ⟨h4,h5⟩:=h3 h0;have hl:=Jm h.good hU ht;have h8:=h.tabs.2;have c:=h.size;refine ⟨h4,h5,by rw [Ud];exact h.size,by rw [ht];exact h.tr,hU,λi hi=>?_⟩;rw [Mr i oo,Qg,Nf T U hl ht.symm i,dif_pos hi];have b:i<(AW T).length:=oo;by_cases hq:(AW T)[i]=(AW U)[i]
 . rw [if_pos hq,JO (λe he=>by have:=a e he;omega)];show I.cs i=_;rw [h.tab i b,hq]
 . rw [if_neg hq];rfl
theorem X7 (T:Tab):Bz T T=[]:=by
 unfold Bz;rw [if_pos ⟨rfl,rfl⟩];unfold C1;rw [map_eq_nil_iff,filter_eq_nil_iff];intro i _;simp
theorem dW {D:Dev} {I:Img} {T:Tab} {n:Nat} (h:VGood D I T n) {sy:Int} (hs:1<=sy/\sy<=4) (hN:I.N<1000) (id a:Int) (ws:List (Int × ByteArray)) (g:Tab->Tab × Int) (hg:∀U,g T=(U,0)->GoodT U/\U.tracks=T.tracks):
 (chP D sy 0 n id a ws g=(D,(chP D sy 0 n id a ws g).2)/\(chP D sy 0 n id a ws g).2≠0)\/
 ∃U,g T=(U,0)/\(Ay (CK U id a).1 ws).2=0/\Ac I.n (Bz T U++(Ay (CK U id a).1 ws).1)=0/\(chP D sy 0 n id a ws g).2=0/\VGood (chP D sy 0 n id a ws g).1 (I.next (Bz T U++(Ay (CK U id a).1 ws).1)) U n:=by
 have c:=h.table sy 0;unfold chP;rw [c];simp only;rw [if_neg qs];obtain ⟨⟨U,ge⟩,b⟩:∃r,g T=r:=⟨_,rfl⟩;rw [b];simp only;by_cases h1:ge=0;rotate_left
 . rw [if_pos h1];exact .inl ⟨rfl,h1⟩
 subst h1;rw [if_neg qs];obtain ⟨hU,ht⟩:=hg U b;by_cases h2:(Ay (CK U id a).1 ws).2≠0
 . rw [if_pos h2];exact .inl ⟨rfl,h2⟩
 rw [if_neg h2];obtain ⟨c1,c2,c3⟩:=GY h.hist h.neat hs (Bz T U++(Ay (CK U id a).1 ws).1) hN;by_cases h3:Ac I.n (Bz T U++(Ay (CK U id a).1 ws).1)=0
 . exact .inr ⟨U,rfl,io.1 h2,h3,by rw [c1,h3],SO h hU ht hs _ (λe he=>(Hm hU id a ws e he).1) hN h3⟩
 . have hD:=c2 h3;obtain ⟨⟨E,er⟩,hE⟩:∃r,Al D sy 0 (Bz T U++(Ay (CK U id a).1 ws).1)=r:=⟨_,rfl⟩;rw [hE] at hD c1 ⊢;simp only at hD c1;exact .inl ⟨by rw [hD],by rw [c1];exact h3⟩
theorem VGood.label {D:Dev} {I:Img} {T:Tab} {n:Nat} (h:VGood D I T n) (sy ep id a:Int):ES D sy ep n id a=(D,if (CK T id a).2=true then ((CK T id a).1,0) else (BN,6)):=by
 unfold ES;rw [h.table sy ep];simp
theorem VGood.read {D:Dev} {I:Img} {T:Tab} {n:Nat} (h:VGood D I T n) (sy ep id a i:Int) (hf:(CK T id a).2=true) (q:Int) (hq:A0 (CK T id a).1.ext i=(q,true)):rdP D sy ep n id a i=(D,I.cs q.toNat,0)/\0<=q/\q<8*n/\((AW T).length:Int)<=q:=by
 have hl:=h.label sy ep id a;rw [if_pos hf] at hl;obtain ⟨k,hk,f,h0⟩:=Lf hq;have h4:=Hs h.good id a k hk;have h5:=Ce T.tracks;have d:=h.tr;have e:=h.size;have h6:=(Ct h.good).1;have b:0<=q/\q<8*(n:Int):=oo;refine ⟨?_,b.1,b.2,by rw [h6];omega⟩;unfold rdP;rw [hl];simp only;rw [if_neg qs,hq,if_neg qs];have c:=Sl h.neat.clean sy ep h.neat.clean.len q.toNat oo;rw [show ((q.toNat:Nat):Int)=q from oo] at c;exact c

theorem eO {T:Tab} (hT:GoodT T) {l:Lab} {a b:Int} (hc:Ki l.ext (Bp T)=((a,b),true)) (ss:List ByteArray) (hs:ss.length=Ao l.ext*8):∀e∈DH a ss,((AW T).length:Int)<=e.1/\e.1<8*T.tracks:=by
 intro e he;unfold DH at he;obtain ⟨i,hi,rfl⟩:=List.mem_mapIdx.1 he;obtain ⟨_,h1,x,d,h2,h3,h4,h5,h6⟩:=Uq _ _ _ _ hc;have h7:=h6 (x+i / 8) oo oo;have h8:=(GC T hT _ h7.1).1;have h9:=(Ct hT).1;simp only;omega

structure VImg (I:Img) (T:Tab) (n:Nat):Prop where
 size:I.n=8*n
 tr:T.tracks=(n:Int)
 good:GoodT T
 tab:∀i (h:i<(AW T).length),I.cs i=(AW T)[i]
structure VRest (D:Dev) (I:Img) (T:Tab) (n:Nat):Prop extends VImg I T n where
 rest:Rest D I
 fen:D.fen=λ_=>0
 n16:n<=16
structure VLost (D:Dev) (n N:Nat):Prop where
 failed:D.failed=true
 ok:D.Ok
 fen:D.fen=λ_=>0
 len:D.st.length=131+8*n
 pend:D.pend=[]
 n16:n<=16
 back:∃I T,I3 (BR D) I/\VImg I T n/\I.N<=N
def VOut (D:Dev) (n N:Nat):Prop:=(∃I T,VRest D I T n/\I.N<=N)\/VLost D n N
structure Com (R:Dev × Int) (n N:Nat) (U:Tab):Prop where
 ok:R.2=0->∃J,VRest R.1 J U n/\J.N<=N
 no:R.2≠0->VOut R.1 n N
theorem Com.out {R:Dev × Int} {n N:Nat} {U:Tab} (h:Com R n N U):VOut R.1 n N:=by
 by_cases h0:R.2=0
 . obtain ⟨J,h1,h2⟩:=h.ok h0;exact .inl ⟨J,U,h1,h2⟩
 . exact h.no h0
theorem VOut.mono {D:Dev} {n N M:Nat} (h:VOut D n N) (d:N<=M):VOut D n M:=by
 rcases h with ⟨I,T,h1,h2⟩ | h
 . exact .inl ⟨I,T,h1,gY h2 d⟩
 . obtain ⟨I,T,a,b,c⟩:=h.back;exact .inr ⟨h.failed,h.ok,h.fen,h.len,h.pend,h.n16,I,T,a,b,gY c d⟩
theorem VGood.vrest {D:Dev} {I:Img} {T:Tab} {n:Nat} (h:VGood D I T n) (h1:1<=I.N) (h2:I.N+1<256) (hn:n<=16):VRest D I T n:=⟨⟨h.size,h.tr,h.good,h.tab⟩,h.neat.clean.rest h1 h2,h.neat.fen,hn⟩
theorem VImg.okn {I:Img} {T:Tab} {n:Nat} (h:VImg I T n):okT (n:Int)=true:=by rw [<-h.tr];exact h.good.tr
theorem VImg.tabs {I:Img} {T:Tab} {n:Nat} (h:VImg I T n):(AW T).length=(tsI n).length/\(AW T).length<=8*n:=by
 have h1:=(Ct h.good).1;have h2:=Ce (n:Int);rw [h.tr] at h1;obtain ⟨h3,h4⟩:=BT h.okn;have h5:ttS (n:Int)<=(n:Int):=by unfold ttS;rw [if_pos h.okn];omega
 rw [LF,h1];exact ⟨rfl,oo⟩
theorem VRest.len {D:Dev} {I:Img} {T:Tab} {n:Nat} (h:VRest D I T n):D.st.length=131+8*n:=by rw [h.rest.len,h.size]
theorem VRest.lenOK {D:Dev} {I:Img} {T:Tab} {n:Nat} (h:VRest D I T n):Kh D:=by
 have h1:=h.len;obtain ⟨h2,h3⟩:=BT h.okn;refine ⟨oo,?_⟩;rw [h.rest.pend];simp
theorem Mv {D:Dev} {I:Img} (h:Rest D I) (sy ep:Int) (l:List Int) (hl:∀i∈l,0<=i/\i<(I.n:Int)):CS D sy ep l=(D,l.map (λi=>I.cs i.toNat),0):=by
 have hn:(D.st.length:Int) - 131=(I.n:Int):=by rw [h.len];omega
 have a:∀k:List Int,(∀i∈k,0<=i/\i<(I.n:Int))->Bl D (I.n:Int) k=0:=by
  intro k
  induction k with
  | nil=>intro _;rfl
  | cons i k ih=>
    intro hk;obtain ⟨h1,h2⟩:=hk i (iO ..);unfold Bl;rw [if_neg oo,h.toHolds.look i.toNat oo,if_neg qs];exact ih λj hj=>hk j (iJ _ hj)
 unfold CS;rw [h.fin,if_neg qs];simp only;rw [hn,a l hl,if_pos rfl]
 have:Dp D l=l.map (λi=>I.cs i.toNat):=by
  unfold Dp;apply ie;intro i hi;obtain ⟨h1,h2⟩:=hl i hi;rw [h.toHolds.look i.toNat oo]
 rw [this]
theorem VRest.table {D:Dev} {I:Img} {T:Tab} {n:Nat} (h:VRest D I T n) (sy ep:Int):CZ D sy ep n=(D,T,0):=by
 obtain ⟨h1,h2⟩:=h.tabs;have a:=h.size
 have hr:CS D sy ep (tsI n)=(D,AW T,0):=by
  rw [Mv h.rest sy ep (tsI n) (λi hi=>by
   unfold tsI Ii at hi
   obtain ⟨j,hj,rfl⟩:=gV.1 hi
   have:=iP.1 hj
   rw [LF] at h1
   omega)]
  congr 2;apply jv
  . rw [gO,h1]
  . intro i h3 h4;rw [ju];unfold tsI Ii;rw [ju,List.getElem_range,iM];exact h.tab i h4
 unfold CZ;rw [hr,QJ ⟨(AX T).2 h.good,rfl⟩ h.tr]
theorem VRest.label {D:Dev} {I:Img} {T:Tab} {n:Nat} (h:VRest D I T n) (sy ep id a:Int):ES D sy ep n id a=(D,if (CK T id a).2=true then ((CK T id a).1,0) else (BN,6)):=by
 unfold ES;rw [h.table sy ep];simp
theorem VImg.step {I:Img} {T U:Tab} {n:Nat} (h:VImg I T n) (hU:GoodT U) (ht:U.tracks=T.tracks) (ps:List (Int × ByteArray)) (a:∀e∈ps,((AW U).length:Int)<=e.1):VImg (I.next (Bz T U++ps)) U n:=by
 have hl:=Jm h.good hU ht;have h8:=h.tabs.2;have c:=h.size;refine ⟨by rw [Ud];exact h.size,by rw [ht];exact h.tr,hU,λi hi=>?_⟩;rw [Mr i oo,Qg,Nf T U hl ht.symm i,dif_pos hi];have b:i<(AW T).length:=oo;by_cases hq:(AW T)[i]=(AW U)[i]
 . rw [if_pos hq,JO (λe he=>by have:=a e he;omega)];show I.cs i=_;rw [h.tab i b,hq]
 . rw [if_neg hq];rfl
theorem VRest.out {D:Dev} {I:Img} {T:Tab} {n N:Nat} (h:VRest D I T n) (hN:I.N<=N):VOut D n N:=.inl ⟨I,T,h,hN⟩
theorem NL {D:Dev} {I:Img} {T U:Tab} {n N:Nat} (h:VRest D I T n) (hI:I.N<=N) (hN:N+2<256) {sy:Int} (hs:1<=sy/\sy<=4) (ws:List (Int × ByteArray)) (a:VImg (I.next ws) U n):Com (Al D sy 0 ws) n (N+1) U:=by
 rcases Qy h.rest h.fen hs ws oo with ⟨h0,h1⟩ | ⟨h0,E,er,h1,h2⟩
 . rw [h1];exact ⟨λh9=>absurd h9 h0,λ_=>h.out oo⟩
 . rw [h1];have hx:(I.next ws).N<=N+1:=by rw [bF];split<;>omega
   rcases h2.done with ⟨rfl,hr⟩ | ⟨rfl,hf,ha⟩
   . exact ⟨λ_=>⟨_,⟨a,hr,h2.fen.trans h.fen,h.n16⟩,hx⟩,λh9=>absurd rfl h9⟩
   . refine ⟨(λh9=>by cases h9),λ_=>.inr ⟨hf,h2.ok,h2.fen.trans h.fen,h2.len.trans h.len,h2.pend,h.n16,?_⟩⟩;rcases ha with ha | ha
     . exact ⟨I,T,ha,h.toVImg,oo⟩
     . exact ⟨_,U,ha,a,hx⟩
theorem NW {D:Dev} {I:Img} {T:Tab} {n N:Nat} (h:VRest D I T n) (hI:I.N<=N) (hN:N+2<256) {sy:Int} (hs:1<=sy/\sy<=4) (ws:List (Int × ByteArray)) (b:∀e∈ws,((AW T).length:Int)<=e.1):Com (Al D sy 0 ws) n (N+1) T:=by
 have a:=h.toVImg.step h.good rfl ws b;rw [X7,nil_append] at a;exact NL h hI hN hs ws a
theorem dI {D:Dev} {I:Img} {T:Tab} {n N:Nat} (h:VRest D I T n) (hI:I.N<=N) (hN:N+2<256) {sy:Int} (hs:1<=sy/\sy<=4) (id a:Int) (ws:List (Int × ByteArray)):VOut (wrP D sy 0 n id a ws).1 n (N+1):=by
 have ho:=h.out (N:=N+1) oo;unfold wrP;rw [h.label sy 0 id a];by_cases hf:(CK T id a).2=true
 . rw [if_pos hf];simp only;rw [if_neg qs];by_cases h2:(Ay (CK T id a).1 ws).2≠0
   . rw [if_pos h2];exact ho
   rw [if_neg h2];exact (NW h hI hN hs _ (λe he=>(Hm h.good id a ws e he).1)).out
 . rw [if_neg hf];simp only;rw [if_pos qs];exact ho
theorem V1 {D:Dev} {I:Img} {T:Tab} {n N:Nat} (h:VRest D I T n) (hI:I.N<=N) (hN:N+2<256) {sy:Int} (hs:1<=sy/\sy<=4) (id a:Int) (ws:List (Int × ByteArray)) (g:Tab->Tab × Int) (hg:∀U,g T=(U,0)->GoodT U/\U.tracks=T.tracks):VOut (chP D sy 0 n id a ws g).1 n (N+1):=by
 have ho:=h.out (N:=N+1) oo;unfold chP;rw [h.table sy 0];simp only;rw [if_neg qs];obtain ⟨⟨U,ge⟩,b⟩:∃r,g T=r:=⟨_,rfl⟩;rw [b];simp only;by_cases h1:ge=0;rotate_left
 . rw [if_pos h1];exact ho
 subst h1;rw [if_neg qs];obtain ⟨hU,ht⟩:=hg U b;by_cases h2:(Ay (CK U id a).1 ws).2≠0
 . rw [if_pos h2];exact ho
 rw [if_neg h2];exact (NL h hI hN hs _ (h.toVImg.step hU ht _ (λe he=>(Hm hU id a ws e he).1))).out
theorem Pb {D:Dev} {I:Img} {T:Tab} {n N:Nat} (h:VRest D I T n) (hI:I.N<=N) {sy:Int} (hs:1<=sy/\sy<=4) (ws:List (Int × ByteArray)) (hps:∀e∈ws,((AW T).length:Int)<=e.1):∀k,N+k+1<256->Com (Di D sy 0 ws k) n (N+k) T
 | 0,_=>⟨λ_=>⟨I,h,hI⟩,λh9=>absurd rfl h9⟩
 | k+1,hk=>by
   have hc:=Pb h hI hs ws hps k oo;show Com (if (Di D sy 0 ws k).2≠0 then Di D sy 0 ws k else Al (Di D sy 0 ws k).1 sy 0 (MP ws k)) n _ T;by_cases h0:(Di D sy 0 ws k).2=0
   . rw [if_neg (by rw [h0];simp)];obtain ⟨J,h1,h2⟩:=hc.ok h0;exact NW h1 h2 oo hs _ (λe he=>hps e (mem_of_mem_drop (jP he)))
   . rw [if_pos h0];exact ⟨λh9=>absurd h9 h0,λh9=>(hc.no h9).mono oo⟩

end
section
attribute [local go_sem ↓] Go.wp_at_zero Go.wp_at_succ
open Go.RowKit
def GR (o:OpT):List Value:=[.int .u8 (o.kind:Int),.int .u8 (o.sys:Int),.int .u8 (o.on.kind:Int),.int .i64 o.on.id,.int .i64 o.on.unit,.string o.on.name,.string o.on.note,.int .i64 o.on.n,.slice o.X o.on.ext.length o.cx,.slice o.B o.ws.length o.cb,.int .i64 o.sec,.int .i64 o.size,.int .u8 (o.raw.kind:Int),.int .i64 o.raw.sys,.int .i64 o.raw.ep,.int .i64 o.raw.sec,.string o.raw.data,.int .i64 o.raw.n,.int .u8 (o.raw.mask.toNat:Int),.slice o.raw.A o.raw.sv.length o.raw.c]
structure OpTIn (w:World) (o:OpT):Prop where
 kind:o.kind<256
 sys:o.sys<256
 on:OprAt w o.X o.on
 at_:ListAt w w.heap.size 2 o.B (o.ws.map BM)
 wl:o.ws.length<=9223372036854775807
 ok:∀e∈o.ws,okI e.1
 raw:okOp w o.raw
theorem OprAt.hold {w w':World} {B:Option Addr} {o:Opr} (h:OprAt w B o) (hg:Grew w w'):OprAt w' B o:=⟨h.kind,h.name,h.note,h.n0,h.n1,h.runs.hold hg,h.xl⟩
theorem OpTIn.hold {w w':World} {o:OpT} (h:OpTIn w o) (hg:Grew w w'):OpTIn w' o:=⟨h.kind,h.sys,h.on.hold hg,Ad h.at_ hg,h.wl,h.ok,h.raw.keep hg⟩
def Ow (l:List OpT) (most:Nat):Bool:=l.all (λo=>Fb o.on && (GJ o.ws 70 && QZ [o.raw] 1)) && decide (l.length<=most)
theorem OC {l:List OpT} {most j:Nat} {o:OpT} (hj:j<l.length) (ho:l[j]=o) (h:(Fb o.on && (GJ o.ws 70 && QZ [o.raw] 1))=false):Ow l most=false:=by
 unfold Ow;rw [Bool.and_eq_false_iff];exact .inl (List.all_eq_false.2 ⟨o,ho▸gS hj,by rw [h];simp⟩)
theorem aB {w:World} {A:Option Addr} {l:List OpT} (h:ListAt w w.heap.size 20 A (l.map GR)) {k:Nat} (hk:k<l.length):∃b off,A=some ⟨b,off,none⟩/\b<w.heap.size/\∀i v,(GR l[k])[i]? =some v->w.cell? ⟨b,off+k*20+i,none⟩=some v:=by
 obtain ⟨b,off,e,hb,hc⟩:=h (by simp;omega);exact ⟨b,off,e,hb,hc k (GR l[k]) (by rw [gP,gJ hk];rfl)⟩
theorem da {w:World} {g:Nat} {o:OpD} (h:Blk w g 40 (opV o)) (ho:okOp w o):OpsAt w w.heap.size (some ⟨g,0,none⟩) [o]:=by
 refine ⟨λr hr=>by rw [gQ.1 hr];exact ho,λ_=>⟨g,0,rfl,h.lt,λj cs hj i v hi=>?_⟩⟩
 match j,hj with
 | 0,hj=>
   obtain rfl:opC o=cs:=by simpa using hj
   rw [show 0+0*8+i=i by omega,h.cell i];rw [<-hi];show (opV o)[i]? =_;unfold opV opC;simp
 | j+1,hj=>simp at hj
theorem ag (A:Option Addr) (c:Nat) (l:List OpT) (n:Nat) (w:World) (hv:∀o∈l,OpTIn w o) (u:ListAt w w.heap.size 20 A (l.map GR)) (hl:l.length<=9223372036854775807) (hn:n<=1000):
 Calls Tryz.prog 6 #[.slice A l.length c,.int .i64 (n:Int)] w λe w'=>e=.returned (.bool (Ow l n))/\Grew w w':=by
 have HV:=zh hv;have E:=zh u;clear hv u;go_enter Tryz.func6,Tryz.ntmps6;go_wp2_with fail
 go_loopg [5] l.length (λgk iv wr=>Grew w wr/\∃j:Nat,j<=l.length/\gk=l.length - j/\iv=.int .i64 (j:Int)/\∀k (hk:k<l.length),k<j->(Fb l[k].on && (GJ l[k].ws 70 && QZ [l[k].raw] 1))=true)
 case atStart=>exact ⟨gK w,0,ia _,rfl,rfl,λk hk h=>oo⟩
 case round=>
  obtain ⟨hg,j,hj,z,rfl,C⟩:=hrel;have F:=zh z;have HA:=zh C;have HG:=zh hg;clear z C;by_cases q:j<l.length
  . have T:(j:Int)<(l.length:Int):=oo;obtain ⟨b,V,rfl,D,hc⟩:=aB (Ad E hg) q;obtain ⟨o,ho⟩:∃o,l[j]=o:=⟨_,rfl⟩;have HO:=zh ho;have i:=zh q;have HI:=zh ((HV o (ho▸gS q)).hold hg);rw [ho] at hc;have z2:=hc 2 _ rfl;have z3:=hc 3 _ rfl;have z4:=hc 4 _ rfl;have z5:=hc 5 _ rfl;have z6:=hc 6 _ rfl;have z7:=hc 7 _ rfl;have z8:=hc 8 _ rfl;have z9:=hc 9 _ rfl;have d:=zh hc;have HS:=zh (Yf o.X o.cx o.on wr.heap.size (wr.alloc (.cells #[.int .u8 (o.on.kind:Int),.int .i64 o.on.id,.int .i64 o.on.unit,.string o.on.name,.string o.on.note,.int .i64 o.on.n,.slice o.X o.on.ext.length o.cx] 35)) (gZ wr _ _ rfl) HI.on.name HI.on.note HI.on.xl);clear hc ho hg;go_wp2_with fail;refine HS.mono ?_;rintro e w1 ⟨rfl,g1⟩;have f:=zh (((gK wr).alloc (.cells #[.int .u8 (o.on.kind:Int),.int .i64 o.on.id,.int .i64 o.on.unit,.string o.on.name,.string o.on.note,.int .i64 o.on.n,.slice o.X o.on.ext.length o.cx] 35)).trans g1);clear g1 z2 z3 z4 z5 z6 z7 z8;have y9:=AI f z9;have G:b<w1.heap.size:=gW D f.size;clear z9;obtain ⟨c1,r⟩:∃c1,Fb o.on=c1:=⟨_,rfl⟩;have g:=zh r;have H:=zh (X4 o.ws o.B o.cb 70 oo w1 (Ad HI.at_ f) HI.wl);rw [r];clear r;cases c1 with
    | false=>
      go_wp2_with fail;go_ret;exact ⟨AE (by rw [OC i.out HO.out (by rw [g.out];rfl)]),HG.out.trans f⟩
    | true=>
    go_wp2_with fail;refine H.mono ?_;rintro e w2 ⟨rfl,g2⟩;have a:=zh (f.out.trans g2);clear g2 y9 G;have U:b<w2.heap.size:=gW D a.size;have I:=AI a (d 12 _ rfl);have J:=AI a (d 13 _ rfl);have K:=AI a (d 14 _ rfl);have L:=AI a (d 15 _ rfl);have M:=AI a (d 16 _ rfl);have N:=AI a (d 17 _ rfl);have O:=AI a (d 18 _ rfl);have P:=AI a (d 19 _ rfl);obtain ⟨c2,s⟩:∃c2,GJ o.ws 70=c2:=⟨_,rfl⟩;have m:=zh s;have p:=(gK w2).alloc (.cells #[.int .u8 (o.raw.kind:Int),.int .i64 o.raw.sys,.int .i64 o.raw.ep,.int .i64 o.raw.sec,.string o.raw.data,.int .i64 o.raw.n,.int .u8 (o.raw.mask.toNat:Int),.slice o.raw.A o.raw.sv.length o.raw.c] 40);have Q:=zh (λcx=>cn (some ⟨w2.heap.size,0,none⟩) cx [o.raw] 1 _ _ (da (gZ w2 40 (opV o.raw) rfl) (HI.raw.keep (a.out.trans p))) (gM _) qs oo);have R:=zh p;rw [s];clear s p;cases c2 with
    | false=>
      go_wp2_with fail;go_ret;exact ⟨AE (by rw [OC i.out HO.out (by rw [g.out,m.out];rfl)]),HG.out.trans a⟩
    | true=>
    go_wp2_with fail;refine (Q _).mono ?_;rintro e w3 ⟨rfl,y⟩;have v:=zh (show Grew w2 w3 from y▸R.out);clear y I J K L M N O P;obtain ⟨c3,t⟩:∃c3,QZ [o.raw] 1=c3:=⟨_,rfl⟩;have x:=zh t;rw [t];clear t;cases c3 with
    | false=>
      go_wp2_with fail;go_ret;exact ⟨AE (by rw [OC i.out HO.out (by rw [g.out,m.out,x.out];rfl)]),HG.out.trans (a.out.trans v)⟩
    | true=>
    have S:=zh (show ∀k (hk:k<l.length),k<j+1->(Fb l[k].on && (GJ l[k].ws 70 && QZ [l[k].raw] 1))=true from λk hk h1=>by
     rcases it k j with h9 | h9
     . exact HA.out k hk h9
     . have:k=j:=oo
       subst this
       rw [HO.out,g.out,m.out,x.out]
       rfl)
    go_wp2_with fail
    go_roundg (l.length - (j+1))
    case measure=>rw [F.out];omega
    case rel=>exact ⟨HG.out.trans (a.out.trans v),j+1,oo,rfl,by go_num,S⟩
  . obtain rfl:j=l.length:=oo
    have HE:=zh (show Ow l n=decide (l.length<=n) from by
     unfold Ow
     rw [ic.2 (λo ho=>by
      obtain ⟨k,hk,rfl⟩:=jX.1 ho
      exact HA.out k hk hk),Bool.true_and])
    have hd:decide ((l.length:Int)<=(n:Int))=decide (l.length<=n):=decide_eq_decide.2 oo;go_wp2_with fail;go_ret;exact ⟨AE (by rw [HE.out,<-hd]),HG⟩

end
end Go.Proofs.YtfklieeipokllaaGreat
