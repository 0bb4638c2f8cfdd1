/- Parts of the proof (packed), 4. -/
import Derived.WalkSpells
import Derived.WalkLawsBesides
import Derived.Handy
import Derived.Lib.Hide
import Derived.Deep.LoopGhost
import Derived.RegionTactic
import Derived.ChangeAlike
import Derived.BigQuiet
import Derived.Deep.RegionWith
import Derived.Deep.DeepCutAuto
import Derived.Deep.CutBlock
import Derived.Test.YtfklieeipokllaaGreatCzA
namespace Go.Proofs.YtfklieeipokllaaGreat
set_option linter.all false
set_option maxRecDepth 100000
set_option maxHeartbeats 16000000
open List
section
open Go.RowKit
def AV (r:Int × Int):Nat × Nat:=
 if r.2<1\/128<=r.1 then (0,0)
 else if r.1<0 then (if r.1+r.2<=0 then (0,0) else if r.1+r.2<128 then (0,(r.1+r.2).toNat) else (0,128))
 else if r.2<128 - r.1 then (r.1.toNat,r.2.toNat) else (r.1.toNat,(128 - r.1).toNat)
theorem Cy (r:Int × Int):(AV r).1+(AV r).2<=128:=by
 unfold AV;repeat' split
 all_goals (simp only [];omega)
theorem GD {a b c d:Int} (h:a=b) (h':c=d):Ending.returned (.agg #[.int .i64 a,.int .i64 c])=.returned (.agg #[.int .i64 b,.int .i64 d]):=by rw [h,h']
theorem G0 (f c:Int) (w:World) (f0:-9223372036854775808<=f) (f1:f<=9223372036854775807) (c0:-9223372036854775808<=c) (c1:c<=9223372036854775807):
 Calls Tryz.prog 176 #[.agg #[.int .i64 f,.int .i64 c]] w λe w'=>e=.returned (.agg #[.int .i64 ((AV (f,c)).1:Int),.int .i64 ((AV (f,c)).2:Int)])/\Grew w w':=by
 unfold AV;simp only [];by_cases hy:c<1
 . rw [if_pos (Or.inl hy)];have hx:c<1\/1<=c:=oo
   try obtain ⟨a,hy⟩:=hy
   try obtain ⟨b,hy⟩:=hy
   try obtain ⟨d,hy⟩:=hy
   go_enter Tryz.func176,Tryz.ntmps176
   go_wp2
   all_goals
    go_returns
    exact ⟨GD oo oo,gG⟩
 by_cases hy:¬c<1/\128<=f
 . rw [if_pos (Or.inr hy.2)];have hx:c<1\/1<=c:=oo
   try obtain ⟨a,hy⟩:=hy
   try obtain ⟨b,hy⟩:=hy
   try obtain ⟨d,hy⟩:=hy
   go_enter Tryz.func176,Tryz.ntmps176
   go_wp2
   all_goals
    go_returns
    exact ⟨GD oo oo,gG⟩
 by_cases hy:¬c<1/\f<0/\f+c<=0
 . rw [if_neg oo,if_pos hy.2.1,if_pos hy.2.2];have hx:c<1\/1<=c:=oo
   try obtain ⟨a,hy⟩:=hy
   try obtain ⟨b,hy⟩:=hy
   try obtain ⟨d,hy⟩:=hy
   go_enter Tryz.func176,Tryz.ntmps176
   go_wp2
   all_goals
    go_returns
    exact ⟨GD oo oo,gG⟩
 by_cases hy:¬c<1/\f<0/\0<f+c/\f+c<128
 . rw [if_neg oo,if_pos hy.2.1,if_neg oo,if_pos hy.2.2.2];have hx:c<1\/1<=c:=oo
   try obtain ⟨a,hy⟩:=hy
   try obtain ⟨b,hy⟩:=hy
   try obtain ⟨d,hy⟩:=hy
   go_enter Tryz.func176,Tryz.ntmps176
   go_wp2
   all_goals
    go_returns
    exact ⟨GD oo oo,gG⟩
 by_cases hy:¬c<1/\f<0/\128<=f+c
 . rw [if_neg oo,if_pos hy.2.1,if_neg oo,if_neg oo];have hx:c<1\/1<=c:=oo
   try obtain ⟨a,hy⟩:=hy
   try obtain ⟨b,hy⟩:=hy
   try obtain ⟨d,hy⟩:=hy
   go_enter Tryz.func176,Tryz.ntmps176
   go_wp2
   all_goals
    go_returns
    exact ⟨GD oo oo,gG⟩
 by_cases hy:¬c<1/\0<=f/\f<128/\c<128 - f
 . rw [if_neg oo,if_neg oo,if_pos hy.2.2.2];have hx:c<1\/1<=c:=oo
   try obtain ⟨a,hy⟩:=hy
   try obtain ⟨b,hy⟩:=hy
   try obtain ⟨d,hy⟩:=hy
   go_enter Tryz.func176,Tryz.ntmps176
   go_wp2
   all_goals
    go_returns
    exact ⟨GD oo oo,gG⟩
 by_cases hy:¬c<1/\0<=f/\f<128/\128 - f<=c
 . rw [if_neg oo,if_neg oo,if_neg oo];have hx:c<1\/1<=c:=oo
   try obtain ⟨a,hy⟩:=hy
   try obtain ⟨b,hy⟩:=hy
   try obtain ⟨d,hy⟩:=hy
   go_enter Tryz.func176,Tryz.ntmps176
   go_wp2
   all_goals
    go_returns
    exact ⟨GD oo oo,gG⟩
 exfalso;omega

def inS (r:Nat × Nat) (t:Nat):Bool:=decide (r.1<=t/\t<r.1+r.2)
theorem AE {a b:Bool} (h:a=b):Ending.returned (.bool a)=.returned (.bool b):=by rw [h]
theorem M5 (f c:Int) (t:Nat) (ht:t<128):inS (AV (f,c)) t=decide ((f<0/\1<=c/\(t:Int)<f+c)\/(0<=f/\1<=c/\f<=t/\(t:Int) - f<c)):=by
 unfold inS AV;rw [decide_eq_decide];repeat' split
 all_goals (simp only [] at*;omega)

def AG (l:List (Int × Int)) (t:Nat):Bool:=l.any λr=>inS (AV r) t
theorem YO (l:List (Int × Int)) (k:Nat) (h:k<l.length) (t:Nat):AG (l.take (k+1)) t=(AG (l.take k) t || inS (AV l[k]) t):=by
 unfold AG;rw [gU h,List.any_append];simp only [any_cons,any_nil,Bool.or_false]
def seg (lo n t:Nat):Bool:=decide (lo<=t/\t<lo+n)
theorem Zj (x:Bool) (lo j i:Nat):(if i=lo+j then true else (x || seg lo j i))=(x || seg lo (j+1) i):=by
 unfold seg;by_cases h:i=lo+j
 . subst h;rw [if_pos rfl,show decide (lo<=lo+j/\lo+j<lo+(j+1))=true from qs,Bool.or_true]
 . rw [if_neg h];congr 1;rw [decide_eq_decide];omega
theorem NB (w:World):(zeroValue 216).run Tryz.prog w=.ok (.agg (Ah λ_=>false)) w:=qk
theorem Gu:(Tryz.prog.info? 216).map (·.size)=some 128:=qk
theorem U7 (A:Option Addr) (c:Nat) (l:List (Int × Int)) (w:World) (B:Nat) (hB:B<=w.heap.size) (hl:l.length<=9223372036854775807) (hr:RunsAt w B A l):
 Calls Tryz.prog 129 #[.slice A l.length c] w λe w'=>e=.returned (.agg (Ah (AG l)))/\Grew w w':=by
 have HR:=zh hr;clear hr;have hz:=NB;go_enter Tryz.func129,Tryz.ntmps129;go_wp2_with fail;clear hz
 go_loopg [9] l.length (λgk i wr=>∃k:Nat,k<=l.length/\gk=l.length - k/\i=.int .i64 k/\Blk wr w.heap.size 216 (Ah λ_=>false)/\Blk wr (w.heap.size+1) 216 (Ah (AG (l.take k)))/\Grew w wr)
 case atStart=>exact ⟨0,oo,oo,rfl,gB,gB,gG⟩
 case round=>
  obtain ⟨k,hk,p,rfl,g,a,hg⟩:=hrel;have s:=zh p;clear p;have G:=a.lt;by_cases d:k<l.length
  . obtain ⟨b,M,f,c,rfl,hb,h,⟨f0,f1,c0,c1⟩,x0,x1⟩:=(HR.keep hB hg).at_ d;simp only at f0 f1 c0 c1;have H:b<wr.heap.size:=by have:=hg.size;omega
    have HL:=zh h;have u:=Cy (f,c);have HN:=zh (λt=>(YO l k d t).trans (by rw [h]));clear h;go_wp2_with fail;refine (G0 f c _ f0 f1 c0 c1).mono ?_;rintro e w1 ⟨rfl,g1⟩;have v:=(g.alloc _).grew g1;have x:=(a.alloc _).grew g1;have y:=g1.cellEq;have z:=g1.frozenEq;have I:wr.heap.size<w1.heap.size:=by have:=g1.size;simp at this;omega
    have C:Blk w1 wr.heap.size 136 #[.int .i64 f,.int .i64 c]:=(gZ wr _ _ rfl).grew g1;have J:Grew w w1:=gG;generalize hcl:AV (f,c)=r at*
    obtain ⟨lo,n⟩:=r;simp only at u;go_wp2_with fail
    go_loopg [17] n (λgk2 i wx=>∃j:Nat,j<=n/\gk2=n - j/\i=.int .i64 j/\Blk wx w.heap.size 216 (Ah λ_=>false)/\Blk wx (w.heap.size+1) 216 (Ah λt=>AG (l.take k) t || seg lo j t)/\Blk wx wr.heap.size 136 #[.int .i64 lo,.int .i64 n]/\Grew w wx)
    case atStart=>exact ⟨0,oo,oo,rfl,gB,by (apply Blk.conv;(· (repeat' first | (with_reducible assumption) | (with_reducible apply Blk.setRow) | ((with_reducible apply Blk.farRow);rotate_left;(focus (first | (simp;done) | (simp;omega) | omega))) | (with_reducible apply Blk.drew) | (with_reducible apply Blk.drewN) | (with_reducible apply Blk.set_) | (with_reducible exact gZ _ _ _ (by first | rfl | (simp;done) | (simp;omega))) | (with_reducible apply Blk.alloc) | ((with_reducible apply Blk.far);rotate_left;(focus (first | (simp;done) | (simp;omega) | omega))) | ((with_reducible apply Blk.grew);rotate_left;(with_reducible assumption)) | ((with_reducible apply Blk.turned);rotate_left;(with_reducible assumption);(focus (first | (simp;done) | (simp;omega) | omega))) | fail));(· exact Ci λi _=>by rw [show seg lo 0 i=false from by simp [seg],Bool.or_false])),gB,gG⟩
    case round=>
     obtain ⟨j,hj,q,rfl,E,m,o,F⟩:=hrel;have D:=zh q;clear q v x C y z;have hx:=m.lt;have K:=o.lt;have y0:=o.cell 0;have y1:=o.cell 1;by_cases L:j<n
     . have ha:=m.cell (lo+j);rw [DS _ _ oo] at ha;have hf:=m.frozen (lo+j);go_wp2_with fail
       go_roundg (n - (j+1))
       case measure=>rw [D.out];omega
       case rel=>exact ⟨j+1,oo,oo,by go_num,gB,by (apply Blk.conv;(· (repeat' first | (with_reducible assumption) | (with_reducible apply Blk.setRow) | ((with_reducible apply Blk.farRow);rotate_left;(focus (first | (simp;done) | (simp;omega) | omega))) | (with_reducible apply Blk.drew) | (with_reducible apply Blk.drewN) | (with_reducible apply Blk.set_) | (with_reducible exact gZ _ _ _ (by first | rfl | (simp;done) | (simp;omega))) | (with_reducible apply Blk.alloc) | ((with_reducible apply Blk.far);rotate_left;(focus (first | (simp;done) | (simp;omega) | omega))) | ((with_reducible apply Blk.grew);rotate_left;(with_reducible assumption)) | ((with_reducible apply Blk.turned);rotate_left;(with_reducible assumption);(focus (first | (simp;done) | (simp;omega) | omega))) | fail));(· rw [FV];exact Ci λi _=>Zj _ lo j i)),gB,gG⟩
     . obtain rfl:j=n:=oo;go_wp2_with fail
       go_roundg (l.length - (k+1))
       case measure=>rw [s.out];omega
       case rel=>exact ⟨k+1,oo,oo,by go_num,E,by (apply Blk.conv;(· (repeat' first | (with_reducible assumption) | (with_reducible apply Blk.setRow) | ((with_reducible apply Blk.farRow);rotate_left;(focus (first | (simp;done) | (simp;omega) | omega))) | (with_reducible apply Blk.drew) | (with_reducible apply Blk.drewN) | (with_reducible apply Blk.set_) | (with_reducible exact gZ _ _ _ (by first | rfl | (simp;done) | (simp;omega))) | (with_reducible apply Blk.alloc) | ((with_reducible apply Blk.far);rotate_left;(focus (first | (simp;done) | (simp;omega) | omega))) | ((with_reducible apply Blk.grew);rotate_left;(with_reducible assumption)) | ((with_reducible apply Blk.turned);rotate_left;(with_reducible assumption);(focus (first | (simp;done) | (simp;omega) | omega))) | fail));(· exact Ci λi _=>(HN i).symm)),F⟩
  . obtain rfl:k=l.length:=oo;rw [jU] at a;clear d;go_wp2_with (first | (refine Cu rfl 216 _ rfl (w.heap.size+1) rfl 216 (Ah (AG l)) _ a Tryz.underlying216 rfl (by rw [BX];exact Gu) ?_) | (refine AO rfl 216 _ _ rfl w.heap.size (Ah (AG l)) rfl rfl 216 _ g (by rw [BX,BX]) (by rw [BX];exact Gu) (GV _) ?_));refine gw (results_cell_row rfl _ _ _ 216 (Ah (AG l)) (0,0) _ rfl (g.setRow _) Tryz.underlying216 rfl (by rw [BX];exact Gu)) rfl ?_;exact ⟨rfl,gG⟩

def Qj (l:List (Nat × Nat)):List (Nat × Nat):=l.set (l.length - 1) ((l.getD (l.length - 1) (0,0)).1,(l.getD (l.length - 1) (0,0)).2+1)
theorem Qn (l:List (Nat × Nat)) (j:Nat) (h:j<l.length):l.getD j (0,0)=l[j]:=by simp [List.getD,h]
def Ek (S:Nat->Bool) (l:List (Nat × Nat)) (i:Nat):List (Nat × Nat):=if S i=false then l else if 0<i/\S (i - 1)=true then Qj l else l++[(i,1)]
def BE (S:Nat->Bool):Nat->List (Nat × Nat)
 | 0=>[]
 | k+1=>Ek S (BE S k) k
def AH (S:Nat->Bool):List (Nat × Nat):=BE S 128
theorem RX (l:List (Nat × Nat)):(Qj l).length=l.length:=by simp [Qj]
theorem XZ (S:Nat->Bool) (l:List (Nat × Nat)) (i:Nat):(Ek S l i).length<=l.length+1:=by
 unfold Ek;repeat' split
 . omega
 . rw [RX];omega
 . simp
theorem KO (S:Nat->Bool) (k:Nat):(BE S k).length<=k:=by
 induction k with
 | zero=>simp [BE]
 | succ k ih=>have:=XZ S (BE S k) k;rw [BE];omega
theorem NP (S:Nat->Bool) (k:Nat) (hk:0<k) (h:S (k - 1)=true):0<(BE S k).length:=by
 obtain ⟨j,rfl⟩:∃j,k=j+1:=⟨k - 1,oo⟩;have h':S j=true:=h;rw [BE,Ek,if_neg (by simp [h'])];split
 . rename_i h2;have:=NP S j h2.1 h2.2;rw [RX];exact this
 . simp
theorem bm (l:List (Nat × Nat)) (k:Nat) (h:∀r∈l,r.1+r.2<=k):∀r∈Qj l,r.1+r.2<=k+1:=by
 intro r hr;rcases iT hr with hr | rfl
 . have:=h r hr;omega
 . simp only [];by_cases hl:l.length - 1<l.length
   . have:=h (l.getD (l.length - 1) (0,0)) (by rw [Qn l _ hl];exact gS hl);omega
   . have:l=[]:=jm.1 oo;subst this;simp
theorem Ft (S:Nat->Bool) (k:Nat):∀r∈BE S k,r.1+r.2<=k:=by
 induction k with
 | zero=>intro r hr;simp [BE] at hr
 | succ k ih=>
   intro r hr;rw [BE,Ek] at hr;split at hr
   . have:=ih r hr;omega
   . split at hr
     . exact bm _ k ih r hr
     . rcases iA.1 hr with hr | hr
       . have:=ih r hr;omega
       . rw [gQ.1 hr];simp
def BU (r:Nat × Nat):List Value:=[.int .i64 (r.1:Int),.int .i64 (r.2:Int)]
theorem Cz:(Tryz.prog.info? 136).map (λi=>(i.zero,i.size,i.bytes))=some (some (.agg #[.int .i64 0,.int .i64 0]),2,16):=qk
theorem bM (l:List (Nat × Nat)) (j:Nat) (a b b':Nat) (h:l[j]? =some (a,b)):(l.map BU).set j ((BU (a,b)).set 1 (.int .i64 (b':Int)))=(l.set j (a,b')).map BU:=by
 rw [List.map_set];rfl
theorem TG (g:Nat) (S:Nat->Bool) (w:World) (hs:Blk w g 216 (Ah S)):
 Calls Tryz.prog 130 #[.pointer (some ⟨g,0,none⟩)] w λe w'=>∃v,e=.returned v/\OwnL w' w.heap.size 136 2 v ((AH S).map BU)/\Grew w w':=by
 have D:=hs.lt;go_enter Tryz.func130,Tryz.ntmps130;go_wp2_with fail
 go_loopg [3,7] 128 (λgk v i wr=>∃k:Nat,k<=128/\gk=128 - k/\i=.int .i64 k/\OwnL wr w.heap.size 136 2 v ((BE S k).map BU)/\Grew w wr)
 case atStart=>exact ⟨0,oo,oo,rfl,OwnL.nil _ _ _ _,gG⟩
 case round=>
  obtain ⟨k,hk,x,rfl,b,hg⟩:=hrel;have j:=zh x;clear x;have l:=hs.grew hg;by_cases A:k<128
  . have c0:=l.cell k;rw [DS _ _ A] at c0;have a:BE S (k+1)=Ek S (BE S k) k:=rfl;have E:=KO S k;have c:=Ft S k;by_cases hS:S k=true
    . rw [Ek,if_neg (by simp [hS])] at a;rw [hS] at c0;by_cases hp:0<k/\S (k - 1)=true
      . rw [if_pos hp] at a;have c1:=l.cell (k - 1);rw [DS _ _ oo,hp.2] at c1;have y:=NP S k hp.1 hp.2;have HS:=zh a;have HB:=zh c;have u:=hp.1;clear a c hS hp;rcases b.form with ⟨_,h0⟩ | ⟨gv,cap,hv,J,K,L,M⟩
        . exfalso;have:=iH length h0;simp at this;simp [this] at y
        . subst hv
          have f:(BE S k)[(BE S k).length - 1]? =some ((BE S k).getD ((BE S k).length - 1) (0,0)):=by
           rw [Qn _ _ oo];exact gJ oo
          have z:=HB.out _ (jL f);generalize hld:(BE S k).getD ((BE S k).length - 1) (0,0)=ld at*
          obtain ⟨la,lb⟩:=ld;have m:((BE S k).map BU)[(BE S k).length - 1]? =some (BU (la,lb)):=by rw [gP,f];rfl
          have d1:=b.cell (i:=1) m rfl;have d0:=b.frozen (((BE S k).length - 1)*2+1);rw [gO] at*
          have F:gv≠g:=by intro e;exact absurd (b.ne_blk l qd) (by simp [Value.ownBlock,e])
          have n:=b.set_ (i:=1) (o:=((BE S k).length - 1)*2+1) m oo rfl (.int .i64 ((lb+1:Nat):Int));rw [bM _ _ la lb (lb+1) f] at n;have HL:=zh hld;have G:=zh f;have HR:=zh m;simp only at z;have HN:=zh n;clear n hld f m;generalize hq:(BE S k).length=q at*
          have H:((q:Int) - 1)=((q - 1:Nat):Int):=oo;go_wp2_with fail
          go_region
          go_wp2_with fail
          go_roundg (128 - (k+1))
          case measure=>rw [j.out];omega
          case rel=>exact ⟨k+1,oo,oo,by go_num,by rw [HS.out,Qj,hq,HL.out];exact HN.drew,gG⟩
      . rw [if_neg hp] at a;have HS:=zh a;have HB:=zh c
        have p:k=0\/S (k - 1)=false:=by
         by_cases h:k=0
         . exact .inl h
         . right;cases h2:S (k - 1) with
           | false=>rfl
           | true=>exact absurd ⟨oo,h2⟩ hp
        clear a c hS hp
        have hx:∃d:Value,0<k->wr.cell? ⟨g,k - 1,none⟩=some (.bool false):=⟨.bool false,λh=>by
         have c1:=l.cell (k - 1)
         rw [DS _ _ oo] at c1
         rcases p with h' | h'
         . omega
         . rw [h'] at c1;exact c1⟩
        obtain ⟨_,hx⟩:=hx;by_cases u:k=0
        . subst u;clear p hx;go_wp2_with fail
          go_region
          go_wp2_with (at_builtin;refine C2 rfl _ _ 33 rfl w.heap.size 136 2 16 _ Tryz.underlying33 Cz rfl qd wr.drew _ ((BE S 0).map BU) (BU (0,1)) (by rfl) rfl rfl b.drew (by first | rfl | (simp;done)) rfl rfl (by rw [gO];omega) (by rw [gO];omega) hg.size ?_;intro v' w1 s t B C)
          go_roundg (128 - (0+1))
          case measure=>rw [j.out];omega
          case rel=>exact ⟨0+1,oo,oo,by go_num,by rw [HS.out,gm];exact s,t _ hg.drew (gM _)⟩
        . have I:=hx oo;clear p hx;go_wp2_with fail
          go_region
          go_wp2_with (at_builtin;refine C2 rfl _ _ 33 rfl w.heap.size 136 2 16 _ Tryz.underlying33 Cz rfl qd wr.drew _ ((BE S k).map BU) (BU (k,1)) (by rfl) rfl rfl b.drew (by first | rfl | (simp;done)) rfl rfl (by rw [gO];omega) (by rw [gO];omega) hg.size ?_;intro v' w1 s t B C)
          go_roundg (128 - (k+1))
          case measure=>rw [j.out];omega
          case rel=>exact ⟨k+1,oo,oo,by go_num,by rw [HS.out,gm];exact s,t _ hg.drew (gM _)⟩
    . have r:S k=false:=by simpa using hS
      rw [Ek,if_pos r] at a;rw [r] at c0;have HS:=zh a;have HB:=zh c;clear a c hS r;go_wp2_with fail
      go_region
      go_wp2_with fail
      go_roundg (128 - (k+1))
      case measure=>rw [j.out];omega
      case rel=>exact ⟨k+1,oo,oo,by go_num,by rw [HS.out];exact b.drew,gG⟩
  . obtain rfl:k=128:=oo;go_wp2_with fail;go_ret;exact ⟨_,rfl,b,hg⟩

def Ao (l:List (Int × Int)):Nat:=(l.map λr=>(AV r).2).sum
theorem OQ (l:List (Int × Int)) (k:Nat) (h:k<l.length):Ao (l.take (k+1))=Ao (l.take k)+(AV l[k]).2:=by
 unfold Ao;rw [gU h,gm,List.sum_append];simp
theorem Hj (l:List (Int × Int)):Ao l<=128*l.length:=by
 induction l with
 | nil=>simp [Ao]
 | cons r l ih=>
   have:=Cy r;unfold Ao at ih ⊢;simp only [map_cons,sum_cons,i9];omega
def N6 (t:Int):List (Int × Int)->Nat->Int × Bool
 | [],_=>(0,false)
 | r::l,n=>if ((AV r).1:Int)<=t/\t<((AV r).1:Int)+(AV r).2 then ((n:Int)+t - (AV r).1,true) else N6 t l (n+(AV r).2)
def atS:List (Int × Int)->Int->Int × Bool
 | [],_=>(0,false)
 | r::l,i=>if i<((AV r).2:Int) then ((AV r).1+i,true) else atS l (i - (AV r).2)
theorem Pk (l:List (Int × Int)) (k:Nat) (h:k<l.length):l.drop k=l[k]::l.drop (k+1):=jS h
theorem NQ {a b:Int} {c d:Bool} (h:a=b) (h':c=d):Ending.returned (.tuple #[.int .i64 a,.bool c])=.returned (.tuple #[.int .i64 b,.bool d]):=by rw [h,h']
theorem CH {k:IntKind} {a b:Int} (h:a=b):Ending.returned (.int k a)=.returned (.int k b):=by rw [h]
theorem WH (W:World) (a b:Int):(Instr.field 136 (.agg #[.int .i64 a,.int .i64 b]) 1).run Tryz.prog W=.ok (.int .i64 b) W:=qk
section
variable (A:Option Addr) (c:Nat) (l:List (Int × Int)) (w:World) (B:Nat) (hB:B<=w.heap.size) (hl:l.length<=1000000) (hr:RunsAt w B A l)
include hB hl hr
theorem K9:Calls Tryz.prog 131 #[.slice A l.length c] w λe w'=>e=.returned (.int .i64 (Ao l))/\Grew w w':=by
 have HR:=zh hr;clear hr;have j:=WH;go_enter Tryz.func131,Tryz.ntmps131;go_wp2_with fail
 go_loopg [3,8] l.length (λgk n i wr=>∃k:Nat,k<=l.length/\gk=l.length - k/\i=.int .i64 k/\n=.int .i64 (Ao (l.take k))/\Grew w wr)
 case atStart=>exact ⟨0,oo,oo,rfl,rfl,gG⟩
 case round=>
  obtain ⟨k,hk,d,rfl,rfl,hg⟩:=hrel;have h:=zh d;clear d;have m:=Hj (l.take k);have o:(l.take k).length<=1000000:=gY (length_take_le _ _) oo;by_cases a:k<l.length
  . obtain ⟨b,s,f,c,rfl,hb,g,⟨f0,f1,c0,c1⟩,x0,x1⟩:=(HR.keep hB hg).at_ a;simp only at f0 f1 c0 c1;have p:b<wr.heap.size:=by have:=hg.size;omega
    have q:=hg.size;have r:=Cy (f,c);have HN:=zh ((OQ l k a).trans (by rw [g]));clear g;go_wp2_with fail;refine (G0 f c _ f0 f1 c0 c1).mono ?_;rintro e w1 ⟨rfl,g1⟩;go_wp2_with fail
    go_roundg (l.length - (k+1))
    case measure=>rw [h.out];omega
    case rel=>exact ⟨k+1,oo,oo,by go_num,by rw [HN.out];go_num,gG⟩
  . obtain rfl:k=l.length:=oo;go_wp2_with fail;go_ret;exact ⟨CH (by rw [jU]),gG⟩
theorem PX (t:Int) (t0:-9223372036854775808<=t) (t1:t<=9223372036854775807):
 Calls Tryz.prog 188 #[.slice A l.length c,.int .i64 t] w λe w'=>e=.returned (.tuple #[.int .i64 (N6 t l 0).1,.bool (N6 t l 0).2])/\Grew w w':=by
 have HR:=zh hr;clear hr;go_enter Tryz.func188,Tryz.ntmps188;go_wp2_with fail
 go_loopg [6,11] l.length (λgk m i wr=>∃k n:Nat,k<=l.length/\gk=l.length - k/\i=.int .i64 k/\m=.int .i64 n/\n<=128*k/\N6 t l 0=N6 t (l.drop k) n/\Grew w wr)
 case atStart=>exact ⟨0,0,oo,oo,rfl,rfl,oo,rfl,gG⟩
 case round=>
  obtain ⟨k,n,hk,j,rfl,rfl,hn,a,hg⟩:=hrel;have g:=zh j;clear j;by_cases h:k<l.length
  . obtain ⟨b,B,f,c,rfl,hb,o,⟨f0,f1,c0,c1⟩,x0,x1⟩:=(HR.keep hB hg).at_ h;simp only at f0 f1 c0 c1;have u:b<wr.heap.size:=by have:=hg.size;omega
    have v:=hg.size;have p:=Cy (f,c);rw [Pk l k h,o,N6] at a;have HX:=zh a;clear o a;have HC:=λW=>zh (G0 f c W f0 f1 c0 c1);generalize AV (f,c)=r at*
    obtain ⟨lo,nn⟩:=r;simp only at p;go_wp2_with fail;refine (HC _).out.mono ?_;rintro e w1 ⟨rfl,g1⟩;have x:=g1.cellEq;have y:=g1.frozenEq;have z:wr.heap.size<w1.heap.size:=by have:=g1.size;simp at this;omega
    by_cases d:(lo:Int)<=t/\t<(lo:Int)+nn
    . have HF:=zh (HX.out.trans (if_pos d));obtain ⟨s,q⟩:=d;go_wp2_with fail;go_ret2;exact ⟨NQ (by rw [HF.out]) (by rw [HF.out]),gG⟩
    . have HF:=zh (HX.out.trans (if_neg d));by_cases s:(lo:Int)<=t
      . have q:(lo:Int)+nn<=t:=oo;clear d;go_wp2_with fail
        go_roundg (l.length - (k+1))
        case measure=>rw [g.out];omega
        case rel=>exact ⟨k+1,n+nn,oo,oo,by go_num,by go_num,oo,HF,gG⟩
      . clear d;go_wp2_with fail
        go_roundg (l.length - (k+1))
        case measure=>rw [g.out];omega
        case rel=>exact ⟨k+1,n+nn,oo,oo,by go_num,by go_num,oo,HF,gG⟩
  . rw [drop_eq_nil_of_le oo,N6] at a;have HF:=zh a;clear a;go_wp2_with fail;go_ret2;exact ⟨NQ (by rw [HF.out]) (by rw [HF.out]),gG⟩
theorem QU (t:Int) (t0:-9223372036854775808<=t) (t1:t<=9223372036854775807):
 Calls Tryz.prog 206 #[.slice A l.length c,.int .i64 t] w λe w'=>e=.returned (.bool (N6 t l 0).2)/\Grew w w':=by
 go_enter Tryz.func206,Tryz.ntmps206;go_wp2_with fail;refine (PX A c l w B hB hl hr t t0 t1).mono ?_;rintro e w1 ⟨rfl,g1⟩;go_wp2_with fail;go_ret;exact ⟨rfl,g1⟩
theorem fN (t:Int) (t0:-9223372036854775808<=t) (t1:t<=9223372036854775807):
 Calls Tryz.prog 101 #[.slice A l.length c,.int .i64 t] w λe w'=>e=.returned (.tuple #[.int .i64 (if t<0 then (0,false) else atS l t).1,.bool (if t<0 then (0,false) else atS l t).2])/\Grew w w':=by
 have HR:=zh hr;clear hr;by_cases d:t<0
 . rw [if_pos d];go_enter Tryz.func101,Tryz.ntmps101;go_wp2_with fail;go_ret2;exact ⟨rfl,gG⟩
 . rw [if_neg d];go_enter Tryz.func101,Tryz.ntmps101;go_wp2_with fail
   go_loopg [1,12] l.length (λgk m i wr=>∃(k:Nat) (n:Int),k<=l.length/\gk=l.length - k/\i=.int .i64 k/\m=.int .i64 n/\0<=n/\n<=9223372036854775807/\atS l t=atS (l.drop k) n/\Grew w wr)
   case atStart=>exact ⟨0,t,oo,oo,rfl,rfl,oo,oo,rfl,gG⟩
   case round=>
    obtain ⟨k,n,hk,j,rfl,rfl,z,B,a,hg⟩:=hrel;have p:=zh j;clear j;by_cases g:k<l.length
    . obtain ⟨b,C,f,c,rfl,hb,o,⟨f0,f1,c0,c1⟩,x0,x1⟩:=(HR.keep hB hg).at_ g;simp only at f0 f1 c0 c1;have s:b<wr.heap.size:=by have:=hg.size;omega
      have u:=hg.size;have q:=Cy (f,c);rw [Pk l k g,o,atS] at a;have HX:=zh a;clear o a;have HC:=λW=>zh (G0 f c W f0 f1 c0 c1);generalize AV (f,c)=r at*
      obtain ⟨lo,nn⟩:=r;simp only at q;go_wp2_with fail;refine (HC _).out.mono ?_;rintro e w1 ⟨rfl,g1⟩;have v:=g1.cellEq;have x:=g1.frozenEq;have y:wr.heap.size<w1.heap.size:=by have:=g1.size;simp at this;omega
      by_cases h:n<(nn:Int)
      . have HF:=zh (HX.out.trans (if_pos h));go_wp2_with fail;go_ret2;exact ⟨NQ (by rw [HF.out]) (by rw [HF.out]),gG⟩
      . have HF:=zh (HX.out.trans (if_neg h));go_wp2_with fail
        go_roundg (l.length - (k+1))
        case measure=>rw [p.out];omega
        case rel=>exact ⟨k+1,n - nn,oo,oo,by go_num,by go_num,oo,oo,HF,gG⟩
    . rw [drop_eq_nil_of_le oo,atS] at a;have HF:=zh a;clear a;go_wp2_with fail;go_ret2;exact ⟨NQ (by rw [HF.out]) (by rw [HF.out]),gG⟩
end

def AP (l:List (Nat × Nat)):List (Int × Int):=l.map λr=>((r.1:Int),(r.2:Int))
theorem Ag (l:List (Nat × Nat)):(AP l).length=l.length:=by simp [AP]
theorem Lu (l:List (Nat × Nat)):(AP l).map EC=l.map BU:=by simp [AP,EC,BU]
theorem Gx {w:World} {base:Nat} {v:Value} {l:List (Nat × Nat)} (h:OwnL w base 136 2 v (l.map BU)) (hb:∀r∈l,r.1+r.2<=1000000):
 ∃A c,v=.slice A (AP l).length c/\RunsAt w w.heap.size A (AP l):=by
 obtain ⟨A,c,hv,_,_,hl⟩:=h.listAt;refine ⟨A,c,by rw [hv,gO,Ag],?_,by rw [Lu];exact hl⟩;intro r hr;obtain ⟨x,hx,rfl⟩:=gV.1 hr;have:=hb x hx;unfold FX;simp only [];omega
theorem OwnL.mono {w:World} {base base' e sz:Nat} {v:Value} {rows:List (List Value)} (h:OwnL w base e sz v rows) (hb:base'<=base):OwnL w base' e sz v rows:=by
 refine ⟨h.1,h.2.1,?_⟩;rcases h.2.2 with h0 | ⟨g,cap,a,hv,hg,hr⟩
 . exact .inl h0
 . exact .inr ⟨g,cap,a,hv,oo,hr⟩
theorem Us {l1 l2:List (Int × Int)} (hl:l1.length=l2.length) (h:∀j (h1:j<l1.length) (h2:j<l2.length),l1[j]=l2[j]):l1=l2:=jv hl h
theorem Li (A1 A2:Option Addr) (c1 c2:Nat) (l1 l2:List (Int × Int)) (w:World) (B:Nat) (hB:B<=w.heap.size) (z:l1.length<=1000000) (A:l2.length<=1000000) (l:RunsAt w B A1 l1) (g:RunsAt w B A2 l2):
 Calls Tryz.prog 165 #[.slice A1 l1.length c1,.slice A2 l2.length c2] w λe w'=>e=.returned (.bool (decide (l1=l2)))/\Grew w w':=by
 by_cases a:l1.length=l2.length
 . have HL:=zh a;have hb:((l1.length:Int) != (l2.length:Int))=false:=by rw [a];simp
   have t:=zh l;have u:=zh g;clear l g a;go_enter Tryz.func165,Tryz.ntmps165;go_wp2_with fail
   go_loopg [13] l1.length (λgk i wr=>∃k:Nat,k<=l1.length/\gk=l1.length - k/\i=.int .i64 k/\(∀j (h1:j<l1.length) (h2:j<l2.length),j<k->l1[j]=l2[j])/\Grew w wr)
   case atStart=>exact ⟨0,oo,oo,rfl,λj _ _ h=>oo,gG⟩
   case round=>
    obtain ⟨k,hk,p,rfl,q,hg⟩:=hrel;have v:=zh p;have HA:=zh q;clear p q;by_cases o:k<l1.length
    . have x:k<l2.length:=by rw [<-HL.out];exact o
      obtain ⟨b,C,f,c,rfl,D,r,-,x0,x1⟩:=(t.keep hB hg).at_ o;obtain ⟨b',E,f',c',rfl,n,s,-,y0,y1⟩:=(u.keep hB hg).at_ x;have HK:=zh r;have m:=zh s;clear r s;by_cases d:f=f'/\c=c'
      . obtain ⟨rfl,rfl⟩:=d;go_wp2_with fail
        go_quiet (fail)
        go_wp2_with fail
        go_roundg (l1.length - (k+1))
        case measure=>rw [v.out];omega
        case rel=>
         refine ⟨k+1,oo,oo,by go_num,λj h1 h2 hj=>?_,gG⟩;by_cases y:j=k
         . subst y;rw [HK.out,m.out]
         . exact HA.out j h1 h2 oo
      . have HD:=zh (show decide (l1=l2)=false from by
         rw [decide_eq_false_iff_not]
         intro h
         apply d
         have h2:l1[k]=l2[k]:=by simp only [h]
         rw [HK.out,m.out] at h2
         exact ⟨iH Prod.fst h2,iH Prod.snd h2⟩)
        by_cases hf:f=f'
        . subst hf;have n:(c==c')=false:=iD.2 (λh=>d ⟨rfl,h⟩);clear d;go_wp2_with fail
          go_quiet (fail)
          go_wp2_with fail;go_ret;exact ⟨AE (by rw [HD.out]),gG⟩
        . have n:(f==f')=false:=iD.2 hf;clear d;go_wp2_with fail
          go_quiet (fail)
          go_wp2_with fail;go_ret;exact ⟨AE (by rw [HD.out]),gG⟩
    . have HD:=zh (show decide (l1=l2)=true from by
       rw [iV]
       exact Us HL (λj h1 h2=>HA j h1 h2 oo))
      go_wp2_with fail;go_ret;exact ⟨AE (by rw [HD.out]),gG⟩
 . have HD:=zh (show decide (l1=l2)=false from by
    rw [decide_eq_false_iff_not];intro h;exact a (by rw [h]))
   have hb:((l1.length:Int) != (l2.length:Int))=true:=by rw [iW];omega
   clear a;go_enter Tryz.func165,Tryz.ntmps165;go_wp2_with fail;go_ret;exact ⟨AE (by rw [HD.out]),gG⟩
theorem IV (A:Option Addr) (c:Nat) (l:List (Int × Int)) (w:World) (B:Nat) (hB:B<=w.heap.size) (hl:l.length<=1000000) (hr:RunsAt w B A l):
 Calls Tryz.prog 60 #[.slice A l.length c] w λe w'=>∃v,e=.returned v/\OwnL w' w.heap.size 136 2 v ((AH (AG l)).map BU)/\Grew w w':=by
 have hz:=NB;go_enter Tryz.func60,Tryz.ntmps60;go_wp2_with fail;refine (U7 A c l w B hB oo hr).mono ?_;rintro e w1 ⟨rfl,g1⟩;have hb:=gZ w1 216 (Ah λ_=>false) rfl;go_wp2_with (refine AO rfl 216 _ _ rfl w1.heap.size (Ah (AG l)) rfl rfl 216 _ hb (by rw [BX,BX]) (by rw [BX];exact Gu) (GV _) ?_);refine (TG w1.heap.size (AG l) _ (hb.setRow _)).mono ?_;rintro e w2 ⟨v,rfl,a,g2⟩;have b:w.heap.size<=w1.heap.size:=g1.size;go_wp2_with fail;go_ret;exact ⟨v,rfl,a.mono (by simp [World.setRow];omega),gG⟩

theorem Mq (b:Bool) (w:World):Calls Tryz.prog 233 #[.bool b] w λe w'=>e=.returned (.int .i64 (if b then 1 else 0))/\w=w':=by
 cases b
 all_goals
  go_enter Tryz.func233,Tryz.ntmps233
  go_wp2
  go_ret;exact ⟨rfl,rfl⟩
theorem Kk (k i:Nat) (r:Bool) (F:Nat->Bool) (h:F k=r):(if i=k then r else if i<k then F i else false)=(if i<k+1 then F i else false):=by
 by_cases hi:i=k
 . subst hi;rw [if_pos rfl,if_pos oo,h]
 . rw [if_neg hi];by_cases hk:i<k
   . rw [if_pos hk,if_pos oo]
   . rw [if_neg hk,if_neg oo]
def tbS (t:Bool × Bool × Bool × Bool) (x y:Bool):Bool:=if x then (if y then t.2.2.2 else t.2.2.1) else (if y then t.2.1 else t.1)
theorem eN (A1 A2:Option Addr) (c1 c2:Nat) (l1 l2:List (Int × Int)) (t:Bool × Bool × Bool × Bool) (w:World) (B:Nat) (hB:B<=w.heap.size) (hl1:l1.length<=1000000) (hl2:l2.length<=1000000) (hr1:RunsAt w B A1 l1) (hr2:RunsAt w B A2 l2):
 Calls Tryz.prog 203 #[.slice A1 l1.length c1,.slice A2 l2.length c2,.agg #[.bool t.1,.bool t.2.1,.bool t.2.2.1,.bool t.2.2.2]] w λe w'=>∃v,e=.returned v/\OwnL w' w.heap.size 136 2 v ((AH λi=>tbS t (AG l1 i) (AG l2 i)).map BU)/\Grew w w':=by
 have hz:=NB;obtain ⟨t0,t1,t2,t3⟩:=t;go_enter Tryz.func203,Tryz.ntmps203;go_wp2_with fail;refine (U7 A1 c1 l1 _ B (by simp;omega) oo (hr1.keep hB (gG))).mono ?_;rintro e w1 ⟨rfl,g1⟩;have hg1:Grew w w1:=gG;have ht1:Blk w1 w.heap.size 285 #[.bool t0,.bool t1,.bool t2,.bool t3]:=(gZ w _ _ rfl).grew g1;clear g1;go_wp2_with fail;refine (U7 A2 c2 l2 w1 B (gY hB hg1.size) oo (hr2.keep hB hg1)).mono ?_;rintro e w2 ⟨rfl,g2⟩;have hg2:Grew w w2:=hg1.trans g2;have ht2:=ht1.grew g2;have hws:=hg2.size;clear hg1 ht1 g2;have hbx:Blk ((w2.alloc (.cells (Ah λ_=>false) 216)).alloc (.cells (Ah λ_=>false) 216)) w2.heap.size 216 (Ah λ_=>false):=gB;have hby:Blk (((w2.alloc (.cells (Ah λ_=>false) 216)).alloc (.cells (Ah λ_=>false) 216)).setRow w2.heap.size (Ah (AG l1))) (w2.heap.size+1) 216 (Ah λ_=>false):=gB;go_wp2_with (first | (refine AO rfl 216 _ _ rfl w2.heap.size (Ah (AG l1)) rfl rfl 216 _ hbx (by rw [BX,BX]) (by rw [BX];exact Gu) (GV _) ?_) | (refine AO rfl 216 _ _ rfl (w2.heap.size+1) (Ah (AG l2)) rfl rfl 216 _ hby (by rw [BX,BX]) (by rw [BX];exact Gu) (GV _) ?_));have htx:=((((ht2.alloc (.cells (Ah λ_=>false) 216)).alloc (.cells (Ah λ_=>false) 216)).farRow (g':=w2.heap.size) (by have:=ht2.lt;omega) (Ah (AG l1))).farRow (g':=w2.heap.size+1) (by have:=ht2.lt;omega) (Ah (AG l2))).alloc (.cells (Ah λ_=>false) 216);have hgx:w.heap.size<w2.heap.size:=ht2.lt
 go_loopg [16] 128 (λgk i wr=>∃k:Nat,k<=128/\gk=128 - k/\i=.int .i64 k/\Blk wr w.heap.size 285 #[.bool t0,.bool t1,.bool t2,.bool t3]/\Blk wr w2.heap.size 216 (Ah (AG l1))/\Blk wr (w2.heap.size+1) 216 (Ah (AG l2))/\Blk wr (w2.heap.size+1+1) 216 (Ah λi=>if i<k then tbS (t0,t1,t2,t3) (AG l1 i) (AG l2 i) else false)/\Grew w wr)
 case atStart=>exact ⟨0,oo,oo,rfl,htx,gB,gB,gB,gG⟩
 case round=>
  clear htx hbx hby ht2 hg2;obtain ⟨k,hk,hgk,rfl,hbt,hbx,hby,hbs,hg⟩:=hrel;have HGK:=zh hgk;clear hgk;have hzs:=hbs.lt;by_cases hlt:k<128
  . have cx:=hbx.cell k;rw [DS _ _ hlt] at cx;have cy:=hby.cell k;rw [DS _ _ hlt] at cy;have cs:=hbs.cell k;rw [DS _ _ hlt] at cs;have fs:=hbs.frozen k;have q0:=hbt.cell 0;have q1:=hbt.cell 1;have q2:=hbt.cell 2;have q3:=hbt.cell 3;have hn1:¬w.heap.size=w2.heap.size+1+1:=oo;have hn2:¬w2.heap.size+1+1=w.heap.size:=oo;have hks:∀v,(wr.setCell ⟨w2.heap.size+1+1,k,none⟩ v).cell? ⟨w2.heap.size,k,none⟩=wr.cell? ⟨w2.heap.size,k,none⟩:=λv=>World.cell?_setCell_other _ _ _ _ (λe=>by injection e;omega);have hkn:(0:Int)<=(k:Int):=oo;have hkn2:(k:Int)<128:=oo;rcases hX:AG l1 k with _ | _<;>rcases hY:AG l2 k with _ | _
    . rw [hX] at cx;rw [hY] at cy;have HX:=zh hX;have HY:=zh hY;clear hX hY;go_wp2_with fail
      go_region_held3 (λw'=>w'.cell? ⟨w2.heap.size,k,none⟩=some (.bool false)/\w'.cell? ⟨w2.heap.size+1,k,none⟩=some (.bool false)/\w'.cell? ⟨w.heap.size,0,none⟩=some (.bool t0)/\w'.cell? ⟨w.heap.size,1,none⟩=some (.bool t1)/\w'.cell? ⟨w.heap.size,2,none⟩=some (.bool t2)/\w'.cell? ⟨w.heap.size,3,none⟩=some (.bool t3)) (go_keep) (first | (go_at_call 233;refine (Mq _ _).mono ?_;rintro e w' ⟨rfl,rfl⟩))
      go_wp2_with fail
      go_roundg (128 - (k+1))
      case measure=>rw [HGK.out];omega
      case rel=>exact ⟨k+1,oo,oo,by go_num,gB,gB,gB,by (apply Blk.conv;(· (repeat' first | (with_reducible assumption) | (with_reducible apply Blk.setRow) | ((with_reducible apply Blk.farRow);rotate_left;(focus (first | (simp;done) | (simp;omega) | omega))) | (with_reducible apply Blk.drew) | (with_reducible apply Blk.drewN) | (with_reducible apply Blk.set_) | (with_reducible exact gZ _ _ _ (by first | rfl | (simp;done) | (simp;omega))) | (with_reducible apply Blk.alloc) | ((with_reducible apply Blk.far);rotate_left;(focus (first | (simp;done) | (simp;omega) | omega))) | ((with_reducible apply Blk.grew);rotate_left;(with_reducible assumption)) | ((with_reducible apply Blk.turned);rotate_left;(with_reducible assumption);(focus (first | (simp;done) | (simp;omega) | omega))) | fail));(· rw [FV];exact Ci λi _=>Kk k i t0 (λi=>tbS (t0,t1,t2,t3) (AG l1 i) (AG l2 i)) (by show tbS _ (AG l1 k) (AG l2 k)=_;rw [HX.out,HY.out];rfl))),gG⟩
    . rw [hX] at cx;rw [hY] at cy;have HX:=zh hX;have HY:=zh hY;clear hX hY;go_wp2_with fail
      go_region_held3 (λw'=>w'.cell? ⟨w2.heap.size,k,none⟩=some (.bool false)/\w'.cell? ⟨w2.heap.size+1,k,none⟩=some (.bool true)/\w'.cell? ⟨w.heap.size,0,none⟩=some (.bool t0)/\w'.cell? ⟨w.heap.size,1,none⟩=some (.bool t1)/\w'.cell? ⟨w.heap.size,2,none⟩=some (.bool t2)/\w'.cell? ⟨w.heap.size,3,none⟩=some (.bool t3)) (go_keep) (first | (go_at_call 233;refine (Mq _ _).mono ?_;rintro e w' ⟨rfl,rfl⟩))
      go_wp2_with fail
      go_roundg (128 - (k+1))
      case measure=>rw [HGK.out];omega
      case rel=>exact ⟨k+1,oo,oo,by go_num,gB,gB,gB,by (apply Blk.conv;(· (repeat' first | (with_reducible assumption) | (with_reducible apply Blk.setRow) | ((with_reducible apply Blk.farRow);rotate_left;(focus (first | (simp;done) | (simp;omega) | omega))) | (with_reducible apply Blk.drew) | (with_reducible apply Blk.drewN) | (with_reducible apply Blk.set_) | (with_reducible exact gZ _ _ _ (by first | rfl | (simp;done) | (simp;omega))) | (with_reducible apply Blk.alloc) | ((with_reducible apply Blk.far);rotate_left;(focus (first | (simp;done) | (simp;omega) | omega))) | ((with_reducible apply Blk.grew);rotate_left;(with_reducible assumption)) | ((with_reducible apply Blk.turned);rotate_left;(with_reducible assumption);(focus (first | (simp;done) | (simp;omega) | omega))) | fail));(· rw [FV];exact Ci λi _=>Kk k i t1 (λi=>tbS (t0,t1,t2,t3) (AG l1 i) (AG l2 i)) (by show tbS _ (AG l1 k) (AG l2 k)=_;rw [HX.out,HY.out];rfl))),gG⟩
    . rw [hX] at cx;rw [hY] at cy;have HX:=zh hX;have HY:=zh hY;clear hX hY;go_wp2_with fail
      go_region_held3 (λw'=>w'.cell? ⟨w2.heap.size,k,none⟩=some (.bool true)/\w'.cell? ⟨w2.heap.size+1,k,none⟩=some (.bool false)/\w'.cell? ⟨w.heap.size,0,none⟩=some (.bool t0)/\w'.cell? ⟨w.heap.size,1,none⟩=some (.bool t1)/\w'.cell? ⟨w.heap.size,2,none⟩=some (.bool t2)/\w'.cell? ⟨w.heap.size,3,none⟩=some (.bool t3)) (go_keep) (first | (go_at_call 233;refine (Mq _ _).mono ?_;rintro e w' ⟨rfl,rfl⟩))
      go_wp2_with fail
      go_roundg (128 - (k+1))
      case measure=>rw [HGK.out];omega
      case rel=>exact ⟨k+1,oo,oo,by go_num,gB,gB,gB,by (apply Blk.conv;(· (repeat' first | (with_reducible assumption) | (with_reducible apply Blk.setRow) | ((with_reducible apply Blk.farRow);rotate_left;(focus (first | (simp;done) | (simp;omega) | omega))) | (with_reducible apply Blk.drew) | (with_reducible apply Blk.drewN) | (with_reducible apply Blk.set_) | (with_reducible exact gZ _ _ _ (by first | rfl | (simp;done) | (simp;omega))) | (with_reducible apply Blk.alloc) | ((with_reducible apply Blk.far);rotate_left;(focus (first | (simp;done) | (simp;omega) | omega))) | ((with_reducible apply Blk.grew);rotate_left;(with_reducible assumption)) | ((with_reducible apply Blk.turned);rotate_left;(with_reducible assumption);(focus (first | (simp;done) | (simp;omega) | omega))) | fail));(· rw [FV];exact Ci λi _=>Kk k i t2 (λi=>tbS (t0,t1,t2,t3) (AG l1 i) (AG l2 i)) (by show tbS _ (AG l1 k) (AG l2 k)=_;rw [HX.out,HY.out];rfl))),gG⟩
    . rw [hX] at cx;rw [hY] at cy;have HX:=zh hX;have HY:=zh hY;clear hX hY;go_wp2_with fail
      go_region_held3 (λw'=>w'.cell? ⟨w2.heap.size,k,none⟩=some (.bool true)/\w'.cell? ⟨w2.heap.size+1,k,none⟩=some (.bool true)/\w'.cell? ⟨w.heap.size,0,none⟩=some (.bool t0)/\w'.cell? ⟨w.heap.size,1,none⟩=some (.bool t1)/\w'.cell? ⟨w.heap.size,2,none⟩=some (.bool t2)/\w'.cell? ⟨w.heap.size,3,none⟩=some (.bool t3)) (go_keep) (first | (go_at_call 233;refine (Mq _ _).mono ?_;rintro e w' ⟨rfl,rfl⟩))
      go_wp2_with fail
      go_roundg (128 - (k+1))
      case measure=>rw [HGK.out];omega
      case rel=>exact ⟨k+1,oo,oo,by go_num,gB,gB,gB,by (apply Blk.conv;(· (repeat' first | (with_reducible assumption) | (with_reducible apply Blk.setRow) | ((with_reducible apply Blk.farRow);rotate_left;(focus (first | (simp;done) | (simp;omega) | omega))) | (with_reducible apply Blk.drew) | (with_reducible apply Blk.drewN) | (with_reducible apply Blk.set_) | (with_reducible exact gZ _ _ _ (by first | rfl | (simp;done) | (simp;omega))) | (with_reducible apply Blk.alloc) | ((with_reducible apply Blk.far);rotate_left;(focus (first | (simp;done) | (simp;omega) | omega))) | ((with_reducible apply Blk.grew);rotate_left;(with_reducible assumption)) | ((with_reducible apply Blk.turned);rotate_left;(with_reducible assumption);(focus (first | (simp;done) | (simp;omega) | omega))) | fail));(· rw [FV];exact Ci λi _=>Kk k i t3 (λi=>tbS (t0,t1,t2,t3) (AG l1 i) (AG l2 i)) (by show tbS _ (AG l1 k) (AG l2 k)=_;rw [HX.out,HY.out];rfl))),gG⟩
  . obtain rfl:k=128:=oo;have hbs':Blk wr (w2.heap.size+1+1) 216 (Ah λi=>tbS (t0,t1,t2,t3) (AG l1 i) (AG l2 i)):=by (apply Blk.conv;(· (repeat' first | (with_reducible assumption) | (with_reducible apply Blk.setRow) | ((with_reducible apply Blk.farRow);rotate_left;(focus (first | (simp;done) | (simp;omega) | omega))) | (with_reducible apply Blk.drew) | (with_reducible apply Blk.drewN) | (with_reducible apply Blk.set_) | (with_reducible exact gZ _ _ _ (by first | rfl | (simp;done) | (simp;omega))) | (with_reducible apply Blk.alloc) | ((with_reducible apply Blk.far);rotate_left;(focus (first | (simp;done) | (simp;omega) | omega))) | ((with_reducible apply Blk.grew);rotate_left;(with_reducible assumption)) | ((with_reducible apply Blk.turned);rotate_left;(with_reducible assumption);(focus (first | (simp;done) | (simp;omega) | omega))) | fail));(· exact Ci λi hi=>if_pos hi))
    go_wp2_with fail;refine (TG (w2.heap.size+1+1) _ wr hbs').mono ?_;rintro e w3 ⟨v,rfl,hown,g3⟩;go_wp2_with fail;go_ret;exact ⟨v,rfl,hown.mono hg.size,gG⟩
theorem Ly (A1 A2:Option Addr) (c1 c2:Nat) (l1 l2:List (Int × Int)) (w:World) (B:Nat) (hB:B<=w.heap.size) (c:l1.length<=1000000) (d:l2.length<=1000000) (b:RunsAt w B A1 l1) (a:RunsAt w B A2 l2):
 Calls Tryz.prog 149 #[.slice A1 l1.length c1,.slice A2 l2.length c2] w λe w'=>∃v,e=.returned v/\OwnL w' w.heap.size 136 2 v ((AH λi=>AG l1 i && !AG l2 i).map BU)/\Grew w w':=by
 have hC:=eN A1 A2 c1 c2 l1 l2 (false,false,true,false) w B hB c d b a
 have hf:(λi=>tbS (false,false,true,false) (AG l1 i) (AG l2 i))=λi=>AG l1 i && !AG l2 i:=by
  funext i;cases AG l1 i<;>cases AG l2 i<;>rfl
 rw [hf] at hC;have HC:=zh hC;clear hC;go_enter Tryz.func149,Tryz.ntmps149;go_wp2_with fail;refine HC.mono ?_;rintro e w1 ⟨v,rfl,f,g1⟩;go_wp2_with fail;go_ret;exact ⟨v,rfl,f,g1⟩

def inT (l:List (Int × Int)) (t:Int):Bool:=l.any λr=>decide (((AV r).1:Int)<=t/\t<((AV r).1:Int)+(AV r).2)
theorem VX (l:List (Int × Int)) (i:Nat):inT l i=AG l i:=by
 unfold inT AG;congr 1;funext r;unfold inS;rw [decide_eq_decide];omega
theorem Zy (t:Int) (l:List (Int × Int)):∀n,(N6 t l n).2=inT l t:=by
 induction l with
 | nil=>intro n;rfl
 | cons r l ih=>
   intro n;rw [N6];unfold inT;rw [any_cons];split
   . rename_i h;simp [h]
   . rename_i h;rw [ih];simp [h,inT]
section
variable (A:Option Addr) (c:Nat) (l:List (Int × Int)) (w:World) (B:Nat) (hB:B<=w.heap.size) (hl:l.length<=1000000) (hr:RunsAt w B A l)
include hB hl hr
theorem Qm:Calls Tryz.prog 61 #[.slice A l.length c] w λe w'=>e=.returned (.bool ((Ao l:Int)==(Ao (AP (AH (AG l))):Int)))/\Grew w w':=by
 go_enter Tryz.func61,Tryz.ntmps61;go_wp2_with fail;refine (K9 A c l w B hB hl hr).mono ?_;rintro e w1 ⟨rfl,g1⟩;go_wp2_with fail;refine (IV A c l w1 B (gY hB g1.size) hl (hr.keep hB g1)).mono ?_;rintro e w2 ⟨v,rfl,a,g2⟩;obtain ⟨A',c',hv,b⟩:=Gx a (λr hr=>gY (Ft _ _ r hr) oo);subst hv;have d:(AH (AG l)).length<=128:=KO _ _;go_wp2_with fail;refine (K9 A' c' _ w2 w2.heap.size (gM _) (by rw [Ag];omega) b).mono ?_;rintro e w3 ⟨rfl,g3⟩;go_wp2_with fail;go_ret;exact ⟨rfl,g1.trans (g2.trans g3)⟩
end

theorem Qe {S T:Nat->Bool}:∀k,(∀i,i<k->S i=T i)->BE S k=BE T k:=by
 intro k
 induction k with
 | zero=>intro _;rfl
 | succ k ih=>
   intro h;rw [BE,BE,ih (λi hi=>h i oo),Ek,Ek,h k oo];by_cases hk:0<k
   . rw [h (k - 1) oo]
   . have e1:¬(0<k/\S (k - 1)=true):=λh=>hk h.1;have e2:¬(0<k/\T (k - 1)=true):=λh=>hk h.1;rw [if_neg e1,if_neg e2]

def Cc (acc:List (Nat × Nat)) (r:Nat × Nat):List (Nat × Nat):=
 if r.2=0 then acc
 else if acc≠[]/\(acc.getD (acc.length - 1) (0,0)).1+(acc.getD (acc.length - 1) (0,0)).2=r.1 then acc.set (acc.length - 1) ((acc.getD (acc.length - 1) (0,0)).1,(acc.getD (acc.length - 1) (0,0)).2+r.2)
 else acc++[r]
def Bk (l:List (Int × Int)):List (Nat × Nat):=l.foldl (λacc x=>Cc acc (AV x)) []
theorem VN (l:List (Int × Int)) (k:Nat) (h:k<l.length):Bk (l.take (k+1))=Cc (Bk (l.take k)) (AV l[k]):=by
 unfold Bk;rw [gU h,iz];rfl
theorem Wo (a:List (Nat × Nat)) (r:Nat × Nat):(Cc a r).length<=a.length+1:=by
 unfold Cc;repeat' split
 . omega
 . rw [length_set];omega
 . simp
theorem ZG (a:List (Nat × Nat)) (r:Nat × Nat) (h:∀x∈a,x.1+x.2<=128) (hr:r.1+r.2<=128):∀x∈Cc a r,x.1+x.2<=128:=by
 intro x hx;unfold Cc at hx;split at hx
 . exact h x hx
 . split at hx
   . rename_i hj;rcases iT hx with hx | rfl
     . exact h x hx
     . simp only [];omega
   . rcases iA.1 hx with hx | hx
     . exact h x hx
     . rw [gQ.1 hx];exact hr
theorem Py (l:List (Int × Int)):∀acc:List (Nat × Nat),(∀x∈acc,x.1+x.2<=128)->(∀x∈l.foldl (λacc x=>Cc acc (AV x)) acc,x.1+x.2<=128)/\(l.foldl (λacc x=>Cc acc (AV x)) acc).length<=acc.length+l.length:=by
 induction l with
 | nil=>intro acc h;exact ⟨h,qs⟩
 | cons r l ih=>
   intro acc h;have h1:=ih (Cc acc (AV r)) (ZG acc _ h (Cy r));have h2:=Wo acc (AV r);refine ⟨h1.1,?_⟩;have:=h1.2;simp only [foldl_cons,i9];omega
theorem DJ (l:List (Int × Int)):∀x∈Bk l,x.1+x.2<=128:=(Py l [] qs).1
theorem DL (l:List (Int × Int)):(Bk l).length<=l.length:=by have:=(Py l [] qs).2;rw [length_nil,ji] at this;exact this
theorem PH (l:List (Nat × Nat)) (j:Nat) (a b b':Nat):(l.map BU).set j ((BU (a,b)).set 1 (.int .i64 (b':Int)))=(l.set j (a,b')).map BU:=by
 rw [List.map_set];rfl
theorem JN (A:Option Addr) (c:Nat) (l:List (Int × Int)) (w:World) (B:Nat) (hB:B<=w.heap.size) (hl:l.length<=1000000) (hr:RunsAt w B A l):
 Calls Tryz.prog 147 #[.slice A l.length c] w λe w'=>∃v,e=.returned v/\OwnL w' w.heap.size 136 2 v ((Bk l).map BU)/\Grew w w':=by
 have HR:=zh hr;clear hr;go_enter Tryz.func147,Tryz.ntmps147;go_wp2_with fail
 go_loopg [3,9] l.length (λgk v i wr=>∃k:Nat,k<=l.length/\gk=l.length - k/\i=.int .i64 k/\OwnL wr w.heap.size 136 2 v ((Bk (l.take k)).map BU)/\Grew w wr)
 case atStart=>exact ⟨0,oo,oo,rfl,OwnL.nil _ _ _ _,gG⟩
 case round=>
  obtain ⟨k,hk,J,rfl,j,hg⟩:=hrel;have s:=zh J;clear J;by_cases I:k<l.length
  . obtain ⟨b,a1,f,c,rfl,hb,K,⟨f0,f1,c0,c1⟩,x0,x1⟩:=(HR.keep hB hg).at_ I;simp only at f0 f1 c0 c1;have X:b<wr.heap.size:=by have:=hg.size;omega
    have Y:=hg.size;have L:=Cy (f,c);have y:=VN l k I;rw [K] at y;have HN:=zh y;have Z:=DL (l.take k);have ad:(l.take k).length<=1000000:=gY (length_take_le _ _) oo;have HJ:=zh (DJ (l.take k));clear K y;have HC:=λW=>zh (G0 f c W f0 f1 c0 c1);generalize AV (f,c)=r at*
    obtain ⟨lo,n⟩:=r;generalize Bk (l.take k)=acc at*
    simp only at L;obtain ⟨Av,cv,hv,V,a2,-⟩:=j.listAt;rw [gO] at hv V;subst hv;have ae:acc.length<=1000000:=oo;by_cases u:acc=[]
    . subst u;have t:(Value.slice Av ([]:List (Nat × Nat)).length cv).ownBlock≠some wr.heap.size:=λh=>by have:=(j.own_ge h).2;omega
      go_wp2_with fail;refine (HC _).out.mono ?_;rintro e w1 ⟨rfl,g1⟩;have M:wr.heap.size<w1.heap.size:=by have:=g1.size;simp at this;omega
      have a:Blk w1 wr.heap.size 136 #[.int .i64 f,.int .i64 c]:=(gZ wr _ _ rfl).grew g1;have z:=(j.alloc (.cells #[.int .i64 f,.int .i64 c] 136)).grew g1;have N:Grew w w1:=gG;have r0:=a.cell 0;have r1:=a.cell 1;have O:=a.frozen 0;have P:=a.frozen 1;clear g1;have d:=(z.far (p:=⟨wr.heap.size,0,none⟩) t (.int .i64 (lo:Int))).far (p:=⟨wr.heap.size,1,none⟩) t (.int .i64 (n:Int));have m:Grew w ((w1.setCell ⟨wr.heap.size,0,none⟩ (.int .i64 (lo:Int))).setCell ⟨wr.heap.size,1,none⟩ (.int .i64 (n:Int))):=gG;by_cases hn:n=0
      . have C:((n:Int)==0)=true:=jR.2 oo;have HF:=zh (HN.out.trans (by rw [Cc,if_pos (by simp [hn])]));clear hn;go_wp2_with fail
        go_roundg (l.length - (k+1))
        case measure=>rw [s.out];omega
        case rel=>exact ⟨k+1,oo,oo,by go_num,by rw [HF.out];exact d,m⟩
      . have C:((n:Int)==0)=false:=iD.2 oo;have HF:=zh (HN.out.trans (show Cc [] (lo,n)=[]++[(lo,n)] by rw [Cc,if_neg (by simpa using hn),if_neg (λh=>h.1 rfl)]));clear hn;go_wp2_with fail
        go_quiet (fail)
        go_wp2_with (at_builtin;refine C2 rfl _ _ 33 rfl w.heap.size 136 2 16 _ Tryz.underlying33 Cz rfl qd (((w1.setCell ⟨wr.heap.size,0,none⟩ (.int .i64 (lo:Int))).setCell ⟨wr.heap.size,1,none⟩ (.int .i64 (n:Int))).drewN nq) _ (([]:List (Nat × Nat)).map BU) (BU (lo,n)) (by rfl) rfl rfl (d.drewN nq) (by first | rfl | (simp;done)) rfl rfl qs qs m.size ?_;intro v' w3 G H T U)
        go_roundg (l.length - (k+1))
        case measure=>rw [s.out];omega
        case rel=>exact ⟨k+1,oo,oo,by go_num,by rw [HF.out,gm];exact G,H _ (m.drewN nq) (gM _)⟩
    . have al:0<acc.length:=length_pos_iff.2 u;rcases j.form with ⟨_,h0⟩ | ⟨gv,cap,hv,a3,a4,_,_⟩
      . exfalso;have:=iH length h0;simp at this;exact u this
      . injection hv with hv1 hv2 hv3;subst hv1;clear hv2 hv3
        have x:acc[acc.length - 1]? =some (acc.getD (acc.length - 1) (0,0)):=by
         rw [Qn _ _ oo];exact gJ oo
        have Q:=HJ.out _ (jL x)
        have g:n≠0->Cc acc (lo,n)=if (acc.getD (acc.length - 1) (0,0)).1+(acc.getD (acc.length - 1) (0,0)).2=lo then acc.set (acc.length - 1) ((acc.getD (acc.length - 1) (0,0)).1,(acc.getD (acc.length - 1) (0,0)).2+n) else acc++[(lo,n)]:=by
         intro hn;rw [Cc,if_neg (by simpa using hn)];by_cases h:(acc.getD (acc.length - 1) (0,0)).1+(acc.getD (acc.length - 1) (0,0)).2=lo
         . rw [if_pos ⟨u,h⟩,if_pos h]
         . rw [if_neg (λh'=>h h'.2),if_neg h]
        generalize acc.getD (acc.length - 1) (0,0)=ld at*
        obtain ⟨la,lb⟩:=ld;simp only at Q g;have D:(acc.map BU)[acc.length - 1]? =some (BU (la,lb)):=by rw [gP,x];rfl
        generalize hq:acc.length=q at*
        obtain ⟨p,rfl⟩:∃p,q=p+1:=⟨q - 1,oo⟩;rw [Nat.add_sub_cancel] at D g x;have E:=zh D;have R:=zh g;have HQ:=zh hq;clear hq x D g u;have t:(Value.slice (some ⟨gv,0,none⟩) (p+1) cv).ownBlock≠some wr.heap.size:=λh=>by have:=(j.own_ge h).2;omega
        go_wp2_with fail;refine (HC _).out.mono ?_;rintro e w1 ⟨rfl,g1⟩;have M:wr.heap.size<w1.heap.size:=by have:=g1.size;simp at this;omega
        have a:Blk w1 wr.heap.size 136 #[.int .i64 f,.int .i64 c]:=(gZ wr _ _ rfl).grew g1;have z:=(j.alloc (.cells #[.int .i64 f,.int .i64 c] 136)).grew g1;have N:Grew w w1:=gG;have r0:=a.cell 0;have r1:=a.cell 1;have O:=a.frozen 0;have P:=a.frozen 1;clear g1;have d:=(z.far (p:=⟨wr.heap.size,0,none⟩) t (.int .i64 (lo:Int))).far (p:=⟨wr.heap.size,1,none⟩) t (.int .i64 (n:Int));have m:Grew w ((w1.setCell ⟨wr.heap.size,0,none⟩ (.int .i64 (lo:Int))).setCell ⟨wr.heap.size,1,none⟩ (.int .i64 (n:Int))):=gG;by_cases hn:n=0
        . have C:((n:Int)==0)=true:=jR.2 oo;have HF:=zh (HN.out.trans (by rw [Cc,if_pos (by simp [hn])]));clear hn;go_wp2_with fail
          go_roundg (l.length - (k+1))
          case measure=>rw [s.out];omega
          case rel=>exact ⟨k+1,oo,oo,by go_num,by rw [HF.out];exact d,m⟩
        . have C:((n:Int)==0)=false:=iD.2 oo;have g:=R.out hn;have d0:=d.cell (i:=0) E rfl;have d1:=d.cell (i:=1) E rfl;have df:=d.frozen (p*2+1);rw [jH] at d0;have F:=d.set_ (i:=1) (o:=p*2+1) E oo rfl (.int .i64 ((lb+n:Nat):Int));rw [PH] at F;have HS:=zh F;clear F hn;have an:decide ((0:Int)<=(p:Int))=true:=qs;have av:¬gv=wr.heap.size:=oo;have a0:¬wr.heap.size=gv:=oo;by_cases hj:la+lb=lo
          . have HF:=zh (HN.out.trans (g.trans (if_pos hj)));have S:(((la:Int)+(lb:Int))==(lo:Int))=true:=jR.2 oo;clear g hj;go_wp2_with fail
            go_quiet (fail)
            go_wp2_with fail
            go_region
            go_wp2_with fail
            go_roundg (l.length - (k+1))
            case measure=>rw [s.out];omega
            case rel=>exact ⟨k+1,oo,oo,by go_num,by rw [HF.out];exact HS.out,gG⟩
          . have HF:=zh (HN.out.trans (g.trans (if_neg hj)));have S:(((la:Int)+(lb:Int))==(lo:Int))=false:=iD.2 oo;clear g hj;go_wp2_with fail
            go_quiet (fail)
            go_wp2_with (at_builtin;refine C2 rfl _ _ 33 rfl w.heap.size 136 2 16 _ Tryz.underlying33 Cz rfl qd (((w1.setCell ⟨wr.heap.size,0,none⟩ (.int .i64 (lo:Int))).setCell ⟨wr.heap.size,1,none⟩ (.int .i64 (n:Int))).drewN nq) _ (acc.map BU) (BU (lo,n)) (by rfl) rfl rfl (d.drewN nq) (by first | rfl | (simp;done)) rfl rfl (by rw [gO,HQ.out];omega) (by rw [gO,HQ.out];omega) m.size ?_;intro v' w3 G H T U)
            go_roundg (l.length - (k+1))
            case measure=>rw [s.out];omega
            case rel=>exact ⟨k+1,oo,oo,by go_num,by rw [HF.out,gm];exact G,H _ (m.drewN nq) (gM _)⟩
  . obtain rfl:k=l.length:=oo;rw [jU] at j;go_wp2_with fail;go_ret;exact ⟨_,rfl,j,hg⟩

def ND (n:Int):List Value:=[.int .i64 n]

instance (r:Int × Int):Decidable (FX r):=by unfold FX;infer_instance
theorem Zt (A:Option Addr) (c n:Nat) (l:List (Int × Int)) (w:World) (hn:n=l.length) (hl:l.length<=1000000) (hr:RunsAt w w.heap.size A l) (t:Int) (t0:-9223372036854775808<=t) (t1:t<=9223372036854775807) (a:Int) (b:Bool)
 (h:(if t<0 then (0,false) else atS l t)=(a,b)):Calls Tryz.prog 101 #[.slice A n c,.int .i64 t] w λe w'=>e=.returned (.tuple #[.int .i64 a,.bool b])/\Grew w w':=by
 subst hn;have:=fN A c l w w.heap.size (gM _) hl hr t t0 t1;rw [h] at this;exact this
theorem RunsAt.hold {w w':World} {A:Option Addr} {l:List (Int × Int)} (h:RunsAt w w.heap.size A l) (hg:Grew w w'):RunsAt w' w'.heap.size A l:=
 ⟨h.1,(h.2.keep (gM _) hg).mono hg.size⟩
theorem U2 (A:Option Addr) (c n:Nat) (l:List (Int × Int)) (w:World) (hn:n=l.length) (hl:l.length<=1000000) (hr:RunsAt w w.heap.size A l) (k:List (Int × Int)) (hk:AP (AH (AG l))=k):
 Calls Tryz.prog 60 #[.slice A n c] w λe w'=>∃A c,e=.returned (.slice A k.length c)/\RunsAt w' w'.heap.size A k/\Grew w w':=by
 subst hn;subst hk;refine (IV A c l w w.heap.size (gM _) hl hr).mono ?_;rintro e w1 ⟨v,rfl,a,g1⟩;obtain ⟨A',c',hv,b⟩:=Gx a (λr hr=>gY (Ft _ _ r hr) oo);exact ⟨A',c',by rw [hv],b,g1⟩
theorem LH (A:Option Addr) (c n:Nat) (l:List (Int × Int)) (w:World) (hn:n=l.length) (hl:l.length<=1000000) (hr:RunsAt w w.heap.size A l) (k:List (Int × Int)) (hk:AP (Bk l)=k):
 Calls Tryz.prog 147 #[.slice A n c] w λe w'=>∃A c,e=.returned (.slice A k.length c)/\RunsAt w' w'.heap.size A k/\Grew w w':=by
 subst hn;subst hk;refine (JN A c l w w.heap.size (gM _) hl hr).mono ?_;rintro e w1 ⟨v,rfl,a,g1⟩;obtain ⟨A',c',hv,b⟩:=Gx a (λr hr=>gY (DJ _ r hr) oo);exact ⟨A',c',by rw [hv],b,g1⟩

def D9:List (Int × Int)->Nat->List (Nat × Nat)
 | [],_=>[]
 | r::l,n=>((AV r).1,min n (AV r).2)::D9 l (n - (AV r).2)
def Gy:List (Int × Int)->Nat->List (Nat × Nat)
 | [],_=>[]
 | r::l,n=>((AV r).1+min n (AV r).2,(AV r).2 - min n (AV r).2)::Gy l (n - (AV r).2)
theorem KJ (r:Int × Int) (l:List (Int × Int)):Ao (r::l)=(AV r).2+Ao l:=rfl
theorem Xh (x:Int × Int):∀(l:List (Int × Int)) (n:Nat),D9 (l++[x]) n=D9 l n++[((AV x).1,min (n - Ao l) (AV x).2)]:=by
 intro l
 induction l with
 | nil=>intro n;rfl
 | cons r l ih=>
   intro n;rw [cons_append,D9,D9,ih,cons_append,KJ,Nat.sub_sub]
theorem Wm (x:Int × Int):∀(l:List (Int × Int)) (n:Nat),Gy (l++[x]) n=Gy l n++[((AV x).1+min (n - Ao l) (AV x).2,(AV x).2 - min (n - Ao l) (AV x).2)]:=by
 intro l
 induction l with
 | nil=>intro n;rfl
 | cons r l ih=>
   intro n;rw [cons_append,Gy,Gy,ih,cons_append,KJ,Nat.sub_sub]
theorem N7:∀(l:List (Int × Int)) (n:Nat),(D9 l n).length=l.length:=by
 intro l;induction l with
 | nil=>intro n;rfl
 | cons r l ih=>intro n;rw [D9,i9,ih,i9]
theorem Og:∀(l:List (Int × Int)) (n:Nat),(Gy l n).length=l.length:=by
 intro l;induction l with
 | nil=>intro n;rfl
 | cons r l ih=>intro n;rw [Gy,i9,ih,i9]
theorem dm:∀(l:List (Int × Int)) (n:Nat),∀r∈D9 l n,r.1+r.2<=128:=by
 intro l;induction l with
 | nil=>intro n r hr;simp [D9] at hr
 | cons x l ih=>
   intro n r hr;have:=Cy x;rcases jB.1 hr with rfl | hr
   . simp only [];omega
   . exact ih _ r hr
theorem dA:∀(l:List (Int × Int)) (n:Nat),∀r∈Gy l n,r.1+r.2<=128:=by
 intro l;induction l with
 | nil=>intro n r hr;simp [Gy] at hr
 | cons x l ih=>
   intro n r hr;have:=Cy x;rcases jB.1 hr with rfl | hr
   . simp only [];omega
   . exact ih _ r hr

theorem Ex (a:List (Nat × Nat)):a=[]\/∃i x,a=i++[x]:=by
 rcases eq_nil_or_concat a with h | ⟨i,x,h⟩
 . exact .inl h
 . exact .inr ⟨i,x,by rw [h,concat_eq_append]⟩
theorem JX (i:List (Nat × Nat)) (x:Nat × Nat):(i++[x]).getD ((i++[x]).length - 1) (0,0)=x:=by simp [List.getD]
theorem Ka (i:List (Nat × Nat)) (x y:Nat × Nat):(i++[x]).set ((i++[x]).length - 1) y=i++[y]:=by
 rw [List.set_append_right _ _ qs];simp
def Ff (acc:List (Nat × Nat)) (t:Nat):List (Nat × Nat):=Cc acc (t,1)
theorem Lh (t:Nat):Ff [] t=[(t,1)]:=by
 unfold Ff Cc;rw [if_neg qs,if_neg (λh=>h.1 rfl)];rfl
theorem H9 (i:List (Nat × Nat)) (x r:Nat × Nat) (hr:r.2≠0):Cc (i++[x]) r=if x.1+x.2=r.1 then i++[(x.1,x.2+r.2)] else i++[x]++[r]:=by
 unfold Cc;rw [if_neg hr,JX,Ka];by_cases h:x.1+x.2=r.1
 . rw [if_pos ⟨qs,h⟩,if_pos h]
 . rw [if_neg (λh'=>h h'.2),if_neg h]
theorem DT (i:List (Nat × Nat)) (x:Nat × Nat) (t:Nat):Ff (i++[x]) t=if x.1+x.2=t then i++[(x.1,x.2+1)] else i++[x]++[(t,1)]:=by
 unfold Ff;rw [H9 _ _ _ qs]
theorem OL (a:List (Nat × Nat)) (r:Nat × Nat) (h:r.2=0):Cc a r=a:=by unfold Cc;rw [if_pos h]
theorem Tx (a:List (Nat × Nat)) (lo n:Nat):Cc a (lo,n+1)=Ff (Cc a (lo,n)) (lo+n):=by
 rcases Nat.eq_zero_or_pos n with rfl | hn
 . rw [OL a (lo,0) rfl];rfl
 . rcases Ex a with rfl | ⟨i,x,rfl⟩
   . have e1:Cc [] (lo,n+1)=[(lo,n+1)]:=by
      unfold Cc;rw [if_neg qs,if_neg (λh=>h.1 rfl)];rfl
     have e2:Cc [] (lo,n)=[]++[(lo,n)]:=by
      unfold Cc;rw [if_neg (by simp;omega),if_neg (λh=>h.1 rfl)]
     rw [e1,e2,DT,if_pos rfl];rfl
   . rw [H9 i x (lo,n+1) qs,H9 i x (lo,n) (by simp;omega)];by_cases h:x.1+x.2=lo
     . rw [if_pos h,if_pos h,DT,if_pos (by simp only [];omega)];rfl
     . rw [if_neg h,if_neg h,DT,if_pos rfl]
def Ej (s:List Nat):List (Nat × Nat):=s.foldl Ff []
def Ch (r:Nat × Nat):List Nat:=(List.range r.2).map λk=>r.1+k
theorem LZ (lo n:Nat):Ch (lo,n+1)=Ch (lo,n)++[lo+n]:=by simp [Ch,jt]
theorem P3 (a:List (Nat × Nat)) (lo n:Nat):Cc a (lo,n)=(Ch (lo,n)).foldl Ff a:=by
 induction n with
 | zero=>rw [OL a (lo,0) rfl];rfl
 | succ n ih=>rw [Tx,ih,LZ,iz];rfl
def BL (l:List (Int × Int)):List Nat:=l.flatMap λr=>Ch (AV r)
theorem Fs (r:Int × Int) (l:List (Int × Int)):BL (r::l)=Ch (AV r)++BL l:=rfl
theorem CU (a b:List (Int × Int)):BL (a++b)=BL a++BL b:=by simp [BL]
theorem Fr (l:List (Int × Int)):Bk l=Ej (BL l):=by
 have b:∀(l:List (Int × Int)) (a:List (Nat × Nat)),l.foldl (λa x=>Cc a (AV x)) a=(BL l).foldl Ff a:=by
  intro l
  induction l with
  | nil=>intro a;rfl
  | cons r l ih=>intro a;rw [foldl_cons,ih,Fs,iz,<-P3]
 exact b l []
theorem FT (r:Nat × Nat):(Ch r).length=r.2:=by simp [Ch]
theorem FW (l:List (Int × Int)):(BL l).length=Ao l:=by
 induction l with
 | nil=>rfl
 | cons r l ih=>rw [Fs,iI,ih,FT,KJ]
theorem G7 (r:Nat × Nat) (t:Nat):t∈Ch r↔r.1<=t/\t<r.1+r.2:=by
 simp only [Ch,gV,iP];constructor
 . rintro ⟨k,hk,rfl⟩;omega
 . rintro ⟨h1,h2⟩;exact ⟨t - r.1,oo,oo⟩
theorem CT (l:List (Int × Int)) (t:Nat):t∈BL l↔AG l t=true:=by
 simp only [BL,List.mem_flatMap,AG,jZ,G7,inS,iV]
theorem Mo (l:List (Int × Int)):∀t∈BL l,t<128:=by
 intro t ht;simp only [BL,List.mem_flatMap,G7] at ht;obtain ⟨r,_,h1,h2⟩:=ht;have:=Cy r;omega
theorem JU (l:List (Int × Int)) (t:Nat) (h:AG l t=true):t<128:=Mo l t ((CT l t).2 h)
theorem PJ (a b:Nat) (h:a+b<=128) (hb:0<b):AV ((a:Int),(b:Int))=(a,b):=by
 unfold AV;simp only [];rw [if_neg oo,if_neg oo];split
 . simp
 . exact Prod.ext qs (by simp;omega)
theorem PL (a b:Nat) (h:a+b<=128):Ch (AV ((a:Int),(b:Int)))=Ch (a,b):=by
 rcases Nat.eq_zero_or_pos b with rfl | hb
 . have:(AV ((a:Int),((0:Nat):Int))).2=0:=by unfold AV;rw [if_pos qs]
   unfold Ch;rw [this];rfl
 . rw [PJ a b h hb]
def CJ (l:List (Nat × Nat)):List Nat:=l.flatMap Ch
theorem Bu (l:List (Nat × Nat)) (h:∀r∈l,r.1+r.2<=128):BL (AP l)=CJ l:=by
 induction l with
 | nil=>rfl
 | cons r l ih=>
   show BL (((r.1:Int),(r.2:Int))::AP l)=_;rw [Fs,PL _ _ (h r qs),ih (λx hx=>h x (iJ _ hx))];rfl
theorem EG (a b:List (Nat × Nat)):CJ (a++b)=CJ a++CJ b:=by simp [CJ]
theorem Ip (r:Nat × Nat):CJ [r]=Ch r:=by simp [CJ]
theorem U1 (a:List (Nat × Nat)) (t:Nat):CJ (Ff a t)=CJ a++[t]:=by
 rcases Ex a with rfl | ⟨i,x,rfl⟩
 . rw [Lh];simp [CJ,Ch]
 . rw [DT];split
   . rename_i h;rw [EG,EG,Ip,Ip,LZ,<-iZ,h]
   . rw [EG];simp [CJ,Ch]
theorem U9 (s:List Nat):∀acc,CJ (s.foldl Ff acc)=CJ acc++s:=by
 induction s with
 | nil=>intro acc;simp
 | cons t s ih=>intro acc;rw [foldl_cons,ih,U1,iZ];rfl
theorem KH (s:List Nat):CJ (Ej s)=s:=by unfold Ej;rw [U9];rfl
theorem KU (l:List (Int × Int)):BL (AP (Bk l))=BL l:=by
 rw [Bu _ (DJ l),Fr,KH]
theorem KE (S:Nat->Bool) (k:Nat):BE S k=[]/\(0<k->S (k - 1)=false)\/∃i x,BE S k=i++[x]/\(x.1+x.2=k↔0<k/\S (k - 1)=true):=by
 induction k with
 | zero=>exact .inl ⟨rfl,λh=>absurd h oo⟩
 | succ k ih=>
   rw [BE,Nat.add_sub_cancel];cases hS:S k with
   | false=>
     rw [Ek,if_pos hS];rcases ih with ⟨h,_⟩ | ⟨i,x,h,_⟩
     . exact .inl ⟨h,λ_=>rfl⟩
     . refine .inr ⟨i,x,h,?_⟩;have:=Ft S k x (by rw [h];simp);constructor
       . intro h;omega
       . rintro ⟨_,h⟩;cases h
   | true=>
     rw [Ek,if_neg (by simp [hS])];by_cases hp:0<k/\S (k - 1)=true
     . rw [if_pos hp];rcases ih with ⟨h,h'⟩ | ⟨i,x,h,h'⟩
       . have:=h' hp.1;rw [hp.2] at this;cases this
       . refine .inr ⟨i,(x.1,x.2+1),?_,?_⟩
         . rw [h,Qj,JX,Ka]
         . have:=h'.2 hp;simp only [];constructor
           . intro _;exact ⟨oo,by first | rfl | trivial⟩
           . intro _;omega
     . rw [if_neg hp];exact .inr ⟨_,_,rfl,⟨λ_=>⟨oo,by first | rfl | trivial⟩,λ_=>qs⟩⟩
theorem Qd (S:Nat->Bool) (k:Nat):BE S k=Ej ((List.range k).filter S):=by
 induction k with
 | zero=>rfl
 | succ k ih=>
   rw [BE,jt,jb];unfold Ej at ih ⊢;rw [iz,<-ih];cases hS:S k with
   | false=>
     rw [Ek,if_pos hS,filter_cons_of_neg (by simp [hS])];rfl
   | true=>
     rw [Ek,if_neg (by simp [hS]),filter_cons_of_pos hS];show _=Ff (BE S k) k;rcases KE S k with ⟨h,h'⟩ | ⟨i,x,h,h'⟩
     . rw [if_neg (by rintro ⟨a,b⟩;rw [h' a] at b;cases b),h,Lh];rfl
     . by_cases hp:0<k/\S (k - 1)=true
       . rw [if_pos hp,h,DT,if_pos (h'.2 hp),Qj,JX,Ka]
       . rw [if_neg hp,h,DT,if_neg (λe=>hp (h'.1 e))]
theorem C0 (S:Nat->Bool):∀r∈AH S,r.1+r.2<=128:=Ft S 128
theorem EP (S:Nat->Bool):(AH S).length<=128:=KO S 128
theorem Ia (S:Nat->Bool):BL (AP (AH S))=(List.range 128).filter S:=by
 rw [Bu _ (C0 S)];unfold AH;rw [Qd,KH]
theorem MC {S T:Nat->Bool} (h:∀i,i<128->S i=T i):AH S=AH T:=Qe 128 h
theorem GI (S:Nat->Bool) (i:Nat) (hi:i<128):AG (AP (AH S)) i=S i:=by
 rw [Bool.eq_iff_iff,<-CT,Ia,ip,iP];exact ⟨λh=>h.2,λh=>⟨hi,h⟩⟩
theorem TN (a b:List (Nat × Nat)):AP (a++b)=AP a++AP b:=by simp [AP]
def Vt (s:List Nat) (i:Nat):Int × Bool:=if i<s.length then ((s.getD i 0:Nat),true) else (0,false)
theorem ZV (l:List (Int × Int)):∀i:Nat,atS l i=Vt (BL l) i:=by
 induction l with
 | nil=>intro i;rfl
 | cons r l ih=>
   intro i;rw [atS,Fs];unfold Vt;have a:=FT (AV r);by_cases h:(i:Int)<((AV r).2:Int)
   . have h':i<(AV r).2:=oo;rw [if_pos h,if_pos (by rw [iI];omega)];refine Prod.ext ?_ rfl;simp only [List.getD];rw [jF oo];simp [Ch,h']
   . rw [if_neg h,show (i:Int) - ((AV r).2:Int)=((i - (AV r).2:Nat):Int) from oo,ih];unfold Vt;rw [iI,a];by_cases h2:i - (AV r).2<(BL l).length
     . rw [if_pos h2,if_pos oo];simp only [List.getD];rw [iq oo,a]
     . rw [if_neg h2,if_neg oo]
theorem Nj (x:Nat) (s:List Nat):∀n,((List.range n).filter λi=>decide (i∈x::s)).length=((List.range n).filter λi=>decide (i∈s)).length+if x<n/\x ∉ s then 1 else 0:=by
 intro n
 induction n with
 | zero=>simp
 | succ n ih=>
   rw [jt,jb,jb,iI,iI,ih];by_cases hx:x=n
   . subst hx;by_cases hs:x∈s
     . simp [filter_cons,hs]
     . simp [filter_cons,hs]
   . have e:decide (n∈x::s)=decide (n∈s):=by
      rw [decide_eq_decide,jB];exact ⟨λh=>h.resolve_left (λe=>hx e.symm),Or.inr⟩
     have e2:(x<n+1/\x ∉ s)=(x<n/\x ∉ s):=by
      rw [eq_iff_iff];exact ⟨λh=>⟨oo,h.2⟩,λh=>⟨oo,h.2⟩⟩
     have e3:([n].filter λi=>decide (i∈x::s))=[n].filter λi=>decide (i∈s):=by rw [filter_cons,filter_cons,e];rfl
     simp only [e2];rw [e3];omega
theorem bE (s:List Nat) (n:Nat):((List.range n).filter λi=>decide (i∈s)).length<=s.length:=by
 induction s with
 | nil=>simp
 | cons x s ih=>rw [Nj,i9];split<;>omega
theorem MO (s:List Nat) (n:Nat) (h:∀x∈s,x<n):((List.range n).filter λi=>decide (i∈s)).length=s.length↔s.Nodup:=by
 induction s with
 | nil=>simp
 | cons x s ih=>
   have a:=ih (λy hy=>h y (iJ _ hy));have hx:=h x qs;have b:=bE s n;rw [Nj,i9,nodup_cons];by_cases hs:x∈s
   . rw [if_neg (λh=>h.2 hs)];constructor
     . intro e;omega
     . intro e;exact absurd hs e.1
   . rw [if_pos ⟨hx,hs⟩];constructor
     . intro e;exact ⟨hs,a.1 oo⟩
     . intro e;have:=a.2 e.2;omega
theorem S8 (S:Nat->Bool):Ao (AP (AH S))=((List.range 128).filter S).length:=by rw [<-FW,Ia]
theorem ft (l:List (Int × Int)):Ao l=Ao (AP (AH (AG l)))↔(BL l).Nodup:=by
 rw [S8,<-MO (BL l) 128 (Mo l),FW]
 have:(λi=>decide (i∈BL l))=AG l:=by
  funext i;rw [Bool.eq_iff_iff,iV,CT]
 rw [this];exact eq_comm
theorem Lb (lo n m:Nat):(Ch (lo,n)).take m=Ch (lo,min m n):=by
 unfold Ch;rw [<-map_take,List.take_range]
theorem X5 (lo n m:Nat):(Ch (lo,n)).drop m=Ch (lo+min m n,n - min m n):=by
 unfold Ch;apply jy;intro i;simp only [getElem?_drop,gP,jD];by_cases h:m+i<n
 . rw [jD h,jD oo];simp only [Option.map_some,Option.some.injEq];omega
 . rw [iy (by simp;omega),iy (by simp;omega)];rfl
theorem Zr (l:List (Int × Int)):∀n,BL (AP (D9 l n))=(BL l).take n:=by
 induction l with
 | nil=>intro n;simp [D9,AP,BL]
 | cons r l ih=>
   intro n;have hc:=Cy r;rw [D9];show BL ((_,_)::AP _)=_;rw [Fs,PL _ _ (by simp only [];omega),ih,Fs,take_append,FT];congr 1;rw [<-Lb]

theorem NE:(Tryz.prog.info? 3).map (λi=>(i.zero,i.size,i.bytes))=some (some (.int .i64 0),1,8):=qk

theorem XT (j nn:Nat):min j nn=nn/\nn<j\/min j nn=j/\j<=nn:=oo
theorem eA (A:Option Addr) (c:Nat) (l:List (Int × Int)) (w:World) (B:Nat) (hB:B<=w.heap.size) (hl:l.length<=100000) (hr:RunsAt w B A l) (n:Int) (N:Nat) (n0:-9223372036854775808<=n) (n1:n<=9223372036854775807) (hN:N=n.toNat):
 Calls Tryz.prog 207 #[.slice A l.length c,.int .i64 n] w λe w'=>∃v1 v2,e=.returned (.tuple #[v1,v2])/\OwnL w' w.heap.size 136 2 v1 ((Bk (AP (D9 l N))).map BU)/\OwnL w' w.heap.size 136 2 v2 ((Bk (AP (Gy l N))).map BU)/\Grew w w':=by
 have HR:=zh hr;clear hr;have hNb:N<=9223372036854775807:=oo;have HNN:=zh hN;clear hN;go_enter Tryz.func207,Tryz.ntmps207
 go_upto_region 2 with fail
 go_cut [1] (λm wx=>m=.int .i64 (N:Int)/\w=wx)
 case first=>
  have hN:=HNN.out;clear HNN;by_cases hn:n<0
  . obtain rfl:N=0:=oo;clear hN;go_wp2_with fail;go_meet;exact ⟨rfl,rfl⟩
  . obtain rfl:n=(N:Int):=oo;clear hN;rcases Nat.eq_zero_or_pos N with rfl | hpos
    . go_wp2_with fail;go_meet;exact ⟨rfl,rfl⟩
    . go_wp2_with fail;go_meet;exact ⟨rfl,rfl⟩
 case rest=>
 obtain ⟨rfl,rfl⟩:=hcut;clear HNN n0 n1;go_wp2_with fail
 go_loopg [1,6,7,15] l.length (λgk m va vb i wr=>∃(k j:Nat) (va' vb':Value),va'=va/\vb'=vb/\k<=l.length/\gk=l.length - k/\i=.int .i64 k/\m=.int .i64 j/\j=N - Ao (l.take k)/\OwnL wr w.heap.size 136 2 va ((D9 (l.take k) N).map BU)/\OwnL wr w.heap.size 136 2 vb ((Gy (l.take k) N).map BU)/\(∀g,va.ownBlock=some g->vb.ownBlock≠some g)/\Grew w wr)
 case atStart=>exact ⟨0,N,_,_,rfl,rfl,oo,oo,rfl,rfl,by simp [Ao],OwnL.nil _ _ _ _,OwnL.nil _ _ _ _,by simp [Value.ownBlock],by (repeat' first | (with_reducible exact gK _) | (with_reducible assumption) | (with_reducible refine Grew.alloc ?_ _) | (with_reducible refine Grew.drew ?_) | (with_reducible refine Grew.drewN ?_ _) | (with_reducible refine Grew.setRow ?_ (by first | (simp;done) | (simp;omega) | omega) _) | (with_reducible refine Grew.setCell ?_ (by first | (simp;done) | (simp;omega) | omega) _) | ((with_reducible apply Grew.trans);rotate_left;(with_reducible assumption)) | ((with_reducible apply Grew.turn);rotate_left;(with_reducible assumption);(focus (intro i hi;first | omega | (simp at hi;omega)))) | fail)⟩
 case round=>
  obtain ⟨k,j,va,vb,rfl,rfl,hk,hgk,rfl,rfl,hj,hoa,hob,hdis,hg⟩:=hrel;have HGK:=zh hgk;clear hgk;have hjb:j<=9223372036854775807:=oo;by_cases hlt:k<l.length
  . obtain ⟨b,off,f,c,rfl,hb,hlk,⟨f0,f1,c0,c1⟩,x0,x1⟩:=(HR.out.keep hB hg).at_ hlt;simp only at f0 f1 c0 c1;have hbs:b<wr.heap.size:=by have:=hg.size;omega
    have hws:=hg.size;have hle:=Cy (f,c);have htk:l.take (k+1)=l.take k++[(f,c)]:=by rw [gU hlt,hlk]
    have HNA:=zh (show D9 (l.take (k+1)) N=_ from by rw [htk,Xh,<-hj]);have HNB:=zh (show Gy (l.take (k+1)) N=_ from by rw [htk,Wm,<-hj]);have HSZ:=zh (show Ao (l.take (k+1))=Ao (l.take k)+(AV (f,c)).2 from by rw [OQ l k hlt,hlk]);have HLA:=zh (show ((D9 (l.take k) N).map BU).length=k from by rw [gO,N7,i8];omega);have HLB:=zh (show ((Gy (l.take k) N).map BU).length=k from by rw [gO,Og,i8];omega);have HJ:=zh hj;clear hlk htk hj;have HC:=λW=>zh (G0 f c W f0 f1 c0 c1);generalize AV (f,c)=r at*
    obtain ⟨lo,nn⟩:=r;simp only at hle;have hboA:=λg h=>hoa.own_ge (g:=g) h;have hboB:=λg h=>hob.own_ge (g:=g) h;have hdis':∀g,vb.ownBlock=some g->va.ownBlock≠some g:=λg h h'=>hdis g h' h
    go_upto_block 1 with fail
    go_cut [1,6,7] (λm sa sb wx=>m=.int .i64 ((j - min j nn:Nat):Int)/\OwnL wx w.heap.size 136 2 sa ((D9 (l.take k) N).map BU++[BU (lo,min j nn)])/\OwnL wx w.heap.size 136 2 sb ((Gy (l.take k) N).map BU++[BU (lo+min j nn,nn - min j nn)])/\(∀g,sa.ownBlock=some g->sb.ownBlock≠some g)/\Grew w wx)
    case first=>
     go_wp2_with fail;refine (HC _).out.mono ?_;rintro e w1 ⟨rfl,g1⟩;have hz1:wr.heap.size<w1.heap.size:=by have:=g1.size;simp at this;omega
     have hr1:Blk w1 wr.heap.size 136 #[.int .i64 f,.int .i64 c]:=(gZ wr _ _ rfl).grew g1;have hoa1:=(hoa.alloc (.cells #[.int .i64 f,.int .i64 c] 136)).grew g1;have hob1:=(hob.alloc (.cells #[.int .i64 f,.int .i64 c] 136)).grew g1;have hg1:Grew w w1:=by (repeat' first | (with_reducible exact gK _) | (with_reducible assumption) | (with_reducible refine Grew.alloc ?_ _) | (with_reducible refine Grew.drew ?_) | (with_reducible refine Grew.drewN ?_ _) | (with_reducible refine Grew.setRow ?_ (by first | (simp;done) | (simp;omega) | omega) _) | (with_reducible refine Grew.setCell ?_ (by first | (simp;done) | (simp;omega) | omega) _) | ((with_reducible apply Grew.trans);rotate_left;(with_reducible assumption)) | ((with_reducible apply Grew.turn);rotate_left;(with_reducible assumption);(focus (intro i hi;first | omega | (simp at hi;omega)))) | fail)
     have r0:=hr1.cell 0;have r1:=hr1.cell 1;have rf0:=hr1.frozen 0;have rf1:=hr1.frozen 1;clear g1;have hoa2:=(hoa1.far (p:=⟨wr.heap.size,0,none⟩) (λh=>by have:=(hboA _ h).2;(try simp only at this);omega) (.int .i64 (lo:Int))).far (p:=⟨wr.heap.size,1,none⟩) (λh=>by have:=(hboA _ h).2;(try simp only at this);omega) (.int .i64 (nn:Int));have hob2:=(hob1.far (p:=⟨wr.heap.size,0,none⟩) (λh=>by have:=(hboB _ h).2;(try simp only at this);omega) (.int .i64 (lo:Int))).far (p:=⟨wr.heap.size,1,none⟩) (λh=>by have:=(hboB _ h).2;(try simp only at this);omega) (.int .i64 (nn:Int));have hg2:Grew w ((w1.setCell ⟨wr.heap.size,0,none⟩ (.int .i64 (lo:Int))).setCell ⟨wr.heap.size,1,none⟩ (.int .i64 (nn:Int))):=by (repeat' first | (with_reducible exact gK _) | (with_reducible assumption) | (with_reducible refine Grew.alloc ?_ _) | (with_reducible refine Grew.drew ?_) | (with_reducible refine Grew.drewN ?_ _) | (with_reducible refine Grew.setRow ?_ (by first | (simp;done) | (simp;omega) | omega) _) | (with_reducible refine Grew.setCell ?_ (by first | (simp;done) | (simp;omega) | omega) _) | ((with_reducible apply Grew.trans);rotate_left;(with_reducible assumption)) | ((with_reducible apply Grew.turn);rotate_left;(with_reducible assumption);(focus (intro i hi;first | omega | (simp at hi;omega)))) | fail)
     have hr2:Blk ((w1.setCell ⟨wr.heap.size,0,none⟩ (.int .i64 (lo:Int))).setCell ⟨wr.heap.size,1,none⟩ (.int .i64 (nn:Int))) wr.heap.size 136 #[.int .i64 lo,.int .i64 nn]:=by (apply Blk.conv;(· (repeat' first | (with_reducible assumption) | (with_reducible apply Blk.setRow) | ((with_reducible apply Blk.farRow);rotate_left;(focus (first | (simp;done) | (simp;omega) | omega))) | (with_reducible apply Blk.drew) | (with_reducible apply Blk.drewN) | (with_reducible apply Blk.set_) | (with_reducible exact gZ _ _ _ (by first | rfl | (simp;done) | (simp;omega))) | (with_reducible apply Blk.alloc) | ((with_reducible apply Blk.far);rotate_left;(focus (first | (simp;done) | (simp;omega) | omega))) | ((with_reducible apply Blk.grew);rotate_left;(with_reducible assumption)) | ((with_reducible apply Blk.turned);rotate_left;(with_reducible assumption);(focus (first | (simp;done) | (simp;omega) | omega))) | fail));(· rfl))
     have hz2:((w1.setCell ⟨wr.heap.size,0,none⟩ (.int .i64 (lo:Int))).setCell ⟨wr.heap.size,1,none⟩ (.int .i64 (nn:Int))).heap.size=w1.heap.size:=by simp [World.setCell]
     go_upto_region 7 with fail
     clear r0 r1 rf0 rf1 hoa1 hob1 hg1 hr1;generalize ((w1.setCell ⟨wr.heap.size,0,none⟩ (.int .i64 (lo:Int))).setCell ⟨wr.heap.size,1,none⟩ (.int .i64 (nn:Int)))=w2 at*
     have r0:=hr2.cell 0;have r1:=hr2.cell 1;have hzz:=hg2.size;rw [<-hz2] at hz1;clear hz2
     go_cut [10] (λkk wx=>kk=.int .i64 ((min j nn:Nat):Int)/\w2=wx)
     case first=>
      rcases XT j nn with ⟨hm,hjn⟩ | ⟨hm,hjn⟩
      . have HMN:=zh hm;clear hm;go_wp2_with fail;go_meet;exact ⟨by rw [HMN.out],rfl⟩
      . have HMN:=zh hm;clear hm;go_wp2_with fail;go_meet;exact ⟨by rw [HMN.out],rfl⟩
     case rest=>
     obtain ⟨rfl,rfl⟩:=hcut;have hq1:min j nn<=j:=Nat.min_le_left _ _;have hq2:min j nn<=nn:=Nat.min_le_right _ _;have HQ:=zh (show nn - (j - (j - min j nn))=nn - min j nn/\j - min j nn=j - nn from oo);generalize min j nn=q at*
     go_upto_region 9 with fail
     have hw1:IntKind.i64.wrap ((lo:Int)+(q:Int))=((lo+q:Nat):Int):=by rw [IntKind.wrap_i64];omega
     have hw2:IntKind.i64.wrap ((nn:Int) - (q:Int))=((nn - q:Nat):Int):=by rw [IntKind.wrap_i64];omega
     go_region_held3 (λw'=>w'.cell? ⟨wr.heap.size,0,none⟩=some (.int .i64 lo)/\w'.cell? ⟨wr.heap.size,1,none⟩=some (.int .i64 nn))
      (first
        | go_keep
        | (go_split_ands
           refine ⟨?_,?_⟩
           . (rw [hgrow.cell_far _ (by simp;omega) (λe=>by have:=(hboA _ e.symm).2;(try simp only at this);omega)];assumption)
           . (rw [hgrow.cell_far _ (by simp;omega) (λe=>by have:=(hboA _ e.symm).2;(try simp only at this);omega)];assumption))
        | (go_split_ands
           refine ⟨?_,?_⟩
           . (rw [hgrow'.cell_far _ (by simp;omega) (λe=>by have:=(hboB _ e.symm).2;(try simp only at this);omega)];assumption)
           . (rw [hgrow'.cell_far _ (by simp;omega) (λe=>by have:=(hboB _ e.symm).2;(try simp only at this);omega)];assumption)))
      (first
        | ((refine PF (by rfl) (.tmp 28) (.tmp 33) 33 (by rfl) w.heap.size 136 2 16 _ Tryz.underlying33 Cz rfl qd _ va ((D9 (l.take k) N).map BU) (BU (lo,q)) rfl (by rfl) (by (repeat' first | (with_reducible assumption) | (with_reducible apply OwnL.drew) | (with_reducible apply OwnL.drewN) | (with_reducible apply OwnL.alloc) | ((with_reducible apply OwnL.own);rotate_left;(with_reducible assumption);(with_reducible assumption)) | fail)) _ (by rfl) (by (apply Blk.conv;(· (repeat' first | (with_reducible assumption) | (with_reducible apply Blk.setRow) | ((with_reducible apply Blk.farRow);rotate_left;(focus (first | (simp;done) | (simp;omega) | omega))) | (with_reducible apply Blk.drew) | (with_reducible apply Blk.drewN) | (with_reducible apply Blk.set_) | (with_reducible exact gZ _ _ _ (by first | rfl | (simp;done) | (simp;omega))) | (with_reducible apply Blk.alloc) | ((with_reducible apply Blk.far);rotate_left;(focus (first | (simp;done) | (simp;omega) | omega))) | ((with_reducible apply Blk.grew);rotate_left;(with_reducible assumption)) | ((with_reducible apply Blk.turned);rotate_left;(with_reducible assumption);(focus (first | (simp;done) | (simp;omega) | omega))) | fail));(· rfl))) rfl (by rw [HLA.out];omega) (by rw [HLA.out];omega) (by first | (simp;omega) | omega) k HLA.out ?_;intro gA cA w3 hownA hgrow hatA hltA;have hszA:=hgrow.size;try simp at hszA))
        | ((refine PF (by rfl) (.tmp 35) (.tmp 45) 33 (by rfl) w.heap.size 136 2 16 _ Tryz.underlying33 Cz rfl qd _ vb ((Gy (l.take k) N).map BU) (BU (lo+q,nn - q)) rfl (by rfl) (by (repeat' first | (with_reducible assumption) | (with_reducible apply OwnL.drew) | (with_reducible apply OwnL.drewN) | (with_reducible apply OwnL.alloc) | ((with_reducible apply OwnL.own);rotate_left;(with_reducible assumption);(with_reducible assumption)) | fail)) _ (by rfl) (by first | (apply Blk.conv;(· (repeat' first | (with_reducible assumption) | (with_reducible apply Blk.setRow) | ((with_reducible apply Blk.farRow);rotate_left;(focus (first | (simp;done) | (simp;omega) | omega))) | (with_reducible apply Blk.drew) | (with_reducible apply Blk.drewN) | (with_reducible apply Blk.set_) | (with_reducible exact gZ _ _ _ (by first | rfl | (simp;done) | (simp;omega))) | (with_reducible apply Blk.alloc) | ((with_reducible apply Blk.far);rotate_left;(focus (first | (simp;done) | (simp;omega) | omega))) | ((with_reducible apply Blk.grew);rotate_left;(with_reducible assumption)) | ((with_reducible apply Blk.turned);rotate_left;(with_reducible assumption);(focus (first | (simp;done) | (simp;omega) | omega))) | fail));(· rfl)) | exact Blk.own (by (apply Blk.conv;(· (repeat' first | (with_reducible assumption) | (with_reducible apply Blk.setRow) | ((with_reducible apply Blk.farRow);rotate_left;(focus (first | (simp;done) | (simp;omega) | omega))) | (with_reducible apply Blk.drew) | (with_reducible apply Blk.drewN) | (with_reducible apply Blk.set_) | (with_reducible exact gZ _ _ _ (by first | rfl | (simp;done) | (simp;omega))) | (with_reducible apply Blk.alloc) | ((with_reducible apply Blk.far);rotate_left;(focus (first | (simp;done) | (simp;omega) | omega))) | ((with_reducible apply Blk.grew);rotate_left;(with_reducible assumption)) | ((with_reducible apply Blk.turned);rotate_left;(with_reducible assumption);(focus (first | (simp;done) | (simp;omega) | omega))) | fail));(· rfl))) hgrow (λe=>by have:=(hboA _ e).2;(try simp only at this);omega)) rfl (by rw [HLB.out];omega) (by rw [HLB.out];omega) (by first | (simp;omega) | omega) k HLB.out ?_;intro gBq cB w4 hownB hgrow' hatB hltB)))
     all_goals
      go_wp2_with fail;go_meet
      try simp at hatB
      try simp at hatA
      have hszB:=hgrow'.size
      try simp at hszB
      have hA3:∀g,va.ownBlock=some g->g<w2.heap.size:=λg h=>by have:=(hboA g h).2;omega
      have hB3:∀g,vb.ownBlock=some g->g<w2.heap.size:=λg h=>by have:=(hboB g h).2;omega
      refine ⟨by go_num,?_,hownB,?_,?_⟩
      . exact OwnL.own (by (repeat' first | (with_reducible assumption) | (with_reducible apply OwnL.drew) | (with_reducible apply OwnL.drewN) | (with_reducible apply OwnL.alloc) | ((with_reducible apply OwnL.own);rotate_left;(with_reducible assumption);(with_reducible assumption)) | fail)) hgrow' (λg h h'=>by
         simp [Value.ownBlock] at h
         rcases hatA with h2 | h2
         . exact hdis' _ h' (h▸h2)
         . have:=hB3 _ h';omega)
      . intro g h h';simp [Value.ownBlock] at h h';subst h;subst h';rcases hatA with h2 | h2<;>rcases hatB with h3 | h3
        . exact hdis _ h2 h3
        . have:=hA3 _ h2;omega
        . have:=hB3 _ h3;omega
        . omega
      . have hg3:=Grew.own (a:=w) (by (repeat' first | (with_reducible exact gK _) | (with_reducible assumption) | (with_reducible refine Grew.alloc ?_ _) | (with_reducible refine Grew.drew ?_) | (with_reducible refine Grew.drewN ?_ _) | (with_reducible refine Grew.setRow ?_ (by first | (simp;done) | (simp;omega) | omega) _) | (with_reducible refine Grew.setCell ?_ (by first | (simp;done) | (simp;omega) | omega) _) | ((with_reducible apply Grew.trans);rotate_left;(with_reducible assumption)) | ((with_reducible apply Grew.turn);rotate_left;(with_reducible assumption);(focus (intro i hi;first | omega | (simp at hi;omega)))) | fail)) hgrow hoa.row_ge (gM _);exact Grew.own (by (repeat' first | (with_reducible exact gK _) | (with_reducible assumption) | (with_reducible refine Grew.alloc ?_ _) | (with_reducible refine Grew.drew ?_) | (with_reducible refine Grew.drewN ?_ _) | (with_reducible refine Grew.setRow ?_ (by first | (simp;done) | (simp;omega) | omega) _) | (with_reducible refine Grew.setCell ?_ (by first | (simp;done) | (simp;omega) | omega) _) | ((with_reducible apply Grew.trans);rotate_left;(with_reducible assumption)) | ((with_reducible apply Grew.turn);rotate_left;(with_reducible assumption);(focus (intro i hi;first | omega | (simp at hi;omega)))) | fail)) hgrow' hob.row_ge (gM _)
    case rest=>
     obtain ⟨rfl,hA5,hB5,hd5,hg5⟩:=hcut;have hq1:min j nn<=j:=Nat.min_le_left _ _;have hq2:min j nn<=nn:=Nat.min_le_right _ _;have HQ:=zh (show j - min j nn=j - nn from oo);have HOA:=zh (show (D9 (l.take (k+1)) N).map BU=(D9 (l.take k) N).map BU++[BU (lo,min j nn)] from by rw [HNA.out,gm];rfl);have HOB:=zh (show (Gy (l.take (k+1)) N).map BU=(Gy (l.take k) N).map BU++[BU (lo+min j nn,nn - min j nn)] from by rw [HNB.out,gm];rfl);clear hoa hob hdis hdis';generalize min j nn=q at*
     go_wp2_with fail
     go_roundg (l.length - (k+1))
     case measure=>rw [HGK.out];omega
     case rel=>
      exact ⟨k+1,j - q,_,_,rfl,rfl,oo,oo,by go_num,rfl,by rw [HSZ.out,HQ.out,HJ.out];omega,by rw [HOA.out];exact hA5,by rw [HOB.out];exact hB5,hd5,hg5⟩
  . obtain rfl:k=l.length:=oo;rw [jU] at hoa hob;have hla:=N7 l N;have hlb:=Og l N;obtain ⟨Aa,ca,hva,hra⟩:=Gx hoa (λr hr=>gY (dm _ _ r hr) oo);obtain ⟨Ab,cb,hvb,hrb⟩:=Gx hob (λr hr=>gY (dA _ _ r hr) oo);subst hva;subst hvb;go_wp2_with fail;refine (JN Aa ca (AP (D9 l N)) wr wr.heap.size (gM _) (by rw [Ag];omega) hra).mono ?_;rintro e w1 ⟨v1,rfl,ho1,g1⟩;have hrb1:=(hrb.hold g1);go_wp2_with fail;refine (JN Ab cb (AP (Gy l N)) w1 w1.heap.size (gM _) (by rw [Ag];omega) hrb1).mono ?_;rintro e w2 ⟨v2,rfl,ho2,g2⟩;have h1:=g1.size;have h2:=hg.size;go_wp2_with fail;go_ret2;exact ⟨v1,v2,rfl,(ho1.grew g2).mono oo,ho2.mono oo,hg.trans (g1.trans g2)⟩

theorem back {w w':World} {base:Nat} {v:Value} {l:List (Nat × Nat)} {k:List (Int × Int)} (hk:AP l=k) (hb:∀r∈l,r.1+r.2<=128) (a:OwnL w' base 136 2 v (l.map BU)) (hg:Grew w w'):
 ∃A c,(Ending.returned v)=.returned (.slice A k.length c)/\RunsAt w' w'.heap.size A k/\Grew w w':=by
 subst hk;obtain ⟨A',c',hv,b⟩:=Gx a (λr hr=>gY (hb r hr) oo);exact ⟨A',c',by rw [hv],b,hg⟩
section
variable {A:Option Addr} {c n:Nat} {l:List (Int × Int)} {w:World}
theorem G6 (hn:n=l.length) (hl:l.length<=1000000) (hr:RunsAt w w.heap.size A l) (s:Nat) (hs:Ao l=s):
 Calls Tryz.prog 131 #[.slice A n c] w λe w'=>e=.returned (.int .i64 (s:Int))/\Grew w w':=by
 subst hn;subst hs;exact K9 A c l w w.heap.size (gM _) hl hr
theorem KZ (hn:n=l.length) (hl:l.length<=1000000) (hr:RunsAt w w.heap.size A l) (t:Int) (t0:-9223372036854775808<=t) (t1:t<=9223372036854775807) (b:Bool) (h:inT l t=b):
 Calls Tryz.prog 206 #[.slice A n c,.int .i64 t] w λe w'=>e=.returned (.bool b)/\Grew w w':=by
 subst hn;subst h;have:=QU A c l w w.heap.size (gM _) hl hr t t0 t1;rwa [Zy] at this
theorem IB (hn:n=l.length) (hl:l.length<=1000000) (hr:RunsAt w w.heap.size A l) (b:Bool) (h:decide (BL l).Nodup=b):
 Calls Tryz.prog 61 #[.slice A n c] w λe w'=>e=.returned (.bool b)/\Grew w w':=by
 subst hn;subst h;refine (Qm A c l w w.heap.size (gM _) hl hr).mono ?_;rintro e w1 ⟨rfl,g1⟩;refine ⟨AE ?_,g1⟩;have:=ft l;rw [Bool.eq_iff_iff,jR,iV,<-this];omega
end
section
variable {A1 A2:Option Addr} {c1 c2 n1 n2:Nat} {l1 l2:List (Int × Int)} {w:World}
theorem Lo (a:n1=l1.length) (d:n2=l2.length) (f:l1.length<=1000000) (g:l2.length<=1000000) (h:RunsAt w w.heap.size A1 l1) (b:RunsAt w w.heap.size A2 l2) (k:List (Int × Int)) (hk:AP (AH λi=>AG l1 i && !AG l2 i)=k):
 Calls Tryz.prog 149 #[.slice A1 n1 c1,.slice A2 n2 c2] w λe w'=>∃A c,e=.returned (.slice A k.length c)/\RunsAt w' w'.heap.size A k/\Grew w w':=by
 subst a;subst d;refine (Ly A1 A2 c1 c2 l1 l2 w w.heap.size (gM _) f g h b).mono ?_;rintro e w1 ⟨v,rfl,j,g1⟩;exact back hk (C0 _) j g1
end

end
end Go.Proofs.YtfklieeipokllaaGreat
