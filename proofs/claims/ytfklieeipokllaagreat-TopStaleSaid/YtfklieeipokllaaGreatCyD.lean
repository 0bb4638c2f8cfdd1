/- Parts of the proof (packed), 4. -/
import Derived.WalkSpells
import Derived.WalkLawsBesides
import Derived.Handy
import Derived.Lib.Hide
import Derived.Deep.LoopGhost
import Derived.RegionTactic
import Derived.ChangeAlike
import Derived.BigQuiet
import Derived.Deep.RegionWith
import Derived.Deep.DeepCutAuto
import Derived.Deep.CutBlock
import Derived.Test.YtfklieeipokllaaGreatCyA
namespace Go.Proofs.YtfklieeipokllaaGreat
set_option linter.all false
set_option maxRecDepth 100000
set_option maxHeartbeats 16000000
open List
section
open Go.RowKit
def Ag (r:Int × Int):Nat × Nat:=
 if r.2<1\/128<=r.1 then (0,0)
 else if r.1<0 then (if r.1+r.2<=0 then (0,0) else if r.1+r.2<128 then (0,(r.1+r.2).toNat) else (0,128))
 else if r.2<128 - r.1 then (r.1.toNat,r.2.toNat) else (r.1.toNat,(128 - r.1).toNat)
theorem DF (r:Int × Int):(Ag r).1+(Ag r).2<=128:=by
 unfold Ag;repeat' split
 all_goals (simp only [];omega)
theorem Fz {a b c d:Int} (h:a=b) (h':c=d):Ending.returned (.agg #[.int .i64 a,.int .i64 c])=.returned (.agg #[.int .i64 b,.int .i64 d]):=by rw [h,h']
theorem Gx (f c:Int) (w:World) (f0:-9223372036854775808<=f) (f1:f<=9223372036854775807) (c0:-9223372036854775808<=c) (c1:c<=9223372036854775807):
 Calls Tryz.prog 176 #[.agg #[.int .i64 f,.int .i64 c]] w λe w'=>e=.returned (.agg #[.int .i64 ((Ag (f,c)).1:Int),.int .i64 ((Ag (f,c)).2:Int)])/\Grew w w':=by
 unfold Ag;simp only [];by_cases hy:c<1
 . rw [if_pos (Or.inl hy)];have hx:c<1\/1<=c:=oo
   try obtain ⟨a,hy⟩:=hy
   try obtain ⟨b,hy⟩:=hy
   try obtain ⟨d,hy⟩:=hy
   go_enter Tryz.func176,Tryz.ntmps176
   go_wp2
   all_goals
    go_returns
    exact ⟨Fz oo oo,gG⟩
 by_cases hy:¬c<1/\128<=f
 . rw [if_pos (Or.inr hy.2)];have hx:c<1\/1<=c:=oo
   try obtain ⟨a,hy⟩:=hy
   try obtain ⟨b,hy⟩:=hy
   try obtain ⟨d,hy⟩:=hy
   go_enter Tryz.func176,Tryz.ntmps176
   go_wp2
   all_goals
    go_returns
    exact ⟨Fz oo oo,gG⟩
 by_cases hy:¬c<1/\f<0/\f+c<=0
 . rw [if_neg oo,if_pos hy.2.1,if_pos hy.2.2];have hx:c<1\/1<=c:=oo
   try obtain ⟨a,hy⟩:=hy
   try obtain ⟨b,hy⟩:=hy
   try obtain ⟨d,hy⟩:=hy
   go_enter Tryz.func176,Tryz.ntmps176
   go_wp2
   all_goals
    go_returns
    exact ⟨Fz oo oo,gG⟩
 by_cases hy:¬c<1/\f<0/\0<f+c/\f+c<128
 . rw [if_neg oo,if_pos hy.2.1,if_neg oo,if_pos hy.2.2.2];have hx:c<1\/1<=c:=oo
   try obtain ⟨a,hy⟩:=hy
   try obtain ⟨b,hy⟩:=hy
   try obtain ⟨d,hy⟩:=hy
   go_enter Tryz.func176,Tryz.ntmps176
   go_wp2
   all_goals
    go_returns
    exact ⟨Fz oo oo,gG⟩
 by_cases hy:¬c<1/\f<0/\128<=f+c
 . rw [if_neg oo,if_pos hy.2.1,if_neg oo,if_neg oo];have hx:c<1\/1<=c:=oo
   try obtain ⟨a,hy⟩:=hy
   try obtain ⟨b,hy⟩:=hy
   try obtain ⟨d,hy⟩:=hy
   go_enter Tryz.func176,Tryz.ntmps176
   go_wp2
   all_goals
    go_returns
    exact ⟨Fz oo oo,gG⟩
 by_cases hy:¬c<1/\0<=f/\f<128/\c<128 - f
 . rw [if_neg oo,if_neg oo,if_pos hy.2.2.2];have hx:c<1\/1<=c:=oo
   try obtain ⟨a,hy⟩:=hy
   try obtain ⟨b,hy⟩:=hy
   try obtain ⟨d,hy⟩:=hy
   go_enter Tryz.func176,Tryz.ntmps176
   go_wp2
   all_goals
    go_returns
    exact ⟨Fz oo oo,gG⟩
 by_cases hy:¬c<1/\0<=f/\f<128/\128 - f<=c
 . rw [if_neg oo,if_neg oo,if_neg oo];have hx:c<1\/1<=c:=oo
   try obtain ⟨a,hy⟩:=hy
   try obtain ⟨b,hy⟩:=hy
   try obtain ⟨d,hy⟩:=hy
   go_enter Tryz.func176,Tryz.ntmps176
   go_wp2
   all_goals
    go_returns
    exact ⟨Fz oo oo,gG⟩
 exfalso;omega

def inS (r:Nat × Nat) (t:Nat):Bool:=decide (r.1<=t/\t<r.1+r.2)
theorem AE {a b:Bool} (h:a=b):Ending.returned (.bool a)=.returned (.bool b):=by rw [h]
theorem ZV (f c:Int) (t:Nat) (ht:t<128):inS (Ag (f,c)) t=decide ((f<0/\1<=c/\(t:Int)<f+c)\/(0<=f/\1<=c/\f<=t/\(t:Int) - f<c)):=by
 unfold inS Ag;rw [decide_eq_decide];repeat' split
 all_goals (simp only [] at*;omega)

def AG (l:List (Int × Int)) (t:Nat):Bool:=l.any λr=>inS (Ag r) t
theorem Xw (l:List (Int × Int)) (k:Nat) (h:k<l.length) (t:Nat):AG (l.take (k+1)) t=(AG (l.take k) t || inS (Ag l[k]) t):=by
 unfold AG;rw [fr h,List.any_append];simp only [any_cons,any_nil,Bool.or_false]
def seg (lo n t:Nat):Bool:=decide (lo<=t/\t<lo+n)
theorem ap (x:Bool) (lo j i:Nat):(if i=lo+j then true else (x || seg lo j i))=(x || seg lo (j+1) i):=by
 unfold seg;by_cases h:i=lo+j
 . subst h;rw [if_pos rfl,show decide (lo<=lo+j/\lo+j<lo+(j+1))=true from qs,Bool.or_true]
 . rw [if_neg h];congr 1;rw [decide_eq_decide];omega
theorem Ml (w:World):(zeroValue 216).run Tryz.prog w=.ok (.agg (Ac λ_=>false)) w:=qk
theorem Gn:(Tryz.prog.info? 216).map (·.size)=some 128:=qk
theorem UY (A:Option Addr) (c:Nat) (l:List (Int × Int)) (w:World) (B:Nat) (hB:B<=w.heap.size) (hl:l.length<=9223372036854775807) (hr:RunsAt w B A l):
 Calls Tryz.prog 129 #[.slice A l.length c] w λe w'=>e=.returned (.agg (Ac (AG l)))/\Grew w w':=by
 have HR:=zh hr;clear hr;have hz:=Ml;go_enter Tryz.func129,Tryz.ntmps129;go_wp2_with fail;clear hz
 go_loopg [9] l.length (λgk i wr=>∃k:Nat,k<=l.length/\gk=l.length - k/\i=.int .i64 k/\Blk wr w.heap.size 216 (Ac λ_=>false)/\Blk wr (w.heap.size+1) 216 (Ac (AG (l.take k)))/\Grew w wr)
 case atStart=>exact ⟨0,oo,oo,rfl,gB,gB,gG⟩
 case round=>
  obtain ⟨k,hk,p,rfl,g,a,hg⟩:=hrel;have s:=zh p;clear p;have G:=a.lt;by_cases d:k<l.length
  . obtain ⟨b,M,f,c,rfl,hb,h,⟨f0,f1,c0,c1⟩,x0,x1⟩:=(HR.keep hB hg).at_ d;simp only at f0 f1 c0 c1;have H:b<wr.heap.size:=by have:=hg.size;omega
    have HL:=zh h;have u:=DF (f,c);have HN:=zh (λt=>(Xw l k d t).trans (by rw [h]));clear h;go_wp2_with fail;refine (Gx f c _ f0 f1 c0 c1).mono ?_;rintro e w1 ⟨rfl,g1⟩;have v:=(g.alloc _).grew g1;have x:=(a.alloc _).grew g1;have y:=g1.cellEq;have z:=g1.frozenEq;have I:wr.heap.size<w1.heap.size:=by have:=g1.size;simp at this;omega
    have C:Blk w1 wr.heap.size 136 #[.int .i64 f,.int .i64 c]:=(fy wr _ _ rfl).grew g1;have J:Grew w w1:=gG;generalize hcl:Ag (f,c)=r at*;obtain ⟨lo,n⟩:=r;simp only at u;go_wp2_with fail
    go_loopg [17] n (λgk2 i wx=>∃j:Nat,j<=n/\gk2=n - j/\i=.int .i64 j/\Blk wx w.heap.size 216 (Ac λ_=>false)/\Blk wx (w.heap.size+1) 216 (Ac λt=>AG (l.take k) t || seg lo j t)/\Blk wx wr.heap.size 136 #[.int .i64 lo,.int .i64 n]/\Grew w wx)
    case atStart=>exact ⟨0,oo,oo,rfl,gB,by (apply Blk.conv;(· (repeat' first | (with_reducible assumption) | (with_reducible apply Blk.setRow) | ((with_reducible apply Blk.farRow);rotate_left;(focus (first | (simp;done) | (simp;omega) | omega))) | (with_reducible apply Blk.drew) | (with_reducible apply Blk.drewN) | (with_reducible apply Blk.set_) | (with_reducible exact fy _ _ _ (by first | rfl | (simp;done) | (simp;omega))) | (with_reducible apply Blk.alloc) | ((with_reducible apply Blk.far);rotate_left;(focus (first | (simp;done) | (simp;omega) | omega))) | ((with_reducible apply Blk.grew);rotate_left;(with_reducible assumption)) | ((with_reducible apply Blk.turned);rotate_left;(with_reducible assumption);(focus (first | (simp;done) | (simp;omega) | omega))) | fail));(· exact CW λi _=>by rw [show seg lo 0 i=false from by simp [seg],Bool.or_false])),gB,gG⟩
    case round=>
     obtain ⟨j,hj,q,rfl,E,m,o,F⟩:=hrel;have D:=zh q;clear q v x C y z;have hx:=m.lt;have K:=o.lt;have y0:=o.cell 0;have y1:=o.cell 1;by_cases L:j<n
     . have ha:=m.cell (lo+j);rw [DV _ _ oo] at ha;have hf:=m.frozen (lo+j);go_wp2_with fail
       go_roundg (n - (j+1))
       case measure=>rw [D.out];omega
       case rel=>exact ⟨j+1,oo,oo,by go_num,gB,by (apply Blk.conv;(· (repeat' first | (with_reducible assumption) | (with_reducible apply Blk.setRow) | ((with_reducible apply Blk.farRow);rotate_left;(focus (first | (simp;done) | (simp;omega) | omega))) | (with_reducible apply Blk.drew) | (with_reducible apply Blk.drewN) | (with_reducible apply Blk.set_) | (with_reducible exact fy _ _ _ (by first | rfl | (simp;done) | (simp;omega))) | (with_reducible apply Blk.alloc) | ((with_reducible apply Blk.far);rotate_left;(focus (first | (simp;done) | (simp;omega) | omega))) | ((with_reducible apply Blk.grew);rotate_left;(with_reducible assumption)) | ((with_reducible apply Blk.turned);rotate_left;(with_reducible assumption);(focus (first | (simp;done) | (simp;omega) | omega))) | fail));(· rw [FJ];exact CW λi _=>ap _ lo j i)),gB,gG⟩
     . obtain rfl:j=n:=oo;go_wp2_with fail
       go_roundg (l.length - (k+1))
       case measure=>rw [s.out];omega
       case rel=>exact ⟨k+1,oo,oo,by go_num,E,by (apply Blk.conv;(· (repeat' first | (with_reducible assumption) | (with_reducible apply Blk.setRow) | ((with_reducible apply Blk.farRow);rotate_left;(focus (first | (simp;done) | (simp;omega) | omega))) | (with_reducible apply Blk.drew) | (with_reducible apply Blk.drewN) | (with_reducible apply Blk.set_) | (with_reducible exact fy _ _ _ (by first | rfl | (simp;done) | (simp;omega))) | (with_reducible apply Blk.alloc) | ((with_reducible apply Blk.far);rotate_left;(focus (first | (simp;done) | (simp;omega) | omega))) | ((with_reducible apply Blk.grew);rotate_left;(with_reducible assumption)) | ((with_reducible apply Blk.turned);rotate_left;(with_reducible assumption);(focus (first | (simp;done) | (simp;omega) | omega))) | fail));(· exact CW λi _=>(HN i).symm)),F⟩
  . obtain rfl:k=l.length:=oo;rw [i8] at a;clear d;go_wp2_with (first | (refine Dz rfl 216 _ rfl (w.heap.size+1) rfl 216 (Ac (AG l)) _ a Tryz.underlying216 rfl (by rw [BU];exact Gn) ?_) | (refine Ae rfl 216 _ _ rfl w.heap.size (Ac (AG l)) rfl rfl 216 _ g (by rw [BU,BU]) (by rw [BU];exact Gn) (GY _) ?_));refine f7 (results_cell_row rfl _ _ _ 216 (Ac (AG l)) (0,0) _ rfl (g.setRow _) Tryz.underlying216 rfl (by rw [BU];exact Gn)) rfl ?_;exact ⟨rfl,gG⟩

def QS (l:List (Nat × Nat)):List (Nat × Nat):=l.set (l.length - 1) ((l.getD (l.length - 1) (0,0)).1,(l.getD (l.length - 1) (0,0)).2+1)
theorem Qe (l:List (Nat × Nat)) (j:Nat) (h:j<l.length):l.getD j (0,0)=l[j]:=by simp [List.getD,h]
def FE (S:Nat->Bool) (l:List (Nat × Nat)) (i:Nat):List (Nat × Nat):=if S i=false then l else if 0<i/\S (i - 1)=true then QS l else l++[(i,1)]
def BF (S:Nat->Bool):Nat->List (Nat × Nat)
 | 0=>[]
 | k+1=>FE S (BF S k) k
def AH (S:Nat->Bool):List (Nat × Nat):=BF S 128
theorem Sy (l:List (Nat × Nat)):(QS l).length=l.length:=by simp [QS]
theorem Wx (S:Nat->Bool) (l:List (Nat × Nat)) (i:Nat):(FE S l i).length<=l.length+1:=by
 unfold FE;repeat' split
 . omega
 . rw [Sy];omega
 . simp
theorem Jm (S:Nat->Bool) (k:Nat):(BF S k).length<=k:=by
 induction k with
 | zero=>simp [BF]
 | succ k ih=>have:=Wx S (BF S k) k;rw [BF];omega
theorem Mm (S:Nat->Bool) (k:Nat) (hk:0<k) (h:S (k - 1)=true):0<(BF S k).length:=by
 obtain ⟨j,rfl⟩:∃j,k=j+1:=⟨k - 1,oo⟩;have h':S j=true:=h;rw [BF,FE,if_neg (by simp [h'])];split
 . rename_i h2;have:=Mm S j h2.1 h2.2;rw [Sy];exact this
 . simp
theorem cU (l:List (Nat × Nat)) (k:Nat) (h:∀r∈l,r.1+r.2<=k):∀r∈QS l,r.1+r.2<=k+1:=by
 intro r hr;rcases gY hr with hr | rfl
 . have:=h r hr;omega
 . simp only [];by_cases hl:l.length - 1<l.length
   . have:=h (l.getD (l.length - 1) (0,0)) (by rw [Qe l _ hl];exact fq hl);omega
   . have:l=[]:=jP.1 oo;subst this;simp
theorem Gj (S:Nat->Bool) (k:Nat):∀r∈BF S k,r.1+r.2<=k:=by
 induction k with
 | zero=>intro r hr;simp [BF] at hr
 | succ k ih=>
   intro r hr;rw [BF,FE] at hr;split at hr
   . have:=ih r hr;omega
   . split at hr
     . exact cU _ k ih r hr
     . rcases gC.1 hr with hr | hr
       . have:=ih r hr;omega
       . rw [fp.1 hr];simp
def BR (r:Nat × Nat):List Value:=[.int .i64 (r.1:Int),.int .i64 (r.2:Int)]
theorem DG:(Tryz.prog.info? 136).map (λi=>(i.zero,i.size,i.bytes))=some (some (.agg #[.int .i64 0,.int .i64 0]),2,16):=qk
theorem ZO (l:List (Nat × Nat)) (j:Nat) (a b b':Nat) (h:l[j]? =some (a,b)):(l.map BR).set j ((BR (a,b)).set 1 (.int .i64 (b':Int)))=(l.set j (a,b')).map BR:=by
 rw [List.map_set];rfl
theorem SY (g:Nat) (S:Nat->Bool) (w:World) (hs:Blk w g 216 (Ac S)):
 Calls Tryz.prog 130 #[.pointer (some ⟨g,0,none⟩)] w λe w'=>∃v,e=.returned v/\OwnL w' w.heap.size 136 2 v ((AH S).map BR)/\Grew w w':=by
 have D:=hs.lt;go_enter Tryz.func130,Tryz.ntmps130;go_wp2_with fail
 go_loopg [3,7] 128 (λgk v i wr=>∃k:Nat,k<=128/\gk=128 - k/\i=.int .i64 k/\OwnL wr w.heap.size 136 2 v ((BF S k).map BR)/\Grew w wr)
 case atStart=>exact ⟨0,oo,oo,rfl,OwnL.nil _ _ _ _,gG⟩
 case round=>
  obtain ⟨k,hk,x,rfl,b,hg⟩:=hrel;have j:=zh x;clear x;have l:=hs.grew hg;by_cases A:k<128
  . have c0:=l.cell k;rw [DV _ _ A] at c0;have a:BF S (k+1)=FE S (BF S k) k:=rfl;have E:=Jm S k;have c:=Gj S k;by_cases hS:S k=true
    . rw [FE,if_neg (by simp [hS])] at a;rw [hS] at c0;by_cases hp:0<k/\S (k - 1)=true
      . rw [if_pos hp] at a;have c1:=l.cell (k - 1);rw [DV _ _ oo,hp.2] at c1;have y:=Mm S k hp.1 hp.2;have HS:=zh a;have HB:=zh c;have u:=hp.1;clear a c hS hp;rcases b.form with ⟨_,h0⟩ | ⟨gv,cap,hv,J,K,L,M⟩
        . exfalso;have:=gJ length h0;simp at this;simp [this] at y
        . subst hv
          have f:(BF S k)[(BF S k).length - 1]? =some ((BF S k).getD ((BF S k).length - 1) (0,0)):=by
           rw [Qe _ _ oo];exact fg oo
          have z:=HB.out _ (ip f);generalize hld:(BF S k).getD ((BF S k).length - 1) (0,0)=ld at*;obtain ⟨la,lb⟩:=ld;have m:((BF S k).map BR)[(BF S k).length - 1]? =some (BR (la,lb)):=by rw [fo,f];rfl
          have d1:=b.cell (i:=1) m rfl;have d0:=b.frozen (((BF S k).length - 1)*2+1);rw [fm] at*;have F:gv≠g:=by intro e;exact absurd (b.ne_blk l qd) (by simp [Value.ownBlock,e])
          have n:=b.set_ (i:=1) (o:=((BF S k).length - 1)*2+1) m oo rfl (.int .i64 ((lb+1:Nat):Int));rw [ZO _ _ la lb (lb+1) f] at n;have HL:=zh hld;have G:=zh f;have HR:=zh m;simp only at z;have HN:=zh n;clear n hld f m;generalize hq:(BF S k).length=q at*;have H:((q:Int) - 1)=((q - 1:Nat):Int):=oo;go_wp2_with fail
          go_region
          go_wp2_with fail
          go_roundg (128 - (k+1))
          case measure=>rw [j.out];omega
          case rel=>exact ⟨k+1,oo,oo,by go_num,by rw [HS.out,QS,hq,HL.out];exact HN.drew,gG⟩
      . rw [if_neg hp] at a;have HS:=zh a;have HB:=zh c
        have p:k=0\/S (k - 1)=false:=by
         by_cases h:k=0
         . exact .inl h
         . right;cases h2:S (k - 1) with
           | false=>rfl
           | true=>exact absurd ⟨oo,h2⟩ hp
        clear a c hS hp
        have hx:∃d:Value,0<k->wr.cell? ⟨g,k - 1,none⟩=some (.bool false):=⟨.bool false,λh=>by
         have c1:=l.cell (k - 1)
         rw [DV _ _ oo] at c1
         rcases p with h' | h'
         . omega
         . rw [h'] at c1;exact c1⟩
        obtain ⟨_,hx⟩:=hx;by_cases u:k=0
        . subst u;clear p hx;go_wp2_with fail
          go_region
          go_wp2_with (at_builtin;refine Cp rfl _ _ 33 rfl w.heap.size 136 2 16 _ Tryz.underlying33 DG rfl qd wr.drew _ ((BF S 0).map BR) (BR (0,1)) (by rfl) rfl rfl b.drew (by first | rfl | (simp;done)) rfl rfl (by rw [fm];omega) (by rw [fm];omega) hg.size ?_;intro v' w1 s t B C)
          go_roundg (128 - (0+1))
          case measure=>rw [j.out];omega
          case rel=>exact ⟨0+1,oo,oo,by go_num,by rw [HS.out,fz];exact s,t _ hg.drew (fk _)⟩
        . have I:=hx oo;clear p hx;go_wp2_with fail
          go_region
          go_wp2_with (at_builtin;refine Cp rfl _ _ 33 rfl w.heap.size 136 2 16 _ Tryz.underlying33 DG rfl qd wr.drew _ ((BF S k).map BR) (BR (k,1)) (by rfl) rfl rfl b.drew (by first | rfl | (simp;done)) rfl rfl (by rw [fm];omega) (by rw [fm];omega) hg.size ?_;intro v' w1 s t B C)
          go_roundg (128 - (k+1))
          case measure=>rw [j.out];omega
          case rel=>exact ⟨k+1,oo,oo,by go_num,by rw [HS.out,fz];exact s,t _ hg.drew (fk _)⟩
    . have r:S k=false:=by simpa using hS
      rw [FE,if_pos r] at a;rw [r] at c0;have HS:=zh a;have HB:=zh c;clear a c hS r;go_wp2_with fail
      go_region
      go_wp2_with fail
      go_roundg (128 - (k+1))
      case measure=>rw [j.out];omega
      case rel=>exact ⟨k+1,oo,oo,by go_num,by rw [HS.out];exact b.drew,gG⟩
  . obtain rfl:k=128:=oo;go_wp2_with fail;go_ret;exact ⟨_,rfl,b,hg⟩

def AW (l:List (Int × Int)):Nat:=(l.map λr=>(Ag r).2).sum
theorem NM (l:List (Int × Int)) (k:Nat) (h:k<l.length):AW (l.take (k+1))=AW (l.take k)+(Ag l[k]).2:=by
 unfold AW;rw [fr h,fz,List.sum_append];simp
theorem FH (l:List (Int × Int)):AW l<=128*l.length:=by
 induction l with
 | nil=>simp [AW]
 | cons r l ih=>
   have:=DF r;unfold AW at ih ⊢;simp only [map_cons,sum_cons,iY];omega
def Oa (t:Int):List (Int × Int)->Nat->Int × Bool
 | [],_=>(0,false)
 | r::l,n=>if ((Ag r).1:Int)<=t/\t<((Ag r).1:Int)+(Ag r).2 then ((n:Int)+t - (Ag r).1,true) else Oa t l (n+(Ag r).2)
def atS:List (Int × Int)->Int->Int × Bool
 | [],_=>(0,false)
 | r::l,i=>if i<((Ag r).2:Int) then ((Ag r).1+i,true) else atS l (i - (Ag r).2)
theorem Pb (l:List (Int × Int)) (k:Nat) (h:k<l.length):l.drop k=l[k]::l.drop (k+1):=iz h
theorem NE {a b:Int} {c d:Bool} (h:a=b) (h':c=d):Ending.returned (.tuple #[.int .i64 a,.bool c])=.returned (.tuple #[.int .i64 b,.bool d]):=by rw [h,h']
theorem CL {k:IntKind} {a b:Int} (h:a=b):Ending.returned (.int k a)=.returned (.int k b):=by rw [h]
theorem X6 (W:World) (a b:Int):(Instr.field 136 (.agg #[.int .i64 a,.int .i64 b]) 1).run Tryz.prog W=.ok (.int .i64 b) W:=qk
section
variable (A:Option Addr) (c:Nat) (l:List (Int × Int)) (w:World) (B:Nat) (hB:B<=w.heap.size) (hl:l.length<=1000000) (hr:RunsAt w B A l)
include hB hl hr
theorem Ki:Calls Tryz.prog 131 #[.slice A l.length c] w λe w'=>e=.returned (.int .i64 (AW l))/\Grew w w':=by
 have HR:=zh hr;clear hr;have j:=X6;go_enter Tryz.func131,Tryz.ntmps131;go_wp2_with fail
 go_loopg [3,8] l.length (λgk n i wr=>∃k:Nat,k<=l.length/\gk=l.length - k/\i=.int .i64 k/\n=.int .i64 (AW (l.take k))/\Grew w wr)
 case atStart=>exact ⟨0,oo,oo,rfl,rfl,gG⟩
 case round=>
  obtain ⟨k,hk,d,rfl,rfl,hg⟩:=hrel;have h:=zh d;clear d;have m:=FH (l.take k);have o:(l.take k).length<=1000000:=fx (length_take_le _ _) oo;by_cases a:k<l.length
  . obtain ⟨b,s,f,c,rfl,hb,g,⟨f0,f1,c0,c1⟩,x0,x1⟩:=(HR.keep hB hg).at_ a;simp only at f0 f1 c0 c1;have p:b<wr.heap.size:=by have:=hg.size;omega
    have q:=hg.size;have r:=DF (f,c);have HN:=zh ((NM l k a).trans (by rw [g]));clear g;go_wp2_with fail;refine (Gx f c _ f0 f1 c0 c1).mono ?_;rintro e w1 ⟨rfl,g1⟩;go_wp2_with fail
    go_roundg (l.length - (k+1))
    case measure=>rw [h.out];omega
    case rel=>exact ⟨k+1,oo,oo,by go_num,by rw [HN.out];go_num,gG⟩
  . obtain rfl:k=l.length:=oo;go_wp2_with fail;go_ret;exact ⟨CL (by rw [i8]),gG⟩
theorem WQ (t:Int) (t0:-9223372036854775808<=t) (t1:t<=9223372036854775807):
 Calls Tryz.prog 188 #[.slice A l.length c,.int .i64 t] w λe w'=>e=.returned (.tuple #[.int .i64 (Oa t l 0).1,.bool (Oa t l 0).2])/\Grew w w':=by
 have HR:=zh hr;clear hr;go_enter Tryz.func188,Tryz.ntmps188;go_wp2_with fail
 go_loopg [6,11] l.length (λgk m i wr=>∃k n:Nat,k<=l.length/\gk=l.length - k/\i=.int .i64 k/\m=.int .i64 n/\n<=128*k/\Oa t l 0=Oa t (l.drop k) n/\Grew w wr)
 case atStart=>exact ⟨0,0,oo,oo,rfl,rfl,oo,rfl,gG⟩
 case round=>
  obtain ⟨k,n,hk,j,rfl,rfl,hn,a,hg⟩:=hrel;have g:=zh j;clear j;by_cases h:k<l.length
  . obtain ⟨b,B,f,c,rfl,hb,o,⟨f0,f1,c0,c1⟩,x0,x1⟩:=(HR.keep hB hg).at_ h;simp only at f0 f1 c0 c1;have u:b<wr.heap.size:=by have:=hg.size;omega
    have v:=hg.size;have p:=DF (f,c);rw [Pb l k h,o,Oa] at a;have HX:=zh a;clear o a;have HC:=λW=>zh (Gx f c W f0 f1 c0 c1);generalize Ag (f,c)=r at*;obtain ⟨lo,nn⟩:=r;simp only at p;go_wp2_with fail;refine (HC _).out.mono ?_;rintro e w1 ⟨rfl,g1⟩;have x:=g1.cellEq;have y:=g1.frozenEq;have z:wr.heap.size<w1.heap.size:=by have:=g1.size;simp at this;omega
    by_cases d:(lo:Int)<=t/\t<(lo:Int)+nn
    . have HF:=zh (HX.out.trans (if_pos d));obtain ⟨s,q⟩:=d;go_wp2_with fail;go_ret2;exact ⟨NE (by rw [HF.out]) (by rw [HF.out]),gG⟩
    . have HF:=zh (HX.out.trans (if_neg d));by_cases s:(lo:Int)<=t
      . have q:(lo:Int)+nn<=t:=oo;clear d;go_wp2_with fail
        go_roundg (l.length - (k+1))
        case measure=>rw [g.out];omega
        case rel=>exact ⟨k+1,n+nn,oo,oo,by go_num,by go_num,oo,HF,gG⟩
      . clear d;go_wp2_with fail
        go_roundg (l.length - (k+1))
        case measure=>rw [g.out];omega
        case rel=>exact ⟨k+1,n+nn,oo,oo,by go_num,by go_num,oo,HF,gG⟩
  . rw [drop_eq_nil_of_le oo,Oa] at a;have HF:=zh a;clear a;go_wp2_with fail;go_ret2;exact ⟨NE (by rw [HF.out]) (by rw [HF.out]),gG⟩
theorem QF (t:Int) (t0:-9223372036854775808<=t) (t1:t<=9223372036854775807):
 Calls Tryz.prog 206 #[.slice A l.length c,.int .i64 t] w λe w'=>e=.returned (.bool (Oa t l 0).2)/\Grew w w':=by
 go_enter Tryz.func206,Tryz.ntmps206;go_wp2_with fail;refine (WQ A c l w B hB hl hr t t0 t1).mono ?_;rintro e w1 ⟨rfl,g1⟩;go_wp2_with fail;go_ret;exact ⟨rfl,g1⟩
theorem fE (t:Int) (t0:-9223372036854775808<=t) (t1:t<=9223372036854775807):
 Calls Tryz.prog 101 #[.slice A l.length c,.int .i64 t] w λe w'=>e=.returned (.tuple #[.int .i64 (if t<0 then (0,false) else atS l t).1,.bool (if t<0 then (0,false) else atS l t).2])/\Grew w w':=by
 have HR:=zh hr;clear hr;by_cases d:t<0
 . rw [if_pos d];go_enter Tryz.func101,Tryz.ntmps101;go_wp2_with fail;go_ret2;exact ⟨rfl,gG⟩
 . rw [if_neg d];go_enter Tryz.func101,Tryz.ntmps101;go_wp2_with fail
   go_loopg [1,12] l.length (λgk m i wr=>∃(k:Nat) (n:Int),k<=l.length/\gk=l.length - k/\i=.int .i64 k/\m=.int .i64 n/\0<=n/\n<=9223372036854775807/\atS l t=atS (l.drop k) n/\Grew w wr)
   case atStart=>exact ⟨0,t,oo,oo,rfl,rfl,oo,oo,rfl,gG⟩
   case round=>
    obtain ⟨k,n,hk,j,rfl,rfl,z,B,a,hg⟩:=hrel;have p:=zh j;clear j;by_cases g:k<l.length
    . obtain ⟨b,C,f,c,rfl,hb,o,⟨f0,f1,c0,c1⟩,x0,x1⟩:=(HR.keep hB hg).at_ g;simp only at f0 f1 c0 c1;have s:b<wr.heap.size:=by have:=hg.size;omega
      have u:=hg.size;have q:=DF (f,c);rw [Pb l k g,o,atS] at a;have HX:=zh a;clear o a;have HC:=λW=>zh (Gx f c W f0 f1 c0 c1);generalize Ag (f,c)=r at*;obtain ⟨lo,nn⟩:=r;simp only at q;go_wp2_with fail;refine (HC _).out.mono ?_;rintro e w1 ⟨rfl,g1⟩;have v:=g1.cellEq;have x:=g1.frozenEq;have y:wr.heap.size<w1.heap.size:=by have:=g1.size;simp at this;omega
      by_cases h:n<(nn:Int)
      . have HF:=zh (HX.out.trans (if_pos h));go_wp2_with fail;go_ret2;exact ⟨NE (by rw [HF.out]) (by rw [HF.out]),gG⟩
      . have HF:=zh (HX.out.trans (if_neg h));go_wp2_with fail
        go_roundg (l.length - (k+1))
        case measure=>rw [p.out];omega
        case rel=>exact ⟨k+1,n - nn,oo,oo,by go_num,by go_num,oo,oo,HF,gG⟩
    . rw [drop_eq_nil_of_le oo,atS] at a;have HF:=zh a;clear a;go_wp2_with fail;go_ret2;exact ⟨NE (by rw [HF.out]) (by rw [HF.out]),gG⟩
end

def AK (l:List (Nat × Nat)):List (Int × Int):=l.map λr=>((r.1:Int),(r.2:Int))
theorem AZ (l:List (Nat × Nat)):(AK l).length=l.length:=by simp [AK]
theorem Le (l:List (Nat × Nat)):(AK l).map FW=l.map BR:=by simp [AK,FW,BR]
theorem IZ {w:World} {base:Nat} {v:Value} {l:List (Nat × Nat)} (h:OwnL w base 136 2 v (l.map BR)) (hb:∀r∈l,r.1+r.2<=1000000):
 ∃A c,v=.slice A (AK l).length c/\RunsAt w w.heap.size A (AK l):=by
 obtain ⟨A,c,hv,_,_,hl⟩:=h.listAt;refine ⟨A,c,by rw [hv,fm,AZ],?_,by rw [Le];exact hl⟩;intro r hr;obtain ⟨x,hx,rfl⟩:=ft.1 hr;have:=hb x hx;unfold GN;simp only [];omega
theorem OwnL.mono {w:World} {base base' e sz:Nat} {v:Value} {rows:List (List Value)} (h:OwnL w base e sz v rows) (hb:base'<=base):OwnL w base' e sz v rows:=by
 refine ⟨h.1,h.2.1,?_⟩;rcases h.2.2 with h0 | ⟨g,cap,a,hv,hg,hr⟩
 . exact .inl h0
 . exact .inr ⟨g,cap,a,hv,oo,hr⟩
theorem UW {l1 l2:List (Int × Int)} (hl:l1.length=l2.length) (h:∀j (h1:j<l1.length) (h2:j<l2.length),l1[j]=l2[j]):l1=l2:=jY hl h
theorem Lm (A1 A2:Option Addr) (c1 c2:Nat) (l1 l2:List (Int × Int)) (w:World) (B:Nat) (hB:B<=w.heap.size) (z:l1.length<=1000000) (A:l2.length<=1000000) (g:RunsAt w B A1 l1) (l:RunsAt w B A2 l2):
 Calls Tryz.prog 165 #[.slice A1 l1.length c1,.slice A2 l2.length c2] w λe w'=>e=.returned (.bool (decide (l1=l2)))/\Grew w w':=by
 by_cases a:l1.length=l2.length
 . have HL:=zh a;have hb:((l1.length:Int) != (l2.length:Int))=false:=by rw [a];simp
   have t:=zh g;have u:=zh l;clear g l a;go_enter Tryz.func165,Tryz.ntmps165;go_wp2_with fail
   go_loopg [13] l1.length (λgk i wr=>∃k:Nat,k<=l1.length/\gk=l1.length - k/\i=.int .i64 k/\(∀j (h1:j<l1.length) (h2:j<l2.length),j<k->l1[j]=l2[j])/\Grew w wr)
   case atStart=>exact ⟨0,oo,oo,rfl,λj _ _ h=>oo,gG⟩
   case round=>
    obtain ⟨k,hk,p,rfl,q,hg⟩:=hrel;have v:=zh p;have HA:=zh q;clear p q;by_cases o:k<l1.length
    . have x:k<l2.length:=by rw [<-HL.out];exact o
      obtain ⟨b,C,f,c,rfl,D,r,-,x0,x1⟩:=(t.keep hB hg).at_ o;obtain ⟨b',E,f',c',rfl,n,s,-,y0,y1⟩:=(u.keep hB hg).at_ x;have HK:=zh r;have m:=zh s;clear r s;by_cases d:f=f'/\c=c'
      . obtain ⟨rfl,rfl⟩:=d;go_wp2_with fail
        go_quiet (fail)
        go_wp2_with fail
        go_roundg (l1.length - (k+1))
        case measure=>rw [v.out];omega
        case rel=>
         refine ⟨k+1,oo,oo,by go_num,λj h1 h2 hj=>?_,gG⟩;by_cases y:j=k
         . subst y;rw [HK.out,m.out]
         . exact HA.out j h1 h2 oo
      . have HD:=zh (show decide (l1=l2)=false from by
         rw [decide_eq_false_iff_not]
         intro h
         apply d
         have h2:l1[k]=l2[k]:=by simp only [h]
         rw [HK.out,m.out] at h2
         exact ⟨gJ Prod.fst h2,gJ Prod.snd h2⟩)
        by_cases hf:f=f'
        . subst hf;have n:(c==c')=false:=gF.2 (λh=>d ⟨rfl,h⟩);clear d;go_wp2_with fail
          go_quiet (fail)
          go_wp2_with fail;go_ret;exact ⟨AE (by rw [HD.out]),gG⟩
        . have n:(f==f')=false:=gF.2 hf;clear d;go_wp2_with fail
          go_quiet (fail)
          go_wp2_with fail;go_ret;exact ⟨AE (by rw [HD.out]),gG⟩
    . have HD:=zh (show decide (l1=l2)=true from by
       rw [gm]
       exact UW HL (λj h1 h2=>HA j h1 h2 oo))
      go_wp2_with fail;go_ret;exact ⟨AE (by rw [HD.out]),gG⟩
 . have HD:=zh (show decide (l1=l2)=false from by
    rw [decide_eq_false_iff_not];intro h;exact a (by rw [h]))
   have hb:((l1.length:Int) != (l2.length:Int))=true:=by rw [gu];omega
   clear a;go_enter Tryz.func165,Tryz.ntmps165;go_wp2_with fail;go_ret;exact ⟨AE (by rw [HD.out]),gG⟩
theorem Jv (A:Option Addr) (c:Nat) (l:List (Int × Int)) (w:World) (B:Nat) (hB:B<=w.heap.size) (hl:l.length<=1000000) (hr:RunsAt w B A l):
 Calls Tryz.prog 60 #[.slice A l.length c] w λe w'=>∃v,e=.returned v/\OwnL w' w.heap.size 136 2 v ((AH (AG l)).map BR)/\Grew w w':=by
 have hz:=Ml;go_enter Tryz.func60,Tryz.ntmps60;go_wp2_with fail;refine (UY A c l w B hB oo hr).mono ?_;rintro e w1 ⟨rfl,g1⟩;have hb:=fy w1 216 (Ac λ_=>false) rfl;go_wp2_with (refine Ae rfl 216 _ _ rfl w1.heap.size (Ac (AG l)) rfl rfl 216 _ hb (by rw [BU,BU]) (by rw [BU];exact Gn) (GY _) ?_);refine (SY w1.heap.size (AG l) _ (hb.setRow _)).mono ?_;rintro e w2 ⟨v,rfl,a,g2⟩;have b:w.heap.size<=w1.heap.size:=g1.size;go_wp2_with fail;go_ret;exact ⟨v,rfl,a.mono (by simp [World.setRow];omega),gG⟩

theorem MT (b:Bool) (w:World):Calls Tryz.prog 233 #[.bool b] w λe w'=>e=.returned (.int .i64 (if b then 1 else 0))/\w=w':=by
 cases b
 all_goals
  go_enter Tryz.func233,Tryz.ntmps233
  go_wp2
  go_ret;exact ⟨rfl,rfl⟩
theorem KX (k i:Nat) (r:Bool) (F:Nat->Bool) (h:F k=r):(if i=k then r else if i<k then F i else false)=(if i<k+1 then F i else false):=by
 by_cases hi:i=k
 . subst hi;rw [if_pos rfl,if_pos oo,h]
 . rw [if_neg hi];by_cases hk:i<k
   . rw [if_pos hk,if_pos oo]
   . rw [if_neg hk,if_neg oo]
def tbS (t:Bool × Bool × Bool × Bool) (x y:Bool):Bool:=if x then (if y then t.2.2.2 else t.2.2.1) else (if y then t.2.1 else t.1)
theorem dW (A1 A2:Option Addr) (c1 c2:Nat) (l1 l2:List (Int × Int)) (t:Bool × Bool × Bool × Bool) (w:World) (B:Nat) (hB:B<=w.heap.size) (hl1:l1.length<=1000000) (hl2:l2.length<=1000000) (hr1:RunsAt w B A1 l1) (hr2:RunsAt w B A2 l2):
 Calls Tryz.prog 203 #[.slice A1 l1.length c1,.slice A2 l2.length c2,.agg #[.bool t.1,.bool t.2.1,.bool t.2.2.1,.bool t.2.2.2]] w λe w'=>∃v,e=.returned v/\OwnL w' w.heap.size 136 2 v ((AH λi=>tbS t (AG l1 i) (AG l2 i)).map BR)/\Grew w w':=by
 have hz:=Ml;obtain ⟨t0,t1,t2,t3⟩:=t;go_enter Tryz.func203,Tryz.ntmps203;go_wp2_with fail;refine (UY A1 c1 l1 _ B (by simp;omega) oo (hr1.keep hB (gG))).mono ?_;rintro e w1 ⟨rfl,g1⟩;have hg1:Grew w w1:=gG;have ht1:Blk w1 w.heap.size 285 #[.bool t0,.bool t1,.bool t2,.bool t3]:=(fy w _ _ rfl).grew g1;clear g1;go_wp2_with fail;refine (UY A2 c2 l2 w1 B (fx hB hg1.size) oo (hr2.keep hB hg1)).mono ?_;rintro e w2 ⟨rfl,g2⟩;have hg2:Grew w w2:=hg1.trans g2;have ht2:=ht1.grew g2;have hws:=hg2.size;clear hg1 ht1 g2;have hbx:Blk ((w2.alloc (.cells (Ac λ_=>false) 216)).alloc (.cells (Ac λ_=>false) 216)) w2.heap.size 216 (Ac λ_=>false):=gB;have hby:Blk (((w2.alloc (.cells (Ac λ_=>false) 216)).alloc (.cells (Ac λ_=>false) 216)).setRow w2.heap.size (Ac (AG l1))) (w2.heap.size+1) 216 (Ac λ_=>false):=gB;go_wp2_with (first | (refine Ae rfl 216 _ _ rfl w2.heap.size (Ac (AG l1)) rfl rfl 216 _ hbx (by rw [BU,BU]) (by rw [BU];exact Gn) (GY _) ?_) | (refine Ae rfl 216 _ _ rfl (w2.heap.size+1) (Ac (AG l2)) rfl rfl 216 _ hby (by rw [BU,BU]) (by rw [BU];exact Gn) (GY _) ?_));have htx:=((((ht2.alloc (.cells (Ac λ_=>false) 216)).alloc (.cells (Ac λ_=>false) 216)).farRow (g':=w2.heap.size) (by have:=ht2.lt;omega) (Ac (AG l1))).farRow (g':=w2.heap.size+1) (by have:=ht2.lt;omega) (Ac (AG l2))).alloc (.cells (Ac λ_=>false) 216);have hgx:w.heap.size<w2.heap.size:=ht2.lt
 go_loopg [16] 128 (λgk i wr=>∃k:Nat,k<=128/\gk=128 - k/\i=.int .i64 k/\Blk wr w.heap.size 285 #[.bool t0,.bool t1,.bool t2,.bool t3]/\Blk wr w2.heap.size 216 (Ac (AG l1))/\Blk wr (w2.heap.size+1) 216 (Ac (AG l2))/\Blk wr (w2.heap.size+1+1) 216 (Ac λi=>if i<k then tbS (t0,t1,t2,t3) (AG l1 i) (AG l2 i) else false)/\Grew w wr)
 case atStart=>exact ⟨0,oo,oo,rfl,htx,gB,gB,gB,gG⟩
 case round=>
  clear htx hbx hby ht2 hg2;obtain ⟨k,hk,hgk,rfl,hbt,hbx,hby,hbs,hg⟩:=hrel;have HGK:=zh hgk;clear hgk;have hzs:=hbs.lt;by_cases hlt:k<128
  . have cx:=hbx.cell k;rw [DV _ _ hlt] at cx;have cy:=hby.cell k;rw [DV _ _ hlt] at cy;have cs:=hbs.cell k;rw [DV _ _ hlt] at cs;have fs:=hbs.frozen k;have q0:=hbt.cell 0;have q1:=hbt.cell 1;have q2:=hbt.cell 2;have q3:=hbt.cell 3;have hn1:¬w.heap.size=w2.heap.size+1+1:=oo;have hn2:¬w2.heap.size+1+1=w.heap.size:=oo;have hks:∀v,(wr.setCell ⟨w2.heap.size+1+1,k,none⟩ v).cell? ⟨w2.heap.size,k,none⟩=wr.cell? ⟨w2.heap.size,k,none⟩:=λv=>World.cell?_setCell_other _ _ _ _ (λe=>by injection e;omega);have hkn:(0:Int)<=(k:Int):=oo;have hkn2:(k:Int)<128:=oo;rcases hX:AG l1 k with _ | _<;>rcases hY:AG l2 k with _ | _
    . rw [hX] at cx;rw [hY] at cy;have HX:=zh hX;have HY:=zh hY;clear hX hY;go_wp2_with fail
      go_region_held3 (λw'=>w'.cell? ⟨w2.heap.size,k,none⟩=some (.bool false)/\w'.cell? ⟨w2.heap.size+1,k,none⟩=some (.bool false)/\w'.cell? ⟨w.heap.size,0,none⟩=some (.bool t0)/\w'.cell? ⟨w.heap.size,1,none⟩=some (.bool t1)/\w'.cell? ⟨w.heap.size,2,none⟩=some (.bool t2)/\w'.cell? ⟨w.heap.size,3,none⟩=some (.bool t3)) (go_keep) (first | (go_at_call 233;refine (MT _ _).mono ?_;rintro e w' ⟨rfl,rfl⟩))
      go_wp2_with fail
      go_roundg (128 - (k+1))
      case measure=>rw [HGK.out];omega
      case rel=>exact ⟨k+1,oo,oo,by go_num,gB,gB,gB,by (apply Blk.conv;(· (repeat' first | (with_reducible assumption) | (with_reducible apply Blk.setRow) | ((with_reducible apply Blk.farRow);rotate_left;(focus (first | (simp;done) | (simp;omega) | omega))) | (with_reducible apply Blk.drew) | (with_reducible apply Blk.drewN) | (with_reducible apply Blk.set_) | (with_reducible exact fy _ _ _ (by first | rfl | (simp;done) | (simp;omega))) | (with_reducible apply Blk.alloc) | ((with_reducible apply Blk.far);rotate_left;(focus (first | (simp;done) | (simp;omega) | omega))) | ((with_reducible apply Blk.grew);rotate_left;(with_reducible assumption)) | ((with_reducible apply Blk.turned);rotate_left;(with_reducible assumption);(focus (first | (simp;done) | (simp;omega) | omega))) | fail));(· rw [FJ];exact CW λi _=>KX k i t0 (λi=>tbS (t0,t1,t2,t3) (AG l1 i) (AG l2 i)) (by show tbS _ (AG l1 k) (AG l2 k)=_;rw [HX.out,HY.out];rfl))),gG⟩
    . rw [hX] at cx;rw [hY] at cy;have HX:=zh hX;have HY:=zh hY;clear hX hY;go_wp2_with fail
      go_region_held3 (λw'=>w'.cell? ⟨w2.heap.size,k,none⟩=some (.bool false)/\w'.cell? ⟨w2.heap.size+1,k,none⟩=some (.bool true)/\w'.cell? ⟨w.heap.size,0,none⟩=some (.bool t0)/\w'.cell? ⟨w.heap.size,1,none⟩=some (.bool t1)/\w'.cell? ⟨w.heap.size,2,none⟩=some (.bool t2)/\w'.cell? ⟨w.heap.size,3,none⟩=some (.bool t3)) (go_keep) (first | (go_at_call 233;refine (MT _ _).mono ?_;rintro e w' ⟨rfl,rfl⟩))
      go_wp2_with fail
      go_roundg (128 - (k+1))
      case measure=>rw [HGK.out];omega
      case rel=>exact ⟨k+1,oo,oo,by go_num,gB,gB,gB,by (apply Blk.conv;(· (repeat' first | (with_reducible assumption) | (with_reducible apply Blk.setRow) | ((with_reducible apply Blk.farRow);rotate_left;(focus (first | (simp;done) | (simp;omega) | omega))) | (with_reducible apply Blk.drew) | (with_reducible apply Blk.drewN) | (with_reducible apply Blk.set_) | (with_reducible exact fy _ _ _ (by first | rfl | (simp;done) | (simp;omega))) | (with_reducible apply Blk.alloc) | ((with_reducible apply Blk.far);rotate_left;(focus (first | (simp;done) | (simp;omega) | omega))) | ((with_reducible apply Blk.grew);rotate_left;(with_reducible assumption)) | ((with_reducible apply Blk.turned);rotate_left;(with_reducible assumption);(focus (first | (simp;done) | (simp;omega) | omega))) | fail));(· rw [FJ];exact CW λi _=>KX k i t1 (λi=>tbS (t0,t1,t2,t3) (AG l1 i) (AG l2 i)) (by show tbS _ (AG l1 k) (AG l2 k)=_;rw [HX.out,HY.out];rfl))),gG⟩
    . rw [hX] at cx;rw [hY] at cy;have HX:=zh hX;have HY:=zh hY;clear hX hY;go_wp2_with fail
      go_region_held3 (λw'=>w'.cell? ⟨w2.heap.size,k,none⟩=some (.bool true)/\w'.cell? ⟨w2.heap.size+1,k,none⟩=some (.bool false)/\w'.cell? ⟨w.heap.size,0,none⟩=some (.bool t0)/\w'.cell? ⟨w.heap.size,1,none⟩=some (.bool t1)/\w'.cell? ⟨w.heap.size,2,none⟩=some (.bool t2)/\w'.cell? ⟨w.heap.size,3,none⟩=some (.bool t3)) (go_keep) (first | (go_at_call 233;refine (MT _ _).mono ?_;rintro e w' ⟨rfl,rfl⟩))
      go_wp2_with fail
      go_roundg (128 - (k+1))
      case measure=>rw [HGK.out];omega
      case rel=>exact ⟨k+1,oo,oo,by go_num,gB,gB,gB,by (apply Blk.conv;(· (repeat' first | (with_reducible assumption) | (with_reducible apply Blk.setRow) | ((with_reducible apply Blk.farRow);rotate_left;(focus (first | (simp;done) | (simp;omega) | omega))) | (with_reducible apply Blk.drew) | (with_reducible apply Blk.drewN) | (with_reducible apply Blk.set_) | (with_reducible exact fy _ _ _ (by first | rfl | (simp;done) | (simp;omega))) | (with_reducible apply Blk.alloc) | ((with_reducible apply Blk.far);rotate_left;(focus (first | (simp;done) | (simp;omega) | omega))) | ((with_reducible apply Blk.grew);rotate_left;(with_reducible assumption)) | ((with_reducible apply Blk.turned);rotate_left;(with_reducible assumption);(focus (first | (simp;done) | (simp;omega) | omega))) | fail));(· rw [FJ];exact CW λi _=>KX k i t2 (λi=>tbS (t0,t1,t2,t3) (AG l1 i) (AG l2 i)) (by show tbS _ (AG l1 k) (AG l2 k)=_;rw [HX.out,HY.out];rfl))),gG⟩
    . rw [hX] at cx;rw [hY] at cy;have HX:=zh hX;have HY:=zh hY;clear hX hY;go_wp2_with fail
      go_region_held3 (λw'=>w'.cell? ⟨w2.heap.size,k,none⟩=some (.bool true)/\w'.cell? ⟨w2.heap.size+1,k,none⟩=some (.bool true)/\w'.cell? ⟨w.heap.size,0,none⟩=some (.bool t0)/\w'.cell? ⟨w.heap.size,1,none⟩=some (.bool t1)/\w'.cell? ⟨w.heap.size,2,none⟩=some (.bool t2)/\w'.cell? ⟨w.heap.size,3,none⟩=some (.bool t3)) (go_keep) (first | (go_at_call 233;refine (MT _ _).mono ?_;rintro e w' ⟨rfl,rfl⟩))
      go_wp2_with fail
      go_roundg (128 - (k+1))
      case measure=>rw [HGK.out];omega
      case rel=>exact ⟨k+1,oo,oo,by go_num,gB,gB,gB,by (apply Blk.conv;(· (repeat' first | (with_reducible assumption) | (with_reducible apply Blk.setRow) | ((with_reducible apply Blk.farRow);rotate_left;(focus (first | (simp;done) | (simp;omega) | omega))) | (with_reducible apply Blk.drew) | (with_reducible apply Blk.drewN) | (with_reducible apply Blk.set_) | (with_reducible exact fy _ _ _ (by first | rfl | (simp;done) | (simp;omega))) | (with_reducible apply Blk.alloc) | ((with_reducible apply Blk.far);rotate_left;(focus (first | (simp;done) | (simp;omega) | omega))) | ((with_reducible apply Blk.grew);rotate_left;(with_reducible assumption)) | ((with_reducible apply Blk.turned);rotate_left;(with_reducible assumption);(focus (first | (simp;done) | (simp;omega) | omega))) | fail));(· rw [FJ];exact CW λi _=>KX k i t3 (λi=>tbS (t0,t1,t2,t3) (AG l1 i) (AG l2 i)) (by show tbS _ (AG l1 k) (AG l2 k)=_;rw [HX.out,HY.out];rfl))),gG⟩
  . obtain rfl:k=128:=oo;have hbs':Blk wr (w2.heap.size+1+1) 216 (Ac λi=>tbS (t0,t1,t2,t3) (AG l1 i) (AG l2 i)):=by (apply Blk.conv;(· (repeat' first | (with_reducible assumption) | (with_reducible apply Blk.setRow) | ((with_reducible apply Blk.farRow);rotate_left;(focus (first | (simp;done) | (simp;omega) | omega))) | (with_reducible apply Blk.drew) | (with_reducible apply Blk.drewN) | (with_reducible apply Blk.set_) | (with_reducible exact fy _ _ _ (by first | rfl | (simp;done) | (simp;omega))) | (with_reducible apply Blk.alloc) | ((with_reducible apply Blk.far);rotate_left;(focus (first | (simp;done) | (simp;omega) | omega))) | ((with_reducible apply Blk.grew);rotate_left;(with_reducible assumption)) | ((with_reducible apply Blk.turned);rotate_left;(with_reducible assumption);(focus (first | (simp;done) | (simp;omega) | omega))) | fail));(· exact CW λi hi=>if_pos hi))
    go_wp2_with fail;refine (SY (w2.heap.size+1+1) _ wr hbs').mono ?_;rintro e w3 ⟨v,rfl,hown,g3⟩;go_wp2_with fail;go_ret;exact ⟨v,rfl,hown.mono hg.size,gG⟩
theorem LV (A1 A2:Option Addr) (c1 c2:Nat) (l1 l2:List (Int × Int)) (w:World) (B:Nat) (hB:B<=w.heap.size) (a:l1.length<=1000000) (c:l2.length<=1000000) (b:RunsAt w B A1 l1) (d:RunsAt w B A2 l2):
 Calls Tryz.prog 149 #[.slice A1 l1.length c1,.slice A2 l2.length c2] w λe w'=>∃v,e=.returned v/\OwnL w' w.heap.size 136 2 v ((AH λi=>AG l1 i && !AG l2 i).map BR)/\Grew w w':=by
 have hC:=dW A1 A2 c1 c2 l1 l2 (false,false,true,false) w B hB a c b d
 have hf:(λi=>tbS (false,false,true,false) (AG l1 i) (AG l2 i))=λi=>AG l1 i && !AG l2 i:=by
  funext i;cases AG l1 i<;>cases AG l2 i<;>rfl
 rw [hf] at hC;have HC:=zh hC;clear hC;go_enter Tryz.func149,Tryz.ntmps149;go_wp2_with fail;refine HC.mono ?_;rintro e w1 ⟨v,rfl,f,g1⟩;go_wp2_with fail;go_ret;exact ⟨v,rfl,f,g1⟩

def inT (l:List (Int × Int)) (t:Int):Bool:=l.any λr=>decide (((Ag r).1:Int)<=t/\t<((Ag r).1:Int)+(Ag r).2)
theorem Vg (l:List (Int × Int)) (i:Nat):inT l i=AG l i:=by
 unfold inT AG;congr 1;funext r;unfold inS;rw [decide_eq_decide];omega
theorem Y0 (t:Int) (l:List (Int × Int)):∀n,(Oa t l n).2=inT l t:=by
 induction l with
 | nil=>intro n;rfl
 | cons r l ih=>
   intro n;rw [Oa];unfold inT;rw [any_cons];split
   . rename_i h;simp [h]
   . rename_i h;rw [ih];simp [h,inT]
section
variable (A:Option Addr) (c:Nat) (l:List (Int × Int)) (w:World) (B:Nat) (hB:B<=w.heap.size) (hl:l.length<=1000000) (hr:RunsAt w B A l)
include hB hl hr
theorem Qd:Calls Tryz.prog 61 #[.slice A l.length c] w λe w'=>e=.returned (.bool ((AW l:Int)==(AW (AK (AH (AG l))):Int)))/\Grew w w':=by
 go_enter Tryz.func61,Tryz.ntmps61;go_wp2_with fail;refine (Ki A c l w B hB hl hr).mono ?_;rintro e w1 ⟨rfl,g1⟩;go_wp2_with fail;refine (Jv A c l w1 B (fx hB g1.size) hl (hr.keep hB g1)).mono ?_;rintro e w2 ⟨v,rfl,a,g2⟩;obtain ⟨A',c',hv,b⟩:=IZ a (λr hr=>fx (Gj _ _ r hr) oo);subst hv;have d:(AH (AG l)).length<=128:=Jm _ _;go_wp2_with fail;refine (Ki A' c' _ w2 w2.heap.size (fk _) (by rw [AZ];omega) b).mono ?_;rintro e w3 ⟨rfl,g3⟩;go_wp2_with fail;go_ret;exact ⟨rfl,g1.trans (g2.trans g3)⟩
end

theorem QG {S T:Nat->Bool}:∀k,(∀i,i<k->S i=T i)->BF S k=BF T k:=by
 intro k
 induction k with
 | zero=>intro _;rfl
 | succ k ih=>
   intro h;rw [BF,BF,ih (λi hi=>h i oo),FE,FE,h k oo];by_cases hk:0<k
   . rw [h (k - 1) oo]
   . have e1:¬(0<k/\S (k - 1)=true):=λh=>hk h.1;have e2:¬(0<k/\T (k - 1)=true):=λh=>hk h.1;rw [if_neg e1,if_neg e2]

def CM (acc:List (Nat × Nat)) (r:Nat × Nat):List (Nat × Nat):=
 if r.2=0 then acc
 else if acc≠[]/\(acc.getD (acc.length - 1) (0,0)).1+(acc.getD (acc.length - 1) (0,0)).2=r.1 then acc.set (acc.length - 1) ((acc.getD (acc.length - 1) (0,0)).1,(acc.getD (acc.length - 1) (0,0)).2+r.2)
 else acc++[r]
def Bb (l:List (Int × Int)):List (Nat × Nat):=l.foldl (λacc x=>CM acc (Ag x)) []
theorem UX (l:List (Int × Int)) (k:Nat) (h:k<l.length):Bb (l.take (k+1))=CM (Bb (l.take k)) (Ag l[k]):=by
 unfold Bb;rw [fr h,iV];rfl
theorem XV (a:List (Nat × Nat)) (r:Nat × Nat):(CM a r).length<=a.length+1:=by
 unfold CM;repeat' split
 . omega
 . rw [length_set];omega
 . simp
theorem Z4 (a:List (Nat × Nat)) (r:Nat × Nat) (h:∀x∈a,x.1+x.2<=128) (hr:r.1+r.2<=128):∀x∈CM a r,x.1+x.2<=128:=by
 intro x hx;unfold CM at hx;split at hx
 . exact h x hx
 . split at hx
   . rename_i hj;rcases gY hx with hx | rfl
     . exact h x hx
     . simp only [];omega
   . rcases gC.1 hx with hx | hx
     . exact h x hx
     . rw [fp.1 hx];exact hr
theorem PR (l:List (Int × Int)):∀acc:List (Nat × Nat),(∀x∈acc,x.1+x.2<=128)->(∀x∈l.foldl (λacc x=>CM acc (Ag x)) acc,x.1+x.2<=128)/\(l.foldl (λacc x=>CM acc (Ag x)) acc).length<=acc.length+l.length:=by
 induction l with
 | nil=>intro acc h;exact ⟨h,qs⟩
 | cons r l ih=>
   intro acc h;have h1:=ih (CM acc (Ag r)) (Z4 acc _ h (DF r));have h2:=XV acc (Ag r);refine ⟨h1.1,?_⟩;have:=h1.2;simp only [foldl_cons,iY];omega
theorem DE (l:List (Int × Int)):∀x∈Bb l,x.1+x.2<=128:=(PR l [] qs).1
theorem DJ (l:List (Int × Int)):(Bb l).length<=l.length:=by have:=(PR l [] qs).2;rw [length_nil,jM] at this;exact this
theorem PI (l:List (Nat × Nat)) (j:Nat) (a b b':Nat):(l.map BR).set j ((BR (a,b)).set 1 (.int .i64 (b':Int)))=(l.set j (a,b')).map BR:=by
 rw [List.map_set];rfl
theorem It (A:Option Addr) (c:Nat) (l:List (Int × Int)) (w:World) (B:Nat) (hB:B<=w.heap.size) (hl:l.length<=1000000) (hr:RunsAt w B A l):
 Calls Tryz.prog 147 #[.slice A l.length c] w λe w'=>∃v,e=.returned v/\OwnL w' w.heap.size 136 2 v ((Bb l).map BR)/\Grew w w':=by
 have HR:=zh hr;clear hr;go_enter Tryz.func147,Tryz.ntmps147;go_wp2_with fail
 go_loopg [3,9] l.length (λgk v i wr=>∃k:Nat,k<=l.length/\gk=l.length - k/\i=.int .i64 k/\OwnL wr w.heap.size 136 2 v ((Bb (l.take k)).map BR)/\Grew w wr)
 case atStart=>exact ⟨0,oo,oo,rfl,OwnL.nil _ _ _ _,gG⟩
 case round=>
  obtain ⟨k,hk,J,rfl,j,hg⟩:=hrel;have s:=zh J;clear J;by_cases I:k<l.length
  . obtain ⟨b,av,f,c,rfl,hb,K,⟨f0,f1,c0,c1⟩,x0,x1⟩:=(HR.keep hB hg).at_ I;simp only at f0 f1 c0 c1;have X:b<wr.heap.size:=by have:=hg.size;omega
    have Y:=hg.size;have L:=DF (f,c);have y:=UX l k I;rw [K] at y;have HN:=zh y;have Z:=DJ (l.take k);have aa:(l.take k).length<=1000000:=fx (length_take_le _ _) oo;have HJ:=zh (DE (l.take k));clear K y;have HC:=λW=>zh (Gx f c W f0 f1 c0 c1);generalize Ag (f,c)=r at*;obtain ⟨lo,n⟩:=r;generalize Bb (l.take k)=acc at*;simp only at L;obtain ⟨Av,cv,hv,V,a0,-⟩:=j.listAt;rw [fm] at hv V;subst hv;have ad:acc.length<=1000000:=oo;by_cases u:acc=[]
    . subst u;have t:(Value.slice Av ([]:List (Nat × Nat)).length cv).ownBlock≠some wr.heap.size:=λh=>by have:=(j.own_ge h).2;omega
      go_wp2_with fail;refine (HC _).out.mono ?_;rintro e w1 ⟨rfl,g1⟩;have M:wr.heap.size<w1.heap.size:=by have:=g1.size;simp at this;omega
      have a:Blk w1 wr.heap.size 136 #[.int .i64 f,.int .i64 c]:=(fy wr _ _ rfl).grew g1;have z:=(j.alloc (.cells #[.int .i64 f,.int .i64 c] 136)).grew g1;have N:Grew w w1:=gG;have r0:=a.cell 0;have r1:=a.cell 1;have O:=a.frozen 0;have P:=a.frozen 1;clear g1;have d:=(z.far (p:=⟨wr.heap.size,0,none⟩) t (.int .i64 (lo:Int))).far (p:=⟨wr.heap.size,1,none⟩) t (.int .i64 (n:Int));have m:Grew w ((w1.setCell ⟨wr.heap.size,0,none⟩ (.int .i64 (lo:Int))).setCell ⟨wr.heap.size,1,none⟩ (.int .i64 (n:Int))):=gG;by_cases hn:n=0
      . have C:((n:Int)==0)=true:=iy.2 oo;have HF:=zh (HN.out.trans (by rw [CM,if_pos (by simp [hn])]));clear hn;go_wp2_with fail
        go_roundg (l.length - (k+1))
        case measure=>rw [s.out];omega
        case rel=>exact ⟨k+1,oo,oo,by go_num,by rw [HF.out];exact d,m⟩
      . have C:((n:Int)==0)=false:=gF.2 oo;have HF:=zh (HN.out.trans (show CM [] (lo,n)=[]++[(lo,n)] by rw [CM,if_neg (by simpa using hn),if_neg (λh=>h.1 rfl)]));clear hn;go_wp2_with fail
        go_quiet (fail)
        go_wp2_with (at_builtin;refine Cp rfl _ _ 33 rfl w.heap.size 136 2 16 _ Tryz.underlying33 DG rfl qd (((w1.setCell ⟨wr.heap.size,0,none⟩ (.int .i64 (lo:Int))).setCell ⟨wr.heap.size,1,none⟩ (.int .i64 (n:Int))).drewN nq) _ (([]:List (Nat × Nat)).map BR) (BR (lo,n)) (by rfl) rfl rfl (d.drewN nq) (by first | rfl | (simp;done)) rfl rfl qs qs m.size ?_;intro v' w3 G H T U)
        go_roundg (l.length - (k+1))
        case measure=>rw [s.out];omega
        case rel=>exact ⟨k+1,oo,oo,by go_num,by rw [HF.out,fz];exact G,H _ (m.drewN nq) (fk _)⟩
    . have ae:0<acc.length:=length_pos_iff.2 u;rcases j.form with ⟨_,h0⟩ | ⟨gv,cap,hv,a1,a2,_,_⟩
      . exfalso;have:=gJ length h0;simp at this;exact u this
      . injection hv with hv1 hv2 hv3;subst hv1;clear hv2 hv3
        have x:acc[acc.length - 1]? =some (acc.getD (acc.length - 1) (0,0)):=by
         rw [Qe _ _ oo];exact fg oo
        have Q:=HJ.out _ (ip x)
        have g:n≠0->CM acc (lo,n)=if (acc.getD (acc.length - 1) (0,0)).1+(acc.getD (acc.length - 1) (0,0)).2=lo then acc.set (acc.length - 1) ((acc.getD (acc.length - 1) (0,0)).1,(acc.getD (acc.length - 1) (0,0)).2+n) else acc++[(lo,n)]:=by
         intro hn;rw [CM,if_neg (by simpa using hn)];by_cases h:(acc.getD (acc.length - 1) (0,0)).1+(acc.getD (acc.length - 1) (0,0)).2=lo
         . rw [if_pos ⟨u,h⟩,if_pos h]
         . rw [if_neg (λh'=>h h'.2),if_neg h]
        generalize acc.getD (acc.length - 1) (0,0)=ld at*;obtain ⟨la,lb⟩:=ld;simp only at Q g;have D:(acc.map BR)[acc.length - 1]? =some (BR (la,lb)):=by rw [fo,x];rfl
        generalize hq:acc.length=q at*;obtain ⟨p,rfl⟩:∃p,q=p+1:=⟨q - 1,oo⟩;rw [Nat.add_sub_cancel] at D g x;have E:=zh D;have R:=zh g;have HQ:=zh hq;clear hq x D g u;have t:(Value.slice (some ⟨gv,0,none⟩) (p+1) cv).ownBlock≠some wr.heap.size:=λh=>by have:=(j.own_ge h).2;omega
        go_wp2_with fail;refine (HC _).out.mono ?_;rintro e w1 ⟨rfl,g1⟩;have M:wr.heap.size<w1.heap.size:=by have:=g1.size;simp at this;omega
        have a:Blk w1 wr.heap.size 136 #[.int .i64 f,.int .i64 c]:=(fy wr _ _ rfl).grew g1;have z:=(j.alloc (.cells #[.int .i64 f,.int .i64 c] 136)).grew g1;have N:Grew w w1:=gG;have r0:=a.cell 0;have r1:=a.cell 1;have O:=a.frozen 0;have P:=a.frozen 1;clear g1;have d:=(z.far (p:=⟨wr.heap.size,0,none⟩) t (.int .i64 (lo:Int))).far (p:=⟨wr.heap.size,1,none⟩) t (.int .i64 (n:Int));have m:Grew w ((w1.setCell ⟨wr.heap.size,0,none⟩ (.int .i64 (lo:Int))).setCell ⟨wr.heap.size,1,none⟩ (.int .i64 (n:Int))):=gG;by_cases hn:n=0
        . have C:((n:Int)==0)=true:=iy.2 oo;have HF:=zh (HN.out.trans (by rw [CM,if_pos (by simp [hn])]));clear hn;go_wp2_with fail
          go_roundg (l.length - (k+1))
          case measure=>rw [s.out];omega
          case rel=>exact ⟨k+1,oo,oo,by go_num,by rw [HF.out];exact d,m⟩
        . have C:((n:Int)==0)=false:=gF.2 oo;have g:=R.out hn;have d0:=d.cell (i:=0) E rfl;have d1:=d.cell (i:=1) E rfl;have df:=d.frozen (p*2+1);rw [ik] at d0;have F:=d.set_ (i:=1) (o:=p*2+1) E oo rfl (.int .i64 ((lb+n:Nat):Int));rw [PI] at F;have HS:=zh F;clear F hn;have aj:decide ((0:Int)<=(p:Int))=true:=qs;have al:¬gv=wr.heap.size:=oo;have an:¬wr.heap.size=gv:=oo;by_cases hj:la+lb=lo
          . have HF:=zh (HN.out.trans (g.trans (if_pos hj)));have S:(((la:Int)+(lb:Int))==(lo:Int))=true:=iy.2 oo;clear g hj;go_wp2_with fail
            go_quiet (fail)
            go_wp2_with fail
            go_region
            go_wp2_with fail
            go_roundg (l.length - (k+1))
            case measure=>rw [s.out];omega
            case rel=>exact ⟨k+1,oo,oo,by go_num,by rw [HF.out];exact HS.out,gG⟩
          . have HF:=zh (HN.out.trans (g.trans (if_neg hj)));have S:(((la:Int)+(lb:Int))==(lo:Int))=false:=gF.2 oo;clear g hj;go_wp2_with fail
            go_quiet (fail)
            go_wp2_with (at_builtin;refine Cp rfl _ _ 33 rfl w.heap.size 136 2 16 _ Tryz.underlying33 DG rfl qd (((w1.setCell ⟨wr.heap.size,0,none⟩ (.int .i64 (lo:Int))).setCell ⟨wr.heap.size,1,none⟩ (.int .i64 (n:Int))).drewN nq) _ (acc.map BR) (BR (lo,n)) (by rfl) rfl rfl (d.drewN nq) (by first | rfl | (simp;done)) rfl rfl (by rw [fm,HQ.out];omega) (by rw [fm,HQ.out];omega) m.size ?_;intro v' w3 G H T U)
            go_roundg (l.length - (k+1))
            case measure=>rw [s.out];omega
            case rel=>exact ⟨k+1,oo,oo,by go_num,by rw [HF.out,fz];exact G,H _ (m.drewN nq) (fk _)⟩
  . obtain rfl:k=l.length:=oo;rw [i8] at j;go_wp2_with fail;go_ret;exact ⟨_,rfl,j,hg⟩

def OZ (n:Int):List Value:=[.int .i64 n]

instance (r:Int × Int):Decidable (GN r):=by unfold GN;infer_instance
theorem ev (A:Option Addr) (c n:Nat) (l:List (Int × Int)) (w:World) (hn:n=l.length) (hl:l.length<=1000000) (hr:RunsAt w w.heap.size A l) (t:Int) (t0:-9223372036854775808<=t) (t1:t<=9223372036854775807) (a:Int) (b:Bool)
 (h:(if t<0 then (0,false) else atS l t)=(a,b)):Calls Tryz.prog 101 #[.slice A n c,.int .i64 t] w λe w'=>e=.returned (.tuple #[.int .i64 a,.bool b])/\Grew w w':=by
 subst hn;have:=fE A c l w w.heap.size (fk _) hl hr t t0 t1;rw [h] at this;exact this
theorem RunsAt.hold {w w':World} {A:Option Addr} {l:List (Int × Int)} (h:RunsAt w w.heap.size A l) (hg:Grew w w'):RunsAt w' w'.heap.size A l:=
 ⟨h.1,(h.2.keep (fk _) hg).mono hg.size⟩
theorem KH (A:Option Addr) (c n:Nat) (l:List (Int × Int)) (w:World) (hn:n=l.length) (hl:l.length<=1000000) (hr:RunsAt w w.heap.size A l) (k:List (Int × Int)) (hk:AK (Bb l)=k):
 Calls Tryz.prog 147 #[.slice A n c] w λe w'=>∃A c,e=.returned (.slice A k.length c)/\RunsAt w' w'.heap.size A k/\Grew w w':=by
 subst hn;subst hk;refine (It A c l w w.heap.size (fk _) hl hr).mono ?_;rintro e w1 ⟨v,rfl,a,g1⟩;obtain ⟨A',c',hv,b⟩:=IZ a (λr hr=>fx (DE _ r hr) oo);exact ⟨A',c',by rw [hv],b,g1⟩

def EB:List (Int × Int)->Nat->List (Nat × Nat)
 | [],_=>[]
 | r::l,n=>((Ag r).1,min n (Ag r).2)::EB l (n - (Ag r).2)
def G2:List (Int × Int)->Nat->List (Nat × Nat)
 | [],_=>[]
 | r::l,n=>((Ag r).1+min n (Ag r).2,(Ag r).2 - min n (Ag r).2)::G2 l (n - (Ag r).2)
theorem J4 (r:Int × Int) (l:List (Int × Int)):AW (r::l)=(Ag r).2+AW l:=rfl
theorem WG (x:Int × Int):∀(l:List (Int × Int)) (n:Nat),EB (l++[x]) n=EB l n++[((Ag x).1,min (n - AW l) (Ag x).2)]:=by
 intro l
 induction l with
 | nil=>intro n;rfl
 | cons r l ih=>
   intro n;rw [cons_append,EB,EB,ih,cons_append,J4,Nat.sub_sub]
theorem X4 (x:Int × Int):∀(l:List (Int × Int)) (n:Nat),G2 (l++[x]) n=G2 l n++[((Ag x).1+min (n - AW l) (Ag x).2,(Ag x).2 - min (n - AW l) (Ag x).2)]:=by
 intro l
 induction l with
 | nil=>intro n;rfl
 | cons r l ih=>
   intro n;rw [cons_append,G2,G2,ih,cons_append,J4,Nat.sub_sub]
theorem No:∀(l:List (Int × Int)) (n:Nat),(EB l n).length=l.length:=by
 intro l;induction l with
 | nil=>intro n;rfl
 | cons r l ih=>intro n;rw [EB,iY,ih,iY]
theorem Na:∀(l:List (Int × Int)) (n:Nat),(G2 l n).length=l.length:=by
 intro l;induction l with
 | nil=>intro n;rfl
 | cons r l ih=>intro n;rw [G2,iY,ih,iY]
theorem bN:∀(l:List (Int × Int)) (n:Nat),∀r∈EB l n,r.1+r.2<=128:=by
 intro l;induction l with
 | nil=>intro n r hr;simp [EB] at hr
 | cons x l ih=>
   intro n r hr;have:=DF x;rcases ia.1 hr with rfl | hr
   . simp only [];omega
   . exact ih _ r hr
theorem cd:∀(l:List (Int × Int)) (n:Nat),∀r∈G2 l n,r.1+r.2<=128:=by
 intro l;induction l with
 | nil=>intro n r hr;simp [G2] at hr
 | cons x l ih=>
   intro n r hr;have:=DF x;rcases ia.1 hr with rfl | hr
   . simp only [];omega
   . exact ih _ r hr

theorem Er (a:List (Nat × Nat)):a=[]\/∃i x,a=i++[x]:=by
 rcases eq_nil_or_concat a with h | ⟨i,x,h⟩
 . exact .inl h
 . exact .inr ⟨i,x,by rw [h,concat_eq_append]⟩
theorem Iz (i:List (Nat × Nat)) (x:Nat × Nat):(i++[x]).getD ((i++[x]).length - 1) (0,0)=x:=by simp [List.getD]
theorem Kh (i:List (Nat × Nat)) (x y:Nat × Nat):(i++[x]).set ((i++[x]).length - 1) y=i++[y]:=by
 rw [List.set_append_right _ _ qs];simp
def Fc (acc:List (Nat × Nat)) (t:Nat):List (Nat × Nat):=CM acc (t,1)
theorem LU (t:Nat):Fc [] t=[(t,1)]:=by
 unfold Fc CM;rw [if_neg qs,if_neg (λh=>h.1 rfl)];rfl
theorem Hv (i:List (Nat × Nat)) (x r:Nat × Nat) (hr:r.2≠0):CM (i++[x]) r=if x.1+x.2=r.1 then i++[(x.1,x.2+r.2)] else i++[x]++[r]:=by
 unfold CM;rw [if_neg hr,Iz,Kh];by_cases h:x.1+x.2=r.1
 . rw [if_pos ⟨qs,h⟩,if_pos h]
 . rw [if_neg (λh'=>h h'.2),if_neg h]
theorem Db (i:List (Nat × Nat)) (x:Nat × Nat) (t:Nat):Fc (i++[x]) t=if x.1+x.2=t then i++[(x.1,x.2+1)] else i++[x]++[(t,1)]:=by
 unfold Fc;rw [Hv _ _ _ qs]
theorem Ng (a:List (Nat × Nat)) (r:Nat × Nat) (h:r.2=0):CM a r=a:=by unfold CM;rw [if_pos h]
theorem TP (a:List (Nat × Nat)) (lo n:Nat):CM a (lo,n+1)=Fc (CM a (lo,n)) (lo+n):=by
 rcases Nat.eq_zero_or_pos n with rfl | hn
 . rw [Ng a (lo,0) rfl];rfl
 . rcases Er a with rfl | ⟨i,x,rfl⟩
   . have e1:CM [] (lo,n+1)=[(lo,n+1)]:=by
      unfold CM;rw [if_neg qs,if_neg (λh=>h.1 rfl)];rfl
     have e2:CM [] (lo,n)=[]++[(lo,n)]:=by
      unfold CM;rw [if_neg (by simp;omega),if_neg (λh=>h.1 rfl)]
     rw [e1,e2,Db,if_pos rfl];rfl
   . rw [Hv i x (lo,n+1) qs,Hv i x (lo,n) (by simp;omega)];by_cases h:x.1+x.2=lo
     . rw [if_pos h,if_pos h,Db,if_pos (by simp only [];omega)];rfl
     . rw [if_neg h,if_neg h,Db,if_pos rfl]
def Ek (s:List Nat):List (Nat × Nat):=s.foldl Fc []
def Ch (r:Nat × Nat):List Nat:=(List.range r.2).map λk=>r.1+k
theorem Ld (lo n:Nat):Ch (lo,n+1)=Ch (lo,n)++[lo+n]:=by simp [Ch,jW]
theorem PD (a:List (Nat × Nat)) (lo n:Nat):CM a (lo,n)=(Ch (lo,n)).foldl Fc a:=by
 induction n with
 | zero=>rw [Ng a (lo,0) rfl];rfl
 | succ n ih=>rw [TP,ih,Ld,iV];rfl
def BP (l:List (Int × Int)):List Nat:=l.flatMap λr=>Ch (Ag r)
theorem Fr (r:Int × Int) (l:List (Int × Int)):BP (r::l)=Ch (Ag r)++BP l:=rfl
theorem CY (a b:List (Int × Int)):BP (a++b)=BP a++BP b:=by simp [BP]
theorem Fn (l:List (Int × Int)):Bb l=Ek (BP l):=by
 have b:∀(l:List (Int × Int)) (a:List (Nat × Nat)),l.foldl (λa x=>CM a (Ag x)) a=(BP l).foldl Fc a:=by
  intro l
  induction l with
  | nil=>intro a;rfl
  | cons r l ih=>intro a;rw [foldl_cons,ih,Fr,iV,<-PD]
 exact b l []
theorem FK (r:Nat × Nat):(Ch r).length=r.2:=by simp [Ch]
theorem EY (l:List (Int × Int)):(BP l).length=AW l:=by
 induction l with
 | nil=>rfl
 | cons r l ih=>rw [Fr,gK,ih,FK,J4]
theorem Gt (r:Nat × Nat) (t:Nat):t∈Ch r↔r.1<=t/\t<r.1+r.2:=by
 simp only [Ch,ft,gU];constructor
 . rintro ⟨k,hk,rfl⟩;omega
 . rintro ⟨h1,h2⟩;exact ⟨t - r.1,oo,oo⟩
theorem DH (l:List (Int × Int)) (t:Nat):t∈BP l↔AG l t=true:=by
 simp only [BP,List.mem_flatMap,AG,jD,Gt,inS,gm]
theorem MY (l:List (Int × Int)):∀t∈BP l,t<128:=by
 intro t ht;simp only [BP,List.mem_flatMap,Gt] at ht;obtain ⟨r,_,h1,h2⟩:=ht;have:=DF r;omega
theorem KC (l:List (Int × Int)) (t:Nat) (h:AG l t=true):t<128:=MY l t ((DH l t).2 h)
theorem Pm (a b:Nat) (h:a+b<=128) (hb:0<b):Ag ((a:Int),(b:Int))=(a,b):=by
 unfold Ag;simp only [];rw [if_neg oo,if_neg oo];split
 . simp
 . exact Prod.ext qs (by simp;omega)
theorem Om (a b:Nat) (h:a+b<=128):Ch (Ag ((a:Int),(b:Int)))=Ch (a,b):=by
 rcases Nat.eq_zero_or_pos b with rfl | hb
 . have:(Ag ((a:Int),((0:Nat):Int))).2=0:=by unfold Ag;rw [if_pos qs]
   unfold Ch;rw [this];rfl
 . rw [Pm a b h hb]
def Bx (l:List (Nat × Nat)):List Nat:=l.flatMap Ch
theorem Bi (l:List (Nat × Nat)) (h:∀r∈l,r.1+r.2<=128):BP (AK l)=Bx l:=by
 induction l with
 | nil=>rfl
 | cons r l ih=>
   show BP (((r.1:Int),(r.2:Int))::AK l)=_;rw [Fr,Om _ _ (h r qs),ih (λx hx=>h x (gM _ hx))];rfl
theorem EQ (a b:List (Nat × Nat)):Bx (a++b)=Bx a++Bx b:=by simp [Bx]
theorem IR (r:Nat × Nat):Bx [r]=Ch r:=by simp [Bx]
theorem Tb (a:List (Nat × Nat)) (t:Nat):Bx (Fc a t)=Bx a++[t]:=by
 rcases Er a with rfl | ⟨i,x,rfl⟩
 . rw [LU];simp [Bx,Ch]
 . rw [Db];split
   . rename_i h;rw [EQ,EQ,IR,IR,Ld,<-iA,h]
   . rw [EQ];simp [Bx,Ch]
theorem Tk (s:List Nat):∀acc,Bx (s.foldl Fc acc)=Bx acc++s:=by
 induction s with
 | nil=>intro acc;simp
 | cons t s ih=>intro acc;rw [foldl_cons,ih,Tb,iA];rfl
theorem Jh (s:List Nat):Bx (Ek s)=s:=by unfold Ek;rw [Tk];rfl
theorem J2 (l:List (Int × Int)):BP (AK (Bb l))=BP l:=by
 rw [Bi _ (DE l),Fn,Jh]
theorem JV (S:Nat->Bool) (k:Nat):BF S k=[]/\(0<k->S (k - 1)=false)\/∃i x,BF S k=i++[x]/\(x.1+x.2=k↔0<k/\S (k - 1)=true):=by
 induction k with
 | zero=>exact .inl ⟨rfl,λh=>absurd h oo⟩
 | succ k ih=>
   rw [BF,Nat.add_sub_cancel];cases hS:S k with
   | false=>
     rw [FE,if_pos hS];rcases ih with ⟨h,_⟩ | ⟨i,x,h,_⟩
     . exact .inl ⟨h,λ_=>rfl⟩
     . refine .inr ⟨i,x,h,?_⟩;have:=Gj S k x (by rw [h];simp);constructor
       . intro h;omega
       . rintro ⟨_,h⟩;cases h
   | true=>
     rw [FE,if_neg (by simp [hS])];by_cases hp:0<k/\S (k - 1)=true
     . rw [if_pos hp];rcases ih with ⟨h,h'⟩ | ⟨i,x,h,h'⟩
       . have:=h' hp.1;rw [hp.2] at this;cases this
       . refine .inr ⟨i,(x.1,x.2+1),?_,?_⟩
         . rw [h,QS,Iz,Kh]
         . have:=h'.2 hp;simp only [];constructor
           . intro _;exact ⟨oo,by first | rfl | trivial⟩
           . intro _;omega
     . rw [if_neg hp];exact .inr ⟨_,_,rfl,⟨λ_=>⟨oo,by first | rfl | trivial⟩,λ_=>qs⟩⟩
theorem P0 (S:Nat->Bool) (k:Nat):BF S k=Ek ((List.range k).filter S):=by
 induction k with
 | zero=>rfl
 | succ k ih=>
   rw [BF,jW,jF];unfold Ek at ih ⊢;rw [iV,<-ih];cases hS:S k with
   | false=>
     rw [FE,if_pos hS,filter_cons_of_neg (by simp [hS])];rfl
   | true=>
     rw [FE,if_neg (by simp [hS]),filter_cons_of_pos hS];show _=Fc (BF S k) k;rcases JV S k with ⟨h,h'⟩ | ⟨i,x,h,h'⟩
     . rw [if_neg (by rintro ⟨a,b⟩;rw [h' a] at b;cases b),h,LU];rfl
     . by_cases hp:0<k/\S (k - 1)=true
       . rw [if_pos hp,h,Db,if_pos (h'.2 hp),QS,Iz,Kh]
       . rw [if_neg hp,h,Db,if_neg (λe=>hp (h'.1 e))]
theorem Cz (S:Nat->Bool):∀r∈AH S,r.1+r.2<=128:=Gj S 128
theorem EP (S:Nat->Bool):(AH S).length<=128:=Jm S 128
theorem J5 (S:Nat->Bool):BP (AK (AH S))=(List.range 128).filter S:=by
 rw [Bi _ (Cz S)];unfold AH;rw [P0,Jh]
theorem SE {S T:Nat->Bool} (h:∀i,i<128->S i=T i):AH S=AH T:=QG 128 h
theorem IA (S:Nat->Bool) (i:Nat) (hi:i<128):AG (AK (AH S)) i=S i:=by
 rw [Bool.eq_iff_iff,<-DH,J5,iM,gU];exact ⟨λh=>h.2,λh=>⟨hi,h⟩⟩
theorem SD (a b:List (Nat × Nat)):AK (a++b)=AK a++AK b:=by simp [AK]
def Sp (s:List Nat) (i:Nat):Int × Bool:=if i<s.length then ((s.getD i 0:Nat),true) else (0,false)
theorem R4 (l:List (Int × Int)):∀i:Nat,atS l i=Sp (BP l) i:=by
 induction l with
 | nil=>intro i;rfl
 | cons r l ih=>
   intro i;rw [atS,Fr];unfold Sp;have a:=FK (Ag r);by_cases h:(i:Int)<((Ag r).2:Int)
   . have h':i<(Ag r).2:=oo;rw [if_pos h,if_pos (by rw [gK];omega)];refine Prod.ext ?_ rfl;simp only [List.getD];rw [ig oo];simp [Ch,h']
   . rw [if_neg h,show (i:Int) - ((Ag r).2:Int)=((i - (Ag r).2:Nat):Int) from oo,ih];unfold Sp;rw [gK,a];by_cases h2:i - (Ag r).2<(BP l).length
     . rw [if_pos h2,if_pos oo];simp only [List.getD];rw [iO oo,a]
     . rw [if_neg h2,if_neg oo]
theorem Mx (x:Nat) (s:List Nat):∀n,((List.range n).filter λi=>decide (i∈x::s)).length=((List.range n).filter λi=>decide (i∈s)).length+if x<n/\x ∉ s then 1 else 0:=by
 intro n
 induction n with
 | zero=>simp
 | succ n ih=>
   rw [jW,jF,jF,gK,gK,ih];by_cases hx:x=n
   . subst hx;by_cases hs:x∈s
     . simp [filter_cons,hs]
     . simp [filter_cons,hs]
   . have e:decide (n∈x::s)=decide (n∈s):=by
      rw [decide_eq_decide,ia];exact ⟨λh=>h.resolve_left (λe=>hx e.symm),Or.inr⟩
     have e2:(x<n+1/\x ∉ s)=(x<n/\x ∉ s):=by
      rw [eq_iff_iff];exact ⟨λh=>⟨oo,h.2⟩,λh=>⟨oo,h.2⟩⟩
     have e3:([n].filter λi=>decide (i∈x::s))=[n].filter λi=>decide (i∈s):=by rw [filter_cons,filter_cons,e];rfl
     simp only [e2];rw [e3];omega
theorem Z5 (s:List Nat) (n:Nat):((List.range n).filter λi=>decide (i∈s)).length<=s.length:=by
 induction s with
 | nil=>simp
 | cons x s ih=>rw [Mx,iY];split<;>omega
theorem L9 (s:List Nat) (n:Nat) (h:∀x∈s,x<n):((List.range n).filter λi=>decide (i∈s)).length=s.length↔s.Nodup:=by
 induction s with
 | nil=>simp
 | cons x s ih=>
   have a:=ih (λy hy=>h y (gM _ hy));have hx:=h x qs;have b:=Z5 s n;rw [Mx,iY,nodup_cons];by_cases hs:x∈s
   . rw [if_neg (λh=>h.2 hs)];constructor
     . intro e;omega
     . intro e;exact absurd hs e.1
   . rw [if_pos ⟨hx,hs⟩];constructor
     . intro e;exact ⟨hs,a.1 oo⟩
     . intro e;have:=a.2 e.2;omega
theorem Rl (S:Nat->Bool):AW (AK (AH S))=((List.range 128).filter S).length:=by rw [<-EY,J5]
theorem fO (l:List (Int × Int)):AW l=AW (AK (AH (AG l)))↔(BP l).Nodup:=by
 rw [Rl,<-L9 (BP l) 128 (MY l),EY]
 have:(λi=>decide (i∈BP l))=AG l:=by
  funext i;rw [Bool.eq_iff_iff,gm,DH]
 rw [this];exact eq_comm
theorem LR (lo n m:Nat):(Ch (lo,n)).take m=Ch (lo,min m n):=by
 unfold Ch;rw [<-map_take,List.take_range]
theorem XA (lo n m:Nat):(Ch (lo,n)).drop m=Ch (lo+min m n,n - min m n):=by
 unfold Ch;apply jb;intro i;simp only [getElem?_drop,fo,ic];by_cases h:m+i<n
 . rw [ic h,ic oo];simp only [Option.map_some,Option.some.injEq];omega
 . rw [iU (by simp;omega),iU (by simp;omega)];rfl
theorem Yj (l:List (Int × Int)):∀n,BP (AK (EB l n))=(BP l).take n:=by
 induction l with
 | nil=>intro n;simp [EB,AK,BP]
 | cons r l ih=>
   intro n;have hc:=DF r;rw [EB];show BP ((_,_)::AK _)=_;rw [Fr,Om _ _ (by simp only [];omega),ih,Fr,take_append,FK];congr 1;rw [<-LR]

theorem RT:(Tryz.prog.info? 3).map (λi=>(i.zero,i.size,i.bytes))=some (some (.int .i64 0),1,8):=qk

theorem YC (j nn:Nat):min j nn=nn/\nn<j\/min j nn=j/\j<=nn:=oo
theorem cE (A:Option Addr) (c:Nat) (l:List (Int × Int)) (w:World) (B:Nat) (hB:B<=w.heap.size) (hl:l.length<=100000) (hr:RunsAt w B A l) (n:Int) (N:Nat) (n0:-9223372036854775808<=n) (n1:n<=9223372036854775807) (hN:N=n.toNat):
 Calls Tryz.prog 207 #[.slice A l.length c,.int .i64 n] w λe w'=>∃v1 v2,e=.returned (.tuple #[v1,v2])/\OwnL w' w.heap.size 136 2 v1 ((Bb (AK (EB l N))).map BR)/\OwnL w' w.heap.size 136 2 v2 ((Bb (AK (G2 l N))).map BR)/\Grew w w':=by
 have HR:=zh hr;clear hr;have hNb:N<=9223372036854775807:=oo;have HNN:=zh hN;clear hN;go_enter Tryz.func207,Tryz.ntmps207
 go_upto_region 2 with fail
 go_cut [1] (λm wx=>m=.int .i64 (N:Int)/\w=wx)
 case first=>
  have hN:=HNN.out;clear HNN;by_cases hn:n<0
  . obtain rfl:N=0:=oo;clear hN;go_wp2_with fail;go_meet;exact ⟨rfl,rfl⟩
  . obtain rfl:n=(N:Int):=oo;clear hN;rcases Nat.eq_zero_or_pos N with rfl | hpos
    . go_wp2_with fail;go_meet;exact ⟨rfl,rfl⟩
    . go_wp2_with fail;go_meet;exact ⟨rfl,rfl⟩
 case rest=>
 obtain ⟨rfl,rfl⟩:=hcut;clear HNN n0 n1;go_wp2_with fail
 go_loopg [1,6,7,15] l.length (λgk m va vb i wr=>∃(k j:Nat) (va' vb':Value),va'=va/\vb'=vb/\k<=l.length/\gk=l.length - k/\i=.int .i64 k/\m=.int .i64 j/\j=N - AW (l.take k)/\OwnL wr w.heap.size 136 2 va ((EB (l.take k) N).map BR)/\OwnL wr w.heap.size 136 2 vb ((G2 (l.take k) N).map BR)/\(∀g,va.ownBlock=some g->vb.ownBlock≠some g)/\Grew w wr)
 case atStart=>exact ⟨0,N,_,_,rfl,rfl,oo,oo,rfl,rfl,by simp [AW],OwnL.nil _ _ _ _,OwnL.nil _ _ _ _,by simp [Value.ownBlock],by (repeat' first | (with_reducible exact fh _) | (with_reducible assumption) | (with_reducible refine Grew.alloc ?_ _) | (with_reducible refine Grew.drew ?_) | (with_reducible refine Grew.drewN ?_ _) | (with_reducible refine Grew.setRow ?_ (by first | (simp;done) | (simp;omega) | omega) _) | (with_reducible refine Grew.setCell ?_ (by first | (simp;done) | (simp;omega) | omega) _) | ((with_reducible apply Grew.trans);rotate_left;(with_reducible assumption)) | ((with_reducible apply Grew.turn);rotate_left;(with_reducible assumption);(focus (intro i hi;first | omega | (simp at hi;omega)))) | fail)⟩
 case round=>
  obtain ⟨k,j,va,vb,rfl,rfl,hk,hgk,rfl,rfl,hj,hoa,hob,hdis,hg⟩:=hrel;have HGK:=zh hgk;clear hgk;have hjb:j<=9223372036854775807:=oo;by_cases hlt:k<l.length
  . obtain ⟨b,off,f,c,rfl,hb,hlk,⟨f0,f1,c0,c1⟩,x0,x1⟩:=(HR.out.keep hB hg).at_ hlt;simp only at f0 f1 c0 c1;have hbs:b<wr.heap.size:=by have:=hg.size;omega
    have hws:=hg.size;have hle:=DF (f,c);have htk:l.take (k+1)=l.take k++[(f,c)]:=by rw [fr hlt,hlk]
    have HNA:=zh (show EB (l.take (k+1)) N=_ from by rw [htk,WG,<-hj]);have HNB:=zh (show G2 (l.take (k+1)) N=_ from by rw [htk,X4,<-hj]);have HSZ:=zh (show AW (l.take (k+1))=AW (l.take k)+(Ag (f,c)).2 from by rw [NM l k hlt,hlk]);have HLA:=zh (show ((EB (l.take k) N).map BR).length=k from by rw [fm,No,iX];omega);have HLB:=zh (show ((G2 (l.take k) N).map BR).length=k from by rw [fm,Na,iX];omega);have HJ:=zh hj;clear hlk htk hj;have HC:=λW=>zh (Gx f c W f0 f1 c0 c1);generalize Ag (f,c)=r at*;obtain ⟨lo,nn⟩:=r;simp only at hle;have hboA:=λg h=>hoa.own_ge (g:=g) h;have hboB:=λg h=>hob.own_ge (g:=g) h;have hdis':∀g,vb.ownBlock=some g->va.ownBlock≠some g:=λg h h'=>hdis g h' h
    go_upto_block 1 with fail
    go_cut [1,6,7] (λm sa sb wx=>m=.int .i64 ((j - min j nn:Nat):Int)/\OwnL wx w.heap.size 136 2 sa ((EB (l.take k) N).map BR++[BR (lo,min j nn)])/\OwnL wx w.heap.size 136 2 sb ((G2 (l.take k) N).map BR++[BR (lo+min j nn,nn - min j nn)])/\(∀g,sa.ownBlock=some g->sb.ownBlock≠some g)/\Grew w wx)
    case first=>
     go_wp2_with fail;refine (HC _).out.mono ?_;rintro e w1 ⟨rfl,g1⟩;have hz1:wr.heap.size<w1.heap.size:=by have:=g1.size;simp at this;omega
     have hr1:Blk w1 wr.heap.size 136 #[.int .i64 f,.int .i64 c]:=(fy wr _ _ rfl).grew g1;have hoa1:=(hoa.alloc (.cells #[.int .i64 f,.int .i64 c] 136)).grew g1;have hob1:=(hob.alloc (.cells #[.int .i64 f,.int .i64 c] 136)).grew g1;have hg1:Grew w w1:=by (repeat' first | (with_reducible exact fh _) | (with_reducible assumption) | (with_reducible refine Grew.alloc ?_ _) | (with_reducible refine Grew.drew ?_) | (with_reducible refine Grew.drewN ?_ _) | (with_reducible refine Grew.setRow ?_ (by first | (simp;done) | (simp;omega) | omega) _) | (with_reducible refine Grew.setCell ?_ (by first | (simp;done) | (simp;omega) | omega) _) | ((with_reducible apply Grew.trans);rotate_left;(with_reducible assumption)) | ((with_reducible apply Grew.turn);rotate_left;(with_reducible assumption);(focus (intro i hi;first | omega | (simp at hi;omega)))) | fail)
     have r0:=hr1.cell 0;have r1:=hr1.cell 1;have rf0:=hr1.frozen 0;have rf1:=hr1.frozen 1;clear g1;have hoa2:=(hoa1.far (p:=⟨wr.heap.size,0,none⟩) (λh=>by have:=(hboA _ h).2;(try simp only at this);omega) (.int .i64 (lo:Int))).far (p:=⟨wr.heap.size,1,none⟩) (λh=>by have:=(hboA _ h).2;(try simp only at this);omega) (.int .i64 (nn:Int));have hob2:=(hob1.far (p:=⟨wr.heap.size,0,none⟩) (λh=>by have:=(hboB _ h).2;(try simp only at this);omega) (.int .i64 (lo:Int))).far (p:=⟨wr.heap.size,1,none⟩) (λh=>by have:=(hboB _ h).2;(try simp only at this);omega) (.int .i64 (nn:Int));have hg2:Grew w ((w1.setCell ⟨wr.heap.size,0,none⟩ (.int .i64 (lo:Int))).setCell ⟨wr.heap.size,1,none⟩ (.int .i64 (nn:Int))):=by (repeat' first | (with_reducible exact fh _) | (with_reducible assumption) | (with_reducible refine Grew.alloc ?_ _) | (with_reducible refine Grew.drew ?_) | (with_reducible refine Grew.drewN ?_ _) | (with_reducible refine Grew.setRow ?_ (by first | (simp;done) | (simp;omega) | omega) _) | (with_reducible refine Grew.setCell ?_ (by first | (simp;done) | (simp;omega) | omega) _) | ((with_reducible apply Grew.trans);rotate_left;(with_reducible assumption)) | ((with_reducible apply Grew.turn);rotate_left;(with_reducible assumption);(focus (intro i hi;first | omega | (simp at hi;omega)))) | fail)
     have hr2:Blk ((w1.setCell ⟨wr.heap.size,0,none⟩ (.int .i64 (lo:Int))).setCell ⟨wr.heap.size,1,none⟩ (.int .i64 (nn:Int))) wr.heap.size 136 #[.int .i64 lo,.int .i64 nn]:=by (apply Blk.conv;(· (repeat' first | (with_reducible assumption) | (with_reducible apply Blk.setRow) | ((with_reducible apply Blk.farRow);rotate_left;(focus (first | (simp;done) | (simp;omega) | omega))) | (with_reducible apply Blk.drew) | (with_reducible apply Blk.drewN) | (with_reducible apply Blk.set_) | (with_reducible exact fy _ _ _ (by first | rfl | (simp;done) | (simp;omega))) | (with_reducible apply Blk.alloc) | ((with_reducible apply Blk.far);rotate_left;(focus (first | (simp;done) | (simp;omega) | omega))) | ((with_reducible apply Blk.grew);rotate_left;(with_reducible assumption)) | ((with_reducible apply Blk.turned);rotate_left;(with_reducible assumption);(focus (first | (simp;done) | (simp;omega) | omega))) | fail));(· rfl))
     have hz2:((w1.setCell ⟨wr.heap.size,0,none⟩ (.int .i64 (lo:Int))).setCell ⟨wr.heap.size,1,none⟩ (.int .i64 (nn:Int))).heap.size=w1.heap.size:=by simp [World.setCell]
     go_upto_region 7 with fail
     clear r0 r1 rf0 rf1 hoa1 hob1 hg1 hr1;generalize ((w1.setCell ⟨wr.heap.size,0,none⟩ (.int .i64 (lo:Int))).setCell ⟨wr.heap.size,1,none⟩ (.int .i64 (nn:Int)))=w2 at*;have r0:=hr2.cell 0;have r1:=hr2.cell 1;have hzz:=hg2.size;rw [<-hz2] at hz1;clear hz2
     go_cut [10] (λkk wx=>kk=.int .i64 ((min j nn:Nat):Int)/\w2=wx)
     case first=>
      rcases YC j nn with ⟨hm,hjn⟩ | ⟨hm,hjn⟩
      . have HMN:=zh hm;clear hm;go_wp2_with fail;go_meet;exact ⟨by rw [HMN.out],rfl⟩
      . have HMN:=zh hm;clear hm;go_wp2_with fail;go_meet;exact ⟨by rw [HMN.out],rfl⟩
     case rest=>
     obtain ⟨rfl,rfl⟩:=hcut;have hq1:min j nn<=j:=Nat.min_le_left _ _;have hq2:min j nn<=nn:=Nat.min_le_right _ _;have HQ:=zh (show nn - (j - (j - min j nn))=nn - min j nn/\j - min j nn=j - nn from oo);generalize min j nn=q at*
     go_upto_region 9 with fail
     have hw1:IntKind.i64.wrap ((lo:Int)+(q:Int))=((lo+q:Nat):Int):=by rw [IntKind.wrap_i64];omega
     have hw2:IntKind.i64.wrap ((nn:Int) - (q:Int))=((nn - q:Nat):Int):=by rw [IntKind.wrap_i64];omega
     go_region_held3 (λw'=>w'.cell? ⟨wr.heap.size,0,none⟩=some (.int .i64 lo)/\w'.cell? ⟨wr.heap.size,1,none⟩=some (.int .i64 nn))
      (first
        | go_keep
        | (go_split_ands
           refine ⟨?_,?_⟩
           . (rw [hgrow.cell_far _ (by simp;omega) (λe=>by have:=(hboA _ e.symm).2;(try simp only at this);omega)];assumption)
           . (rw [hgrow.cell_far _ (by simp;omega) (λe=>by have:=(hboA _ e.symm).2;(try simp only at this);omega)];assumption))
        | (go_split_ands
           refine ⟨?_,?_⟩
           . (rw [hgrow'.cell_far _ (by simp;omega) (λe=>by have:=(hboB _ e.symm).2;(try simp only at this);omega)];assumption)
           . (rw [hgrow'.cell_far _ (by simp;omega) (λe=>by have:=(hboB _ e.symm).2;(try simp only at this);omega)];assumption)))
      (first
        | ((refine PC (by rfl) (.tmp 28) (.tmp 33) 33 (by rfl) w.heap.size 136 2 16 _ Tryz.underlying33 DG rfl qd _ va ((EB (l.take k) N).map BR) (BR (lo,q)) rfl (by rfl) (by (repeat' first | (with_reducible assumption) | (with_reducible apply OwnL.drew) | (with_reducible apply OwnL.drewN) | (with_reducible apply OwnL.alloc) | ((with_reducible apply OwnL.own);rotate_left;(with_reducible assumption);(with_reducible assumption)) | fail)) _ (by rfl) (by (apply Blk.conv;(· (repeat' first | (with_reducible assumption) | (with_reducible apply Blk.setRow) | ((with_reducible apply Blk.farRow);rotate_left;(focus (first | (simp;done) | (simp;omega) | omega))) | (with_reducible apply Blk.drew) | (with_reducible apply Blk.drewN) | (with_reducible apply Blk.set_) | (with_reducible exact fy _ _ _ (by first | rfl | (simp;done) | (simp;omega))) | (with_reducible apply Blk.alloc) | ((with_reducible apply Blk.far);rotate_left;(focus (first | (simp;done) | (simp;omega) | omega))) | ((with_reducible apply Blk.grew);rotate_left;(with_reducible assumption)) | ((with_reducible apply Blk.turned);rotate_left;(with_reducible assumption);(focus (first | (simp;done) | (simp;omega) | omega))) | fail));(· rfl))) rfl (by rw [HLA.out];omega) (by rw [HLA.out];omega) (by first | (simp;omega) | omega) k HLA.out ?_;intro gA cA w3 hownA hgrow hatA hltA;have hszA:=hgrow.size;try simp at hszA))
        | ((refine PC (by rfl) (.tmp 35) (.tmp 45) 33 (by rfl) w.heap.size 136 2 16 _ Tryz.underlying33 DG rfl qd _ vb ((G2 (l.take k) N).map BR) (BR (lo+q,nn - q)) rfl (by rfl) (by (repeat' first | (with_reducible assumption) | (with_reducible apply OwnL.drew) | (with_reducible apply OwnL.drewN) | (with_reducible apply OwnL.alloc) | ((with_reducible apply OwnL.own);rotate_left;(with_reducible assumption);(with_reducible assumption)) | fail)) _ (by rfl) (by first | (apply Blk.conv;(· (repeat' first | (with_reducible assumption) | (with_reducible apply Blk.setRow) | ((with_reducible apply Blk.farRow);rotate_left;(focus (first | (simp;done) | (simp;omega) | omega))) | (with_reducible apply Blk.drew) | (with_reducible apply Blk.drewN) | (with_reducible apply Blk.set_) | (with_reducible exact fy _ _ _ (by first | rfl | (simp;done) | (simp;omega))) | (with_reducible apply Blk.alloc) | ((with_reducible apply Blk.far);rotate_left;(focus (first | (simp;done) | (simp;omega) | omega))) | ((with_reducible apply Blk.grew);rotate_left;(with_reducible assumption)) | ((with_reducible apply Blk.turned);rotate_left;(with_reducible assumption);(focus (first | (simp;done) | (simp;omega) | omega))) | fail));(· rfl)) | exact Blk.own (by (apply Blk.conv;(· (repeat' first | (with_reducible assumption) | (with_reducible apply Blk.setRow) | ((with_reducible apply Blk.farRow);rotate_left;(focus (first | (simp;done) | (simp;omega) | omega))) | (with_reducible apply Blk.drew) | (with_reducible apply Blk.drewN) | (with_reducible apply Blk.set_) | (with_reducible exact fy _ _ _ (by first | rfl | (simp;done) | (simp;omega))) | (with_reducible apply Blk.alloc) | ((with_reducible apply Blk.far);rotate_left;(focus (first | (simp;done) | (simp;omega) | omega))) | ((with_reducible apply Blk.grew);rotate_left;(with_reducible assumption)) | ((with_reducible apply Blk.turned);rotate_left;(with_reducible assumption);(focus (first | (simp;done) | (simp;omega) | omega))) | fail));(· rfl))) hgrow (λe=>by have:=(hboA _ e).2;(try simp only at this);omega)) rfl (by rw [HLB.out];omega) (by rw [HLB.out];omega) (by first | (simp;omega) | omega) k HLB.out ?_;intro gB cB w4 hownB hgrow' hatB hltB)))
     all_goals
      go_wp2_with fail;go_meet
      try simp at hatB
      try simp at hatA
      have hszB:=hgrow'.size
      try simp at hszB
      have hA3:∀g,va.ownBlock=some g->g<w2.heap.size:=λg h=>by have:=(hboA g h).2;omega
      have hB3:∀g,vb.ownBlock=some g->g<w2.heap.size:=λg h=>by have:=(hboB g h).2;omega
      refine ⟨by go_num,?_,hownB,?_,?_⟩
      . exact OwnL.own (by (repeat' first | (with_reducible assumption) | (with_reducible apply OwnL.drew) | (with_reducible apply OwnL.drewN) | (with_reducible apply OwnL.alloc) | ((with_reducible apply OwnL.own);rotate_left;(with_reducible assumption);(with_reducible assumption)) | fail)) hgrow' (λg h h'=>by
         simp [Value.ownBlock] at h
         rcases hatA with h2 | h2
         . exact hdis' _ h' (h▸h2)
         . have:=hB3 _ h';omega)
      . intro g h h';simp [Value.ownBlock] at h h';subst h;subst h';rcases hatA with h2 | h2<;>rcases hatB with h3 | h3
        . exact hdis _ h2 h3
        . have:=hA3 _ h2;omega
        . have:=hB3 _ h3;omega
        . omega
      . have hg3:=Grew.own (a:=w) (by (repeat' first | (with_reducible exact fh _) | (with_reducible assumption) | (with_reducible refine Grew.alloc ?_ _) | (with_reducible refine Grew.drew ?_) | (with_reducible refine Grew.drewN ?_ _) | (with_reducible refine Grew.setRow ?_ (by first | (simp;done) | (simp;omega) | omega) _) | (with_reducible refine Grew.setCell ?_ (by first | (simp;done) | (simp;omega) | omega) _) | ((with_reducible apply Grew.trans);rotate_left;(with_reducible assumption)) | ((with_reducible apply Grew.turn);rotate_left;(with_reducible assumption);(focus (intro i hi;first | omega | (simp at hi;omega)))) | fail)) hgrow hoa.row_ge (fk _);exact Grew.own (by (repeat' first | (with_reducible exact fh _) | (with_reducible assumption) | (with_reducible refine Grew.alloc ?_ _) | (with_reducible refine Grew.drew ?_) | (with_reducible refine Grew.drewN ?_ _) | (with_reducible refine Grew.setRow ?_ (by first | (simp;done) | (simp;omega) | omega) _) | (with_reducible refine Grew.setCell ?_ (by first | (simp;done) | (simp;omega) | omega) _) | ((with_reducible apply Grew.trans);rotate_left;(with_reducible assumption)) | ((with_reducible apply Grew.turn);rotate_left;(with_reducible assumption);(focus (intro i hi;first | omega | (simp at hi;omega)))) | fail)) hgrow' hob.row_ge (fk _)
    case rest=>
     obtain ⟨rfl,hA5,hB5,hd5,hg5⟩:=hcut;have hq1:min j nn<=j:=Nat.min_le_left _ _;have hq2:min j nn<=nn:=Nat.min_le_right _ _;have HQ:=zh (show j - min j nn=j - nn from oo);have HOA:=zh (show (EB (l.take (k+1)) N).map BR=(EB (l.take k) N).map BR++[BR (lo,min j nn)] from by rw [HNA.out,fz];rfl);have HOB:=zh (show (G2 (l.take (k+1)) N).map BR=(G2 (l.take k) N).map BR++[BR (lo+min j nn,nn - min j nn)] from by rw [HNB.out,fz];rfl);clear hoa hob hdis hdis';generalize min j nn=q at*;go_wp2_with fail
     go_roundg (l.length - (k+1))
     case measure=>rw [HGK.out];omega
     case rel=>
      exact ⟨k+1,j - q,_,_,rfl,rfl,oo,oo,by go_num,rfl,by rw [HSZ.out,HQ.out,HJ.out];omega,by rw [HOA.out];exact hA5,by rw [HOB.out];exact hB5,hd5,hg5⟩
  . obtain rfl:k=l.length:=oo;rw [i8] at hoa hob;have hla:=No l N;have hlb:=Na l N;obtain ⟨Aa,ca,hva,hra⟩:=IZ hoa (λr hr=>fx (bN _ _ r hr) oo);obtain ⟨Ab,cb,hvb,hrb⟩:=IZ hob (λr hr=>fx (cd _ _ r hr) oo);subst hva;subst hvb;go_wp2_with fail;refine (It Aa ca (AK (EB l N)) wr wr.heap.size (fk _) (by rw [AZ];omega) hra).mono ?_;rintro e w1 ⟨v1,rfl,ho1,g1⟩;have hrb1:=(hrb.hold g1);go_wp2_with fail;refine (It Ab cb (AK (G2 l N)) w1 w1.heap.size (fk _) (by rw [AZ];omega) hrb1).mono ?_;rintro e w2 ⟨v2,rfl,ho2,g2⟩;have h1:=g1.size;have h2:=hg.size;go_wp2_with fail;go_ret2;exact ⟨v1,v2,rfl,(ho1.grew g2).mono oo,ho2.mono oo,hg.trans (g1.trans g2)⟩

theorem back {w w':World} {base:Nat} {v:Value} {l:List (Nat × Nat)} {k:List (Int × Int)} (hk:AK l=k) (hb:∀r∈l,r.1+r.2<=128) (a:OwnL w' base 136 2 v (l.map BR)) (hg:Grew w w'):
 ∃A c,(Ending.returned v)=.returned (.slice A k.length c)/\RunsAt w' w'.heap.size A k/\Grew w w':=by
 subst hk;obtain ⟨A',c',hv,b⟩:=IZ a (λr hr=>fx (hb r hr) oo);exact ⟨A',c',by rw [hv],b,hg⟩
section
variable {A:Option Addr} {c n:Nat} {l:List (Int × Int)} {w:World}
theorem IY (hn:n=l.length) (hl:l.length<=1000000) (hr:RunsAt w w.heap.size A l) (s:Nat) (hs:AW l=s):
 Calls Tryz.prog 131 #[.slice A n c] w λe w'=>e=.returned (.int .i64 (s:Int))/\Grew w w':=by
 subst hn;subst hs;exact Ki A c l w w.heap.size (fk _) hl hr
theorem KS (hn:n=l.length) (hl:l.length<=1000000) (hr:RunsAt w w.heap.size A l) (t:Int) (t0:-9223372036854775808<=t) (t1:t<=9223372036854775807) (b:Bool) (h:inT l t=b):
 Calls Tryz.prog 206 #[.slice A n c,.int .i64 t] w λe w'=>e=.returned (.bool b)/\Grew w w':=by
 subst hn;subst h;have:=QF A c l w w.heap.size (fk _) hl hr t t0 t1;rwa [Y0] at this
theorem Kj (hn:n=l.length) (hl:l.length<=1000000) (hr:RunsAt w w.heap.size A l) (b:Bool) (h:decide (BP l).Nodup=b):
 Calls Tryz.prog 61 #[.slice A n c] w λe w'=>e=.returned (.bool b)/\Grew w w':=by
 subst hn;subst h;refine (Qd A c l w w.heap.size (fk _) hl hr).mono ?_;rintro e w1 ⟨rfl,g1⟩;refine ⟨AE ?_,g1⟩;have:=fO l;rw [Bool.eq_iff_iff,iy,gm,<-this];omega
end
section
variable {A1 A2:Option Addr} {c1 c2 n1 n2:Nat} {l1 l2:List (Int × Int)} {w:World}
theorem Lb (b:n1=l1.length) (g:n2=l2.length) (a:l1.length<=1000000) (f:l2.length<=1000000) (d:RunsAt w w.heap.size A1 l1) (h:RunsAt w w.heap.size A2 l2) (k:List (Int × Int)) (hk:AK (AH λi=>AG l1 i && !AG l2 i)=k):
 Calls Tryz.prog 149 #[.slice A1 n1 c1,.slice A2 n2 c2] w λe w'=>∃A c,e=.returned (.slice A k.length c)/\RunsAt w' w'.heap.size A k/\Grew w w':=by
 subst b;subst g;refine (LV A1 A2 c1 c2 l1 l2 w w.heap.size (fk _) a f d h).mono ?_;rintro e w1 ⟨v,rfl,j,g1⟩;exact back hk (Cz _) j g1
end

end
end Go.Proofs.YtfklieeipokllaaGreat
