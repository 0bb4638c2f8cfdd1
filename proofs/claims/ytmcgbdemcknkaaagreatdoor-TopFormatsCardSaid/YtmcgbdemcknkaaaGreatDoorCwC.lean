/- Parts of the proof (packed), 3. -/
import Derived.WalkSpells
import Derived.WalkLawsBesides
import Derived.Handy
import Derived.Lib.Hide
import Derived.Deep.LoopGhost
import Derived.RegionTactic
import Derived.ChangeAlike
import Derived.BigQuiet
import Derived.Deep.RegionWith
import Derived.Deep.DeepCutAuto
import Derived.Deep.CutBlock
import Derived.Test.YtmcgbdemcknkaaaGreatDoorCwA
namespace Go.Proofs.YtmcgbdemcknkaaaGreatDoor
set_option linter.all false
set_option maxRecDepth 100000
set_option maxHeartbeats 16000000
open List
section
open Go.RowKit
def Be (r:Int × Int):Nat × Nat:=
 if r.2<1\/128<=r.1 then (0,0)
 else if r.1<0 then (if r.1+r.2<=0 then (0,0) else if r.1+r.2<128 then (0,(r.1+r.2).toNat) else (0,128))
 else if r.2<128 - r.1 then (r.1.toNat,r.2.toNat) else (r.1.toNat,(128 - r.1).toNat)
theorem Fs (r:Int × Int):(Be r).1+(Be r).2<=128:=by
 unfold Be;repeat' split
 all_goals (simp only [];omega)
theorem F0 {a b c d:Int} (h:a=b) (h':c=d):Ending.returned (.agg #[.int .i64 a,.int .i64 c])=.returned (.agg #[.int .i64 b,.int .i64 d]):=by rw [h,h']
theorem KV (f c:Int) (w:World) (f0:-9223372036854775808<=f) (f1:f<=9223372036854775807) (c0:-9223372036854775808<=c) (c1:c<=9223372036854775807):
 Calls Tryz.prog 150 #[.agg #[.int .i64 f,.int .i64 c]] w λe w'=>e=.returned (.agg #[.int .i64 ((Be (f,c)).1:Int),.int .i64 ((Be (f,c)).2:Int)])/\Grew w w':=by
 unfold Be;simp only [];by_cases hy:c<1
 . rw [if_pos (Or.inl hy)];have hx:c<1\/1<=c:=oo
   try obtain ⟨a,hy⟩:=hy
   try obtain ⟨b,hy⟩:=hy
   try obtain ⟨d,hy⟩:=hy
   go_enter Tryz.func150,Tryz.ntmps150
   go_wp2
   all_goals
    go_returns
    exact ⟨F0 oo oo,gG⟩
 by_cases hy:¬c<1/\128<=f
 . rw [if_pos (Or.inr hy.2)];have hx:c<1\/1<=c:=oo
   try obtain ⟨a,hy⟩:=hy
   try obtain ⟨b,hy⟩:=hy
   try obtain ⟨d,hy⟩:=hy
   go_enter Tryz.func150,Tryz.ntmps150
   go_wp2
   all_goals
    go_returns
    exact ⟨F0 oo oo,gG⟩
 by_cases hy:¬c<1/\f<0/\f+c<=0
 . rw [if_neg oo,if_pos hy.2.1,if_pos hy.2.2];have hx:c<1\/1<=c:=oo
   try obtain ⟨a,hy⟩:=hy
   try obtain ⟨b,hy⟩:=hy
   try obtain ⟨d,hy⟩:=hy
   go_enter Tryz.func150,Tryz.ntmps150
   go_wp2
   all_goals
    go_returns
    exact ⟨F0 oo oo,gG⟩
 by_cases hy:¬c<1/\f<0/\0<f+c/\f+c<128
 . rw [if_neg oo,if_pos hy.2.1,if_neg oo,if_pos hy.2.2.2];have hx:c<1\/1<=c:=oo
   try obtain ⟨a,hy⟩:=hy
   try obtain ⟨b,hy⟩:=hy
   try obtain ⟨d,hy⟩:=hy
   go_enter Tryz.func150,Tryz.ntmps150
   go_wp2
   all_goals
    go_returns
    exact ⟨F0 oo oo,gG⟩
 by_cases hy:¬c<1/\f<0/\128<=f+c
 . rw [if_neg oo,if_pos hy.2.1,if_neg oo,if_neg oo];have hx:c<1\/1<=c:=oo
   try obtain ⟨a,hy⟩:=hy
   try obtain ⟨b,hy⟩:=hy
   try obtain ⟨d,hy⟩:=hy
   go_enter Tryz.func150,Tryz.ntmps150
   go_wp2
   all_goals
    go_returns
    exact ⟨F0 oo oo,gG⟩
 by_cases hy:¬c<1/\0<=f/\f<128/\c<128 - f
 . rw [if_neg oo,if_neg oo,if_pos hy.2.2.2];have hx:c<1\/1<=c:=oo
   try obtain ⟨a,hy⟩:=hy
   try obtain ⟨b,hy⟩:=hy
   try obtain ⟨d,hy⟩:=hy
   go_enter Tryz.func150,Tryz.ntmps150
   go_wp2
   all_goals
    go_returns
    exact ⟨F0 oo oo,gG⟩
 by_cases hy:¬c<1/\0<=f/\f<128/\128 - f<=c
 . rw [if_neg oo,if_neg oo,if_neg oo];have hx:c<1\/1<=c:=oo
   try obtain ⟨a,hy⟩:=hy
   try obtain ⟨b,hy⟩:=hy
   try obtain ⟨d,hy⟩:=hy
   go_enter Tryz.func150,Tryz.ntmps150
   go_wp2
   all_goals
    go_returns
    exact ⟨F0 oo oo,gG⟩
 exfalso;omega

def inS (r:Nat × Nat) (t:Nat):Bool:=decide (r.1<=t/\t<r.1+r.2)
theorem AC {a b:Bool} (h:a=b):Ending.returned (.bool a)=.returned (.bool b):=by rw [h]
theorem aP (f c:Int) (t:Nat) (ht:t<128):inS (Be (f,c)) t=decide ((f<0/\1<=c/\(t:Int)<f+c)\/(0<=f/\1<=c/\f<=t/\(t:Int) - f<c)):=by
 unfold inS Be;rw [decide_eq_decide];repeat' split
 all_goals (simp only [] at*;omega)

def AH (l:List (Int × Int)) (t:Nat):Bool:=l.any λr=>inS (Be r) t
theorem XE (l:List (Int × Int)) (k:Nat) (h:k<l.length) (t:Nat):AH (l.take (k+1)) t=(AH (l.take k) t || inS (Be l[k]) t):=by
 unfold AH;rw [ic h,List.any_append];simp only [any_cons,any_nil,Bool.or_false]
def seg (lo n t:Nat):Bool:=decide (lo<=t/\t<lo+n)
theorem bQ (x:Bool) (lo j i:Nat):(if i=lo+j then true else (x || seg lo j i))=(x || seg lo (j+1) i):=by
 unfold seg;by_cases h:i=lo+j
 . subst h;rw [if_pos rfl,show decide (lo<=lo+j/\lo+j<lo+(j+1))=true from qs,Bool.or_true]
 . rw [if_neg h];congr 1;rw [decide_eq_decide];omega
theorem NK (w:World):(zeroValue 271).run Tryz.prog w=.ok (.agg (AX λ_=>false)) w:=qk
theorem G7:(Tryz.prog.info? 271).map (·.size)=some 128:=qk
theorem Ub (A:Option Addr) (c:Nat) (l:List (Int × Int)) (w:World) (B:Nat) (hB:B<=w.heap.size) (hl:l.length<=9223372036854775807) (hr:RunsAt w B A l):
 Calls Tryz.prog 185 #[.slice A l.length c] w λe w'=>e=.returned (.agg (AX (AH l)))/\Grew w w':=by
 have HR:=zh hr;clear hr;have hz:=NK;go_enter Tryz.func185,Tryz.ntmps185;go_wp2_with fail;clear hz
 go_loopg [9] l.length (λgk i wr=>∃k:Nat,k<=l.length/\gk=l.length - k/\i=.int .i64 k/\Blk wr w.heap.size 271 (AX λ_=>false)/\Blk wr (w.heap.size+1) 271 (AX (AH (l.take k)))/\Grew w wr)
 case atStart=>exact ⟨0,oo,oo,rfl,gB,gB,gG⟩
 case round=>
  obtain ⟨k,hk,p,rfl,g,a,hg⟩:=hrel;have s:=zh p;clear p;have G:=a.lt;by_cases d:k<l.length
  . obtain ⟨b,M,f,c,rfl,hb,h,⟨f0,f1,c0,c1⟩,x0,x1⟩:=(HR.keep hB hg).at_ d;simp only at f0 f1 c0 c1;have H:b<wr.heap.size:=by have:=hg.size;omega
    have HL:=zh h;have u:=Fs (f,c);have HN:=zh (λt=>(XE l k d t).trans (by rw [h]));clear h;go_wp2_with fail;refine (KV f c _ f0 f1 c0 c1).mono ?_;rintro e w1 ⟨rfl,g1⟩;have v:=(g.alloc _).grew g1;have x:=(a.alloc _).grew g1;have y:=g1.cellEq;have z:=g1.frozenEq;have I:wr.heap.size<w1.heap.size:=by have:=g1.size;simp at this;omega
    have C:Blk w1 wr.heap.size 229 #[.int .i64 f,.int .i64 c]:=(ik wr _ _ rfl).grew g1;have J:Grew w w1:=gG;generalize hcl:Be (f,c)=r at*
    obtain ⟨lo,n⟩:=r;simp only at u;go_wp2_with fail
    go_loopg [17] n (λgk2 i wx=>∃j:Nat,j<=n/\gk2=n - j/\i=.int .i64 j/\Blk wx w.heap.size 271 (AX λ_=>false)/\Blk wx (w.heap.size+1) 271 (AX λt=>AH (l.take k) t || seg lo j t)/\Blk wx wr.heap.size 229 #[.int .i64 lo,.int .i64 n]/\Grew w wx)
    case atStart=>exact ⟨0,oo,oo,rfl,gB,by (apply Blk.conv;(· (repeat' first | (with_reducible assumption) | (with_reducible apply Blk.setRow) | ((with_reducible apply Blk.farRow);rotate_left;(focus (first | (simp;done) | (simp;omega) | omega))) | (with_reducible apply Blk.drew) | (with_reducible apply Blk.drewN) | (with_reducible apply Blk.set_) | (with_reducible exact ik _ _ _ (by first | rfl | (simp;done) | (simp;omega))) | (with_reducible apply Blk.alloc) | ((with_reducible apply Blk.far);rotate_left;(focus (first | (simp;done) | (simp;omega) | omega))) | ((with_reducible apply Blk.grew);rotate_left;(with_reducible assumption)) | ((with_reducible apply Blk.turned);rotate_left;(with_reducible assumption);(focus (first | (simp;done) | (simp;omega) | omega))) | fail));(· exact Cc λi _=>by rw [show seg lo 0 i=false from by simp [seg],Bool.or_false])),gB,gG⟩
    case round=>
     obtain ⟨j,hj,q,rfl,E,m,o,F⟩:=hrel;have D:=zh q;clear q v x C y z;have hx:=m.lt;have K:=o.lt;have y0:=o.cell 0;have y1:=o.cell 1;by_cases L:j<n
     . have ha:=m.cell (lo+j);rw [DW _ _ oo] at ha;have hf:=m.frozen (lo+j);go_wp2_with fail
       go_roundg (n - (j+1))
       case measure=>rw [D.out];omega
       case rel=>exact ⟨j+1,oo,oo,by go_num,gB,by (apply Blk.conv;(· (repeat' first | (with_reducible assumption) | (with_reducible apply Blk.setRow) | ((with_reducible apply Blk.farRow);rotate_left;(focus (first | (simp;done) | (simp;omega) | omega))) | (with_reducible apply Blk.drew) | (with_reducible apply Blk.drewN) | (with_reducible apply Blk.set_) | (with_reducible exact ik _ _ _ (by first | rfl | (simp;done) | (simp;omega))) | (with_reducible apply Blk.alloc) | ((with_reducible apply Blk.far);rotate_left;(focus (first | (simp;done) | (simp;omega) | omega))) | ((with_reducible apply Blk.grew);rotate_left;(with_reducible assumption)) | ((with_reducible apply Blk.turned);rotate_left;(with_reducible assumption);(focus (first | (simp;done) | (simp;omega) | omega))) | fail));(· rw [FA];exact Cc λi _=>bQ _ lo j i)),gB,gG⟩
     . obtain rfl:j=n:=oo;go_wp2_with fail
       go_roundg (l.length - (k+1))
       case measure=>rw [s.out];omega
       case rel=>exact ⟨k+1,oo,oo,by go_num,E,by (apply Blk.conv;(· (repeat' first | (with_reducible assumption) | (with_reducible apply Blk.setRow) | ((with_reducible apply Blk.farRow);rotate_left;(focus (first | (simp;done) | (simp;omega) | omega))) | (with_reducible apply Blk.drew) | (with_reducible apply Blk.drewN) | (with_reducible apply Blk.set_) | (with_reducible exact ik _ _ _ (by first | rfl | (simp;done) | (simp;omega))) | (with_reducible apply Blk.alloc) | ((with_reducible apply Blk.far);rotate_left;(focus (first | (simp;done) | (simp;omega) | omega))) | ((with_reducible apply Blk.grew);rotate_left;(with_reducible assumption)) | ((with_reducible apply Blk.turned);rotate_left;(with_reducible assumption);(focus (first | (simp;done) | (simp;omega) | omega))) | fail));(· exact Cc λi _=>(HN i).symm)),F⟩
  . obtain rfl:k=l.length:=oo;rw [j1] at a;clear d;go_wp2_with (first | (refine AJ rfl 271 _ rfl (w.heap.size+1) rfl 271 (AX (AH l)) _ a Tryz.underlying271 rfl (by rw [BN];exact G7) ?_) | (refine AF rfl 271 _ _ rfl w.heap.size (AX (AH l)) rfl rfl 271 _ g (by rw [BN,BN]) (by rw [BN];exact G7) (GQ _) ?_));refine im (results_cell_row rfl _ _ _ 271 (AX (AH l)) (0,0) _ rfl (g.setRow _) Tryz.underlying271 rfl (by rw [BN];exact G7)) rfl ?_;exact ⟨rfl,gG⟩

def P7 (l:List (Nat × Nat)):List (Nat × Nat):=l.set (l.length - 1) ((l.getD (l.length - 1) (0,0)).1,(l.getD (l.length - 1) (0,0)).2+1)
theorem P2 (l:List (Nat × Nat)) (j:Nat) (h:j<l.length):l.getD j (0,0)=l[j]:=by simp [List.getD,h]
def FM (S:Nat->Bool) (l:List (Nat × Nat)) (i:Nat):List (Nat × Nat):=if S i=false then l else if 0<i/\S (i - 1)=true then P7 l else l++[(i,1)]
def A0 (S:Nat->Bool):Nat->List (Nat × Nat)
 | 0=>[]
 | k+1=>FM S (A0 S k) k
def AK (S:Nat->Bool):List (Nat × Nat):=A0 S 128
theorem RB (l:List (Nat × Nat)):(P7 l).length=l.length:=by simp [P7]
theorem X1 (S:Nat->Bool) (l:List (Nat × Nat)) (i:Nat):(FM S l i).length<=l.length+1:=by
 unfold FM;repeat' split
 . omega
 . rw [RB];omega
 . simp
theorem Ja (S:Nat->Bool) (k:Nat):(A0 S k).length<=k:=by
 induction k with
 | zero=>simp [A0]
 | succ k ih=>have:=X1 S (A0 S k) k;rw [A0];omega
theorem Nn (S:Nat->Bool) (k:Nat) (hk:0<k) (h:S (k - 1)=true):0<(A0 S k).length:=by
 obtain ⟨j,rfl⟩:∃j,k=j+1:=⟨k - 1,oo⟩;have h':S j=true:=h;rw [A0,FM,if_neg (by simp [h'])];split
 . rename_i h2;have:=Nn S j h2.1 h2.2;rw [RB];exact this
 . simp
theorem eW (l:List (Nat × Nat)) (k:Nat) (h:∀r∈l,r.1+r.2<=k):∀r∈P7 l,r.1+r.2<=k+1:=by
 intro r hr;rcases jE hr with hr | rfl
 . have:=h r hr;omega
 . simp only [];by_cases hl:l.length - 1<l.length
   . have:=h (l.getD (l.length - 1) (0,0)) (by rw [P2 l _ hl];exact ib hl);omega
   . have:l=[]:=kI.1 oo;subst this;simp
theorem Gu (S:Nat->Bool) (k:Nat):∀r∈A0 S k,r.1+r.2<=k:=by
 induction k with
 | zero=>intro r hr;simp [A0] at hr
 | succ k ih=>
   intro r hr;rw [A0,FM] at hr;split at hr
   . have:=ih r hr;omega
   . split at hr
     . exact eW _ k ih r hr
     . rcases ip.1 hr with hr | hr
       . have:=ih r hr;omega
       . rw [ia.1 hr];simp
def Cf (r:Nat × Nat):List Value:=[.int .i64 (r.1:Int),.int .i64 (r.2:Int)]
theorem Ec:(Tryz.prog.info? 229).map (λi=>(i.zero,i.size,i.bytes))=some (some (.agg #[.int .i64 0,.int .i64 0]),2,16):=qk
theorem be (l:List (Nat × Nat)) (j:Nat) (a b b':Nat) (h:l[j]? =some (a,b)):(l.map Cf).set j ((Cf (a,b)).set 1 (.int .i64 (b':Int)))=(l.set j (a,b')).map Cf:=by
 rw [List.map_set];rfl
theorem SI (g:Nat) (S:Nat->Bool) (w:World) (hs:Blk w g 271 (AX S)):
 Calls Tryz.prog 186 #[.pointer (some ⟨g,0,none⟩)] w λe w'=>∃v,e=.returned v/\OwnL w' w.heap.size 229 2 v ((AK S).map Cf)/\Grew w w':=by
 have D:=hs.lt;go_enter Tryz.func186,Tryz.ntmps186;go_wp2_with fail
 go_loopg [3,7] 128 (λgk v i wr=>∃k:Nat,k<=128/\gk=128 - k/\i=.int .i64 k/\OwnL wr w.heap.size 229 2 v ((A0 S k).map Cf)/\Grew w wr)
 case atStart=>exact ⟨0,oo,oo,rfl,OwnL.nil _ _ _ _,gG⟩
 case round=>
  obtain ⟨k,hk,x,rfl,b,hg⟩:=hrel;have j:=zh x;clear x;have l:=hs.grew hg;by_cases A:k<128
  . have c0:=l.cell k;rw [DW _ _ A] at c0;have a:A0 S (k+1)=FM S (A0 S k) k:=rfl;have E:=Ja S k;have c:=Gu S k;by_cases hS:S k=true
    . rw [FM,if_neg (by simp [hS])] at a;rw [hS] at c0;by_cases hp:0<k/\S (k - 1)=true
      . rw [if_pos hp] at a;have c1:=l.cell (k - 1);rw [DW _ _ oo,hp.2] at c1;have y:=Nn S k hp.1 hp.2;have HS:=zh a;have HB:=zh c;have u:=hp.1;clear a c hS hp;rcases b.form with ⟨_,h0⟩ | ⟨gv,cap,hv,J,K,L,M⟩
        . exfalso;have:=ix length h0;simp at this;simp [this] at y
        . subst hv
          have f:(A0 S k)[(A0 S k).length - 1]? =some ((A0 S k).getD ((A0 S k).length - 1) (0,0)):=by
           rw [P2 _ _ oo];exact iV oo
          have z:=HB.out _ (js f);generalize hld:(A0 S k).getD ((A0 S k).length - 1) (0,0)=ld at*
          obtain ⟨la,lb⟩:=ld;have m:((A0 S k).map Cf)[(A0 S k).length - 1]? =some (Cf (la,lb)):=by rw [iZ,f];rfl
          have d1:=b.cell (i:=1) m rfl;have d0:=b.frozen (((A0 S k).length - 1)*2+1);rw [iY] at*
          have F:gv≠g:=by intro e;exact absurd (b.ne_blk l qd) (by simp [Value.ownBlock,e])
          have n:=b.set_ (i:=1) (o:=((A0 S k).length - 1)*2+1) m oo rfl (.int .i64 ((lb+1:Nat):Int));rw [be _ _ la lb (lb+1) f] at n;have HL:=zh hld;have G:=zh f;have HR:=zh m;simp only at z;have HN:=zh n;clear n hld f m;generalize hq:(A0 S k).length=q at*
          have H:((q:Int) - 1)=((q - 1:Nat):Int):=oo;go_wp2_with fail
          go_region
          go_wp2_with fail
          go_roundg (128 - (k+1))
          case measure=>rw [j.out];omega
          case rel=>exact ⟨k+1,oo,oo,by go_num,by rw [HS.out,P7,hq,HL.out];exact HN.drew,gG⟩
      . rw [if_neg hp] at a;have HS:=zh a;have HB:=zh c
        have p:k=0\/S (k - 1)=false:=by
         by_cases h:k=0
         . exact .inl h
         . right;cases h2:S (k - 1) with
           | false=>rfl
           | true=>exact absurd ⟨oo,h2⟩ hp
        clear a c hS hp
        have hx:∃d:Value,0<k->wr.cell? ⟨g,k - 1,none⟩=some (.bool false):=⟨.bool false,λh=>by
         have c1:=l.cell (k - 1)
         rw [DW _ _ oo] at c1
         rcases p with h' | h'
         . omega
         . rw [h'] at c1;exact c1⟩
        obtain ⟨_,hx⟩:=hx;by_cases u:k=0
        . subst u;clear p hx;go_wp2_with fail
          go_region
          go_wp2_with (at_builtin;refine AY rfl _ _ 99 rfl w.heap.size 229 2 16 _ Tryz.underlying99 Ec rfl qd wr.drew _ ((A0 S 0).map Cf) (Cf (0,1)) (by rfl) rfl rfl b.drew (by first | rfl | (simp;done)) rfl rfl (by rw [iY];omega) (by rw [iY];omega) hg.size ?_;intro v' w1 s t B C)
          go_roundg (128 - (0+1))
          case measure=>rw [j.out];omega
          case rel=>exact ⟨0+1,oo,oo,by go_num,by rw [HS.out,il];exact s,t _ hg.drew (iX _)⟩
        . have I:=hx oo;clear p hx;go_wp2_with fail
          go_region
          go_wp2_with (at_builtin;refine AY rfl _ _ 99 rfl w.heap.size 229 2 16 _ Tryz.underlying99 Ec rfl qd wr.drew _ ((A0 S k).map Cf) (Cf (k,1)) (by rfl) rfl rfl b.drew (by first | rfl | (simp;done)) rfl rfl (by rw [iY];omega) (by rw [iY];omega) hg.size ?_;intro v' w1 s t B C)
          go_roundg (128 - (k+1))
          case measure=>rw [j.out];omega
          case rel=>exact ⟨k+1,oo,oo,by go_num,by rw [HS.out,il];exact s,t _ hg.drew (iX _)⟩
    . have r:S k=false:=by simpa using hS
      rw [FM,if_pos r] at a;rw [r] at c0;have HS:=zh a;have HB:=zh c;clear a c hS r;go_wp2_with fail
      go_region
      go_wp2_with fail
      go_roundg (128 - (k+1))
      case measure=>rw [j.out];omega
      case rel=>exact ⟨k+1,oo,oo,by go_num,by rw [HS.out];exact b.drew,gG⟩
  . obtain rfl:k=128:=oo;go_wp2_with fail;go_ret;exact ⟨_,rfl,b,hg⟩

def El (l:List (Int × Int)):Nat:=(l.map λr=>(Be r).2).sum
theorem TR (l:List (Int × Int)) (k:Nat) (h:k<l.length):El (l.take (k+1))=El (l.take k)+(Be l[k]).2:=by
 unfold El;rw [ic h,il,List.sum_append];simp
theorem Yu (l:List (Int × Int)):El l<=128*l.length:=by
 induction l with
 | nil=>simp [El]
 | cons r l ih=>
   have:=Fs r;unfold El at ih ⊢;simp only [map_cons,sum_cons,jf];omega
def atS:List (Int × Int)->Int->Int × Bool
 | [],_=>(0,false)
 | r::l,i=>if i<((Be r).2:Int) then ((Be r).1+i,true) else atS l (i - (Be r).2)
theorem Wp (l:List (Int × Int)) (k:Nat) (h:k<l.length):l.drop k=l[k]::l.drop (k+1):=jz h
theorem UE {a b:Int} {c d:Bool} (h:a=b) (h':c=d):Ending.returned (.tuple #[.int .i64 a,.bool c])=.returned (.tuple #[.int .i64 b,.bool d]):=by rw [h,h']
theorem DK {k:IntKind} {a b:Int} (h:a=b):Ending.returned (.int k a)=.returned (.int k b):=by rw [h]
theorem YR (W:World) (a b:Int):(Instr.field 229 (.agg #[.int .i64 a,.int .i64 b]) 1).run Tryz.prog W=.ok (.int .i64 b) W:=qk
section
variable (A:Option Addr) (c:Nat) (l:List (Int × Int)) (w:World) (B:Nat) (hB:B<=w.heap.size) (hl:l.length<=1000000) (hr:RunsAt w B A l)
include hB hl hr
theorem RP:Calls Tryz.prog 184 #[.slice A l.length c] w λe w'=>e=.returned (.int .i64 (El l))/\Grew w w':=by
 have HR:=zh hr;clear hr;have j:=YR;go_enter Tryz.func184,Tryz.ntmps184;go_wp2_with fail
 go_loopg [3,8] l.length (λgk n i wr=>∃k:Nat,k<=l.length/\gk=l.length - k/\i=.int .i64 k/\n=.int .i64 (El (l.take k))/\Grew w wr)
 case atStart=>exact ⟨0,oo,oo,rfl,rfl,gG⟩
 case round=>
  obtain ⟨k,hk,d,rfl,rfl,hg⟩:=hrel;have h:=zh d;clear d;have m:=Yu (l.take k);have o:(l.take k).length<=1000000:=ij (length_take_le _ _) oo;by_cases a:k<l.length
  . obtain ⟨b,s,f,c,rfl,hb,g,⟨f0,f1,c0,c1⟩,x0,x1⟩:=(HR.keep hB hg).at_ a;simp only at f0 f1 c0 c1;have p:b<wr.heap.size:=by have:=hg.size;omega
    have q:=hg.size;have r:=Fs (f,c);have HN:=zh ((TR l k a).trans (by rw [g]));clear g;go_wp2_with fail;refine (KV f c _ f0 f1 c0 c1).mono ?_;rintro e w1 ⟨rfl,g1⟩;go_wp2_with fail
    go_roundg (l.length - (k+1))
    case measure=>rw [h.out];omega
    case rel=>exact ⟨k+1,oo,oo,by go_num,by rw [HN.out];go_num,gG⟩
  . obtain rfl:k=l.length:=oo;go_wp2_with fail;go_ret;exact ⟨DK (by rw [j1]),gG⟩
theorem gR (t:Int) (t0:-9223372036854775808<=t) (t1:t<=9223372036854775807):
 Calls Tryz.prog 94 #[.slice A l.length c,.int .i64 t] w λe w'=>e=.returned (.tuple #[.int .i64 (if t<0 then (0,false) else atS l t).1,.bool (if t<0 then (0,false) else atS l t).2])/\Grew w w':=by
 have HR:=zh hr;clear hr;by_cases d:t<0
 . rw [if_pos d];go_enter Tryz.func94,Tryz.ntmps94;go_wp2_with fail;go_ret2;exact ⟨rfl,gG⟩
 . rw [if_neg d];go_enter Tryz.func94,Tryz.ntmps94;go_wp2_with fail
   go_loopg [1,12] l.length (λgk m i wr=>∃(k:Nat) (n:Int),k<=l.length/\gk=l.length - k/\i=.int .i64 k/\m=.int .i64 n/\0<=n/\n<=9223372036854775807/\atS l t=atS (l.drop k) n/\Grew w wr)
   case atStart=>exact ⟨0,t,oo,oo,rfl,rfl,oo,oo,rfl,gG⟩
   case round=>
    obtain ⟨k,n,hk,j,rfl,rfl,z,B,a,hg⟩:=hrel;have p:=zh j;clear j;by_cases g:k<l.length
    . obtain ⟨b,C,f,c,rfl,hb,o,⟨f0,f1,c0,c1⟩,x0,x1⟩:=(HR.keep hB hg).at_ g;simp only at f0 f1 c0 c1;have s:b<wr.heap.size:=by have:=hg.size;omega
      have u:=hg.size;have q:=Fs (f,c);rw [Wp l k g,o,atS] at a;have HX:=zh a;clear o a;have HC:=λW=>zh (KV f c W f0 f1 c0 c1);generalize Be (f,c)=r at*
      obtain ⟨lo,nn⟩:=r;simp only at q;go_wp2_with fail;refine (HC _).out.mono ?_;rintro e w1 ⟨rfl,g1⟩;have v:=g1.cellEq;have x:=g1.frozenEq;have y:wr.heap.size<w1.heap.size:=by have:=g1.size;simp at this;omega
      by_cases h:n<(nn:Int)
      . have HF:=zh (HX.out.trans (if_pos h));go_wp2_with fail;go_ret2;exact ⟨UE (by rw [HF.out]) (by rw [HF.out]),gG⟩
      . have HF:=zh (HX.out.trans (if_neg h));go_wp2_with fail
        go_roundg (l.length - (k+1))
        case measure=>rw [p.out];omega
        case rel=>exact ⟨k+1,n - nn,oo,oo,by go_num,by go_num,oo,oo,HF,gG⟩
    . rw [drop_eq_nil_of_le oo,atS] at a;have HF:=zh a;clear a;go_wp2_with fail;go_ret2;exact ⟨UE (by rw [HF.out]) (by rw [HF.out]),gG⟩
end

def Cq (l:List (Nat × Nat)):List (Int × Int):=l.map λr=>((r.1:Int),(r.2:Int))
theorem Dw (l:List (Nat × Nat)):(Cq l).length=l.length:=by simp [Cq]
theorem K1 (l:List (Nat × Nat)):(Cq l).map G1=l.map Cf:=by simp [Cq,G1,Cf]
theorem OI {w:World} {base:Nat} {v:Value} {l:List (Nat × Nat)} (h:OwnL w base 229 2 v (l.map Cf)) (hb:∀r∈l,r.1+r.2<=1000000):
 ∃A c,v=.slice A (Cq l).length c/\RunsAt w w.heap.size A (Cq l):=by
 obtain ⟨A,c,hv,_,_,hl⟩:=h.listAt;refine ⟨A,c,by rw [hv,iY,Dw],?_,by rw [K1];exact hl⟩;intro r hr;obtain ⟨x,hx,rfl⟩:=ie.1 hr;have:=hb x hx;unfold GR;simp only [];omega
theorem OwnL.mono {w:World} {base base' e sz:Nat} {v:Value} {rows:List (List Value)} (h:OwnL w base e sz v rows) (hb:base'<=base):OwnL w base' e sz v rows:=by
 refine ⟨h.1,h.2.1,?_⟩;rcases h.2.2 with h0 | ⟨g,cap,a,hv,hg,hr⟩
 . exact .inl h0
 . exact .inr ⟨g,cap,a,hv,oo,hr⟩
theorem Tv {l1 l2:List (Int × Int)} (hl:l1.length=l2.length) (h:∀j (h1:j<l1.length) (h2:j<l2.length),l1[j]=l2[j]):l1=l2:=kR hl h
theorem K9 (A1 A2:Option Addr) (c1 c2:Nat) (l1 l2:List (Int × Int)) (w:World) (B:Nat) (hB:B<=w.heap.size) (A:l1.length<=1000000) (z:l2.length<=1000000) (l:RunsAt w B A1 l1) (g:RunsAt w B A2 l2):
 Calls Tryz.prog 179 #[.slice A1 l1.length c1,.slice A2 l2.length c2] w λe w'=>e=.returned (.bool (decide (l1=l2)))/\Grew w w':=by
 by_cases a:l1.length=l2.length
 . have HL:=zh a;have hb:((l1.length:Int) != (l2.length:Int))=false:=by rw [a];simp
   have t:=zh l;have u:=zh g;clear l g a;go_enter Tryz.func179,Tryz.ntmps179;go_wp2_with fail
   go_loopg [13] l1.length (λgk i wr=>∃k:Nat,k<=l1.length/\gk=l1.length - k/\i=.int .i64 k/\(∀j (h1:j<l1.length) (h2:j<l2.length),j<k->l1[j]=l2[j])/\Grew w wr)
   case atStart=>exact ⟨0,oo,oo,rfl,λj _ _ h=>oo,gG⟩
   case round=>
    obtain ⟨k,hk,p,rfl,q,hg⟩:=hrel;have v:=zh p;have HA:=zh q;clear p q;by_cases o:k<l1.length
    . have x:k<l2.length:=by rw [<-HL.out];exact o
      obtain ⟨b,C,f,c,rfl,D,r,-,x0,x1⟩:=(t.keep hB hg).at_ o;obtain ⟨b',E,f',c',rfl,n,s,-,y0,y1⟩:=(u.keep hB hg).at_ x;have HK:=zh r;have m:=zh s;clear r s;by_cases d:f=f'/\c=c'
      . obtain ⟨rfl,rfl⟩:=d;go_wp2_with fail
        go_quiet (fail)
        go_wp2_with fail
        go_roundg (l1.length - (k+1))
        case measure=>rw [v.out];omega
        case rel=>
         refine ⟨k+1,oo,oo,by go_num,λj h1 h2 hj=>?_,gG⟩;by_cases y:j=k
         . subst y;rw [HK.out,m.out]
         . exact HA.out j h1 h2 oo
      . have HD:=zh (show decide (l1=l2)=false from by
         rw [decide_eq_false_iff_not]
         intro h
         apply d
         have h2:l1[k]=l2[k]:=by simp only [h]
         rw [HK.out,m.out] at h2
         exact ⟨ix Prod.fst h2,ix Prod.snd h2⟩)
        by_cases hf:f=f'
        . subst hf;have n:(c==c')=false:=it.2 (λh=>d ⟨rfl,h⟩);clear d;go_wp2_with fail
          go_quiet (fail)
          go_wp2_with fail;go_ret;exact ⟨AC (by rw [HD.out]),gG⟩
        . have n:(f==f')=false:=it.2 hf;clear d;go_wp2_with fail
          go_quiet (fail)
          go_wp2_with fail;go_ret;exact ⟨AC (by rw [HD.out]),gG⟩
    . have HD:=zh (show decide (l1=l2)=true from by
       rw [jG]
       exact Tv HL (λj h1 h2=>HA j h1 h2 oo))
      go_wp2_with fail;go_ret;exact ⟨AC (by rw [HD.out]),gG⟩
 . have HD:=zh (show decide (l1=l2)=false from by
    rw [decide_eq_false_iff_not];intro h;exact a (by rw [h]))
   have hb:((l1.length:Int) != (l2.length:Int))=true:=by rw [jH];omega
   clear a;go_enter Tryz.func179,Tryz.ntmps179;go_wp2_with fail;go_ret;exact ⟨AC (by rw [HD.out]),gG⟩
theorem Jg (A:Option Addr) (c:Nat) (l:List (Int × Int)) (w:World) (B:Nat) (hB:B<=w.heap.size) (hl:l.length<=1000000) (hr:RunsAt w B A l):
 Calls Tryz.prog 146 #[.slice A l.length c] w λe w'=>∃v,e=.returned v/\OwnL w' w.heap.size 229 2 v ((AK (AH l)).map Cf)/\Grew w w':=by
 have hz:=NK;go_enter Tryz.func146,Tryz.ntmps146;go_wp2_with fail;refine (Ub A c l w B hB oo hr).mono ?_;rintro e w1 ⟨rfl,g1⟩;have hb:=ik w1 271 (AX λ_=>false) rfl;go_wp2_with (refine AF rfl 271 _ _ rfl w1.heap.size (AX (AH l)) rfl rfl 271 _ hb (by rw [BN,BN]) (by rw [BN];exact G7) (GQ _) ?_);refine (SI w1.heap.size (AH l) _ (hb.setRow _)).mono ?_;rintro e w2 ⟨v,rfl,a,g2⟩;have b:w.heap.size<=w1.heap.size:=g1.size;go_wp2_with fail;go_ret;exact ⟨v,rfl,a.mono (by simp [World.setRow];omega),gG⟩

theorem MM (b:Bool) (w:World):Calls Tryz.prog 237 #[.bool b] w λe w'=>e=.returned (.int .i64 (if b then 1 else 0))/\w=w':=by
 cases b
 all_goals
  go_enter Tryz.func237,Tryz.ntmps237
  go_wp2
  go_ret;exact ⟨rfl,rfl⟩
theorem KF (k i:Nat) (r:Bool) (F:Nat->Bool) (h:F k=r):(if i=k then r else if i<k then F i else false)=(if i<k+1 then F i else false):=by
 by_cases hi:i=k
 . subst hi;rw [if_pos rfl,if_pos oo,h]
 . rw [if_neg hi];by_cases hk:i<k
   . rw [if_pos hk,if_pos oo]
   . rw [if_neg hk,if_neg oo]
def tbS (t:Bool × Bool × Bool × Bool) (x y:Bool):Bool:=if x then (if y then t.2.2.2 else t.2.2.1) else (if y then t.2.1 else t.1)
theorem eR (A1 A2:Option Addr) (c1 c2:Nat) (l1 l2:List (Int × Int)) (t:Bool × Bool × Bool × Bool) (w:World) (B:Nat) (hB:B<=w.heap.size) (hl1:l1.length<=1000000) (hl2:l2.length<=1000000) (hr1:RunsAt w B A1 l1) (hr2:RunsAt w B A2 l2):
 Calls Tryz.prog 222 #[.slice A1 l1.length c1,.slice A2 l2.length c2,.agg #[.bool t.1,.bool t.2.1,.bool t.2.2.1,.bool t.2.2.2]] w λe w'=>∃v,e=.returned v/\OwnL w' w.heap.size 229 2 v ((AK λi=>tbS t (AH l1 i) (AH l2 i)).map Cf)/\Grew w w':=by
 have hz:=NK;obtain ⟨t0,t1,t2,t3⟩:=t;go_enter Tryz.func222,Tryz.ntmps222;go_wp2_with fail;refine (Ub A1 c1 l1 _ B (by simp;omega) oo (hr1.keep hB (gG))).mono ?_;rintro e w1 ⟨rfl,g1⟩;have hg1:Grew w w1:=gG;have ht1:Blk w1 w.heap.size 315 #[.bool t0,.bool t1,.bool t2,.bool t3]:=(ik w _ _ rfl).grew g1;clear g1;go_wp2_with fail;refine (Ub A2 c2 l2 w1 B (ij hB hg1.size) oo (hr2.keep hB hg1)).mono ?_;rintro e w2 ⟨rfl,g2⟩;have hg2:Grew w w2:=hg1.trans g2;have ht2:=ht1.grew g2;have hws:=hg2.size;clear hg1 ht1 g2;have hbx:Blk ((w2.alloc (.cells (AX λ_=>false) 271)).alloc (.cells (AX λ_=>false) 271)) w2.heap.size 271 (AX λ_=>false):=gB;have hby:Blk (((w2.alloc (.cells (AX λ_=>false) 271)).alloc (.cells (AX λ_=>false) 271)).setRow w2.heap.size (AX (AH l1))) (w2.heap.size+1) 271 (AX λ_=>false):=gB;go_wp2_with (first | (refine AF rfl 271 _ _ rfl w2.heap.size (AX (AH l1)) rfl rfl 271 _ hbx (by rw [BN,BN]) (by rw [BN];exact G7) (GQ _) ?_) | (refine AF rfl 271 _ _ rfl (w2.heap.size+1) (AX (AH l2)) rfl rfl 271 _ hby (by rw [BN,BN]) (by rw [BN];exact G7) (GQ _) ?_));have htx:=((((ht2.alloc (.cells (AX λ_=>false) 271)).alloc (.cells (AX λ_=>false) 271)).farRow (g':=w2.heap.size) (by have:=ht2.lt;omega) (AX (AH l1))).farRow (g':=w2.heap.size+1) (by have:=ht2.lt;omega) (AX (AH l2))).alloc (.cells (AX λ_=>false) 271);have hgx:w.heap.size<w2.heap.size:=ht2.lt
 go_loopg [16] 128 (λgk i wr=>∃k:Nat,k<=128/\gk=128 - k/\i=.int .i64 k/\Blk wr w.heap.size 315 #[.bool t0,.bool t1,.bool t2,.bool t3]/\Blk wr w2.heap.size 271 (AX (AH l1))/\Blk wr (w2.heap.size+1) 271 (AX (AH l2))/\Blk wr (w2.heap.size+1+1) 271 (AX λi=>if i<k then tbS (t0,t1,t2,t3) (AH l1 i) (AH l2 i) else false)/\Grew w wr)
 case atStart=>exact ⟨0,oo,oo,rfl,htx,gB,gB,gB,gG⟩
 case round=>
  clear htx hbx hby ht2 hg2;obtain ⟨k,hk,hgk,rfl,hbt,hbx,hby,hbs,hg⟩:=hrel;have HGK:=zh hgk;clear hgk;have hzs:=hbs.lt;by_cases hlt:k<128
  . have cx:=hbx.cell k;rw [DW _ _ hlt] at cx;have cy:=hby.cell k;rw [DW _ _ hlt] at cy;have cs:=hbs.cell k;rw [DW _ _ hlt] at cs;have fs:=hbs.frozen k;have q0:=hbt.cell 0;have q1:=hbt.cell 1;have q2:=hbt.cell 2;have q3:=hbt.cell 3;have hn1:¬w.heap.size=w2.heap.size+1+1:=oo;have hn2:¬w2.heap.size+1+1=w.heap.size:=oo;have hks:∀v,(wr.setCell ⟨w2.heap.size+1+1,k,none⟩ v).cell? ⟨w2.heap.size,k,none⟩=wr.cell? ⟨w2.heap.size,k,none⟩:=λv=>World.cell?_setCell_other _ _ _ _ (λe=>by injection e;omega);have hkn:(0:Int)<=(k:Int):=oo;have hkn2:(k:Int)<128:=oo;rcases hX:AH l1 k with _ | _<;>rcases hY:AH l2 k with _ | _
    . rw [hX] at cx;rw [hY] at cy;have HX:=zh hX;have HY:=zh hY;clear hX hY;go_wp2_with fail
      go_region_held3 (λw'=>w'.cell? ⟨w2.heap.size,k,none⟩=some (.bool false)/\w'.cell? ⟨w2.heap.size+1,k,none⟩=some (.bool false)/\w'.cell? ⟨w.heap.size,0,none⟩=some (.bool t0)/\w'.cell? ⟨w.heap.size,1,none⟩=some (.bool t1)/\w'.cell? ⟨w.heap.size,2,none⟩=some (.bool t2)/\w'.cell? ⟨w.heap.size,3,none⟩=some (.bool t3)) (go_keep) (first | (go_at_call 237;refine (MM _ _).mono ?_;rintro e w' ⟨rfl,rfl⟩))
      go_wp2_with fail
      go_roundg (128 - (k+1))
      case measure=>rw [HGK.out];omega
      case rel=>exact ⟨k+1,oo,oo,by go_num,gB,gB,gB,by (apply Blk.conv;(· (repeat' first | (with_reducible assumption) | (with_reducible apply Blk.setRow) | ((with_reducible apply Blk.farRow);rotate_left;(focus (first | (simp;done) | (simp;omega) | omega))) | (with_reducible apply Blk.drew) | (with_reducible apply Blk.drewN) | (with_reducible apply Blk.set_) | (with_reducible exact ik _ _ _ (by first | rfl | (simp;done) | (simp;omega))) | (with_reducible apply Blk.alloc) | ((with_reducible apply Blk.far);rotate_left;(focus (first | (simp;done) | (simp;omega) | omega))) | ((with_reducible apply Blk.grew);rotate_left;(with_reducible assumption)) | ((with_reducible apply Blk.turned);rotate_left;(with_reducible assumption);(focus (first | (simp;done) | (simp;omega) | omega))) | fail));(· rw [FA];exact Cc λi _=>KF k i t0 (λi=>tbS (t0,t1,t2,t3) (AH l1 i) (AH l2 i)) (by show tbS _ (AH l1 k) (AH l2 k)=_;rw [HX.out,HY.out];rfl))),gG⟩
    . rw [hX] at cx;rw [hY] at cy;have HX:=zh hX;have HY:=zh hY;clear hX hY;go_wp2_with fail
      go_region_held3 (λw'=>w'.cell? ⟨w2.heap.size,k,none⟩=some (.bool false)/\w'.cell? ⟨w2.heap.size+1,k,none⟩=some (.bool true)/\w'.cell? ⟨w.heap.size,0,none⟩=some (.bool t0)/\w'.cell? ⟨w.heap.size,1,none⟩=some (.bool t1)/\w'.cell? ⟨w.heap.size,2,none⟩=some (.bool t2)/\w'.cell? ⟨w.heap.size,3,none⟩=some (.bool t3)) (go_keep) (first | (go_at_call 237;refine (MM _ _).mono ?_;rintro e w' ⟨rfl,rfl⟩))
      go_wp2_with fail
      go_roundg (128 - (k+1))
      case measure=>rw [HGK.out];omega
      case rel=>exact ⟨k+1,oo,oo,by go_num,gB,gB,gB,by (apply Blk.conv;(· (repeat' first | (with_reducible assumption) | (with_reducible apply Blk.setRow) | ((with_reducible apply Blk.farRow);rotate_left;(focus (first | (simp;done) | (simp;omega) | omega))) | (with_reducible apply Blk.drew) | (with_reducible apply Blk.drewN) | (with_reducible apply Blk.set_) | (with_reducible exact ik _ _ _ (by first | rfl | (simp;done) | (simp;omega))) | (with_reducible apply Blk.alloc) | ((with_reducible apply Blk.far);rotate_left;(focus (first | (simp;done) | (simp;omega) | omega))) | ((with_reducible apply Blk.grew);rotate_left;(with_reducible assumption)) | ((with_reducible apply Blk.turned);rotate_left;(with_reducible assumption);(focus (first | (simp;done) | (simp;omega) | omega))) | fail));(· rw [FA];exact Cc λi _=>KF k i t1 (λi=>tbS (t0,t1,t2,t3) (AH l1 i) (AH l2 i)) (by show tbS _ (AH l1 k) (AH l2 k)=_;rw [HX.out,HY.out];rfl))),gG⟩
    . rw [hX] at cx;rw [hY] at cy;have HX:=zh hX;have HY:=zh hY;clear hX hY;go_wp2_with fail
      go_region_held3 (λw'=>w'.cell? ⟨w2.heap.size,k,none⟩=some (.bool true)/\w'.cell? ⟨w2.heap.size+1,k,none⟩=some (.bool false)/\w'.cell? ⟨w.heap.size,0,none⟩=some (.bool t0)/\w'.cell? ⟨w.heap.size,1,none⟩=some (.bool t1)/\w'.cell? ⟨w.heap.size,2,none⟩=some (.bool t2)/\w'.cell? ⟨w.heap.size,3,none⟩=some (.bool t3)) (go_keep) (first | (go_at_call 237;refine (MM _ _).mono ?_;rintro e w' ⟨rfl,rfl⟩))
      go_wp2_with fail
      go_roundg (128 - (k+1))
      case measure=>rw [HGK.out];omega
      case rel=>exact ⟨k+1,oo,oo,by go_num,gB,gB,gB,by (apply Blk.conv;(· (repeat' first | (with_reducible assumption) | (with_reducible apply Blk.setRow) | ((with_reducible apply Blk.farRow);rotate_left;(focus (first | (simp;done) | (simp;omega) | omega))) | (with_reducible apply Blk.drew) | (with_reducible apply Blk.drewN) | (with_reducible apply Blk.set_) | (with_reducible exact ik _ _ _ (by first | rfl | (simp;done) | (simp;omega))) | (with_reducible apply Blk.alloc) | ((with_reducible apply Blk.far);rotate_left;(focus (first | (simp;done) | (simp;omega) | omega))) | ((with_reducible apply Blk.grew);rotate_left;(with_reducible assumption)) | ((with_reducible apply Blk.turned);rotate_left;(with_reducible assumption);(focus (first | (simp;done) | (simp;omega) | omega))) | fail));(· rw [FA];exact Cc λi _=>KF k i t2 (λi=>tbS (t0,t1,t2,t3) (AH l1 i) (AH l2 i)) (by show tbS _ (AH l1 k) (AH l2 k)=_;rw [HX.out,HY.out];rfl))),gG⟩
    . rw [hX] at cx;rw [hY] at cy;have HX:=zh hX;have HY:=zh hY;clear hX hY;go_wp2_with fail
      go_region_held3 (λw'=>w'.cell? ⟨w2.heap.size,k,none⟩=some (.bool true)/\w'.cell? ⟨w2.heap.size+1,k,none⟩=some (.bool true)/\w'.cell? ⟨w.heap.size,0,none⟩=some (.bool t0)/\w'.cell? ⟨w.heap.size,1,none⟩=some (.bool t1)/\w'.cell? ⟨w.heap.size,2,none⟩=some (.bool t2)/\w'.cell? ⟨w.heap.size,3,none⟩=some (.bool t3)) (go_keep) (first | (go_at_call 237;refine (MM _ _).mono ?_;rintro e w' ⟨rfl,rfl⟩))
      go_wp2_with fail
      go_roundg (128 - (k+1))
      case measure=>rw [HGK.out];omega
      case rel=>exact ⟨k+1,oo,oo,by go_num,gB,gB,gB,by (apply Blk.conv;(· (repeat' first | (with_reducible assumption) | (with_reducible apply Blk.setRow) | ((with_reducible apply Blk.farRow);rotate_left;(focus (first | (simp;done) | (simp;omega) | omega))) | (with_reducible apply Blk.drew) | (with_reducible apply Blk.drewN) | (with_reducible apply Blk.set_) | (with_reducible exact ik _ _ _ (by first | rfl | (simp;done) | (simp;omega))) | (with_reducible apply Blk.alloc) | ((with_reducible apply Blk.far);rotate_left;(focus (first | (simp;done) | (simp;omega) | omega))) | ((with_reducible apply Blk.grew);rotate_left;(with_reducible assumption)) | ((with_reducible apply Blk.turned);rotate_left;(with_reducible assumption);(focus (first | (simp;done) | (simp;omega) | omega))) | fail));(· rw [FA];exact Cc λi _=>KF k i t3 (λi=>tbS (t0,t1,t2,t3) (AH l1 i) (AH l2 i)) (by show tbS _ (AH l1 k) (AH l2 k)=_;rw [HX.out,HY.out];rfl))),gG⟩
  . obtain rfl:k=128:=oo;have hbs':Blk wr (w2.heap.size+1+1) 271 (AX λi=>tbS (t0,t1,t2,t3) (AH l1 i) (AH l2 i)):=by (apply Blk.conv;(· (repeat' first | (with_reducible assumption) | (with_reducible apply Blk.setRow) | ((with_reducible apply Blk.farRow);rotate_left;(focus (first | (simp;done) | (simp;omega) | omega))) | (with_reducible apply Blk.drew) | (with_reducible apply Blk.drewN) | (with_reducible apply Blk.set_) | (with_reducible exact ik _ _ _ (by first | rfl | (simp;done) | (simp;omega))) | (with_reducible apply Blk.alloc) | ((with_reducible apply Blk.far);rotate_left;(focus (first | (simp;done) | (simp;omega) | omega))) | ((with_reducible apply Blk.grew);rotate_left;(with_reducible assumption)) | ((with_reducible apply Blk.turned);rotate_left;(with_reducible assumption);(focus (first | (simp;done) | (simp;omega) | omega))) | fail));(· exact Cc λi hi=>if_pos hi))
    go_wp2_with fail;refine (SI (w2.heap.size+1+1) _ wr hbs').mono ?_;rintro e w3 ⟨v,rfl,hown,g3⟩;go_wp2_with fail;go_ret;exact ⟨v,rfl,hown.mono hg.size,gG⟩
theorem WI (A1 A2:Option Addr) (c1 c2:Nat) (l1 l2:List (Int × Int)) (w:World) (B:Nat) (hB:B<=w.heap.size) (b:l1.length<=1000000) (a:l2.length<=1000000) (d:RunsAt w B A1 l1) (c:RunsAt w B A2 l2):
 Calls Tryz.prog 188 #[.slice A1 l1.length c1,.slice A2 l2.length c2] w λe w'=>∃v,e=.returned v/\OwnL w' w.heap.size 229 2 v ((AK λi=>AH l1 i && !AH l2 i).map Cf)/\Grew w w':=by
 have hC:=eR A1 A2 c1 c2 l1 l2 (false,false,true,false) w B hB b a d c
 have hf:(λi=>tbS (false,false,true,false) (AH l1 i) (AH l2 i))=λi=>AH l1 i && !AH l2 i:=by
  funext i;cases AH l1 i<;>cases AH l2 i<;>rfl
 rw [hf] at hC;have HC:=zh hC;clear hC;go_enter Tryz.func188,Tryz.ntmps188;go_wp2_with fail;refine HC.mono ?_;rintro e w1 ⟨v,rfl,f,g1⟩;go_wp2_with fail;go_ret;exact ⟨v,rfl,f,g1⟩

def inT (l:List (Int × Int)) (t:Int):Bool:=l.any λr=>decide (((Be r).1:Int)<=t/\t<((Be r).1:Int)+(Be r).2)
theorem dc (l:List (Int × Int)) (i:Nat):inT l i=AH l i:=by
 unfold inT AH;congr 1;funext r;unfold inS;rw [decide_eq_decide];omega
section
variable (A:Option Addr) (c:Nat) (l:List (Int × Int)) (w:World) (B:Nat) (hB:B<=w.heap.size) (hl:l.length<=1000000) (hr:RunsAt w B A l)
include hB hl hr
theorem QU:Calls Tryz.prog 143 #[.slice A l.length c] w λe w'=>e=.returned (.bool ((El l:Int)==(El (Cq (AK (AH l))):Int)))/\Grew w w':=by
 go_enter Tryz.func143,Tryz.ntmps143;go_wp2_with fail;refine (RP A c l w B hB hl hr).mono ?_;rintro e w1 ⟨rfl,g1⟩;go_wp2_with fail;refine (Jg A c l w1 B (ij hB g1.size) hl (hr.keep hB g1)).mono ?_;rintro e w2 ⟨v,rfl,a,g2⟩;obtain ⟨A',c',hv,b⟩:=OI a (λr hr=>ij (Gu _ _ r hr) oo);subst hv;have d:(AK (AH l)).length<=128:=Ja _ _;go_wp2_with fail;refine (RP A' c' _ w2 w2.heap.size (iX _) (by rw [Dw];omega) b).mono ?_;rintro e w3 ⟨rfl,g3⟩;go_wp2_with fail;go_ret;exact ⟨rfl,g1.trans (g2.trans g3)⟩
end

theorem Qn {S T:Nat->Bool}:∀k,(∀i,i<k->S i=T i)->A0 S k=A0 T k:=by
 intro k
 induction k with
 | zero=>intro _;rfl
 | succ k ih=>
   intro h;rw [A0,A0,ih (λi hi=>h i oo),FM,FM,h k oo];by_cases hk:0<k
   . rw [h (k - 1) oo]
   . have e1:¬(0<k/\S (k - 1)=true):=λh=>hk h.1;have e2:¬(0<k/\T (k - 1)=true):=λh=>hk h.1;rw [if_neg e1,if_neg e2]

def CP (acc:List (Nat × Nat)) (r:Nat × Nat):List (Nat × Nat):=
 if r.2=0 then acc
 else if acc≠[]/\(acc.getD (acc.length - 1) (0,0)).1+(acc.getD (acc.length - 1) (0,0)).2=r.1 then acc.set (acc.length - 1) ((acc.getD (acc.length - 1) (0,0)).1,(acc.getD (acc.length - 1) (0,0)).2+r.2)
 else acc++[r]
def FK (l:List (Int × Int)):List (Nat × Nat):=l.foldl (λacc x=>CP acc (Be x)) []
theorem UZ (l:List (Int × Int)) (k:Nat) (h:k<l.length):FK (l.take (k+1))=CP (FK (l.take k)) (Be l[k]):=by
 unfold FK;rw [ic h,jc];rfl
theorem XD (a:List (Nat × Nat)) (r:Nat × Nat):(CP a r).length<=a.length+1:=by
 unfold CP;repeat' split
 . omega
 . rw [length_set];omega
 . simp
theorem Zk (a:List (Nat × Nat)) (r:Nat × Nat) (h:∀x∈a,x.1+x.2<=128) (hr:r.1+r.2<=128):∀x∈CP a r,x.1+x.2<=128:=by
 intro x hx;unfold CP at hx;split at hx
 . exact h x hx
 . split at hx
   . rename_i hj;rcases jE hx with hx | rfl
     . exact h x hx
     . simp only [];omega
   . rcases ip.1 hx with hx | hx
     . exact h x hx
     . rw [ia.1 hx];exact hr
theorem O1 (l:List (Int × Int)):∀acc:List (Nat × Nat),(∀x∈acc,x.1+x.2<=128)->(∀x∈l.foldl (λacc x=>CP acc (Be x)) acc,x.1+x.2<=128)/\(l.foldl (λacc x=>CP acc (Be x)) acc).length<=acc.length+l.length:=by
 induction l with
 | nil=>intro acc h;exact ⟨h,qs⟩
 | cons r l ih=>
   intro acc h;have h1:=ih (CP acc (Be r)) (Zk acc _ h (Fs r));have h2:=XD acc (Be r);refine ⟨h1.1,?_⟩;have:=h1.2;simp only [foldl_cons,jf];omega
theorem Nb (l:List (Int × Int)):∀x∈FK l,x.1+x.2<=128:=(O1 l [] qs).1
theorem Py (l:List (Int × Int)):(FK l).length<=l.length:=by have:=(O1 l [] qs).2;rw [length_nil,kF] at this;exact this
theorem We (l:List (Nat × Nat)) (j:Nat) (a b b':Nat):(l.map Cf).set j ((Cf (a,b)).set 1 (.int .i64 (b':Int)))=(l.set j (a,b')).map Cf:=by
 rw [List.map_set];rfl
theorem Yx (A:Option Addr) (c:Nat) (l:List (Int × Int)) (w:World) (B:Nat) (hB:B<=w.heap.size) (hl:l.length<=1000000) (hr:RunsAt w B A l):
 Calls Tryz.prog 180 #[.slice A l.length c] w λe w'=>∃v,e=.returned v/\OwnL w' w.heap.size 229 2 v ((FK l).map Cf)/\Grew w w':=by
 have HR:=zh hr;clear hr;go_enter Tryz.func180,Tryz.ntmps180;go_wp2_with fail
 go_loopg [3,9] l.length (λgk v i wr=>∃k:Nat,k<=l.length/\gk=l.length - k/\i=.int .i64 k/\OwnL wr w.heap.size 229 2 v ((FK (l.take k)).map Cf)/\Grew w wr)
 case atStart=>exact ⟨0,oo,oo,rfl,OwnL.nil _ _ _ _,gG⟩
 case round=>
  obtain ⟨k,hk,J,rfl,j,hg⟩:=hrel;have s:=zh J;clear J;by_cases I:k<l.length
  . obtain ⟨b,av,f,c,rfl,hb,K,⟨f0,f1,c0,c1⟩,x0,x1⟩:=(HR.keep hB hg).at_ I;simp only at f0 f1 c0 c1;have X:b<wr.heap.size:=by have:=hg.size;omega
    have Y:=hg.size;have L:=Fs (f,c);have y:=UZ l k I;rw [K] at y;have HN:=zh y;have Z:=Py (l.take k);have ad:(l.take k).length<=1000000:=ij (length_take_le _ _) oo;have HJ:=zh (Nb (l.take k));clear K y;have HC:=λW=>zh (KV f c W f0 f1 c0 c1);generalize Be (f,c)=r at*
    obtain ⟨lo,n⟩:=r;generalize FK (l.take k)=acc at*
    simp only at L;obtain ⟨Av,cv,hv,V,aw,-⟩:=j.listAt;rw [iY] at hv V;subst hv;have af:acc.length<=1000000:=oo;by_cases u:acc=[]
    . subst u;have t:(Value.slice Av ([]:List (Nat × Nat)).length cv).ownBlock≠some wr.heap.size:=λh=>by have:=(j.own_ge h).2;omega
      go_wp2_with fail;refine (HC _).out.mono ?_;rintro e w1 ⟨rfl,g1⟩;have M:wr.heap.size<w1.heap.size:=by have:=g1.size;simp at this;omega
      have a:Blk w1 wr.heap.size 229 #[.int .i64 f,.int .i64 c]:=(ik wr _ _ rfl).grew g1;have z:=(j.alloc (.cells #[.int .i64 f,.int .i64 c] 229)).grew g1;have N:Grew w w1:=gG;have r0:=a.cell 0;have r1:=a.cell 1;have O:=a.frozen 0;have P:=a.frozen 1;clear g1;have d:=(z.far (p:=⟨wr.heap.size,0,none⟩) t (.int .i64 (lo:Int))).far (p:=⟨wr.heap.size,1,none⟩) t (.int .i64 (n:Int));have m:Grew w ((w1.setCell ⟨wr.heap.size,0,none⟩ (.int .i64 (lo:Int))).setCell ⟨wr.heap.size,1,none⟩ (.int .i64 (n:Int))):=gG;by_cases hn:n=0
      . have C:((n:Int)==0)=true:=jy.2 oo;have HF:=zh (HN.out.trans (by rw [CP,if_pos (by simp [hn])]));clear hn;go_wp2_with fail
        go_roundg (l.length - (k+1))
        case measure=>rw [s.out];omega
        case rel=>exact ⟨k+1,oo,oo,by go_num,by rw [HF.out];exact d,m⟩
      . have C:((n:Int)==0)=false:=it.2 oo;have HF:=zh (HN.out.trans (show CP [] (lo,n)=[]++[(lo,n)] by rw [CP,if_neg (by simpa using hn),if_neg (λh=>h.1 rfl)]));clear hn;go_wp2_with fail
        go_quiet (fail)
        go_wp2_with (at_builtin;refine AY rfl _ _ 99 rfl w.heap.size 229 2 16 _ Tryz.underlying99 Ec rfl qd (((w1.setCell ⟨wr.heap.size,0,none⟩ (.int .i64 (lo:Int))).setCell ⟨wr.heap.size,1,none⟩ (.int .i64 (n:Int))).drewN nq) _ (([]:List (Nat × Nat)).map Cf) (Cf (lo,n)) (by rfl) rfl rfl (d.drewN nq) (by first | rfl | (simp;done)) rfl rfl qs qs m.size ?_;intro v' w3 G H T U)
        go_roundg (l.length - (k+1))
        case measure=>rw [s.out];omega
        case rel=>exact ⟨k+1,oo,oo,by go_num,by rw [HF.out,il];exact G,H _ (m.drewN nq) (iX _)⟩
    . have ag:0<acc.length:=length_pos_iff.2 u;rcases j.form with ⟨_,h0⟩ | ⟨gv,cap,hv,a0,a1,_,_⟩
      . exfalso;have:=ix length h0;simp at this;exact u this
      . injection hv with hv1 hv2 hv3;subst hv1;clear hv2 hv3
        have x:acc[acc.length - 1]? =some (acc.getD (acc.length - 1) (0,0)):=by
         rw [P2 _ _ oo];exact iV oo
        have Q:=HJ.out _ (js x)
        have g:n≠0->CP acc (lo,n)=if (acc.getD (acc.length - 1) (0,0)).1+(acc.getD (acc.length - 1) (0,0)).2=lo then acc.set (acc.length - 1) ((acc.getD (acc.length - 1) (0,0)).1,(acc.getD (acc.length - 1) (0,0)).2+n) else acc++[(lo,n)]:=by
         intro hn;rw [CP,if_neg (by simpa using hn)];by_cases h:(acc.getD (acc.length - 1) (0,0)).1+(acc.getD (acc.length - 1) (0,0)).2=lo
         . rw [if_pos ⟨u,h⟩,if_pos h]
         . rw [if_neg (λh'=>h h'.2),if_neg h]
        generalize acc.getD (acc.length - 1) (0,0)=ld at*
        obtain ⟨la,lb⟩:=ld;simp only at Q g;have D:(acc.map Cf)[acc.length - 1]? =some (Cf (la,lb)):=by rw [iZ,x];rfl
        generalize hq:acc.length=q at*
        obtain ⟨p,rfl⟩:∃p,q=p+1:=⟨q - 1,oo⟩;rw [Nat.add_sub_cancel] at D g x;have E:=zh D;have R:=zh g;have HQ:=zh hq;clear hq x D g u;have t:(Value.slice (some ⟨gv,0,none⟩) (p+1) cv).ownBlock≠some wr.heap.size:=λh=>by have:=(j.own_ge h).2;omega
        go_wp2_with fail;refine (HC _).out.mono ?_;rintro e w1 ⟨rfl,g1⟩;have M:wr.heap.size<w1.heap.size:=by have:=g1.size;simp at this;omega
        have a:Blk w1 wr.heap.size 229 #[.int .i64 f,.int .i64 c]:=(ik wr _ _ rfl).grew g1;have z:=(j.alloc (.cells #[.int .i64 f,.int .i64 c] 229)).grew g1;have N:Grew w w1:=gG;have r0:=a.cell 0;have r1:=a.cell 1;have O:=a.frozen 0;have P:=a.frozen 1;clear g1;have d:=(z.far (p:=⟨wr.heap.size,0,none⟩) t (.int .i64 (lo:Int))).far (p:=⟨wr.heap.size,1,none⟩) t (.int .i64 (n:Int));have m:Grew w ((w1.setCell ⟨wr.heap.size,0,none⟩ (.int .i64 (lo:Int))).setCell ⟨wr.heap.size,1,none⟩ (.int .i64 (n:Int))):=gG;by_cases hn:n=0
        . have C:((n:Int)==0)=true:=jy.2 oo;have HF:=zh (HN.out.trans (by rw [CP,if_pos (by simp [hn])]));clear hn;go_wp2_with fail
          go_roundg (l.length - (k+1))
          case measure=>rw [s.out];omega
          case rel=>exact ⟨k+1,oo,oo,by go_num,by rw [HF.out];exact d,m⟩
        . have C:((n:Int)==0)=false:=it.2 oo;have g:=R.out hn;have d0:=d.cell (i:=0) E rfl;have d1:=d.cell (i:=1) E rfl;have df:=d.frozen (p*2+1);rw [jo] at d0;have F:=d.set_ (i:=1) (o:=p*2+1) E oo rfl (.int .i64 ((lb+n:Nat):Int));rw [We] at F;have HS:=zh F;clear F hn;have al:decide ((0:Int)<=(p:Int))=true:=qs;have an:¬gv=wr.heap.size:=oo;have ap:¬wr.heap.size=gv:=oo;by_cases hj:la+lb=lo
          . have HF:=zh (HN.out.trans (g.trans (if_pos hj)));have S:(((la:Int)+(lb:Int))==(lo:Int))=true:=jy.2 oo;clear g hj;go_wp2_with fail
            go_quiet (fail)
            go_wp2_with fail
            go_region
            go_wp2_with fail
            go_roundg (l.length - (k+1))
            case measure=>rw [s.out];omega
            case rel=>exact ⟨k+1,oo,oo,by go_num,by rw [HF.out];exact HS.out,gG⟩
          . have HF:=zh (HN.out.trans (g.trans (if_neg hj)));have S:(((la:Int)+(lb:Int))==(lo:Int))=false:=it.2 oo;clear g hj;go_wp2_with fail
            go_quiet (fail)
            go_wp2_with (at_builtin;refine AY rfl _ _ 99 rfl w.heap.size 229 2 16 _ Tryz.underlying99 Ec rfl qd (((w1.setCell ⟨wr.heap.size,0,none⟩ (.int .i64 (lo:Int))).setCell ⟨wr.heap.size,1,none⟩ (.int .i64 (n:Int))).drewN nq) _ (acc.map Cf) (Cf (lo,n)) (by rfl) rfl rfl (d.drewN nq) (by first | rfl | (simp;done)) rfl rfl (by rw [iY,HQ.out];omega) (by rw [iY,HQ.out];omega) m.size ?_;intro v' w3 G H T U)
            go_roundg (l.length - (k+1))
            case measure=>rw [s.out];omega
            case rel=>exact ⟨k+1,oo,oo,by go_num,by rw [HF.out,il];exact G,H _ (m.drewN nq) (iX _)⟩
  . obtain rfl:k=l.length:=oo;rw [j1] at j;go_wp2_with fail;go_ret;exact ⟨_,rfl,j,hg⟩

def dC (n:Int):List Value:=[.int .i64 n]

instance (r:Int × Int):Decidable (GR r):=by unfold GR;infer_instance
theorem gD (A:Option Addr) (c n:Nat) (l:List (Int × Int)) (w:World) (hn:n=l.length) (hl:l.length<=1000000) (hr:RunsAt w w.heap.size A l) (t:Int) (t0:-9223372036854775808<=t) (t1:t<=9223372036854775807) (a:Int) (b:Bool)
 (h:(if t<0 then (0,false) else atS l t)=(a,b)):Calls Tryz.prog 94 #[.slice A n c,.int .i64 t] w λe w'=>e=.returned (.tuple #[.int .i64 a,.bool b])/\Grew w w':=by
 subst hn;have:=gR A c l w w.heap.size (iX _) hl hr t t0 t1;rw [h] at this;exact this
theorem RunsAt.hold {w w':World} {A:Option Addr} {l:List (Int × Int)} (h:RunsAt w w.heap.size A l) (hg:Grew w w'):RunsAt w' w'.heap.size A l:=
 ⟨h.1,(h.2.keep (iX _) hg).mono hg.size⟩
theorem SU (A:Option Addr) (c n:Nat) (l:List (Int × Int)) (w:World) (hn:n=l.length) (hl:l.length<=1000000) (hr:RunsAt w w.heap.size A l) (k:List (Int × Int)) (hk:Cq (FK l)=k):
 Calls Tryz.prog 180 #[.slice A n c] w λe w'=>∃A c,e=.returned (.slice A k.length c)/\RunsAt w' w'.heap.size A k/\Grew w w':=by
 subst hn;subst hk;refine (Yx A c l w w.heap.size (iX _) hl hr).mono ?_;rintro e w1 ⟨v,rfl,a,g1⟩;obtain ⟨A',c',hv,b⟩:=OI a (λr hr=>ij (Nb _ r hr) oo);exact ⟨A',c',by rw [hv],b,g1⟩

theorem TW (r:Int × Int) (l:List (Int × Int)):El (r::l)=(Be r).2+El l:=rfl

theorem Hx (a:List (Nat × Nat)):a=[]\/∃i x,a=i++[x]:=by
 rcases eq_nil_or_concat a with h | ⟨i,x,h⟩
 . exact .inl h
 . exact .inr ⟨i,x,by rw [h,concat_eq_append]⟩
theorem JA (i:List (Nat × Nat)) (x:Nat × Nat):(i++[x]).getD ((i++[x]).length - 1) (0,0)=x:=by simp [List.getD]
theorem Kb (i:List (Nat × Nat)) (x y:Nat × Nat):(i++[x]).set ((i++[x]).length - 1) y=i++[y]:=by
 rw [List.set_append_right _ _ qs];simp
def GM (acc:List (Nat × Nat)) (t:Nat):List (Nat × Nat):=CP acc (t,1)
theorem LF (t:Nat):GM [] t=[(t,1)]:=by
 unfold GM CP;rw [if_neg qs,if_neg (λh=>h.1 rfl)];rfl
theorem H9 (i:List (Nat × Nat)) (x r:Nat × Nat) (hr:r.2≠0):CP (i++[x]) r=if x.1+x.2=r.1 then i++[(x.1,x.2+r.2)] else i++[x]++[r]:=by
 unfold CP;rw [if_neg hr,JA,Kb];by_cases h:x.1+x.2=r.1
 . rw [if_pos ⟨qs,h⟩,if_pos h]
 . rw [if_neg (λh'=>h h'.2),if_neg h]
theorem EB (i:List (Nat × Nat)) (x:Nat × Nat) (t:Nat):GM (i++[x]) t=if x.1+x.2=t then i++[(x.1,x.2+1)] else i++[x]++[(t,1)]:=by
 unfold GM;rw [H9 _ _ _ qs]
theorem Mx (a:List (Nat × Nat)) (r:Nat × Nat) (h:r.2=0):CP a r=a:=by unfold CP;rw [if_pos h]
theorem VB (a:List (Nat × Nat)) (lo n:Nat):CP a (lo,n+1)=GM (CP a (lo,n)) (lo+n):=by
 rcases Nat.eq_zero_or_pos n with rfl | hn
 . rw [Mx a (lo,0) rfl];rfl
 . rcases Hx a with rfl | ⟨i,x,rfl⟩
   . have e1:CP [] (lo,n+1)=[(lo,n+1)]:=by
      unfold CP;rw [if_neg qs,if_neg (λh=>h.1 rfl)];rfl
     have e2:CP [] (lo,n)=[]++[(lo,n)]:=by
      unfold CP;rw [if_neg (by simp;omega),if_neg (λh=>h.1 rfl)]
     rw [e1,e2,EB,if_pos rfl];rfl
   . rw [H9 i x (lo,n+1) qs,H9 i x (lo,n) (by simp;omega)];by_cases h:x.1+x.2=lo
     . rw [if_pos h,if_pos h,EB,if_pos (by simp only [];omega)];rfl
     . rw [if_neg h,if_neg h,EB,if_pos rfl]
def JM (s:List Nat):List (Nat × Nat):=s.foldl GM []
def Ei (r:Nat × Nat):List Nat:=(List.range r.2).map λk=>r.1+k
theorem PA (lo n:Nat):Ei (lo,n+1)=Ei (lo,n)++[lo+n]:=by simp [Ei,kP]
theorem Ov (a:List (Nat × Nat)) (lo n:Nat):CP a (lo,n)=(Ei (lo,n)).foldl GM a:=by
 induction n with
 | zero=>rw [Mx a (lo,0) rfl];rfl
 | succ n ih=>rw [VB,ih,PA,jc];rfl
def CZ (l:List (Int × Int)):List Nat:=l.flatMap λr=>Ei (Be r)
theorem Iz (r:Int × Int) (l:List (Int × Int)):CZ (r::l)=Ei (Be r)++CZ l:=rfl
theorem DT (a b:List (Int × Int)):CZ (a++b)=CZ a++CZ b:=by simp [CZ]
theorem Yk (l:List (Int × Int)):FK l=JM (CZ l):=by
 have b:∀(l:List (Int × Int)) (a:List (Nat × Nat)),l.foldl (λa x=>CP a (Be x)) a=(CZ l).foldl GM a:=by
  intro l
  induction l with
  | nil=>intro a;rfl
  | cons r l ih=>intro a;rw [foldl_cons,ih,Iz,jc,<-Ov]
 exact b l []
theorem Ke (r:Nat × Nat):(Ei r).length=r.2:=by simp [Ei]
theorem KX (l:List (Int × Int)):(CZ l).length=El l:=by
 induction l with
 | nil=>rfl
 | cons r l ih=>rw [Iz,iy,ih,Ke,TW]
theorem Ka (r:Nat × Nat) (t:Nat):t∈Ei r↔r.1<=t/\t<r.1+r.2:=by
 simp only [Ei,ie,jB];constructor
 . rintro ⟨k,hk,rfl⟩;omega
 . rintro ⟨h1,h2⟩;exact ⟨t - r.1,oo,oo⟩
theorem FG (l:List (Int × Int)) (t:Nat):t∈CZ l↔AH l t=true:=by
 simp only [CZ,List.mem_flatMap,AH,j6,Ka,inS,jG]
theorem MF (l:List (Int × Int)):∀t∈CZ l,t<128:=by
 intro t ht;simp only [CZ,List.mem_flatMap,Ka] at ht;obtain ⟨r,_,h1,h2⟩:=ht;have:=Fs r;omega
theorem di (l:List (Int × Int)) (t:Nat) (h:AH l t=true):t<128:=MF l t ((FG l t).2 h)
theorem PB (a b:Nat) (h:a+b<=128) (hb:0<b):Be ((a:Int),(b:Int))=(a,b):=by
 unfold Be;simp only [];rw [if_neg oo,if_neg oo];split
 . simp
 . exact Prod.ext qs (by simp;omega)
theorem YG (a b:Nat) (h:a+b<=128):Ei (Be ((a:Int),(b:Int)))=Ei (a,b):=by
 rcases Nat.eq_zero_or_pos b with rfl | hb
 . have:(Be ((a:Int),((0:Nat):Int))).2=0:=by unfold Be;rw [if_pos qs]
   unfold Ei;rw [this];rfl
 . rw [PB a b h hb]
def C7 (l:List (Nat × Nat)):List Nat:=l.flatMap Ei
theorem Er (l:List (Nat × Nat)) (h:∀r∈l,r.1+r.2<=128):CZ (Cq l)=C7 l:=by
 induction l with
 | nil=>rfl
 | cons r l ih=>
   show CZ (((r.1:Int),(r.2:Int))::Cq l)=_;rw [Iz,YG _ _ (h r qs),ih (λx hx=>h x (iz _ hx))];rfl
theorem GO (a b:List (Nat × Nat)):C7 (a++b)=C7 a++C7 b:=by simp [C7]
theorem NS (r:Nat × Nat):C7 [r]=Ei r:=by simp [C7]
theorem UC (a:List (Nat × Nat)) (t:Nat):C7 (GM a t)=C7 a++[t]:=by
 rcases Hx a with rfl | ⟨i,x,rfl⟩
 . rw [LF];simp [C7,Ei]
 . rw [EB];split
   . rename_i h;rw [GO,GO,NS,NS,PA,<-jK,h]
   . rw [GO];simp [C7,Ei]
theorem UM (s:List Nat):∀acc,C7 (s.foldl GM acc)=C7 acc++s:=by
 induction s with
 | nil=>intro acc;simp
 | cons t s ih=>intro acc;rw [foldl_cons,ih,UC,jK];rfl
theorem TS (s:List Nat):C7 (JM s)=s:=by unfold JM;rw [UM];rfl
theorem Jo (S:Nat->Bool) (k:Nat):A0 S k=[]/\(0<k->S (k - 1)=false)\/∃i x,A0 S k=i++[x]/\(x.1+x.2=k↔0<k/\S (k - 1)=true):=by
 induction k with
 | zero=>exact .inl ⟨rfl,λh=>absurd h oo⟩
 | succ k ih=>
   rw [A0,Nat.add_sub_cancel];cases hS:S k with
   | false=>
     rw [FM,if_pos hS];rcases ih with ⟨h,_⟩ | ⟨i,x,h,_⟩
     . exact .inl ⟨h,λ_=>rfl⟩
     . refine .inr ⟨i,x,h,?_⟩;have:=Gu S k x (by rw [h];simp);constructor
       . intro h;omega
       . rintro ⟨_,h⟩;cases h
   | true=>
     rw [FM,if_neg (by simp [hS])];by_cases hp:0<k/\S (k - 1)=true
     . rw [if_pos hp];rcases ih with ⟨h,h'⟩ | ⟨i,x,h,h'⟩
       . have:=h' hp.1;rw [hp.2] at this;cases this
       . refine .inr ⟨i,(x.1,x.2+1),?_,?_⟩
         . rw [h,P7,JA,Kb]
         . have:=h'.2 hp;simp only [];constructor
           . intro _;exact ⟨oo,by first | rfl | trivial⟩
           . intro _;omega
     . rw [if_neg hp];exact .inr ⟨_,_,rfl,⟨λ_=>⟨oo,by first | rfl | trivial⟩,λ_=>qs⟩⟩
theorem Qd (S:Nat->Bool) (k:Nat):A0 S k=JM ((List.range k).filter S):=by
 induction k with
 | zero=>rfl
 | succ k ih=>
   rw [A0,kP,j8];unfold JM at ih ⊢;rw [jc,<-ih];cases hS:S k with
   | false=>
     rw [FM,if_pos hS,filter_cons_of_neg (by simp [hS])];rfl
   | true=>
     rw [FM,if_neg (by simp [hS]),filter_cons_of_pos hS];show _=GM (A0 S k) k;rcases Jo S k with ⟨h,h'⟩ | ⟨i,x,h,h'⟩
     . rw [if_neg (by rintro ⟨a,b⟩;rw [h' a] at b;cases b),h,LF];rfl
     . by_cases hp:0<k/\S (k - 1)=true
       . rw [if_pos hp,h,EB,if_pos (h'.2 hp),P7,JA,Kb]
       . rw [if_neg hp,h,EB,if_neg (λe=>hp (h'.1 e))]
theorem Du (S:Nat->Bool):∀r∈AK S,r.1+r.2<=128:=Gu S 128
theorem I5 (S:Nat->Bool):(AK S).length<=128:=Ja S 128
theorem JW (S:Nat->Bool):CZ (Cq (AK S))=(List.range 128).filter S:=by
 rw [Er _ (Du S)];unfold AK;rw [Qd,TS]
theorem S7 {S T:Nat->Bool} (h:∀i,i<128->S i=T i):AK S=AK T:=Qn 128 h
theorem T1 (S:Nat->Bool) (i:Nat) (hi:i<128):AH (Cq (AK S)) i=S i:=by
 rw [Bool.eq_iff_iff,<-FG,JW,jV,jB];exact ⟨λh=>h.2,λh=>⟨hi,h⟩⟩
def Vt (s:List Nat) (i:Nat):Int × Bool:=if i<s.length then ((s.getD i 0:Nat),true) else (0,false)
theorem aD (l:List (Int × Int)):∀i:Nat,atS l i=Vt (CZ l) i:=by
 induction l with
 | nil=>intro i;rfl
 | cons r l ih=>
   intro i;rw [atS,Iz];unfold Vt;have a:=Ke (Be r);by_cases h:(i:Int)<((Be r).2:Int)
   . have h':i<(Be r).2:=oo;rw [if_pos h,if_pos (by rw [iy];omega)];refine Prod.ext ?_ rfl;simp only [List.getD];rw [jm oo];simp [Ei,h']
   . rw [if_neg h,show (i:Int) - ((Be r).2:Int)=((i - (Be r).2:Nat):Int) from oo,ih];unfold Vt;rw [iy,a];by_cases h2:i - (Be r).2<(CZ l).length
     . rw [if_pos h2,if_pos oo];simp only [List.getD];rw [jW oo,a]
     . rw [if_neg h2,if_neg oo]
theorem OM (x:Nat) (s:List Nat):∀n,((List.range n).filter λi=>decide (i∈x::s)).length=((List.range n).filter λi=>decide (i∈s)).length+if x<n/\x ∉ s then 1 else 0:=by
 intro n
 induction n with
 | zero=>simp
 | succ n ih=>
   rw [kP,j8,j8,iy,iy,ih];by_cases hx:x=n
   . subst hx;by_cases hs:x∈s
     . simp [filter_cons,hs]
     . simp [filter_cons,hs]
   . have e:decide (n∈x::s)=decide (n∈s):=by
      rw [decide_eq_decide,jh];exact ⟨λh=>h.resolve_left (λe=>hx e.symm),Or.inr⟩
     have e2:(x<n+1/\x ∉ s)=(x<n/\x ∉ s):=by
      rw [eq_iff_iff];exact ⟨λh=>⟨oo,h.2⟩,λh=>⟨oo,h.2⟩⟩
     have e3:([n].filter λi=>decide (i∈x::s))=[n].filter λi=>decide (i∈s):=by rw [filter_cons,filter_cons,e];rfl
     simp only [e2];rw [e3];omega
theorem Zx (s:List Nat) (n:Nat):((List.range n).filter λi=>decide (i∈s)).length<=s.length:=by
 induction s with
 | nil=>simp
 | cons x s ih=>rw [OM,jf];split<;>omega
theorem SJ (s:List Nat) (n:Nat) (h:∀x∈s,x<n):((List.range n).filter λi=>decide (i∈s)).length=s.length↔s.Nodup:=by
 induction s with
 | nil=>simp
 | cons x s ih=>
   have a:=ih (λy hy=>h y (iz _ hy));have hx:=h x qs;have b:=Zx s n;rw [OM,jf,nodup_cons];by_cases hs:x∈s
   . rw [if_neg (λh=>h.2 hs)];constructor
     . intro e;omega
     . intro e;exact absurd hs e.1
   . rw [if_pos ⟨hx,hs⟩];constructor
     . intro e;exact ⟨hs,a.1 oo⟩
     . intro e;have:=a.2 e.2;omega
theorem RK (S:Nat->Bool):El (Cq (AK S))=((List.range 128).filter S).length:=by rw [<-KX,JW]
theorem iJ (l:List (Int × Int)):El l=El (Cq (AK (AH l)))↔(CZ l).Nodup:=by
 rw [RK,<-SJ (CZ l) 128 (MF l),KX]
 have:(λi=>decide (i∈CZ l))=AH l:=by
  funext i;rw [Bool.eq_iff_iff,jG,FG]
 rw [this];exact eq_comm
theorem Yd (lo n m:Nat):(Ei (lo,n)).take m=Ei (lo,min m n):=by
 unfold Ei;rw [<-map_take,List.take_range]

theorem aJ:(Tryz.prog.info? 3).map (λi=>(i.zero,i.size,i.bytes))=some (some (.int .i64 0),1,8):=qk

theorem back {w w':World} {base:Nat} {v:Value} {l:List (Nat × Nat)} {k:List (Int × Int)} (hk:Cq l=k) (hb:∀r∈l,r.1+r.2<=128) (a:OwnL w' base 229 2 v (l.map Cf)) (hg:Grew w w'):
 ∃A c,(Ending.returned v)=.returned (.slice A k.length c)/\RunsAt w' w'.heap.size A k/\Grew w w':=by
 subst hk;obtain ⟨A',c',hv,b⟩:=OI a (λr hr=>ij (hb r hr) oo);exact ⟨A',c',by rw [hv],b,hg⟩
section
variable {A:Option Addr} {c n:Nat} {l:List (Int × Int)} {w:World}
theorem J7 (hn:n=l.length) (hl:l.length<=1000000) (hr:RunsAt w w.heap.size A l) (b:Bool) (h:decide (CZ l).Nodup=b):
 Calls Tryz.prog 143 #[.slice A n c] w λe w'=>e=.returned (.bool b)/\Grew w w':=by
 subst hn;subst h;refine (QU A c l w w.heap.size (iX _) hl hr).mono ?_;rintro e w1 ⟨rfl,g1⟩;refine ⟨AC ?_,g1⟩;have:=iJ l;rw [Bool.eq_iff_iff,jy,jG,<-this];omega
end
section
variable {A1 A2:Option Addr} {c1 c2 n1 n2:Nat} {l1 l2:List (Int × Int)} {w:World}
theorem XB (b:n1=l1.length) (f:n2=l2.length) (d:l1.length<=1000000) (a:l2.length<=1000000) (h:RunsAt w w.heap.size A1 l1) (g:RunsAt w w.heap.size A2 l2) (k:List (Int × Int)) (hk:Cq (AK λi=>AH l1 i && !AH l2 i)=k):
 Calls Tryz.prog 188 #[.slice A1 n1 c1,.slice A2 n2 c2] w λe w'=>∃A c,e=.returned (.slice A k.length c)/\RunsAt w' w'.heap.size A k/\Grew w w':=by
 subst b;subst f;refine (WI A1 A2 c1 c2 l1 l2 w w.heap.size (iX _) d a h g).mono ?_;rintro e w1 ⟨v,rfl,j,g1⟩;exact back hk (Du _) j g1
end

end
end Go.Proofs.YtmcgbdemcknkaaaGreatDoor
