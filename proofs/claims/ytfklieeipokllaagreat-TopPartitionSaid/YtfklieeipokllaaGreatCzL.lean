/- Parts of the proof (packed), 12. -/
import Derived.StillTailTactics
import Derived.Test.YtfklieeipokllaaGreatCzJ
namespace Go.Proofs.YtfklieeipokllaaGreat
set_option linter.all false
set_option maxRecDepth 100000
set_option maxHeartbeats 16000000
open List
section
open Go.RowKit
def sh1 (c:BitVec 32):BitVec 32:=if c.getLsbD 0=true then (c>>>1) ^^^ 0x82F63B78#32 else c>>>1
def shN:Nat->BitVec 32->BitVec 32
 | 0,c=>c
 | n+1,c=>shN n (sh1 c)
theorem FI (m n:Nat):∀c,shN (m+n) c=shN n (shN m c):=by
 induction m with
 | zero=>intro c;rw [ji];rfl
 | succ m ih=>intro c;rw [show m+1+n=(m+n)+1 from oo];exact ih (sh1 c)
theorem Q9 (n:Nat) (c:BitVec 32):shN (n+1) c=sh1 (shN n c):=by rw [FI];rfl
theorem OF (c:BitVec 32):sh1 c=(c>>>1) ^^^ (if c.getLsbD 0=true then 0x82F63B78#32 else 0#32):=by
 unfold sh1;split
 . rfl
 . rw [BitVec.xor_zero]
theorem dt (a b p q:BitVec 32):(a ^^^ b) ^^^ (p ^^^ q)=(a ^^^ p) ^^^ (b ^^^ q):=by
 rw [BitVec.xor_assoc,BitVec.xor_assoc,<-BitVec.xor_assoc b p q,BitVec.xor_comm b p,BitVec.xor_assoc p b q]
theorem cg (a b:BitVec 32):sh1 (a ^^^ b)=sh1 a ^^^ sh1 b:=by
 rw [OF,OF,OF,BitVec.getLsbD_xor,BitVec.ushiftRight_xor_distrib,<-dt];congr 1;cases a.getLsbD 0<;>cases b.getLsbD 0<;>simp
theorem Dj (n:Nat):∀a b,shN n (a ^^^ b)=shN n a ^^^ shN n b:=by
 induction n with
 | zero=>intro a b;rfl
 | succ n ih=>intro a b;show shN n (sh1 (a ^^^ b))=_;rw [cg,ih];rfl
theorem Vj (c:BitVec 32) (h:c.getLsbD 0=false):sh1 c=c>>>1:=by unfold sh1;rw [if_neg (by rw [h];simp)]
theorem Vi (c:BitVec 32):∀n,(∀i,i<n->c.getLsbD i=false)->shN n c=c>>>n:=by
 intro n
 induction n with
 | zero=>intro _;rw [BitVec.ushiftRight_zero];rfl
 | succ n ih=>
   intro h;rw [Q9,ih (λi hi=>h i oo),Vj _ (by rw [BitVec.getLsbD_ushiftRight];exact h (n+0) oo),BitVec.shiftRight_add]
def nib (x b:BitVec 32):BitVec 32:=(x>>>4) ^^^ shN 4 ((x ^^^ b) &&& 15#32)
theorem OX (i:Nat):(15#32).getLsbD i=decide (i<4):=by
 rcases it i 32 with h | h
 . have:∀i:Fin 32,(15#32).getLsbD i.1=decide (i.1<4):=qd;exact this ⟨i,h⟩
 . rw [BitVec.getLsbD_of_ge _ _ h,iC oo]
theorem ZF (x b:BitVec 32) (hb:b>>>4=0#32):nib x b=shN 4 (x ^^^ b):=by
 obtain ⟨y,hy⟩:∃y,x ^^^ b=y:=⟨_,rfl⟩;have hx:x>>>4=y>>>4:=by rw [<-hy,BitVec.ushiftRight_xor_distrib,hb,BitVec.xor_zero]
 unfold nib;rw [hx,hy]
 have hs:y=(y &&& 15#32) ^^^ (y &&& ~~~15#32):=by
  ext i hi;rw [<-BitVec.getLsbD_eq_getElem,<-BitVec.getLsbD_eq_getElem,BitVec.getLsbD_xor,BitVec.getLsbD_and,BitVec.getLsbD_and,BitVec.getLsbD_not,OX];by_cases h:i<4<;>simp [h,hi]
 have hl:shN 4 (y &&& ~~~15#32)=y>>>4:=by
  rw [Vi _ 4 (λi hi=>by rw [BitVec.getLsbD_and,BitVec.getLsbD_not,OX,iB hi];simp)];ext i hi;rw [<-BitVec.getLsbD_eq_getElem,<-BitVec.getLsbD_eq_getElem,BitVec.getLsbD_ushiftRight,BitVec.getLsbD_ushiftRight,BitVec.getLsbD_and,BitVec.getLsbD_not,OX,iC (show ¬(4+i<4) from oo)];rcases it (4+i) 32 with h | h
  . rw [iB h];simp
  . rw [BitVec.getLsbD_of_ge _ _ h];rfl
 conv=>rhs;rw [hs]
 rw [Dj,hl,BitVec.xor_comm]
def Bq (c:UInt8):BitVec 32:=BitVec.ofNat 32 c.toNat
def Vl (x:BitVec 32) (c:UInt8):BitVec 32:=shN 8 (x ^^^ Bq c)
theorem VI:∀c:UInt8,Bq c=(Bq c &&& 15#32) ^^^ ((Bq c>>>4)<<<4)/\(Bq c &&& 15#32)>>>4=0#32/\(Bq c>>>4)>>>4=0#32/\shN 4 ((Bq c>>>4)<<<4)=Bq c>>>4:=by
 intro c;have a:∀n:Fin 256,(BitVec.ofNat 32 n.1=(BitVec.ofNat 32 n.1 &&& 15#32) ^^^ ((BitVec.ofNat 32 n.1>>>4)<<<4))/\(BitVec.ofNat 32 n.1 &&& 15#32)>>>4=0#32/\(BitVec.ofNat 32 n.1>>>4)>>>4=0#32/\shN 4 ((BitVec.ofNat 32 n.1>>>4)<<<4)=BitVec.ofNat 32 n.1>>>4:=by decide+kernel
 exact a ⟨c.toNat,c.toNat_lt⟩
theorem bw (x:BitVec 32) (c:UInt8):nib (nib x (Bq c &&& 15#32)) (Bq c>>>4)=Vl x c:=by
 obtain ⟨h1,h2,h3,h4⟩:=VI c;rw [ZF _ _ h3,ZF _ _ h2];unfold Vl;conv=>rhs;rw [h1]
 rw [<-BitVec.xor_assoc,show (8:Nat)=4+4 from rfl,FI,Dj 4 (x ^^^ (Bq c &&& 15#32)),h4]
def GS (s:List UInt8) (x:BitVec 32):BitVec 32:=s.foldl Vl x
def FF (s:ByteArray):BitVec 32:= ~~~(GS s.data.toList (~~~0#32))
theorem XV (s:ByteArray) (k:Nat) (h:k<s.size) (x:BitVec 32):GS (s.data.toList.take (k+1)) x=Vl (GS (s.data.toList.take k) x) s[k]:=by
 unfold GS;rw [gU (by simpa using h),iz];rfl
def u32 (x:BitVec 32):Int:=(x.toNat:Int)
theorem BJ (x:BitVec 32):0<=u32 x/\u32 x<=4294967295:=by unfold u32;have:=x.isLt;omega
theorem Ic {x y:BitVec 32} (h:u32 x=u32 y):x=y:=by
 unfold u32 at h;exact BitVec.eq_of_toNat_eq oo
theorem Fp (x:BitVec 32):BitVec.ofInt 32 (u32 x)=x:=by
 unfold u32;rw [BitVec.ofInt_natCast];rw [BitVec.ofNat_toNat,BitVec.setWidth_eq]
theorem OM (x:BitVec 32):IntKind.u32.wrap (x.toNat:Int)=u32 x:=by
 have:=x.isLt;unfold u32;simp only [IntKind.wrap,IntKind.signed,IntKind.bits];simp;omega
theorem Mu (x y:BitVec 32):bits .xor .u32 (u32 x) (u32 y)=u32 (x ^^^ y):=by
 show IntKind.u32.wrap ((BitVec.ofInt 32 (u32 x) ^^^ BitVec.ofInt 32 (u32 y)).toNat:Int)=_;rw [Fp,Fp,OM]
theorem Qa (x y:BitVec 32):bits .and .u32 (u32 x) (u32 y)=u32 (x &&& y):=by
 show IntKind.u32.wrap ((BitVec.ofInt 32 (u32 x) &&& BitVec.ofInt 32 (u32 y)).toNat:Int)=_;rw [Fp,Fp,OM]
theorem e7 (x y:BitVec 32):bits .or .u32 (u32 x) (u32 y)=u32 (x ||| y):=by
 show IntKind.u32.wrap ((BitVec.ofInt 32 (u32 x) ||| BitVec.ofInt 32 (u32 y)).toNat:Int)=_;rw [Fp,Fp,OM]
theorem Mg (x:BitVec 32) (n:Nat):u32 x / 2 ^ n=u32 (x>>>n):=by
 unfold u32;rw [BitVec.toNat_ushiftRight,Nat.shiftRight_eq_div_pow];norm_cast
theorem Vo (x:BitVec 32):bits .xor .u32 4294967295 (u32 x)=u32 (~~~x):=by
 rw [show (4294967295:Int)=u32 (~~~0#32) from qd,Mu];congr 1

theorem cN (x:BitVec 32):bits .and .u32 (u32 x) 1=(if x.getLsbD 0=true then 1 else 0):=by
 rw [show (1:Int)=u32 1#32 from qd,Qa];unfold u32;rw [BitVec.toNat_and];have e:(1#32).toNat=1:=rfl;rw [e,Nat.and_one_is_mod];have:x.getLsbD 0=decide (x.toNat % 2=1):=by rw [BitVec.getLsbD];simp [Nat.testBit_zero]
 rw [this];rcases Nat.mod_two_eq_zero_or_one x.toNat with h | h<;>rw [h]<;>simp
theorem dz (x:BitVec 32) (h:x.getLsbD 0=true):bits .xor .u32 (u32 x / 2) 2197175160=u32 (sh1 x):=by
 have:=Mg x 1;rw [show (2:Int) ^ 1=2 from rfl] at this;rw [this,show (2197175160:Int)=u32 0x82F63B78#32 from qd,Mu];unfold sh1;rw [if_pos h]
theorem eo (x:BitVec 32) (h:x.getLsbD 0=false):u32 x / 2=u32 (sh1 x):=by
 have:=Mg x 1;rw [show (2:Int) ^ 1=2 from rfl] at this;rw [this,Vj x h]
theorem XH (c:BitVec 32) (n:Nat) (w:World) (hn:n<=64):
 Calls Tryz.prog 242 #[.int .u32 (u32 c),.int .i64 n] w λe w'=>e=.returned (.int .u32 (u32 (shN n c)))/\Grew w w':=by
 have hb:=BJ c;obtain ⟨X,hX⟩:∃X,u32 c=X:=⟨_,rfl⟩;rw [hX] at hb ⊢;have HX:=zh hX;clear hX;go_enter Tryz.func242,Tryz.ntmps242;go_wp2_with fail
 go_loopg [0,6] n (λgk x i wr=>∃k:Nat,k<=n/\gk=n - k/\i=.int .i64 k/\x=.int .u32 (u32 (shN k c))/\Grew w wr)
 case atStart=>exact ⟨0,oo,oo,rfl,by rw [<-HX.out];rfl,gG⟩
 case round=>
  obtain ⟨k,hk,d,rfl,rfl,hg⟩:=hrel;have b:=zh d;clear d;obtain ⟨y,hy⟩:∃y,shN k c=y:=⟨_,rfl⟩;rw [hy];have HY:=zh hy;clear hy;have g:=BJ y;have a:=cN y;by_cases h:k<n
  . rcases hyy:y.getLsbD 0 with _ | _
    . rw [hyy] at a;have hs:=eo y hyy;have HS:=zh hs;rw [if_neg qs] at a;clear hyy;go_wp2_with fail
      go_roundg (n - (k+1))
      case measure=>rw [b.out];omega
      case rel=>exact ⟨k+1,oo,oo,by go_num,by rw [Q9,HY.out],gG⟩
    . rw [hyy] at a;have hs:=dz y hyy;have HS:=zh hs;rw [if_pos rfl] at a;clear hyy;go_wp2_with fail
      go_roundg (n - (k+1))
      case measure=>rw [b.out];omega
      case rel=>exact ⟨k+1,oo,oo,by go_num,by rw [Q9,HY.out],gG⟩
  . have f:k=n:=oo;subst f;go_wp2_with fail;go_ret;exact ⟨by rw [HY.out];rfl,gG⟩

def CC (S:Nat->BitVec 32):Array Value:=((List.range 16).map λi=>Value.int .u32 (u32 (S i))).toArray
theorem DC (S:Nat->BitVec 32):(CC S).size=16:=by simp [CC]
theorem Oj (S:Nat->BitVec 32) (k:Nat) (h:k<16):(CC S)[k]? =some (.int .u32 (u32 (S k))):=by
 simp [CC,gP,jD,h]
theorem UJ (S:Nat->BitVec 32) (k:Nat) (b:BitVec 32):(CC S).setIfInBounds k (.int .u32 (u32 b))=CC (λi=>if i=k then b else S i):=by
 simp only [CC,setIfInBounds_toArray];congr 1;apply jy;intro i;rw [jg];by_cases a:k=i
 . subst a;by_cases h:k<16
   . simp [h]
   . simp [h,iy]
 . rw [if_neg a];by_cases h:i<16
   . simp [gP,jD,h,Ne.symm a]
   . rw [iy (by simp;omega),iy (by simp;omega)]
theorem IC {S T:Nat->BitVec 32} (h:∀i,i<16->S i=T i):CC S=CC T:=by
 unfold CC;congr 1;apply ie;intro i hi;rw [h i (List.mem_range.mp hi)]
theorem Nq (S:Nat->BitVec 32):(CC S).all (·.oneCell')=true:=by
 rw [CC,all_toArray,ic];intro v hv;obtain ⟨i,_,rfl⟩:=List.mem_map.mp hv;rfl
def Gk (k:Nat):BitVec 32:=shN 4 (BitVec.ofNat 32 k)
theorem Xu (k:Nat) (h:k<16):u32 (BitVec.ofNat 32 k)=(k:Int):=by
 unfold u32;rw [jC,iu oo]
theorem Sz (w:World):(zeroValue 316).run Tryz.prog w=.ok (.agg (CC λ_=>0#32)) w:=qk
theorem Kb:(Tryz.prog.info? 316).map (·.size)=some 16:=qk
theorem aw (k i:Nat):(if i=k then Gk k else if i<k then Gk i else 0#32)=if i<k+1 then Gk i else 0#32:=by
 by_cases h:i=k
 . subst h;rw [if_pos rfl,if_pos oo]
 . rw [if_neg h];by_cases h2:i<k
   . rw [if_pos h2,if_pos oo]
   . rw [if_neg h2,if_neg oo]
theorem UE (k:Nat) (hk:k<16) (w:World):
 Calls Tryz.prog 242 #[.int .u32 k,.int .i64 4] w λe w'=>e=.returned (.int .u32 (u32 (Gk k)))/\Grew w w':=by
 have:=XH (BitVec.ofNat 32 k) 4 w oo;rw [Xu k hk] at this;exact this
theorem TB (w:World):
 Calls Tryz.prog 229 #[] w λe w'=>e=.returned (.agg (CC Gk))/\Grew w w':=by
 have hz:=Sz;go_enter Tryz.func229,Tryz.ntmps229;go_wp2_with fail;clear hz
 go_loopg [3] 16 (λgk i wr=>∃k:Nat,k<=16/\gk=16 - k/\i=.int .i64 k/\Blk wr w.heap.size 316 (CC λ_=>0#32)/\Blk wr (w.heap.size+1) 316 (CC λi=>if i<k then Gk i else 0#32)/\Grew w wr)
 case atStart=>exact ⟨0,oo,oo,rfl,gB,by (apply Blk.conv;(· (repeat' first | (with_reducible assumption) | (with_reducible apply Blk.setRow) | ((with_reducible apply Blk.farRow);rotate_left;(focus (first | (simp;done) | (simp;omega) | omega))) | (with_reducible apply Blk.drew) | (with_reducible apply Blk.drewN) | (with_reducible apply Blk.set_) | (with_reducible exact gZ _ _ _ (by first | rfl | (simp;done) | (simp;omega))) | (with_reducible apply Blk.alloc) | ((with_reducible apply Blk.far);rotate_left;(focus (first | (simp;done) | (simp;omega) | omega))) | ((with_reducible apply Blk.grew);rotate_left;(with_reducible assumption)) | ((with_reducible apply Blk.turned);rotate_left;(with_reducible assumption);(focus (first | (simp;done) | (simp;omega) | omega))) | fail));(· exact IC λi _=>qs)),gG⟩
 case round=>
  obtain ⟨k,hk,f,rfl,b,a,hg⟩:=hrel;have g:=zh f;clear f;have h:=a.lt;by_cases d:k<16
  . go_wp2_with fail;refine (UE k d _).mono ?_;rintro e w1 ⟨rfl,g1⟩;have j:=b.grew g1;have c:=a.grew g1;have l:Grew w w1:=gG;have ha:=c.cell k;rw [Oj _ _ oo] at ha;have hf:=c.frozen k;have m:=BJ (Gk k);go_wp2_with fail
    go_roundg (16 - (k+1))
    case measure=>rw [g.out];omega
    case rel=>exact ⟨k+1,oo,oo,by go_num,gB,by (apply Blk.conv;(· (repeat' first | (with_reducible assumption) | (with_reducible apply Blk.setRow) | ((with_reducible apply Blk.farRow);rotate_left;(focus (first | (simp;done) | (simp;omega) | omega))) | (with_reducible apply Blk.drew) | (with_reducible apply Blk.drewN) | (with_reducible apply Blk.set_) | (with_reducible exact gZ _ _ _ (by first | rfl | (simp;done) | (simp;omega))) | (with_reducible apply Blk.alloc) | ((with_reducible apply Blk.far);rotate_left;(focus (first | (simp;done) | (simp;omega) | omega))) | ((with_reducible apply Blk.grew);rotate_left;(with_reducible assumption)) | ((with_reducible apply Blk.turned);rotate_left;(with_reducible assumption);(focus (first | (simp;done) | (simp;omega) | omega))) | fail));(· rw [UJ];exact IC λi _=>aw k i)),gG⟩
  . obtain rfl:k=16:=oo;have e0:CC (λi=>if i<16 then Gk i else 0#32)=CC Gk:=IC λi hi=>by rw [if_pos hi]
    rw [e0] at a;clear e0;clear d;go_wp2_with (first | (refine Cu rfl 316 _ rfl (w.heap.size+1) rfl 316 (CC Gk) _ a Tryz.underlying316 rfl (by rw [DC];exact Kb) ?_) | (refine AO rfl 316 _ _ rfl w.heap.size (CC Gk) rfl rfl 316 _ b (by rw [DC,DC]) (by rw [DC];exact Kb) (Nq _) ?_));refine gw (results_cell_row rfl _ _ _ 316 (CC Gk) (0,0) _ rfl (b.setRow _) Tryz.underlying316 rfl (by rw [DC];exact Kb)) rfl ?_;exact ⟨rfl,gG⟩

theorem cK (x b:BitVec 32):∃k:Nat,k<16/\bits .and .u32 (u32 (x ^^^ b)) 15=(k:Int)/\(x ^^^ b) &&& 15#32=BitVec.ofNat 32 k:=by
 refine ⟨((x ^^^ b) &&& 15#32).toNat,?_,?_,?_⟩
 . rw [BitVec.toNat_and];exact Nat.lt_of_le_of_lt Nat.and_le_right qd
 . rw [show (15:Int)=u32 15#32 from qd,Qa];rfl
 . rw [BitVec.ofNat_toNat,BitVec.setWidth_eq]
theorem cO (x b:BitVec 32) (k:Nat) (h:(x ^^^ b) &&& 15#32=BitVec.ofNat 32 k):bits .xor .u32 (u32 x / 16) (u32 (Gk k))=u32 (nib x b):=by
 have:=Mg x 4;rw [show (2:Int) ^ 4=16 from rfl] at this;rw [this,Mu];unfold nib Gk;rw [h]
theorem Rj (x b:BitVec 32) (bx bt:Nat) (W:World) (g:bx≠bt) (hx:Blk W bx 176 #[.int .u32 (u32 x)]) (ht:Blk W bt 316 (CC Gk)):
 Calls Tryz.prog 230 #[.int .u32 (u32 b),.pointer (some ⟨bx,0,none⟩),.pointer (some ⟨bt,0,none⟩)] W λe w'=>e=.returned (.tuple #[])/\Blk w' bx 176 #[.int .u32 (u32 (nib x b))]/\Turned (λi=>i=bx) W w':=by
 obtain ⟨k,hk,m,d⟩:=cK x b;have h:=cO x b k d;have j:=Mu x b;have b1:=BJ x;have b2:=BJ b;have b3:=BJ (x ^^^ b);have b4:=BJ (Gk k);have b5:=BJ (nib x b);have HK:=zh d;clear d;go_enter Tryz.func230,Tryz.ntmps230;refine wp_region_still_tail 9 qk qk ?_;simp only [take_succ_cons,take_zero,drop_succ_cons,drop_zero];change wpStill _ _ (World.drew W) (λa'=>wpList _ _ _ _ a' (World.drew W)) _ _;obtain ⟨w2,a⟩:∃w',w'=World.drew W:=⟨_,rfl⟩;rw [<-a];have c:Blk w2 bx 176 #[.int .u32 (u32 x)]:=by rw [a];exact hx.drew
 have f:Blk w2 bt 316 (CC Gk):=by rw [a];exact ht.drew
 have hT:Turned (λi=>i=bx) W w2:=by rw [a];exact (iR _ W).drew
 have HT:=zh hT;clear a hT hx ht;have h1:=c.lt;have h2:=f.lt;have x0:=c.cell 0;have t0:=f.cell k;rw [Oj _ _ oo] at t0;have f0:=c.frozen 0;have l:(k:Int)<16:=oo
 repeat still_step
 refine wpStill_nil ?_;go_wp2_with fail;refine bodyPost_end (results_none rfl _ _ _) rfl ?_;exact ⟨rfl,gB,HT.setCell (λ_=>rfl) _⟩

theorem fH (c:UInt8):bits .and .u32 (c.toNat:Int) 15=u32 (Bq c &&& 15#32):=by
 rw [show (15:Int)=u32 15#32 from qd,<-Qa];congr 1;unfold u32 Bq;rw [jC,iu (by have:=c.toNat_lt;omega)]
theorem ew (c:UInt8):(c.toNat:Int) / 16=u32 (Bq c>>>4):=by
 have:=Mg (Bq c) 4;rw [show (2:Int) ^ 4=16 from rfl] at this;rw [<-this];congr 1;unfold u32 Bq;rw [jC,iu (by have:=c.toNat_lt;omega)]

theorem Wk (c:UInt8) (y:BitVec 32):∃p q Y1 Y2:Int,bits .and .u32 (c.toNat:Int) 15=p/\(c.toNat:Int) / 16=q/\(0<=p/\p<=4294967295)/\(0<=q/\q<=4294967295)/\Y2=u32 (nib (nib y (Bq c &&& 15#32)) (Bq c>>>4))/\
 (∀(bx bt:Nat) (W:World),bx≠bt->Blk W bx 176 #[.int .u32 (u32 y)]->Blk W bt 316 (CC Gk)->Calls Tryz.prog 230 #[.int .u32 p,.pointer (some ⟨bx,0,none⟩),.pointer (some ⟨bt,0,none⟩)] W λe w'=>e=.returned (.tuple #[])/\Blk w' bx 176 #[.int .u32 Y1]/\Turned (λi=>i=bx) W w')/\
 (∀(bx bt:Nat) (W:World),bx≠bt->Blk W bx 176 #[.int .u32 Y1]->Blk W bt 316 (CC Gk)->Calls Tryz.prog 230 #[.int .u32 q,.pointer (some ⟨bx,0,none⟩),.pointer (some ⟨bt,0,none⟩)] W λe w'=>e=.returned (.tuple #[])/\Blk w' bx 176 #[.int .u32 Y2]/\Turned (λi=>i=bx) W w'):=
 ⟨u32 (Bq c &&& 15#32),u32 (Bq c>>>4),u32 (nib y (Bq c &&& 15#32)),_,fH c,ew c,BJ _,BJ _,rfl,λbx bt W hne h1 h2=>Rj y _ bx bt W hne h1 h2,λbx bt W hne h1 h2=>Rj _ _ bx bt W hne h1 h2⟩
theorem dC (x:BitVec 32):bits .xor .u32 IntKind.u32.max (u32 x)=u32 (~~~x):=Vo x
theorem Ul (x:BitVec 32) (s:ByteArray) (hs:s.size<=9223372036854775807) (w:World):
 Calls Tryz.prog 184 #[.int .u32 (u32 x),.string s] w λe w'=>e=.returned (.int .u32 (u32 (~~~(GS s.data.toList (~~~x)))))/\Grew w w':=by
 have hz:=Sz;have n:bits .xor .u32 IntKind.u32.max (u32 x)=u32 (~~~x):=Vo x;have b0:=BJ x;have b1:=BJ (~~~x);go_enter Tryz.func184,Tryz.ntmps184;go_wp2_with fail;refine (TB _).mono ?_;rintro e w1 ⟨rfl,g1⟩;have hG:=g1;clear hz;go_wp2_with (first | (refine AO rfl 316 _ _ rfl w1.heap.size (CC Gk) rfl rfl 316 (CC λ_=>0#32) (gZ w1 _ _ rfl) (by rw [DC,DC]) (by rw [DC];exact Kb) (Nq _) ?_))
 go_loopg [8] s.size (λgk i wr=>∃k:Nat,k<=s.size/\gk=s.size - k/\i=.int .i64 k/\Blk wr w1.heap.size 316 (CC Gk)/\Blk wr (w1.heap.size+1) 176 #[.int .u32 (u32 (GS (s.data.toList.take k) (~~~x)))]/\Grew w wr)
 case atStart=>exact ⟨0,oo,oo,rfl,gB,gB,by (first | (refine Grew.alloc ?_ _;exact (hG.alloc _).setRow (by have:=hG.size;omega) _) | (refine Grew.trans (hG.alloc _) ?_;skip))⟩
 case round=>
  obtain ⟨k,hk,g,rfl,c,a,hg⟩:=hrel;have o:=zh g;clear g n b0 b1;have G:=hG.size;by_cases E:k<s.size
  . have b:=XV s k E (~~~x);obtain ⟨y,hy⟩:∃y,GS (s.data.toList.take k) (~~~x)=y:=⟨_,rfl⟩;rw [hy] at a b;rw [<-bw] at b;have r:=zh b;obtain ⟨p,q,Y1,Y2,hp,hq,J,K,h,l,m⟩:=Wk s[k] y;have t:=zh h;have hu:=s[k].toNat_lt;have u:=zh (l (w1.heap.size+1) w1.heap.size _ oo a c);have v:=zh m;have z:=zh c;have HG:=zh hg;clear b hy h l m c a hg;go_wp2_with fail;refine u.mono ?_;rintro e w2 ⟨rfl,f,t2⟩;have A:=zh f;have d:=zh (z.turned t2 (show ¬(w1.heap.size=w1.heap.size+1) from oo));have B:=zh t2;clear f t2;go_wp2_with fail;refine (v (w1.heap.size+1) w1.heap.size _ oo A d).mono ?_;rintro e w3 ⟨rfl,F,t3⟩;have C:=d.turned t3 (show ¬(w1.heap.size=w1.heap.size+1) from oo);have D:Grew w w3:=(((HG.turned (λi=>i=w1.heap.size+1)).trans B).trans t3).grew (λj hj (e:j=_)=>oo);go_wp2_with fail
    go_roundg (s.size - (k+1))
    case measure=>rw [o.out];omega
    case rel=>exact ⟨k+1,oo,oo,by go_num,C,by rw [r.out,<-t.out];exact F,D⟩
  . obtain rfl:k=s.size:=oo;have e0:s.data.toList.take s.size=s.data.toList:=by rw [iL qs]
    rw [e0] at a;have H:=dC (GS s.data.toList (~~~x));have v0:=a.cell 0;have v1:=BJ (GS s.data.toList (~~~x));have v2:=BJ (~~~(GS s.data.toList (~~~x)));have I:=a.lt;clear e0;go_wp2_with fail;go_ret;exact ⟨rfl,gG⟩

def b8 (n:Nat):UInt8:=UInt8.ofNat n
theorem DI (n:Nat):(b8 n).toNat=n % 256:=by unfold b8;rw [UInt8.toNat_ofNat']
def AJ (x:BitVec 32):ByteArray:=⟨#[b8 x.toNat,b8 (x.toNat / 256),b8 (x.toNat / 65536),b8 (x.toNat / 16777216)]⟩
theorem AN (x:BitVec 32):(AJ x).size=4:=rfl
def at8 (s:ByteArray) (i:Nat):Nat:=(s.data.getD i 0).toNat
theorem Iz (s:ByteArray) (i:Nat):at8 s i<256:=UInt8.toNat_lt _
def Ye (s:ByteArray):Nat:=if s.size=4 then at8 s 0+256*at8 s 1+65536*at8 s 2+16777216*at8 s 3 else 0
theorem cQ (s:ByteArray):Ye s<4294967296:=by
 unfold Ye;have:=Iz s 0;have:=Iz s 1;have:=Iz s 2;have:=Iz s 3;split<;>omega
def Cp (s:ByteArray):BitVec 32:=BitVec.ofNat 32 (Ye s)
theorem KA (s:ByteArray):(Cp s).toNat=Ye s:=by
 unfold Cp;rw [jC];exact iu (cQ s)
theorem Cw (x:BitVec 32):Cp (AJ x)=x:=by
 apply BitVec.eq_of_toNat_eq;rw [KA];have hx:=x.isLt;show (if (AJ x).size=4 then (b8 x.toNat).toNat+256*(b8 (x.toNat / 256)).toNat+65536*(b8 (x.toNat / 65536)).toNat+16777216*(b8 (x.toNat / 16777216)).toNat else 0)=_;rw [if_pos (AN x),DI,DI,DI,DI];omega
theorem Eu (s:ByteArray) (h:s.size=4):AJ (Cp s)=s:=by
 have e:∃a b c d:UInt8,s=⟨#[a,b,c,d]⟩:=by
  obtain ⟨⟨l⟩⟩:=s
  match l,h with
  | [a,b,c,d],_=>exact ⟨a,b,c,d,rfl⟩
 obtain ⟨a,b,c,d,rfl⟩:=e;have ha:=a.toNat_lt;have hb:=b.toNat_lt;have hc:=c.toNat_lt;have hd:=d.toNat_lt
 have hn:(Cp ⟨#[a,b,c,d]⟩).toNat=a.toNat+256*b.toNat+65536*c.toNat+16777216*d.toNat:=by
  rw [KA];show (if (4:Nat)=4 then a.toNat+256*b.toNat+65536*c.toNat+16777216*d.toNat else 0)=_;rw [if_pos rfl]
 unfold AJ;rw [hn];congr 1;have f:∀(n:Nat) (u:UInt8),n % 256=u.toNat->b8 n=u:=λn u h=>UInt8.toNat_inj.1 (by rw [DI,h]);rw [f _ a oo,f _ b oo,f _ c oo,f _ d oo]
def BI (n:Nat):ByteArray:=⟨(List.replicate n (0:UInt8)).toArray⟩
theorem DD (n:Nat):(BI n).size=n:=by simp [BI,ByteArray.size]
def BD (d:ByteArray):ByteArray:=d.extract 0 128++BI (128 - d.size)
theorem DU (d:ByteArray):(BD d).size=128:=by unfold BD;rw [gy,DD,iK];omega
theorem GH (d:ByteArray) (h:d.size=128):BD d=d:=by
 unfold BD;rw [h,<-h,ByteArray.extract_zero_size,show BI (d.size - d.size)=⟨#[]⟩ from by rw [Nat.sub_self];rfl];exact jW
def EY (i:Int):BitVec 32:=BitVec.ofInt 32 i
def RK (s:ByteArray):ByteArray:=s++AJ (FF s)
def Gi (d:ByteArray) (v:BitVec 32) (i:Int):ByteArray:=BD d++AJ v++AJ (EY i)
def AZ (d:ByteArray) (v:BitVec 32) (i:Int):ByteArray:=RK (Gi d v i)
theorem KN (d:ByteArray) (v:BitVec 32) (i:Int):(Gi d v i).size=136:=by unfold Gi;rw [gy,gy,DU,AN,AN]
theorem An (d:ByteArray) (v:BitVec 32) (i:Int):(AZ d v i).size=140:=by unfold AZ RK;rw [gy,KN,AN]
def okR (s:ByteArray) (i:Int):Prop:=s.size=140/\Cp (s.extract 136 140)=FF (s.extract 0 136)/\Cp (s.extract 132 136)=EY i
instance (s:ByteArray) (i:Int):Decidable (okR s i):=by unfold okR;exact inferInstance
def Da (s:ByteArray) (i:Int):ByteArray × BitVec 32 × Int:=if okR s i then (s.extract 0 128,Cp (s.extract 128 132),0) else (⟨#[]⟩,0#32,11)
theorem Mx (a b:ByteArray) (n:Nat) (h:a.size=n):(a++b).extract 0 n=a:=by subst h;exact ByteArray.extract_append_eq_left rfl
theorem Jh (a b:ByteArray) (n m:Nat) (h:a.size=n) (h2:n+b.size=m):(a++b).extract n m=b:=by subst h;exact ByteArray.extract_append_eq_right rfl h2.symm
theorem Lx (a b:ByteArray) (i j:Nat) (h:j<=a.size):(a++b).extract i j=a.extract i j:=by
 rw [ByteArray.extract_append,Nat.sub_eq_zero_of_le h];rw [show b.extract (i - a.size) 0=ByteArray.empty from by rw [<-ByteArray.size_eq_zero_iff,iK];omega];exact jW
theorem D6 (d:ByteArray) (v:BitVec 32) (i:Int):(AZ d v i).extract 0 136=Gi d v i/\(AZ d v i).extract 136 140=AJ (FF (Gi d v i))/\(AZ d v i).extract 0 128=BD d/\(AZ d v i).extract 128 132=AJ v/\(AZ d v i).extract 132 136=AJ (EY i):=by
 have hb:=KN d v i;have h0:(BD d++AJ v).size=132:=by rw [gy,DU,AN]
 unfold AZ RK;refine ⟨Mx _ _ _ hb,Jh _ _ _ _ hb rfl,?_,?_,?_⟩
 . rw [Lx _ _ _ _ oo];unfold Gi;rw [Lx _ _ _ _ oo];exact Mx _ _ _ (DU d)
 . rw [Lx _ _ _ _ oo];unfold Gi;rw [Lx _ _ _ _ oo];exact Jh _ _ _ _ (DU d) rfl
 . rw [Lx _ _ _ _ oo];unfold Gi;exact Jh _ _ _ _ h0 rfl
theorem YT {i j:Int} (hi:0<=i/\i<4294967296) (hj:0<=j/\j<4294967296) (h:EY i=EY j):i=j:=by
 unfold EY at h;have h2:=iH BitVec.toNat h;rw [BitVec.toNat_ofInt,BitVec.toNat_ofInt] at h2;omega
theorem S6 (s:ByteArray) (i:Int) (h:okR s i):AZ (s.extract 0 128) (Cp (s.extract 128 132)) i=s:=by
 obtain ⟨h1,h2,h3⟩:=h;have e1:BD (s.extract 0 128)=s.extract 0 128:=GH _ (by rw [iK];omega);have e2:AJ (Cp (s.extract 128 132))=s.extract 128 132:=Eu _ (by rw [iK];omega);have e3:AJ (EY i)=s.extract 132 136:=by rw [<-h3];exact Eu _ (by rw [iK];omega)
 have e4:Gi (s.extract 0 128) (Cp (s.extract 128 132)) i=s.extract 0 136:=by
  unfold Gi;rw [e1,e2,e3,ByteArray.extract_append_extract,show s.extract (min 0 128) (max 128 132)=s.extract 0 132 from rfl,ByteArray.extract_append_extract];rfl
 unfold AZ RK;rw [e4,<-h2,Eu _ (by rw [iK];omega),ByteArray.extract_append_extract,show s.extract (min 0 136) (max 136 140)=s.extract 0 140 from rfl];rw [<-h1,ByteArray.extract_zero_size]

theorem V8 (W:World) (g cap n:Nat) (u:ByteArray) (hu:u.size=n) (hc:∀j (hj:j<u.size),W.cell? ⟨g,j,none⟩=some (.int .u8 (u[j].toNat:Int))):(convert 169 9 (.slice (some ⟨g,0,none⟩) n cap)).run Tryz.prog W=.ok (.string u) W:=by
 have h:=run_convert_bytes_back (P:=Tryz.prog) W 169 9 5 ⟨g,0,none⟩ cap u.data.toList Tryz.underlying169 Tryz.underlying5 Tryz.underlying9 (λj hj=>by
  have:(⟨g,0,none⟩:Addr).add j=⟨g,j,none⟩:=by unfold Addr.add;split<;>simp_all
  rw [this]
  exact hc j (by rw [ig] at hj;exact hj))
 have hl:u.data.toList.length=n:=by rw [ig];exact hu
 rw [hl] at h;exact h
theorem Ux (w:World) (x:BitVec 32):
 (convert 169 9 (.slice (some ⟨w.heap.size,0,none⟩) 4 4)).run Tryz.prog (w.alloc (.cells #[.int .u8 (u32 x % 256),.int .u8 (u32 x / 256 % 256),.int .u8 (u32 x / 65536 % 256),.int .u8 (u32 x / 16777216)] 5))=.ok (.string (AJ x)) (w.alloc (.cells #[.int .u8 (u32 x % 256),.int .u8 (u32 x / 256 % 256),.int .u8 (u32 x / 65536 % 256),.int .u8 (u32 x / 16777216)] 5)):=by
 refine V8 _ _ 4 4 (AJ x) (AN x) (λj hj=>?_);rw [(gZ w 5 #[.int .u8 (u32 x % 256),.int .u8 (u32 x / 256 % 256),.int .u8 (u32 x / 65536 % 256),.int .u8 (u32 x / 16777216)] rfl).cell];have hx:=x.isLt;rw [AN] at hj;unfold u32
 match j,hj with
 | 0,_=>show some (Value.int .u8 ((x.toNat:Int) % 256))=some (Value.int .u8 ((b8 x.toNat).toNat:Int));rw [DI];rfl
 | 1,_=>show some (Value.int .u8 ((x.toNat:Int) / 256 % 256))=some (Value.int .u8 ((b8 (x.toNat / 256)).toNat:Int));rw [DI];rfl
 | 2,_=>show some (Value.int .u8 ((x.toNat:Int) / 65536 % 256))=some (Value.int .u8 ((b8 (x.toNat / 65536)).toNat:Int));rw [DI];rfl
 | 3,_=>show some (Value.int .u8 ((x.toNat:Int) / 16777216))=some (Value.int .u8 ((b8 (x.toNat / 16777216)).toNat:Int));rw [DI,iu oo];rfl
theorem US (a b:Nat) (ha:a<4294967296) (hb:b<4294967296):bits .or .u32 (a:Int) (b:Int)=((a ||| b:Nat):Int):=by
 have h1:(a:Int)=u32 (BitVec.ofNat 32 a):=by unfold u32;rw [jC,iu ha]
 have h2:(b:Int)=u32 (BitVec.ofNat 32 b):=by unfold u32;rw [jC,iu hb]
 rw [h1,h2,e7];unfold u32;rw [BitVec.toNat_or,jC,jC,iu ha,iu hb]
theorem UU (a b i:Nat) (h:a<2 ^ i):a ||| b*2 ^ i=a+b*2 ^ i:=by
 have:=Nat.shiftLeft_add_eq_or_of_lt h b;rw [Nat.shiftLeft_eq] at this;rw [Nat.or_comm,<-this,Nat.add_comm]
theorem ay (s:ByteArray) (h:s.size=4):bits .or .u32 (bits .or .u32 (bits .or .u32 (((s[0]'oo).toNat:Int) % 4294967296) (((s[1]'oo).toNat:Int) % 4294967296*256 % 4294967296)) (((s[2]'oo).toNat:Int) % 4294967296*65536 % 4294967296)) (((s[3]'oo).toNat:Int) % 4294967296*16777216 % 4294967296)=u32 (Cp s):=by
 have e0:(s[0]'oo).toNat=at8 s 0:=by unfold at8;rw [Array.getD_eq_getD_getElem?,ik (show 0<s.data.size from by show 0<s.size;omega)];rfl
 have e1:(s[1]'oo).toNat=at8 s 1:=by unfold at8;rw [Array.getD_eq_getD_getElem?,ik (show 1<s.data.size from by show 1<s.size;omega)];rfl
 have e2:(s[2]'oo).toNat=at8 s 2:=by unfold at8;rw [Array.getD_eq_getD_getElem?,ik (show 2<s.data.size from by show 2<s.size;omega)];rfl
 have e3:(s[3]'oo).toNat=at8 s 3:=by unfold at8;rw [Array.getD_eq_getD_getElem?,ik (show 3<s.data.size from by show 3<s.size;omega)];rfl
 rw [e0,e1,e2,e3];unfold u32;rw [KA];unfold Ye;rw [if_pos h];have h0:=Iz s 0;have h1:=Iz s 1;have h2:=Iz s 2;have h3:=Iz s 3;generalize at8 s 0=a at*
 generalize at8 s 1=b at*
 generalize at8 s 2=c at*
 generalize at8 s 3=d at*
 rw [show ((a:Int) % 4294967296)=((a:Nat):Int) from oo,show ((b:Int) % 4294967296*256 % 4294967296)=((b*2 ^ 8:Nat):Int) from oo,show ((c:Int) % 4294967296*65536 % 4294967296)=((c*2 ^ 16:Nat):Int) from oo,show ((d:Int) % 4294967296*16777216 % 4294967296)=((d*2 ^ 24:Nat):Int) from oo];rw [US _ _ oo oo,UU _ _ 8 oo,US _ _ oo oo,UU _ _ 16 oo,US _ _ oo oo,UU _ _ 24 oo];omega
theorem WL (s:ByteArray) (h:¬s.size=4):Cp s=0#32:=by unfold Cp Ye;rw [if_neg h]
theorem Mt (s:ByteArray) (hs:s.size<=9223372036854775807) (w:World):Calls Tryz.prog 114 #[.string s] w λe w'=>e=.returned (.int .u32 (u32 (FF s)))/\Grew w w':=by
 have HU:=zh (Ul 0#32 s hs w);go_enter Tryz.func114,Tryz.ntmps114;go_wp2_with fail;refine HU.mono ?_;rintro e w1 ⟨rfl,g1⟩;go_wp2_with fail;go_ret;exact ⟨rfl,g1⟩
theorem Er (x:BitVec 32) (w:World):Calls Tryz.prog 113 #[.int .u32 (u32 x)] w λe w'=>e=.returned (.string (AJ x))/\Grew w w':=by
 have hb:=BJ x;have a:=Ux w x;go_enter Tryz.func113,Tryz.ntmps113;go_wp2_with fail;go_ret;exact ⟨rfl,gG⟩
theorem Df (s:ByteArray) (hs:s.size<=9223372036854775807) (w:World):Calls Tryz.prog 180 #[.string s] w λe w'=>e=.returned (.int .u32 (u32 (Cp s)))/\Grew w w':=by
 by_cases h4:s.size=4
 . have a:((s.size:Int) != 4)=false:=by rw [h4];rfl
   have HN:=zh (ay s h4);go_enter Tryz.func180,Tryz.ntmps180;go_wp2_with fail
   go_quiet (fail)
   go_wp2_with fail;go_ret;exact ⟨YQ HN,gG⟩
 . have a:((s.size:Int) != 4)=true:=by simp;omega
   have HN:=zh (WL s h4);go_enter Tryz.func180,Tryz.ntmps180;go_wp2_with fail;go_ret;exact ⟨by rw [HN.out];rfl,gG⟩

end
section
attribute [local go_sem ↓] Go.wp_at_zero Go.wp_at_succ
open Go.RowKit
theorem bT (s:ByteArray) (hs:s.size<=1000000) (w:World):Calls Tryz.prog 181 #[.string s] w λe w'=>e=.returned (.string (RK s))/\Grew w w':=by
 have HU:=zh (Mt s oo);have HB:=zh (Er (FF s));have hz:=AN (FF s);go_enter Tryz.func181,Tryz.ntmps181;go_wp2_with fail;refine (HU _).mono ?_;rintro e w1 ⟨rfl,g1⟩;go_wp2_with fail;refine (HB _).mono ?_;rintro e w2 ⟨rfl,g2⟩;go_wp2_with fail;go_ret;exact ⟨rfl,g1.trans g2⟩
def JK (s:ByteArray):ByteArray × Int:=if 4<=s.size/\Cp (s.extract (s.size - 4) s.size)=FF (s.extract 0 (s.size - 4)) then (s.extract 0 (s.size - 4),0) else (⟨#[]⟩,11)
theorem WT (s:ByteArray) (n:Nat) (h4:4<=s.size) (hn:s.size - 4=n) (h:Cp (s.extract n s.size)=FF (s.extract 0 n)):JK s=(s.extract 0 n,0):=by
 subst hn;unfold JK;rw [if_pos ⟨h4,h⟩]
theorem bQ (s:ByteArray) (n:Nat) (hn:s.size - 4=n) (h:¬Cp (s.extract n s.size)=FF (s.extract 0 n)):JK s=(⟨#[]⟩,11):=by
 subst hn;unfold JK;rw [if_neg (λe=>h e.2)]
theorem RV (s:ByteArray) (hs:s.size<=1000000) (w:World) (t:ByteArray) (er:Int) (hr:JK s=(t,er)):Calls Tryz.prog 237 #[.string s] w λe w'=>e=.returned (.tuple #[.string t,.int .i64 er])/\Grew w w':=by
 by_cases h4:4<=s.size
 . obtain ⟨n,hn⟩:∃n,s.size - 4=n:=⟨_,rfl⟩;have b:(s.size:Int) - 4=(n:Int):=oo;have hd:decide ((n:Int)<0)=false:=qs;have HN:=zh (Df (s.extract n s.size) (by rw [iK];omega));have HS:=zh (Mt (s.extract 0 n) (by rw [iK];omega));obtain ⟨p,hp⟩:∃p,Cp (s.extract n s.size)=p:=⟨_,rfl⟩;obtain ⟨q,hq⟩:∃q,FF (s.extract 0 n)=q:=⟨_,rfl⟩;rw [hp] at HN;rw [hq] at HS;have HY:=zh (WT s n h4 hn);have HZ:=zh (bQ s n hn);rw [hp,hq] at HY HZ;have HR:=zh hr;clear hp hq hr;have hx:0<=n/\n<=s.size:=oo;clear hn;go_enter Tryz.func237,Tryz.ntmps237;go_wp2_with fail;refine AB [] (λw':World=>True) qk ?_;have hS:=trivial;refine tQ 0 8 ?_;refine tQ 1 9 ?_;refine tQ 2 10 ?_;refine tQ 3 11 ?_;refine tQ 4 12 ?_;refine tQ 5 13 ?_;refine tQ 7 15 ?_;refine tQ 8 16 ?_;refine tQ 9 17 ?_;refine tO 6 λK' hK=>?_;go_wp2_with fail;refine (HN _).mono ?_;rintro e w1 ⟨rfl,g1⟩;go_wp2_with fail;refine hK.out _ _ (.inr id) ?_;clear hK;refine tO 10 λK' hK=>?_;go_wp2_with fail;refine (HS _).mono ?_;rintro e w2 ⟨rfl,g2⟩;go_wp2_with fail;refine hK.out _ _ (.inr id) ?_;clear hK;refine tQ 11 19 ?_;refine tQ 12 20 ?_;refine AA qk ?_ _;have hg:Grew w w2:=((gK w).drew.trans g1).trans g2;by_cases a:p=q
   . have hb:(u32 p != u32 q)=false:=by rw [a];simp
     have h1:=HR.out;rw [HY.out a] at h1;injection h1 with h1 h2;subst h1;subst h2;clear a;go_wp2_with fail;go_ret2;exact ⟨rfl,hg⟩
   . have hb:(u32 p != u32 q)=true:=by rw [iW];exact λe=>a (Ic e)
     have h1:=HR.out;rw [HZ.out a] at h1;injection h1 with h1 h2;subst h1;subst h2;clear a;go_wp2_with fail;go_ret2;exact ⟨rfl,hg⟩
 . have hd:decide ((s.size:Int) - 4<0)=true:=by simp;omega
   have h1:JK s=(⟨#[]⟩,11):=by unfold JK;rw [if_neg (λe=>h4 e.1)]
   rw [h1] at hr;injection hr with h1 h2;subst h1;subst h2;go_enter Tryz.func237,Tryz.ntmps237;go_wp2_with fail;refine AB [] (λw':World=>True) qk ?_;have hS:=trivial;refine tQ 0 8 ?_;refine tQ 1 9 ?_;refine tQ 2 10 ?_;refine tU 3 (some 11) ?_;refine tU 4 (some 12) ?_;refine tU 5 (some 13) ?_;refine tU 6 (some 14) ?_;refine tU 7 (some 15) ?_;refine tU 8 (some 16) ?_;refine tU 9 (some 17) ?_;refine tU 10 (some 18) ?_;refine tU 11 (some 19) ?_;refine tQ 12 20 ?_;refine AA qk ?_ _;go_wp2_with fail;go_ret2;exact ⟨rfl,gG⟩

theorem au:(Tryz.prog.info? 5).map (λi=>(i.zero,i.size,i.bytes))=some (some (.int .u8 0),1,1):=qk
theorem aF:(Tryz.prog.info? 5).map (·.size)=some 1:=qk
def M9 (b:UInt8):Value:=.int .u8 (b.toNat:Int)
def BK (s:ByteArray):Array Value:=(s.data.toList.map M9).toArray
theorem Sd (s:ByteArray):(BK s).size=s.size:=by simp [BK]
theorem Hz (w:World) (n:Nat) (hn:n<=1000000):(Instr.makeSlice 169 (.int .i64 (n:Int)) (.int .i64 (n:Int))).run Tryz.prog w=.ok (.slice (some ⟨w.heap.size,0,none⟩) n n) (w.alloc (.cells (BK (BI n)) 5)):=by
 obtain ⟨i,hi,a,b,c⟩:=info_parts au;have h:=run_make (P:=Tryz.prog) w 169 5 i _ Tryz.underlying169 hi a .i64 .i64 (n:Int) (n:Int) oo oo (by rw [c];omega) oo;rw [b] at h;simp only [iM,Nat.mul_one] at h;rw [h];congr 3;unfold madeCells;apply Array.ext
 . simp [BK,BI]
 . intro j h1 h2;simp [Value.cells,Nat.mod_one,BK,BI,M9]
theorem D5 (W:World) (g n:Nat) (s:ByteArray) (hs:s.size=n) (hb:Blk W g 5 (BK s)):(convert 169 9 (.slice (some ⟨g,0,none⟩) n n)).run Tryz.prog W=.ok (.string s) W:=by
 refine V8 W g n n s hs (λj hj=>?_);rw [hb.cell];unfold BK;have h2:j<s.data.size:=hj;simp [M9];exact ⟨s[j],ik h2,rfl⟩
theorem Me {W:World} {ops:Array Oper} {rest:List Oper} {o:Oper} {a:Act} {Q:Exit->Act->World->Prop} (j:o.guard=none) (d x:Operand)
 (ho:o.op=.call { callee:=.builtin .copy,args:=#[d,x],argTypes:=#[169,9] }) (g n c:Nat) (s u:ByteArray) (hd:a.eval d=.slice (some ⟨g,0,none⟩) n c) (hx:a.eval x=.string s) (hb:Blk W g 5 (BK u)) (hn:u.size=n)
 (h:wpList Tryz.prog ops Q rest (a.put o.dst (.int .i64 (min s.size n:Nat))) (W.setRow g (BK (s.extract 0 n++u.extract s.size n)))):wpList Tryz.prog ops Q (o::rest) a W:=by
 have k:Nat.min s.size n=min s.size n:=rfl
 have e:((s.data.toList.map M9).take (min s.size n)).length=min s.size n:=by
  rw [i8,gO];have:s.data.toList.length=s.size:=rfl;omega
 have f:=run_storeCells_at Tryz.prog g 0 5 ((s.data.toList.map M9).take (min s.size n)) 0 (BK u) W hb (by rw [e,Sd];omega) (by
  intro v hv
  have:=jP hv
  obtain ⟨b,_,rfl⟩:=gV.1 this
  rfl)
 have l:((BK u).toList.take (0+0)++(s.data.toList.map M9).take (min s.size n)++(BK u).toList.drop (0+0+((s.data.toList.map M9).take (min s.size n)).length)).toArray=BK (s.extract 0 n++u.extract s.size n):=by
  rw [e];unfold BK;congr 1;simp only [jH,ji,take_zero,nil_append,ByteArray.data_append,Array.toList_append,gm,ByteArray.data_extract];have e1:s.data.size=s.size:=rfl;have e2:u.data.size=u.size:=rfl;congr 1
  . simp [Array.toList_extract,map_take];omega
  . simp [Array.toList_extract,map_drop];rw [iL (by simp;omega)];by_cases t:s.size<=n
    . rw [Nat.min_eq_left t]
    . rw [Nat.min_eq_right oo,drop_of_length_le (by simp;omega),drop_of_length_le (by simp;omega)]
 rw [l] at f;refine wpList_plain j λK' hK=>?_
 have m:(Builtin.copy_ #[169,9] o.type #[.slice (some ⟨g,0,none⟩) n c,.string s]).run Tryz.prog W=.ok (goInt (min (s.size:Int) (n:Int))) (W.setRow g (BK (s.extract 0 n++u.extract s.size n))):=by
  obtain ⟨i,hi,hz⟩:∃i,Tryz.prog.info? 5=some i/\i.size=1:=by
   have:=aF;cases hq:Tryz.prog.info? 5 with
   | none=>rw [hq] at this;cases this
   | some i=>rw [hq] at this;exact ⟨i,rfl,by simpa using this⟩
  have p:(storeCells ⟨g,0,none⟩ (List.take (min s.size n) (List.map (λb:UInt8=>Value.int IntKind.u8 (b.toNat:Int)) s.data.toList)) 0).run Tryz.prog W=.ok () (W.setRow g (BK (s.extract 0 n++u.extract s.size n))):=f;have hu:=Tryz.underlying169;have q:((min s.size n:Nat):Int)=min (s.size:Int) (n:Int):=oo;simp [Builtin.copy_,ja hu,Builtin.lenOf,Builtin.firstCells,sizeOf,typeInfo,hi,hz,p,k];rw [q]
 unfold Oper.wp;simp [execOp,ho,resolve,invoke,builtin,hd,hx,m,Result.andThen];have r:goInt (min (s.size:Int) (n:Int))=.int .i64 ((min s.size n:Nat):Int):=by rw [show min (s.size:Int) (n:Int)=((min s.size n:Nat):Int) from oo];rfl
 rw [r];exact hK _ _ h
theorem Ve (i:Int):u32 (EY i)=i % 4294967296:=by
 unfold u32 EY;rw [BitVec.toNat_ofInt];omega
theorem Rl (i:Int):IntKind.u32.wrap i=u32 (EY i):=by
 rw [Ve];simp only [IntKind.wrap,IntKind.signed,IntKind.bits];simp
theorem Wi (n k:Nat):(BI n).extract k n=BI (n - k):=by
 apply ByteArray.ext;rw [ByteArray.data_extract];unfold BI;simp only [extract_toArray];congr 1;simp [List.extract]
theorem UG (d:ByteArray):d.extract 0 128++(BI 128).extract d.size 128=BD d:=by rw [Wi];rfl
theorem JM (d:ByteArray) (v:BitVec 32) (i:Int) (w:World) (hd:d.size<=9223372036854775807) (hi:okI i):
 Calls Tryz.prog 110 #[.string d,.int .u32 (u32 v),.int .i64 i] w λe w'=>e=.returned (.string (AZ d v i))/\Grew w w':=by
 have c:Blk (w.alloc (.cells (BK (BI 128)) 5)) w.heap.size 5 (BK (BI 128)):=gZ w _ _ rfl;have h:(Instr.makeSlice 169 (.int .i64 128) (.int .i64 128)).run Tryz.prog w=_:=Hz w 128 oo;have o:=Rl i;have b:=DU d;have p:=AN v;have q:=AN (EY i);have HS:=zh (bT (Gi d v i) (by rw [KN];omega));have j:=zh (Er v);have k:=zh (Er (EY i));unfold okI at hi;unfold Gi at HS;go_enter Tryz.func110,Tryz.ntmps110;go_wp2_with (with_reducible refine Me rfl _ _ rfl _ 128 128 d (BI 128) rfl rfl c (DD 128) ?_);rw [UG];have a:Blk ((w.alloc (.cells (BK (BI 128)) 5)).setRow w.heap.size (BK (BD d))) w.heap.size 5 (BK (BD d)):=c.setRow _;have f:Grew w ((w.alloc (.cells (BK (BI 128)) 5)).setRow w.heap.size (BK (BD d))):=gG;obtain ⟨W1,g⟩:∃W1,W1=(w.alloc (.cells (BK (BI 128)) 5)).setRow w.heap.size (BK (BD d)):=⟨_,rfl⟩;rw [<-g] at a f ⊢;clear g c h;simp only [Act.put,zA,zB,zC];go_wp2_with fail;refine AB [] (λw':World=>(convert 169 9 (.slice (some ⟨w.heap.size,0,none⟩) 128 128)).run Tryz.prog w'=.ok (.string (BD d)) w') qk ?_;have hS:=(show (λw':World=>(convert 169 9 (.slice (some ⟨w.heap.size,0,none⟩) 128 128)).run Tryz.prog w'=.ok (.string (BD d)) w') W1.drew from D5 _ _ _ _ b a.drew);refine tQ 0 12 ?_;refine tT 1 (some 13) hS ?_;refine tQ 2 14 ?_;refine tQ 5 17 ?_;refine tT 6 (some 18) hS ?_;clear hS;refine tO 3 λK' hK=>?_;go_wp2_with fail;refine (j _).mono ?_;rintro e w2 ⟨rfl,g2⟩;go_wp2_with fail;have l:Grew w w2:=f.drew.trans g2;refine hK.out _ _ (.inr (λ_=>D5 _ _ _ _ b (a.drew.grew g2))) ?_;clear hK;have hS:=trivial;refine tQ 4 16 ?_;refine tO 7 λK' hK=>?_;go_wp2_with fail;refine (k _).mono ?_;rintro e w3 ⟨rfl,g3⟩;go_wp2_with fail;have m:Grew w w3:=l.trans g3;refine hK.out _ _ (.inr (λ_=>D5 _ _ _ _ b ((a.drew.grew g2).grew g3))) ?_;clear hK;refine tQ 8 20 ?_;refine tO 9 λK' hK=>?_;go_wp2_with fail;refine (HS _).mono ?_;rintro e w4 ⟨rfl,g4⟩;go_wp2_with fail;have n:Grew w w4:=m.trans g4;refine hK.out _ _ (.inr (λ_=>D5 _ _ _ _ b (((a.drew.grew g2).grew g3).grew g4))) ?_;clear hK;refine tQ 10 6 ?_;refine AA qk ?_ _;go_wp2_with fail;go_ret;exact ⟨rfl,n⟩
theorem Ps (s:ByteArray) (h:s.size=140):JK s=if Cp (s.extract 136 140)=FF (s.extract 0 136) then (s.extract 0 136,0) else (⟨#[]⟩,11):=by
 unfold JK;rw [h];by_cases hq:Cp (s.extract 136 140)=FF (s.extract 0 136)
 . rw [if_pos ⟨oo,hq⟩,if_pos hq]
 . rw [if_neg (λe=>hq e.2),if_neg hq]
theorem QF (s:ByteArray) (i j k:Nat) (h:j<=k):(s.extract 0 k).extract i j=s.extract i j:=by
 rw [ByteArray.extract_extract];congr 1<;>omega
theorem Hw (s:ByteArray) (i:Int) (h:¬okR s i):Da s i=(⟨#[]⟩,0#32,11):=by unfold Da;rw [if_neg h]
theorem NN (s:ByteArray) (i:Int) (w:World) (hs:s.size<=9223372036854775807) (hi:okI i) (d:ByteArray) (v:BitVec 32) (er:Int) (hr:Da s i=(d,v,er)):
 Calls Tryz.prog 218 #[.string s,.int .i64 i] w λe w'=>e=.returned (.tuple #[.string d,.int .u32 (u32 v),.int .i64 er])/\Grew w w':=by
 have m:=Rl i;have n:i % 4294967296=u32 (EY i):=(Ve i).symm;unfold okI at hi;by_cases f:s.size=140
 . have h:((s.size:Int) != 140)=false:=by rw [f];rfl
   by_cases a:Cp (s.extract 136 140)=FF (s.extract 0 136)
   . have c:JK s=(s.extract 0 136,0):=by rw [Ps s f,if_pos a]
     have hz:(s.extract 0 136).size=136:=by rw [iK];omega
     have HO:=zh (RV s oo w _ _ c);obtain ⟨t,ht⟩:∃t,s.extract 0 136=t:=⟨_,rfl⟩;rw [ht] at HO hz;have e1:t.extract 132 t.size=s.extract 132 136:=by rw [hz,<-ht];exact QF s 132 136 136 oo
     have e2:t.extract 0 128=s.extract 0 128:=by rw [<-ht];exact QF s 0 128 136 oo
     have e3:t.extract 128 132=s.extract 128 132:=by rw [<-ht];exact QF s 128 132 136 oo
     have HN:=zh (Df (t.extract 132 t.size) (by rw [iK];omega));have HM:=zh (Df (t.extract 128 132) (by rw [iK];omega));obtain ⟨p,hp⟩:∃p,Cp (s.extract 132 136)=p:=⟨_,rfl⟩;obtain ⟨q,hq⟩:∃q,Cp (s.extract 128 132)=q:=⟨_,rfl⟩;rw [e1,hp] at HN;rw [e3,hq] at HM;have g:=zh e1;have j:=zh e2;have k:=zh e3;have o:136<=t.size/\t.size<=136:=oo;clear ht c e1 e2 e3;by_cases b:p=EY i
     . have hu:Da s i=(s.extract 0 128,q,0):=by unfold Da;rw [if_pos ⟨f,a,hp.trans b⟩,hq]
       rw [hu] at hr;injection hr with h1 h2;injection h2 with h2 h3;subst h1;subst h2;subst h3;have l:(u32 p != u32 (EY i))=false:=by rw [b];simp
       clear hu a b hz hp;go_enter Tryz.func218,Tryz.ntmps218;go_wp2_with fail;refine HO.mono ?_;rintro e w1 ⟨rfl,g1⟩;go_wp2_with fail;rw [g.out];refine (HN _).mono ?_;rintro e w2 ⟨rfl,g2⟩;go_wp2_with fail;refine AB [] (λw':World=>True) qk ?_;have hS:=trivial;refine tQ 0 27 ?_;refine tQ 1 28 ?_;refine tQ 2 29 ?_;refine tQ 3 30 ?_;refine tO 4 λK' hK=>?_;go_wp2_with fail;rw [k.out];refine (HM _).mono ?_;rintro e w3 ⟨rfl,g3⟩;go_wp2_with fail;refine hK.out _ _ (.inr id) ?_;clear hK;refine tQ 5 4 ?_;refine tQ 6 5 ?_;refine tQ 7 6 ?_;refine AA qk ?_ _;rw [j.out];go_wp2_with fail;have hg:Grew w w3:=(g1.trans g2).drew.trans g3
       go_ret3
       exact ⟨rfl,hg⟩
     . have hu:Da s i=(⟨#[]⟩,0#32,11):=Hw s i (λe=>b (hp.symm.trans e.2.2));rw [hu] at hr;injection hr with h1 h2;injection h2 with h2 h3;subst h1;subst h2;subst h3;have l:(u32 p != u32 (EY i))=true:=by rw [iW];exact λe=>b (Ic e)
       clear hu a b hz hp;go_enter Tryz.func218,Tryz.ntmps218;go_wp2_with fail;refine HO.mono ?_;rintro e w1 ⟨rfl,g1⟩;go_wp2_with fail;rw [g.out];refine (HN _).mono ?_;rintro e w2 ⟨rfl,g2⟩;go_wp2_with fail
       go_ret3
       exact ⟨rfl,g1.trans g2⟩
   . have c:JK s=(⟨#[]⟩,11):=by rw [Ps s f,if_neg a]
     have HO:=zh (RV s oo w _ _ c);have hu:Da s i=(⟨#[]⟩,0#32,11):=Hw s i (λe=>a e.2.1);rw [hu] at hr;injection hr with h1 h2;injection h2 with h2 h3;subst h1;subst h2;subst h3;clear hu a c;go_enter Tryz.func218,Tryz.ntmps218;go_wp2_with fail;refine HO.mono ?_;rintro e w1 ⟨rfl,g1⟩;go_wp2_with fail
     go_ret3
     exact ⟨rfl,g1⟩
 . have h:((s.size:Int) != 140)=true:=by simp;omega
   have hu:Da s i=(⟨#[]⟩,0#32,11):=Hw s i (λe=>f e.1);rw [hu] at hr;injection hr with h1 h2;injection h2 with h2 h3;subst h1;subst h2;subst h3;clear hu;go_enter Tryz.func218,Tryz.ntmps218;go_wp2_with fail
   go_ret3
   exact ⟨rfl,gG⟩

end
section
open Go.RowKit
theorem Fv {a b:ByteArray} (h:a.data.toList=b.data.toList):a=b:=by
 obtain ⟨⟨l⟩⟩:=a;obtain ⟨⟨m⟩⟩:=b;exact iH (λl=>(⟨⟨l⟩⟩:ByteArray)) h
theorem Eb (s:ByteArray) (i j:Nat):(s.extract i j).data.toList=(s.data.toList.drop i).take (j - i):=by
 rw [ByteArray.data_extract,Array.toList_extract,extract_eq_take_drop]

inductive St where
 | put (i:Int) (s:ByteArray)
 | sync
def stD (D:Dev) (sy ep:Int):St->Dev × Int
 | .put i s=>BC D sy ep i s
 | .sync=>CW D sy ep
def BS (sy ep:Int):List St->Dev->Dev × Int
 | [],D=>(D,0)
 | t::l,D=>if (stD D sy ep t).2=0 then BS sy ep l (stD D sy ep t).1 else stD D sy ep t
theorem Ed (sy ep:Int) (a b:List St):∀D,BS sy ep (a++b) D=if (BS sy ep a D).2=0 then BS sy ep b (BS sy ep a D).1 else BS sy ep a D:=by
 induction a with
 | nil=>intro D;rfl
 | cons t a ih=>
   intro D;show (if (stD D sy ep t).2=0 then BS sy ep (a++b) (stD D sy ep t).1 else stD D sy ep t)=_;by_cases h:(stD D sy ep t).2=0
   . rw [if_pos h,ih];show _=if (if (stD D sy ep t).2=0 then BS sy ep a (stD D sy ep t).1 else stD D sy ep t).2=0 then BS sy ep b (if (stD D sy ep t).2=0 then BS sy ep a (stD D sy ep t).1 else stD D sy ep t).1 else (if (stD D sy ep t).2=0 then BS sy ep a (stD D sy ep t).1 else stD D sy ep t);rw [if_pos h]
   . rw [if_neg h];show _=if (if (stD D sy ep t).2=0 then BS sy ep a (stD D sy ep t).1 else stD D sy ep t).2=0 then BS sy ep b (if (stD D sy ep t).2=0 then BS sy ep a (stD D sy ep t).1 else stD D sy ep t).1 else (if (stD D sy ep t).2=0 then BS sy ep a (stD D sy ep t).1 else stD D sy ep t);rw [if_neg h,if_neg h]
abbrev Wl:=List (Nat × ByteArray)
def puts (l:Wl):List St:=l.map λe=>.put (e.1:Int) e.2
def BF (D:Dev) (l:Wl):Dev:=l.foldl (λD e=>AR D e.1 e.2) D
def wrs (sy:Int) (l:Wl):List Wr:=l.map λe=>⟨sy,e.1,e.2⟩
def okW (D:Dev) (l:Wl):Prop:=∀e∈l,e.1<D.st.length/\e.2.size=140
structure Calm (D:Dev) (sy ep:Int):Prop where
 ok:D.Ok
 live:D.failed=false
 plain:Cr sy ep=true
 free:¬ep<D.fen sy
theorem F3 (D:Dev) (i:Nat) (s:ByteArray) (hi:i<D.st.length) (j:Nat):(AR D i s).at j=if j=i then s else D.at j:=by
 unfold AR;split
 . rename_i h;by_cases hj:j=i
   . rw [if_pos hj,hj];exact h
   . rw [if_neg hj]
 . unfold Dev.at;show (D.st.set i s).getD j emp=_;rw [iE,jg];by_cases hj:j=i
   . subst hj;rw [if_pos rfl,if_pos hi,if_pos rfl];rfl
   . rw [if_neg (λh=>hj h.symm),if_neg hj,iE]
theorem Yr (r:Wr) (a:ByteArray) (h1:r.data.size=140) (h2:a.size=140):Ij r 140 a=r.data:=by
 unfold Ij;rw [<-h1,ByteArray.extract_zero_size,h1,h2];rw [show a.extract 140 140=ByteArray.empty from by rw [<-ByteArray.size_eq_zero_iff,iK];omega];exact jW
theorem DA (l:Wl):∀D,D.Ok->okW D l->EndKept D (BF D l):=by
 induction l with
 | nil=>intro D h _;exact ⟨h,rfl,rfl,rfl,rfl,rfl⟩
 | cons e l ih=>
   intro D h hl;obtain ⟨h1,h2⟩:=hl e (iO ..);have hc:=IH h h1 h2;have k:=ih (AR D e.1 e.2) hc (λx hx=>by rw [Cx];exact hl x (iJ _ hx));exact ⟨k.ok,k.len.trans (Cx ..),k.pend.trans (Kq ..),k.fen.trans (It ..),k.fuse.trans (K5 ..),k.failed.trans (GF ..)⟩
def Ak:Wl->Nat->Option ByteArray
 | [],_=>none
 | e::l,i=>match Ak l i with
   | some s=>some s
   | none=>if i=e.1 then some e.2 else none
theorem Fq (l:Wl):∀D,okW D l->∀i,(BF D l).at i=(Ak l i).getD (D.at i):=by
 induction l with
 | nil=>intro D _ i;rfl
 | cons e l ih=>
   intro D hl i;have h1:=(hl e (iO ..)).1;show (BF (AR D e.1 e.2) l).at i=_;rw [ih _ (λx hx=>by rw [Cx];exact hl x (iJ _ hx)),F3 D e.1 e.2 h1 i];have hE:Ak (e::l) i=match Ak l i with
    | some s=>some s
    | none=>if i=e.1 then some e.2 else none:=rfl
   rw [hE];cases Ak l i with
   | some s=>rfl
   | none=>by_cases h:i=e.1<;>simp [h]
theorem B5 (l:Wl) (i:Nat) (h:∀e∈l,e.1≠i):Ak l i=none:=by
 induction l with
 | nil=>rfl
 | cons e l ih=>
   unfold Ak;rw [ih (λx hx=>h x (iJ _ hx)),if_neg (λhe=>h e (iO ..) he.symm)]
theorem EN (l:Wl) (hn:(l.map (·.1)).Nodup) (e:Nat × ByteArray) (he:e∈l):Ak l e.1=some e.2:=by
 induction l with
 | nil=>cases he
 | cons x l ih=>
   rw [map_cons,nodup_cons] at hn;unfold Ak;rcases jB.1 he with rfl | he
   . rw [B5 l e.1 (λy hy h=>hn.1 (h▸List.mem_map_of_mem hy)),if_pos rfl]
   . rw [ih hn.2 he]
theorem ZK {D:Dev} {sy ep:Int} (h:Calm D sy ep) (hf:D.fuse=none) (e:Nat × ByteArray) (he:e.1<D.st.length/\e.2.size=140):BC D sy ep (e.1:Int) e.2=({ D with pend:=D.pend++[⟨sy,e.1,e.2⟩] },0):=by
 have ha:AY D sy ep=(D,0):=by
  unfold AY;rw [if_neg (by rw [h.live];simp),if_neg h.free];unfold JQ;rw [hf];rfl
 unfold BC;rw [if_neg (by rw [h.plain];simp [he.2]),if_neg (by unfold E0;simp;omega),ha];rfl
theorem b7 {D:Dev} {sy ep:Int} (h:Calm D sy ep) (hf:D.fuse=none):CW D sy ep=(BQ D (DG sy) (λ_=>140),0):=by
 have ha:AY D sy ep=(D,0):=by
  unfold AY;rw [if_neg (by rw [h.live];simp),if_neg h.free];unfold JQ;rw [hf];rfl
 unfold CW;rw [if_neg (by rw [h.plain];simp),ha];rfl
theorem Calm.pend {D:Dev} {sy ep:Int} (h:Calm D sy ep) (l:Wl) (hl:okW D l):Calm { D with pend:=D.pend++wrs sy l } sy ep:=by
 refine ⟨⟨h.ok.len,h.ok.pos,h.ok.lim,h.ok.st,h.ok.old,λr hr=>?_,h.ok.fen⟩,h.live,h.plain,h.free⟩;rcases iA.1 hr with hr | hr
 . exact h.ok.pend r hr
 . obtain ⟨e,he,rfl⟩:=gV.1 hr;have hp:=h.plain;unfold Cr at hp;have a:=iQ hp;exact ⟨(hl e he).1,(hl e he).2,a.1,a.2.1⟩
theorem Yg (sy ep:Int) (l:Wl):∀D,Calm D sy ep->D.fuse=none->okW D l->BS sy ep (puts l) D=({ D with pend:=D.pend++wrs sy l },0):=by
 induction l with
 | nil=>intro D _ _ _;show (D,0)=_;simp [wrs]
 | cons e l ih=>
   intro D h hf hl;have he:=hl e (iO ..);have hw:=ZK h hf e he;show (if (BC D sy ep (e.1:Int) e.2).2=0 then BS sy ep (puts l) (BC D sy ep (e.1:Int) e.2).1 else _)=_;rw [hw,if_pos rfl];have hc:Calm { D with pend:=D.pend++wrs sy [e] } sy ep:=h.pend [e] (λx hx=>by rw [gQ.1 hx];exact he);have:=ih _ hc hf (λx hx=>hl x (iJ _ hx));rw [show ({ D with pend:=D.pend++[⟨sy,e.1,e.2⟩] }:Dev)={ D with pend:=D.pend++wrs sy [e] } from rfl,this];simp [wrs]
theorem ZO (sy:Int) (p:Wr->Bool) (hp:∀(i:Nat) s,p ⟨sy,i,s⟩=true) (l:Wl):∀(D:Dev) (k:Nat),D.Ok->okW D l->((wrs sy l).foldl (AK p (λ_=>140)) (D,k)).1=BF D l:=by
 induction l with
 | nil=>intro D k _ _;rfl
 | cons e l ih=>
   intro D k h hl;obtain ⟨h1,h2⟩:=hl e (iO ..);show ((wrs sy l).foldl (AK p (λ_=>140)) (AK p (λ_=>140) (D,k) ⟨sy,e.1,e.2⟩)).1=BF (AR D e.1 e.2) l;unfold AK;rw [if_pos (hp _ _)];show ((wrs sy l).foldl (AK p (λ_=>140)) (AR D e.1 (Ij ⟨sy,e.1,e.2⟩ 140 (D.at e.1)),k+1)).1=_;rw [Yr ⟨sy,e.1,e.2⟩ _ h2 (Gc h h1)];exact ih _ _ (IH h h1 h2) (λx hx=>by rw [Cx];exact hl x (iJ _ hx))
theorem J4 (sy:Int) (i:Nat) (s:ByteArray):DG sy ⟨sy,i,s⟩=true:=iB rfl
theorem S9 (l:Wl) (P:List Wr):∀D:Dev,BF { D with pend:=P } l={ BF D l with pend:=P }:=by
 induction l with
 | nil=>intro D;rfl
 | cons e l ih=>
   intro D;show BF (AR { D with pend:=P } e.1 e.2) l={ BF (AR D e.1 e.2) l with pend:=P };rw [<-ih];congr 1;unfold AR;show (if D.at e.1=e.2 then _ else _)=_;split<;>rfl
theorem N3 (sy:Int) (l:Wl):(wrs sy l).filter (λr=>!DG sy r)=[]:=by
 rw [filter_eq_nil_iff];intro r hr;obtain ⟨e,_,rfl⟩:=gV.1 hr;rw [J4];simp
theorem EK (sy ep:Int) (l:Wl) (D:Dev) (h:Calm D sy ep) (hf:D.fuse=none) (hp:D.pend=[]) (hl:okW D l):BS sy ep (puts l++[.sync]) D=(BF D l,0):=by
 rw [Ed,Yg sy ep l D h hf hl,if_pos rfl];show (if (CW _ sy ep).2=0 then ((CW _ sy ep).1,0) else CW _ sy ep)=_;rw [b7 (h.pend l hl) hf,if_pos rfl];congr 1;unfold BQ BZ;rw [hp,nil_append];show ({ ((wrs sy l).foldl (AK (DG sy) (λ_=>140)) ({ D with pend:=wrs sy l },0)).1 with pend:=(wrs sy l).filter λr=>!DG sy r }:Dev)=_;have a:=h.pend l hl;rw [hp,nil_append] at a;rw [ZO sy (DG sy) (J4 sy) l { D with pend:=wrs sy l } 0 a.ok hl,N3,S9];have:=(DA l D h.ok hl).pend;rw [hp] at this;show ({ BF D l with pend:=[] }:Dev)=BF D l;rw [<-this]
theorem Calm.kept {D E:Dev} {sy ep:Int} (h:Calm D sy ep) (k:EndKept D E):Calm E sy ep:=⟨k.ok,by rw [k.failed];exact h.live,h.plain,by rw [k.fen];exact h.free⟩

def Cf (s:ByteArray) (n:Nat) (was:ByteArray):ByteArray:=s.extract 0 n++was.extract n was.size
def B0 (D:Dev) (P:List Wr) (fu:Option (Nat × List Int)):Dev:=⟨D.st,D.old,P,D.fen,fu,D.failed⟩
def EL (D:Dev) (l:List Wr) (sv:List Int):Dev:=⟨(BZ D (λ_=>true) (svN sv) l).1.st,(BZ D (λ_=>true) (svN sv) l).1.old,[],D.fen,none,true⟩
theorem RJ (P:List Wr) (fu:Option (Nat × List Int)) (p:Wr->Bool) (sv:Nat->Nat) (D:Dev) (k:Nat) (r:Wr):AK p sv (B0 D P fu,k) r=(B0 (AK p sv (D,k) r).1 P fu,(AK p sv (D,k) r).2):=by
 unfold AK;by_cases h:p r=true
 . rw [if_pos h,if_pos h];show (AR (B0 D P fu) r.sec (Ij r (sv k) (D.at r.sec)),k+1)=_;congr 1;unfold AR;show (if D.at r.sec=Ij r (sv k) (D.at r.sec) then _ else _)=B0 (if D.at r.sec=Ij r (sv k) (D.at r.sec) then _ else _) P fu;split<;>rfl
 . rw [if_neg h,if_neg h]
theorem Kg (P:List Wr) (fu:Option (Nat × List Int)) (p:Wr->Bool) (sv:Nat->Nat) (l:List Wr):∀(D:Dev) (k:Nat),l.foldl (AK p sv) (B0 D P fu,k)=(B0 (l.foldl (AK p sv) (D,k)).1 P fu,(l.foldl (AK p sv) (D,k)).2):=by
 induction l with
 | nil=>intro D k;rfl
 | cons r l ih=>
   intro D k;rw [foldl_cons,foldl_cons,RJ];exact ih _ _
theorem Ys (D:Dev) (P:List Wr) (fu:Option (Nat × List Int)) (sv:List Int):({ BQ (B0 D P fu) (λ_=>true) (svN sv) with failed:=true,fuse:=none }:Dev)=EL D P sv:=by
 have h:=Kg P fu (λ_=>true) (svN sv) P D 0;have h1:(BZ (B0 D P fu) (λ_=>true) (svN sv) P).1=B0 (BZ D (λ_=>true) (svN sv) P).1 P fu:=by unfold BZ;rw [h]
 have hf:(P.filter λr=>!(λ_=>true) r)=[]:=filter_eq_nil_iff.2 (λ_ _=>qs);unfold BQ EL;show (⟨(BZ (B0 D P fu) (λ_=>true) (svN sv) P).1.st,(BZ (B0 D P fu) (λ_=>true) (svN sv) P).1.old,P.filter λr=>!(λ_=>true) r,(BZ (B0 D P fu) (λ_=>true) (svN sv) P).1.fen,none,true⟩:Dev)=_;rw [h1,hf]
 have hk:∀(l:List Wr) (E:Dev) (k:Nat),(l.foldl (AK (λ_=>true) (svN sv)) (E,k)).1.fen=E.fen:=by
  intro l
  induction l with
  | nil=>intro E k;rfl
  | cons r l ih=>
    intro E k;rw [foldl_cons];unfold AK;rw [if_pos rfl];exact (ih _ _).trans (It ..)
 show (⟨_,_,[],(BZ D (λ_=>true) (svN sv) P).1.fen,none,true⟩:Dev)=_;unfold BZ;rw [hk];rfl
theorem PU (D:Dev):B0 D D.pend D.fuse=D:=rfl
theorem G2 (D:Dev) (P Q:List Wr) (fu gu:Option (Nat × List Int)):B0 (B0 D P fu) Q gu=B0 D Q gu:=rfl
theorem TJ {D:Dev} {sy ep:Int} (h:Calm D sy ep) {n:Nat} {sv:List Int} (hf:D.fuse=some (n+1,sv)):AY D sy ep=(B0 D D.pend (some (n,sv)),0):=by
 unfold AY;rw [if_neg (by rw [h.live];simp),if_neg h.free];unfold JQ;rw [hf];rfl
theorem SL {D:Dev} {sy ep:Int} (h:Calm D sy ep) {sv:List Int} (hf:D.fuse=some (0,sv)):AY D sy ep=(EL D D.pend sv,10):=by
 rw [<-Ys D D.pend D.fuse sv,PU];unfold AY;rw [if_neg (by rw [h.live];simp),if_neg h.free];unfold JQ;rw [hf];rfl
theorem Pf {D:Dev} {sy ep:Int} (h:Calm D sy ep) (e:Nat × ByteArray) (he:e.1<D.st.length/\e.2.size=140):
 BC D sy ep (e.1:Int) e.2=if (AY D sy ep).2=0 then (B0 (AY D sy ep).1 ((AY D sy ep).1.pend++wrs sy [e]) (AY D sy ep).1.fuse,0) else AY D sy ep:=by
 unfold BC;rw [if_neg (by rw [h.plain];simp [he.2]),if_neg (by unfold E0;simp;omega)];by_cases h0:(AY D sy ep).2=0
 . rw [if_neg (by simp [h0]),if_pos h0];rfl
 . rw [if_pos h0,if_neg h0]
theorem Yx {D:Dev} {sy ep:Int} (h:Calm D sy ep):
 CW D sy ep=if (AY D sy ep).2=0 then (BQ (AY D sy ep).1 (DG sy) (λ_=>140),0) else AY D sy ep:=by
 unfold CW;rw [if_neg (by rw [h.plain];simp)];by_cases h0:(AY D sy ep).2=0
 . rw [if_neg (by simp [h0]),if_pos h0]
 . rw [if_pos h0,if_neg h0]
theorem Calm.set {D:Dev} {sy ep:Int} (h:Calm D sy ep) (l:Wl) (hl:okW D l) (fu:Option (Nat × List Int)):Calm (B0 D (D.pend++wrs sy l) fu) sy ep:=by
 have h1:=(h.pend l hl).ok;exact ⟨⟨h1.len,h1.pos,h1.lim,h1.st,h1.old,h1.pend,h1.fen⟩,h.live,h.plain,h.free⟩
theorem ah (sy ep:Int) (sv:List Int) (l:Wl):∀(D:Dev) (f:Nat),Calm D sy ep->D.fuse=some (f,sv)->okW D l->
 (l.length<=f/\BS sy ep (puts l) D=(B0 D (D.pend++wrs sy l) (some (f - l.length,sv)),0))\/
 (f<l.length/\BS sy ep (puts l) D=(EL D (D.pend++wrs sy (l.take f)) sv,10)):=by
 induction l with
 | nil=>
   intro D f _ hf _;left;refine ⟨ia _,?_⟩;show (D,0)=_;rw [show D.pend++wrs sy []=D.pend from append_nil _,length_nil,Nat.sub_zero,<-hf,PU]
 | cons e l ih=>
   intro D f h hf hl;have he:=hl e (iO ..);have a:BS sy ep (puts (e::l)) D=if (BC D sy ep (e.1:Int) e.2).2=0 then BS sy ep (puts l) (BC D sy ep (e.1:Int) e.2).1 else BC D sy ep (e.1:Int) e.2:=rfl;cases f with
   | zero=>
     right;refine ⟨qs,?_⟩;rw [a,Pf h e he,SL h hf,if_neg qs,if_neg qs,take_zero,show D.pend++wrs sy []=D.pend from append_nil _]
   | succ n=>
     have hw:BC D sy ep (e.1:Int) e.2=(B0 D (D.pend++wrs sy [e]) (some (n,sv)),0):=by
      rw [Pf h e he,TJ h hf,if_pos rfl];rfl
     rw [a,hw,if_pos rfl];have hc:Calm (B0 D (D.pend++wrs sy [e]) (some (n,sv))) sy ep:=h.set [e] (λx hx=>by rw [gQ.1 hx];exact he) _;have e1:∀t:Wl,(D.pend++wrs sy [e])++wrs sy t=D.pend++wrs sy (e::t):=λt=>by simp [wrs]
     rcases ih _ n hc rfl (λx hx=>hl x (iJ _ hx)) with ⟨h1,h2⟩ | ⟨h1,h2⟩
     . left;refine ⟨by rw [i9];omega,?_⟩;rw [h2,i9,show n+1 - (l.length+1)=n - l.length from oo,G2,<-e1 l];rfl
     . right;refine ⟨by rw [i9];omega,?_⟩;rw [h2,take_succ_cons]
       have hk:∀P:List Wr,EL (B0 D (D.pend++wrs sy [e]) (some (n,sv))) P sv=EL D P sv:=λP=>by
        have h:=Kg (D.pend++wrs sy [e]) (some (n,sv)) (λ_=>true) (svN sv) P D 0;unfold EL BZ;rw [h];rfl
       rw [hk,<-e1 (l.take n)];rfl
theorem LG (sy ep:Int) (sv:List Int) (l:Wl) (D:Dev) (f:Nat) (h:Calm D sy ep) (hf:D.fuse=some (f,sv)) (hp:D.pend=[]) (hl:okW D l):
 (l.length<f/\BS sy ep (puts l++[.sync]) D=(B0 (BF D l) [] (some (f - (l.length+1),sv)),0))\/
 (f<=l.length/\BS sy ep (puts l++[.sync]) D=(EL D (wrs sy (l.take f)) sv,10)):=by
 rw [Ed];rcases ah sy ep sv l D f h hf hl with ⟨h1,h2⟩ | ⟨h1,h2⟩
 . rw [h2,hp,nil_append,if_pos rfl];have hc:=h.set l hl (some (f - l.length,sv));rw [hp,nil_append] at hc;have a:BS sy ep [.sync] (B0 D (wrs sy l) (some (f - l.length,sv)))=if (CW (B0 D (wrs sy l) (some (f - l.length,sv))) sy ep).2=0 then ((CW (B0 D (wrs sy l) (some (f - l.length,sv))) sy ep).1,0) else CW (B0 D (wrs sy l) (some (f - l.length,sv))) sy ep:=rfl;obtain ⟨g,hg⟩:∃g,f - l.length=g:=⟨_,rfl⟩;rw [a,Yx hc];rw [hg] at hc ⊢;cases g with
   | zero=>
     right;refine ⟨oo,?_⟩;rw [SL hc rfl,if_neg qs,if_neg qs,iL oo];have h:=Kg (wrs sy l) (some (0,sv)) (λ_=>true) (svN sv) (wrs sy l) D 0;show (EL (B0 D (wrs sy l) (some (0,sv))) (wrs sy l) sv,_)=_;congr 1;unfold EL BZ;rw [h];rfl
   | succ g=>
     left;refine ⟨oo,?_⟩;rw [TJ hc rfl,if_pos rfl,if_pos rfl,show f - (l.length+1)=g from oo];congr 1;rw [G2];show BQ (B0 D (wrs sy l) (some (g,sv))) (DG sy) (λ_=>140)=_;unfold BQ BZ;rw [Kg];show (⟨((wrs sy l).foldl (AK (DG sy) (λ_=>140)) (D,0)).1.st,((wrs sy l).foldl (AK (DG sy) (λ_=>140)) (D,0)).1.old,(wrs sy l).filter λr=>!DG sy r,((wrs sy l).foldl (AK (DG sy) (λ_=>140)) (D,0)).1.fen,some (g,sv),((wrs sy l).foldl (AK (DG sy) (λ_=>140)) (D,0)).1.failed⟩:Dev)=_;rw [ZO sy (DG sy) (J4 sy) l D 0 h.ok hl,N3];rfl
 . right;rw [h2,if_neg qs,hp,nil_append];exact ⟨oo,rfl⟩
theorem db (sy:Int) (sv:Nat->Nat) (a:∀k,sv k<=140) (l:Wl):∀(D:Dev) (k:Nat),D.Ok->okW D l->(l.map (·.1)).Nodup->
 (∀i,(∀e∈l,e.1≠i)->((wrs sy l).foldl (AK (λ_=>true) sv) (D,k)).1.at i=D.at i)/\
 (∀e∈l,∃n,n<=140/\((wrs sy l).foldl (AK (λ_=>true) sv) (D,k)).1.at e.1=Cf e.2 n (D.at e.1)):=by
 induction l with
 | nil=>intro D k _ _ _;exact ⟨λ_ _=>rfl,λe he=>by cases he⟩
 | cons x l ih=>
   intro D k h hl hn;rw [map_cons,nodup_cons] at hn;obtain ⟨h1,h2⟩:=hl x (iO ..);have b:(wrs sy (x::l)).foldl (AK (λ_=>true) sv) (D,k)=(wrs sy l).foldl (AK (λ_=>true) sv) (AR D x.1 (Ij ⟨sy,x.1,x.2⟩ (sv k) (D.at x.1)),k+1):=rfl;have hs:(Ij ⟨sy,x.1,x.2⟩ (sv k) (D.at x.1)).size=140:=Jg h2 (Gc h h1) (a k);obtain ⟨g1,g2⟩:=ih (AR D x.1 (Ij ⟨sy,x.1,x.2⟩ (sv k) (D.at x.1))) (k+1) (IH h h1 hs) (λy hy=>by rw [Cx];exact hl y (iJ _ hy)) hn.2;rw [b];refine ⟨λi hi=>?_,λe he=>?_⟩
   . rw [g1 i (λe he=>hi e (iJ _ he)),F3 _ _ _ h1,if_neg (λe=>hi x (iO ..) e.symm)]
   . rcases jB.1 he with rfl | he
     . refine ⟨sv k,a k,?_⟩;rw [g1 e.1 (λy hy hq=>hn.1 (by rw [<-hq];exact List.mem_map_of_mem hy)),F3 _ _ _ h1,if_pos rfl];rfl
     . obtain ⟨n,c,e2⟩:=g2 e he;refine ⟨n,c,?_⟩;rw [e2,F3 _ _ _ h1,if_neg (λhq=>hn.1 (by rw [<-hq];exact List.mem_map_of_mem he))]
theorem Kf (D:Dev) (sy:Int) (l:Wl) (sv:List Int) (h:D.Ok) (hl:okW D l) (hn:(l.map (·.1)).Nodup):
 (∀i,(∀e∈l,e.1≠i)->(EL D (wrs sy l) sv).at i=D.at i)/\(∀e∈l,∃n,n<=140/\(EL D (wrs sy l) sv).at e.1=Cf e.2 n (D.at e.1)):=
 db sy (svN sv) (LL sv) l D 0 h hl hn
theorem Ko (D:Dev) (sy:Int) (l:Wl) (sv:List Int) {ep:Int} (h:Calm D sy ep) (hl:okW D l):(EL D (wrs sy l) sv).Ok/\(EL D (wrs sy l) sv).st.length=D.st.length:=by
 have k:=Nr h.ok (λ_=>true) (svN sv) (LL sv) (wrs sy l) (D,0) ⟨h.ok,rfl,rfl,rfl,rfl,rfl⟩ (λr hr=>by
  obtain ⟨e,he,rfl⟩:=gV.1 hr
  exact hl e he)
 exact ⟨⟨k.ok.len,k.ok.pos,k.ok.lim,k.ok.st,k.ok.old,λr hr=>(by cases hr),h.ok.fen⟩,k.len⟩

abbrev U32:=BitVec 32
def blankR:ByteArray:=BI 140
theorem Bn:blankR.size=140:=DD 140
def fld (s:ByteArray) (i:Nat):U32:=Cp (s.extract (4*i) (4*i+4))
def AM:List U32->ByteArray
 | []=>⟨#[]⟩
 | x::l=>AJ x++AM l
theorem EM (l:List U32):(AM l).size=4*l.length:=by
 induction l with
 | nil=>rfl
 | cons x l ih=>show (AJ x++AM l).size=_;rw [gy,AN,ih,i9];omega
theorem Tl (a b:List U32):AM (a++b)=AM a++AM b:=by
 induction a with
 | nil=>show AM b=ByteArray.empty++AM b;rw [js]
 | cons x a ih=>show AJ x++AM (a++b)=(AJ x++AM a)++AM b;rw [ih,jJ]
theorem Sf (a b:ByteArray) (i j:Nat) (h:a.size<=i):(a++b).extract i j=b.extract (i - a.size) (j - a.size):=by
 rw [ByteArray.extract_append];rw [show a.extract i j=ByteArray.empty from by rw [<-ByteArray.size_eq_zero_iff,iK];omega];exact js
theorem H6 (l:List U32):∀i (h:i<l.length),fld (AM l) i=l[i]:=by
 induction l with
 | nil=>intro i h;exact absurd h qs
 | cons x l ih=>
   intro i h;cases i with
   | zero=>
     show Cp ((AJ x++AM l).extract 0 4)=x;rw [Mx _ _ 4 (AN x),Cw]
   | succ i=>
     have hi:i<l.length:=by simpa using h
     show Cp ((AJ x++AM l).extract (4*(i+1)) (4*(i+1)+4))=l[i];rw [Sf _ _ _ _ (by rw [AN];omega),AN,show 4*(i+1) - 4=4*i from oo,show 4*(i+1)+4 - 4=4*i+4 from oo];exact ih i hi
structure Raw where
 data:ByteArray
 ver:U32
 ok:Bool
def LB:Raw:=⟨⟨#[]⟩,0#32,false⟩
def AQ (s:ByteArray) (i:Int):Raw:=if okR s i then ⟨s.extract 0 128,Cp (s.extract 128 132),true⟩ else LB
theorem GL (d:ByteArray) (v:U32) (i:Int):AQ (AZ d v i) i=⟨BD d,v,true⟩:=by
 obtain ⟨h1,h2,h3,h4,h5⟩:=D6 d v i;unfold AQ;rw [if_pos ⟨An d v i,by rw [h1,h2,Cw],by rw [h5,Cw]⟩,h3,h4,Cw]
theorem RP (i:Nat) (h:i+4<=140):Cp (blankR.extract i (i+4))=0#32:=by
 have e:blankR.extract i (i+4)=BI 4:=by
  apply Fv;rw [Eb];show ((List.replicate 140 (0:UInt8)).toArray.toList.drop i).take (i+4 - i)=(List.replicate 4 (0:UInt8)).toArray.toList;rw [drop_replicate,take_replicate,show min (i+4 - i) (140 - i)=4 from oo]
 rw [e];decide
theorem Uc (i:Int) (h:EY i≠0#32):¬okR blankR i:=by
 rintro ⟨_,_,h3⟩;rw [RP 132 oo] at h3;exact h h3.symm
def Hg (D:Dev) (j:Nat):ByteArray:=D.content (34+j)
def EZ (s:ByteArray):Int:=u32 (Cp (s.extract 132 136))
def F9 (n:Nat) (m:U32) (s:ByteArray):Bool:=decide (okR s (EZ s)) && (Cp (s.extract 128 132)==m) && !(decide (32<EZ s) && (decide (EZ s<131) || decide ((n:Int)<=EZ s)))
def CM (D:Dev) (c:Nat):List ByteArray:=(List.range c).map (Hg D)
def DR:List ByteArray->ByteArray
 | []=>⟨#[]⟩
 | s::l=>s++DR l
def Bc (D:Dev):Raw:=AQ (D.content 33) 33
def topI (D:Dev):Raw:=AQ (D.content 0) 0
def DQ (D:Dev):Nat:=(fld (Bc D).data 1).toNat
def Ez (D:Dev):Bool:=(Bc D).ok && (fld (Bc D).data 0==(Bc D).ver) && decide (1<=DQ D/\DQ D<=97) && decide ((Bc D).data.extract 12 128=BI 116)
def J6 (D:Dev):Bool:=(CM D (DQ D)).all (F9 D.st.length (Bc D).ver)
def TE (D:Dev):Bool:=decide (FF (DR (CM D (DQ D)))=fld (Bc D).data 2)
def Qh (D:Dev):Bool:=!(topI D).ok || ((Bc D).ver==(topI D).ver) || decide ((Bc D).ver.toNat=(topI D).ver.toNat+1)
def De (D:Dev):Bool:=Ez D && (J6 D && (TE D && Qh D))
def AU (D:Dev):List (Int × ByteArray):=if De D=true then (CM D (DQ D)).map λs=>(EZ s,s) else []
def CN (l:List (Int × ByteArray)):List St:=l.map (λe=>.put e.1 e.2)++[.sync,.put 33 blankR,.sync]
def Bs (D:Dev) (sy ep:Int):Dev × Bool × Int:=
 if D.failed=true then (D,false,10) else if AU D=[] then (D,false,0) else ((BS sy ep (CN (AU D)) D).1,(BS sy ep (CN (AU D)) D).2==0,(BS sy ep (CN (AU D)) D).2)
def mapI (D:Dev) (k:Nat):Raw:=AQ (D.content (1+k)) (1+k:Nat)
def datI (D:Dev) (i:Nat):Raw:=AQ (D.content (131+i)) (131+i:Nat)
def Dl (D:Dev) (i:Nat):ByteArray × Int:=
 if (topI D).ok=false then (⟨#[]⟩,11) else if (mapI D (i / 32)).ok=false then (⟨#[]⟩,11) else if (mapI D (i / 32)).ver≠fld (topI D).data (i / 32) then (⟨#[]⟩,12)
 else if (datI D i).ok=false then (⟨#[]⟩,11) else if (datI D i).ver≠fld (mapI D (i / 32)).data (i % 32) then (⟨#[]⟩,12) else ((datI D i).data,0)
structure Img where
 n:Nat
 N:Nat
 ms:Nat->Nat
 vs:Nat->Nat
 cs:Nat->ByteArray
def Img.mv (I:Img) (k j:Nat):Nat:=if 32*k+j<I.n then I.vs (32*k+j) else 0
def nv (n:Nat):U32:=BitVec.ofNat 32 n
theorem Dt (n:Nat) (h:n<4294967296):(nv n).toNat=n:=by unfold nv;rw [jC];exact iu h
def Img.tops (I:Img):List U32:=(List.range 32).map λk=>nv (I.ms k)
def Img.mapL (I:Img) (k:Nat):List U32:=(List.range 32).map λj=>nv (I.mv k j)
def Img.topR (I:Img):ByteArray:=AZ (AM I.tops) (nv I.N) 0
def Img.mapR (I:Img) (k:Nat):ByteArray:=AZ (AM (I.mapL k)) (nv (I.ms k)) (1+k:Nat)
def Img.datR (I:Img) (i:Nat):ByteArray:=AZ (I.cs i) (nv (I.vs i)) (131+i:Nat)
theorem fz (f:Nat->U32):BD (AM ((List.range 32).map f))=AM ((List.range 32).map f):=GH _ (by rw [EM];simp)
theorem Pm (f:Nat->U32) (k:Nat) (h:k<32):fld (AM ((List.range 32).map f)) k=f k:=by
 rw [H6 _ k (by simpa using h)];simp
structure Img.Ok (I:Img):Prop where
 n0:1<=I.n
 n1:I.n<=1024
 N:I.N<4294967296
 ms:∀k,I.ms k<=I.N
 vs:∀i,I.vs i<=I.N
 cs:∀i,i<I.n->(I.cs i).size=128
structure Holds (D:Dev) (I:Img):Prop where
 ok:D.Ok
 img:I.Ok
 len:D.st.length=131+I.n
 live:D.failed=false
 pend:D.pend=[]
 top:D.at 0=I.topR
 map:∀k,k<32->D.at (1+k)=I.mapR k
 dat:∀i,i<I.n->D.at (131+i)=I.datR i
structure Clean (D:Dev) (I:Img):Prop extends Holds D I where
 head:D.at 33=blankR
theorem Holds.content {D:Dev} {I:Img} (h:Holds D I) (i:Nat):D.content i=D.at i:=by unfold Dev.content;rw [h.pend];rfl
theorem Holds.topI {D:Dev} {I:Img} (h:Holds D I):topI D=⟨AM I.tops,nv I.N,true⟩:=by
 unfold Go.Proofs.YtfklieeipokllaaGreat.topI;rw [h.content,h.top];unfold Img.topR;rw [GL];unfold Img.tops;rw [fz]
theorem Holds.mapI {D:Dev} {I:Img} (h:Holds D I) (k:Nat) (hk:k<32):mapI D k=⟨AM (I.mapL k),nv (I.ms k),true⟩:=by
 unfold Go.Proofs.YtfklieeipokllaaGreat.mapI;rw [h.content,h.map k hk];unfold Img.mapR;rw [GL];unfold Img.mapL;rw [fz]
theorem Holds.datI {D:Dev} {I:Img} (h:Holds D I) (i:Nat) (hi:i<I.n):datI D i=⟨I.cs i,nv (I.vs i),true⟩:=by
 unfold Go.Proofs.YtfklieeipokllaaGreat.datI;rw [h.content,h.dat i hi];unfold Img.datR;rw [GL,GH _ (h.img.cs i hi)]
theorem Holds.look {D:Dev} {I:Img} (h:Holds D I) (i:Nat) (hi:i<I.n):Dl D i=(I.cs i,0):=by
 have hn:=h.img.n1;have hk:i / 32<32:=oo;unfold Dl;rw [h.topI,h.mapI _ hk,h.datI i hi,if_neg qs,if_neg qs,if_neg,if_neg qs,if_neg]
 . intro hc;apply hc;show nv (I.vs i)=fld (AM (I.mapL (i / 32))) (i % 32);unfold Img.mapL;rw [Pm _ _ oo];unfold Img.mv;rw [show 32*(i / 32)+i % 32=i from oo,if_pos hi]
 . intro hc;apply hc;show nv (I.ms (i / 32))=fld (AM I.tops) (i / 32);unfold Img.tops;rw [Pm _ _ hk]
theorem fE (i:Nat) (h:i≠0) (h2:i<4294967296):EY (i:Int)≠0#32:=by
 intro e;have:=YT (i:=(i:Int)) (j:=0) oo oo (by rw [e];decide);omega
theorem Ny (D:Dev) (h:(Bc D).ok=false):AU D=[]:=by
 unfold AU De Ez;rw [h];rfl
theorem RS (D:Dev) (h:D.content 33=blankR):AU D=[]:=by
 apply Ny;unfold Bc AQ;rw [h,if_neg (Uc 33 (fE 33 qd qd))];rfl
theorem Clean.noint {D:Dev} {I:Img} (h:Clean D I):AU D=[]:=RS D (by rw [h.content,h.head])
theorem E8 {D:Dev} {I:Img} (h:Clean D I) (sy ep:Int):Bs D sy ep=(D,false,0):=by
 unfold Bs;rw [if_neg (by rw [h.live];simp),if_pos h.noint]

end
section
attribute [local go_sem ↓] Go.wp_at_zero Go.wp_at_succ
open Go.RowKit
def AC (S:Nat->BitVec 32):Array Value:=((List.range 32).map λi=>Value.int .u32 (u32 (S i))).toArray
theorem Ae (S:Nat->BitVec 32):(AC S).size=32:=by simp [AC]
theorem Cl (S:Nat->BitVec 32) (k:Nat) (h:k<32):(AC S)[k]? =some (.int .u32 (u32 (S k))):=by
 simp [AC,gP,jD,h]
theorem IO (S:Nat->BitVec 32) (k:Nat) (b:BitVec 32):(AC S).setIfInBounds k (.int .u32 (u32 b))=AC (λi=>if i=k then b else S i):=by
 simp only [AC,setIfInBounds_toArray];congr 1;apply jy;intro i;rw [jg];by_cases a:k=i
 . subst a;by_cases h:k<32
   . simp [h]
   . simp [h,iy]
 . rw [if_neg a];by_cases h:i<32
   . simp [gP,jD,h,Ne.symm a]
   . rw [iy (by simp;omega),iy (by simp;omega)]
theorem BP {S T:Nat->BitVec 32} (h:∀i,i<32->S i=T i):AC S=AC T:=by
 unfold AC;congr 1;apply ie;intro i hi;rw [h i (List.mem_range.mp hi)]
theorem EA (S:Nat->BitVec 32):(AC S).all (·.oneCell')=true:=by
 rw [AC,all_toArray,ic];intro v hv;obtain ⟨i,_,rfl⟩:=List.mem_map.mp hv;rfl
theorem GM (w:World):(zeroValue 185).run Tryz.prog w=.ok (.agg (AC λ_=>0#32)) w:=qk
theorem EV:(Tryz.prog.info? 185).map (·.size)=some 32:=qk
theorem Ks (f g:Nat->BitVec 32) (k i:Nat):(if i=k then f k else if i<k then f i else g i)=if i<k+1 then f i else g i:=by
 by_cases h:i=k
 . subst h;rw [if_pos rfl,if_pos oo]
 . rw [if_neg h];by_cases h2:i<k
   . rw [if_pos h2,if_pos oo]
   . rw [if_neg h2,if_neg oo]
theorem JA (d:ByteArray) (hd:d.size=128) (w:World):
 Calls Tryz.prog 108 #[.string d] w λe w'=>e=.returned (.agg (AC (fld d)))/\Grew w w':=by
 have hz:=GM;have HN:=zh (λk (hk:k<32) (w:World)=>Df (d.extract (4*k) (4*k+4)) (by rw [iK];omega) w);have j:128<=d.size/\d.size<=128:=oo;clear hd;go_enter Tryz.func108,Tryz.ntmps108;go_wp2_with fail;clear hz
 go_loopg [5] 32 (λgk i wr=>∃k:Nat,k<=32/\gk=32 - k/\i=.int .i64 k/\Blk wr w.heap.size 185 (AC λ_=>0#32)/\Blk wr (w.heap.size+1) 185 (AC λi=>if i<k then fld d i else 0#32)/\Grew w wr)
 case atStart=>exact ⟨0,oo,oo,rfl,gB,by (apply Blk.conv;(· (repeat' first | (with_reducible assumption) | (with_reducible apply Blk.setRow) | ((with_reducible apply Blk.farRow);rotate_left;(focus (first | (simp;done) | (simp;omega) | omega))) | (with_reducible apply Blk.drew) | (with_reducible apply Blk.drewN) | (with_reducible apply Blk.set_) | (with_reducible exact gZ _ _ _ (by first | rfl | (simp;done) | (simp;omega))) | (with_reducible apply Blk.alloc) | ((with_reducible apply Blk.far);rotate_left;(focus (first | (simp;done) | (simp;omega) | omega))) | ((with_reducible apply Blk.grew);rotate_left;(with_reducible assumption)) | ((with_reducible apply Blk.turned);rotate_left;(with_reducible assumption);(focus (first | (simp;done) | (simp;omega) | omega))) | fail));(· exact BP λi _=>qs)),gG⟩
 case round=>
  obtain ⟨k,hk,g,rfl,b,a,hg⟩:=hrel;have h:=zh g;clear g;have l:=a.lt;by_cases f:k<32
  . go_wp2_with fail;refine (HN k f _).mono ?_;rintro e w1 ⟨rfl,g1⟩;have m:=b.grew g1;have c:=a.grew g1;have n:Grew w w1:=gG;have ha:=c.cell k;rw [Cl _ _ oo] at ha;have hf:=c.frozen k;have o:=BJ (Cp (d.extract (4*k) (4*k+4)));go_wp2_with fail
    go_roundg (32 - (k+1))
    case measure=>rw [h.out];omega
    case rel=>exact ⟨k+1,oo,oo,by go_num,gB,by (apply Blk.conv;(· (repeat' first | (with_reducible assumption) | (with_reducible apply Blk.setRow) | ((with_reducible apply Blk.farRow);rotate_left;(focus (first | (simp;done) | (simp;omega) | omega))) | (with_reducible apply Blk.drew) | (with_reducible apply Blk.drewN) | (with_reducible apply Blk.set_) | (with_reducible exact gZ _ _ _ (by first | rfl | (simp;done) | (simp;omega))) | (with_reducible apply Blk.alloc) | ((with_reducible apply Blk.far);rotate_left;(focus (first | (simp;done) | (simp;omega) | omega))) | ((with_reducible apply Blk.grew);rotate_left;(with_reducible assumption)) | ((with_reducible apply Blk.turned);rotate_left;(with_reducible assumption);(focus (first | (simp;done) | (simp;omega) | omega))) | fail));(· rw [IO];exact BP λi _=>Ks (fld d) (λ_=>0#32) k i)),gG⟩
  . obtain rfl:k=32:=oo;have e0:AC (λi=>if i<32 then fld d i else 0#32)=AC (fld d):=BP λi hi=>by rw [if_pos hi]
    rw [e0] at a;clear e0;clear f;go_wp2_with (first | (refine Cu rfl 185 _ rfl (w.heap.size+1) rfl 185 (AC (fld d)) _ a Tryz.underlying185 rfl (by rw [Ae];exact EV) ?_) | (refine AO rfl 185 _ _ rfl w.heap.size (AC (fld d)) rfl rfl 185 _ b (by rw [Ae,Ae]) (by rw [Ae];exact EV) (EA _) ?_));refine gw (results_cell_row rfl _ _ _ 185 (AC (fld d)) (0,0) _ rfl (b.setRow _) Tryz.underlying185 rfl (by rw [Ae];exact EV)) rfl ?_;exact ⟨rfl,gG⟩
theorem Re (S:Nat->BitVec 32) (k:Nat):AM ((List.range (k+1)).map S)=AM ((List.range k).map S)++AJ (S k):=by
 rw [jt,gm,Tl];congr 1
theorem Jn (S:Nat->BitVec 32) (g:Nat) (w:World) (hb:Blk w g 185 (AC S)):
 Calls Tryz.prog 111 #[.pointer (some ⟨g,0,none⟩)] w λe w'=>e=.returned (.string (AM ((List.range 32).map S)))/\Grew w w':=by
 have HV:=zh (λk=>Re S k);have c:=zh (λk=>EM ((List.range k).map S));have HB:=zh hb;clear hb;go_enter Tryz.func111,Tryz.ntmps111;go_wp2_with fail
 go_loopg [3,7] 32 (λgk s i wr=>∃k:Nat,k<=32/\gk=32 - k/\i=.int .i64 k/\s=.string (AM ((List.range k).map S))/\Grew w wr)
 case atStart=>exact ⟨0,oo,oo,rfl,rfl,gG⟩
 case round=>
  obtain ⟨k,hk,b,rfl,rfl,hg⟩:=hrel;have d:=zh b;clear b;by_cases m:k<32
  . have a:=HB.grew hg;have ha:=a.cell k;rw [Cl _ _ oo] at ha;have f:=a.lt;have h:(k:Int)<32:=oo;have j:(AM ((List.range k).map S)).size<=128:=by rw [c.out,gO,jK];omega
    have l:=AN (S k);clear a;go_wp2_with fail;refine (Er (S k) _).mono ?_;rintro e w1 ⟨rfl,g1⟩;go_wp2_with fail
    go_roundg (32 - (k+1))
    case measure=>rw [d.out];omega
    case rel=>exact ⟨k+1,oo,oo,by go_num,by rw [HV.out],hg.trans g1⟩
  . obtain rfl:k=32:=oo;go_wp2_with fail;go_ret;exact ⟨rfl,hg⟩

end
section
open Go.RowKit
def wlI (l:Wl):List (Int × ByteArray):=l.map λe=>((e.1:Int),e.2)
def DB (l:Wl):List ByteArray:=l.map (·.2)
def CG (l:Wl) (v:U32):ByteArray:=AJ v++(AJ (nv l.length)++AJ (FF (DR (DB l))))
def CP (l:Wl) (v:U32):ByteArray:=AZ (CG l v) v 33
def Bf (l:Wl):Wl:=(List.range l.length).map λj=>(34+j,(l.getD j (0,⟨#[]⟩)).2)
def B3 (l:Wl) (v:U32):List St:=(puts (Bf l)++[.sync])++((puts [(33,CP l v)]++[.sync])++((puts l++[.sync])++(puts [(33,blankR)]++[.sync])))
theorem PT (l:Wl):CN (wlI l)=(puts l++[.sync])++(puts [(33,blankR)]++[.sync]):=by
 unfold CN wlI puts;simp
theorem LJ (l:Wl) (v:U32):(CG l v).size=12:=by
 unfold CG;rw [gy,gy,AN,AN,AN]
theorem J9 (l:Wl) (v:U32):CG l v=AM [v,nv l.length,FF (DR (DB l))]:=by
 unfold CG;show _=AJ v++(AJ (nv l.length)++(AJ _++⟨#[]⟩));rw [show AJ (FF (DR (DB l)))++(⟨#[]⟩:ByteArray)=AJ (FF (DR (DB l))) from jW]
theorem Yc (l:Wl) (v:U32):fld (BD (CG l v)) 0=v/\fld (BD (CG l v)) 1=nv l.length/\fld (BD (CG l v)) 2=FF (DR (DB l))/\(BD (CG l v)).extract 12 128=BI 116:=by
 have hs:=LJ l v
 have he:BD (CG l v)=CG l v++BI 116:=by
  unfold BD;have a:(CG l v).data.toList.length=12:=by simpa using hs
  have h0:(CG l v).extract 0 128=CG l v:=by
   apply Fv;rw [Eb,drop_zero,iL oo]
  rw [hs,h0]
 have hf:∀i,i<3->fld (BD (CG l v)) i=fld (CG l v) i:=λi hi=>by
  unfold fld;rw [he,Lx _ _ _ _ oo]
 refine ⟨?_,?_,?_,?_⟩
 . rw [hf 0 oo,J9];exact H6 _ 0 qs
 . rw [hf 1 oo,J9];exact H6 _ 1 qs
 . rw [hf 2 oo,J9];exact H6 _ 2 qs
 . rw [he];exact Jh _ _ 12 128 hs (by rw [DD])
structure Entries (n:Nat) (l:Wl) (v:U32):Prop where
 pack:∀e∈l,∃d,e.2=AZ d v (e.1:Int)
 place:∀e∈l,e.1<=32\/(131<=e.1/\e.1<n)
 pos:1<=l.length
 lim:l.length<=97
 nodup:(l.map (·.1)).Nodup
 bound:n<=1155
 low:131<=n
theorem Entries.lt {n:Nat} {l:Wl} {v:U32} (h:Entries n l v):∀e∈l,e.1<n/\e.2.size=140:=λe he=>by
 obtain ⟨d,hd⟩:=h.pack e he;have:=h.low;exact ⟨by rcases h.place e he with h1 | h1<;>omega,by rw [hd,An]⟩
theorem Entries.slot {n:Nat} {l:Wl} {v:U32} (h:Entries n l v) (e:Nat × ByteArray) (he:e∈l):F9 n v e.2=true/\EZ e.2=(e.1:Int):=by
 obtain ⟨d,hd⟩:=h.pack e he;obtain ⟨h1,h2,h3,h4,h5⟩:=D6 d v (e.1:Int);have hp:=h.place e he;have hb:=h.bound
 have hi:EZ e.2=(e.1:Int):=by
  unfold EZ;rw [hd,h5,Cw];unfold u32 EY;rw [BitVec.toNat_ofInt];omega
 refine ⟨?_,hi⟩
 have a:okR e.2 (EZ e.2):=by
  rw [hi,hd];exact ⟨An d v _,by rw [h1,h2,Cw],by rw [h5,Cw]⟩
 unfold F9;rw [iB a,hi,hd,h4,Cw];simp only [beq_self_eq_true,Bool.true_and,jq,Bool.and_eq_false_iff,decide_eq_false_iff_not,Bool.or_eq_false_iff];rcases hp with h6 | h6
 . left;omega
 . right;omega
theorem LQ (E:Dev) (l:Wl) (v:U32) (h:Entries E.st.length l v) (hp:E.pend=[]) (hh:E.at 33=CP l v) (hs:∀j (hj:j<l.length),E.at (34+j)=l[j].2)
 (ht:(topI E).ok=true->v=(topI E).ver\/v.toNat=(topI E).ver.toNat+1):AU E=wlI l:=by
 have hc:∀i,E.content i=E.at i:=λi=>by unfold Dev.content;rw [hp];rfl
 obtain ⟨f0,f1,f2,f3⟩:=Yc l v
 have a:Bc E=⟨BD (CG l v),v,true⟩:=by
  unfold Bc;rw [hc,hh];exact GL _ _ 33
 have f:=h.lim;have g:=h.pos
 have b:DQ E=l.length:=by
  unfold DQ;rw [a];show (fld (BD (CG l v)) 1).toNat=_;rw [f1,Dt _ oo]
 have c:CM E (DQ E)=DB l:=by
  unfold CM DB;rw [b];apply jv qs;intro j h1 h2;rw [ju,List.getElem_range,ju];unfold Hg;rw [hc];exact hs j (by simpa using h2)
 have hB:De E=true:=by
  unfold De Ez J6 TE Qh;rw [c,b,a];simp only [iU,f0,f1,f2,f3,beq_self_eq_true,iV,true_and,and_true];refine ⟨⟨g,f⟩,?_,?_⟩
  . rw [ic];intro s d;unfold DB at d;obtain ⟨e,he,rfl⟩:=gV.1 d;exact (h.slot e he).1
  . simp only [Bool.or_eq_true,jq,jR,iV];cases ho:(topI E).ok with
    | false=>exact .inl (.inl rfl)
    | true=>
      rcases ht ho with h9 | h9
      . exact .inl (.inr h9)
      . exact .inr h9
 unfold AU;rw [if_pos hB,c];unfold DB wlI;rw [jM];apply ie;intro e he;show (EZ e.2,e.2)=_;rw [(h.slot e he).2]
theorem II (l:Wl) (e:Nat × ByteArray) (he:e∈Bf l):∃j,∃hj:j<l.length,e=(34+j,l[j].2):=by
 unfold Bf at he;obtain ⟨j,hj,rfl⟩:=gV.1 he;have a:=iP.1 hj;exact ⟨j,a,by rw [iE,gJ a];rfl⟩
theorem Fw {D:Dev} {l:Wl} {v:U32} (h:Entries D.st.length l v):okW D (Bf l):=λe he=>by
 obtain ⟨j,hj,rfl⟩:=II l e he;have:=h.lim;have:=h.low;exact ⟨by show 34+j<_;omega,(h.lt _ (gS hj)).2⟩
theorem Hv (l:Wl):((Bf l).map (·.1)).Nodup:=by
 unfold Bf;rw [jM,Nodup,jh];exact nodup_range.imp (λ{a b} hab he=>hab (by simp only [Function.comp] at he;omega))
theorem Z3 (D:Dev) (l:Wl) (hl:okW D (Bf l)) (i:Nat):(BF D (Bf l)).at i=if h:34<=i/\i<34+l.length then (l[i - 34]'oo).2 else D.at i:=by
 rw [Fq _ _ hl];split
 . rename_i h
   have hm:(i,(l[i - 34]'oo).2)∈Bf l:=by
    unfold Bf;refine gV.2 ⟨i - 34,iP.2 oo,?_⟩;rw [iE,gJ oo];show (34+(i - 34),_)=_;rw [show 34+(i - 34)=i from oo];rfl
   rw [EN _ (Hv l) _ hm];rfl
 . rename_i h;rw [B5 _ _ (λe he hq=>by obtain ⟨j,hj,rfl⟩:=II l e he;simp only [] at hq;omega)];rfl
theorem Qb (D:Dev) (i:Nat) (s:ByteArray) (hl:okW D [(i,s)]) (j:Nat):(BF D [(i,s)]).at j=if j=i then s else D.at j:=by
 rw [Fq _ _ hl];show ((if j=i then some s else none:Option ByteArray)).getD _=_;by_cases h:j=i<;>simp [h]

def ph1 (D:Dev) (l:Wl):Dev:=BF D (Bf l)
def ph2 (D:Dev) (l:Wl) (v:U32):Dev:=BF (ph1 D l) [(33,CP l v)]
def ph3 (D:Dev) (l:Wl) (v:U32):Dev:=BF (ph2 D l v) l
def ph4 (D:Dev) (l:Wl) (v:U32):Dev:=BF (ph3 D l v) [(33,blankR)]
theorem EX {D:Dev} (h:131<=D.st.length) (s:ByteArray) (hs:s.size=140):okW D [(33,s)]:=λe he=>by
 rw [gQ.1 he];exact ⟨by show 33<_;omega,hs⟩
theorem Je {D:Dev} {l:Wl} {v:U32} (hd:D.Ok) (h:Entries D.st.length l v):EndKept D (ph1 D l)/\EndKept (ph1 D l) (ph2 D l v)/\EndKept (ph2 D l v) (ph3 D l v)/\EndKept (ph3 D l v) (ph4 D l v):=by
 have k1:=DA (Bf l) D hd (Fw h);have b:=h.low;have k2:EndKept (ph1 D l) (ph2 D l v):=DA _ (ph1 D l) k1.ok (EX (by have:=k1.len;show 131<=(BF D (Bf l)).st.length;omega) _ (An ..));have a:okW (ph2 D l v) l:=λe he=>by rw [k2.len,show (ph1 D l).st.length=D.st.length from k1.len];exact h.lt e he
 have k3:EndKept (ph2 D l v) (ph3 D l v):=DA l (ph2 D l v) k2.ok a;have k4:EndKept (ph3 D l v) (ph4 D l v):=DA _ (ph3 D l v) k3.ok (EX (by rw [k3.len,k2.len,show (ph1 D l).st.length=D.st.length from k1.len];omega) _ Bn);exact ⟨k1,k2,k3,k4⟩
theorem I7 {D:Dev} {l:Wl} {v:U32} (hd:D.Ok) (h:Entries D.st.length l v):(ph1 D l).st.length=D.st.length/\(ph2 D l v).st.length=D.st.length/\(ph3 D l v).st.length=D.st.length/\(ph4 D l v).st.length=D.st.length:=by
 obtain ⟨k1,k2,k3,k4⟩:=Je hd h;exact ⟨k1.len,k2.len.trans k1.len,k3.len.trans (k2.len.trans k1.len),k4.len.trans (k3.len.trans (k2.len.trans k1.len))⟩
theorem Np {D:Dev} {l:Wl} {v:U32} {sy ep:Int} (h:Entries D.st.length l v) (hc:Calm D sy ep) (hf:D.fuse=none) (hp:D.pend=[]):BS sy ep (B3 l v) D=(ph4 D l v,0):=by
 obtain ⟨k1,k2,k3,k4⟩:=Je (v:=v) hc.ok h;obtain ⟨l1,l2,l3,l4⟩:=I7 (v:=v) hc.ok h;have a:=h.low;have c1:=hc.kept k1;have c2:=c1.kept k2;have c3:=c2.kept k3;have r1:=EK sy ep (Bf l) D hc hf hp (Fw h);have r2:=EK sy ep [(33,CP l v)] (ph1 D l) c1 (k1.fuse.trans hf) (k1.pend.trans hp) (EX oo _ (An ..));have r3:=EK sy ep l (ph2 D l v) c2 (k2.fuse.trans (k1.fuse.trans hf)) (k2.pend.trans (k1.pend.trans hp)) (λe he=>by rw [l2];exact h.lt e he);have r4:=EK sy ep [(33,blankR)] (ph3 D l v) c3 (k3.fuse.trans (k2.fuse.trans (k1.fuse.trans hf))) (k3.pend.trans (k2.pend.trans (k1.pend.trans hp))) (EX oo _ Bn);unfold B3;rw [Ed,r1,if_pos rfl,Ed];rw [show BF D (Bf l)=ph1 D l from rfl,r2,if_pos rfl,Ed];rw [show BF (ph1 D l) [(33,CP l v)]=ph2 D l v from rfl,r3,if_pos rfl];rw [show BF (ph2 D l v) l=ph3 D l v from rfl,r4];rfl
theorem RB {D:Dev} {l:Wl} {v:U32} (h:Entries D.st.length l v) (i:Nat):(ph1 D l).at i=if h:34<=i/\i<34+l.length then (l[i - 34]'oo).2 else D.at i:=Z3 D l (Fw h) i
theorem RD {D:Dev} {l:Wl} {v:U32} (hd:D.Ok) (h:Entries D.st.length l v) (i:Nat):(ph2 D l v).at i=if i=33 then CP l v else (ph1 D l).at i:=by
 obtain ⟨l1,_⟩:=I7 (v:=v) hd h;have a:=h.low;exact Qb (ph1 D l) 33 _ (EX oo _ (An ..)) i
theorem NY {D:Dev} {l:Wl} {v:U32} (hd:D.Ok) (h:Entries D.st.length l v) (i:Nat):(ph3 D l v).at i=(Ak l i).getD ((ph2 D l v).at i):=by
 obtain ⟨_,l2,_⟩:=I7 (v:=v) hd h;exact Fq l _ (λe he=>by rw [l2];exact h.lt e he) i
theorem OU {D:Dev} {l:Wl} {v:U32} (hd:D.Ok) (h:Entries D.st.length l v) (i:Nat):(ph4 D l v).at i=if i=33 then blankR else (ph3 D l v).at i:=by
 obtain ⟨_,_,l3,_⟩:=I7 (v:=v) hd h;have a:=h.low;exact Qb (ph3 D l v) 33 _ (EX oo _ Bn) i
theorem QP {D:Dev} {l:Wl} {v:U32} (hd:D.Ok) (h:Entries D.st.length l v) (i:Nat) (hi:i<=32\/131<=i):(ph4 D l v).at i=(Ak l i).getD (D.at i):=by
 have a:=h.lim;rw [OU hd h,if_neg oo,NY hd h,RD hd h,if_neg oo,RB h,dif_neg oo]
structure Takes (I:Img) (ws:Wl):Prop where
 lt:∀e∈ws,e.1<I.n/\e.2.size=128
 asc:ws.Pairwise λa b=>a.1<b.1
 pos:1<=ws.length
 lim:ws.length<=64
 room:I.N+1<4294967296
def ksW (ws:Wl):List Nat:=(List.range 32).filter λk=>ws.any λe=>e.1 / 32==k
def Img.upd (I:Img) (ws:Wl):Img where
 n:=I.n
 N:=I.N+1
 ms:=λk=>if (ws.any λe=>e.1 / 32==k)=true then I.N+1 else I.ms k
 vs:=λi=>if (Ak ws i).isSome=true then I.N+1 else I.vs i
 cs:=λi=>(Ak ws i).getD (I.cs i)
def DE (J:Img) (ws:Wl):Wl:=(0,J.topR)::((ksW ws).map (λk=>(1+k,J.mapR k))++ws.map λe=>(131+e.1,J.datR e.1))
theorem CR (ws:Wl) (k:Nat):k∈ksW ws↔k<32/\∃e∈ws,e.1 / 32=k:=by
 unfold ksW;rw [ip,iP,jZ];simp
theorem Xg (ws:Wl):(ksW ws).Nodup:=nodup_range.filter _
theorem dK (ws:Wl):(ksW ws).length<=32:=by
 unfold ksW;refine gY (jY _ _) ?_;simp
theorem ME {I:Img} {ws:Wl} (h:Takes I ws):(ws.map (·.1)).Nodup:=by
 rw [Nodup,jh];exact h.asc.imp (λ{a b} hab=>oo)
theorem Nd {I:Img} {ws:Wl} (h:Takes I ws) (J:Img):((DE J ws).map (·.1)).Nodup:=by
 unfold DE;rw [map_cons,gm,jM,jM,nodup_cons];refine ⟨?_,jA.2 ⟨?_,?_,?_⟩⟩
 . intro hm;rcases iA.1 hm with hm | hm
   . obtain ⟨k,_,hk⟩:=gV.1 hm;simp only [Function.comp] at hk;omega
   . obtain ⟨e,_,he⟩:=gV.1 hm;simp only [Function.comp] at he;omega
 . rw [Nodup,jh];exact (Xg ws).imp (λ{a b} hab he=>hab (by simp only [Function.comp] at he;omega))
 . rw [Nodup,jh];exact h.asc.imp (λ{a b} hab he=>by simp only [Function.comp] at he;omega)
 . intro a ha b hb e;obtain ⟨k,hk,rfl⟩:=gV.1 ha;obtain ⟨x,_,rfl⟩:=gV.1 hb;have:=((CR ws k).1 hk).1;simp only [Function.comp] at e;omega
theorem Mh {I:Img} {ws:Wl} (hI:I.Ok) (h:Takes I ws):Entries (131+I.n) (DE (I.upd ws) ws) (nv (I.N+1)):=by
 refine ⟨?_,?_,by simp [DE],?_,Nd h _,by have:=hI.n1;omega,oo⟩
 . intro e he;unfold DE at he;rcases jB.1 he with rfl | he
   . exact ⟨_,rfl⟩
   rcases iA.1 he with he | he
   . obtain ⟨k,hk,rfl⟩:=gV.1 he;obtain ⟨_,x,hx,a⟩:=(CR ws k).1 hk;refine ⟨AM ((I.upd ws).mapL k),?_⟩;unfold Img.mapR;rw [show (I.upd ws).ms k=I.N+1 from if_pos (jZ.2 ⟨x,hx,by simpa using a⟩)]
   . obtain ⟨x,hx,rfl⟩:=gV.1 he;refine ⟨(I.upd ws).cs x.1,?_⟩;unfold Img.datR;rw [show (I.upd ws).vs x.1=I.N+1 from if_pos (by rw [EN ws (ME h) x hx];rfl)]
 . intro e he;unfold DE at he;rcases jB.1 he with rfl | he
   . left;show 0<=32;omega
   rcases iA.1 he with he | he
   . obtain ⟨k,hk,rfl⟩:=gV.1 he;have:=((CR ws k).1 hk).1;left;show 1+k<=32;omega
   . obtain ⟨x,hx,rfl⟩:=gV.1 he;have:=(h.lt x hx).1;right;show 131<=131+x.1/\131+x.1<131+I.n;omega
 . have h1:=dK ws;have h2:=h.lim;unfold DE;rw [i9,iI,gO,gO];omega
theorem ed {I:Img} {ws:Wl} (hI:I.Ok) (h:Takes I ws):(I.upd ws).Ok:=by
 refine ⟨hI.n0,hI.n1,h.room,λk=>?_,λi=>?_,λi hi=>?_⟩
 . have h1:=hI.ms k;unfold Img.upd;simp only [];split
   . exact gM _
   . exact Nat.le_succ_of_le h1
 . have h1:=hI.vs i;unfold Img.upd;simp only [];split
   . exact gM _
   . exact Nat.le_succ_of_le h1
 . show ((Ak ws i).getD (I.cs i)).size=128;cases hl:Ak ws i with
   | none=>exact hI.cs i hi
   | some s=>
     have:∀(l:Wl) (i:Nat) (s:ByteArray),Ak l i=some s->∃e∈l,e.1=i/\e.2=s:=by
      intro l
      induction l with
      | nil=>intro i s h;cases h
      | cons x l ih=>
        intro i s h;have hE:Ak (x::l) i=match Ak l i with
         | some s=>some s
         | none=>if i=x.1 then some x.2 else none:=rfl
        rw [hE] at h;cases h2:Ak l i with
        | some t=>
          rw [h2] at h;obtain ⟨e,he,h3,h4⟩:=ih i t h2;injection h with h;exact ⟨e,iJ _ he,h3,h4.trans h⟩
        | none=>
          rw [h2] at h;simp only [] at h;split at h
          . rename_i hi;injection h with h;exact ⟨x,iO ..,hi.symm,h⟩
          . cases h
     obtain ⟨e,he,_,rfl⟩:=this ws i s hl;exact (h.lt e he).2
structure UpdAt (I:Img) (ws:Wl):Prop where
 top:Ak (DE (I.upd ws) ws) 0=some (I.upd ws).topR
 map:∀k∈ksW ws,Ak (DE (I.upd ws) ws) (1+k)=some ((I.upd ws).mapR k)
 mapN:∀k,k<32->k ∉ ksW ws->Ak (DE (I.upd ws) ws) (1+k)=none/\(I.upd ws).mapR k=I.mapR k/\(I.upd ws).ms k=I.ms k
 dat:∀e∈ws,Ak (DE (I.upd ws) ws) (131+e.1)=some ((I.upd ws).datR e.1)
 datN:∀i,(∀e∈ws,e.1≠i)->Ak (DE (I.upd ws) ws) (131+i)=none/\(I.upd ws).datR i=I.datR i/\(I.upd ws).vs i=I.vs i
theorem fX {I:Img} {ws:Wl} (ht:Takes I ws):UpdAt I ws:=by
 have c:=Nd ht (I.upd ws);have b:∀e∈DE (I.upd ws) ws,Ak (DE (I.upd ws) ws) e.1=some e.2:=λe he=>EN _ c e he;refine ⟨b (0,(I.upd ws).topR) (iO ..),λk hin=>b (1+k,(I.upd ws).mapR k) (iJ _ (ij _ (gV.2 ⟨k,hin,rfl⟩))),λk hk hin=>?_,λe he=>b (131+e.1,(I.upd ws).datR e.1) (iJ _ (iX _ (gV.2 ⟨e,he,rfl⟩))),λi a=>?_⟩
 . have a:∀e∈ws,e.1 / 32≠k:=λe he hq=>hin ((CR ws k).2 ⟨hk,e,he,hq⟩)
   have hm:(I.upd ws).ms k=I.ms k:=if_neg (by
    rw [jZ]
    rintro ⟨e,he,hq⟩
    exact a e he (by simpa using hq))
   have hv:(I.upd ws).mapL k=I.mapL k:=by
    unfold Img.mapL;apply ie;intro j hj;have d:=iP.1 hj;congr 1;unfold Img.mv;show (if 32*k+j<I.n then (if (Ak ws (32*k+j)).isSome=true then I.N+1 else I.vs (32*k+j)) else 0)=_;rw [B5 ws _ (λe he hq=>a e he oo)];rfl
   refine ⟨B5 _ _ (λe he hq=>?_),by unfold Img.mapR;rw [hm,hv],hm⟩;unfold DE at he;rcases jB.1 he with rfl | he
   . simp only [] at hq;omega
   rcases iA.1 he with he | he
   . obtain ⟨j,hj,rfl⟩:=gV.1 he;simp only [] at hq;have:j=k:=oo;subst this;exact hin hj
   . obtain ⟨x,_,rfl⟩:=gV.1 he;simp only [] at hq;omega
 . have hv:(I.upd ws).vs i=I.vs i:=if_neg (by rw [B5 ws i a];simp);refine ⟨B5 _ _ (λe he hq=>?_),by unfold Img.datR;rw [show (I.upd ws).cs i=I.cs i from by show (Ak ws i).getD _=_;rw [B5 ws i a];rfl,hv],hv⟩;unfold DE at he;rcases jB.1 he with rfl | he
   . simp only [] at hq;omega
   rcases iA.1 he with he | he
   . obtain ⟨j,hj,rfl⟩:=gV.1 he;have:=((CR ws j).1 hj).1;simp only [] at hq;omega
   . obtain ⟨x,hx,rfl⟩:=gV.1 he;simp only [] at hq;exact a x hx oo
theorem Jl {D:Dev} {I:Img} {ws:Wl} (h:Holds D I) (ht:Takes I ws) (E:Dev) (hE:E.Ok) (c:E.st.length=D.st.length) (f:E.failed=false) (d:E.pend=[])
 (b:∀i,(i<=32\/131<=i)->E.at i=(Ak (DE (I.upd ws) ws) i).getD (D.at i)):Holds E (I.upd ws):=by
 have hu:=fX ht;refine ⟨hE,ed h.img ht,c.trans h.len,f,d,?_,λk hk=>?_,λi hi=>?_⟩
 . rw [b 0 oo,hu.top];rfl
 . rw [b (1+k) oo];by_cases a:k∈ksW ws
   . rw [hu.map k a];rfl
   . obtain ⟨h1,h2,_⟩:=hu.mapN k hk a;rw [h1,h2];exact h.map k hk
 . rw [b (131+i) oo];by_cases a:∃e∈ws,e.1=i
   . obtain ⟨e,he,rfl⟩:=a;rw [hu.dat e he];rfl
   . obtain ⟨h1,h2,_⟩:=hu.datN i (λe he hq=>a ⟨e,he,hq⟩);rw [h1,h2];exact h.dat i hi
theorem K1 {D:Dev} {I:Img} {ws:Wl} {sy ep:Int} (h:Clean D I) (ht:Takes I ws) (hc:Calm D sy ep) (hf:D.fuse=none):
 BS sy ep (B3 (DE (I.upd ws) ws) (nv (I.N+1))) D=(ph4 D (DE (I.upd ws) ws) (nv (I.N+1)),0)/\Clean (ph4 D (DE (I.upd ws) ws) (nv (I.N+1))) (I.upd ws)/\
  (ph4 D (DE (I.upd ws) ws) (nv (I.N+1))).fen=D.fen/\(ph4 D (DE (I.upd ws) ws) (nv (I.N+1))).fuse=none:=by
 have he:=Mh h.img ht;rw [<-h.len] at he;obtain ⟨k1,k2,k3,k4⟩:=Je h.ok he;have a:=(I7 h.ok he).2.2.2;have b:(ph4 D (DE (I.upd ws) ws) (nv (I.N+1))).pend=[]:=k4.pend.trans (k3.pend.trans (k2.pend.trans (k1.pend.trans h.pend)));refine ⟨Np he hc hf h.pend,⟨Jl h.toHolds ht _ k4.ok a (k4.failed.trans (k3.failed.trans (k2.failed.trans (k1.failed.trans h.live)))) b (λi hi=>QP h.ok he i hi),?_⟩,k4.fen.trans (k3.fen.trans (k2.fen.trans k1.fen)),k4.fuse.trans (k3.fuse.trans (k2.fuse.trans (k1.fuse.trans hf)))⟩;rw [OU h.ok he,if_pos rfl]

def Bm (s:ByteArray) (j:Nat):UInt8:=s.data.toList.getD j 0
theorem Gt (s:ByteArray) (i j k:Nat) (h:k<j - i):Bm (s.extract i j) k=Bm s (i+k):=by
 unfold Bm;rw [Eb,iE,getElem?_take,if_pos h,getElem?_drop,iE]
theorem LA {a b:ByteArray} (hs:a.size=b.size) (h:∀j,j<a.size->Bm a j=Bm b j):a=b:=by
 apply Fv;apply jv (by simpa using hs);intro j h1 h2;have:=h j (by simpa using h1);unfold Bm at this;rwa [iE,iE,gJ h1,gJ h2] at this
theorem Hp {s t:ByteArray} {n:Nat} (h1:s.size=140) (h2:t.size=140) (hn:n<=140):(Cf s n t).size=140:=by
 unfold Cf;rw [gy,iK,iK];omega
theorem JT {s t:ByteArray} {n:Nat} (h1:s.size=140) (h2:t.size=140) (hn:n<=140) (j:Nat) (hj:j<140):Bm (Cf s n t) j=if j<n then Bm s j else Bm t j:=by
 have hl:(s.extract 0 n).data.toList.length=n:=by
  have:(s.extract 0 n).size=n:=by rw [iK];omega
  simpa using this
 have e:(Cf s n t).data.toList=(s.extract 0 n).data.toList++(t.extract n t.size).data.toList:=by
  unfold Cf;rw [ByteArray.data_append,Array.toList_append]
 unfold Bm;rw [e,iE];by_cases h:j<n
 . rw [if_pos h,jF oo,Eb,getElem?_take,if_pos oo,getElem?_drop,ji,iE]
 . rw [if_neg h,iq oo,hl,Eb,getElem?_take,if_pos oo,getElem?_drop,show n+(j - n)=j from oo,iE]
theorem IK (j:Nat) (hj:j<140):Bm blankR j=0:=by
 unfold Bm;show (List.replicate 140 (0:UInt8)).toArray.toList.getD j 0=0;rw [iE];show ((List.replicate 140 (0:UInt8))[j]?).getD 0=0;rw [jp,if_pos hj];rfl
theorem fm (a b c d:UInt8):Bm ⟨#[a,b,c,d]⟩ 0=a/\Bm ⟨#[a,b,c,d]⟩ 1=b/\Bm ⟨#[a,b,c,d]⟩ 2=c/\Bm ⟨#[a,b,c,d]⟩ 3=d:=⟨rfl,rfl,rfl,rfl⟩
theorem QR {m k:Nat} (h:m<256) (hk:256<=k):b8 (m / k)=0:=by
 rw [Nat.div_eq_of_lt oo];decide
theorem C3 (m:Nat) (h:m<256):Bm (AJ (nv m)) 0=b8 m/\Bm (AJ (nv m)) 1=0/\Bm (AJ (nv m)) 2=0/\Bm (AJ (nv m)) 3=0:=by
 have e:=Dt m oo;obtain ⟨h0,h1,h2,h3⟩:=fm (b8 m) (b8 (m / 256)) (b8 (m / 65536)) (b8 (m / 16777216));unfold AJ;rw [e,h0,h1,h2,h3];refine ⟨rfl,QR h oo,QR h oo,QR h oo⟩
theorem bK (d d':ByteArray) (m i:Nat) (hm:m+1<256) (n:Nat) (hn:n<=140):
 Cp ((Cf (AZ d (nv (m+1)) i) n (AZ d' (nv m) i)).extract 128 132)=nv (m+1)\/Cp ((Cf (AZ d (nv (m+1)) i) n (AZ d' (nv m) i)).extract 128 132)=nv m:=by
 have h1:=An d (nv (m+1)) i;have h2:=An d' (nv m) i;have a:=Hp h1 h2 hn;have hb:=JT h1 h2 hn;obtain ⟨_,_,_,p4,_⟩:=D6 d (nv (m+1)) i;obtain ⟨_,_,_,q4,_⟩:=D6 d' (nv m) i;obtain ⟨_,a1,a2,a3⟩:=C3 (m+1) hm;obtain ⟨_,c1,c2,c3⟩:=C3 m oo
 have b:∀(x:Nat) (t:ByteArray),t.extract 128 132=AJ (nv x)->t.size=140->(∀k,k<4->Bm (Cf (AZ d (nv (m+1)) i) n (AZ d' (nv m) i)) (128+k)=Bm (AJ (nv x)) k)->Cp ((Cf (AZ d (nv (m+1)) i) n (AZ d' (nv m) i)).extract 128 132)=nv x:=by
  intro x t _ _ hk
  have e:(Cf (AZ d (nv (m+1)) i) n (AZ d' (nv m) i)).extract 128 132=AJ (nv x):=by
   apply LA
   . rw [iK,a,AN];decide
   . intro k f;rw [iK,a] at f;rw [Gt _ 128 132 k oo];exact hk k oo
  rw [e,Cw]
 have e1:∀k,k<4->Bm (AZ d (nv (m+1)) i) (128+k)=Bm (AJ (nv (m+1))) k:=λk hk=>by rw [<-p4,Gt _ 128 132 k oo]
 have e2:∀k,k<4->Bm (AZ d' (nv m) i) (128+k)=Bm (AJ (nv m)) k:=λk hk=>by rw [<-q4,Gt _ 128 132 k oo]
 by_cases g:n<=128
 . right;refine b m _ q4 h2 (λk hk=>?_);rw [hb _ oo,if_neg oo,e2 k hk]
 . left;refine b (m+1) _ p4 h1 (λk hk=>?_);rw [hb _ oo];split
   . exact e1 k hk
   . rw [e2 k hk];have c:k≠0:=oo
     match k,hk,c with
     | 1,_,_=>rw [a1,c1]
     | 2,_,_=>rw [a2,c2]
     | 3,_,_=>rw [a3,c3]

structure Idle (D:Dev) (I:Img):Prop extends Holds D I where
 noint:AU D=[]
theorem Qc {D:Dev} (h:D.pend=[]) (i:Nat):D.content i=D.at i:=by unfold Dev.content;rw [h];rfl

theorem JB (l:Wl) (P:List Wr) (fu:Option (Nat × List Int)):∀D:Dev,BF (B0 D P fu) l=B0 (BF D l) P fu:=by
 induction l with
 | nil=>intro D;rfl
 | cons e l ih=>
   intro D;show BF (AR (B0 D P fu) e.1 e.2) l=B0 (BF (AR D e.1 e.2) l) P fu;rw [<-ih];congr 1;unfold AR;show (if D.at e.1=e.2 then _ else _)=B0 (if D.at e.1=e.2 then _ else _) P fu;split<;>rfl
theorem Calm.setE {D:Dev} {sy ep:Int} (h:Calm D sy ep) (fu:Option (Nat × List Int)):Calm (B0 D [] fu) sy ep:=
 ⟨⟨h.ok.len,h.ok.pos,h.ok.lim,h.ok.st,h.ok.old,λr hr=>(by cases hr),h.ok.fen⟩,h.live,h.plain,h.free⟩
theorem Holds.same {D E:Dev} {I:Img} (h:Holds D I) (hE:E.Ok) (hlen:E.st.length=D.st.length) (hl:E.failed=false) (hp:E.pend=[]) (hat:∀i,(i<=32\/131<=i)->E.at i=D.at i):Holds E I:=
 ⟨hE,h.img,hlen.trans h.len,hl,hp,(hat 0 oo).trans h.top,λk hk=>(hat (1+k) oo).trans (h.map k hk),λi hi=>(hat (131+i) oo).trans (h.dat i hi)⟩
theorem E7 {E:Dev} (h:E.Ok):(BR E).Ok:=⟨h.len,h.pos,h.lim,h.st,h.old,h.pend,h.fen⟩
theorem L6 {l:Wl} (hn:(l.map (·.1)).Nodup) {i:Nat} (h:Ak l i=none):∀e∈l,e.1≠i:=λe he hq=>by
 have:=EN l hn e he;rw [hq,h] at this;cases this
theorem Jj {l:Wl} (f:Nat) (hn:(l.map (·.1)).Nodup):((l.take f).map (·.1)).Nodup:=by
 rw [map_take];exact hn.sublist (take_sublist _ _)
theorem L4 {sy ep:Int} {a b:List St} {D E:Dev} (h:BS sy ep a D=(E,10)):BS sy ep (a++b) D=(E,10):=by
 rw [Ed,h,if_neg qs]
theorem Fk {sy ep:Int} {a b:List St} {D E:Dev} (h:BS sy ep a D=(E,0)):BS sy ep (a++b) D=BS sy ep b E:=by
 rw [Ed,h,if_pos rfl]
theorem Oe (N:Nat) (h:N+1<256):(nv (N+1)).toNat=(nv N).toNat+1:=by rw [Dt _ oo,Dt _ oo]

end
end Go.Proofs.YtfklieeipokllaaGreat
