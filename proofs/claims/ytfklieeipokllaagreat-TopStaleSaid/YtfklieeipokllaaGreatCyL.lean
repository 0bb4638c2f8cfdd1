/- Parts of the proof (packed), 12. -/
import Derived.StillTailTactics
import Derived.Test.YtfklieeipokllaaGreatCyJ
namespace Go.Proofs.YtfklieeipokllaaGreat
set_option linter.all false
set_option maxRecDepth 100000
set_option maxHeartbeats 16000000
open List
section
open Go.RowKit
def sh1 (c:BitVec 32):BitVec 32:=if c.getLsbD 0=true then (c>>>1) ^^^ 0x82F63B78#32 else c>>>1
def shN:Nat->BitVec 32->BitVec 32
 | 0,c=>c
 | n+1,c=>shN n (sh1 c)
theorem Vu (m n:Nat):∀c,shN (m+n) c=shN n (shN m c):=by
 induction m with
 | zero=>intro c;rw [jM];rfl
 | succ m ih=>intro c;rw [show m+1+n=(m+n)+1 from oo];exact ih (sh1 c)
theorem QM (n:Nat) (c:BitVec 32):shN (n+1) c=sh1 (shN n c):=by rw [Vu];rfl
theorem M8 (c:BitVec 32):sh1 c=(c>>>1) ^^^ (if c.getLsbD 0=true then 0x82F63B78#32 else 0#32):=by
 unfold sh1;split
 . rfl
 . rw [BitVec.xor_zero]
theorem cQ (a b p q:BitVec 32):(a ^^^ b) ^^^ (p ^^^ q)=(a ^^^ p) ^^^ (b ^^^ q):=by
 rw [BitVec.xor_assoc,BitVec.xor_assoc,<-BitVec.xor_assoc b p q,BitVec.xor_comm b p,BitVec.xor_assoc p b q]
theorem Vk (a b:BitVec 32):sh1 (a ^^^ b)=sh1 a ^^^ sh1 b:=by
 rw [M8,M8,M8,BitVec.getLsbD_xor,BitVec.ushiftRight_xor_distrib,<-cQ];congr 1;cases a.getLsbD 0<;>cases b.getLsbD 0<;>simp
theorem VU (n:Nat):∀a b,shN n (a ^^^ b)=shN n a ^^^ shN n b:=by
 induction n with
 | zero=>intro a b;rfl
 | succ n ih=>intro a b;show shN n (sh1 (a ^^^ b))=_;rw [Vk,ih];rfl
theorem Vi (c:BitVec 32) (h:c.getLsbD 0=false):sh1 c=c>>>1:=by unfold sh1;rw [if_neg (by rw [h];simp)]
theorem cK (c:BitVec 32):∀n,(∀i,i<n->c.getLsbD i=false)->shN n c=c>>>n:=by
 intro n
 induction n with
 | zero=>intro _;rw [BitVec.ushiftRight_zero];rfl
 | succ n ih=>
   intro h;rw [QM,ih (λi hi=>h i oo),Vi _ (by rw [BitVec.getLsbD_ushiftRight];exact h (n+0) oo),BitVec.shiftRight_add]
def nib (x b:BitVec 32):BitVec 32:=(x>>>4) ^^^ shN 4 ((x ^^^ b) &&& 15#32)
theorem Ns (i:Nat):(15#32).getLsbD i=decide (i<4):=by
 rcases iQ i 32 with h | h
 . have:∀i:Fin 32,(15#32).getLsbD i.1=decide (i.1<4):=qd;exact this ⟨i,h⟩
 . rw [BitVec.getLsbD_of_ge _ _ h,gE oo]
theorem YZ (x b:BitVec 32) (hb:b>>>4=0#32):nib x b=shN 4 (x ^^^ b):=by
 obtain ⟨y,hy⟩:∃y,x ^^^ b=y:=⟨_,rfl⟩;have hx:x>>>4=y>>>4:=by rw [<-hy,BitVec.ushiftRight_xor_distrib,hb,BitVec.xor_zero]
 unfold nib;rw [hx,hy]
 have hs:y=(y &&& 15#32) ^^^ (y &&& ~~~15#32):=by
  ext i hi;rw [<-BitVec.getLsbD_eq_getElem,<-BitVec.getLsbD_eq_getElem,BitVec.getLsbD_xor,BitVec.getLsbD_and,BitVec.getLsbD_and,BitVec.getLsbD_not,Ns];by_cases h:i<4<;>simp [h,hi]
 have hl:shN 4 (y &&& ~~~15#32)=y>>>4:=by
  rw [cK _ 4 (λi hi=>by rw [BitVec.getLsbD_and,BitVec.getLsbD_not,Ns,gD hi];simp)];ext i hi;rw [<-BitVec.getLsbD_eq_getElem,<-BitVec.getLsbD_eq_getElem,BitVec.getLsbD_ushiftRight,BitVec.getLsbD_ushiftRight,BitVec.getLsbD_and,BitVec.getLsbD_not,Ns,gE (show ¬(4+i<4) from oo)];rcases iQ (4+i) 32 with h | h
  . rw [gD h];simp
  . rw [BitVec.getLsbD_of_ge _ _ h];rfl
 conv=>rhs;rw [hs]
 rw [VU,hl,BitVec.xor_comm]
def DR (c:UInt8):BitVec 32:=BitVec.ofNat 32 c.toNat
def Pe (x:BitVec 32) (c:UInt8):BitVec 32:=shN 8 (x ^^^ DR c)
theorem Us:∀c:UInt8,DR c=(DR c &&& 15#32) ^^^ ((DR c>>>4)<<<4)/\(DR c &&& 15#32)>>>4=0#32/\(DR c>>>4)>>>4=0#32/\shN 4 ((DR c>>>4)<<<4)=DR c>>>4:=by
 intro c;have a:∀n:Fin 256,(BitVec.ofNat 32 n.1=(BitVec.ofNat 32 n.1 &&& 15#32) ^^^ ((BitVec.ofNat 32 n.1>>>4)<<<4))/\(BitVec.ofNat 32 n.1 &&& 15#32)>>>4=0#32/\(BitVec.ofNat 32 n.1>>>4)>>>4=0#32/\shN 4 ((BitVec.ofNat 32 n.1>>>4)<<<4)=BitVec.ofNat 32 n.1>>>4:=by decide+kernel
 exact a ⟨c.toNat,c.toNat_lt⟩
theorem bM (x:BitVec 32) (c:UInt8):nib (nib x (DR c &&& 15#32)) (DR c>>>4)=Pe x c:=by
 obtain ⟨h1,h2,h3,h4⟩:=Us c;rw [YZ _ _ h3,YZ _ _ h2];unfold Pe;conv=>rhs;rw [h1]
 rw [<-BitVec.xor_assoc,show (8:Nat)=4+4 from rfl,Vu,VU 4 (x ^^^ (DR c &&& 15#32)),h4]
def D9 (s:List UInt8) (x:BitVec 32):BitVec 32:=s.foldl Pe x
def Eg (s:ByteArray):BitVec 32:= ~~~(D9 s.data.toList (~~~0#32))
theorem X8 (s:ByteArray) (k:Nat) (h:k<s.size) (x:BitVec 32):D9 (s.data.toList.take (k+1)) x=Pe (D9 (s.data.toList.take k) x) s[k]:=by
 unfold D9;rw [fr (by simpa using h),iV];rfl
def u32 (x:BitVec 32):Int:=(x.toNat:Int)
theorem BD (x:BitVec 32):0<=u32 x/\u32 x<=4294967295:=by unfold u32;have:=x.isLt;omega
theorem He {x y:BitVec 32} (h:u32 x=u32 y):x=y:=by
 unfold u32 at h;exact BitVec.eq_of_toNat_eq oo
theorem Fm (x:BitVec 32):BitVec.ofInt 32 (u32 x)=x:=by
 unfold u32;rw [BitVec.ofInt_natCast];rw [BitVec.ofNat_toNat,BitVec.setWidth_eq]
theorem OC (x:BitVec 32):IntKind.u32.wrap (x.toNat:Int)=u32 x:=by
 have:=x.isLt;unfold u32;simp only [IntKind.wrap,IntKind.signed,IntKind.bits];simp;omega
theorem Mb (x y:BitVec 32):bits .xor .u32 (u32 x) (u32 y)=u32 (x ^^^ y):=by
 show IntKind.u32.wrap ((BitVec.ofInt 32 (u32 x) ^^^ BitVec.ofInt 32 (u32 y)).toNat:Int)=_;rw [Fm,Fm,OC]
theorem Py (x y:BitVec 32):bits .and .u32 (u32 x) (u32 y)=u32 (x &&& y):=by
 show IntKind.u32.wrap ((BitVec.ofInt 32 (u32 x) &&& BitVec.ofInt 32 (u32 y)).toNat:Int)=_;rw [Fm,Fm,OC]
theorem eT (x y:BitVec 32):bits .or .u32 (u32 x) (u32 y)=u32 (x ||| y):=by
 show IntKind.u32.wrap ((BitVec.ofInt 32 (u32 x) ||| BitVec.ofInt 32 (u32 y)).toNat:Int)=_;rw [Fm,Fm,OC]
theorem MZ (x:BitVec 32) (n:Nat):u32 x / 2 ^ n=u32 (x>>>n):=by
 unfold u32;rw [BitVec.toNat_ushiftRight,Nat.shiftRight_eq_div_pow];norm_cast
theorem Vn (x:BitVec 32):bits .xor .u32 4294967295 (u32 x)=u32 (~~~x):=by
 rw [show (4294967295:Int)=u32 (~~~0#32) from qd,Mb];congr 1

theorem cY (x:BitVec 32):bits .and .u32 (u32 x) 1=(if x.getLsbD 0=true then 1 else 0):=by
 rw [show (1:Int)=u32 1#32 from qd,Py];unfold u32;rw [BitVec.toNat_and];have e:(1#32).toNat=1:=rfl;rw [e,Nat.and_one_is_mod];have:x.getLsbD 0=decide (x.toNat % 2=1):=by rw [BitVec.getLsbD];simp [Nat.testBit_zero]
 rw [this];rcases Nat.mod_two_eq_zero_or_one x.toNat with h | h<;>rw [h]<;>simp
theorem bT (x:BitVec 32) (h:x.getLsbD 0=true):bits .xor .u32 (u32 x / 2) 2197175160=u32 (sh1 x):=by
 have:=MZ x 1;rw [show (2:Int) ^ 1=2 from rfl] at this;rw [this,show (2197175160:Int)=u32 0x82F63B78#32 from qd,Mb];unfold sh1;rw [if_pos h]
theorem eE (x:BitVec 32) (h:x.getLsbD 0=false):u32 x / 2=u32 (sh1 x):=by
 have:=MZ x 1;rw [show (2:Int) ^ 1=2 from rfl] at this;rw [this,Vi x h]
theorem X5 (c:BitVec 32) (n:Nat) (w:World) (hn:n<=64):
 Calls Tryz.prog 242 #[.int .u32 (u32 c),.int .i64 n] w λe w'=>e=.returned (.int .u32 (u32 (shN n c)))/\Grew w w':=by
 have hb:=BD c;obtain ⟨X,hX⟩:∃X,u32 c=X:=⟨_,rfl⟩;rw [hX] at hb ⊢;have HX:=zh hX;clear hX;go_enter Tryz.func242,Tryz.ntmps242;go_wp2_with fail
 go_loopg [0,6] n (λgk x i wr=>∃k:Nat,k<=n/\gk=n - k/\i=.int .i64 k/\x=.int .u32 (u32 (shN k c))/\Grew w wr)
 case atStart=>exact ⟨0,oo,oo,rfl,by rw [<-HX.out];rfl,gG⟩
 case round=>
  obtain ⟨k,hk,d,rfl,rfl,hg⟩:=hrel;have b:=zh d;clear d;obtain ⟨y,hy⟩:∃y,shN k c=y:=⟨_,rfl⟩;rw [hy];have HY:=zh hy;clear hy;have g:=BD y;have a:=cY y;by_cases h:k<n
  . rcases hyy:y.getLsbD 0 with _ | _
    . rw [hyy] at a;have hs:=eE y hyy;have HS:=zh hs;rw [if_neg qs] at a;clear hyy;go_wp2_with fail
      go_roundg (n - (k+1))
      case measure=>rw [b.out];omega
      case rel=>exact ⟨k+1,oo,oo,by go_num,by rw [QM,HY.out],gG⟩
    . rw [hyy] at a;have hs:=bT y hyy;have HS:=zh hs;rw [if_pos rfl] at a;clear hyy;go_wp2_with fail
      go_roundg (n - (k+1))
      case measure=>rw [b.out];omega
      case rel=>exact ⟨k+1,oo,oo,by go_num,by rw [QM,HY.out],gG⟩
  . have f:k=n:=oo;subst f;go_wp2_with fail;go_ret;exact ⟨by rw [HY.out];rfl,gG⟩

def Bu (S:Nat->BitVec 32):Array Value:=((List.range 16).map λi=>Value.int .u32 (u32 (S i))).toArray
theorem C3 (S:Nat->BitVec 32):(Bu S).size=16:=by simp [Bu]
theorem Mj (S:Nat->BitVec 32) (k:Nat) (h:k<16):(Bu S)[k]? =some (.int .u32 (u32 (S k))):=by
 simp [Bu,fo,ic,h]
theorem Tg (S:Nat->BitVec 32) (k:Nat) (b:BitVec 32):(Bu S).setIfInBounds k (.int .u32 (u32 b))=Bu (λi=>if i=k then b else S i):=by
 simp only [Bu,setIfInBounds_toArray];congr 1;apply jb;intro i;rw [jK];by_cases a:k=i
 . subst a;by_cases h:k<16
   . simp [h]
   . simp [h,iU]
 . rw [if_neg a];by_cases h:i<16
   . simp [fo,ic,h,Ne.symm a]
   . rw [iU (by simp;omega),iU (by simp;omega)]
theorem Hu {S T:Nat->BitVec 32} (h:∀i,i<16->S i=T i):Bu S=Bu T:=by
 unfold Bu;congr 1;apply iE;intro i hi;rw [h i (List.mem_range.mp hi)]
theorem NK (S:Nat->BitVec 32):(Bu S).all (·.oneCell')=true:=by
 rw [Bu,all_toArray,iD];intro v hv;obtain ⟨i,_,rfl⟩:=List.mem_map.mp hv;rfl
def Gb (k:Nat):BitVec 32:=shN 4 (BitVec.ofNat 32 k)
theorem Wh (k:Nat) (h:k<16):u32 (BitVec.ofNat 32 k)=(k:Int):=by
 unfold u32;rw [ib,iR oo]
theorem Qz (w:World):(zeroValue 316).run Tryz.prog w=.ok (.agg (Bu λ_=>0#32)) w:=qk
theorem Kl:(Tryz.prog.info? 316).map (·.size)=some 16:=qk
theorem ZQ (k i:Nat):(if i=k then Gb k else if i<k then Gb i else 0#32)=if i<k+1 then Gb i else 0#32:=by
 by_cases h:i=k
 . subst h;rw [if_pos rfl,if_pos oo]
 . rw [if_neg h];by_cases h2:i<k
   . rw [if_pos h2,if_pos oo]
   . rw [if_neg h2,if_neg oo]
theorem U1 (k:Nat) (hk:k<16) (w:World):
 Calls Tryz.prog 242 #[.int .u32 k,.int .i64 4] w λe w'=>e=.returned (.int .u32 (u32 (Gb k)))/\Grew w w':=by
 have:=X5 (BitVec.ofNat 32 k) 4 w oo;rw [Wh k hk] at this;exact this
theorem SH (w:World):
 Calls Tryz.prog 229 #[] w λe w'=>e=.returned (.agg (Bu Gb))/\Grew w w':=by
 have hz:=Qz;go_enter Tryz.func229,Tryz.ntmps229;go_wp2_with fail;clear hz
 go_loopg [3] 16 (λgk i wr=>∃k:Nat,k<=16/\gk=16 - k/\i=.int .i64 k/\Blk wr w.heap.size 316 (Bu λ_=>0#32)/\Blk wr (w.heap.size+1) 316 (Bu λi=>if i<k then Gb i else 0#32)/\Grew w wr)
 case atStart=>exact ⟨0,oo,oo,rfl,gB,by (apply Blk.conv;(· (repeat' first | (with_reducible assumption) | (with_reducible apply Blk.setRow) | ((with_reducible apply Blk.farRow);rotate_left;(focus (first | (simp;done) | (simp;omega) | omega))) | (with_reducible apply Blk.drew) | (with_reducible apply Blk.drewN) | (with_reducible apply Blk.set_) | (with_reducible exact fy _ _ _ (by first | rfl | (simp;done) | (simp;omega))) | (with_reducible apply Blk.alloc) | ((with_reducible apply Blk.far);rotate_left;(focus (first | (simp;done) | (simp;omega) | omega))) | ((with_reducible apply Blk.grew);rotate_left;(with_reducible assumption)) | ((with_reducible apply Blk.turned);rotate_left;(with_reducible assumption);(focus (first | (simp;done) | (simp;omega) | omega))) | fail));(· exact Hu λi _=>qs)),gG⟩
 case round=>
  obtain ⟨k,hk,f,rfl,b,a,hg⟩:=hrel;have g:=zh f;clear f;have h:=a.lt;by_cases d:k<16
  . go_wp2_with fail;refine (U1 k d _).mono ?_;rintro e w1 ⟨rfl,g1⟩;have j:=b.grew g1;have c:=a.grew g1;have l:Grew w w1:=gG;have ha:=c.cell k;rw [Mj _ _ oo] at ha;have hf:=c.frozen k;have m:=BD (Gb k);go_wp2_with fail
    go_roundg (16 - (k+1))
    case measure=>rw [g.out];omega
    case rel=>exact ⟨k+1,oo,oo,by go_num,gB,by (apply Blk.conv;(· (repeat' first | (with_reducible assumption) | (with_reducible apply Blk.setRow) | ((with_reducible apply Blk.farRow);rotate_left;(focus (first | (simp;done) | (simp;omega) | omega))) | (with_reducible apply Blk.drew) | (with_reducible apply Blk.drewN) | (with_reducible apply Blk.set_) | (with_reducible exact fy _ _ _ (by first | rfl | (simp;done) | (simp;omega))) | (with_reducible apply Blk.alloc) | ((with_reducible apply Blk.far);rotate_left;(focus (first | (simp;done) | (simp;omega) | omega))) | ((with_reducible apply Blk.grew);rotate_left;(with_reducible assumption)) | ((with_reducible apply Blk.turned);rotate_left;(with_reducible assumption);(focus (first | (simp;done) | (simp;omega) | omega))) | fail));(· rw [Tg];exact Hu λi _=>ZQ k i)),gG⟩
  . obtain rfl:k=16:=oo;have e0:Bu (λi=>if i<16 then Gb i else 0#32)=Bu Gb:=Hu λi hi=>by rw [if_pos hi]
    rw [e0] at a;clear e0;clear d;go_wp2_with (first | (refine Dz rfl 316 _ rfl (w.heap.size+1) rfl 316 (Bu Gb) _ a Tryz.underlying316 rfl (by rw [C3];exact Kl) ?_) | (refine Ae rfl 316 _ _ rfl w.heap.size (Bu Gb) rfl rfl 316 _ b (by rw [C3,C3]) (by rw [C3];exact Kl) (NK _) ?_));refine f7 (results_cell_row rfl _ _ _ 316 (Bu Gb) (0,0) _ rfl (b.setRow _) Tryz.underlying316 rfl (by rw [C3];exact Kl)) rfl ?_;exact ⟨rfl,gG⟩

theorem bP (x b:BitVec 32):∃k:Nat,k<16/\bits .and .u32 (u32 (x ^^^ b)) 15=(k:Int)/\(x ^^^ b) &&& 15#32=BitVec.ofNat 32 k:=by
 refine ⟨((x ^^^ b) &&& 15#32).toNat,?_,?_,?_⟩
 . rw [BitVec.toNat_and];exact Nat.lt_of_le_of_lt Nat.and_le_right qd
 . rw [show (15:Int)=u32 15#32 from qd,Py];rfl
 . rw [BitVec.ofNat_toNat,BitVec.setWidth_eq]
theorem cH (x b:BitVec 32) (k:Nat) (h:(x ^^^ b) &&& 15#32=BitVec.ofNat 32 k):bits .xor .u32 (u32 x / 16) (u32 (Gb k))=u32 (nib x b):=by
 have:=MZ x 4;rw [show (2:Int) ^ 4=16 from rfl] at this;rw [this,Mb];unfold nib Gb;rw [h]
theorem Rh (x b:BitVec 32) (bx bt:Nat) (W:World) (g:bx≠bt) (hx:Blk W bx 176 #[.int .u32 (u32 x)]) (ht:Blk W bt 316 (Bu Gb)):
 Calls Tryz.prog 230 #[.int .u32 (u32 b),.pointer (some ⟨bx,0,none⟩),.pointer (some ⟨bt,0,none⟩)] W λe w'=>e=.returned (.tuple #[])/\Blk w' bx 176 #[.int .u32 (u32 (nib x b))]/\Turned (λi=>i=bx) W w':=by
 obtain ⟨k,hk,m,d⟩:=bP x b;have h:=cH x b k d;have j:=Mb x b;have b1:=BD x;have b2:=BD b;have b3:=BD (x ^^^ b);have b4:=BD (Gb k);have b5:=BD (nib x b);have HK:=zh d;clear d;go_enter Tryz.func230,Tryz.ntmps230;refine wp_region_still_tail 9 qk qk ?_;simp only [take_succ_cons,take_zero,drop_succ_cons,drop_zero];change wpStill _ _ (World.drew W) (λa'=>wpList _ _ _ _ a' (World.drew W)) _ _;obtain ⟨w2,a⟩:∃w',w'=World.drew W:=⟨_,rfl⟩;rw [<-a];have c:Blk w2 bx 176 #[.int .u32 (u32 x)]:=by rw [a];exact hx.drew
 have f:Blk w2 bt 316 (Bu Gb):=by rw [a];exact ht.drew
 have hT:Turned (λi=>i=bx) W w2:=by rw [a];exact (gW _ W).drew
 have HT:=zh hT;clear a hT hx ht;have h1:=c.lt;have h2:=f.lt;have x0:=c.cell 0;have t0:=f.cell k;rw [Mj _ _ oo] at t0;have f0:=c.frozen 0;have l:(k:Int)<16:=oo
 repeat still_step
 refine wpStill_nil ?_;go_wp2_with fail;refine bodyPost_end (results_none rfl _ _ _) rfl ?_;exact ⟨rfl,gB,HT.setCell (λ_=>rfl) _⟩

theorem eh (c:UInt8):bits .and .u32 (c.toNat:Int) 15=u32 (DR c &&& 15#32):=by
 rw [show (15:Int)=u32 15#32 from qd,<-Py];congr 1;unfold u32 DR;rw [ib,iR (by have:=c.toNat_lt;omega)]
theorem ej (c:UInt8):(c.toNat:Int) / 16=u32 (DR c>>>4):=by
 have:=MZ (DR c) 4;rw [show (2:Int) ^ 4=16 from rfl] at this;rw [<-this];congr 1;unfold u32 DR;rw [ib,iR (by have:=c.toNat_lt;omega)]

theorem Xn (c:UInt8) (y:BitVec 32):∃p q Y1 Y2:Int,bits .and .u32 (c.toNat:Int) 15=p/\(c.toNat:Int) / 16=q/\(0<=p/\p<=4294967295)/\(0<=q/\q<=4294967295)/\Y2=u32 (nib (nib y (DR c &&& 15#32)) (DR c>>>4))/\
 (∀(bx bt:Nat) (W:World),bx≠bt->Blk W bx 176 #[.int .u32 (u32 y)]->Blk W bt 316 (Bu Gb)->Calls Tryz.prog 230 #[.int .u32 p,.pointer (some ⟨bx,0,none⟩),.pointer (some ⟨bt,0,none⟩)] W λe w'=>e=.returned (.tuple #[])/\Blk w' bx 176 #[.int .u32 Y1]/\Turned (λi=>i=bx) W w')/\
 (∀(bx bt:Nat) (W:World),bx≠bt->Blk W bx 176 #[.int .u32 Y1]->Blk W bt 316 (Bu Gb)->Calls Tryz.prog 230 #[.int .u32 q,.pointer (some ⟨bx,0,none⟩),.pointer (some ⟨bt,0,none⟩)] W λe w'=>e=.returned (.tuple #[])/\Blk w' bx 176 #[.int .u32 Y2]/\Turned (λi=>i=bx) W w'):=
 ⟨u32 (DR c &&& 15#32),u32 (DR c>>>4),u32 (nib y (DR c &&& 15#32)),_,eh c,ej c,BD _,BD _,rfl,λbx bt W hne h1 h2=>Rh y _ bx bt W hne h1 h2,λbx bt W hne h1 h2=>Rh _ _ bx bt W hne h1 h2⟩
theorem bH (x:BitVec 32):bits .xor .u32 IntKind.u32.max (u32 x)=u32 (~~~x):=Vn x
theorem UK (x:BitVec 32) (s:ByteArray) (hs:s.size<=9223372036854775807) (w:World):
 Calls Tryz.prog 184 #[.int .u32 (u32 x),.string s] w λe w'=>e=.returned (.int .u32 (u32 (~~~(D9 s.data.toList (~~~x)))))/\Grew w w':=by
 have hz:=Qz;have n:bits .xor .u32 IntKind.u32.max (u32 x)=u32 (~~~x):=Vn x;have b0:=BD x;have b1:=BD (~~~x);go_enter Tryz.func184,Tryz.ntmps184;go_wp2_with fail;refine (SH _).mono ?_;rintro e w1 ⟨rfl,g1⟩;have hG:=g1;clear hz;go_wp2_with (first | (refine Ae rfl 316 _ _ rfl w1.heap.size (Bu Gb) rfl rfl 316 (Bu λ_=>0#32) (fy w1 _ _ rfl) (by rw [C3,C3]) (by rw [C3];exact Kl) (NK _) ?_))
 go_loopg [8] s.size (λgk i wr=>∃k:Nat,k<=s.size/\gk=s.size - k/\i=.int .i64 k/\Blk wr w1.heap.size 316 (Bu Gb)/\Blk wr (w1.heap.size+1) 176 #[.int .u32 (u32 (D9 (s.data.toList.take k) (~~~x)))]/\Grew w wr)
 case atStart=>exact ⟨0,oo,oo,rfl,gB,gB,by (first | (refine Grew.alloc ?_ _;exact (hG.alloc _).setRow (by have:=hG.size;omega) _) | (refine Grew.trans (hG.alloc _) ?_;skip))⟩
 case round=>
  obtain ⟨k,hk,g,rfl,c,a,hg⟩:=hrel;have o:=zh g;clear g n b0 b1;have G:=hG.size;by_cases E:k<s.size
  . have b:=X8 s k E (~~~x);obtain ⟨y,hy⟩:∃y,D9 (s.data.toList.take k) (~~~x)=y:=⟨_,rfl⟩;rw [hy] at a b;rw [<-bM] at b;have r:=zh b;obtain ⟨p,q,Y1,Y2,hp,hq,J,K,h,l,m⟩:=Xn s[k] y;have t:=zh h;have hu:=s[k].toNat_lt;have u:=zh (l (w1.heap.size+1) w1.heap.size _ oo a c);have v:=zh m;have z:=zh c;have HG:=zh hg;clear b hy h l m c a hg;go_wp2_with fail;refine u.mono ?_;rintro e w2 ⟨rfl,f,t2⟩;have A:=zh f;have d:=zh (z.turned t2 (show ¬(w1.heap.size=w1.heap.size+1) from oo));have B:=zh t2;clear f t2;go_wp2_with fail;refine (v (w1.heap.size+1) w1.heap.size _ oo A d).mono ?_;rintro e w3 ⟨rfl,F,t3⟩;have C:=d.turned t3 (show ¬(w1.heap.size=w1.heap.size+1) from oo);have D:Grew w w3:=(((HG.turned (λi=>i=w1.heap.size+1)).trans B).trans t3).grew (λj hj (e:j=_)=>oo);go_wp2_with fail
    go_roundg (s.size - (k+1))
    case measure=>rw [o.out];omega
    case rel=>exact ⟨k+1,oo,oo,by go_num,C,by rw [r.out,<-t.out];exact F,D⟩
  . obtain rfl:k=s.size:=oo;have e0:s.data.toList.take s.size=s.data.toList:=by rw [gP qs]
    rw [e0] at a;have H:=bH (D9 s.data.toList (~~~x));have v0:=a.cell 0;have v1:=BD (D9 s.data.toList (~~~x));have v2:=BD (~~~(D9 s.data.toList (~~~x)));have I:=a.lt;clear e0;go_wp2_with fail;go_ret;exact ⟨rfl,gG⟩

def b8 (n:Nat):UInt8:=UInt8.ofNat n
theorem EZ (n:Nat):(b8 n).toNat=n % 256:=by unfold b8;rw [UInt8.toNat_ofNat']
def BK (x:BitVec 32):ByteArray:=⟨#[b8 x.toNat,b8 (x.toNat / 256),b8 (x.toNat / 65536),b8 (x.toNat / 16777216)]⟩
theorem Ah (x:BitVec 32):(BK x).size=4:=rfl
def at8 (s:ByteArray) (i:Nat):Nat:=(s.data.getD i 0).toNat
theorem IT (s:ByteArray) (i:Nat):at8 s i<256:=UInt8.toNat_lt _
def XS (s:ByteArray):Nat:=if s.size=4 then at8 s 0+256*at8 s 1+65536*at8 s 2+16777216*at8 s 3 else 0
theorem bz (s:ByteArray):XS s<4294967296:=by
 unfold XS;have:=IT s 0;have:=IT s 1;have:=IT s 2;have:=IT s 3;split<;>omega
def C9 (s:ByteArray):BitVec 32:=BitVec.ofNat 32 (XS s)
theorem Jd (s:ByteArray):(C9 s).toNat=XS s:=by
 unfold C9;rw [ib];exact iR (bz s)
theorem Cx (x:BitVec 32):C9 (BK x)=x:=by
 apply BitVec.eq_of_toNat_eq;rw [Jd];have hx:=x.isLt;show (if (BK x).size=4 then (b8 x.toNat).toNat+256*(b8 (x.toNat / 256)).toNat+65536*(b8 (x.toNat / 65536)).toNat+16777216*(b8 (x.toNat / 16777216)).toNat else 0)=_;rw [if_pos (Ah x),EZ,EZ,EZ,EZ];omega
theorem PS (s:ByteArray) (h:s.size=4):BK (C9 s)=s:=by
 have e:∃a b c d:UInt8,s=⟨#[a,b,c,d]⟩:=by
  obtain ⟨⟨l⟩⟩:=s
  match l,h with
  | [a,b,c,d],_=>exact ⟨a,b,c,d,rfl⟩
 obtain ⟨a,b,c,d,rfl⟩:=e;have ha:=a.toNat_lt;have hb:=b.toNat_lt;have hc:=c.toNat_lt;have hd:=d.toNat_lt
 have hn:(C9 ⟨#[a,b,c,d]⟩).toNat=a.toNat+256*b.toNat+65536*c.toNat+16777216*d.toNat:=by
  rw [Jd];show (if (4:Nat)=4 then a.toNat+256*b.toNat+65536*c.toNat+16777216*d.toNat else 0)=_;rw [if_pos rfl]
 unfold BK;rw [hn];congr 1;have f:∀(n:Nat) (u:UInt8),n % 256=u.toNat->b8 n=u:=λn u h=>UInt8.toNat_inj.1 (by rw [EZ,h]);rw [f _ a oo,f _ b oo,f _ c oo,f _ d oo]
def Ay (n:Nat):ByteArray:=⟨(List.replicate n (0:UInt8)).toArray⟩
theorem C7 (n:Nat):(Ay n).size=n:=by simp [Ay,ByteArray.size]
def BE (d:ByteArray):ByteArray:=d.extract 0 128++Ay (128 - d.size)
theorem DU (d:ByteArray):(BE d).size=128:=by unfold BE;rw [f8,C7,gO];omega
theorem Hw (d:ByteArray) (h:d.size=128):BE d=d:=by
 unfold BE;rw [h,<-h,ByteArray.extract_zero_size,show Ay (d.size - d.size)=⟨#[]⟩ from by rw [Nat.sub_self];rfl];exact jA
def EV (i:Int):BitVec 32:=BitVec.ofInt 32 i
def VK (s:ByteArray):ByteArray:=s++BK (Eg s)
def Ia (d:ByteArray) (v:BitVec 32) (i:Int):ByteArray:=BE d++BK v++BK (EV i)
def Ao (d:ByteArray) (v:BitVec 32) (i:Int):ByteArray:=VK (Ia d v i)
theorem JW (d:ByteArray) (v:BitVec 32) (i:Int):(Ia d v i).size=136:=by unfold Ia;rw [f8,f8,DU,Ah,Ah]
theorem BS (d:ByteArray) (v:BitVec 32) (i:Int):(Ao d v i).size=140:=by unfold Ao VK;rw [f8,JW,Ah]
def okR (s:ByteArray) (i:Int):Prop:=s.size=140/\C9 (s.extract 136 140)=Eg (s.extract 0 136)/\C9 (s.extract 132 136)=EV i
instance (s:ByteArray) (i:Int):Decidable (okR s i):=by unfold okR;exact inferInstance
def Di (s:ByteArray) (i:Int):ByteArray × BitVec 32 × Int:=if okR s i then (s.extract 0 128,C9 (s.extract 128 132),0) else (⟨#[]⟩,0#32,11)
theorem NR (a b:ByteArray) (n:Nat) (h:a.size=n):(a++b).extract 0 n=a:=by subst h;exact ByteArray.extract_append_eq_left rfl
theorem JI (a b:ByteArray) (n m:Nat) (h:a.size=n) (h2:n+b.size=m):(a++b).extract n m=b:=by subst h;exact ByteArray.extract_append_eq_right rfl h2.symm
theorem LJ (a b:ByteArray) (i j:Nat) (h:j<=a.size):(a++b).extract i j=a.extract i j:=by
 rw [ByteArray.extract_append,Nat.sub_eq_zero_of_le h];rw [show b.extract (i - a.size) 0=ByteArray.empty from by rw [<-ByteArray.size_eq_zero_iff,gO];omega];exact jA
theorem Hs (d:ByteArray) (v:BitVec 32) (i:Int):(Ao d v i).extract 0 136=Ia d v i/\(Ao d v i).extract 136 140=BK (Eg (Ia d v i))/\(Ao d v i).extract 0 128=BE d/\(Ao d v i).extract 128 132=BK v/\(Ao d v i).extract 132 136=BK (EV i):=by
 have hb:=JW d v i;have h0:(BE d++BK v).size=132:=by rw [f8,DU,Ah]
 unfold Ao VK;refine ⟨NR _ _ _ hb,JI _ _ _ _ hb rfl,?_,?_,?_⟩
 . rw [LJ _ _ _ _ oo];unfold Ia;rw [LJ _ _ _ _ oo];exact NR _ _ _ (DU d)
 . rw [LJ _ _ _ _ oo];unfold Ia;rw [LJ _ _ _ _ oo];exact JI _ _ _ _ (DU d) rfl
 . rw [LJ _ _ _ _ oo];unfold Ia;exact JI _ _ _ _ h0 rfl
theorem Wi {i j:Int} (hi:0<=i/\i<4294967296) (hj:0<=j/\j<4294967296) (h:EV i=EV j):i=j:=by
 unfold EV at h;have h2:=gJ BitVec.toNat h;rw [BitVec.toNat_ofInt,BitVec.toNat_ofInt] at h2;omega

theorem Vr (W:World) (g cap n:Nat) (u:ByteArray) (hu:u.size=n) (hc:∀j (hj:j<u.size),W.cell? ⟨g,j,none⟩=some (.int .u8 (u[j].toNat:Int))):(convert 169 9 (.slice (some ⟨g,0,none⟩) n cap)).run Tryz.prog W=.ok (.string u) W:=by
 have h:=run_convert_bytes_back (P:=Tryz.prog) W 169 9 5 ⟨g,0,none⟩ cap u.data.toList Tryz.underlying169 Tryz.underlying5 Tryz.underlying9 (λj hj=>by
  have:(⟨g,0,none⟩:Addr).add j=⟨g,j,none⟩:=by unfold Addr.add;split<;>simp_all
  rw [this]
  exact hc j (by rw [iG] at hj;exact hj))
 have hl:u.data.toList.length=n:=by rw [iG];exact hu
 rw [hl] at h;exact h
theorem TR (w:World) (x:BitVec 32):
 (convert 169 9 (.slice (some ⟨w.heap.size,0,none⟩) 4 4)).run Tryz.prog (w.alloc (.cells #[.int .u8 (u32 x % 256),.int .u8 (u32 x / 256 % 256),.int .u8 (u32 x / 65536 % 256),.int .u8 (u32 x / 16777216)] 5))=.ok (.string (BK x)) (w.alloc (.cells #[.int .u8 (u32 x % 256),.int .u8 (u32 x / 256 % 256),.int .u8 (u32 x / 65536 % 256),.int .u8 (u32 x / 16777216)] 5)):=by
 refine Vr _ _ 4 4 (BK x) (Ah x) (λj hj=>?_);rw [(fy w 5 #[.int .u8 (u32 x % 256),.int .u8 (u32 x / 256 % 256),.int .u8 (u32 x / 65536 % 256),.int .u8 (u32 x / 16777216)] rfl).cell];have hx:=x.isLt;rw [Ah] at hj;unfold u32
 match j,hj with
 | 0,_=>show some (Value.int .u8 ((x.toNat:Int) % 256))=some (Value.int .u8 ((b8 x.toNat).toNat:Int));rw [EZ];rfl
 | 1,_=>show some (Value.int .u8 ((x.toNat:Int) / 256 % 256))=some (Value.int .u8 ((b8 (x.toNat / 256)).toNat:Int));rw [EZ];rfl
 | 2,_=>show some (Value.int .u8 ((x.toNat:Int) / 65536 % 256))=some (Value.int .u8 ((b8 (x.toNat / 65536)).toNat:Int));rw [EZ];rfl
 | 3,_=>show some (Value.int .u8 ((x.toNat:Int) / 16777216))=some (Value.int .u8 ((b8 (x.toNat / 16777216)).toNat:Int));rw [EZ,iR oo];rfl
theorem VC (a b:Nat) (ha:a<4294967296) (hb:b<4294967296):bits .or .u32 (a:Int) (b:Int)=((a ||| b:Nat):Int):=by
 have h1:(a:Int)=u32 (BitVec.ofNat 32 a):=by unfold u32;rw [ib,iR ha]
 have h2:(b:Int)=u32 (BitVec.ofNat 32 b):=by unfold u32;rw [ib,iR hb]
 rw [h1,h2,eT];unfold u32;rw [BitVec.toNat_or,ib,ib,iR ha,iR hb]
theorem Tu (a b i:Nat) (h:a<2 ^ i):a ||| b*2 ^ i=a+b*2 ^ i:=by
 have:=Nat.shiftLeft_add_eq_or_of_lt h b;rw [Nat.shiftLeft_eq] at this;rw [Nat.or_comm,<-this,Nat.add_comm]
theorem au (s:ByteArray) (h:s.size=4):bits .or .u32 (bits .or .u32 (bits .or .u32 (((s[0]'oo).toNat:Int) % 4294967296) (((s[1]'oo).toNat:Int) % 4294967296*256 % 4294967296)) (((s[2]'oo).toNat:Int) % 4294967296*65536 % 4294967296)) (((s[3]'oo).toNat:Int) % 4294967296*16777216 % 4294967296)=u32 (C9 s):=by
 have e0:(s[0]'oo).toNat=at8 s 0:=by unfold at8;rw [Array.getD_eq_getD_getElem?,iI (show 0<s.data.size from by show 0<s.size;omega)];rfl
 have e1:(s[1]'oo).toNat=at8 s 1:=by unfold at8;rw [Array.getD_eq_getD_getElem?,iI (show 1<s.data.size from by show 1<s.size;omega)];rfl
 have e2:(s[2]'oo).toNat=at8 s 2:=by unfold at8;rw [Array.getD_eq_getD_getElem?,iI (show 2<s.data.size from by show 2<s.size;omega)];rfl
 have e3:(s[3]'oo).toNat=at8 s 3:=by unfold at8;rw [Array.getD_eq_getD_getElem?,iI (show 3<s.data.size from by show 3<s.size;omega)];rfl
 rw [e0,e1,e2,e3];unfold u32;rw [Jd];unfold XS;rw [if_pos h];have h0:=IT s 0;have h1:=IT s 1;have h2:=IT s 2;have h3:=IT s 3;generalize at8 s 0=a at*;generalize at8 s 1=b at*;generalize at8 s 2=c at*;generalize at8 s 3=d at*;rw [show ((a:Int) % 4294967296)=((a:Nat):Int) from oo,show ((b:Int) % 4294967296*256 % 4294967296)=((b*2 ^ 8:Nat):Int) from oo,show ((c:Int) % 4294967296*65536 % 4294967296)=((c*2 ^ 16:Nat):Int) from oo,show ((d:Int) % 4294967296*16777216 % 4294967296)=((d*2 ^ 24:Nat):Int) from oo];rw [VC _ _ oo oo,Tu _ _ 8 oo,VC _ _ oo oo,Tu _ _ 16 oo,VC _ _ oo oo,Tu _ _ 24 oo];omega
theorem WV (s:ByteArray) (h:¬s.size=4):C9 s=0#32:=by unfold C9 XS;rw [if_neg h]
theorem MP (s:ByteArray) (hs:s.size<=9223372036854775807) (w:World):Calls Tryz.prog 114 #[.string s] w λe w'=>e=.returned (.int .u32 (u32 (Eg s)))/\Grew w w':=by
 have HU:=zh (UK 0#32 s hs w);go_enter Tryz.func114,Tryz.ntmps114;go_wp2_with fail;refine HU.mono ?_;rintro e w1 ⟨rfl,g1⟩;go_wp2_with fail;go_ret;exact ⟨rfl,g1⟩
theorem E0 (x:BitVec 32) (w:World):Calls Tryz.prog 113 #[.int .u32 (u32 x)] w λe w'=>e=.returned (.string (BK x))/\Grew w w':=by
 have hb:=BD x;have a:=TR w x;go_enter Tryz.func113,Tryz.ntmps113;go_wp2_with fail;go_ret;exact ⟨rfl,gG⟩
theorem Dl (s:ByteArray) (hs:s.size<=9223372036854775807) (w:World):Calls Tryz.prog 180 #[.string s] w λe w'=>e=.returned (.int .u32 (u32 (C9 s)))/\Grew w w':=by
 by_cases h4:s.size=4
 . have a:((s.size:Int) != 4)=false:=by rw [h4];rfl
   have HN:=zh (au s h4);go_enter Tryz.func180,Tryz.ntmps180;go_wp2_with fail
   go_quiet (fail)
   go_wp2_with fail;go_ret;exact ⟨I8 HN,gG⟩
 . have a:((s.size:Int) != 4)=true:=by simp;omega
   have HN:=zh (WV s h4);go_enter Tryz.func180,Tryz.ntmps180;go_wp2_with fail;go_ret;exact ⟨by rw [HN.out];rfl,gG⟩

end
section
attribute [local go_sem ↓] Go.wp_at_zero Go.wp_at_succ
open Go.RowKit
theorem ai (s:ByteArray) (hs:s.size<=1000000) (w:World):Calls Tryz.prog 181 #[.string s] w λe w'=>e=.returned (.string (VK s))/\Grew w w':=by
 have HU:=zh (MP s oo);have HB:=zh (E0 (Eg s));have hz:=Ah (Eg s);go_enter Tryz.func181,Tryz.ntmps181;go_wp2_with fail;refine (HU _).mono ?_;rintro e w1 ⟨rfl,g1⟩;go_wp2_with fail;refine (HB _).mono ?_;rintro e w2 ⟨rfl,g2⟩;go_wp2_with fail;go_ret;exact ⟨rfl,g1.trans g2⟩
def IX (s:ByteArray):ByteArray × Int:=if 4<=s.size/\C9 (s.extract (s.size - 4) s.size)=Eg (s.extract 0 (s.size - 4)) then (s.extract 0 (s.size - 4),0) else (⟨#[]⟩,11)
theorem Xz (s:ByteArray) (n:Nat) (h4:4<=s.size) (hn:s.size - 4=n) (h:C9 (s.extract n s.size)=Eg (s.extract 0 n)):IX s=(s.extract 0 n,0):=by
 subst hn;unfold IX;rw [if_pos ⟨h4,h⟩]
theorem Ze (s:ByteArray) (n:Nat) (hn:s.size - 4=n) (h:¬C9 (s.extract n s.size)=Eg (s.extract 0 n)):IX s=(⟨#[]⟩,11):=by
 subst hn;unfold IX;rw [if_neg (λe=>h e.2)]
theorem SJ (s:ByteArray) (hs:s.size<=1000000) (w:World) (t:ByteArray) (er:Int) (hr:IX s=(t,er)):Calls Tryz.prog 237 #[.string s] w λe w'=>e=.returned (.tuple #[.string t,.int .i64 er])/\Grew w w':=by
 by_cases h4:4<=s.size
 . obtain ⟨n,hn⟩:∃n,s.size - 4=n:=⟨_,rfl⟩;have b:(s.size:Int) - 4=(n:Int):=oo;have hd:decide ((n:Int)<0)=false:=qs;have HN:=zh (Dl (s.extract n s.size) (by rw [gO];omega));have HS:=zh (MP (s.extract 0 n) (by rw [gO];omega));obtain ⟨p,hp⟩:∃p,C9 (s.extract n s.size)=p:=⟨_,rfl⟩;obtain ⟨q,hq⟩:∃q,Eg (s.extract 0 n)=q:=⟨_,rfl⟩;rw [hp] at HN;rw [hq] at HS;have HY:=zh (Xz s n h4 hn);have HZ:=zh (Ze s n hn);rw [hp,hq] at HY HZ;have HR:=zh hr;clear hp hq hr;have hx:0<=n/\n<=s.size:=oo;clear hn;go_enter Tryz.func237,Tryz.ntmps237;go_wp2_with fail;refine AB [] (λw':World=>True) qk ?_;have hS:=trivial;refine tQ 0 8 ?_;refine tQ 1 9 ?_;refine tQ 2 10 ?_;refine tQ 3 11 ?_;refine tQ 4 12 ?_;refine tQ 5 13 ?_;refine tQ 7 15 ?_;refine tQ 8 16 ?_;refine tQ 9 17 ?_;refine tO 6 λK' hK=>?_;go_wp2_with fail;refine (HN _).mono ?_;rintro e w1 ⟨rfl,g1⟩;go_wp2_with fail;refine hK.out _ _ (.inr id) ?_;clear hK;refine tO 10 λK' hK=>?_;go_wp2_with fail;refine (HS _).mono ?_;rintro e w2 ⟨rfl,g2⟩;go_wp2_with fail;refine hK.out _ _ (.inr id) ?_;clear hK;refine tQ 11 19 ?_;refine tQ 12 20 ?_;refine AA qk ?_ _;have hg:Grew w w2:=((fh w).drew.trans g1).trans g2;by_cases a:p=q
   . have hb:(u32 p != u32 q)=false:=by rw [a];simp
     have h1:=HR.out;rw [HY.out a] at h1;injection h1 with h1 h2;subst h1;subst h2;clear a;go_wp2_with fail;go_ret2;exact ⟨rfl,hg⟩
   . have hb:(u32 p != u32 q)=true:=by rw [gu];exact λe=>a (He e)
     have h1:=HR.out;rw [HZ.out a] at h1;injection h1 with h1 h2;subst h1;subst h2;clear a;go_wp2_with fail;go_ret2;exact ⟨rfl,hg⟩
 . have hd:decide ((s.size:Int) - 4<0)=true:=by simp;omega
   have h1:IX s=(⟨#[]⟩,11):=by unfold IX;rw [if_neg (λe=>h4 e.1)]
   rw [h1] at hr;injection hr with h1 h2;subst h1;subst h2;go_enter Tryz.func237,Tryz.ntmps237;go_wp2_with fail;refine AB [] (λw':World=>True) qk ?_;have hS:=trivial;refine tQ 0 8 ?_;refine tQ 1 9 ?_;refine tQ 2 10 ?_;refine tU 3 (some 11) ?_;refine tU 4 (some 12) ?_;refine tU 5 (some 13) ?_;refine tU 6 (some 14) ?_;refine tU 7 (some 15) ?_;refine tU 8 (some 16) ?_;refine tU 9 (some 17) ?_;refine tU 10 (some 18) ?_;refine tU 11 (some 19) ?_;refine tQ 12 20 ?_;refine AA qk ?_ _;go_wp2_with fail;go_ret2;exact ⟨rfl,gG⟩

theorem aK:(Tryz.prog.info? 5).map (λi=>(i.zero,i.size,i.bytes))=some (some (.int .u8 0),1,1):=qk
theorem bC:(Tryz.prog.info? 5).map (·.size)=some 1:=qk
def M3 (b:UInt8):Value:=.int .u8 (b.toNat:Int)
def BC (s:ByteArray):Array Value:=(s.data.toList.map M3).toArray
theorem R0 (s:ByteArray):(BC s).size=s.size:=by simp [BC]
theorem H6 (w:World) (n:Nat) (hn:n<=1000000):(Instr.makeSlice 169 (.int .i64 (n:Int)) (.int .i64 (n:Int))).run Tryz.prog w=.ok (.slice (some ⟨w.heap.size,0,none⟩) n n) (w.alloc (.cells (BC (Ay n)) 5)):=by
 obtain ⟨i,hi,a,b,c⟩:=info_parts aK;have h:=run_make (P:=Tryz.prog) w 169 5 i _ Tryz.underlying169 hi a .i64 .i64 (n:Int) (n:Int) oo oo (by rw [c];omega) oo;rw [b] at h;simp only [gQ,Nat.mul_one] at h;rw [h];congr 3;unfold madeCells;apply Array.ext
 . simp [BC,Ay]
 . intro j h1 h2;simp [Value.cells,Nat.mod_one,BC,Ay,M3]
theorem EC (W:World) (g n:Nat) (s:ByteArray) (hs:s.size=n) (hb:Blk W g 5 (BC s)):(convert 169 9 (.slice (some ⟨g,0,none⟩) n n)).run Tryz.prog W=.ok (.string s) W:=by
 refine Vr W g n n s hs (λj hj=>?_);rw [hb.cell];unfold BC;have h2:j<s.data.size:=hj;simp [M3];exact ⟨s[j],iI h2,rfl⟩
theorem MI {W:World} {ops:Array Oper} {rest:List Oper} {o:Oper} {a:Act} {Q:Exit->Act->World->Prop} (j:o.guard=none) (d x:Operand)
 (ho:o.op=.call { callee:=.builtin .copy,args:=#[d,x],argTypes:=#[169,9] }) (g n c:Nat) (s u:ByteArray) (hd:a.eval d=.slice (some ⟨g,0,none⟩) n c) (hx:a.eval x=.string s) (hb:Blk W g 5 (BC u)) (hn:u.size=n)
 (h:wpList Tryz.prog ops Q rest (a.put o.dst (.int .i64 (min s.size n:Nat))) (W.setRow g (BC (s.extract 0 n++u.extract s.size n)))):wpList Tryz.prog ops Q (o::rest) a W:=by
 have k:Nat.min s.size n=min s.size n:=rfl
 have e:((s.data.toList.map M3).take (min s.size n)).length=min s.size n:=by
  rw [iX,fm];have:s.data.toList.length=s.size:=rfl;omega
 have f:=run_storeCells_at Tryz.prog g 0 5 ((s.data.toList.map M3).take (min s.size n)) 0 (BC u) W hb (by rw [e,R0];omega) (by
  intro v hv
  have:=iu hv
  obtain ⟨b,_,rfl⟩:=ft.1 this
  rfl)
 have l:((BC u).toList.take (0+0)++(s.data.toList.map M3).take (min s.size n)++(BC u).toList.drop (0+0+((s.data.toList.map M3).take (min s.size n)).length)).toArray=BC (s.extract 0 n++u.extract s.size n):=by
  rw [e];unfold BC;congr 1;simp only [ik,jM,take_zero,nil_append,ByteArray.data_append,Array.toList_append,fz,ByteArray.data_extract];have e1:s.data.size=s.size:=rfl;have e2:u.data.size=u.size:=rfl;congr 1
  . simp [Array.toList_extract,map_take];omega
  . simp [Array.toList_extract,map_drop];rw [gP (by simp;omega)];by_cases t:s.size<=n
    . rw [Nat.min_eq_left t]
    . rw [Nat.min_eq_right oo,drop_of_length_le (by simp;omega),drop_of_length_le (by simp;omega)]
 rw [l] at f;refine wpList_plain j λK' hK=>?_
 have m:(Builtin.copy_ #[169,9] o.type #[.slice (some ⟨g,0,none⟩) n c,.string s]).run Tryz.prog W=.ok (goInt (min (s.size:Int) (n:Int))) (W.setRow g (BC (s.extract 0 n++u.extract s.size n))):=by
  obtain ⟨i,hi,hz⟩:∃i,Tryz.prog.info? 5=some i/\i.size=1:=by
   have:=bC;cases hq:Tryz.prog.info? 5 with
   | none=>rw [hq] at this;cases this
   | some i=>rw [hq] at this;exact ⟨i,rfl,by simpa using this⟩
  have p:(storeCells ⟨g,0,none⟩ (List.take (min s.size n) (List.map (λb:UInt8=>Value.int IntKind.u8 (b.toNat:Int)) s.data.toList)) 0).run Tryz.prog W=.ok () (W.setRow g (BC (s.extract 0 n++u.extract s.size n))):=f;have hu:=Tryz.underlying169;have q:((min s.size n:Nat):Int)=min (s.size:Int) (n:Int):=oo;simp [Builtin.copy_,jE hu,Builtin.lenOf,Builtin.firstCells,sizeOf,typeInfo,hi,hz,p,k];rw [q]
 unfold Oper.wp;simp [execOp,ho,resolve,invoke,builtin,hd,hx,m,Result.andThen];have r:goInt (min (s.size:Int) (n:Int))=.int .i64 ((min s.size n:Nat):Int):=by rw [show min (s.size:Int) (n:Int)=((min s.size n:Nat):Int) from oo];rfl
 rw [r];exact hK _ _ h
theorem Vc (i:Int):u32 (EV i)=i % 4294967296:=by
 unfold u32 EV;rw [BitVec.toNat_ofInt];omega
theorem SA (i:Int):IntKind.u32.wrap i=u32 (EV i):=by
 rw [Vc];simp only [IntKind.wrap,IntKind.signed,IntKind.bits];simp
theorem Wa (n k:Nat):(Ay n).extract k n=Ay (n - k):=by
 apply ByteArray.ext;rw [ByteArray.data_extract];unfold Ay;simp only [extract_toArray];congr 1;simp [List.extract]
theorem T1 (d:ByteArray):d.extract 0 128++(Ay 128).extract d.size 128=BE d:=by rw [Wa];rfl
theorem Il (d:ByteArray) (v:BitVec 32) (i:Int) (w:World) (hd:d.size<=9223372036854775807) (hi:okI i):
 Calls Tryz.prog 110 #[.string d,.int .u32 (u32 v),.int .i64 i] w λe w'=>e=.returned (.string (Ao d v i))/\Grew w w':=by
 have c:Blk (w.alloc (.cells (BC (Ay 128)) 5)) w.heap.size 5 (BC (Ay 128)):=fy w _ _ rfl;have h:(Instr.makeSlice 169 (.int .i64 128) (.int .i64 128)).run Tryz.prog w=_:=H6 w 128 oo;have o:=SA i;have b:=DU d;have p:=Ah v;have q:=Ah (EV i);have HS:=zh (ai (Ia d v i) (by rw [JW];omega));have j:=zh (E0 v);have k:=zh (E0 (EV i));unfold okI at hi;unfold Ia at HS;go_enter Tryz.func110,Tryz.ntmps110;go_wp2_with (with_reducible refine MI rfl _ _ rfl _ 128 128 d (Ay 128) rfl rfl c (C7 128) ?_);rw [T1];have a:Blk ((w.alloc (.cells (BC (Ay 128)) 5)).setRow w.heap.size (BC (BE d))) w.heap.size 5 (BC (BE d)):=c.setRow _;have f:Grew w ((w.alloc (.cells (BC (Ay 128)) 5)).setRow w.heap.size (BC (BE d))):=gG;obtain ⟨W1,g⟩:∃W1,W1=(w.alloc (.cells (BC (Ay 128)) 5)).setRow w.heap.size (BC (BE d)):=⟨_,rfl⟩;rw [<-g] at a f ⊢;clear g c h;simp only [Act.put,zA,zB,zC];go_wp2_with fail;refine AB [] (λw':World=>(convert 169 9 (.slice (some ⟨w.heap.size,0,none⟩) 128 128)).run Tryz.prog w'=.ok (.string (BE d)) w') qk ?_;have hS:=(show (λw':World=>(convert 169 9 (.slice (some ⟨w.heap.size,0,none⟩) 128 128)).run Tryz.prog w'=.ok (.string (BE d)) w') W1.drew from EC _ _ _ _ b a.drew);refine tQ 0 12 ?_;refine tT 1 (some 13) hS ?_;refine tQ 2 14 ?_;refine tQ 5 17 ?_;refine tT 6 (some 18) hS ?_;clear hS;refine tO 3 λK' hK=>?_;go_wp2_with fail;refine (j _).mono ?_;rintro e w2 ⟨rfl,g2⟩;go_wp2_with fail;have l:Grew w w2:=f.drew.trans g2;refine hK.out _ _ (.inr (λ_=>EC _ _ _ _ b (a.drew.grew g2))) ?_;clear hK;have hS:=trivial;refine tQ 4 16 ?_;refine tO 7 λK' hK=>?_;go_wp2_with fail;refine (k _).mono ?_;rintro e w3 ⟨rfl,g3⟩;go_wp2_with fail;have m:Grew w w3:=l.trans g3;refine hK.out _ _ (.inr (λ_=>EC _ _ _ _ b ((a.drew.grew g2).grew g3))) ?_;clear hK;refine tQ 8 20 ?_;refine tO 9 λK' hK=>?_;go_wp2_with fail;refine (HS _).mono ?_;rintro e w4 ⟨rfl,g4⟩;go_wp2_with fail;have n:Grew w w4:=m.trans g4;refine hK.out _ _ (.inr (λ_=>EC _ _ _ _ b (((a.drew.grew g2).grew g3).grew g4))) ?_;clear hK;refine tQ 10 6 ?_;refine AA qk ?_ _;go_wp2_with fail;go_ret;exact ⟨rfl,n⟩
theorem O6 (s:ByteArray) (h:s.size=140):IX s=if C9 (s.extract 136 140)=Eg (s.extract 0 136) then (s.extract 0 136,0) else (⟨#[]⟩,11):=by
 unfold IX;rw [h];by_cases hq:C9 (s.extract 136 140)=Eg (s.extract 0 136)
 . rw [if_pos ⟨oo,hq⟩,if_pos hq]
 . rw [if_neg (λe=>hq e.2),if_neg hq]
theorem Qh (s:ByteArray) (i j k:Nat) (h:j<=k):(s.extract 0 k).extract i j=s.extract i j:=by
 rw [ByteArray.extract_extract];congr 1<;>omega
theorem Hf (s:ByteArray) (i:Int) (h:¬okR s i):Di s i=(⟨#[]⟩,0#32,11):=by unfold Di;rw [if_neg h]
theorem M0 (s:ByteArray) (i:Int) (w:World) (hs:s.size<=9223372036854775807) (hi:okI i) (d:ByteArray) (v:BitVec 32) (er:Int) (hr:Di s i=(d,v,er)):
 Calls Tryz.prog 218 #[.string s,.int .i64 i] w λe w'=>e=.returned (.tuple #[.string d,.int .u32 (u32 v),.int .i64 er])/\Grew w w':=by
 have m:=SA i;have n:i % 4294967296=u32 (EV i):=(Vc i).symm;unfold okI at hi;by_cases f:s.size=140
 . have h:((s.size:Int) != 140)=false:=by rw [f];rfl
   by_cases a:C9 (s.extract 136 140)=Eg (s.extract 0 136)
   . have c:IX s=(s.extract 0 136,0):=by rw [O6 s f,if_pos a]
     have hz:(s.extract 0 136).size=136:=by rw [gO];omega
     have HO:=zh (SJ s oo w _ _ c);obtain ⟨t,ht⟩:∃t,s.extract 0 136=t:=⟨_,rfl⟩;rw [ht] at HO hz;have e1:t.extract 132 t.size=s.extract 132 136:=by rw [hz,<-ht];exact Qh s 132 136 136 oo
     have e2:t.extract 0 128=s.extract 0 128:=by rw [<-ht];exact Qh s 0 128 136 oo
     have e3:t.extract 128 132=s.extract 128 132:=by rw [<-ht];exact Qh s 128 132 136 oo
     have HN:=zh (Dl (t.extract 132 t.size) (by rw [gO];omega));have HM:=zh (Dl (t.extract 128 132) (by rw [gO];omega));obtain ⟨p,hp⟩:∃p,C9 (s.extract 132 136)=p:=⟨_,rfl⟩;obtain ⟨q,hq⟩:∃q,C9 (s.extract 128 132)=q:=⟨_,rfl⟩;rw [e1,hp] at HN;rw [e3,hq] at HM;have g:=zh e1;have j:=zh e2;have k:=zh e3;have o:136<=t.size/\t.size<=136:=oo;clear ht c e1 e2 e3;by_cases b:p=EV i
     . have hu:Di s i=(s.extract 0 128,q,0):=by unfold Di;rw [if_pos ⟨f,a,hp.trans b⟩,hq]
       rw [hu] at hr;injection hr with h1 h2;injection h2 with h2 h3;subst h1;subst h2;subst h3;have l:(u32 p != u32 (EV i))=false:=by rw [b];simp
       clear hu a b hz hp;go_enter Tryz.func218,Tryz.ntmps218;go_wp2_with fail;refine HO.mono ?_;rintro e w1 ⟨rfl,g1⟩;go_wp2_with fail;rw [g.out];refine (HN _).mono ?_;rintro e w2 ⟨rfl,g2⟩;go_wp2_with fail;refine AB [] (λw':World=>True) qk ?_;have hS:=trivial;refine tQ 0 27 ?_;refine tQ 1 28 ?_;refine tQ 2 29 ?_;refine tQ 3 30 ?_;refine tO 4 λK' hK=>?_;go_wp2_with fail;rw [k.out];refine (HM _).mono ?_;rintro e w3 ⟨rfl,g3⟩;go_wp2_with fail;refine hK.out _ _ (.inr id) ?_;clear hK;refine tQ 5 4 ?_;refine tQ 6 5 ?_;refine tQ 7 6 ?_;refine AA qk ?_ _;rw [j.out];go_wp2_with fail;have hg:Grew w w3:=(g1.trans g2).drew.trans g3
       go_ret3
       exact ⟨rfl,hg⟩
     . have hu:Di s i=(⟨#[]⟩,0#32,11):=Hf s i (λe=>b (hp.symm.trans e.2.2));rw [hu] at hr;injection hr with h1 h2;injection h2 with h2 h3;subst h1;subst h2;subst h3;have l:(u32 p != u32 (EV i))=true:=by rw [gu];exact λe=>b (He e)
       clear hu a b hz hp;go_enter Tryz.func218,Tryz.ntmps218;go_wp2_with fail;refine HO.mono ?_;rintro e w1 ⟨rfl,g1⟩;go_wp2_with fail;rw [g.out];refine (HN _).mono ?_;rintro e w2 ⟨rfl,g2⟩;go_wp2_with fail
       go_ret3
       exact ⟨rfl,g1.trans g2⟩
   . have c:IX s=(⟨#[]⟩,11):=by rw [O6 s f,if_neg a]
     have HO:=zh (SJ s oo w _ _ c);have hu:Di s i=(⟨#[]⟩,0#32,11):=Hf s i (λe=>a e.2.1);rw [hu] at hr;injection hr with h1 h2;injection h2 with h2 h3;subst h1;subst h2;subst h3;clear hu a c;go_enter Tryz.func218,Tryz.ntmps218;go_wp2_with fail;refine HO.mono ?_;rintro e w1 ⟨rfl,g1⟩;go_wp2_with fail
     go_ret3
     exact ⟨rfl,g1⟩
 . have h:((s.size:Int) != 140)=true:=by simp;omega
   have hu:Di s i=(⟨#[]⟩,0#32,11):=Hf s i (λe=>f e.1);rw [hu] at hr;injection hr with h1 h2;injection h2 with h2 h3;subst h1;subst h2;subst h3;clear hu;go_enter Tryz.func218,Tryz.ntmps218;go_wp2_with fail
   go_ret3
   exact ⟨rfl,gG⟩

end
section
open Go.RowKit
theorem az (z:BitVec 32) (h:sh1 z=0#32):z=0#32:=by
 unfold sh1 at h;cases h0:z.getLsbD 0 with
 | true=>
   rw [if_pos h0] at h;have:=gJ (λv=>BitVec.getLsbD v 31) h;simp only [BitVec.getLsbD_xor,BitVec.getLsbD_ushiftRight] at this;rw [BitVec.getLsbD_of_ge z (1+31) oo] at this;exact absurd this qd
 | false=>
   rw [if_neg (by rw [h0];simp)] at h;apply BitVec.eq_of_getLsbD_eq;intro i hi;cases i with
   | zero=>rw [h0];simp
   | succ i=>
     have:=gJ (λv=>BitVec.getLsbD v i) h;simp only [BitVec.getLsbD_ushiftRight] at this;rw [show i+1=1+i from oo,this];simp
theorem Se {a b:BitVec 32} (h:a ^^^ b=0#32):a=b:=by
 have:=gJ (· ^^^ b) h;simpa [BitVec.xor_assoc] using this
theorem db {a b:BitVec 32} (h:sh1 a=sh1 b):a=b:=Se (az _ (by rw [Vk,h,BitVec.xor_self]))
theorem VJ (n:Nat):∀{a b:BitVec 32},shN n a=shN n b->a=b:=by
 induction n with
 | zero=>intro a b h;exact h
 | succ n ih=>intro a b h;exact db (ih h)
theorem KO {a b x:BitVec 32} (h:a ^^^ x=b ^^^ x):a=b:=by
 have:=gJ (· ^^^ x) h;simpa [BitVec.xor_assoc] using this
theorem OW {a b x:BitVec 32} (h:x ^^^ a=x ^^^ b):a=b:=by
 rw [BitVec.xor_comm x a,BitVec.xor_comm x b] at h;exact KO h
theorem Wm {c d:UInt8} (h:DR c=DR d):c=d:=by
 have:=gJ BitVec.toNat h;unfold DR at this;rw [ib,ib] at this;have:=c.toNat_lt;have:=d.toNat_lt;exact UInt8.toNat_inj.1 oo
theorem RI:∀(l:List UInt8) {x y:BitVec 32},D9 l x=D9 l y->x=y
 | [],_,_,h=>h
 | c::l,x,y,h=>KO (VJ 8 (RI l (x:=Pe x c) (y:=Pe y c) h))
theorem dc (a b:List UInt8) (c d:UInt8) (x:BitVec 32) (h:D9 (a++c::b) x=D9 (a++d::b) x):c=d:=by
 unfold D9 at h;rw [iV,iV,foldl_cons,foldl_cons] at h;exact Wm (OW (VJ 8 (RI b h)))
theorem VM (b m:UInt8) (hm:m≠0):b ^^^ m≠b:=by
 intro h;apply hm;have:(b ^^^ m) ^^^ b=b ^^^ b:=by rw [h]
 rw [UInt8.xor_comm b m,UInt8.xor_assoc,UInt8.xor_self] at this;simpa using this
theorem OE (s:ByteArray) (i:Nat) (m:UInt8):(Ee s i m).size=s.size:=by
 show (s.data.modify i (λb=>b ^^^ m)).size=s.data.size;exact Array.size_modify ..
theorem Fq (s:ByteArray) (i:Nat) (m:UInt8):(Ee s i m).data.toList=s.data.toList.modify i (λb=>b ^^^ m):=by
 unfold Ee;exact Array.toList_modify ..
theorem E1 {a b:ByteArray} (h:a.data.toList=b.data.toList):a=b:=by
 obtain ⟨⟨l⟩⟩:=a;obtain ⟨⟨m⟩⟩:=b;exact gJ (λl=>(⟨⟨l⟩⟩:ByteArray)) h
theorem Eb (s:ByteArray) (i j:Nat):(s.extract i j).data.toList=(s.data.toList.drop i).take (j - i):=by
 rw [ByteArray.data_extract,Array.toList_extract,extract_eq_take_drop]
theorem KA (s:ByteArray) (k:Nat) (m:UInt8) (i j:Nat) (h:k<i\/j<=k):(Ee s k m).extract i j=s.extract i j:=by
 apply E1;rw [Eb,Eb,Fq];apply jb;intro n;rw [getElem?_take,getElem?_take,getElem?_drop,getElem?_drop,List.getElem?_modify];split
 . have hk:¬k=i+n:=oo;simp only [if_neg hk];cases s.data.toList[i+n]? <;>rfl
 . rfl
theorem Mc (s:ByteArray) (k:Nat) (m:UInt8) (i j:Nat) (h1:i<=k) (h2:k<j):(Ee s k m).extract i j=Ee (s.extract i j) (k - i) m:=by
 apply E1;rw [Eb,Fq,Fq,Eb];apply jb;intro n;rw [getElem?_take,getElem?_drop,List.getElem?_modify,List.getElem?_modify,getElem?_take,getElem?_drop];by_cases hn:n<j - i
 . rw [if_pos hn,if_pos hn];by_cases hk:k=i+n
   . simp only [if_pos hk,if_pos (show k - i=n from oo)]
   . simp only [if_neg hk,if_neg (show ¬k - i=n from oo)]
 . rw [if_neg hn,if_neg hn];split<;>rfl
theorem dZ (s:ByteArray) (k:Nat) (m:UInt8) (hk:k<s.size) (hm:m≠0):Ee s k m≠s:=by
 intro h;have h2:(Ee s k m).data.toList[k]? =s.data.toList[k]? :=by rw [h]
 rw [Fq,List.getElem?_modify,fg (by simpa using hk)] at h2;simp only [Option.map_eq_map,Option.map_some,Option.some.injEq,if_true] at h2;exact VM _ m hm h2
theorem cI (s:ByteArray) (k:Nat) (m:UInt8) (hk:k<s.size) (hm:m≠0):Eg (Ee s k m)≠Eg s:=by
 intro h;unfold Eg at h;have h1:=gJ (~~~ ·) h;simp only [BitVec.not_not] at h1;have hl:k<s.data.toList.length:=by simpa using hk
 have e1:s.data.toList=s.data.toList.take k++s.data.toList[k]::s.data.toList.drop (k+1):=by rw [<-iz hl,jR]
 have e2:(Ee s k m).data.toList=s.data.toList.take k++(s.data.toList[k] ^^^ m)::s.data.toList.drop (k+1):=by
  rw [Fq,modify_eq_take_cons_drop hl]
 rw [e2] at h1
 conv at h1=>rhs;rw [e1]
 exact VM _ m hm (dc _ _ _ _ _ h1)

inductive St where
 | put (i:Int) (s:ByteArray)
 | sync
def stD (D:Dev) (sy ep:Int):St->Dev × Int
 | .put i s=>BN D sy ep i s
 | .sync=>Ci D sy ep
def Bk (sy ep:Int):List St->Dev->Dev × Int
 | [],D=>(D,0)
 | t::l,D=>if (stD D sy ep t).2=0 then Bk sy ep l (stD D sy ep t).1 else stD D sy ep t
theorem Gm (sy ep:Int) (a b:List St):∀D,Bk sy ep (a++b) D=if (Bk sy ep a D).2=0 then Bk sy ep b (Bk sy ep a D).1 else Bk sy ep a D:=by
 induction a with
 | nil=>intro D;rfl
 | cons t a ih=>
   intro D;show (if (stD D sy ep t).2=0 then Bk sy ep (a++b) (stD D sy ep t).1 else stD D sy ep t)=_;by_cases h:(stD D sy ep t).2=0
   . rw [if_pos h,ih];show _=if (if (stD D sy ep t).2=0 then Bk sy ep a (stD D sy ep t).1 else stD D sy ep t).2=0 then Bk sy ep b (if (stD D sy ep t).2=0 then Bk sy ep a (stD D sy ep t).1 else stD D sy ep t).1 else (if (stD D sy ep t).2=0 then Bk sy ep a (stD D sy ep t).1 else stD D sy ep t);rw [if_pos h]
   . rw [if_neg h];show _=if (if (stD D sy ep t).2=0 then Bk sy ep a (stD D sy ep t).1 else stD D sy ep t).2=0 then Bk sy ep b (if (stD D sy ep t).2=0 then Bk sy ep a (stD D sy ep t).1 else stD D sy ep t).1 else (if (stD D sy ep t).2=0 then Bk sy ep a (stD D sy ep t).1 else stD D sy ep t);rw [if_neg h,if_neg h]
abbrev Wl:=List (Nat × ByteArray)
def puts (l:Wl):List St:=l.map λe=>.put (e.1:Int) e.2
def BL (D:Dev) (l:Wl):Dev:=l.foldl (λD e=>AR D e.1 e.2) D
def wrs (sy:Int) (l:Wl):List Wr:=l.map λe=>⟨sy,e.1,e.2⟩
def okW (D:Dev) (l:Wl):Prop:=∀e∈l,e.1<D.st.length/\e.2.size=140
structure Calm (D:Dev) (sy ep:Int):Prop where
 ok:D.Ok
 live:D.failed=false
 plain:DA sy ep=true
 free:¬ep<D.fen sy
theorem N4 (D:Dev) (i:Nat) (s:ByteArray) (hi:i<D.st.length) (j:Nat):(AR D i s).at j=if j=i then s else D.at j:=by
 unfold AR;split
 . rename_i h;by_cases hj:j=i
   . rw [if_pos hj,hj];exact h
   . rw [if_neg hj]
 . unfold Dev.at;show (D.st.set i s).getD j emp=_;rw [gH,jK];by_cases hj:j=i
   . subst hj;rw [if_pos rfl,if_pos hi,if_pos rfl];rfl
   . rw [if_neg (λh=>hj h.symm),if_neg hj,gH]
theorem Yy (r:Wr) (a:ByteArray) (h1:r.data.size=140) (h2:a.size=140):MJ r 140 a=r.data:=by
 unfold MJ;rw [<-h1,ByteArray.extract_zero_size,h1,h2];rw [show a.extract 140 140=ByteArray.empty from by rw [<-ByteArray.size_eq_zero_iff,gO];omega];exact jA
theorem C5 (l:Wl):∀D,D.Ok->okW D l->EndKept D (BL D l):=by
 induction l with
 | nil=>intro D h _;exact ⟨h,rfl,rfl,rfl,rfl,rfl⟩
 | cons e l ih=>
   intro D h hl;obtain ⟨h1,h2⟩:=hl e (gS ..);have hc:=Jo h h1 h2;have k:=ih (AR D e.1 e.2) hc (λx hx=>by rw [C6];exact hl x (gM _ hx));exact ⟨k.ok,k.len.trans (C6 ..),k.pend.trans (KR ..),k.fen.trans (L0 ..),k.fuse.trans (Ka ..),k.failed.trans (Fx ..)⟩
def Ad:Wl->Nat->Option ByteArray
 | [],_=>none
 | e::l,i=>match Ad l i with
   | some s=>some s
   | none=>if i=e.1 then some e.2 else none
theorem Ft (l:Wl):∀D,okW D l->∀i,(BL D l).at i=(Ad l i).getD (D.at i):=by
 induction l with
 | nil=>intro D _ i;rfl
 | cons e l ih=>
   intro D hl i;have h1:=(hl e (gS ..)).1;show (BL (AR D e.1 e.2) l).at i=_;rw [ih _ (λx hx=>by rw [C6];exact hl x (gM _ hx)),N4 D e.1 e.2 h1 i];have hE:Ad (e::l) i=match Ad l i with
    | some s=>some s
    | none=>if i=e.1 then some e.2 else none:=rfl
   rw [hE];cases Ad l i with
   | some s=>rfl
   | none=>by_cases h:i=e.1<;>simp [h]
theorem B7 (l:Wl) (i:Nat) (h:∀e∈l,e.1≠i):Ad l i=none:=by
 induction l with
 | nil=>rfl
 | cons e l ih=>
   unfold Ad;rw [ih (λx hx=>h x (gM _ hx)),if_neg (λhe=>h e (gS ..) he.symm)]
theorem Et (l:Wl) (hn:(l.map (·.1)).Nodup) (e:Nat × ByteArray) (he:e∈l):Ad l e.1=some e.2:=by
 induction l with
 | nil=>cases he
 | cons x l ih=>
   rw [map_cons,nodup_cons] at hn;unfold Ad;rcases ia.1 he with rfl | he
   . rw [B7 l e.1 (λy hy h=>hn.1 (h▸List.mem_map_of_mem hy)),if_pos rfl]
   . rw [ih hn.2 he]
theorem YX {D:Dev} {sy ep:Int} (h:Calm D sy ep) (hf:D.fuse=none) (e:Nat × ByteArray) (he:e.1<D.st.length/\e.2.size=140):BN D sy ep (e.1:Int) e.2=({ D with pend:=D.pend++[⟨sy,e.1,e.2⟩] },0):=by
 have ha:An D sy ep=(D,0):=by
  unfold An;rw [if_neg (by rw [h.live];simp),if_neg h.free];unfold Je;rw [hf];rfl
 unfold BN;rw [if_neg (by rw [h.plain];simp [he.2]),if_neg (by unfold Cl;simp;omega),ha];rfl
theorem dq {D:Dev} {sy ep:Int} (h:Calm D sy ep) (hf:D.fuse=none):Ci D sy ep=(Bl D (GB sy) (λ_=>140),0):=by
 have ha:An D sy ep=(D,0):=by
  unfold An;rw [if_neg (by rw [h.live];simp),if_neg h.free];unfold Je;rw [hf];rfl
 unfold Ci;rw [if_neg (by rw [h.plain];simp),ha];rfl
theorem Calm.pend {D:Dev} {sy ep:Int} (h:Calm D sy ep) (l:Wl) (hl:okW D l):Calm { D with pend:=D.pend++wrs sy l } sy ep:=by
 refine ⟨⟨h.ok.len,h.ok.pos,h.ok.lim,h.ok.st,h.ok.old,λr hr=>?_,h.ok.fen⟩,h.live,h.plain,h.free⟩;rcases gC.1 hr with hr | hr
 . exact h.ok.pend r hr
 . obtain ⟨e,he,rfl⟩:=ft.1 hr;have hp:=h.plain;unfold DA at hp;have a:=gV hp;exact ⟨(hl e he).1,(hl e he).2,a.1,a.2.1⟩
theorem V4 (sy ep:Int) (l:Wl):∀D,Calm D sy ep->D.fuse=none->okW D l->Bk sy ep (puts l) D=({ D with pend:=D.pend++wrs sy l },0):=by
 induction l with
 | nil=>intro D _ _ _;show (D,0)=_;simp [wrs]
 | cons e l ih=>
   intro D h hf hl;have he:=hl e (gS ..);have hw:=YX h hf e he;show (if (BN D sy ep (e.1:Int) e.2).2=0 then Bk sy ep (puts l) (BN D sy ep (e.1:Int) e.2).1 else _)=_;rw [hw,if_pos rfl];have hc:Calm { D with pend:=D.pend++wrs sy [e] } sy ep:=h.pend [e] (λx hx=>by rw [fp.1 hx];exact he);have:=ih _ hc hf (λx hx=>hl x (gM _ hx));rw [show ({ D with pend:=D.pend++[⟨sy,e.1,e.2⟩] }:Dev)={ D with pend:=D.pend++wrs sy [e] } from rfl,this];simp [wrs]
theorem eG (sy:Int) (p:Wr->Bool) (hp:∀(i:Nat) s,p ⟨sy,i,s⟩=true) (l:Wl):∀(D:Dev) (k:Nat),D.Ok->okW D l->((wrs sy l).foldl (AV p (λ_=>140)) (D,k)).1=BL D l:=by
 induction l with
 | nil=>intro D k _ _;rfl
 | cons e l ih=>
   intro D k h hl;obtain ⟨h1,h2⟩:=hl e (gS ..);show ((wrs sy l).foldl (AV p (λ_=>140)) (AV p (λ_=>140) (D,k) ⟨sy,e.1,e.2⟩)).1=BL (AR D e.1 e.2) l;unfold AV;rw [if_pos (hp _ _)];show ((wrs sy l).foldl (AV p (λ_=>140)) (AR D e.1 (MJ ⟨sy,e.1,e.2⟩ 140 (D.at e.1)),k+1)).1=_;rw [Yy ⟨sy,e.1,e.2⟩ _ h2 (Fh h h1)];exact ih _ _ (Jo h h1 h2) (λx hx=>by rw [C6];exact hl x (gM _ hx))
theorem NP (sy:Int) (i:Nat) (s:ByteArray):GB sy ⟨sy,i,s⟩=true:=gD rfl
theorem Rp (l:Wl) (P:List Wr):∀D:Dev,BL { D with pend:=P } l={ BL D l with pend:=P }:=by
 induction l with
 | nil=>intro D;rfl
 | cons e l ih=>
   intro D;show BL (AR { D with pend:=P } e.1 e.2) l={ BL (AR D e.1 e.2) l with pend:=P };rw [<-ih];congr 1;unfold AR;show (if D.at e.1=e.2 then _ else _)=_;split<;>rfl
theorem Tw (sy:Int) (l:Wl):(wrs sy l).filter (λr=>!GB sy r)=[]:=by
 rw [filter_eq_nil_iff];intro r hr;obtain ⟨e,_,rfl⟩:=ft.1 hr;rw [NP];simp
theorem EM (sy ep:Int) (l:Wl) (D:Dev) (h:Calm D sy ep) (hf:D.fuse=none) (hp:D.pend=[]) (hl:okW D l):Bk sy ep (puts l++[.sync]) D=(BL D l,0):=by
 rw [Gm,V4 sy ep l D h hf hl,if_pos rfl];show (if (Ci _ sy ep).2=0 then ((Ci _ sy ep).1,0) else Ci _ sy ep)=_;rw [dq (h.pend l hl) hf,if_pos rfl];congr 1;unfold Bl Ck;rw [hp,nil_append];show ({ ((wrs sy l).foldl (AV (GB sy) (λ_=>140)) ({ D with pend:=wrs sy l },0)).1 with pend:=(wrs sy l).filter λr=>!GB sy r }:Dev)=_;have a:=h.pend l hl;rw [hp,nil_append] at a;rw [eG sy (GB sy) (NP sy) l { D with pend:=wrs sy l } 0 a.ok hl,Tw,Rp];have:=(C5 l D h.ok hl).pend;rw [hp] at this;show ({ BL D l with pend:=[] }:Dev)=BL D l;rw [<-this]
theorem Calm.kept {D E:Dev} {sy ep:Int} (h:Calm D sy ep) (k:EndKept D E):Calm E sy ep:=⟨k.ok,by rw [k.failed];exact h.live,h.plain,by rw [k.fen];exact h.free⟩

abbrev U32:=BitVec 32
def blankR:ByteArray:=Ay 140
theorem DW:blankR.size=140:=C7 140
def fld (s:ByteArray) (i:Nat):U32:=C9 (s.extract (4*i) (4*i+4))
def AI:List U32->ByteArray
 | []=>⟨#[]⟩
 | x::l=>BK x++AI l
theorem EH (l:List U32):(AI l).size=4*l.length:=by
 induction l with
 | nil=>rfl
 | cons x l ih=>show (BK x++AI l).size=_;rw [f8,Ah,ih,iY];omega
theorem U6 (a b:List U32):AI (a++b)=AI a++AI b:=by
 induction a with
 | nil=>show AI b=ByteArray.empty++AI b;rw [jV]
 | cons x a ih=>show BK x++AI (a++b)=(BK x++AI a)++AI b;rw [ih,im]
theorem Sj (a b:ByteArray) (i j:Nat) (h:a.size<=i):(a++b).extract i j=b.extract (i - a.size) (j - a.size):=by
 rw [ByteArray.extract_append];rw [show a.extract i j=ByteArray.empty from by rw [<-ByteArray.size_eq_zero_iff,gO];omega];exact jV
theorem H9 (l:List U32):∀i (h:i<l.length),fld (AI l) i=l[i]:=by
 induction l with
 | nil=>intro i h;exact absurd h qs
 | cons x l ih=>
   intro i h;cases i with
   | zero=>
     show C9 ((BK x++AI l).extract 0 4)=x;rw [NR _ _ 4 (Ah x),Cx]
   | succ i=>
     have hi:i<l.length:=by simpa using h
     show C9 ((BK x++AI l).extract (4*(i+1)) (4*(i+1)+4))=l[i];rw [Sj _ _ _ _ (by rw [Ah];omega),Ah,show 4*(i+1) - 4=4*i from oo,show 4*(i+1)+4 - 4=4*i+4 from oo];exact ih i hi
structure Raw where
 data:ByteArray
 ver:U32
 ok:Bool
def KV:Raw:=⟨⟨#[]⟩,0#32,false⟩
def AJ (s:ByteArray) (i:Int):Raw:=if okR s i then ⟨s.extract 0 128,C9 (s.extract 128 132),true⟩ else KV
theorem C8 (d:ByteArray) (v:U32) (i:Int):AJ (Ao d v i) i=⟨BE d,v,true⟩:=by
 obtain ⟨h1,h2,h3,h4,h5⟩:=Hs d v i;unfold AJ;rw [if_pos ⟨BS d v i,by rw [h1,h2,Cx],by rw [h5,Cx]⟩,h3,h4,Cx]
theorem N3 (i:Nat) (h:i+4<=140):C9 (blankR.extract i (i+4))=0#32:=by
 have e:blankR.extract i (i+4)=Ay 4:=by
  apply E1;rw [Eb];show ((List.replicate 140 (0:UInt8)).toArray.toList.drop i).take (i+4 - i)=(List.replicate 4 (0:UInt8)).toArray.toList;rw [drop_replicate,take_replicate,show min (i+4 - i) (140 - i)=4 from oo]
 rw [e];decide
theorem TS (i:Int) (h:EV i≠0#32):¬okR blankR i:=by
 rintro ⟨_,_,h3⟩;rw [N3 132 oo] at h3;exact h h3.symm
def Fb (D:Dev) (j:Nat):ByteArray:=D.content (34+j)
def Eh (s:ByteArray):Int:=u32 (C9 (s.extract 132 136))
def FZ (n:Nat) (m:U32) (s:ByteArray):Bool:=decide (okR s (Eh s)) && (C9 (s.extract 128 132)==m) && !(decide (32<Eh s) && (decide (Eh s<131) || decide ((n:Int)<=Eh s)))
def CO (D:Dev) (c:Nat):List ByteArray:=(List.range c).map (Fb D)
def Dp:List ByteArray->ByteArray
 | []=>⟨#[]⟩
 | s::l=>s++Dp l
def Be (D:Dev):Raw:=AJ (D.content 33) 33
def topI (D:Dev):Raw:=AJ (D.content 0) 0
def EW (D:Dev):Nat:=(fld (Be D).data 1).toNat
def FV (D:Dev):Bool:=(Be D).ok && (fld (Be D).data 0==(Be D).ver) && decide (1<=EW D/\EW D<=97) && decide ((Be D).data.extract 12 128=Ay 116)
def Js (D:Dev):Bool:=(CO D (EW D)).all (FZ D.st.length (Be D).ver)
def U5 (D:Dev):Bool:=decide (Eg (Dp (CO D (EW D)))=fld (Be D).data 2)
def R8 (D:Dev):Bool:=!(topI D).ok || ((Be D).ver==(topI D).ver) || decide ((Be D).ver.toNat=(topI D).ver.toNat+1)
def D6 (D:Dev):Bool:=FV D && (Js D && (U5 D && R8 D))
def AM (D:Dev):List (Int × ByteArray):=if D6 D=true then (CO D (EW D)).map λs=>(Eh s,s) else []
def CI (l:List (Int × ByteArray)):List St:=l.map (λe=>.put e.1 e.2)++[.sync,.put 33 blankR,.sync]
def finD (D:Dev) (sy ep:Int):Dev × Bool × Int:=
 if D.failed=true then (D,false,10) else if AM D=[] then (D,false,0) else ((Bk sy ep (CI (AM D)) D).1,(Bk sy ep (CI (AM D)) D).2==0,(Bk sy ep (CI (AM D)) D).2)
def mapI (D:Dev) (k:Nat):Raw:=AJ (D.content (1+k)) (1+k:Nat)
def datI (D:Dev) (i:Nat):Raw:=AJ (D.content (131+i)) (131+i:Nat)
def C4 (D:Dev) (i:Nat):ByteArray × Int:=
 if (topI D).ok=false then (⟨#[]⟩,11) else if (mapI D (i / 32)).ok=false then (⟨#[]⟩,11) else if (mapI D (i / 32)).ver≠fld (topI D).data (i / 32) then (⟨#[]⟩,12)
 else if (datI D i).ok=false then (⟨#[]⟩,11) else if (datI D i).ver≠fld (mapI D (i / 32)).data (i % 32) then (⟨#[]⟩,12) else ((datI D i).data,0)
structure Img where
 n:Nat
 N:Nat
 ms:Nat->Nat
 vs:Nat->Nat
 cs:Nat->ByteArray
def Img.mv (I:Img) (k j:Nat):Nat:=if 32*k+j<I.n then I.vs (32*k+j) else 0
def nv (n:Nat):U32:=BitVec.ofNat 32 n
theorem C0 (n:Nat) (h:n<4294967296):(nv n).toNat=n:=by unfold nv;rw [ib];exact iR h
theorem eN {a b:Nat} (ha:a<4294967296) (hb:b<4294967296) (h:nv a=nv b):a=b:=by rw [<-C0 a ha,h,C0 b hb]
def Img.tops (I:Img):List U32:=(List.range 32).map λk=>nv (I.ms k)
def Img.mapL (I:Img) (k:Nat):List U32:=(List.range 32).map λj=>nv (I.mv k j)
def Img.topR (I:Img):ByteArray:=Ao (AI I.tops) (nv I.N) 0
def Img.mapR (I:Img) (k:Nat):ByteArray:=Ao (AI (I.mapL k)) (nv (I.ms k)) (1+k:Nat)
def Img.datR (I:Img) (i:Nat):ByteArray:=Ao (I.cs i) (nv (I.vs i)) (131+i:Nat)
theorem Zn (f:Nat->U32):BE (AI ((List.range 32).map f))=AI ((List.range 32).map f):=Hw _ (by rw [EH];simp)
theorem ME (f:Nat->U32) (k:Nat) (h:k<32):fld (AI ((List.range 32).map f)) k=f k:=by
 rw [H9 _ k (by simpa using h)];simp
structure Img.Ok (I:Img):Prop where
 n0:1<=I.n
 n1:I.n<=1024
 N:I.N<4294967296
 ms:∀k,I.ms k<=I.N
 vs:∀i,I.vs i<=I.N
 cs:∀i,i<I.n->(I.cs i).size=128
structure Holds (D:Dev) (I:Img):Prop where
 ok:D.Ok
 img:I.Ok
 len:D.st.length=131+I.n
 live:D.failed=false
 pend:D.pend=[]
 top:D.at 0=I.topR
 map:∀k,k<32->D.at (1+k)=I.mapR k
 dat:∀i,i<I.n->D.at (131+i)=I.datR i
structure Clean (D:Dev) (I:Img):Prop extends Holds D I where
 head:D.at 33=blankR
theorem Holds.content {D:Dev} {I:Img} (h:Holds D I) (i:Nat):D.content i=D.at i:=by unfold Dev.content;rw [h.pend];rfl
theorem Holds.topI {D:Dev} {I:Img} (h:Holds D I):topI D=⟨AI I.tops,nv I.N,true⟩:=by
 unfold Go.Proofs.YtfklieeipokllaaGreat.topI;rw [h.content,h.top];unfold Img.topR;rw [C8];unfold Img.tops;rw [Zn]
theorem Holds.mapI {D:Dev} {I:Img} (h:Holds D I) (k:Nat) (hk:k<32):mapI D k=⟨AI (I.mapL k),nv (I.ms k),true⟩:=by
 unfold Go.Proofs.YtfklieeipokllaaGreat.mapI;rw [h.content,h.map k hk];unfold Img.mapR;rw [C8];unfold Img.mapL;rw [Zn]
theorem Holds.datI {D:Dev} {I:Img} (h:Holds D I) (i:Nat) (hi:i<I.n):datI D i=⟨I.cs i,nv (I.vs i),true⟩:=by
 unfold Go.Proofs.YtfklieeipokllaaGreat.datI;rw [h.content,h.dat i hi];unfold Img.datR;rw [C8,Hw _ (h.img.cs i hi)]
theorem Holds.look {D:Dev} {I:Img} (h:Holds D I) (i:Nat) (hi:i<I.n):C4 D i=(I.cs i,0):=by
 have hn:=h.img.n1;have hk:i / 32<32:=oo;unfold C4;rw [h.topI,h.mapI _ hk,h.datI i hi,if_neg qs,if_neg qs,if_neg,if_neg qs,if_neg]
 . intro hc;apply hc;show nv (I.vs i)=fld (AI (I.mapL (i / 32))) (i % 32);unfold Img.mapL;rw [ME _ _ oo];unfold Img.mv;rw [show 32*(i / 32)+i % 32=i from oo,if_pos hi]
 . intro hc;apply hc;show nv (I.ms (i / 32))=fld (AI I.tops) (i / 32);unfold Img.tops;rw [ME _ _ hk]
theorem eM (i:Nat) (h:i≠0) (h2:i<4294967296):EV (i:Int)≠0#32:=by
 intro e;have:=Wi (i:=(i:Int)) (j:=0) oo oo (by rw [e];decide);omega
theorem Jl (D:Dev) (h:(Be D).ok=false):AM D=[]:=by
 unfold AM D6 FV;rw [h];rfl
theorem FI (D:Dev) (h:D.content 33=blankR):AM D=[]:=by
 apply Jl;unfold Be AJ;rw [h,if_neg (TS 33 (eM 33 qd qd))];rfl
theorem Clean.noint {D:Dev} {I:Img} (h:Clean D I):AM D=[]:=FI D (by rw [h.content,h.head])
theorem Eq {D:Dev} {I:Img} (h:Clean D I) (sy ep:Int):finD D sy ep=(D,false,0):=by
 unfold finD;rw [if_neg (by rw [h.live];simp),if_pos h.noint]

end
section
attribute [local go_sem ↓] Go.wp_at_zero Go.wp_at_succ
open Go.RowKit
def AC (S:Nat->BitVec 32):Array Value:=((List.range 32).map λi=>Value.int .u32 (u32 (S i))).toArray
theorem AY (S:Nat->BitVec 32):(AC S).size=32:=by simp [AC]
theorem Cf (S:Nat->BitVec 32) (k:Nat) (h:k<32):(AC S)[k]? =some (.int .u32 (u32 (S k))):=by
 simp [AC,fo,ic,h]
theorem Hc (S:Nat->BitVec 32) (k:Nat) (b:BitVec 32):(AC S).setIfInBounds k (.int .u32 (u32 b))=AC (λi=>if i=k then b else S i):=by
 simp only [AC,setIfInBounds_toArray];congr 1;apply jb;intro i;rw [jK];by_cases a:k=i
 . subst a;by_cases h:k<32
   . simp [h]
   . simp [h,iU]
 . rw [if_neg a];by_cases h:i<32
   . simp [fo,ic,h,Ne.symm a]
   . rw [iU (by simp;omega),iU (by simp;omega)]
theorem BJ {S T:Nat->BitVec 32} (h:∀i,i<32->S i=T i):AC S=AC T:=by
 unfold AC;congr 1;apply iE;intro i hi;rw [h i (List.mem_range.mp hi)]
theorem D8 (S:Nat->BitVec 32):(AC S).all (·.oneCell')=true:=by
 rw [AC,all_toArray,iD];intro v hv;obtain ⟨i,_,rfl⟩:=List.mem_map.mp hv;rfl
theorem GE (w:World):(zeroValue 185).run Tryz.prog w=.ok (.agg (AC λ_=>0#32)) w:=qk
theorem EX:(Tryz.prog.info? 185).map (·.size)=some 32:=qk
theorem J7 (f g:Nat->BitVec 32) (k i:Nat):(if i=k then f k else if i<k then f i else g i)=if i<k+1 then f i else g i:=by
 by_cases h:i=k
 . subst h;rw [if_pos rfl,if_pos oo]
 . rw [if_neg h];by_cases h2:i<k
   . rw [if_pos h2,if_pos oo]
   . rw [if_neg h2,if_neg oo]
theorem Ip (d:ByteArray) (hd:d.size=128) (w:World):
 Calls Tryz.prog 108 #[.string d] w λe w'=>e=.returned (.agg (AC (fld d)))/\Grew w w':=by
 have hz:=GE;have HN:=zh (λk (hk:k<32) (w:World)=>Dl (d.extract (4*k) (4*k+4)) (by rw [gO];omega) w);have j:128<=d.size/\d.size<=128:=oo;clear hd;go_enter Tryz.func108,Tryz.ntmps108;go_wp2_with fail;clear hz
 go_loopg [5] 32 (λgk i wr=>∃k:Nat,k<=32/\gk=32 - k/\i=.int .i64 k/\Blk wr w.heap.size 185 (AC λ_=>0#32)/\Blk wr (w.heap.size+1) 185 (AC λi=>if i<k then fld d i else 0#32)/\Grew w wr)
 case atStart=>exact ⟨0,oo,oo,rfl,gB,by (apply Blk.conv;(· (repeat' first | (with_reducible assumption) | (with_reducible apply Blk.setRow) | ((with_reducible apply Blk.farRow);rotate_left;(focus (first | (simp;done) | (simp;omega) | omega))) | (with_reducible apply Blk.drew) | (with_reducible apply Blk.drewN) | (with_reducible apply Blk.set_) | (with_reducible exact fy _ _ _ (by first | rfl | (simp;done) | (simp;omega))) | (with_reducible apply Blk.alloc) | ((with_reducible apply Blk.far);rotate_left;(focus (first | (simp;done) | (simp;omega) | omega))) | ((with_reducible apply Blk.grew);rotate_left;(with_reducible assumption)) | ((with_reducible apply Blk.turned);rotate_left;(with_reducible assumption);(focus (first | (simp;done) | (simp;omega) | omega))) | fail));(· exact BJ λi _=>qs)),gG⟩
 case round=>
  obtain ⟨k,hk,g,rfl,b,a,hg⟩:=hrel;have h:=zh g;clear g;have l:=a.lt;by_cases f:k<32
  . go_wp2_with fail;refine (HN k f _).mono ?_;rintro e w1 ⟨rfl,g1⟩;have m:=b.grew g1;have c:=a.grew g1;have n:Grew w w1:=gG;have ha:=c.cell k;rw [Cf _ _ oo] at ha;have hf:=c.frozen k;have o:=BD (C9 (d.extract (4*k) (4*k+4)));go_wp2_with fail
    go_roundg (32 - (k+1))
    case measure=>rw [h.out];omega
    case rel=>exact ⟨k+1,oo,oo,by go_num,gB,by (apply Blk.conv;(· (repeat' first | (with_reducible assumption) | (with_reducible apply Blk.setRow) | ((with_reducible apply Blk.farRow);rotate_left;(focus (first | (simp;done) | (simp;omega) | omega))) | (with_reducible apply Blk.drew) | (with_reducible apply Blk.drewN) | (with_reducible apply Blk.set_) | (with_reducible exact fy _ _ _ (by first | rfl | (simp;done) | (simp;omega))) | (with_reducible apply Blk.alloc) | ((with_reducible apply Blk.far);rotate_left;(focus (first | (simp;done) | (simp;omega) | omega))) | ((with_reducible apply Blk.grew);rotate_left;(with_reducible assumption)) | ((with_reducible apply Blk.turned);rotate_left;(with_reducible assumption);(focus (first | (simp;done) | (simp;omega) | omega))) | fail));(· rw [Hc];exact BJ λi _=>J7 (fld d) (λ_=>0#32) k i)),gG⟩
  . obtain rfl:k=32:=oo;have e0:AC (λi=>if i<32 then fld d i else 0#32)=AC (fld d):=BJ λi hi=>by rw [if_pos hi]
    rw [e0] at a;clear e0;clear f;go_wp2_with (first | (refine Dz rfl 185 _ rfl (w.heap.size+1) rfl 185 (AC (fld d)) _ a Tryz.underlying185 rfl (by rw [AY];exact EX) ?_) | (refine Ae rfl 185 _ _ rfl w.heap.size (AC (fld d)) rfl rfl 185 _ b (by rw [AY,AY]) (by rw [AY];exact EX) (D8 _) ?_));refine f7 (results_cell_row rfl _ _ _ 185 (AC (fld d)) (0,0) _ rfl (b.setRow _) Tryz.underlying185 rfl (by rw [AY];exact EX)) rfl ?_;exact ⟨rfl,gG⟩
theorem Ru (S:Nat->BitVec 32) (k:Nat):AI ((List.range (k+1)).map S)=AI ((List.range k).map S)++BK (S k):=by
 rw [jW,fz,U6];congr 1
theorem JB (S:Nat->BitVec 32) (g:Nat) (w:World) (hb:Blk w g 185 (AC S)):
 Calls Tryz.prog 111 #[.pointer (some ⟨g,0,none⟩)] w λe w'=>e=.returned (.string (AI ((List.range 32).map S)))/\Grew w w':=by
 have HV:=zh (λk=>Ru S k);have c:=zh (λk=>EH ((List.range k).map S));have HB:=zh hb;clear hb;go_enter Tryz.func111,Tryz.ntmps111;go_wp2_with fail
 go_loopg [3,7] 32 (λgk s i wr=>∃k:Nat,k<=32/\gk=32 - k/\i=.int .i64 k/\s=.string (AI ((List.range k).map S))/\Grew w wr)
 case atStart=>exact ⟨0,oo,oo,rfl,rfl,gG⟩
 case round=>
  obtain ⟨k,hk,b,rfl,rfl,hg⟩:=hrel;have d:=zh b;clear b;by_cases m:k<32
  . have a:=HB.grew hg;have ha:=a.cell k;rw [Cf _ _ oo] at ha;have f:=a.lt;have h:(k:Int)<32:=oo;have j:(AI ((List.range k).map S)).size<=128:=by rw [c.out,fm,io];omega
    have l:=Ah (S k);clear a;go_wp2_with fail;refine (E0 (S k) _).mono ?_;rintro e w1 ⟨rfl,g1⟩;go_wp2_with fail
    go_roundg (32 - (k+1))
    case measure=>rw [d.out];omega
    case rel=>exact ⟨k+1,oo,oo,by go_num,by rw [HV.out],hg.trans g1⟩
  . obtain rfl:k=32:=oo;go_wp2_with fail;go_ret;exact ⟨rfl,hg⟩

end
section
open Go.RowKit
def wlI (l:Wl):List (Int × ByteArray):=l.map λe=>((e.1:Int),e.2)
def DT (l:Wl):List ByteArray:=l.map (·.2)
def Bm (l:Wl) (v:U32):ByteArray:=BK v++(BK (nv l.length)++BK (Eg (Dp (DT l))))
def FS (l:Wl) (v:U32):ByteArray:=Ao (Bm l v) v 33
def CU (l:Wl):Wl:=(List.range l.length).map λj=>(34+j,(l.getD j (0,⟨#[]⟩)).2)
def Cv (l:Wl) (v:U32):List St:=(puts (CU l)++[.sync])++((puts [(33,FS l v)]++[.sync])++((puts l++[.sync])++(puts [(33,blankR)]++[.sync])))
theorem Pg (l:Wl):CI (wlI l)=(puts l++[.sync])++(puts [(33,blankR)]++[.sync]):=by
 unfold CI wlI puts;simp
theorem Kg (l:Wl) (v:U32):(Bm l v).size=12:=by
 unfold Bm;rw [f8,f8,Ah,Ah,Ah]
theorem Jp (l:Wl) (v:U32):Bm l v=AI [v,nv l.length,Eg (Dp (DT l))]:=by
 unfold Bm;show _=BK v++(BK (nv l.length)++(BK _++⟨#[]⟩));rw [show BK (Eg (Dp (DT l)))++(⟨#[]⟩:ByteArray)=BK (Eg (Dp (DT l))) from jA]
theorem PB (l:Wl) (v:U32):fld (BE (Bm l v)) 0=v/\fld (BE (Bm l v)) 1=nv l.length/\fld (BE (Bm l v)) 2=Eg (Dp (DT l))/\(BE (Bm l v)).extract 12 128=Ay 116:=by
 have hs:=Kg l v
 have he:BE (Bm l v)=Bm l v++Ay 116:=by
  unfold BE;have a:(Bm l v).data.toList.length=12:=by simpa using hs
  have h0:(Bm l v).extract 0 128=Bm l v:=by
   apply E1;rw [Eb,drop_zero,gP oo]
  rw [hs,h0]
 have hf:∀i,i<3->fld (BE (Bm l v)) i=fld (Bm l v) i:=λi hi=>by
  unfold fld;rw [he,LJ _ _ _ _ oo]
 refine ⟨?_,?_,?_,?_⟩
 . rw [hf 0 oo,Jp];exact H9 _ 0 qs
 . rw [hf 1 oo,Jp];exact H9 _ 1 qs
 . rw [hf 2 oo,Jp];exact H9 _ 2 qs
 . rw [he];exact JI _ _ 12 128 hs (by rw [C7])
structure Entries (n:Nat) (l:Wl) (v:U32):Prop where
 pack:∀e∈l,∃d,e.2=Ao d v (e.1:Int)
 place:∀e∈l,e.1<=32\/(131<=e.1/\e.1<n)
 pos:1<=l.length
 lim:l.length<=97
 nodup:(l.map (·.1)).Nodup
 bound:n<=1155
 low:131<=n
theorem Entries.lt {n:Nat} {l:Wl} {v:U32} (h:Entries n l v):∀e∈l,e.1<n/\e.2.size=140:=λe he=>by
 obtain ⟨d,hd⟩:=h.pack e he;have:=h.low;exact ⟨by rcases h.place e he with h1 | h1<;>omega,by rw [hd,BS]⟩
theorem Entries.slot {n:Nat} {l:Wl} {v:U32} (h:Entries n l v) (e:Nat × ByteArray) (he:e∈l):FZ n v e.2=true/\Eh e.2=(e.1:Int):=by
 obtain ⟨d,hd⟩:=h.pack e he;obtain ⟨h1,h2,h3,h4,h5⟩:=Hs d v (e.1:Int);have hp:=h.place e he;have hb:=h.bound
 have hi:Eh e.2=(e.1:Int):=by
  unfold Eh;rw [hd,h5,Cx];unfold u32 EV;rw [BitVec.toNat_ofInt];omega
 refine ⟨?_,hi⟩
 have a:okR e.2 (Eh e.2):=by
  rw [hi,hd];exact ⟨BS d v _,by rw [h1,h2,Cx],by rw [h5,Cx]⟩
 unfold FZ;rw [gD a,hi,hd,h4,Cx];simp only [beq_self_eq_true,Bool.true_and,jT,Bool.and_eq_false_iff,decide_eq_false_iff_not,Bool.or_eq_false_iff];rcases hp with h6 | h6
 . left;omega
 . right;omega
theorem WF (E:Dev) (l:Wl) (v:U32) (h:Entries E.st.length l v) (hp:E.pend=[]) (hh:E.at 33=FS l v) (hs:∀j (hj:j<l.length),E.at (34+j)=l[j].2)
 (ht:(topI E).ok=true->v=(topI E).ver\/v.toNat=(topI E).ver.toNat+1):AM E=wlI l:=by
 have hc:∀i,E.content i=E.at i:=λi=>by unfold Dev.content;rw [hp];rfl
 obtain ⟨f0,f1,f2,f3⟩:=PB l v
 have a:Be E=⟨BE (Bm l v),v,true⟩:=by
  unfold Be;rw [hc,hh];exact C8 _ _ 33
 have f:=h.lim;have g:=h.pos
 have b:EW E=l.length:=by
  unfold EW;rw [a];show (fld (BE (Bm l v)) 1).toNat=_;rw [f1,C0 _ oo]
 have c:CO E (EW E)=DT l:=by
  unfold CO DT;rw [b];apply jY qs;intro j h1 h2;rw [jX,List.getElem_range,jX];unfold Fb;rw [hc];exact hs j (by simpa using h2)
 have hB:D6 E=true:=by
  unfold D6 FV Js U5 R8;rw [c,b,a];simp only [gZ,f0,f1,f2,f3,beq_self_eq_true,gm,true_and,and_true];refine ⟨⟨g,f⟩,?_,?_⟩
  . rw [iD];intro s d;unfold DT at d;obtain ⟨e,he,rfl⟩:=ft.1 d;exact (h.slot e he).1
  . simp only [Bool.or_eq_true,jT,iy,gm];cases ho:(topI E).ok with
    | false=>exact .inl (.inl rfl)
    | true=>
      rcases ht ho with h9 | h9
      . exact .inl (.inr h9)
      . exact .inr h9
 unfold AM;rw [if_pos hB,c];unfold DT wlI;rw [iq];apply iE;intro e he;show (Eh e.2,e.2)=_;rw [(h.slot e he).2]
theorem JY (l:Wl) (e:Nat × ByteArray) (he:e∈CU l):∃j,∃hj:j<l.length,e=(34+j,l[j].2):=by
 unfold CU at he;obtain ⟨j,hj,rfl⟩:=ft.1 he;have a:=gU.1 hj;exact ⟨j,a,by rw [gH,fg a];rfl⟩
theorem I1 {D:Dev} {l:Wl} {v:U32} (h:Entries D.st.length l v):okW D (CU l):=λe he=>by
 obtain ⟨j,hj,rfl⟩:=JY l e he;have:=h.lim;have:=h.low;exact ⟨by show 34+j<_;omega,(h.lt _ (fq hj)).2⟩
theorem KE (l:Wl):((CU l).map (·.1)).Nodup:=by
 unfold CU;rw [iq,Nodup,jL];exact nodup_range.imp (λ{a b} hab he=>hab (by simp only [Function.comp] at he;omega))
theorem Y6 (D:Dev) (l:Wl) (hl:okW D (CU l)) (i:Nat):(BL D (CU l)).at i=if h:34<=i/\i<34+l.length then (l[i - 34]'oo).2 else D.at i:=by
 rw [Ft _ _ hl];split
 . rename_i h
   have hm:(i,(l[i - 34]'oo).2)∈CU l:=by
    unfold CU;refine ft.2 ⟨i - 34,gU.2 oo,?_⟩;rw [gH,fg oo];show (34+(i - 34),_)=_;rw [show 34+(i - 34)=i from oo];rfl
   rw [Et _ (KE l) _ hm];rfl
 . rename_i h;rw [B7 _ _ (λe he hq=>by obtain ⟨j,hj,rfl⟩:=JY l e he;simp only [] at hq;omega)];rfl
theorem TH (D:Dev) (i:Nat) (s:ByteArray) (hl:okW D [(i,s)]) (j:Nat):(BL D [(i,s)]).at j=if j=i then s else D.at j:=by
 rw [Ft _ _ hl];show ((if j=i then some s else none:Option ByteArray)).getD _=_;by_cases h:j=i<;>simp [h]

def ph1 (D:Dev) (l:Wl):Dev:=BL D (CU l)
def ph2 (D:Dev) (l:Wl) (v:U32):Dev:=BL (ph1 D l) [(33,FS l v)]
def ph3 (D:Dev) (l:Wl) (v:U32):Dev:=BL (ph2 D l v) l
def ph4 (D:Dev) (l:Wl) (v:U32):Dev:=BL (ph3 D l v) [(33,blankR)]
theorem Fd {D:Dev} (h:131<=D.st.length) (s:ByteArray) (hs:s.size=140):okW D [(33,s)]:=λe he=>by
 rw [fp.1 he];exact ⟨by show 33<_;omega,hs⟩
theorem KZ {D:Dev} {l:Wl} {v:U32} (hd:D.Ok) (h:Entries D.st.length l v):EndKept D (ph1 D l)/\EndKept (ph1 D l) (ph2 D l v)/\EndKept (ph2 D l v) (ph3 D l v)/\EndKept (ph3 D l v) (ph4 D l v):=by
 have k1:=C5 (CU l) D hd (I1 h);have b:=h.low;have k2:EndKept (ph1 D l) (ph2 D l v):=C5 _ (ph1 D l) k1.ok (Fd (by have:=k1.len;show 131<=(BL D (CU l)).st.length;omega) _ (BS ..));have a:okW (ph2 D l v) l:=λe he=>by rw [k2.len,show (ph1 D l).st.length=D.st.length from k1.len];exact h.lt e he
 have k3:EndKept (ph2 D l v) (ph3 D l v):=C5 l (ph2 D l v) k2.ok a;have k4:EndKept (ph3 D l v) (ph4 D l v):=C5 _ (ph3 D l v) k3.ok (Fd (by rw [k3.len,k2.len,show (ph1 D l).st.length=D.st.length from k1.len];omega) _ DW);exact ⟨k1,k2,k3,k4⟩
theorem JX {D:Dev} {l:Wl} {v:U32} (hd:D.Ok) (h:Entries D.st.length l v):(ph1 D l).st.length=D.st.length/\(ph2 D l v).st.length=D.st.length/\(ph3 D l v).st.length=D.st.length/\(ph4 D l v).st.length=D.st.length:=by
 obtain ⟨k1,k2,k3,k4⟩:=KZ hd h;exact ⟨k1.len,k2.len.trans k1.len,k3.len.trans (k2.len.trans k1.len),k4.len.trans (k3.len.trans (k2.len.trans k1.len))⟩
theorem NL {D:Dev} {l:Wl} {v:U32} {sy ep:Int} (h:Entries D.st.length l v) (hc:Calm D sy ep) (hf:D.fuse=none) (hp:D.pend=[]):Bk sy ep (Cv l v) D=(ph4 D l v,0):=by
 obtain ⟨k1,k2,k3,k4⟩:=KZ (v:=v) hc.ok h;obtain ⟨l1,l2,l3,l4⟩:=JX (v:=v) hc.ok h;have a:=h.low;have c1:=hc.kept k1;have c2:=c1.kept k2;have c3:=c2.kept k3;have r1:=EM sy ep (CU l) D hc hf hp (I1 h);have r2:=EM sy ep [(33,FS l v)] (ph1 D l) c1 (k1.fuse.trans hf) (k1.pend.trans hp) (Fd oo _ (BS ..));have r3:=EM sy ep l (ph2 D l v) c2 (k2.fuse.trans (k1.fuse.trans hf)) (k2.pend.trans (k1.pend.trans hp)) (λe he=>by rw [l2];exact h.lt e he);have r4:=EM sy ep [(33,blankR)] (ph3 D l v) c3 (k3.fuse.trans (k2.fuse.trans (k1.fuse.trans hf))) (k3.pend.trans (k2.pend.trans (k1.pend.trans hp))) (Fd oo _ DW);unfold Cv;rw [Gm,r1,if_pos rfl,Gm];rw [show BL D (CU l)=ph1 D l from rfl,r2,if_pos rfl,Gm];rw [show BL (ph1 D l) [(33,FS l v)]=ph2 D l v from rfl,r3,if_pos rfl];rw [show BL (ph2 D l v) l=ph3 D l v from rfl,r4];rfl
theorem Ys {D:Dev} {l:Wl} {v:U32} (h:Entries D.st.length l v) (i:Nat):(ph1 D l).at i=if h:34<=i/\i<34+l.length then (l[i - 34]'oo).2 else D.at i:=Y6 D l (I1 h) i
theorem Zx {D:Dev} {l:Wl} {v:U32} (hd:D.Ok) (h:Entries D.st.length l v) (i:Nat):(ph2 D l v).at i=if i=33 then FS l v else (ph1 D l).at i:=by
 obtain ⟨l1,_⟩:=JX (v:=v) hd h;have a:=h.low;exact TH (ph1 D l) 33 _ (Fd oo _ (BS ..)) i
theorem Ym {D:Dev} {l:Wl} {v:U32} (hd:D.Ok) (h:Entries D.st.length l v) (i:Nat):(ph3 D l v).at i=(Ad l i).getD ((ph2 D l v).at i):=by
 obtain ⟨_,l2,_⟩:=JX (v:=v) hd h;exact Ft l _ (λe he=>by rw [l2];exact h.lt e he) i
theorem Px {D:Dev} {l:Wl} {v:U32} (hd:D.Ok) (h:Entries D.st.length l v) (i:Nat):(ph4 D l v).at i=if i=33 then blankR else (ph3 D l v).at i:=by
 obtain ⟨_,_,l3,_⟩:=JX (v:=v) hd h;have a:=h.low;exact TH (ph3 D l v) 33 _ (Fd oo _ DW) i
theorem Vv {D:Dev} {l:Wl} {v:U32} (hd:D.Ok) (h:Entries D.st.length l v) (i:Nat) (hi:i<=32\/131<=i):(ph4 D l v).at i=(Ad l i).getD (D.at i):=by
 have a:=h.lim;rw [Px hd h,if_neg oo,Ym hd h,Zx hd h,if_neg oo,Ys h,dif_neg oo]
structure Takes (I:Img) (ws:Wl):Prop where
 lt:∀e∈ws,e.1<I.n/\e.2.size=128
 asc:ws.Pairwise λa b=>a.1<b.1
 pos:1<=ws.length
 lim:ws.length<=64
 room:I.N+1<4294967296
def ksW (ws:Wl):List Nat:=(List.range 32).filter λk=>ws.any λe=>e.1 / 32==k
def Img.upd (I:Img) (ws:Wl):Img where
 n:=I.n
 N:=I.N+1
 ms:=λk=>if (ws.any λe=>e.1 / 32==k)=true then I.N+1 else I.ms k
 vs:=λi=>if (Ad ws i).isSome=true then I.N+1 else I.vs i
 cs:=λi=>(Ad ws i).getD (I.cs i)
def En (J:Img) (ws:Wl):Wl:=(0,J.topR)::((ksW ws).map (λk=>(1+k,J.mapR k))++ws.map λe=>(131+e.1,J.datR e.1))
theorem Br (ws:Wl) (k:Nat):k∈ksW ws↔k<32/\∃e∈ws,e.1 / 32=k:=by
 unfold ksW;rw [iM,gU,jD];simp
theorem XO (ws:Wl):(ksW ws).Nodup:=nodup_range.filter _
theorem cW (ws:Wl):(ksW ws).length<=32:=by
 unfold ksW;refine fx (jC _ _) ?_;simp
theorem Lx {I:Img} {ws:Wl} (h:Takes I ws):(ws.map (·.1)).Nodup:=by
 rw [Nodup,jL];exact h.asc.imp (λ{a b} hab=>oo)
theorem Np {I:Img} {ws:Wl} (h:Takes I ws) (J:Img):((En J ws).map (·.1)).Nodup:=by
 unfold En;rw [map_cons,fz,iq,iq,nodup_cons];refine ⟨?_,iZ.2 ⟨?_,?_,?_⟩⟩
 . intro hm;rcases gC.1 hm with hm | hm
   . obtain ⟨k,_,hk⟩:=ft.1 hm;simp only [Function.comp] at hk;omega
   . obtain ⟨e,_,he⟩:=ft.1 hm;simp only [Function.comp] at he;omega
 . rw [Nodup,jL];exact (XO ws).imp (λ{a b} hab he=>hab (by simp only [Function.comp] at he;omega))
 . rw [Nodup,jL];exact h.asc.imp (λ{a b} hab he=>by simp only [Function.comp] at he;omega)
 . intro a ha b hb e;obtain ⟨k,hk,rfl⟩:=ft.1 ha;obtain ⟨x,_,rfl⟩:=ft.1 hb;have:=((Br ws k).1 hk).1;simp only [Function.comp] at e;omega
theorem Qp {I:Img} {ws:Wl} (hI:I.Ok) (h:Takes I ws):Entries (131+I.n) (En (I.upd ws) ws) (nv (I.N+1)):=by
 refine ⟨?_,?_,by simp [En],?_,Np h _,by have:=hI.n1;omega,oo⟩
 . intro e he;unfold En at he;rcases ia.1 he with rfl | he
   . exact ⟨_,rfl⟩
   rcases gC.1 he with he | he
   . obtain ⟨k,hk,rfl⟩:=ft.1 he;obtain ⟨_,x,hx,a⟩:=(Br ws k).1 hk;refine ⟨AI ((I.upd ws).mapL k),?_⟩;unfold Img.mapR;rw [show (I.upd ws).ms k=I.N+1 from if_pos (jD.2 ⟨x,hx,by simpa using a⟩)]
   . obtain ⟨x,hx,rfl⟩:=ft.1 he;refine ⟨(I.upd ws).cs x.1,?_⟩;unfold Img.datR;rw [show (I.upd ws).vs x.1=I.N+1 from if_pos (by rw [Et ws (Lx h) x hx];rfl)]
 . intro e he;unfold En at he;rcases ia.1 he with rfl | he
   . left;show 0<=32;omega
   rcases gC.1 he with he | he
   . obtain ⟨k,hk,rfl⟩:=ft.1 he;have:=((Br ws k).1 hk).1;left;show 1+k<=32;omega
   . obtain ⟨x,hx,rfl⟩:=ft.1 he;have:=(h.lt x hx).1;right;show 131<=131+x.1/\131+x.1<131+I.n;omega
 . have h1:=cW ws;have h2:=h.lim;unfold En;rw [iY,gK,fm,fm];omega
theorem Zw {I:Img} {ws:Wl} (hI:I.Ok) (h:Takes I ws):(I.upd ws).Ok:=by
 refine ⟨hI.n0,hI.n1,h.room,λk=>?_,λi=>?_,λi hi=>?_⟩
 . have h1:=hI.ms k;unfold Img.upd;simp only [];split
   . exact fk _
   . exact Nat.le_succ_of_le h1
 . have h1:=hI.vs i;unfold Img.upd;simp only [];split
   . exact fk _
   . exact Nat.le_succ_of_le h1
 . show ((Ad ws i).getD (I.cs i)).size=128;cases hl:Ad ws i with
   | none=>exact hI.cs i hi
   | some s=>
     have:∀(l:Wl) (i:Nat) (s:ByteArray),Ad l i=some s->∃e∈l,e.1=i/\e.2=s:=by
      intro l
      induction l with
      | nil=>intro i s h;cases h
      | cons x l ih=>
        intro i s h;have hE:Ad (x::l) i=match Ad l i with
         | some s=>some s
         | none=>if i=x.1 then some x.2 else none:=rfl
        rw [hE] at h;cases h2:Ad l i with
        | some t=>
          rw [h2] at h;obtain ⟨e,he,h3,h4⟩:=ih i t h2;injection h with h;exact ⟨e,gM _ he,h3,h4.trans h⟩
        | none=>
          rw [h2] at h;simp only [] at h;split at h
          . rename_i hi;injection h with h;exact ⟨x,gS ..,hi.symm,h⟩
          . cases h
     obtain ⟨e,he,_,rfl⟩:=this ws i s hl;exact (h.lt e he).2
structure UpdAt (I:Img) (ws:Wl):Prop where
 top:Ad (En (I.upd ws) ws) 0=some (I.upd ws).topR
 map:∀k∈ksW ws,Ad (En (I.upd ws) ws) (1+k)=some ((I.upd ws).mapR k)
 mapN:∀k,k<32->k ∉ ksW ws->Ad (En (I.upd ws) ws) (1+k)=none/\(I.upd ws).mapR k=I.mapR k/\(I.upd ws).ms k=I.ms k
 dat:∀e∈ws,Ad (En (I.upd ws) ws) (131+e.1)=some ((I.upd ws).datR e.1)
 datN:∀i,(∀e∈ws,e.1≠i)->Ad (En (I.upd ws) ws) (131+i)=none/\(I.upd ws).datR i=I.datR i/\(I.upd ws).vs i=I.vs i
theorem YU {I:Img} {ws:Wl} (ht:Takes I ws):UpdAt I ws:=by
 have c:=Np ht (I.upd ws);have b:∀e∈En (I.upd ws) ws,Ad (En (I.upd ws) ws) e.1=some e.2:=λe he=>Et _ c e he;refine ⟨b (0,(I.upd ws).topR) (gS ..),λk hin=>b (1+k,(I.upd ws).mapR k) (gM _ (iH _ (ft.2 ⟨k,hin,rfl⟩))),λk hk hin=>?_,λe he=>b (131+e.1,(I.upd ws).datR e.1) (gM _ (gw _ (ft.2 ⟨e,he,rfl⟩))),λi a=>?_⟩
 . have a:∀e∈ws,e.1 / 32≠k:=λe he hq=>hin ((Br ws k).2 ⟨hk,e,he,hq⟩)
   have hm:(I.upd ws).ms k=I.ms k:=if_neg (by
    rw [jD]
    rintro ⟨e,he,hq⟩
    exact a e he (by simpa using hq))
   have hv:(I.upd ws).mapL k=I.mapL k:=by
    unfold Img.mapL;apply iE;intro j hj;have d:=gU.1 hj;congr 1;unfold Img.mv;show (if 32*k+j<I.n then (if (Ad ws (32*k+j)).isSome=true then I.N+1 else I.vs (32*k+j)) else 0)=_;rw [B7 ws _ (λe he hq=>a e he oo)];rfl
   refine ⟨B7 _ _ (λe he hq=>?_),by unfold Img.mapR;rw [hm,hv],hm⟩;unfold En at he;rcases ia.1 he with rfl | he
   . simp only [] at hq;omega
   rcases gC.1 he with he | he
   . obtain ⟨j,hj,rfl⟩:=ft.1 he;simp only [] at hq;have:j=k:=oo;subst this;exact hin hj
   . obtain ⟨x,_,rfl⟩:=ft.1 he;simp only [] at hq;omega
 . have hv:(I.upd ws).vs i=I.vs i:=if_neg (by rw [B7 ws i a];simp);refine ⟨B7 _ _ (λe he hq=>?_),by unfold Img.datR;rw [show (I.upd ws).cs i=I.cs i from by show (Ad ws i).getD _=_;rw [B7 ws i a];rfl,hv],hv⟩;unfold En at he;rcases ia.1 he with rfl | he
   . simp only [] at hq;omega
   rcases gC.1 he with he | he
   . obtain ⟨j,hj,rfl⟩:=ft.1 he;have:=((Br ws j).1 hj).1;simp only [] at hq;omega
   . obtain ⟨x,hx,rfl⟩:=ft.1 he;simp only [] at hq;exact a x hx oo
theorem YK {D:Dev} {I:Img} {ws:Wl} (h:Holds D I) (ht:Takes I ws) (E:Dev) (hE:E.Ok) (c:E.st.length=D.st.length) (d:E.failed=false) (f:E.pend=[])
 (b:∀i,(i<=32\/131<=i)->E.at i=(Ad (En (I.upd ws) ws) i).getD (D.at i)):Holds E (I.upd ws):=by
 have hu:=YU ht;refine ⟨hE,Zw h.img ht,c.trans h.len,d,f,?_,λk hk=>?_,λi hi=>?_⟩
 . rw [b 0 oo,hu.top];rfl
 . rw [b (1+k) oo];by_cases a:k∈ksW ws
   . rw [hu.map k a];rfl
   . obtain ⟨h1,h2,_⟩:=hu.mapN k hk a;rw [h1,h2];exact h.map k hk
 . rw [b (131+i) oo];by_cases a:∃e∈ws,e.1=i
   . obtain ⟨e,he,rfl⟩:=a;rw [hu.dat e he];rfl
   . obtain ⟨h1,h2,_⟩:=hu.datN i (λe he hq=>a ⟨e,he,hq⟩);rw [h1,h2];exact h.dat i hi
theorem J6 {D:Dev} {I:Img} {ws:Wl} {sy ep:Int} (h:Clean D I) (ht:Takes I ws) (hc:Calm D sy ep) (hf:D.fuse=none):
 Bk sy ep (Cv (En (I.upd ws) ws) (nv (I.N+1))) D=(ph4 D (En (I.upd ws) ws) (nv (I.N+1)),0)/\Clean (ph4 D (En (I.upd ws) ws) (nv (I.N+1))) (I.upd ws)/\
  (ph4 D (En (I.upd ws) ws) (nv (I.N+1))).fen=D.fen/\(ph4 D (En (I.upd ws) ws) (nv (I.N+1))).fuse=none:=by
 have he:=Qp h.img ht;rw [<-h.len] at he;obtain ⟨k1,k2,k3,k4⟩:=KZ h.ok he;have a:=(JX h.ok he).2.2.2;have b:(ph4 D (En (I.upd ws) ws) (nv (I.N+1))).pend=[]:=k4.pend.trans (k3.pend.trans (k2.pend.trans (k1.pend.trans h.pend)));refine ⟨NL he hc hf h.pend,⟨YK h.toHolds ht _ k4.ok a (k4.failed.trans (k3.failed.trans (k2.failed.trans (k1.failed.trans h.live)))) b (λi hi=>Vv h.ok he i hi),?_⟩,k4.fen.trans (k3.fen.trans (k2.fen.trans k1.fen)),k4.fuse.trans (k3.fuse.trans (k2.fuse.trans (k1.fuse.trans hf)))⟩;rw [Px h.ok he,if_pos rfl]

def IG (D:Dev) (sy ep:Int):Bool:=decide (132<=D.st.length/\D.st.length<=1155) && DA sy ep
def Ke (n:Nat):Img:=⟨n,1,λ_=>1,λ_=>1,λ_=>Ay 128⟩
def Dt:ByteArray:=⟨#[]⟩
def GA (n k:Nat):List U32:=(List.range 32).map λj=>if 32*k+j<n then nv 1 else nv 0
def FX (n:Nat):Wl:=((List.range n).map λi=>(131+i,Ao Dt (nv 1) (131+i:Nat)))++(((List.range 32).map λk=>(1+k,Ao (AI (GA n k)) (nv 1) (1+k:Nat)))++[(0,Ao (AI ((List.range 32).map λ_=>nv 1)) (nv 1) 0),(33,blankR)])
def GW (D:Dev) (sy ep:Int):Dev × Int:=if IG D sy ep=false then (D,1) else Bk sy ep (puts (FX (D.st.length - 131))++[.sync]) D
def Qy (D:Dev) (sy ep:Int):Dev × Int:=
 if IG D sy ep=false then (D,1) else if (finD D sy ep).2.2≠0 then ((finD D sy ep).1,(finD D sy ep).2.2) else if (topI (finD D sy ep).1).ok=false then ((finD D sy ep).1,11) else ((finD D sy ep).1,0)
def Lt (D:Dev) (sy ep:Int) (i:Int):Dev × ByteArray × Int:=
 if (finD D sy ep).2.2≠0 then ((finD D sy ep).1,Dt,(finD D sy ep).2.2)
 else if i<0\/(D.st.length:Int) - 131<=i then ((finD D sy ep).1,Dt,2)
 else ((finD D sy ep).1,if (C4 (finD D sy ep).1 i.toNat).2=0 then (C4 (finD D sy ep).1 i.toNat).1 else Dt,(C4 (finD D sy ep).1 i.toNat).2)
def AU (n:Nat) (ws:List (Int × ByteArray)):Int:=
 if (ws.any λe=>decide (e.2.size≠128))=true\/¬(ws.map (·.1)).Nodup then 1 else if (ws.any λe=>decide (e.1<0\/(n:Int)<=e.1))=true then 2 else if 64<ws.length then 8 else 0
def B3 (n:Nat) (ws:List (Int × ByteArray)):Wl:=(List.range n).filterMap λ(i:Nat)=>(ws.find? λe=>e.1==(i:Int)).map λe=>(i,e.2)
def Ea (E:Dev):List Nat->Int
 | []=>0
 | k::l=>if (mapI E k).ok=false then 11 else if (mapI E k).ver≠fld (topI E).data k then 12 else Ea E l
def GM (E:Dev) (S:Wl) (v:U32):List U32:=(List.range 32).map λk=>if (S.any λe=>e.1 / 32==k)=true then v else fld (topI E).data k
def E6 (E:Dev) (S:Wl) (v:U32) (k:Nat):List U32:=(List.range 32).map λj=>if (Ad S (32*k+j)).isSome=true then v else fld (mapI E k).data j
def Hm (E:Dev) (S:Wl) (v:U32):Wl:=(0,Ao (AI (GM E S v)) v 0)::((ksW S).map (λk=>(1+k,Ao (AI (E6 E S v k)) v (1+k:Nat)))++S.map λe=>(131+e.1,Ao e.2 v (131+e.1:Nat)))
def Ak (D:Dev) (sy ep:Int) (ws:List (Int × ByteArray)):Dev × Int:=
 if (finD D sy ep).2.2≠0 then ((finD D sy ep).1,(finD D sy ep).2.2)
 else if AU (D.st.length - 131) ws≠0\/ws=[] then ((finD D sy ep).1,AU (D.st.length - 131) ws)
 else if (topI (finD D sy ep).1).ok=false then ((finD D sy ep).1,11)
 else if Ea (finD D sy ep).1 (ksW (B3 (D.st.length - 131) ws))≠0 then ((finD D sy ep).1,Ea (finD D sy ep).1 (ksW (B3 (D.st.length - 131) ws)))
 else if (topI (finD D sy ep).1).ver=4294967295#32 then ((finD D sy ep).1,8)
 else Bk sy ep (Cv (Hm (finD D sy ep).1 (B3 (D.st.length - 131) ws) ((topI (finD D sy ep).1).ver+1#32)) ((topI (finD D sy ep).1).ver+1#32)) (finD D sy ep).1
theorem dataS_empty:BE Dt=Ay 128:=by decide+kernel
theorem Xv {d d':ByteArray} (h:BE d=BE d') (v:U32) (i:Int):Ao d v i=Ao d' v i:=by unfold Ao Ia;rw [h]
theorem QH (N:Nat):nv N+1#32=nv (N+1):=by
 unfold nv;rw [<-BitVec.ofNat_add]
theorem Rn (n:Nat):((FX n).map (·.1)).Nodup:=by
 unfold FX;rw [fz,fz,iq,iq];refine iZ.2 ⟨?_,iZ.2 ⟨?_,qs,?_⟩,?_⟩
 . rw [Nodup,jL];exact nodup_range.imp (λ{a b} hab he=>hab (by simp only [Function.comp] at he;omega))
 . rw [Nodup,jL];exact nodup_range.imp (λ{a b} hab he=>hab (by simp only [Function.comp] at he;omega))
 . intro a ha b hb e;obtain ⟨k,hk,rfl⟩:=ft.1 ha;have:=gU.1 hk;simp only [Function.comp] at e;simp at hb;omega
 . intro a ha b hb e;obtain ⟨k,hk,rfl⟩:=ft.1 ha;simp only [Function.comp] at e;rcases gC.1 hb with hb | hb
   . obtain ⟨j,hj,rfl⟩:=ft.1 hb;have:=gU.1 hj;simp only [Function.comp] at e;omega
   . simp at hb;omega
theorem ZY {D:Dev} {n:Nat} (h:D.st.length=131+n):okW D (FX n):=by
 intro e he;unfold FX at he;rcases gC.1 he with he | he
 . obtain ⟨i,hi,rfl⟩:=ft.1 he;have:=gU.1 hi;exact ⟨by show 131+i<_;omega,BS ..⟩
 rcases gC.1 he with he | he
 . obtain ⟨k,hk,rfl⟩:=ft.1 he;have:=gU.1 hk;exact ⟨by show 1+k<_;omega,BS ..⟩
 . simp only [ia,not_mem_nil,or_false] at he;rcases he with rfl | rfl
   . exact ⟨by show 0<_;omega,BS ..⟩
   . exact ⟨by show 33<_;omega,DW⟩
theorem QC {D:Dev} {sy ep:Int} {n:Nat} (hc:Calm D sy ep) (hf:D.fuse=none) (hp:D.pend=[]) (hl:D.st.length=131+n) (h1:1<=n) (h2:n<=1024):
 ∃E,GW D sy ep=(E,0)/\Clean E (Ke n)/\E.fen=D.fen/\E.fuse=none:=by
 have ho:=ZY hl;have k:=C5 (FX n) D hc.ok ho
 have hm:∀e∈FX n,(BL D (FX n)).at e.1=e.2:=λe he=>by
  rw [Ft _ _ ho,Et _ (Rn n) e he];rfl
 refine ⟨BL D (FX n),?_,⟨⟨k.ok,⟨h1,h2,by show 1<_;omega,λ_=>fk _,λ_=>fk _,λ_ _=>C7 128⟩,k.len.trans hl,k.failed.trans hc.live,k.pend.trans hp,?_,λj hj=>?_,λi hi=>?_⟩,?_⟩,k.fen,k.fuse.trans hf⟩
 . unfold GW IG;rw [hc.plain,gD ⟨oo,oo⟩,if_neg qs,hl,show 131+n - 131=n from oo];exact EM sy ep _ D hc hf hp ho
 . have e0:(Ke n).topR=Ao (AI ((List.range 32).map λ_=>nv 1)) (nv 1) 0:=by
    unfold Img.topR Img.tops;rfl
   rw [e0];exact hm (0,Ao (AI ((List.range 32).map λ_=>nv 1)) (nv 1) 0) (gw _ (gw _ (gS ..)))
 . refine (hm (1+j,Ao (AI (GA n j)) (nv 1) (1+j:Nat)) (gw _ (iH _ (ft.2 ⟨j,gU.2 hj,rfl⟩)))).trans ?_
   have e1:(Ke n).mapL j=GA n j:=by
    unfold Img.mapL GA;apply iE;intro x _;unfold Img.mv;show nv (if 32*j+x<n then 1 else 0)=(if 32*j+x<n then nv 1 else nv 0);split<;>rfl
   unfold Img.mapR;rw [e1];rfl
 . refine (hm (131+i,Ao Dt (nv 1) (131+i:Nat)) (iH _ (ft.2 ⟨i,gU.2 hi,rfl⟩))).trans ?_;unfold Img.datR;have e2:BE Dt=BE ((Ke n).cs i):=dataS_empty.trans (Hw _ (C7 128)).symm;rw [Xv e2];rfl
 . exact hm (33,blankR) (gw _ (gw _ (gM _ (gS ..))))
theorem Ww {E:Dev} {I:Img} (h:topI E=⟨AI I.tops,nv I.N,true⟩) (S:Wl):GM E S (nv (I.N+1))=(I.upd S).tops:=by
 unfold GM Img.tops;apply iE;intro k hk;have a:=gU.1 hk;rw [h];show (if _ then _ else fld (AI I.tops) k)=nv (if _ then I.N+1 else I.ms k);unfold Img.tops;rw [ME _ _ a];split<;>rfl
theorem WJ {E:Dev} {I:Img} {S:Wl} (k:Nat) (h:mapI E k=⟨AI (I.mapL k),nv (I.ms k),true⟩) (ht:Takes I S):E6 E S (nv (I.N+1)) k=(I.upd S).mapL k:=by
 unfold E6 Img.mapL;apply iE;intro j hj;have a:=gU.1 hj;rw [h];show (if _ then _ else fld (AI (I.mapL k)) j)=_;unfold Img.mapL;rw [ME _ _ a];unfold Img.mv;show _=nv (if 32*k+j<I.n then (if (Ad S (32*k+j)).isSome=true then I.N+1 else I.vs (32*k+j)) else 0);by_cases hs:(Ad S (32*k+j)).isSome=true
 . rw [if_pos hs,if_pos hs]
   have b:32*k+j<I.n:=by
    rcases iQ (32*k+j) I.n with h9 | h9
    . exact h9
    . rw [B7 S _ (λe he hq=>by have:=(ht.lt e he).1;omega)] at hs;cases hs
   rw [if_pos b]
 . rw [if_neg hs,if_neg hs]
theorem Vy {E:Dev} {I:Img} {S:Wl} (h:topI E=⟨AI I.tops,nv I.N,true⟩) (a:∀k∈ksW S,mapI E k=⟨AI (I.mapL k),nv (I.ms k),true⟩) (ht:Takes I S):Hm E S (nv (I.N+1))=En (I.upd S) S:=by
 unfold Hm En;rw [Ww h S]
 have e1:(ksW S).map (λk=>(1+k,Ao (AI (E6 E S (nv (I.N+1)) k)) (nv (I.N+1)) (1+k:Nat)))=(ksW S).map (λk=>(1+k,(I.upd S).mapR k)):=by
  apply iE;intro k hk;obtain ⟨c,x,hx,b⟩:=(Br S k).1 hk;have hm:(I.upd S).ms k=I.N+1:=if_pos (jD.2 ⟨x,hx,by simpa using b⟩);unfold Img.mapR;rw [WJ k (a k hk) ht,hm]
 have e2:S.map (λe=>(131+e.1,Ao e.2 (nv (I.N+1)) (131+e.1:Nat)))=S.map (λe=>(131+e.1,(I.upd S).datR e.1)):=by
  apply iE;intro e he;have hl:=Et S (Lx ht) e he;have hc:(I.upd S).cs e.1=e.2:=by show (Ad S e.1).getD _=_;rw [hl];rfl
  have hv:(I.upd S).vs e.1=I.N+1:=if_pos (by rw [hl];rfl);unfold Img.datR;rw [hc,hv]
 rw [e1,e2];rfl
theorem Vx {E:Dev} {I:Img} {S:Wl} (h:Holds E I) (ht:Takes I S):Hm E S (nv (I.N+1))=En (I.upd S) S:=Vy h.topI (λk hk=>h.mapI k ((Br S k).1 hk).1) ht
theorem RM {E:Dev} {I:Img} (h:Holds E I):∀l:List Nat,(∀k∈l,k<32)->Ea E l=0:=by
 intro l
 induction l with
 | nil=>intro _;rfl
 | cons k l ih=>
   intro hl;have hk:=hl k (gS ..);unfold Ea;rw [h.mapI k hk,h.topI,if_neg qs,if_neg,ih (λx hx=>hl x (gM _ hx))];intro hc;apply hc;show nv (I.ms k)=fld (AI I.tops) k;unfold Img.tops;rw [ME _ _ hk]

end
section
attribute [local go_sem ↓] Go.wp_at_zero Go.wp_at_succ
open Go.RowKit
def Mz (t:ByteArray) (i:Int):Value:=.agg #[.string t,.string (AJ t i).data,.int .u32 (u32 (AJ t i).ver),.bool (AJ t i).ok]
abbrev ptrV (s:Nat):Value:=.pointer (some ⟨s,0,none⟩)
def Cs (x:Nat) (sy ep:Int) (m:Nat):Array Value:=#[ptrV x,.int .i64 sy,.int .i64 ep,.map (some m)]
structure StoreM (W:World) (s m x:Nat) (sy ep:Int):Prop where
 blk:Blk W s 268 (Cs x sy ep m)
 seen:∃F,MapI W m F/\∀i v,F i=some v->∃t:ByteArray,t.size<=200/\v=Mz t i
theorem StoreM.ne {W:World} {s m x:Nat} {sy ep:Int} (h:StoreM W s m x sy ep):¬s=m:=by
 obtain ⟨F,hF,_⟩:=h.seen;exact Cd h.blk hF
theorem StoreM.lt {W:World} {s m x:Nat} {sy ep:Int} (h:StoreM W s m x sy ep):s<W.heap.size/\m<W.heap.size:=by
 obtain ⟨F,hF,_⟩:=h.seen;exact ⟨h.blk.lt,hF.lt⟩
theorem StoreM.kept {W W':World} {s m x:Nat} {sy ep:Int} (h:StoreM W s m x sy ep) {S:Nat->Prop} (ht:Turned S W W') (h1:¬S s) (h2:¬S m):StoreM W' s m x sy ep:=by
 obtain ⟨F,hF,hv⟩:=h.seen;exact ⟨h.blk.turned ht h1,F,hF.turned ht h2,hv⟩
theorem StoreM.grew {W W':World} {s m x:Nat} {sy ep:Int} (h:StoreM W s m x sy ep) (hg:Grew W W'):StoreM W' s m x sy ep:=h.kept (hg.turned (λ_=>False)) (λh=>h) (λh=>h)
def PutAt (W:World) (lo s:Nat) (i:Int) (raw:ByteArray) (v:Value):Prop:=
 ∃a b c,v=.func (.func 182) #[] #[ptrV a,ptrV b,ptrV c]/\lo<=a/\lo<=b/\lo<=c/\Blk W a 110 #[ptrV s]/\Blk W b 3 #[.int .i64 i]/\Blk W c 9 #[.string raw]
theorem JD (s:Nat) (i:Int) (a:ByteArray) (w:World):Calls Tryz.prog 112 #[ptrV s,.int .i64 i,.string a] w λe w'=>∃v,e=.returned v/\PutAt w' w.heap.size s i a v/\Grew w w':=by
 have b:=((fy w 110 #[ptrV s] rfl).alloc (.cells #[.int .i64 i] 3)).alloc (.cells #[.string a] 9);have c:=(fy (w.alloc (.cells #[ptrV s] 110)) 3 #[.int .i64 i] (n:=w.heap.size+1) qs).alloc (.cells #[.string a] 9);have d:=fy ((w.alloc (.cells #[ptrV s] 110)).alloc (.cells #[.int .i64 i] 3)) 9 #[.string a] (n:=w.heap.size+1+1) qs;have HB:=zh (⟨b,c,d⟩:_/\_/\_);have HG:=zh ((((fh w).alloc (.cells #[ptrV s] 110)).alloc (.cells #[.int .i64 i] 3)).alloc (.cells #[.string a] 9));clear b c d;go_enter Tryz.func112,Tryz.ntmps112;go_wp2_with fail;go_ret;exact ⟨_,rfl,⟨_,_,_,rfl,oo,oo,oo,HB.1,HB.2.1,HB.2.2⟩,HG⟩
section
variable {w0:World} {x s m:Nat} {sy ep:Int} {D:Dev} {out:Nat->Prop} {W:World} (hL:Live w0 x D out W) (hb:Blk W s 268 (Cs x sy ep m)) (hp:D.pend.length<=999999)
include hL hb hp
theorem ZJ (i:Int) (f:ByteArray) (hr:f.size<=9223372036854775807) (a b c:Nat) (ha:Blk W a 110 #[ptrV s]) (h:Blk W b 3 #[.int .i64 i]) (hc:Blk W c 9 #[.string f]):
 Calls Tryz.prog 182 #[ptrV a,ptrV b,ptrV c] W λe w'=>e=.returned (.int .i64 (BN D sy ep i f).2)/\Live w0 x (BN D sy ep i f).1 out w'/\Beside w0 out W w':=by
 have HW:=zh (Nn (hL.grew (fh W).drew) sy ep i f hp hr);clear hL hp;go_enter Tryz.func182,Tryz.ntmps182;go_wp2_with fail;refine wp_region_still_tail 10 qk qk ?_;simp only [take_succ_cons,take_zero,drop_succ_cons,drop_zero];change wpStill _ _ (World.drew W) (λa'=>wpList _ _ _ _ a' (World.drew W)) _ _;obtain ⟨w2,d⟩:∃w',w'=World.drew W:=⟨_,rfl⟩;rw [<-d];have g:Blk w2 s 268 (Cs x sy ep m):=by rw [d];exact hb.drew
 rw [<-d] at HW;have h1:=g.lt;have s0:=g.cell 0;have s1:=g.cell 1;have s2:=g.cell 2;have hB:Beside w0 out W w2:=by rw [d];exact ((fh W).drew).turned _
 have a0:w2.cell? ⟨a,0,none⟩=some (ptrV s):=by rw [d];exact ha.drew.cell 0
 have b0:w2.cell? ⟨b,0,none⟩=some (.int .i64 i):=by rw [d];exact h.drew.cell 0
 have c0:w2.cell? ⟨c,0,none⟩=some (.string f):=by rw [d];exact hc.drew.cell 0
 have la:a<w2.heap.size:=by rw [d];exact ha.drew.lt
 have lb:b<w2.heap.size:=by rw [d];exact h.drew.lt
 have lc:c<w2.heap.size:=by rw [d];exact hc.drew.lt
 have HB:=zh hB;clear d g ha h hc hb hB;unfold Cs at s0 s1 s2
 repeat still_step
 refine wpStill_nil ?_;go_wp2_with fail;refine HW.mono ?_;rintro e w3 ⟨rfl,j,k⟩;go_wp2_with fail;go_ret;exact ⟨rfl,j,HB.out.trans k⟩
theorem WB:Calls Tryz.prog 115 #[ptrV s] W λe w'=>e=.returned (.int .i64 (Ci D sy ep).2)/\Live w0 x (Ci D sy ep).1 out w'/\Beside w0 out W w':=by
 have HW:=zh (Xe (hL.grew (fh W).drew) sy ep oo);clear hL hp;go_enter Tryz.func115,Tryz.ntmps115;go_wp2_with fail;refine wp_region_still_tail 8 qk qk ?_;simp only [take_succ_cons,take_zero,drop_succ_cons,drop_zero];change wpStill _ _ (World.drew W) (λa'=>wpList _ _ _ _ a' (World.drew W)) _ _;obtain ⟨w2,b⟩:∃w',w'=World.drew W:=⟨_,rfl⟩;rw [<-b];have a:Blk w2 s 268 (Cs x sy ep m):=by rw [b];exact hb.drew
 rw [<-b] at HW;have h1:=a.lt;have s0:=a.cell 0;have s1:=a.cell 1;have s2:=a.cell 2;have hB:Beside w0 out W w2:=by rw [b];exact ((fh W).drew).turned _
 have HB:=zh hB;clear b a hb hB;unfold Cs at s0 s1 s2
 repeat still_step
 refine wpStill_nil ?_;go_wp2_with fail;refine HW.mono ?_;rintro e w3 ⟨rfl,c,d⟩;go_wp2_with fail;go_ret;exact ⟨rfl,c,HB.out.trans d⟩
theorem XJ:Calls Tryz.prog 143 #[ptrV s] W λe w'=>e=.returned (.int .i64 (BN D sy ep 33 blankR).2)/\Live w0 x (BN D sy ep 33 blankR).1 out w'/\Beside w0 out W w':=by
 have HW:=zh (λw9 (hg:Grew W w9)=>Nn (hL.grew hg) sy ep 33 blankR hp (by rw [DW];omega));clear hL hp;go_enter Tryz.func143,Tryz.ntmps143;go_wp2_with fail;refine AB [10] (λw':World=>w'.cell? ⟨s,0,none⟩=some (ptrV x)/\w'.cell? ⟨s,1,none⟩=some (.int .i64 sy)/\w'.cell? ⟨s,2,none⟩=some (.int .i64 ep)/\s<w'.heap.size) qk ?_;have hS:=(show (λw':World=>w'.cell? ⟨s,0,none⟩=some (ptrV x)/\w'.cell? ⟨s,1,none⟩=some (.int .i64 sy)/\w'.cell? ⟨s,2,none⟩=some (.int .i64 ep)/\s<w'.heap.size) W.drew from ⟨hb.drew.cell 0,hb.drew.cell 1,hb.drew.cell 2,hb.drew.lt⟩);refine tQ 0 3 ?_;refine tT 1 (some 4) hS ?_;refine tQ 2 5 ?_;refine tT 3 (some 6) hS ?_;refine tQ 4 7 ?_;refine tT 5 (some 8) hS ?_;refine tQ 6 9 ?_;refine tT 7 (some 10) hS ?_;clear hS;have d:(Instr.makeSlice 169 (.int .i64 140) (.int .i64 140)).run Tryz.prog W.drew=_:=H6 W.drew 140 oo;have c:Blk (W.alloc (.cells (BC (Ay 140)) 5)).drew W.heap.size 5 (BC (Ay 140)):=(fy W _ _ rfl).drew;have b:Grew W (W.alloc (.cells (BC (Ay 140)) 5)).drew:=((fh W).alloc _).drew;have f:(convert 169 9 (.slice (some ⟨W.heap.size,0,none⟩) 140 140)).run Tryz.prog (W.alloc (.cells (BC (Ay 140)) 5)).drew=.ok (.string blankR) (W.alloc (.cells (BC (Ay 140)) 5)).drew:=EC _ _ 140 (Ay 140) (C7 140) c;have a:=hb.grew b;have g:=zh (HW _ b);have HG:=zh b;clear c b;refine tO 8 λK' hK=>?_;go_wp2_with fail;refine hK.out _ _ (.inr (λ_=>⟨a.cell 0,a.cell 1,a.cell 2,a.lt⟩)) ?_;clear hK;refine tO 9 λK' hK=>?_;go_wp2_with fail;refine hK.out _ _ (.inr (λ_=>⟨a.cell 0,a.cell 1,a.cell 2,a.lt⟩)) ?_;clear hK f d;refine tO 10 λK' hK=>?_;go_wp2_with fail;refine g.mono ?_;rintro e w3 ⟨rfl,h,i⟩;go_wp2_with fail;refine hK.out _ _ (.inl (by rfl)) ?_;clear hK;refine tQ 11 2 ?_;refine AA qk ?_ _;go_wp2_with fail;go_ret;exact ⟨rfl,h,(HG.turned _).trans i⟩
end

def Dh:List (Dev->Dev × Int)->Dev->Dev × Int
 | [],D=>(D,0)
 | f::l,D=>if (f D).2=0 then Dh l (f D).1 else f D
theorem YQ (a b:List (Dev->Dev × Int)):∀D,Dh (a++b) D=if (Dh a D).2=0 then Dh b (Dh a D).1 else Dh a D:=by
 induction a with
 | nil=>intro D;rfl
 | cons t a ih=>
   intro D;show (if (t D).2=0 then Dh (a++b) (t D).1 else t D)=_;by_cases h:(t D).2=0
   . rw [if_pos h,ih];show _=if (if (t D).2=0 then Dh a (t D).1 else t D).2=0 then Dh b (if (t D).2=0 then Dh a (t D).1 else t D).1 else (if (t D).2=0 then Dh a (t D).1 else t D);rw [if_pos h]
   . rw [if_neg h];show _=if (if (t D).2=0 then Dh a (t D).1 else t D).2=0 then Dh b (if (t D).2=0 then Dh a (t D).1 else t D).1 else (if (t D).2=0 then Dh a (t D).1 else t D);rw [if_neg h,if_neg h]
theorem UT (sy ep:Int) (l:List St):∀D,Dh (l.map λt D=>stD D sy ep t) D=Bk sy ep l D:=by
 induction l with
 | nil=>intro D;rfl
 | cons t l ih=>
   intro D;show (if (stD D sy ep t).2=0 then Dh (l.map λt D=>stD D sy ep t) (stD D sy ep t).1 else stD D sy ep t)=(if (stD D sy ep t).2=0 then Bk sy ep l (stD D sy ep t).1 else stD D sy ep t);rw [ih]
theorem We (fs:List (Dev->Dev × Int)) (k:Nat) (hk:k<fs.length) (D:Dev):Dh (fs.drop k) D=if (fs[k] D).2=0 then Dh (fs.drop (k+1)) (fs[k] D).1 else fs[k] D:=by
 rw [iz hk];rfl
def fU (I:Nat->Dev->World->Prop) (k:Nat) (f:Dev->Dev × Int) (v:Value):Prop:=
 ∃fn first caps,v=.func (.func fn) first caps/\C2 Tryz.prog fn/\∀D w,I k D w->Calls Tryz.prog fn (first++caps) w λe w'=>e=.returned (.int .i64 (f D).2)/\I (k+1) (f D).1 w'
theorem Y5 (I:Nat->Dev->World->Prop) (fs:List (Dev->Dev × Int)) (vs:List Value) (m:vs.length=fs.length) (E:vs.length<=9223372036854775807) (A:Option Addr) (c:Nat)
 (l:∀k D w,I k D w->ListAt w w.heap.size 1 A (vs.map λv=>[v])) (n:∀k (h1:k<fs.length) (h2:k<vs.length),fU I k fs[k] vs[k]) (D0:Dev) (w:World) (hI:I 0 D0 w):
 Calls Tryz.prog 118 #[.slice A vs.length c] w λe w'=>e=.returned (.int .i64 (Dh fs D0).2)/\∃j,j<=vs.length/\I j (Dh fs D0).1 w':=by
 have z:=zh l;have B:=zh n;have HI:=zh hI;have o:=zh m;clear l n hI m;go_enter Tryz.func118,Tryz.ntmps118;go_wp2_with fail
 go_loopg [8] vs.length (λgk i wr=>∃(k:Nat) (D:Dev),k<=vs.length/\gk=vs.length - k/\i=.int .i64 k/\I k D wr/\Dh (fs.drop k) D=Dh fs D0)
 case atStart=>exact ⟨0,D0,oo,oo,rfl,HI,rfl⟩
 case round=>
  obtain ⟨k,D,hk,s,rfl,t,u⟩:=hrel;have C:=zh s;have HR:=zh u;have d:=zh t;clear s u t;by_cases h:k<vs.length
  . have p:k<fs.length:=by rw [<-o.out];exact h
    obtain ⟨b,G,rfl,hb,x⟩:=z.out k D wr d (by rw [fm];omega);have q:=x k [vs[k]] (by rw [fo,fg h];rfl) 0 vs[k] rfl;rw [Nat.mul_one,ik] at q;obtain ⟨fn,first,H,hv,hE,y⟩:=B.out k p h;rw [hv] at q;have HC:=zh (y D wr d);have HE:=zh hE;have f:=zh (We fs k p D);clear x hv hE y;obtain ⟨⟨D1,er⟩,hr⟩:∃r,fs[k] D=r:=⟨_,rfl⟩;rw [hr] at HC f;clear hr;unfold C2 at HE;have hE:=HE.out;by_cases h0:er=0
    . subst h0;go_wp2_with fail;refine HC.mono ?_;rintro e w1 ⟨rfl,a⟩;have g:=zh a;clear a hE;go_wp2_with fail
      go_roundg (vs.length - (k+1))
      case measure=>rw [C.out];omega
      case rel=>exact ⟨k+1,D1,oo,oo,by go_num,g,by rw [<-HR.out,f.out];rfl⟩
    . have F:(er != 0)=true:=by rw [gu];exact h0
      have HF:Hid (Dh fs D0=(D1,er)):=zh (by rw [<-HR.out,f.out];exact if_neg h0);clear h0;go_wp2_with fail;refine HC.mono ?_;rintro e w1 ⟨rfl,a⟩;have g:=zh a;clear a hE;go_wp2_with fail;go_ret;rw [HF.out];exact ⟨rfl,k+1,oo,g⟩
  . obtain rfl:k=vs.length:=oo;have HF:Hid (Dh fs D0=(D,0)):=zh (by rw [<-HR.out,drop_of_length_le (by rw [<-o.out];omega)];rfl);go_wp2_with fail;go_ret;rw [HF.out];exact ⟨rfl,vs.length,oo,d⟩

end
end Go.Proofs.YtfklieeipokllaaGreat
