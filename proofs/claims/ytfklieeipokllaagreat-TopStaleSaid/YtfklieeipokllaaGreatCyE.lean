/- Parts of the proof (packed), 5. -/
import Derived.PlainAid
import Derived.Test.YtfklieeipokllaaGreatCyD
namespace Go.Proofs.YtfklieeipokllaaGreat
set_option linter.all false
set_option maxRecDepth 100000
set_option maxHeartbeats 16000000
open List
section
open Go.RowKit
def hib (m:Nat):UInt8:=UInt8.ofNat (m % 128+128)
def Jf:Nat->Nat->List UInt8
 | 0,n=>[UInt8.ofNat n]
 | k+1,n=>if n<128 then [UInt8.ofNat n] else hib n::Jf k (n / 128)
def enc (n:Nat):List UInt8:=Jf 9 n
def Mg (b:UInt8):Value:=.int .u8 (b.toNat:Int)
def lim (k:Nat):Nat:=128 ^ (10 - k)
theorem ZM (k:Nat) (h:k<10):lim k=128*lim (k+1):=by
 unfold lim;rw [show 10 - k=(10 - (k+1))+1 from oo,Nat.pow_succ,Nat.mul_comm]
theorem fH:lim 0=1180591620717411303424:=qd
theorem fN:lim 9=128:=qd
def Lk (n k m:Nat) (pre:List UInt8):Prop:=pre.length=k/\m<lim k/\enc n=pre++Jf (9 - k) m
theorem Wu (n:Nat) (h:n<18446744073709551616):Lk n 0 n []:=⟨rfl,by rw [fH];omega,rfl⟩
theorem fK (n k m:Nat) (a:List UInt8) (h:Lk n k m a) (hk:k<=9) (hm:128<=m):k<9:=by
 rcases iQ k 9 with h9 | h9
 . exact h9
 . have e:k=9:=oo;subst e;have:=h.2.1;rw [fN] at this;omega
theorem ax (n k m:Nat) (a:List UInt8) (h:Lk n k m a) (hk:k<9) (hm:128<=m):Lk n (k+1) (m / 128) (a++[hib m]):=by
 obtain ⟨h1,h2,h3⟩:=h;refine ⟨by simp [h1],?_,?_⟩
 . rw [ZM k oo] at h2;omega
 . rw [h3,show 9 - k=(9 - (k+1))+1 from oo,Jf,if_neg oo,iA];rfl
theorem dA (n k m:Nat) (a:List UInt8) (h:Lk n k m a) (hm:m<128):enc n=a++[UInt8.ofNat m]:=by
 obtain ⟨h1,h2,h3⟩:=h;rw [h3];cases 9 - k with
 | zero=>rfl
 | succ j=>rw [Jf,if_pos hm]
def arr (pre:List UInt8):Array Value:=(pre.map Mg++List.replicate (10 - pre.length) (Value.int .u8 0)).toArray
theorem Z2 (a:List UInt8) (h:a.length<=10):(arr a).size=10:=by simp [arr];omega
theorem aD (a:List UInt8) (k:Nat) (hk:a.length=k) (h:k<10):(arr a)[k]? =some (.int .u8 0):=by
 subst hk;rw [arr,getElem?_toArray,iO qs,jS,if_pos (by simp;omega)]
theorem VN (a:List UInt8) (k:Nat) (hk:a.length=k) (h:k<10) (b:UInt8):(arr a).setIfInBounds k (Mg b)=arr (a++[b]):=by
 subst hk;simp only [arr,setIfInBounds_toArray,fz,map_cons,map_nil,iA,gK,iY,length_nil];congr 1;rw [List.set_append];simp;rw [show 10 - a.length=(9 - a.length)+1 from oo,List.replicate_succ,set_cons_zero]
theorem bL (a:List UInt8) (j:Nat) (hj:j<a.length):(arr a)[j]? =some (Mg a[j]):=by
 simp [arr,ig,hj]
theorem fM (m:Nat):bits BinOp.or IntKind.u8 ((m:Int) % 256) 128=((hib m).toNat:Int):=by
 have h:∀x:Fin 256,bits BinOp.or IntKind.u8 ((x.val:Nat):Int) 128=((UInt8.ofNat (x.val % 128+128)).toNat:Int):=by decide+kernel
 have h1:=h ⟨m % 256,ja _ oo⟩;simp only at h1;rw [show (m:Int) % 256=((m % 256:Nat):Int) from oo,h1,Nat.mod_mod_of_dvd _ qd];rfl
theorem RK {P:Program} (W:World) (b a e:TypeId) (g cap n:Nat) (l:List UInt8) (cs:Array Value) (t:TypeId) (hs:P.underlying b=some (.slice e)) (he:P.underlying e=some (.int .u8)) (hd:P.underlying a=some .string)
 (hn:n=l.length) (h:W.heap[g]? =some (.cells cs t (0,0))) (hc:∀j (hj:j<l.length),cs[j]? =some (Mg l[j])):
 (convert b a (.slice (some ⟨g,0,none⟩) n cap)).run P W=.ok (.string ⟨l.toArray⟩) W:=by
 subst hn;refine run_convert_bytes_back W b a e ⟨g,0,none⟩ cap l hs he hd ?_;intro j hj;have:(⟨g,0,none⟩:Addr).add j=⟨g,j,none⟩:=by unfold Addr.add;split<;>simp_all
 rw [this,cell_of_row W g j cs t (0,0) h,hc j hj];rfl
theorem dj (W:World) (a:Addr) (k:Nat) (hk:k<=9):(Instr.sliceAt 321 (.pointer (some a)) none (some (.int .i64 ((k:Int)+1))) none).run Tryz.prog W=.ok (.slice (some a) (k+1) 10) W:=by
 have b:Tryz.prog.arrayLen 321=10:=qk;rw [run_sliceAt_array_h W 321 a qk .i64 ((k:Int)+1) oo (by rw [b];omega)];rw [b];have hz:(sizeOf (Tryz.prog.elem 321)).run Tryz.prog W=.ok 1 W:=qk;rw [hz];simp only [Result.andThen,slicedAt];have e:((k:Int)+1).toNat=k+1:=oo;rw [e];simp [Addr.add]
theorem B8 (s:ByteArray) (n:Nat) (w:World) (hn:n<18446744073709551616) (hs:s.size<=1000000):
 Calls Tryz.prog 200 #[.string s,.int .u64 n] w λe w'=>e=.returned (.string (s++⟨(enc n).toArray⟩))/\Grew w w':=by
 go_enter Tryz.func200,Tryz.ntmps200
 go_wp2
 go_loopw [1,6] (λa b wr=>∃(k m:Nat) (c:List UInt8),k<=9/\m<18446744073709551616/\a=.int .u64 m/\b=.int .i64 k/\wr=w.alloc (.cells (arr c) 321)/\Lk n k m c) (λ_ b _=>10 - (intOf b).toNat)
 case atStart=>exact ⟨0,n,[],oo,hn,rfl,rfl,rfl,Wu n hn⟩
 case round=>
  obtain ⟨k,m,c,hk,hm,rfl,rfl,rfl,d⟩:=hrel;have i:=Z2 c (by have:=d.1;omega);have l:=aD c k d.1 oo;by_cases h:m<128
  . have f:=dA n k m c d h;have g:(enc n).length=k+1:=by rw [f];simp [d.1]
    have o:(arr c).setIfInBounds k (.int .u8 m)=arr (enc n):=by
     rw [f,<-VN c k d.1 oo (UInt8.ofNat m),Mg,UInt8.toNat_ofNat',iR oo]
    have p:(convert 169 9 (.slice (some ⟨w.heap.size,0,none⟩) (k+1) 10)).run Tryz.prog (w.alloc (.cells (arr (enc n)) 321))=.ok (.string ⟨(enc n).toArray⟩) (w.alloc (.cells (arr (enc n)) 321)):=
     RK _ 169 9 5 _ 10 (k+1) (enc n) (arr (enc n)) 321 Tryz.underlying169 Tryz.underlying5 Tryz.underlying9 g.symm (heap_alloc_new w _) (λj hj=>bL (enc n) j hj)
    have q:(enc n).length<=10:=oo;have r:=λW=>dj W ⟨w.heap.size,0,none⟩ k hk;have hE:=zh f;have hL:=zh g;clear f g
    go_wp2
    go_ret;exact ⟨rfl,gG⟩
  . have h9:=fK n k m c d hk oo
    have t:(arr c).setIfInBounds k (.int .u8 (bits BinOp.or IntKind.u8 ((m:Int) % 256) 128))=arr (c++[hib m]):=by
     rw [<-VN c k d.1 oo,Mg,fM]
    go_wp2
    go_roundw
    case rel=>exact ⟨k+1,m / 128,_,oo,oo,by go_num,by go_num,rfl,ax n k m c d h9 oo⟩
    case measure=>simp [intOf];omega

end
section
attribute [local go_sem ↓] Go.wp_at_zero Go.wp_at_succ
open Go.RowKit
theorem RN (k:Nat):∀n,(Jf k n).length<=k+1:=by
 induction k with
 | zero=>intro n;simp [Jf]
 | succ k ih=>intro n;rw [Jf];split
              . simp
              . have:=ih (n / 128);simp;omega

end
section
open Go.RowKit
theorem F0 (s t:ByteArray) (w:World) (hs:s.size<=1000000) (ht:t.size<=1000000):
 Calls Tryz.prog 201 #[.string s,.string t] w λe w'=>e=.returned (.string (s++⟨(enc t.size).toArray⟩++t))/\Grew w w':=by
 have hl:=RN 9 t.size;have a:(enc t.size).length<=10:=hl;clear hl;go_enter Tryz.func201,Tryz.ntmps201;go_wp2_with fail;refine (B8 s t.size w oo hs).mono ?_;rintro e w' ⟨rfl,hg⟩;go_wp2_with fail;go_ret;exact ⟨rfl,gG⟩

def Dq:Nat->Nat->List UInt8->Nat × Nat
 | _,_,[]=>(0,0)
 | i,acc,b::l=>
   if 10<=i then (0,0) else if i=9/\1<b.toNat then (0,0)
   else if b.toNat<128 then (if b.toNat=0/\0<i then (0,0) else (acc+b.toNat % 128*128 ^ i,i+1))
   else Dq (i+1) (acc+b.toNat % 128*128 ^ i) l
def dec (l:List UInt8):Nat × Nat:=Dq 0 0 l
def Lh (l:List UInt8):Nat:=(dec l).1
def Ig (l:List UInt8):Nat:=(dec l).2
theorem ef (b:UInt8):bits BinOp.and IntKind.u8 (b.toNat:Int) 127=((b.toNat % 128:Nat):Int):=by
 have h:∀x:Fin 256,bits BinOp.and IntKind.u8 ((x.val:Nat):Int) 127=((x.val % 128:Nat):Int):=by decide+kernel
 exact h ⟨b.toNat,b.toNat_lt⟩
theorem fX (k:Nat):2 ^ (7*k)=128 ^ k:=by rw [Nat.pow_mul]
theorem dC (m c k:Nat) (hm:m<2 ^ k) (hc:c*2 ^ k+m<18446744073709551616):bits .or .u64 (m:Int) ((c*2 ^ k:Nat):Int)=((m+c*2 ^ k:Nat):Int):=by
 have e:m ||| c*2 ^ k=m+c*2 ^ k:=by
  rw [Nat.or_comm,Nat.mul_comm,<-Nat.two_pow_add_eq_or_of_lt hm,Nat.add_comm]
 show IntKind.u64.wrap ((BitVec.ofInt 64 (m:Int) ||| BitVec.ofInt 64 ((c*2 ^ k:Nat):Int)).toNat:Int)=_;rw [BitVec.ofInt_natCast,BitVec.ofInt_natCast,BitVec.toNat_or,ib,ib,iR oo,iR oo,e,IntKind.wrap_u64];omega
theorem P4 (c k:Nat):((c:Nat):Int)*2 ^ k=((c*2 ^ k:Nat):Int):=by
 rw [Int.natCast_mul,Int.natCast_pow];rfl
theorem dx (m k:Nat) (b:UInt8) (hm:m<128 ^ k) (hc:b.toNat % 128*128 ^ k+m<18446744073709551616):
 bits .or .u64 (m:Int) (IntKind.u64.wrap (IntKind.u64.wrap (bits BinOp.and IntKind.u8 (b.toNat:Int) 127)*2 ^ (7*k)))=((m+b.toNat % 128*128 ^ k:Nat):Int):=by
 rw [ef,show IntKind.u64.wrap ((b.toNat % 128:Nat):Int)=((b.toNat % 128:Nat):Int) from by rw [IntKind.wrap_u64];omega,P4];rw [<-fX] at hm hc ⊢;rw [show IntKind.u64.wrap ((b.toNat % 128*2 ^ (7*k):Nat):Int)=((b.toNat % 128*2 ^ (7*k):Nat):Int) from by rw [IntKind.wrap_u64];omega];exact dC m _ _ hm hc
theorem aP:(128:Nat) ^ 8=72057594037927936:=qd
theorem Gi:(128:Nat) ^ 9=9223372036854775808:=qd
theorem S7 (m k:Nat) (b:UInt8) (hk:k<=8) (hm:m<128 ^ k):
 b.toNat % 128*128 ^ k+m<18446744073709551616/\m+b.toNat % 128*128 ^ k<128 ^ (k+1):=by
 have hp:(128:Nat) ^ k<=128 ^ 8:=Nat.pow_le_pow_right oo hk;rw [aP] at hp;have h1:b.toNat % 128<=127:=oo;have h2:=Nat.mul_le_mul_right (128 ^ k) h1;rw [Nat.pow_succ];omega
theorem FU {k j:IntKind} {a b c d:Int} (h:a=b) (h':c=d):Ending.returned (.tuple #[.int k a,.int j c])=.returned (.tuple #[.int k b,.int j d]):=by rw [h,h']
theorem dM (s:ByteArray) (k:Nat) (h:k<s.size):s.data.toList.drop k=s[k]::s.data.toList.drop (k+1):=by
 rw [iz (by simpa using h)];rfl
theorem So (m:Nat) (l:List UInt8):Dq 10 m l=(0,0):=by cases l<;>simp [Dq]
theorem Nb (s:ByteArray) (w:World) (hs:s.size<=9223372036854775807):
 Calls Tryz.prog 253 #[.string s] w λe w'=>e=.returned (.tuple #[.int .u64 (Lh s.data.toList),.int .i64 (Ig s.data.toList)])/\w=w':=by
 go_enter Tryz.func253,Tryz.ntmps253
 go_wp2
 go_loop [4,5] (λa b=>∃(k m:Nat),k<=s.size/\k<=10/\(k<=9->m<128 ^ k)/\a=.int .u64 m/\b=.int .i64 k/\dec s.data.toList=Dq k m (s.data.toList.drop k)) (λ_ b=>10 - (intOf b).toNat)
 case atStart=>exact ⟨0,0,oo,oo,qs,rfl,rfl,rfl⟩
 case round=>
  obtain ⟨k,m,hk,t,hm,rfl,rfl,d⟩:=hrel;by_cases c:k<s.size/\k<10
  . obtain ⟨g,o⟩:=c;have r:=(s[k]).toNat_lt;rw [dM s k g] at d;replace hm:=hm oo;have HD:=zh d;clear d;by_cases h9:k=9
    . subst h9;by_cases hb:1<s[9].toNat
      . go_wp2
        go_ret2;exact ⟨FU (by rw [Lh,HD.out];simp [Dq,hb]) (by rw [Ig,HD.out];simp [Dq,hb]),rfl⟩
      . rw [Gi] at hm;have hv:=dx m 9 s[9] (by rw [Gi];exact hm) (by rw [Gi];omega);rw [show (2:Int) ^ (7*9)=9223372036854775808 from rfl] at hv;have c:s[9].toNat<128:=oo;by_cases h0:s[9].toNat=0
        . have H0:=zh h0;have j:s[9].toNat<=0:=oo;clear h0
          go_wp2
          go_ret2;exact ⟨FU (by rw [Lh,HD.out];simp [Dq,H0.out]) (by rw [Ig,HD.out];simp [Dq,H0.out]),rfl⟩
        . go_wp2
          go_ret2;exact ⟨FU (by rw [Lh,HD.out];simp [Dq,hb,c,h0]) (by rw [Ig,HD.out];simp [Dq,hb,c,h0]),rfl⟩
    . have l:k<=8:=oo;have f:=S7 m k s[k] l hm;have hv:=dx m k s[k] hm f.1;have HL:=zh f.2;have HM:=zh hm;clear hm f;by_cases c:s[k].toNat<128
      . by_cases h0:s[k].toNat=0
        . have H0:=zh h0;have j:s[k].toNat<=0:=oo;clear h0
          have n:bits BinOp.or IntKind.u64 (↑m) (IntKind.u64.wrap (IntKind.u64.wrap (bits BinOp.and IntKind.u8 0 127)*2 ^ (7*k)))=(m:Int):=by
           rw [H0.out] at hv;simpa using hv
          by_cases p:k=0
          . subst p;rw [Nat.mul_zero,Int.pow_zero,Int.mul_one] at n
            go_wp2
            go_ret2;exact ⟨FU (by rw [Lh,HD.out];simp [Dq,H0.out]) (by rw [Ig,HD.out];simp [Dq,H0.out]),rfl⟩
          . go_wp2
            go_ret2;exact ⟨FU (by rw [Lh,HD.out];simp [Dq,H0.out,h9,show ¬10<=k from oo,show 0<k from oo]) (by rw [Ig,HD.out];simp [Dq,H0.out,h9,show ¬10<=k from oo,show 0<k from oo]),rfl⟩
        . go_wp2
          go_ret2;exact ⟨FU (by rw [Lh,HD.out];simp [Dq,h9,c,h0,show ¬10<=k from oo]) (by rw [Ig,HD.out];simp [Dq,h9,c,h0,show ¬10<=k from oo]),rfl⟩
      . go_wp2
        go_round
        case rel=>exact ⟨k+1,m+s[k].toNat % 128*128 ^ k,oo,oo,λ_=>HL,rfl,by go_num,by rw [HD.out];simp [Dq,h9,c,show ¬10<=k from oo]⟩
        case measure=>simp [intOf];omega
  . have i:Dq k m (s.data.toList.drop k)=(0,0):=by
     by_cases q:k=10
     . rw [q];exact So _ _
     . rw [drop_eq_nil_of_le (by simp;omega)];rfl
    rw [i] at d;have HD:=zh d;clear d i;by_cases g:k<s.size
    . have o:¬k<10:=λh=>c ⟨g,h⟩;clear c hm
      go_wp2
      go_ret2;exact ⟨FU (by rw [Lh,HD.out];rfl) (by rw [Ig,HD.out];rfl),rfl⟩
    . clear c hm
      go_wp2
      go_ret2;exact ⟨FU (by rw [Lh,HD.out];rfl) (by rw [Ig,HD.out];rfl),rfl⟩

def Rd (w:World) (g:Nat) (s:ByteArray) (err:Int):Prop:=Blk w g 324 #[.string s,.int .i64 err]
theorem Rd.facts {w:World} {g:Nat} {s:ByteArray} {err:Int} (h:Rd w g s err):g<w.heap.size/\w.cell? ⟨g,0,none⟩=some (.string s)/\w.cell? ⟨g,1,none⟩=some (.int .i64 err)/\w.frozen? ⟨g,0,none⟩=false/\w.frozen? ⟨g,1,none⟩=false:=
 ⟨h.lt,h.cell 0,h.cell 1,h.frozen 0,h.frozen 1⟩
def GP (s:ByteArray) (err:Int):Nat × ByteArray × Int:=
 if err≠0 then (0,s,err) else if Ig s.data.toList=0 then (0,⟨#[]⟩,11) else (Lh s.data.toList,s.extract (Ig s.data.toList) s.size,0)
theorem dU (l:List UInt8):∀i acc,(Dq i acc l).2<=i+l.length:=by
 induction l with
 | nil=>intro i acc;simp [Dq]
 | cons b l ih=>
   intro i acc;have:=ih (i+1) (acc+b.toNat % 128*128 ^ i);rw [Dq,iY];repeat' split
   all_goals first | exact iB _ | omega
theorem bI (s:ByteArray):Ig s.data.toList<=s.size:=by
 have:=dU s.data.toList 0 0;rw [jM,iG] at this;exact this
theorem XU (l:List UInt8) (h:Ig l=0):Lh l=0:=by
 have c:∀(l:List UInt8) i a,(Dq i a l).2=0->(Dq i a l).1=0:=by
  intro l
  induction l with
  | nil=>intro i a _;rfl
  | cons b l ih=>
    intro i a;have:=ih (i+1) (a+b.toNat % 128*128 ^ i);rw [Dq];repeat' split
    all_goals first | (intro _;rfl) | (intro hh;exact absurd hh oo) | exact this
 exact c l 0 0 h
theorem GV (g:Nat) (s:ByteArray) (a:Int) (w:World) (h:Rd w g s a) (hs:s.size<=9223372036854775807):
 Calls Tryz.prog 235 #[.pointer (some ⟨g,0,none⟩)] w λe w'=>e=.returned (.int .u64 (GP s a).1)/\Turned (·=g) w w'/\Rd w' g (GP s a).2.1 (GP s a).2.2:=by
 unfold GP;obtain ⟨hl,c0,c1,f0,f1⟩:=h.facts;by_cases he:a≠0
 . rw [if_pos he];go_enter Tryz.func235,Tryz.ntmps235
   go_wp2
   go_ret;exact ⟨rfl,gT,by unfold Rd at h ⊢;exact gB⟩
 . rw [if_neg he];obtain rfl:a=0:=oo;by_cases hd:Ig s.data.toList=0
   . rw [if_pos hd];have hz:=XU _ hd;go_enter Tryz.func235,Tryz.ntmps235;go_wp2_with (first | (go_at_call 253;refine (Nb s _ hs).mono ?_;rintro e w' ⟨rfl,rfl⟩) | go_in);go_ret;exact ⟨rfl,gT,by unfold Rd at h ⊢;exact gB⟩
   . rw [if_neg hd];have b:=bI s;have c:0<Ig s.data.toList:=oo;go_enter Tryz.func235,Tryz.ntmps235;go_wp2_with (first | (go_at_call 253;refine (Nb s _ hs).mono ?_;rintro e w' ⟨rfl,rfl⟩) | go_in);go_ret;exact ⟨rfl,gT,by unfold Rd at h ⊢;exact gB⟩
theorem WC (s:ByteArray) (a:Int):(GP s a).2.1.size<=s.size:=by
 unfold GP;repeat' split
 . exact fk _
 . exact iB _
 . rw [gO];omega
def CH (s:ByteArray) (err most:Int):Nat × ByteArray × Int:=
 if (GP s err).2.2≠0 then (0,(GP s err).2.1,(GP s err).2.2)
 else if most<0\/most<((GP s err).1:Int) then (0,⟨#[]⟩,8) else GP s err
def IM (s:ByteArray) (err most:Int):ByteArray × ByteArray × Int:=
 if (CH s err most).2.2≠0 then (⟨#[]⟩,(CH s err most).2.1,(CH s err most).2.2)
 else if (CH s err most).2.1.size<(CH s err most).1 then (⟨#[]⟩,⟨#[]⟩,11)
 else ((CH s err most).2.1.extract 0 (CH s err most).1,(CH s err most).2.1.extract (CH s err most).1 (CH s err most).2.1.size,0)
theorem K6 (g:Nat) (s:ByteArray) (k:Int) (w:World) (h:Rd w g s 0):
 Calls Tryz.prog 234 #[.pointer (some ⟨g,0,none⟩),.int .i64 k] w λe w'=>e=.returned (.tuple #[])/\Turned (·=g) w w'/\Rd w' g ⟨#[]⟩ k:=by
 obtain ⟨hl,c0,c1,f0,f1⟩:=h.facts;go_enter Tryz.func234,Tryz.ntmps234
 go_wp2
 go_end0;exact ⟨rfl,gT,by unfold Rd at h ⊢;exact gB⟩
theorem JT (s:ByteArray) (w:World):
 Calls Tryz.prog 208 #[.string s] w λe w'=>∃g,e=.returned (.pointer (some ⟨g,0,none⟩))/\w.heap.size<=g/\Grew w w'/\Rd w' g s 0:=by
 go_enter Tryz.func208,Tryz.ntmps208
 go_wp2
 go_ret;exact ⟨_,rfl,fk _,gG,by unfold Rd;exact gB⟩

theorem ZF (l:List UInt8):∀i acc,i<=9->acc<128 ^ i->(Dq i acc l).1<18446744073709551616:=by
 induction l with
 | nil=>intro i acc _ _;simp [Dq]
 | cons b l ih=>
   intro i acc hi ha;have hb:=b.toNat_lt;by_cases h9:i=9
   . subst h9;rw [Gi] at ha;rw [Dq,if_neg oo];split
     . simp
     . rename_i h;split
       . split
         . simp
         . rw [Gi];have h1:b.toNat<=1:=oo;show acc+b.toNat % 128*9223372036854775808<_;have:b.toNat % 128<=1:=oo;omega
       . rw [So];simp
   . have a:=S7 acc i b oo ha;rw [Dq,if_neg oo,if_neg oo];split
     . split
       . simp
       . show acc+_<_;omega
     . exact ih (i+1) _ oo a.2
theorem cZ (l:List UInt8):Lh l<18446744073709551616:=ZF l 0 0 oo qs
theorem ck (s:ByteArray) (a:Int):(GP s a).1<18446744073709551616:=by
 unfold GP;repeat' split
 . show 0<_;omega
 . show 0<_;omega
 . exact cZ _
theorem DC (g:Nat) (s:ByteArray) (a most:Int) (w:World) (h:Rd w g s a) (hs:s.size<=9223372036854775807) (l:-9223372036854775808<=most) (k:most<=9223372036854775807):
 Calls Tryz.prog 210 #[.pointer (some ⟨g,0,none⟩),.int .i64 most] w λe w'=>e=.returned (.int .i64 (CH s a most).1)/\Turned (·=g) w w'/\Rd w' g (CH s a most).2.1 (CH s a most).2.2:=by
 have m:=ck s a;unfold CH;by_cases he:(GP s a).2.2≠0
 . rw [if_pos he];go_enter Tryz.func210,Tryz.ntmps210;go_wp2_with fail;refine (GV g s a w h hs).mono ?_;rintro e w1 ⟨rfl,ht,hr⟩;obtain ⟨hl,c0,c1,f0,f1⟩:=hr.facts;go_wp2_with fail;go_ret;exact ⟨rfl,ht,hr⟩
 . rw [if_neg he];have d:(GP s a).2.2=0:=oo;have HE:=zh d;clear d he;by_cases hc:most<0\/most<((GP s a).1:Int)
   . rw [if_pos hc];by_cases j:most<0
     . clear hc;go_enter Tryz.func210,Tryz.ntmps210;go_wp2_with fail;refine (GV g s a w h hs).mono ?_;rintro e w1 ⟨rfl,ht,hr⟩;rw [HE.out] at hr;obtain ⟨hl,c0,c1,f0,f1⟩:=hr.facts;go_wp2_with fail;refine (K6 g _ 8 w1 hr).mono ?_;rintro e w2 ⟨rfl,b,c⟩;go_wp2_with fail;go_ret;exact ⟨rfl,ht.trans b,c⟩
     . have i:most<((GP s a).1:Int):=oo;clear hc;go_enter Tryz.func210,Tryz.ntmps210;go_wp2_with fail;refine (GV g s a w h hs).mono ?_;rintro e w1 ⟨rfl,ht,hr⟩;rw [HE.out] at hr;obtain ⟨hl,c0,c1,f0,f1⟩:=hr.facts;go_wp2_with fail;refine (K6 g _ 8 w1 hr).mono ?_;rintro e w2 ⟨rfl,b,c⟩;go_wp2_with fail;go_ret;exact ⟨rfl,ht.trans b,c⟩
   . rw [if_neg hc];have j:0<=most:=oo;have i:((GP s a).1:Int)<=most:=oo;clear hc;go_enter Tryz.func210,Tryz.ntmps210;go_wp2_with fail;refine (GV g s a w h hs).mono ?_;rintro e w1 ⟨rfl,ht,hr⟩;have f:=hr;rw [HE.out] at f;obtain ⟨hl,c0,c1,f0,f1⟩:=f.facts;go_wp2_with fail;go_ret;exact ⟨rfl,ht,hr⟩
theorem DL (s:ByteArray) (a most:Int):(CH s a most).2.1.size<=s.size:=by
 unfold CH;have:=WC s a;repeat' split
 . exact this
 . exact iB _
 . exact this
theorem dl (s:ByteArray) (a most:Int) (b:most<=9223372036854775807):(CH s a most).1<=9223372036854775807:=by
 unfold CH;split
 . exact iB _
 . split
   . exact iB _
   . omega
theorem Lj (g:Nat) (s:ByteArray) (a most:Int) (w:World) (h:Rd w g s a) (hs:s.size<=9223372036854775807) (c:-9223372036854775808<=most) (b:most<=9223372036854775807):
 Calls Tryz.prog 209 #[.pointer (some ⟨g,0,none⟩),.int .i64 most] w λe w'=>e=.returned (.string (IM s a most).1)/\Turned (·=g) w w'/\Rd w' g (IM s a most).2.1 (IM s a most).2.2:=by
 have j:=DL s a most;have k:=dl s a most b;unfold IM;by_cases he:(CH s a most).2.2≠0
 . rw [if_pos he];go_enter Tryz.func209,Tryz.ntmps209;go_wp2_with fail;refine (DC g s a most w h hs c b).mono ?_;rintro e w1 ⟨rfl,ht,hr⟩;obtain ⟨hl,c0,c1,f0,f1⟩:=hr.facts;go_wp2_with fail;go_ret;exact ⟨rfl,ht,hr⟩
 . rw [if_neg he];have d:(CH s a most).2.2=0:=oo;have HE:=zh d;clear d he;by_cases hc:(CH s a most).2.1.size<(CH s a most).1
   . rw [if_pos hc];go_enter Tryz.func209,Tryz.ntmps209;go_wp2_with fail;refine (DC g s a most w h hs c b).mono ?_;rintro e w1 ⟨rfl,ht,hr⟩;rw [HE.out] at hr;obtain ⟨hl,c0,c1,f0,f1⟩:=hr.facts;go_wp2_with fail;refine (K6 g _ 11 w1 hr).mono ?_;rintro e w2 ⟨rfl,f,i⟩;go_wp2_with fail;go_ret;exact ⟨rfl,ht.trans f,i⟩
   . rw [if_neg hc];go_enter Tryz.func209,Tryz.ntmps209;go_wp2_with fail;refine (DC g s a most w h hs c b).mono ?_;rintro e w1 ⟨rfl,ht,hr⟩;rw [HE.out] at hr;obtain ⟨hl,c0,c1,f0,f1⟩:=hr.facts;go_wp2_with fail;go_ret;unfold Rd at hr ⊢;exact ⟨rfl,ht.trans (gT),gB⟩

theorem Xa (s:ByteArray) (v n:Nat) (h:dec s.data.toList=(v,n+1)):GP s 0=(v,s.extract (n+1) s.size,0):=by
 rw [GP,if_neg qs,if_neg (by rw [Ig,h];simp),Ig,Lh,h]

theorem V9 (n:Nat):(hib n).toNat=n % 128+128:=by
 rw [hib,UInt8.toNat_ofNat',iR oo]
theorem RF (n:Nat) (h:n<256):(UInt8.ofNat n).toNat=n:=by
 rw [UInt8.toNat_ofNat',iR oo]
theorem XE (n i:Nat):n % 128*128 ^ i+n / 128*128 ^ (i+1)=n*128 ^ i:=by
 rw [Nat.pow_succ,<-Nat.mul_assoc,Nat.mul_right_comm,<-Nat.add_mul];congr 1;omega
theorem ay:∀(k i a n:Nat) (b:List UInt8),i+k=9->n*128 ^ i<18446744073709551616->(0<i->0<n)->
 Dq i a (Jf k n++b)=(a+n*128 ^ i,i+(Jf k n).length):=by
 intro k
 induction k with
 | zero=>
   intro i a n b hi hn hp;obtain rfl:i=9:=oo;rw [Gi] at hn;have hb:=RF n oo;have c:=hp oo;simp only [Jf,singleton_append,ir];rw [Dq,if_neg oo,hb,if_neg oo,if_pos oo,if_neg oo,iR oo]
 | succ k ih=>
   intro i a n b hi hn hp;rw [Jf];split
   . rename_i h;have hb:=RF n oo;simp only [singleton_append,ir];rw [Dq,if_neg oo,hb,if_neg oo,if_pos h,if_neg oo,iR h]
   . rename_i h;have hb:=V9 n;simp only [cons_append,iY];rw [Dq,if_neg oo,hb,if_neg oo,if_neg oo,show (n % 128+128) % 128=n % 128 from oo];have hs:=XE n i;rw [ih (i+1) _ (n / 128) b oo oo oo,Nat.add_assoc,hs];congr 1;omega
theorem dB (n:Nat) (a:List UInt8) (h:n<18446744073709551616):dec (enc n++a)=(n,(enc n).length):=by
 have:=ay 9 0 0 n a oo (by simpa using h) oo;simpa [dec,enc] using this
theorem Zq (k n:Nat):0<(Jf k n).length:=by
 cases k with
 | zero=>simp [Jf]
 | succ k=>rw [Jf];split<;>simp
theorem cG (n:Nat):(enc n).length<=10:=RN 9 n
theorem dS (n:Nat):0<(enc n).length:=Zq 9 n
theorem LB (s:ByteArray) (a most:Int):(IM s a most).2.1.size<=s.size:=by
 have h:=DL s a most;unfold IM;repeat' split
 . exact h
 . exact iB _
 . rw [gO];omega

end
end Go.Proofs.YtfklieeipokllaaGreat
