/- Parts of the proof (packed), 5. -/
import Derived.PlainAid
import Derived.Test.YtfklieeipokllaaGreatCzD
namespace Go.Proofs.YtfklieeipokllaaGreat
set_option linter.all false
set_option maxRecDepth 100000
set_option maxHeartbeats 16000000
open List
section
open Go.RowKit
def hib (m:Nat):UInt8:=UInt8.ofNat (m % 128+128)
def KX:Nat->Nat->List UInt8
 | 0,n=>[UInt8.ofNat n]
 | k+1,n=>if n<128 then [UInt8.ofNat n] else hib n::KX k (n / 128)
def enc (n:Nat):List UInt8:=KX 9 n
def NZ (b:UInt8):Value:=.int .u8 (b.toNat:Int)
def lim (k:Nat):Nat:=128 ^ (10 - k)
theorem ac (k:Nat) (h:k<10):lim k=128*lim (k+1):=by
 unfold lim;rw [show 10 - k=(10 - (k+1))+1 from oo,Nat.pow_succ,Nat.mul_comm]
theorem fk:lim 0=1180591620717411303424:=qd
theorem fq:lim 9=128:=qd
def LU (n k m:Nat) (pre:List UInt8):Prop:=pre.length=k/\m<lim k/\enc n=pre++KX (9 - k) m
theorem Xq (n:Nat) (h:n<18446744073709551616):LU n 0 n []:=⟨rfl,by rw [fk];omega,rfl⟩
theorem fg (n k m:Nat) (a:List UInt8) (h:LU n k m a) (hk:k<=9) (hm:128<=m):k<9:=by
 rcases it k 9 with h9 | h9
 . exact h9
 . have e:k=9:=oo;subst e;have:=h.2.1;rw [fq] at this;omega
theorem aM (n k m:Nat) (a:List UInt8) (h:LU n k m a) (hk:k<9) (hm:128<=m):LU n (k+1) (m / 128) (a++[hib m]):=by
 obtain ⟨h1,h2,h3⟩:=h;refine ⟨by simp [h1],?_,?_⟩
 . rw [ac k oo] at h2;omega
 . rw [h3,show 9 - k=(9 - (k+1))+1 from oo,KX,if_neg oo,iZ];rfl
theorem dg (n k m:Nat) (a:List UInt8) (h:LU n k m a) (hm:m<128):enc n=a++[UInt8.ofNat m]:=by
 obtain ⟨h1,h2,h3⟩:=h;rw [h3];cases 9 - k with
 | zero=>rfl
 | succ j=>rw [KX,if_pos hm]
def arr (pre:List UInt8):Array Value:=(pre.map NZ++List.replicate (10 - pre.length) (Value.int .u8 0)).toArray
theorem aa (a:List UInt8) (h:a.length<=10):(arr a).size=10:=by simp [arr];omega
theorem Zi (a:List UInt8) (k:Nat) (hk:a.length=k) (h:k<10):(arr a)[k]? =some (.int .u8 0):=by
 subst hk;rw [arr,getElem?_toArray,iq qs,jp,if_pos (by simp;omega)]
theorem VY (a:List UInt8) (k:Nat) (hk:a.length=k) (h:k<10) (b:UInt8):(arr a).setIfInBounds k (NZ b)=arr (a++[b]):=by
 subst hk;simp only [arr,setIfInBounds_toArray,gm,map_cons,map_nil,iZ,iI,i9,length_nil];congr 1;rw [List.set_append];simp;rw [show 10 - a.length=(9 - a.length)+1 from oo,List.replicate_succ,set_cons_zero]
theorem dE (a:List UInt8) (j:Nat) (hj:j<a.length):(arr a)[j]? =some (NZ a[j]):=by
 simp [arr,jF,hj]
theorem fo (m:Nat):bits BinOp.or IntKind.u8 ((m:Int) % 256) 128=((hib m).toNat:Int):=by
 have h:∀x:Fin 256,bits BinOp.or IntKind.u8 ((x.val:Nat):Int) 128=((UInt8.ofNat (x.val % 128+128)).toNat:Int):=by decide+kernel
 have h1:=h ⟨m % 256,jx _ oo⟩;simp only at h1;rw [show (m:Int) % 256=((m % 256:Nat):Int) from oo,h1,Nat.mod_mod_of_dvd _ qd];rfl
theorem Sq {P:Program} (W:World) (b a e:TypeId) (g cap n:Nat) (l:List UInt8) (cs:Array Value) (t:TypeId) (hs:P.underlying b=some (.slice e)) (he:P.underlying e=some (.int .u8)) (hd:P.underlying a=some .string)
 (hn:n=l.length) (h:W.heap[g]? =some (.cells cs t (0,0))) (hc:∀j (hj:j<l.length),cs[j]? =some (NZ l[j])):
 (convert b a (.slice (some ⟨g,0,none⟩) n cap)).run P W=.ok (.string ⟨l.toArray⟩) W:=by
 subst hn;refine run_convert_bytes_back W b a e ⟨g,0,none⟩ cap l hs he hd ?_;intro j hj;have:(⟨g,0,none⟩:Addr).add j=⟨g,j,none⟩:=by unfold Addr.add;split<;>simp_all
 rw [this,cell_of_row W g j cs t (0,0) h,hc j hj];rfl
theorem dH (W:World) (a:Addr) (k:Nat) (hk:k<=9):(Instr.sliceAt 321 (.pointer (some a)) none (some (.int .i64 ((k:Int)+1))) none).run Tryz.prog W=.ok (.slice (some a) (k+1) 10) W:=by
 have b:Tryz.prog.arrayLen 321=10:=qk;rw [run_sliceAt_array_h W 321 a qk .i64 ((k:Int)+1) oo (by rw [b];omega)];rw [b];have hz:(sizeOf (Tryz.prog.elem 321)).run Tryz.prog W=.ok 1 W:=qk;rw [hz];simp only [Result.andThen,slicedAt];have e:((k:Int)+1).toNat=k+1:=oo;rw [e];simp [Addr.add]
theorem CL (s:ByteArray) (n:Nat) (w:World) (hn:n<18446744073709551616) (hs:s.size<=1000000):
 Calls Tryz.prog 200 #[.string s,.int .u64 n] w λe w'=>e=.returned (.string (s++⟨(enc n).toArray⟩))/\Grew w w':=by
 go_enter Tryz.func200,Tryz.ntmps200
 go_wp2
 go_loopw [1,6] (λa b wr=>∃(k m:Nat) (c:List UInt8),k<=9/\m<18446744073709551616/\a=.int .u64 m/\b=.int .i64 k/\wr=w.alloc (.cells (arr c) 321)/\LU n k m c) (λ_ b _=>10 - (intOf b).toNat)
 case atStart=>exact ⟨0,n,[],oo,hn,rfl,rfl,rfl,Xq n hn⟩
 case round=>
  obtain ⟨k,m,c,hk,hm,rfl,rfl,rfl,d⟩:=hrel;have i:=aa c (by have:=d.1;omega);have l:=Zi c k d.1 oo;by_cases h:m<128
  . have f:=dg n k m c d h;have g:(enc n).length=k+1:=by rw [f];simp [d.1]
    have o:(arr c).setIfInBounds k (.int .u8 m)=arr (enc n):=by
     rw [f,<-VY c k d.1 oo (UInt8.ofNat m),NZ,UInt8.toNat_ofNat',iu oo]
    have p:(convert 169 9 (.slice (some ⟨w.heap.size,0,none⟩) (k+1) 10)).run Tryz.prog (w.alloc (.cells (arr (enc n)) 321))=.ok (.string ⟨(enc n).toArray⟩) (w.alloc (.cells (arr (enc n)) 321)):=
     Sq _ 169 9 5 _ 10 (k+1) (enc n) (arr (enc n)) 321 Tryz.underlying169 Tryz.underlying5 Tryz.underlying9 g.symm (heap_alloc_new w _) (λj hj=>dE (enc n) j hj)
    have q:(enc n).length<=10:=oo;have r:=λW=>dH W ⟨w.heap.size,0,none⟩ k hk;have hE:=zh f;have hL:=zh g;clear f g
    go_wp2
    go_ret;exact ⟨rfl,gG⟩
  . have h9:=fg n k m c d hk oo
    have t:(arr c).setIfInBounds k (.int .u8 (bits BinOp.or IntKind.u8 ((m:Int) % 256) 128))=arr (c++[hib m]):=by
     rw [<-VY c k d.1 oo,NZ,fo]
    go_wp2
    go_roundw
    case rel=>exact ⟨k+1,m / 128,_,oo,oo,by go_num,by go_num,rfl,aM n k m c d h9 oo⟩
    case measure=>simp [intOf];omega

end
section
attribute [local go_sem ↓] Go.wp_at_zero Go.wp_at_succ
open Go.RowKit
theorem TH (k:Nat):∀n,(KX k n).length<=k+1:=by
 induction k with
 | zero=>intro n;simp [KX]
 | succ k ih=>intro n;rw [KX];split
              . simp
              . have:=ih (n / 128);simp;omega

end
section
open Go.RowKit
theorem GA (s t:ByteArray) (w:World) (hs:s.size<=1000000) (ht:t.size<=1000000):
 Calls Tryz.prog 201 #[.string s,.string t] w λe w'=>e=.returned (.string (s++⟨(enc t.size).toArray⟩++t))/\Grew w w':=by
 have hl:=TH 9 t.size;have a:(enc t.size).length<=10:=hl;clear hl;go_enter Tryz.func201,Tryz.ntmps201;go_wp2_with fail;refine (CL s t.size w oo hs).mono ?_;rintro e w' ⟨rfl,hg⟩;go_wp2_with fail;go_ret;exact ⟨rfl,gG⟩

def Dq:Nat->Nat->List UInt8->Nat × Nat
 | _,_,[]=>(0,0)
 | i,acc,b::l=>
   if 10<=i then (0,0) else if i=9/\1<b.toNat then (0,0)
   else if b.toNat<128 then (if b.toNat=0/\0<i then (0,0) else (acc+b.toNat % 128*128 ^ i,i+1))
   else Dq (i+1) (acc+b.toNat % 128*128 ^ i) l
def dec (l:List UInt8):Nat × Nat:=Dq 0 0 l
def L8 (l:List UInt8):Nat:=(dec l).1
def JP (l:List UInt8):Nat:=(dec l).2
theorem fY (b:UInt8):bits BinOp.and IntKind.u8 (b.toNat:Int) 127=((b.toNat % 128:Nat):Int):=by
 have h:∀x:Fin 256,bits BinOp.and IntKind.u8 ((x.val:Nat):Int) 127=((x.val % 128:Nat):Int):=by decide+kernel
 exact h ⟨b.toNat,b.toNat_lt⟩
theorem gE (k:Nat):2 ^ (7*k)=128 ^ k:=by rw [Nat.pow_mul]
theorem dJ (m c k:Nat) (hm:m<2 ^ k) (hc:c*2 ^ k+m<18446744073709551616):bits .or .u64 (m:Int) ((c*2 ^ k:Nat):Int)=((m+c*2 ^ k:Nat):Int):=by
 have e:m ||| c*2 ^ k=m+c*2 ^ k:=by
  rw [Nat.or_comm,Nat.mul_comm,<-Nat.two_pow_add_eq_or_of_lt hm,Nat.add_comm]
 show IntKind.u64.wrap ((BitVec.ofInt 64 (m:Int) ||| BitVec.ofInt 64 ((c*2 ^ k:Nat):Int)).toNat:Int)=_;rw [BitVec.ofInt_natCast,BitVec.ofInt_natCast,BitVec.toNat_or,jC,jC,iu oo,iu oo,e,IntKind.wrap_u64];omega
theorem QE (c k:Nat):((c:Nat):Int)*2 ^ k=((c*2 ^ k:Nat):Int):=by
 rw [Int.natCast_mul,Int.natCast_pow];rfl
theorem eU (m k:Nat) (b:UInt8) (hm:m<128 ^ k) (hc:b.toNat % 128*128 ^ k+m<18446744073709551616):
 bits .or .u64 (m:Int) (IntKind.u64.wrap (IntKind.u64.wrap (bits BinOp.and IntKind.u8 (b.toNat:Int) 127)*2 ^ (7*k)))=((m+b.toNat % 128*128 ^ k:Nat):Int):=by
 rw [fY,show IntKind.u64.wrap ((b.toNat % 128:Nat):Int)=((b.toNat % 128:Nat):Int) from by rw [IntKind.wrap_u64];omega,QE];rw [<-gE] at hm hc ⊢;rw [show IntKind.u64.wrap ((b.toNat % 128*2 ^ (7*k):Nat):Int)=((b.toNat % 128*2 ^ (7*k):Nat):Int) from by rw [IntKind.wrap_u64];omega];exact dJ m _ _ hm hc
theorem bR:(128:Nat) ^ 8=72057594037927936:=qd
theorem He:(128:Nat) ^ 9=9223372036854775808:=qd
theorem Rp (m k:Nat) (b:UInt8) (hk:k<=8) (hm:m<128 ^ k):
 b.toNat % 128*128 ^ k+m<18446744073709551616/\m+b.toNat % 128*128 ^ k<128 ^ (k+1):=by
 have hp:(128:Nat) ^ k<=128 ^ 8:=Nat.pow_le_pow_right oo hk;rw [bR] at hp;have h1:b.toNat % 128<=127:=oo;have h2:=Nat.mul_le_mul_right (128 ^ k) h1;rw [Nat.pow_succ];omega
theorem FN {k j:IntKind} {a b c d:Int} (h:a=b) (h':c=d):Ending.returned (.tuple #[.int k a,.int j c])=.returned (.tuple #[.int k b,.int j d]):=by rw [h,h']
theorem bp (s:ByteArray) (k:Nat) (h:k<s.size):s.data.toList.drop k=s[k]::s.data.toList.drop (k+1):=by
 rw [jS (by simpa using h)];rfl
theorem Rt (m:Nat) (l:List UInt8):Dq 10 m l=(0,0):=by cases l<;>simp [Dq]
theorem Nb (s:ByteArray) (w:World) (hs:s.size<=9223372036854775807):
 Calls Tryz.prog 253 #[.string s] w λe w'=>e=.returned (.tuple #[.int .u64 (L8 s.data.toList),.int .i64 (JP s.data.toList)])/\w=w':=by
 go_enter Tryz.func253,Tryz.ntmps253
 go_wp2
 go_loop [4,5] (λa b=>∃(k m:Nat),k<=s.size/\k<=10/\(k<=9->m<128 ^ k)/\a=.int .u64 m/\b=.int .i64 k/\dec s.data.toList=Dq k m (s.data.toList.drop k)) (λ_ b=>10 - (intOf b).toNat)
 case atStart=>exact ⟨0,0,oo,oo,qs,rfl,rfl,rfl⟩
 case round=>
  obtain ⟨k,m,hk,t,hm,rfl,rfl,d⟩:=hrel;by_cases c:k<s.size/\k<10
  . obtain ⟨g,o⟩:=c;have r:=(s[k]).toNat_lt;rw [bp s k g] at d;replace hm:=hm oo;have HD:=zh d;clear d;by_cases h9:k=9
    . subst h9;by_cases hb:1<s[9].toNat
      . go_wp2
        go_ret2;exact ⟨FN (by rw [L8,HD.out];simp [Dq,hb]) (by rw [JP,HD.out];simp [Dq,hb]),rfl⟩
      . rw [He] at hm;have hv:=eU m 9 s[9] (by rw [He];exact hm) (by rw [He];omega);rw [show (2:Int) ^ (7*9)=9223372036854775808 from rfl] at hv;have c:s[9].toNat<128:=oo;by_cases h0:s[9].toNat=0
        . have H0:=zh h0;have j:s[9].toNat<=0:=oo;clear h0
          go_wp2
          go_ret2;exact ⟨FN (by rw [L8,HD.out];simp [Dq,H0.out]) (by rw [JP,HD.out];simp [Dq,H0.out]),rfl⟩
        . go_wp2
          go_ret2;exact ⟨FN (by rw [L8,HD.out];simp [Dq,hb,c,h0]) (by rw [JP,HD.out];simp [Dq,hb,c,h0]),rfl⟩
    . have l:k<=8:=oo;have f:=Rp m k s[k] l hm;have hv:=eU m k s[k] hm f.1;have HL:=zh f.2;have HM:=zh hm;clear hm f;by_cases c:s[k].toNat<128
      . by_cases h0:s[k].toNat=0
        . have H0:=zh h0;have j:s[k].toNat<=0:=oo;clear h0
          have n:bits BinOp.or IntKind.u64 (↑m) (IntKind.u64.wrap (IntKind.u64.wrap (bits BinOp.and IntKind.u8 0 127)*2 ^ (7*k)))=(m:Int):=by
           rw [H0.out] at hv;simpa using hv
          by_cases p:k=0
          . subst p;rw [Nat.mul_zero,Int.pow_zero,Int.mul_one] at n
            go_wp2
            go_ret2;exact ⟨FN (by rw [L8,HD.out];simp [Dq,H0.out]) (by rw [JP,HD.out];simp [Dq,H0.out]),rfl⟩
          . go_wp2
            go_ret2;exact ⟨FN (by rw [L8,HD.out];simp [Dq,H0.out,h9,show ¬10<=k from oo,show 0<k from oo]) (by rw [JP,HD.out];simp [Dq,H0.out,h9,show ¬10<=k from oo,show 0<k from oo]),rfl⟩
        . go_wp2
          go_ret2;exact ⟨FN (by rw [L8,HD.out];simp [Dq,h9,c,h0,show ¬10<=k from oo]) (by rw [JP,HD.out];simp [Dq,h9,c,h0,show ¬10<=k from oo]),rfl⟩
      . go_wp2
        go_round
        case rel=>exact ⟨k+1,m+s[k].toNat % 128*128 ^ k,oo,oo,λ_=>HL,rfl,by go_num,by rw [HD.out];simp [Dq,h9,c,show ¬10<=k from oo]⟩
        case measure=>simp [intOf];omega
  . have i:Dq k m (s.data.toList.drop k)=(0,0):=by
     by_cases q:k=10
     . rw [q];exact Rt _ _
     . rw [drop_eq_nil_of_le (by simp;omega)];rfl
    rw [i] at d;have HD:=zh d;clear d i;by_cases g:k<s.size
    . have o:¬k<10:=λh=>c ⟨g,h⟩;clear c hm
      go_wp2
      go_ret2;exact ⟨FN (by rw [L8,HD.out];rfl) (by rw [JP,HD.out];rfl),rfl⟩
    . clear c hm
      go_wp2
      go_ret2;exact ⟨FN (by rw [L8,HD.out];rfl) (by rw [JP,HD.out];rfl),rfl⟩

def Rd (w:World) (g:Nat) (s:ByteArray) (err:Int):Prop:=Blk w g 324 #[.string s,.int .i64 err]
theorem Rd.facts {w:World} {g:Nat} {s:ByteArray} {err:Int} (h:Rd w g s err):g<w.heap.size/\w.cell? ⟨g,0,none⟩=some (.string s)/\w.cell? ⟨g,1,none⟩=some (.int .i64 err)/\w.frozen? ⟨g,0,none⟩=false/\w.frozen? ⟨g,1,none⟩=false:=
 ⟨h.lt,h.cell 0,h.cell 1,h.frozen 0,h.frozen 1⟩
def GP (s:ByteArray) (err:Int):Nat × ByteArray × Int:=
 if err≠0 then (0,s,err) else if JP s.data.toList=0 then (0,⟨#[]⟩,11) else (L8 s.data.toList,s.extract (JP s.data.toList) s.size,0)
theorem bo (l:List UInt8):∀i acc,(Dq i acc l).2<=i+l.length:=by
 induction l with
 | nil=>intro i acc;simp [Dq]
 | cons b l ih=>
   intro i acc;have:=ih (i+1) (acc+b.toNat % 128*128 ^ i);rw [Dq,i9];repeat' split
   all_goals first | exact ia _ | omega
theorem d8 (s:ByteArray):JP s.data.toList<=s.size:=by
 have:=bo s.data.toList 0 0;rw [ji,ig] at this;exact this
theorem WE (l:List UInt8) (h:JP l=0):L8 l=0:=by
 have c:∀(l:List UInt8) i a,(Dq i a l).2=0->(Dq i a l).1=0:=by
  intro l
  induction l with
  | nil=>intro i a _;rfl
  | cons b l ih=>
    intro i a;have:=ih (i+1) (a+b.toNat % 128*128 ^ i);rw [Dq];repeat' split
    all_goals first | (intro _;rfl) | (intro hh;exact absurd hh oo) | exact this
 exact c l 0 0 h
theorem GT (g:Nat) (s:ByteArray) (a:Int) (w:World) (h:Rd w g s a) (hs:s.size<=9223372036854775807):
 Calls Tryz.prog 235 #[.pointer (some ⟨g,0,none⟩)] w λe w'=>e=.returned (.int .u64 (GP s a).1)/\Turned (·=g) w w'/\Rd w' g (GP s a).2.1 (GP s a).2.2:=by
 unfold GP;obtain ⟨hl,c0,c1,f0,f1⟩:=h.facts;by_cases he:a≠0
 . rw [if_pos he];go_enter Tryz.func235,Tryz.ntmps235
   go_wp2
   go_ret;exact ⟨rfl,gT,by unfold Rd at h ⊢;exact gB⟩
 . rw [if_neg he];obtain rfl:a=0:=oo;by_cases hd:JP s.data.toList=0
   . rw [if_pos hd];have hz:=WE _ hd;go_enter Tryz.func235,Tryz.ntmps235;go_wp2_with (first | (go_at_call 253;refine (Nb s _ hs).mono ?_;rintro e w' ⟨rfl,rfl⟩) | go_in);go_ret;exact ⟨rfl,gT,by unfold Rd at h ⊢;exact gB⟩
   . rw [if_neg hd];have b:=d8 s;have c:0<JP s.data.toList:=oo;go_enter Tryz.func235,Tryz.ntmps235;go_wp2_with (first | (go_at_call 253;refine (Nb s _ hs).mono ?_;rintro e w' ⟨rfl,rfl⟩) | go_in);go_ret;exact ⟨rfl,gT,by unfold Rd at h ⊢;exact gB⟩
theorem Xj (s:ByteArray) (a:Int):(GP s a).2.1.size<=s.size:=by
 unfold GP;repeat' split
 . exact gM _
 . exact ia _
 . rw [iK];omega
def CY (s:ByteArray) (err most:Int):Nat × ByteArray × Int:=
 if (GP s err).2.2≠0 then (0,(GP s err).2.1,(GP s err).2.2)
 else if most<0\/most<((GP s err).1:Int) then (0,⟨#[]⟩,8) else GP s err
def Ik (s:ByteArray) (err most:Int):ByteArray × ByteArray × Int:=
 if (CY s err most).2.2≠0 then (⟨#[]⟩,(CY s err most).2.1,(CY s err most).2.2)
 else if (CY s err most).2.1.size<(CY s err most).1 then (⟨#[]⟩,⟨#[]⟩,11)
 else ((CY s err most).2.1.extract 0 (CY s err most).1,(CY s err most).2.1.extract (CY s err most).1 (CY s err most).2.1.size,0)
theorem LX (g:Nat) (s:ByteArray) (k:Int) (w:World) (h:Rd w g s 0):
 Calls Tryz.prog 234 #[.pointer (some ⟨g,0,none⟩),.int .i64 k] w λe w'=>e=.returned (.tuple #[])/\Turned (·=g) w w'/\Rd w' g ⟨#[]⟩ k:=by
 obtain ⟨hl,c0,c1,f0,f1⟩:=h.facts;go_enter Tryz.func234,Tryz.ntmps234
 go_wp2
 go_end0;exact ⟨rfl,gT,by unfold Rd at h ⊢;exact gB⟩
theorem Jw (s:ByteArray) (w:World):
 Calls Tryz.prog 208 #[.string s] w λe w'=>∃g,e=.returned (.pointer (some ⟨g,0,none⟩))/\w.heap.size<=g/\Grew w w'/\Rd w' g s 0:=by
 go_enter Tryz.func208,Tryz.ntmps208
 go_wp2
 go_ret;exact ⟨_,rfl,gM _,gG,by unfold Rd;exact gB⟩

theorem Z0 (l:List UInt8):∀i acc,i<=9->acc<128 ^ i->(Dq i acc l).1<18446744073709551616:=by
 induction l with
 | nil=>intro i acc _ _;simp [Dq]
 | cons b l ih=>
   intro i acc hi ha;have hb:=b.toNat_lt;by_cases h9:i=9
   . subst h9;rw [He] at ha;rw [Dq,if_neg oo];split
     . simp
     . rename_i h;split
       . split
         . simp
         . rw [He];have h1:b.toNat<=1:=oo;show acc+b.toNat % 128*9223372036854775808<_;have:b.toNat % 128<=1:=oo;omega
       . rw [Rt];simp
   . have a:=Rp acc i b oo ha;rw [Dq,if_neg oo,if_neg oo];split
     . split
       . simp
       . show acc+_<_;omega
     . exact ih (i+1) _ oo a.2
theorem cU (l:List UInt8):L8 l<18446744073709551616:=Z0 l 0 0 oo qs
theorem eI (s:ByteArray) (a:Int):(GP s a).1<18446744073709551616:=by
 unfold GP;repeat' split
 . show 0<_;omega
 . show 0<_;omega
 . exact cU _
theorem DF (g:Nat) (s:ByteArray) (a most:Int) (w:World) (h:Rd w g s a) (hs:s.size<=9223372036854775807) (k:-9223372036854775808<=most) (l:most<=9223372036854775807):
 Calls Tryz.prog 210 #[.pointer (some ⟨g,0,none⟩),.int .i64 most] w λe w'=>e=.returned (.int .i64 (CY s a most).1)/\Turned (·=g) w w'/\Rd w' g (CY s a most).2.1 (CY s a most).2.2:=by
 have m:=eI s a;unfold CY;by_cases he:(GP s a).2.2≠0
 . rw [if_pos he];go_enter Tryz.func210,Tryz.ntmps210;go_wp2_with fail;refine (GT g s a w h hs).mono ?_;rintro e w1 ⟨rfl,ht,hr⟩;obtain ⟨hl,c0,c1,f0,f1⟩:=hr.facts;go_wp2_with fail;go_ret;exact ⟨rfl,ht,hr⟩
 . rw [if_neg he];have d:(GP s a).2.2=0:=oo;have HE:=zh d;clear d he;by_cases hc:most<0\/most<((GP s a).1:Int)
   . rw [if_pos hc];by_cases j:most<0
     . clear hc;go_enter Tryz.func210,Tryz.ntmps210;go_wp2_with fail;refine (GT g s a w h hs).mono ?_;rintro e w1 ⟨rfl,ht,hr⟩;rw [HE.out] at hr;obtain ⟨hl,c0,c1,f0,f1⟩:=hr.facts;go_wp2_with fail;refine (LX g _ 8 w1 hr).mono ?_;rintro e w2 ⟨rfl,b,c⟩;go_wp2_with fail;go_ret;exact ⟨rfl,ht.trans b,c⟩
     . have i:most<((GP s a).1:Int):=oo;clear hc;go_enter Tryz.func210,Tryz.ntmps210;go_wp2_with fail;refine (GT g s a w h hs).mono ?_;rintro e w1 ⟨rfl,ht,hr⟩;rw [HE.out] at hr;obtain ⟨hl,c0,c1,f0,f1⟩:=hr.facts;go_wp2_with fail;refine (LX g _ 8 w1 hr).mono ?_;rintro e w2 ⟨rfl,b,c⟩;go_wp2_with fail;go_ret;exact ⟨rfl,ht.trans b,c⟩
   . rw [if_neg hc];have j:0<=most:=oo;have i:((GP s a).1:Int)<=most:=oo;clear hc;go_enter Tryz.func210,Tryz.ntmps210;go_wp2_with fail;refine (GT g s a w h hs).mono ?_;rintro e w1 ⟨rfl,ht,hr⟩;have f:=hr;rw [HE.out] at f;obtain ⟨hl,c0,c1,f0,f1⟩:=f.facts;go_wp2_with fail;go_ret;exact ⟨rfl,ht,hr⟩
theorem DM (s:ByteArray) (a most:Int):(CY s a most).2.1.size<=s.size:=by
 unfold CY;have:=Xj s a;repeat' split
 . exact this
 . exact ia _
 . exact this
theorem cJ (s:ByteArray) (a most:Int) (b:most<=9223372036854775807):(CY s a most).1<=9223372036854775807:=by
 unfold CY;split
 . exact ia _
 . split
   . exact ia _
   . omega
theorem LM (g:Nat) (s:ByteArray) (a most:Int) (w:World) (h:Rd w g s a) (hs:s.size<=9223372036854775807) (c:-9223372036854775808<=most) (b:most<=9223372036854775807):
 Calls Tryz.prog 209 #[.pointer (some ⟨g,0,none⟩),.int .i64 most] w λe w'=>e=.returned (.string (Ik s a most).1)/\Turned (·=g) w w'/\Rd w' g (Ik s a most).2.1 (Ik s a most).2.2:=by
 have j:=DM s a most;have k:=cJ s a most b;unfold Ik;by_cases he:(CY s a most).2.2≠0
 . rw [if_pos he];go_enter Tryz.func209,Tryz.ntmps209;go_wp2_with fail;refine (DF g s a most w h hs c b).mono ?_;rintro e w1 ⟨rfl,ht,hr⟩;obtain ⟨hl,c0,c1,f0,f1⟩:=hr.facts;go_wp2_with fail;go_ret;exact ⟨rfl,ht,hr⟩
 . rw [if_neg he];have d:(CY s a most).2.2=0:=oo;have HE:=zh d;clear d he;by_cases hc:(CY s a most).2.1.size<(CY s a most).1
   . rw [if_pos hc];go_enter Tryz.func209,Tryz.ntmps209;go_wp2_with fail;refine (DF g s a most w h hs c b).mono ?_;rintro e w1 ⟨rfl,ht,hr⟩;rw [HE.out] at hr;obtain ⟨hl,c0,c1,f0,f1⟩:=hr.facts;go_wp2_with fail;refine (LX g _ 11 w1 hr).mono ?_;rintro e w2 ⟨rfl,f,i⟩;go_wp2_with fail;go_ret;exact ⟨rfl,ht.trans f,i⟩
   . rw [if_neg hc];go_enter Tryz.func209,Tryz.ntmps209;go_wp2_with fail;refine (DF g s a most w h hs c b).mono ?_;rintro e w1 ⟨rfl,ht,hr⟩;rw [HE.out] at hr;obtain ⟨hl,c0,c1,f0,f1⟩:=hr.facts;go_wp2_with fail;go_ret;unfold Rd at hr ⊢;exact ⟨rfl,ht.trans (gT),gB⟩

theorem Wx (s:ByteArray) (v n:Nat) (h:dec s.data.toList=(v,n+1)):GP s 0=(v,s.extract (n+1) s.size,0):=by
 rw [GP,if_neg qs,if_neg (by rw [JP,h];simp),JP,L8,h]

theorem Wh (n:Nat):(hib n).toNat=n % 128+128:=by
 rw [hib,UInt8.toNat_ofNat',iu oo]
theorem Sa (n:Nat) (h:n<256):(UInt8.ofNat n).toNat=n:=by
 rw [UInt8.toNat_ofNat',iu oo]
theorem Wt (n i:Nat):n % 128*128 ^ i+n / 128*128 ^ (i+1)=n*128 ^ i:=by
 rw [Nat.pow_succ,<-Nat.mul_assoc,Nat.mul_right_comm,<-Nat.add_mul];congr 1;omega
theorem bG:∀(k i a n:Nat) (rest:List UInt8),i+k=9->n*128 ^ i<18446744073709551616->(0<i->0<n)->
 Dq i a (KX k n++rest)=(a+n*128 ^ i,i+(KX k n).length):=by
 intro k
 induction k with
 | zero=>
   intro i a n rest hi hn hp;obtain rfl:i=9:=oo;rw [He] at hn;have hb:=Sa n oo;have b:=hp oo;simp only [KX,singleton_append,jN];rw [Dq,if_neg oo,hb,if_neg oo,if_pos oo,if_neg oo,iu oo]
 | succ k ih=>
   intro i a n rest hi hn hp;rw [KX];split
   . rename_i h;have hb:=Sa n oo;simp only [singleton_append,jN];rw [Dq,if_neg oo,hb,if_neg oo,if_pos h,if_neg oo,iu h]
   . rename_i h;have hb:=Wh n;simp only [cons_append,i9];rw [Dq,if_neg oo,hb,if_neg oo,if_neg oo,show (n % 128+128) % 128=n % 128 from oo];have hs:=Wt n i;rw [ih (i+1) _ (n / 128) rest oo oo oo,Nat.add_assoc,hs];congr 1;omega
theorem dQ (n:Nat) (rest:List UInt8) (h:n<18446744073709551616):dec (enc n++rest)=(n,(enc n).length):=by
 have:=bG 9 0 0 n rest oo (by simpa using h) oo;simpa [dec,enc] using this
theorem bH (k n:Nat):0<(KX k n).length:=by
 cases k with
 | zero=>simp [KX]
 | succ k=>rw [KX];split<;>simp
theorem cG (n:Nat):(enc n).length<=10:=TH 9 n
theorem bj (n:Nat):0<(enc n).length:=bH 9 n
theorem Lv (s:ByteArray) (a most:Int):(Ik s a most).2.1.size<=s.size:=by
 have h:=DM s a most;unfold Ik;repeat' split
 . exact h
 . exact ia _
 . rw [iK];omega

end
end Go.Proofs.YtfklieeipokllaaGreat
