/- Parts of the proof (packed), 6. -/
import Derived.PlainAid
import Derived.Test.YtmcgbdemcknkaaaGreatDoorCwC
namespace Go.Proofs.YtmcgbdemcknkaaaGreatDoor
set_option linter.all false
set_option maxRecDepth 100000
set_option maxHeartbeats 16000000
open List
section
open Go.RowKit
def hib (m:Nat):UInt8:=UInt8.ofNat (m % 128+128)
def FO:Nat->Nat->List UInt8
 | 0,n=>[UInt8.ofNat n]
 | k+1,n=>if n<128 then [UInt8.ofNat n] else hib n::FO k (n / 128)
def enc (n:Nat):List UInt8:=FO 9 n
def Na (b:UInt8):Value:=.int .u8 (b.toNat:Int)
def lim (k:Nat):Nat:=128 ^ (10 - k)
theorem Zt (k:Nat) (h:k<10):lim k=128*lim (k+1):=by
 unfold lim;rw [show 10 - k=(10 - (k+1))+1 from oo,Nat.pow_succ,Nat.mul_comm]
theorem iD:lim 0=1180591620717411303424:=qd
theorem gy:lim 9=128:=qd
def LH (n k m:Nat) (pre:List UInt8):Prop:=pre.length=k/\m<lim k/\enc n=pre++FO (9 - k) m
theorem Ww (n:Nat) (h:n<18446744073709551616):LH n 0 n []:=⟨rfl,by rw [iD];omega,rfl⟩
theorem gw (n k m:Nat) (a:List UInt8) (h:LH n k m a) (hk:k<=9) (hm:128<=m):k<9:=by
 rcases jY k 9 with h9 | h9
 . exact h9
 . have e:k=9:=oo;subst e;have:=h.2.1;rw [gy] at this;omega
theorem Zb (n k m:Nat) (a:List UInt8) (h:LH n k m a) (hk:k<9) (hm:128<=m):LH n (k+1) (m / 128) (a++[hib m]):=by
 obtain ⟨h1,h2,h3⟩:=h;refine ⟨by simp [h1],?_,?_⟩
 . rw [Zt k oo] at h2;omega
 . rw [h3,show 9 - k=(9 - (k+1))+1 from oo,FO,if_neg oo,jK];rfl
theorem dP (n k m:Nat) (a:List UInt8) (h:LH n k m a) (hm:m<128):enc n=a++[UInt8.ofNat m]:=by
 obtain ⟨h1,h2,h3⟩:=h;rw [h3];cases 9 - k with
 | zero=>rfl
 | succ j=>rw [FO,if_pos hm]
def arr (pre:List UInt8):Array Value:=(pre.map Na++List.replicate (10 - pre.length) (Value.int .u8 0)).toArray
theorem Zp (a:List UInt8) (h:a.length<=10):(arr a).size=10:=by simp [arr];omega
theorem ZK (a:List UInt8) (k:Nat) (hk:a.length=k) (h:k<10):(arr a)[k]? =some (.int .u8 0):=by
 subst hk;rw [arr,getElem?_toArray,jW qs,kL,if_pos (by simp;omega)]
theorem VU (a:List UInt8) (k:Nat) (hk:a.length=k) (h:k<10) (b:UInt8):(arr a).setIfInBounds k (Na b)=arr (a++[b]):=by
 subst hk;simp only [arr,setIfInBounds_toArray,il,map_cons,map_nil,jK,iy,jf,length_nil];congr 1;rw [List.set_append];simp;rw [show 10 - a.length=(9 - a.length)+1 from oo,List.replicate_succ,set_cons_zero]
theorem cW (a:List UInt8) (j:Nat) (hj:j<a.length):(arr a)[j]? =some (Na a[j]):=by
 simp [arr,jm,hj]
theorem iC (m:Nat):bits BinOp.or IntKind.u8 ((m:Int) % 256) 128=((hib m).toNat:Int):=by
 have h:∀x:Fin 256,bits BinOp.or IntKind.u8 ((x.val:Nat):Int) 128=((UInt8.ofNat (x.val % 128+128)).toNat:Int):=by decide+kernel
 have h1:=h ⟨m % 256,kT _ oo⟩;simp only at h1;rw [show (m:Int) % 256=((m % 256:Nat):Int) from oo,h1,Nat.mod_mod_of_dvd _ qd];rfl
theorem Sp {P:Program} (W:World) (b a e:TypeId) (g cap n:Nat) (l:List UInt8) (cs:Array Value) (t:TypeId) (hs:P.underlying b=some (.slice e)) (he:P.underlying e=some (.int .u8)) (hd:P.underlying a=some .string)
 (hn:n=l.length) (h:W.heap[g]? =some (.cells cs t (0,0))) (hc:∀j (hj:j<l.length),cs[j]? =some (Na l[j])):
 (convert b a (.slice (some ⟨g,0,none⟩) n cap)).run P W=.ok (.string ⟨l.toArray⟩) W:=by
 subst hn;refine run_convert_bytes_back W b a e ⟨g,0,none⟩ cap l hs he hd ?_;intro j hj;have:(⟨g,0,none⟩:Addr).add j=⟨g,j,none⟩:=by unfold Addr.add;split<;>simp_all
 rw [this,cell_of_row W g j cs t (0,0) h,hc j hj];rfl
theorem dx (W:World) (a:Addr) (k:Nat) (hk:k<=9):(Instr.sliceAt 185 (.pointer (some a)) none (some (.int .i64 ((k:Int)+1))) none).run Tryz.prog W=.ok (.slice (some a) (k+1) 10) W:=by
 have b:Tryz.prog.arrayLen 185=10:=qk;rw [run_sliceAt_array_h W 185 a qk .i64 ((k:Int)+1) oo (by rw [b];omega)];rw [b];have hz:(sizeOf (Tryz.prog.elem 185)).run Tryz.prog W=.ok 1 W:=qk;rw [hz];simp only [Result.andThen,slicedAt];have e:((k:Int)+1).toNat=k+1:=oo;rw [e];simp [Addr.add]
theorem Br (s:ByteArray) (n:Nat) (w:World) (hn:n<18446744073709551616) (hs:s.size<=1000000):
 Calls Tryz.prog 71 #[.string s,.int .u64 n] w λe w'=>e=.returned (.string (s++⟨(enc n).toArray⟩))/\Grew w w':=by
 go_enter Tryz.func71,Tryz.ntmps71
 go_wp2
 go_loopw [1,6] (λa b wr=>∃(k m:Nat) (c:List UInt8),k<=9/\m<18446744073709551616/\a=.int .u64 m/\b=.int .i64 k/\wr=w.alloc (.cells (arr c) 185)/\LH n k m c) (λ_ b _=>10 - (intOf b).toNat)
 case atStart=>exact ⟨0,n,[],oo,hn,rfl,rfl,rfl,Ww n hn⟩
 case round=>
  obtain ⟨k,m,c,hk,hm,rfl,rfl,rfl,d⟩:=hrel;have i:=Zp c (by have:=d.1;omega);have l:=ZK c k d.1 oo;by_cases h:m<128
  . have f:=dP n k m c d h;have g:(enc n).length=k+1:=by rw [f];simp [d.1]
    have o:(arr c).setIfInBounds k (.int .u8 m)=arr (enc n):=by
     rw [f,<-VU c k d.1 oo (UInt8.ofNat m),Na,UInt8.toNat_ofNat',jZ oo]
    have p:(convert 74 9 (.slice (some ⟨w.heap.size,0,none⟩) (k+1) 10)).run Tryz.prog (w.alloc (.cells (arr (enc n)) 185))=.ok (.string ⟨(enc n).toArray⟩) (w.alloc (.cells (arr (enc n)) 185)):=
     Sp _ 74 9 5 _ 10 (k+1) (enc n) (arr (enc n)) 185 Tryz.underlying74 Tryz.underlying5 Tryz.underlying9 g.symm (heap_alloc_new w _) (λj hj=>cW (enc n) j hj)
    have q:(enc n).length<=10:=oo;have r:=λW=>dx W ⟨w.heap.size,0,none⟩ k hk;have hE:=zh f;have hL:=zh g;clear f g
    go_wp2
    go_ret;exact ⟨rfl,gG⟩
  . have h9:=gw n k m c d hk oo
    have t:(arr c).setIfInBounds k (.int .u8 (bits BinOp.or IntKind.u8 ((m:Int) % 256) 128))=arr (c++[hib m]):=by
     rw [<-VU c k d.1 oo,Na,iC]
    go_wp2
    go_roundw
    case rel=>exact ⟨k+1,m / 128,_,oo,oo,by go_num,by go_num,rfl,Zb n k m c d h9 oo⟩
    case measure=>simp [intOf];omega

end
section
attribute [local go_sem ↓] Go.wp_at_zero Go.wp_at_succ
open Go.RowKit
theorem SQ (k:Nat):∀n,(FO k n).length<=k+1:=by
 induction k with
 | zero=>intro n;simp [FO]
 | succ k ih=>intro n;rw [FO];split
              . simp
              . have:=ih (n / 128);simp;omega

end
section
open Go.RowKit
theorem Fx (s t:ByteArray) (w:World) (hs:s.size<=1000000) (ht:t.size<=1000000):
 Calls Tryz.prog 170 #[.string s,.string t] w λe w'=>e=.returned (.string (s++⟨(enc t.size).toArray⟩++t))/\Grew w w':=by
 have hl:=SQ 9 t.size;have a:(enc t.size).length<=10:=hl;clear hl;go_enter Tryz.func170,Tryz.ntmps170;go_wp2_with fail;refine (Br s t.size w oo hs).mono ?_;rintro e w' ⟨rfl,hg⟩;go_wp2_with fail;go_ret;exact ⟨rfl,gG⟩

def DI:Nat->Nat->List UInt8->Nat × Nat
 | _,_,[]=>(0,0)
 | i,acc,b::l=>
   if 10<=i then (0,0) else if i=9/\1<b.toNat then (0,0)
   else if b.toNat<128 then (if b.toNat=0/\0<i then (0,0) else (acc+b.toNat % 128*128 ^ i,i+1))
   else DI (i+1) (acc+b.toNat % 128*128 ^ i) l
def dec (l:List UInt8):Nat × Nat:=DI 0 0 l
def Hv (l:List UInt8):Nat:=(dec l).1
def Ge (l:List UInt8):Nat:=(dec l).2
theorem fM (b:UInt8):bits BinOp.and IntKind.u8 (b.toNat:Int) 127=((b.toNat % 128:Nat):Int):=by
 have h:∀x:Fin 256,bits BinOp.and IntKind.u8 ((x.val:Nat):Int) 127=((x.val % 128:Nat):Int):=by decide+kernel
 exact h ⟨b.toNat,b.toNat_lt⟩
theorem iP (k:Nat):2 ^ (7*k)=128 ^ k:=by rw [Nat.pow_mul]
theorem ew (m c k:Nat) (hm:m<2 ^ k) (hc:c*2 ^ k+m<18446744073709551616):bits .or .u64 (m:Int) ((c*2 ^ k:Nat):Int)=((m+c*2 ^ k:Nat):Int):=by
 have e:m ||| c*2 ^ k=m+c*2 ^ k:=by
  rw [Nat.or_comm,Nat.mul_comm,<-Nat.two_pow_add_eq_or_of_lt hm,Nat.add_comm]
 show IntKind.u64.wrap ((BitVec.ofInt 64 (m:Int) ||| BitVec.ofInt 64 ((c*2 ^ k:Nat):Int)).toNat:Int)=_;rw [BitVec.ofInt_natCast,BitVec.ofInt_natCast,BitVec.toNat_or,ji,ji,jZ oo,jZ oo,e,IntKind.wrap_u64];omega
theorem QN (c k:Nat):((c:Nat):Int)*2 ^ k=((c*2 ^ k:Nat):Int):=by
 rw [Int.natCast_mul,Int.natCast_pow];rfl
theorem fF (m k:Nat) (b:UInt8) (hm:m<128 ^ k) (hc:b.toNat % 128*128 ^ k+m<18446744073709551616):
 bits .or .u64 (m:Int) (IntKind.u64.wrap (IntKind.u64.wrap (bits BinOp.and IntKind.u8 (b.toNat:Int) 127)*2 ^ (7*k)))=((m+b.toNat % 128*128 ^ k:Nat):Int):=by
 rw [fM,show IntKind.u64.wrap ((b.toNat % 128:Nat):Int)=((b.toNat % 128:Nat):Int) from by rw [IntKind.wrap_u64];omega,QN];rw [<-iP] at hm hc ⊢;rw [show IntKind.u64.wrap ((b.toNat % 128*2 ^ (7*k):Nat):Int)=((b.toNat % 128*2 ^ (7*k):Nat):Int) from by rw [IntKind.wrap_u64];omega];exact ew m _ _ hm hc
theorem cB:(128:Nat) ^ 8=72057594037927936:=qd
theorem Gk:(128:Nat) ^ 9=9223372036854775808:=qd
theorem R7 (m k:Nat) (b:UInt8) (hk:k<=8) (hm:m<128 ^ k):
 b.toNat % 128*128 ^ k+m<18446744073709551616/\m+b.toNat % 128*128 ^ k<128 ^ (k+1):=by
 have hp:(128:Nat) ^ k<=128 ^ 8:=Nat.pow_le_pow_right oo hk;rw [cB] at hp;have h1:b.toNat % 128<=127:=oo;have h2:=Nat.mul_le_mul_right (128 ^ k) h1;rw [Nat.pow_succ];omega
theorem FD {k j:IntKind} {a b c d:Int} (h:a=b) (h':c=d):Ending.returned (.tuple #[.int k a,.int j c])=.returned (.tuple #[.int k b,.int j d]):=by rw [h,h']
theorem cY (s:ByteArray) (k:Nat) (h:k<s.size):s.data.toList.drop k=s[k]::s.data.toList.drop (k+1):=by
 rw [jz (by simpa using h)];rfl
theorem RD (m:Nat) (l:List UInt8):DI 10 m l=(0,0):=by cases l<;>simp [DI]
theorem M9 (s:ByteArray) (w:World) (hs:s.size<=9223372036854775807):
 Calls Tryz.prog 107 #[.string s] w λe w'=>e=.returned (.tuple #[.int .u64 (Hv s.data.toList),.int .i64 (Ge s.data.toList)])/\w=w':=by
 go_enter Tryz.func107,Tryz.ntmps107
 go_wp2
 go_loop [4,5] (λa b=>∃(k m:Nat),k<=s.size/\k<=10/\(k<=9->m<128 ^ k)/\a=.int .u64 m/\b=.int .i64 k/\dec s.data.toList=DI k m (s.data.toList.drop k)) (λ_ b=>10 - (intOf b).toNat)
 case atStart=>exact ⟨0,0,oo,oo,qs,rfl,rfl,rfl⟩
 case round=>
  obtain ⟨k,m,hk,t,hm,rfl,rfl,d⟩:=hrel;by_cases c:k<s.size/\k<10
  . obtain ⟨g,o⟩:=c;have r:=(s[k]).toNat_lt;rw [cY s k g] at d;replace hm:=hm oo;have HD:=zh d;clear d;by_cases h9:k=9
    . subst h9;by_cases hb:1<s[9].toNat
      . go_wp2
        go_ret2;exact ⟨FD (by rw [Hv,HD.out];simp [DI,hb]) (by rw [Ge,HD.out];simp [DI,hb]),rfl⟩
      . rw [Gk] at hm;have hv:=fF m 9 s[9] (by rw [Gk];exact hm) (by rw [Gk];omega);rw [show (2:Int) ^ (7*9)=9223372036854775808 from rfl] at hv;have c:s[9].toNat<128:=oo;by_cases h0:s[9].toNat=0
        . have H0:=zh h0;have j:s[9].toNat<=0:=oo;clear h0
          go_wp2
          go_ret2;exact ⟨FD (by rw [Hv,HD.out];simp [DI,H0.out]) (by rw [Ge,HD.out];simp [DI,H0.out]),rfl⟩
        . go_wp2
          go_ret2;exact ⟨FD (by rw [Hv,HD.out];simp [DI,hb,c,h0]) (by rw [Ge,HD.out];simp [DI,hb,c,h0]),rfl⟩
    . have l:k<=8:=oo;have f:=R7 m k s[k] l hm;have hv:=fF m k s[k] hm f.1;have HL:=zh f.2;have HM:=zh hm;clear hm f;by_cases c:s[k].toNat<128
      . by_cases h0:s[k].toNat=0
        . have H0:=zh h0;have j:s[k].toNat<=0:=oo;clear h0
          have n:bits BinOp.or IntKind.u64 (↑m) (IntKind.u64.wrap (IntKind.u64.wrap (bits BinOp.and IntKind.u8 0 127)*2 ^ (7*k)))=(m:Int):=by
           rw [H0.out] at hv;simpa using hv
          by_cases p:k=0
          . subst p;rw [Nat.mul_zero,Int.pow_zero,Int.mul_one] at n
            go_wp2
            go_ret2;exact ⟨FD (by rw [Hv,HD.out];simp [DI,H0.out]) (by rw [Ge,HD.out];simp [DI,H0.out]),rfl⟩
          . go_wp2
            go_ret2;exact ⟨FD (by rw [Hv,HD.out];simp [DI,H0.out,h9,show ¬10<=k from oo,show 0<k from oo]) (by rw [Ge,HD.out];simp [DI,H0.out,h9,show ¬10<=k from oo,show 0<k from oo]),rfl⟩
        . go_wp2
          go_ret2;exact ⟨FD (by rw [Hv,HD.out];simp [DI,h9,c,h0,show ¬10<=k from oo]) (by rw [Ge,HD.out];simp [DI,h9,c,h0,show ¬10<=k from oo]),rfl⟩
      . go_wp2
        go_round
        case rel=>exact ⟨k+1,m+s[k].toNat % 128*128 ^ k,oo,oo,λ_=>HL,rfl,by go_num,by rw [HD.out];simp [DI,h9,c,show ¬10<=k from oo]⟩
        case measure=>simp [intOf];omega
  . have i:DI k m (s.data.toList.drop k)=(0,0):=by
     by_cases q:k=10
     . rw [q];exact RD _ _
     . rw [drop_eq_nil_of_le (by simp;omega)];rfl
    rw [i] at d;have HD:=zh d;clear d i;by_cases g:k<s.size
    . have o:¬k<10:=λh=>c ⟨g,h⟩;clear c hm
      go_wp2
      go_ret2;exact ⟨FD (by rw [Hv,HD.out];rfl) (by rw [Ge,HD.out];rfl),rfl⟩
    . clear c hm
      go_wp2
      go_ret2;exact ⟨FD (by rw [Hv,HD.out];rfl) (by rw [Ge,HD.out];rfl),rfl⟩

def Rd (w:World) (g:Nat) (s:ByteArray) (err:Int):Prop:=Blk w g 127 #[.string s,.int .i64 err]
theorem Rd.facts {w:World} {g:Nat} {s:ByteArray} {err:Int} (h:Rd w g s err):g<w.heap.size/\w.cell? ⟨g,0,none⟩=some (.string s)/\w.cell? ⟨g,1,none⟩=some (.int .i64 err)/\w.frozen? ⟨g,0,none⟩=false/\w.frozen? ⟨g,1,none⟩=false:=
 ⟨h.lt,h.cell 0,h.cell 1,h.frozen 0,h.frozen 1⟩
def Eh (s:ByteArray) (err:Int):Nat × ByteArray × Int:=
 if err≠0 then (0,s,err) else if Ge s.data.toList=0 then (0,⟨#[]⟩,11) else (Hv s.data.toList,s.extract (Ge s.data.toList) s.size,0)
theorem cm (l:List UInt8):∀i acc,(DI i acc l).2<=i+l.length:=by
 induction l with
 | nil=>intro i acc;simp [DI]
 | cons b l ih=>
   intro i acc;have:=ih (i+1) (acc+b.toNat % 128*128 ^ i);rw [DI,jf];repeat' split
   all_goals first | exact jL _ | omega
theorem dX (s:ByteArray):Ge s.data.toList<=s.size:=by
 have:=cm s.data.toList 0 0;rw [kF,jP] at this;exact this
theorem XK (l:List UInt8) (h:Ge l=0):Hv l=0:=by
 have c:∀(l:List UInt8) i a,(DI i a l).2=0->(DI i a l).1=0:=by
  intro l
  induction l with
  | nil=>intro i a _;rfl
  | cons b l ih=>
    intro i a;have:=ih (i+1) (a+b.toNat % 128*128 ^ i);rw [DI];repeat' split
    all_goals first | (intro _;rfl) | (intro hh;exact absurd hh oo) | exact this
 exact c l 0 0 h
theorem GK (g:Nat) (s:ByteArray) (a:Int) (w:World) (h:Rd w g s a) (hs:s.size<=9223372036854775807):
 Calls Tryz.prog 67 #[.pointer (some ⟨g,0,none⟩)] w λe w'=>e=.returned (.int .u64 (Eh s a).1)/\Turned (·=g) w w'/\Rd w' g (Eh s a).2.1 (Eh s a).2.2:=by
 unfold Eh;obtain ⟨hl,c0,c1,f0,f1⟩:=h.facts;by_cases he:a≠0
 . rw [if_pos he];go_enter Tryz.func67,Tryz.ntmps67
   go_wp2
   go_ret;exact ⟨rfl,gT,by unfold Rd at h ⊢;exact gB⟩
 . rw [if_neg he];obtain rfl:a=0:=oo;by_cases hd:Ge s.data.toList=0
   . rw [if_pos hd];have hz:=XK _ hd;go_enter Tryz.func67,Tryz.ntmps67;go_wp2_with (first | (go_at_call 107;refine (M9 s _ hs).mono ?_;rintro e w' ⟨rfl,rfl⟩) | go_in);go_ret;exact ⟨rfl,gT,by unfold Rd at h ⊢;exact gB⟩
   . rw [if_neg hd];have b:=dX s;have c:0<Ge s.data.toList:=oo;go_enter Tryz.func67,Tryz.ntmps67;go_wp2_with (first | (go_at_call 107;refine (M9 s _ hs).mono ?_;rintro e w' ⟨rfl,rfl⟩) | go_in);go_ret;exact ⟨rfl,gT,by unfold Rd at h ⊢;exact gB⟩
theorem Xd (s:ByteArray) (a:Int):(Eh s a).2.1.size<=s.size:=by
 unfold Eh;repeat' split
 . exact iX _
 . exact jL _
 . rw [i0];omega
def BR (s:ByteArray) (err most:Int):Nat × ByteArray × Int:=
 if (Eh s err).2.2≠0 then (0,(Eh s err).2.1,(Eh s err).2.2)
 else if most<0\/most<((Eh s err).1:Int) then (0,⟨#[]⟩,8) else Eh s err
def IQ (s:ByteArray) (err most:Int):ByteArray × ByteArray × Int:=
 if (BR s err most).2.2≠0 then (⟨#[]⟩,(BR s err most).2.1,(BR s err most).2.2)
 else if (BR s err most).2.1.size<(BR s err most).1 then (⟨#[]⟩,⟨#[]⟩,11)
 else ((BR s err most).2.1.extract 0 (BR s err most).1,(BR s err most).2.1.extract (BR s err most).1 (BR s err most).2.1.size,0)
theorem LI (g:Nat) (s:ByteArray) (k:Int) (w:World) (h:Rd w g s 0):
 Calls Tryz.prog 68 #[.pointer (some ⟨g,0,none⟩),.int .i64 k] w λe w'=>e=.returned (.tuple #[])/\Turned (·=g) w w'/\Rd w' g ⟨#[]⟩ k:=by
 obtain ⟨hl,c0,c1,f0,f1⟩:=h.facts;go_enter Tryz.func68,Tryz.ntmps68
 go_wp2
 go_end0;exact ⟨rfl,gT,by unfold Rd at h ⊢;exact gB⟩
theorem XG (g:Nat) (s:ByteArray) (a:Int) (w:World) (h:Rd w g s a) (hs:s.size<=9223372036854775807):
 Calls Tryz.prog 30 #[.pointer (some ⟨g,0,none⟩)] w λe w'=>e=.returned (.int .i64 s.size)/\w=w':=by
 obtain ⟨hl,c0,c1,f0,f1⟩:=h.facts;go_enter Tryz.func30,Tryz.ntmps30
 go_wp2
 go_ret;exact ⟨rfl,rfl⟩
theorem XC (g:Nat) (s:ByteArray) (a:Int) (w:World) (h:Rd w g s a):
 Calls Tryz.prog 31 #[.pointer (some ⟨g,0,none⟩)] w λe w'=>e=.returned (.string s)/\w=w':=by
 obtain ⟨hl,c0,c1,f0,f1⟩:=h.facts;go_enter Tryz.func31,Tryz.ntmps31
 go_wp2
 go_ret;exact ⟨rfl,rfl⟩
theorem GZ (s:ByteArray) (w:World):
 Calls Tryz.prog 28 #[.string s] w λe w'=>∃g,e=.returned (.pointer (some ⟨g,0,none⟩))/\w.heap.size<=g/\Grew w w'/\Rd w' g s 0:=by
 go_enter Tryz.func28,Tryz.ntmps28
 go_wp2
 go_ret;exact ⟨_,rfl,iX _,gG,by unfold Rd;exact gB⟩

theorem Y7 (l:List UInt8):∀i acc,i<=9->acc<128 ^ i->(DI i acc l).1<18446744073709551616:=by
 induction l with
 | nil=>intro i acc _ _;simp [DI]
 | cons b l ih=>
   intro i acc hi ha;have hb:=b.toNat_lt;by_cases h9:i=9
   . subst h9;rw [Gk] at ha;rw [DI,if_neg oo];split
     . simp
     . rename_i h;split
       . split
         . simp
         . rw [Gk];have h1:b.toNat<=1:=oo;show acc+b.toNat % 128*9223372036854775808<_;have:b.toNat % 128<=1:=oo;omega
       . rw [RD];simp
   . have a:=R7 acc i b oo ha;rw [DI,if_neg oo,if_neg oo];split
     . split
       . simp
       . show acc+_<_;omega
     . exact ih (i+1) _ oo a.2
theorem eT (l:List UInt8):Hv l<18446744073709551616:=Y7 l 0 0 oo qs
theorem dR (s:ByteArray) (a:Int):(Eh s a).1<18446744073709551616:=by
 unfold Eh;repeat' split
 . show 0<_;omega
 . show 0<_;omega
 . exact eT _
theorem CU (g:Nat) (s:ByteArray) (a b:Int) (w:World) (h:Rd w g s a) (hs:s.size<=9223372036854775807) (m:-9223372036854775808<=b) (l:b<=9223372036854775807):
 Calls Tryz.prog 29 #[.pointer (some ⟨g,0,none⟩),.int .i64 b] w λe w'=>e=.returned (.int .i64 (BR s a b).1)/\Turned (·=g) w w'/\Rd w' g (BR s a b).2.1 (BR s a b).2.2:=by
 have n:=dR s a;unfold BR;by_cases he:(Eh s a).2.2≠0
 . rw [if_pos he];go_enter Tryz.func29,Tryz.ntmps29;go_wp2_with fail;refine (GK g s a w h hs).mono ?_;rintro e w1 ⟨rfl,ht,hr⟩;obtain ⟨hl,c0,c1,f0,f1⟩:=hr.facts;go_wp2_with fail;go_ret;exact ⟨rfl,ht,hr⟩
 . rw [if_neg he];have f:(Eh s a).2.2=0:=oo;have HE:=zh f;clear f he;by_cases hc:b<0\/b<((Eh s a).1:Int)
   . rw [if_pos hc];by_cases k:b<0
     . clear hc;go_enter Tryz.func29,Tryz.ntmps29;go_wp2_with fail;refine (GK g s a w h hs).mono ?_;rintro e w1 ⟨rfl,ht,hr⟩;rw [HE.out] at hr;obtain ⟨hl,c0,c1,f0,f1⟩:=hr.facts;go_wp2_with fail;refine (LI g _ 8 w1 hr).mono ?_;rintro e w2 ⟨rfl,c,d⟩;go_wp2_with fail;go_ret;exact ⟨rfl,ht.trans c,d⟩
     . have j:b<((Eh s a).1:Int):=oo;clear hc;go_enter Tryz.func29,Tryz.ntmps29;go_wp2_with fail;refine (GK g s a w h hs).mono ?_;rintro e w1 ⟨rfl,ht,hr⟩;rw [HE.out] at hr;obtain ⟨hl,c0,c1,f0,f1⟩:=hr.facts;go_wp2_with fail;refine (LI g _ 8 w1 hr).mono ?_;rintro e w2 ⟨rfl,c,d⟩;go_wp2_with fail;go_ret;exact ⟨rfl,ht.trans c,d⟩
   . rw [if_neg hc];have k:0<=b:=oo;have j:((Eh s a).1:Int)<=b:=oo;clear hc;go_enter Tryz.func29,Tryz.ntmps29;go_wp2_with fail;refine (GK g s a w h hs).mono ?_;rintro e w1 ⟨rfl,ht,hr⟩;have i:=hr;rw [HE.out] at i;obtain ⟨hl,c0,c1,f0,f1⟩:=i.facts;go_wp2_with fail;go_ret;exact ⟨rfl,ht,hr⟩
theorem Bz (s:ByteArray) (a b:Int):(BR s a b).2.1.size<=s.size:=by
 unfold BR;have:=Xd s a;repeat' split
 . exact this
 . exact jL _
 . exact this
theorem dg (s:ByteArray) (b a:Int) (c:a<=9223372036854775807):(BR s b a).1<=9223372036854775807:=by
 unfold BR;split
 . exact jL _
 . split
   . exact jL _
   . omega
theorem LV (g:Nat) (s:ByteArray) (b a:Int) (w:World) (h:Rd w g s b) (hs:s.size<=9223372036854775807) (d:-9223372036854775808<=a) (c:a<=9223372036854775807):
 Calls Tryz.prog 212 #[.pointer (some ⟨g,0,none⟩),.int .i64 a] w λe w'=>e=.returned (.string (IQ s b a).1)/\Turned (·=g) w w'/\Rd w' g (IQ s b a).2.1 (IQ s b a).2.2:=by
 have k:=Bz s b a;have l:=dg s b a c;unfold IQ;by_cases he:(BR s b a).2.2≠0
 . rw [if_pos he];go_enter Tryz.func212,Tryz.ntmps212;go_wp2_with fail;refine (CU g s b a w h hs d c).mono ?_;rintro e w1 ⟨rfl,ht,hr⟩;obtain ⟨hl,c0,c1,f0,f1⟩:=hr.facts;go_wp2_with fail;go_ret;exact ⟨rfl,ht,hr⟩
 . rw [if_neg he];have f:(BR s b a).2.2=0:=oo;have HE:=zh f;clear f he;by_cases hc:(BR s b a).2.1.size<(BR s b a).1
   . rw [if_pos hc];go_enter Tryz.func212,Tryz.ntmps212;go_wp2_with fail;refine (CU g s b a w h hs d c).mono ?_;rintro e w1 ⟨rfl,ht,hr⟩;rw [HE.out] at hr;obtain ⟨hl,c0,c1,f0,f1⟩:=hr.facts;go_wp2_with fail;refine (LI g _ 11 w1 hr).mono ?_;rintro e w2 ⟨rfl,i,j⟩;go_wp2_with fail;go_ret;exact ⟨rfl,ht.trans i,j⟩
   . rw [if_neg hc];go_enter Tryz.func212,Tryz.ntmps212;go_wp2_with fail;refine (CU g s b a w h hs d c).mono ?_;rintro e w1 ⟨rfl,ht,hr⟩;rw [HE.out] at hr;obtain ⟨hl,c0,c1,f0,f1⟩:=hr.facts;go_wp2_with fail;go_ret;unfold Rd at hr ⊢;exact ⟨rfl,ht.trans (gT),gB⟩

theorem Yr (s:ByteArray) (v n:Nat) (h:dec s.data.toList=(v,n+1)):Eh s 0=(v,s.extract (n+1) s.size,0):=by
 rw [Eh,if_neg qs,if_neg (by rw [Ge,h];simp),Ge,Hv,h]

theorem WH (n:Nat):(hib n).toNat=n % 128+128:=by
 rw [hib,UInt8.toNat_ofNat',jZ oo]
theorem RN (n:Nat) (h:n<256):(UInt8.ofNat n).toNat=n:=by
 rw [UInt8.toNat_ofNat',jZ oo]
theorem Pq (n i:Nat):n % 128*128 ^ i+n / 128*128 ^ (i+1)=n*128 ^ i:=by
 rw [Nat.pow_succ,<-Nat.mul_assoc,Nat.mul_right_comm,<-Nat.add_mul];congr 1;omega
theorem aA:∀(k i a n:Nat) (b:List UInt8),i+k=9->n*128 ^ i<18446744073709551616->(0<i->0<n)->
 DI i a (FO k n++b)=(a+n*128 ^ i,i+(FO k n).length):=by
 intro k
 induction k with
 | zero=>
   intro i a n b hi hn hp;obtain rfl:i=9:=oo;rw [Gk] at hn;have hb:=RN n oo;have c:=hp oo;simp only [FO,singleton_append,ju];rw [DI,if_neg oo,hb,if_neg oo,if_pos oo,if_neg oo,jZ oo]
 | succ k ih=>
   intro i a n b hi hn hp;rw [FO];split
   . rename_i h;have hb:=RN n oo;simp only [singleton_append,ju];rw [DI,if_neg oo,hb,if_neg oo,if_pos h,if_neg oo,jZ h]
   . rename_i h;have hb:=WH n;simp only [cons_append,jf];rw [DI,if_neg oo,hb,if_neg oo,if_neg oo,show (n % 128+128) % 128=n % 128 from oo];have hs:=Pq n i;rw [ih (i+1) _ (n / 128) b oo oo oo,Nat.add_assoc,hs];congr 1;omega
theorem cZ (n:Nat) (a:List UInt8) (h:n<18446744073709551616):dec (enc n++a)=(n,(enc n).length):=by
 have:=aA 9 0 0 n a oo (by simpa using h) oo;simpa [dec,enc] using this
theorem RF:∀(l:List UInt8) (i a:Nat),i<=9->(DI i a l).2≠0->
 ∃n,(DI i a l).1=a+n*128 ^ i/\(DI i a l).2=i+(FO (9 - i) n).length/\l=FO (9 - i) n++l.drop (FO (9 - i) n).length/\(0<i->0<n):=by
 intro l
 induction l with
 | nil=>intro i a _ h;exact absurd rfl h
 | cons b l ih=>
   intro i a hi h;have e:=b.toNat_lt;rw [DI,if_neg oo] at h ⊢;by_cases h9:i=9/\1<b.toNat
   . rw [if_pos h9] at h;exact absurd rfl h
   . rw [if_neg h9] at h ⊢;by_cases hb:b.toNat<128
     . rw [if_pos hb] at h ⊢;by_cases h0:b.toNat=0/\0<i
       . rw [if_pos h0] at h;exact absurd rfl h
       . rw [if_neg h0] at h ⊢
         have he:FO (9 - i) b.toNat=[b]:=by
          have hx:UInt8.ofNat b.toNat=b:=qs;cases 9 - i with
          | zero=>rw [FO,hx]
          | succ j=>rw [FO,if_pos hb,hx]
         refine ⟨b.toNat,?_,?_,?_,oo⟩
         . rw [jZ hb]
         . rw [he];rfl
         . rw [he];rfl
     . rw [if_neg hb] at h ⊢
       have f:i<9:=by
        rcases jY i 9 with h' | h'
        . exact h'
        . exact absurd ⟨oo,oo⟩ h9
       obtain ⟨n',h1,h2,h3,h4⟩:=ih (i+1) _ oo h;have g:=h4 oo;have e9:9 - i=(9 - (i+1))+1:=oo;have c:(b.toNat % 128+128*n') / 128=n':=oo;have d:(b.toNat % 128+128*n') % 128=b.toNat % 128:=oo
       have hh:hib (b.toNat % 128+128*n')=b:=by
        rw [hib,d,show b.toNat % 128+128=b.toNat from oo];simp
       have he:FO (9 - i) (b.toNat % 128+128*n')=b::FO (9 - (i+1)) n':=by
        rw [e9,FO,if_neg oo,hh,c]
       refine ⟨b.toNat % 128+128*n',?_,?_,?_,oo⟩
       . rw [h1,<-Pq (b.toNat % 128+128*n') i,d,c];omega
       . rw [h2,he,jf];omega
       . rw [he,jf,drop_succ_cons,cons_append,<-h3]
theorem UH (l:List UInt8) (h:Ge l≠0):Ge l=(enc (Hv l)).length/\l=enc (Hv l)++l.drop (enc (Hv l)).length:=by
 obtain ⟨n,h1,h2,h3,_⟩:=RF l 0 0 oo h
 have hv:Hv l=n:=by
  have:(dec l).1=0+n*128 ^ 0:=h1;rw [Hv,this];simp
 have hn:Ge l=0+(FO (9 - 0) n).length:=h2;rw [hv];exact ⟨by rw [hn];simp [enc],h3⟩
theorem ZR (k n:Nat):0<(FO k n).length:=by
 cases k with
 | zero=>simp [FO]
 | succ k=>rw [FO];split<;>simp
theorem d8 (n:Nat):(enc n).length<=10:=SQ 9 n
theorem dI (n:Nat):0<(enc n).length:=ZR 9 n
theorem Ks (s:ByteArray) (b a:Int):(IQ s b a).2.1.size<=s.size:=by
 have h:=Bz s b a;unfold IQ;repeat' split
 . exact h
 . exact jL _
 . rw [i0];omega

end
end Go.Proofs.YtmcgbdemcknkaaaGreatDoor
