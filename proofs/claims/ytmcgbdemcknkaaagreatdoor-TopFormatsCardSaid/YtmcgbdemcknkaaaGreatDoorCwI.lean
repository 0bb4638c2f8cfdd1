/- Parts of the proof (packed), 9. -/
import Derived.StillTailTactics
import Derived.Test.YtmcgbdemcknkaaaGreatDoorCwG
namespace Go.Proofs.YtmcgbdemcknkaaaGreatDoor
set_option linter.all false
set_option maxRecDepth 100000
set_option maxHeartbeats 16000000
open List
section
open Go.RowKit
def sh1 (c:BitVec 32):BitVec 32:=if c.getLsbD 0=true then (c>>>1) ^^^ 0x82F63B78#32 else c>>>1
def shN:Nat->BitVec 32->BitVec 32
 | 0,c=>c
 | n+1,c=>shN n (sh1 c)
theorem Vb (m n:Nat):∀c,shN (m+n) c=shN n (shN m c):=by
 induction m with
 | zero=>intro c;rw [kF];rfl
 | succ m ih=>intro c;rw [show m+1+n=(m+n)+1 from oo];exact ih (sh1 c)
theorem QJ (n:Nat) (c:BitVec 32):shN (n+1) c=sh1 (shN n c):=by rw [Vb];rfl
theorem Mr (c:BitVec 32):sh1 c=(c>>>1) ^^^ (if c.getLsbD 0=true then 0x82F63B78#32 else 0#32):=by
 unfold sh1;split
 . rfl
 . rw [BitVec.xor_zero]
theorem eO (a b p q:BitVec 32):(a ^^^ b) ^^^ (p ^^^ q)=(a ^^^ p) ^^^ (b ^^^ q):=by
 rw [BitVec.xor_assoc,BitVec.xor_assoc,<-BitVec.xor_assoc b p q,BitVec.xor_comm b p,BitVec.xor_assoc p b q]
theorem eK (a b:BitVec 32):sh1 (a ^^^ b)=sh1 a ^^^ sh1 b:=by
 rw [Mr,Mr,Mr,BitVec.getLsbD_xor,BitVec.ushiftRight_xor_distrib,<-eO];congr 1;cases a.getLsbD 0<;>cases b.getLsbD 0<;>simp
theorem Vv (n:Nat):∀a b,shN n (a ^^^ b)=shN n a ^^^ shN n b:=by
 induction n with
 | zero=>intro a b;rfl
 | succ n ih=>intro a b;show shN n (sh1 (a ^^^ b))=_;rw [eK,ih];rfl
theorem VO (c:BitVec 32) (h:c.getLsbD 0=false):sh1 c=c>>>1:=by unfold sh1;rw [if_neg (by rw [h];simp)]
theorem dA (c:BitVec 32):∀n,(∀i,i<n->c.getLsbD i=false)->shN n c=c>>>n:=by
 intro n
 induction n with
 | zero=>intro _;rw [BitVec.ushiftRight_zero];rfl
 | succ n ih=>
   intro h;rw [QJ,ih (λi hi=>h i oo),VO _ (by rw [BitVec.getLsbD_ushiftRight];exact h (n+0) oo),BitVec.shiftRight_add]
def nib (x b:BitVec 32):BitVec 32:=(x>>>4) ^^^ shN 4 ((x ^^^ b) &&& 15#32)
theorem NV (i:Nat):(15#32).getLsbD i=decide (i<4):=by
 rcases jY i 32 with h | h
 . have:∀i:Fin 32,(15#32).getLsbD i.1=decide (i.1<4):=qd;exact this ⟨i,h⟩
 . rw [BitVec.getLsbD_of_ge _ _ h,ir oo]
theorem aC (x b:BitVec 32) (hb:b>>>4=0#32):nib x b=shN 4 (x ^^^ b):=by
 obtain ⟨y,hy⟩:∃y,x ^^^ b=y:=⟨_,rfl⟩;have hx:x>>>4=y>>>4:=by rw [<-hy,BitVec.ushiftRight_xor_distrib,hb,BitVec.xor_zero]
 unfold nib;rw [hx,hy]
 have hs:y=(y &&& 15#32) ^^^ (y &&& ~~~15#32):=by
  ext i hi;rw [<-BitVec.getLsbD_eq_getElem,<-BitVec.getLsbD_eq_getElem,BitVec.getLsbD_xor,BitVec.getLsbD_and,BitVec.getLsbD_and,BitVec.getLsbD_not,NV];by_cases h:i<4<;>simp [h,hi]
 have hl:shN 4 (y &&& ~~~15#32)=y>>>4:=by
  rw [dA _ 4 (λi hi=>by rw [BitVec.getLsbD_and,BitVec.getLsbD_not,NV,iq hi];simp)];ext i hi;rw [<-BitVec.getLsbD_eq_getElem,<-BitVec.getLsbD_eq_getElem,BitVec.getLsbD_ushiftRight,BitVec.getLsbD_ushiftRight,BitVec.getLsbD_and,BitVec.getLsbD_not,NV,ir (show ¬(4+i<4) from oo)];rcases jY (4+i) 32 with h | h
  . rw [iq h];simp
  . rw [BitVec.getLsbD_of_ge _ _ h];rfl
 conv=>rhs;rw [hs]
 rw [Vv,hl,BitVec.xor_comm]
def Dx (c:UInt8):BitVec 32:=BitVec.ofNat 32 c.toNat
def Vs (x:BitVec 32) (c:UInt8):BitVec 32:=shN 8 (x ^^^ Dx c)
theorem T2:∀c:UInt8,Dx c=(Dx c &&& 15#32) ^^^ ((Dx c>>>4)<<<4)/\(Dx c &&& 15#32)>>>4=0#32/\(Dx c>>>4)>>>4=0#32/\shN 4 ((Dx c>>>4)<<<4)=Dx c>>>4:=by
 intro c;have a:∀n:Fin 256,(BitVec.ofNat 32 n.1=(BitVec.ofNat 32 n.1 &&& 15#32) ^^^ ((BitVec.ofNat 32 n.1>>>4)<<<4))/\(BitVec.ofNat 32 n.1 &&& 15#32)>>>4=0#32/\(BitVec.ofNat 32 n.1>>>4)>>>4=0#32/\shN 4 ((BitVec.ofNat 32 n.1>>>4)<<<4)=BitVec.ofNat 32 n.1>>>4:=by decide+kernel
 exact a ⟨c.toNat,c.toNat_lt⟩
theorem dh (x:BitVec 32) (c:UInt8):nib (nib x (Dx c &&& 15#32)) (Dx c>>>4)=Vs x c:=by
 obtain ⟨h1,h2,h3,h4⟩:=T2 c;rw [aC _ _ h3,aC _ _ h2];unfold Vs;conv=>rhs;rw [h1]
 rw [<-BitVec.xor_assoc,show (8:Nat)=4+4 from rfl,Vb,Vv 4 (x ^^^ (Dx c &&& 15#32)),h4]
def Oe (s:List UInt8) (x:BitVec 32):BitVec 32:=s.foldl Vs x
def Hq (s:ByteArray):BitVec 32:= ~~~(Oe s.data.toList (~~~0#32))
theorem Wx (s:ByteArray) (k:Nat) (h:k<s.size) (x:BitVec 32):Oe (s.data.toList.take (k+1)) x=Vs (Oe (s.data.toList.take k) x) s[k]:=by
 unfold Oe;rw [ic (by simpa using h),jc];rfl
def u32 (x:BitVec 32):Int:=(x.toNat:Int)
theorem An (x:BitVec 32):0<=u32 x/\u32 x<=4294967295:=by unfold u32;have:=x.isLt;omega
theorem Hn {x y:BitVec 32} (h:u32 x=u32 y):x=y:=by
 unfold u32 at h;exact BitVec.eq_of_toNat_eq oo
theorem Fj (x:BitVec 32):BitVec.ofInt 32 (u32 x)=x:=by
 unfold u32;rw [BitVec.ofInt_natCast];rw [BitVec.ofNat_toNat,BitVec.setWidth_eq]
theorem NW (x:BitVec 32):IntKind.u32.wrap (x.toNat:Int)=u32 x:=by
 have:=x.isLt;unfold u32;simp only [IntKind.wrap,IntKind.signed,IntKind.bits];simp;omega
theorem MJ (x y:BitVec 32):bits .xor .u32 (u32 x) (u32 y)=u32 (x ^^^ y):=by
 show IntKind.u32.wrap ((BitVec.ofInt 32 (u32 x) ^^^ BitVec.ofInt 32 (u32 y)).toNat:Int)=_;rw [Fj,Fj,NW]
theorem QS (x y:BitVec 32):bits .and .u32 (u32 x) (u32 y)=u32 (x &&& y):=by
 show IntKind.u32.wrap ((BitVec.ofInt 32 (u32 x) &&& BitVec.ofInt 32 (u32 y)).toNat:Int)=_;rw [Fj,Fj,NW]
theorem fY (x y:BitVec 32):bits .or .u32 (u32 x) (u32 y)=u32 (x ||| y):=by
 show IntKind.u32.wrap ((BitVec.ofInt 32 (u32 x) ||| BitVec.ofInt 32 (u32 y)).toNat:Int)=_;rw [Fj,Fj,NW]
theorem MB (x:BitVec 32) (n:Nat):u32 x / 2 ^ n=u32 (x>>>n):=by
 unfold u32;rw [BitVec.toNat_ushiftRight,Nat.shiftRight_eq_div_pow];norm_cast
theorem VP (x:BitVec 32):bits .xor .u32 4294967295 (u32 x)=u32 (~~~x):=by
 rw [show (4294967295:Int)=u32 (~~~0#32) from qd,MJ];congr 1

def b8 (n:Nat):UInt8:=UInt8.ofNat n
theorem Ba (n:Nat):(b8 n).toNat=n % 256:=by unfold b8;rw [UInt8.toNat_ofNat']
def Bl (x:BitVec 32):ByteArray:=⟨#[b8 x.toNat,b8 (x.toNat / 256),b8 (x.toNat / 65536),b8 (x.toNat / 16777216)]⟩
theorem Ac (x:BitVec 32):(Bl x).size=4:=rfl
def at8 (s:ByteArray) (i:Nat):Nat:=(s.data.getD i 0).toNat
theorem FP (s:ByteArray) (i:Nat):at8 s i<256:=UInt8.toNat_lt _
def YT (s:ByteArray):Nat:=if s.size=4 then at8 s 0+256*at8 s 1+65536*at8 s 2+16777216*at8 s 3 else 0
theorem eZ (s:ByteArray):YT s<4294967296:=by
 unfold YT;have:=FP s 0;have:=FP s 1;have:=FP s 2;have:=FP s 3;split<;>omega
def Dn (s:ByteArray):BitVec 32:=BitVec.ofNat 32 (YT s)
theorem N7 (s:ByteArray):(Dn s).toNat=YT s:=by
 unfold Dn;rw [ji];exact jZ (eZ s)
theorem Gx (x:BitVec 32):Dn (Bl x)=x:=by
 apply BitVec.eq_of_toNat_eq;rw [N7];have hx:=x.isLt;show (if (Bl x).size=4 then (b8 x.toNat).toNat+256*(b8 (x.toNat / 256)).toNat+65536*(b8 (x.toNat / 65536)).toNat+16777216*(b8 (x.toNat / 16777216)).toNat else 0)=_;rw [if_pos (Ac x),Ba,Ba,Ba,Ba];omega
def AO (n:Nat):ByteArray:=⟨(List.replicate n (0:UInt8)).toArray⟩
theorem BS (n:Nat):(AO n).size=n:=by simp [AO,ByteArray.size]
def Bt (d:ByteArray):ByteArray:=d.extract 0 128++AO (128 - d.size)
theorem D9 (d:ByteArray):(Bt d).size=128:=by unfold Bt;rw [io,BS,i0];omega
theorem Ji (d:ByteArray) (h:d.size=128):Bt d=d:=by
 unfold Bt;rw [h,<-h,ByteArray.extract_zero_size,show AO (d.size - d.size)=⟨#[]⟩ from by rw [Nat.sub_self];rfl];exact j3
def FI (i:Int):BitVec 32:=BitVec.ofInt 32 i
def Vf (s:ByteArray):ByteArray:=s++Bl (Hq s)
def Ib (d:ByteArray) (v:BitVec 32) (i:Int):ByteArray:=Bt d++Bl v++Bl (FI i)
def Ak (d:ByteArray) (v:BitVec 32) (i:Int):ByteArray:=Vf (Ib d v i)
theorem Jf (d:ByteArray) (v:BitVec 32) (i:Int):(Ib d v i).size=136:=by unfold Ib;rw [io,io,D9,Ac,Ac]
theorem Bc (d:ByteArray) (v:BitVec 32) (i:Int):(Ak d v i).size=140:=by unfold Ak Vf;rw [io,Jf,Ac]
def okR (s:ByteArray) (i:Int):Prop:=s.size=140/\Dn (s.extract 136 140)=Hq (s.extract 0 136)/\Dn (s.extract 132 136)=FI i
instance (s:ByteArray) (i:Int):Decidable (okR s i):=by unfold okR;exact inferInstance
def Db (s:ByteArray) (i:Int):ByteArray × BitVec 32 × Int:=if okR s i then (s.extract 0 128,Dn (s.extract 128 132),0) else (⟨#[]⟩,0#32,11)
theorem DS (a b:ByteArray) (n:Nat) (h:a.size=n):(a++b).extract 0 n=a:=by subst h;exact ByteArray.extract_append_eq_left rfl
theorem E1 (a b:ByteArray) (n m:Nat) (h:a.size=n) (h2:n+b.size=m):(a++b).extract n m=b:=by subst h;exact ByteArray.extract_append_eq_right rfl h2.symm
theorem NG (a b:ByteArray) (i j:Nat) (h:j<=a.size):(a++b).extract i j=a.extract i j:=by
 rw [ByteArray.extract_append,Nat.sub_eq_zero_of_le h];rw [show b.extract (i - a.size) 0=ByteArray.empty from by rw [<-ByteArray.size_eq_zero_iff,i0];omega];exact j3
theorem OT (d:ByteArray) (v:BitVec 32) (i:Int):(Ak d v i).extract 0 136=Ib d v i/\(Ak d v i).extract 136 140=Bl (Hq (Ib d v i))/\(Ak d v i).extract 0 128=Bt d/\(Ak d v i).extract 128 132=Bl v/\(Ak d v i).extract 132 136=Bl (FI i):=by
 have hb:=Jf d v i;have h0:(Bt d++Bl v).size=132:=by rw [io,D9,Ac]
 unfold Ak Vf;refine ⟨DS _ _ _ hb,E1 _ _ _ _ hb rfl,?_,?_,?_⟩
 . rw [NG _ _ _ _ oo];unfold Ib;rw [NG _ _ _ _ oo];exact DS _ _ _ (D9 d)
 . rw [NG _ _ _ _ oo];unfold Ib;rw [NG _ _ _ _ oo];exact E1 _ _ _ _ (D9 d) rfl
 . rw [NG _ _ _ _ oo];unfold Ib;exact E1 _ _ _ _ h0 rfl
theorem YJ {i j:Int} (hi:0<=i/\i<4294967296) (hj:0<=j/\j<4294967296) (h:FI i=FI j):i=j:=by
 unfold FI at h;have h2:=ix BitVec.toNat h;rw [BitVec.toNat_ofInt,BitVec.toNat_ofInt] at h2;omega

theorem EM {a b:ByteArray} (h:a.data.toList=b.data.toList):a=b:=by
 obtain ⟨⟨l⟩⟩:=a;obtain ⟨⟨m⟩⟩:=b;exact ix (λl=>(⟨⟨l⟩⟩:ByteArray)) h
theorem Fz (s:ByteArray) (i j:Nat):(s.extract i j).data.toList=(s.data.toList.drop i).take (j - i):=by
 rw [ByteArray.data_extract,Array.toList_extract,extract_eq_take_drop]

inductive St where
 | put (i:Int) (s:ByteArray)
 | sync
def stD (D:Dev) (sy ep:Int):St->Dev × Int
 | .put i s=>BJ D sy ep i s
 | .sync=>Cl D sy ep
def Bm (sy ep:Int):List St->Dev->Dev × Int
 | [],D=>(D,0)
 | t::l,D=>if (stD D sy ep t).2=0 then Bm sy ep l (stD D sy ep t).1 else stD D sy ep t
theorem Ih (sy ep:Int) (a b:List St):∀D,Bm sy ep (a++b) D=if (Bm sy ep a D).2=0 then Bm sy ep b (Bm sy ep a D).1 else Bm sy ep a D:=by
 induction a with
 | nil=>intro D;rfl
 | cons t a ih=>
   intro D;show (if (stD D sy ep t).2=0 then Bm sy ep (a++b) (stD D sy ep t).1 else stD D sy ep t)=_;by_cases h:(stD D sy ep t).2=0
   . rw [if_pos h,ih];show _=if (if (stD D sy ep t).2=0 then Bm sy ep a (stD D sy ep t).1 else stD D sy ep t).2=0 then Bm sy ep b (if (stD D sy ep t).2=0 then Bm sy ep a (stD D sy ep t).1 else stD D sy ep t).1 else (if (stD D sy ep t).2=0 then Bm sy ep a (stD D sy ep t).1 else stD D sy ep t);rw [if_pos h]
   . rw [if_neg h];show _=if (if (stD D sy ep t).2=0 then Bm sy ep a (stD D sy ep t).1 else stD D sy ep t).2=0 then Bm sy ep b (if (stD D sy ep t).2=0 then Bm sy ep a (stD D sy ep t).1 else stD D sy ep t).1 else (if (stD D sy ep t).2=0 then Bm sy ep a (stD D sy ep t).1 else stD D sy ep t);rw [if_neg h,if_neg h]
abbrev Wl:=List (Nat × ByteArray)
def puts (l:Wl):List St:=l.map λe=>.put (e.1:Int) e.2
def B8 (D:Dev) (l:Wl):Dev:=l.foldl (λD e=>AR D e.1 e.2) D
def wrs (sy:Int) (l:Wl):List Wr:=l.map λe=>⟨sy,e.1,e.2⟩
def okW (D:Dev) (l:Wl):Prop:=∀e∈l,e.1<D.st.length/\e.2.size=140
structure Calm (D:Dev) (sy ep:Int):Prop where
 ok:D.Ok
 live:D.failed=false
 plain:DA sy ep=true
 free:¬ep<D.fen sy
theorem ND (D:Dev) (i:Nat) (s:ByteArray) (hi:i<D.st.length) (j:Nat):(AR D i s).at j=if j=i then s else D.at j:=by
 unfold AR;split
 . rename_i h;by_cases hj:j=i
   . rw [if_pos hj,hj];exact h
   . rw [if_neg hj]
 . unfold Dev.at;show (D.st.set i s).getD j emp=_;rw [iu,kD];by_cases hj:j=i
   . subst hj;rw [if_pos rfl,if_pos hi,if_pos rfl];rfl
   . rw [if_neg (λh=>hj h.symm),if_neg hj,iu]
theorem cK (r:Wr) (a:ByteArray) (h1:r.data.size=140) (h2:a.size=140):L8 r 140 a=r.data:=by
 unfold L8;rw [<-h1,ByteArray.extract_zero_size,h1,h2];rw [show a.extract 140 140=ByteArray.empty from by rw [<-ByteArray.size_eq_zero_iff,i0];omega];exact j3
theorem EO (l:Wl):∀D,D.Ok->okW D l->EndKept D (B8 D l):=by
 induction l with
 | nil=>intro D h _;exact ⟨h,rfl,rfl,rfl,rfl,rfl⟩
 | cons e l ih=>
   intro D h hl;obtain ⟨h1,h2⟩:=hl e (jA ..);have hc:=JY h h1 h2;have k:=ih (AR D e.1 e.2) hc (λx hx=>by rw [C9];exact hl x (iz _ hx));exact ⟨k.ok,k.len.trans (C9 ..),k.pend.trans (Kg ..),k.fen.trans (Ld ..),k.fuse.trans (KH ..),k.failed.trans (F7 ..)⟩
def Ad:Wl->Nat->Option ByteArray
 | [],_=>none
 | e::l,i=>match Ad l i with
   | some s=>some s
   | none=>if i=e.1 then some e.2 else none
theorem G9 (l:Wl):∀D,okW D l->∀i,(B8 D l).at i=(Ad l i).getD (D.at i):=by
 induction l with
 | nil=>intro D _ i;rfl
 | cons e l ih=>
   intro D hl i;have h1:=(hl e (jA ..)).1;show (B8 (AR D e.1 e.2) l).at i=_;rw [ih _ (λx hx=>by rw [C9];exact hl x (iz _ hx)),ND D e.1 e.2 h1 i];have hE:Ad (e::l) i=match Ad l i with
    | some s=>some s
    | none=>if i=e.1 then some e.2 else none:=rfl
   rw [hE];cases Ad l i with
   | some s=>rfl
   | none=>by_cases h:i=e.1<;>simp [h]
theorem CW (l:Wl) (i:Nat) (h:∀e∈l,e.1≠i):Ad l i=none:=by
 induction l with
 | nil=>rfl
 | cons e l ih=>
   unfold Ad;rw [ih (λx hx=>h x (iz _ hx)),if_neg (λhe=>h e (jA ..) he.symm)]
theorem Ev (l:Wl) (hn:(l.map (·.1)).Nodup) (e:Nat × ByteArray) (he:e∈l):Ad l e.1=some e.2:=by
 induction l with
 | nil=>cases he
 | cons x l ih=>
   rw [map_cons,nodup_cons] at hn;unfold Ad;rcases jh.1 he with rfl | he
   . rw [CW l e.1 (λy hy h=>hn.1 (h▸List.mem_map_of_mem hy)),if_pos rfl]
   . rw [ih hn.2 he]
theorem bC {D:Dev} {sy ep:Int} (h:Calm D sy ep) (hf:D.fuse=none) (e:Nat × ByteArray) (he:e.1<D.st.length/\e.2.size=140):BJ D sy ep (e.1:Int) e.2=({ D with pend:=D.pend++[⟨sy,e.1,e.2⟩] },0):=by
 have ha:Ah D sy ep=(D,0):=by
  unfold Ah;rw [if_neg (by rw [h.live];simp),if_neg h.free];unfold JZ;rw [hf];rfl
 unfold BJ;rw [if_neg (by rw [h.plain];simp [he.2]),if_neg (by unfold FQ;simp;omega),ha];rfl
theorem dz {D:Dev} {sy ep:Int} (h:Calm D sy ep) (hf:D.fuse=none):Cl D sy ep=(Bs D (Fv sy) (λ_=>140),0):=by
 have ha:Ah D sy ep=(D,0):=by
  unfold Ah;rw [if_neg (by rw [h.live];simp),if_neg h.free];unfold JZ;rw [hf];rfl
 unfold Cl;rw [if_neg (by rw [h.plain];simp),ha];rfl
theorem Calm.pend {D:Dev} {sy ep:Int} (h:Calm D sy ep) (l:Wl) (hl:okW D l):Calm { D with pend:=D.pend++wrs sy l } sy ep:=by
 refine ⟨⟨h.ok.len,h.ok.pos,h.ok.lim,h.ok.st,h.ok.old,λr hr=>?_,h.ok.fen⟩,h.live,h.plain,h.free⟩;rcases ip.1 hr with hr | hr
 . exact h.ok.pend r hr
 . obtain ⟨e,he,rfl⟩:=ie.1 hr;have hp:=h.plain;unfold DA at hp;have a:=jC hp;exact ⟨(hl e he).1,(hl e he).2,a.1,a.2.1⟩
theorem XY (sy ep:Int) (l:Wl):∀D,Calm D sy ep->D.fuse=none->okW D l->Bm sy ep (puts l) D=({ D with pend:=D.pend++wrs sy l },0):=by
 induction l with
 | nil=>intro D _ _ _;show (D,0)=_;simp [wrs]
 | cons e l ih=>
   intro D h hf hl;have he:=hl e (jA ..);have hw:=bC h hf e he;show (if (BJ D sy ep (e.1:Int) e.2).2=0 then Bm sy ep (puts l) (BJ D sy ep (e.1:Int) e.2).1 else _)=_;rw [hw,if_pos rfl];have hc:Calm { D with pend:=D.pend++wrs sy [e] } sy ep:=h.pend [e] (λx hx=>by rw [ia.1 hx];exact he);have:=ih _ hc hf (λx hx=>hl x (iz _ hx));rw [show ({ D with pend:=D.pend++[⟨sy,e.1,e.2⟩] }:Dev)={ D with pend:=D.pend++wrs sy [e] } from rfl,this];simp [wrs]
theorem fI (sy:Int) (p:Wr->Bool) (hp:∀(i:Nat) s,p ⟨sy,i,s⟩=true) (l:Wl):∀(D:Dev) (k:Nat),D.Ok->okW D l->((wrs sy l).foldl (AV p (λ_=>140)) (D,k)).1=B8 D l:=by
 induction l with
 | nil=>intro D k _ _;rfl
 | cons e l ih=>
   intro D k h hl;obtain ⟨h1,h2⟩:=hl e (jA ..);show ((wrs sy l).foldl (AV p (λ_=>140)) (AV p (λ_=>140) (D,k) ⟨sy,e.1,e.2⟩)).1=B8 (AR D e.1 e.2) l;unfold AV;rw [if_pos (hp _ _)];show ((wrs sy l).foldl (AV p (λ_=>140)) (AR D e.1 (L8 ⟨sy,e.1,e.2⟩ 140 (D.at e.1)),k+1)).1=_;rw [cK ⟨sy,e.1,e.2⟩ _ h2 (IG h h1)];exact ih _ _ (JY h h1 h2) (λx hx=>by rw [C9];exact hl x (iz _ hx))
theorem Ns (sy:Int) (i:Nat) (s:ByteArray):Fv sy ⟨sy,i,s⟩=true:=iq rfl
theorem RQ (l:Wl) (P:List Wr):∀D:Dev,B8 { D with pend:=P } l={ B8 D l with pend:=P }:=by
 induction l with
 | nil=>intro D;rfl
 | cons e l ih=>
   intro D;show B8 (AR { D with pend:=P } e.1 e.2) l={ B8 (AR D e.1 e.2) l with pend:=P };rw [<-ih];congr 1;unfold AR;show (if D.at e.1=e.2 then _ else _)=_;split<;>rfl
theorem Te (sy:Int) (l:Wl):(wrs sy l).filter (λr=>!Fv sy r)=[]:=by
 rw [filter_eq_nil_iff];intro r hr;obtain ⟨e,_,rfl⟩:=ie.1 hr;rw [Ns];simp
theorem Fo (sy ep:Int) (l:Wl) (D:Dev) (h:Calm D sy ep) (hf:D.fuse=none) (hp:D.pend=[]) (hl:okW D l):Bm sy ep (puts l++[.sync]) D=(B8 D l,0):=by
 rw [Ih,XY sy ep l D h hf hl,if_pos rfl];show (if (Cl _ sy ep).2=0 then ((Cl _ sy ep).1,0) else Cl _ sy ep)=_;rw [dz (h.pend l hl) hf,if_pos rfl];congr 1;unfold Bs Co;rw [hp,nil_append];show ({ ((wrs sy l).foldl (AV (Fv sy) (λ_=>140)) ({ D with pend:=wrs sy l },0)).1 with pend:=(wrs sy l).filter λr=>!Fv sy r }:Dev)=_;have a:=h.pend l hl;rw [hp,nil_append] at a;rw [fI sy (Fv sy) (Ns sy) l { D with pend:=wrs sy l } 0 a.ok hl,Te,RQ];have:=(EO l D h.ok hl).pend;rw [hp] at this;show ({ B8 D l with pend:=[] }:Dev)=B8 D l;rw [<-this]
theorem Calm.kept {D E:Dev} {sy ep:Int} (h:Calm D sy ep) (k:EndKept D E):Calm E sy ep:=⟨k.ok,by rw [k.failed];exact h.live,h.plain,by rw [k.fen];exact h.free⟩

abbrev U32:=BitVec 32
def blankR:ByteArray:=AO 140
theorem EJ:blankR.size=140:=BS 140
def fld (s:ByteArray) (i:Nat):U32:=Dn (s.extract (4*i) (4*i+4))
def AM:List U32->ByteArray
 | []=>⟨#[]⟩
 | x::l=>Bl x++AM l
theorem EL (l:List U32):(AM l).size=4*l.length:=by
 induction l with
 | nil=>rfl
 | cons x l ih=>show (Bl x++AM l).size=_;rw [io,Ac,ih,jf];omega
theorem Tx (a b:List U32):AM (a++b)=AM a++AM b:=by
 induction a with
 | nil=>show AM b=ByteArray.empty++AM b;rw [kO]
 | cons x a ih=>show Bl x++AM (a++b)=(Bl x++AM a)++AM b;rw [ih,jq]
theorem Ed (a b:ByteArray) (i j:Nat) (h:a.size<=i):(a++b).extract i j=b.extract (i - a.size) (j - a.size):=by
 rw [ByteArray.extract_append];rw [show a.extract i j=ByteArray.empty from by rw [<-ByteArray.size_eq_zero_iff,i0];omega];exact kO
theorem UW (l:List U32):∀i (h:i<l.length),fld (AM l) i=l[i]:=by
 induction l with
 | nil=>intro i h;exact absurd h qs
 | cons x l ih=>
   intro i h;cases i with
   | zero=>
     show Dn ((Bl x++AM l).extract 0 4)=x;rw [DS _ _ 4 (Ac x),Gx]
   | succ i=>
     have hi:i<l.length:=by simpa using h
     show Dn ((Bl x++AM l).extract (4*(i+1)) (4*(i+1)+4))=l[i];rw [Ed _ _ _ _ (by rw [Ac];omega),Ac,show 4*(i+1) - 4=4*i from oo,show 4*(i+1)+4 - 4=4*i+4 from oo];exact ih i hi
structure Raw where
 data:ByteArray
 ver:U32
 ok:Bool
def KQ:Raw:=⟨⟨#[]⟩,0#32,false⟩
def AN (s:ByteArray) (i:Int):Raw:=if okR s i then ⟨s.extract 0 128,Dn (s.extract 128 132),true⟩ else KQ
theorem Ju (d:ByteArray) (v:U32) (i:Int):AN (Ak d v i) i=⟨Bt d,v,true⟩:=by
 obtain ⟨h1,h2,h3,h4,h5⟩:=OT d v i;unfold AN;rw [if_pos ⟨Bc d v i,by rw [h1,h2,Gx],by rw [h5,Gx]⟩,h3,h4,Gx]
theorem Rb (i:Nat) (h:i+4<=140):Dn (blankR.extract i (i+4))=0#32:=by
 have e:blankR.extract i (i+4)=AO 4:=by
  apply EM;rw [Fz];show ((List.replicate 140 (0:UInt8)).toArray.toList.drop i).take (i+4 - i)=(List.replicate 4 (0:UInt8)).toArray.toList;rw [drop_replicate,take_replicate,show min (i+4 - i) (140 - i)=4 from oo]
 rw [e];decide
theorem T8 (i:Int) (h:FI i≠0#32):¬okR blankR i:=by
 rintro ⟨_,_,h3⟩;rw [Rb 132 oo] at h3;exact h h3.symm
def IH (D:Dev) (j:Nat):ByteArray:=D.content (34+j)
def Gr (s:ByteArray):Int:=u32 (Dn (s.extract 132 136))
def IT (n:Nat) (m:U32) (s:ByteArray):Bool:=decide (okR s (Gr s)) && (Dn (s.extract 128 132)==m) && !(decide (32<Gr s) && (decide (Gr s<131) || decide ((n:Int)<=Gr s)))
def Cm (D:Dev) (c:Nat):List ByteArray:=(List.range c).map (IH D)
def AP:List ByteArray->ByteArray
 | []=>⟨#[]⟩
 | s::l=>s++AP l
def B7 (D:Dev):Raw:=AN (D.content 33) 33
def topI (D:Dev):Raw:=AN (D.content 0) 0
def Fh (D:Dev):Nat:=(fld (B7 D).data 1).toNat
def Ft (D:Dev):Bool:=(B7 D).ok && (fld (B7 D).data 0==(B7 D).ver) && decide (1<=Fh D/\Fh D<=97) && decide ((B7 D).data.extract 12 128=AO 116)
def NA (D:Dev):Bool:=(Cm D (Fh D)).all (IT D.st.length (B7 D).ver)
def XF (D:Dev):Bool:=decide (Hq (AP (Cm D (Fh D)))=fld (B7 D).data 2)
def V0 (D:Dev):Bool:=!(topI D).ok || ((B7 D).ver==(topI D).ver) || decide ((B7 D).ver.toNat=(topI D).ver.toNat+1)
def GP (D:Dev):Bool:=Ft D && (NA D && (XF D && V0 D))
def AU (D:Dev):List (Int × ByteArray):=if GP D=true then (Cm D (Fh D)).map λs=>(Gr s,s) else []
def CL (l:List (Int × ByteArray)):List St:=l.map (λe=>.put e.1 e.2)++[.sync,.put 33 blankR,.sync]
def B9 (D:Dev) (sy ep:Int):Dev × Bool × Int:=
 if D.failed=true then (D,false,10) else if AU D=[] then (D,false,0) else ((Bm sy ep (CL (AU D)) D).1,(Bm sy ep (CL (AU D)) D).2==0,(Bm sy ep (CL (AU D)) D).2)
def mapI (D:Dev) (k:Nat):Raw:=AN (D.content (1+k)) (1+k:Nat)
def datI (D:Dev) (i:Nat):Raw:=AN (D.content (131+i)) (131+i:Nat)
def Dl (D:Dev) (i:Nat):ByteArray × Int:=
 if (topI D).ok=false then (⟨#[]⟩,11) else if (mapI D (i / 32)).ok=false then (⟨#[]⟩,11) else if (mapI D (i / 32)).ver≠fld (topI D).data (i / 32) then (⟨#[]⟩,12)
 else if (datI D i).ok=false then (⟨#[]⟩,11) else if (datI D i).ver≠fld (mapI D (i / 32)).data (i % 32) then (⟨#[]⟩,12) else ((datI D i).data,0)
structure Img where
 n:Nat
 N:Nat
 ms:Nat->Nat
 vs:Nat->Nat
 cs:Nat->ByteArray
def Img.mv (I:Img) (k j:Nat):Nat:=if 32*k+j<I.n then I.vs (32*k+j) else 0
def nv (n:Nat):U32:=BitVec.ofNat 32 n
theorem Nc (n:Nat) (h:n<4294967296):(nv n).toNat=n:=by unfold nv;rw [ji];exact jZ h
def Img.tops (I:Img):List U32:=(List.range 32).map λk=>nv (I.ms k)
def Img.mapL (I:Img) (k:Nat):List U32:=(List.range 32).map λj=>nv (I.mv k j)
def Img.topR (I:Img):ByteArray:=Ak (AM I.tops) (nv I.N) 0
def Img.mapR (I:Img) (k:Nat):ByteArray:=Ak (AM (I.mapL k)) (nv (I.ms k)) (1+k:Nat)
def Img.datR (I:Img) (i:Nat):ByteArray:=Ak (I.cs i) (nv (I.vs i)) (131+i:Nat)
theorem gX (f:Nat->U32):Bt (AM ((List.range 32).map f))=AM ((List.range 32).map f):=Ji _ (by rw [EL];simp)
theorem PS (f:Nat->U32) (k:Nat) (h:k<32):fld (AM ((List.range 32).map f)) k=f k:=by
 rw [UW _ k (by simpa using h)];simp
structure Img.Ok (I:Img):Prop where
 n0:1<=I.n
 n1:I.n<=1024
 N:I.N<4294967296
 ms:∀k,I.ms k<=I.N
 vs:∀i,I.vs i<=I.N
 cs:∀i,i<I.n->(I.cs i).size=128
structure Holds (D:Dev) (I:Img):Prop where
 ok:D.Ok
 img:I.Ok
 len:D.st.length=131+I.n
 live:D.failed=false
 pend:D.pend=[]
 top:D.at 0=I.topR
 map:∀k,k<32->D.at (1+k)=I.mapR k
 dat:∀i,i<I.n->D.at (131+i)=I.datR i
structure Clean (D:Dev) (I:Img):Prop extends Holds D I where
 head:D.at 33=blankR
theorem Holds.content {D:Dev} {I:Img} (h:Holds D I) (i:Nat):D.content i=D.at i:=by unfold Dev.content;rw [h.pend];rfl
theorem Holds.topI {D:Dev} {I:Img} (h:Holds D I):topI D=⟨AM I.tops,nv I.N,true⟩:=by
 unfold Go.Proofs.YtmcgbdemcknkaaaGreatDoor.topI;rw [h.content,h.top];unfold Img.topR;rw [Ju];unfold Img.tops;rw [gX]
theorem Holds.mapI {D:Dev} {I:Img} (h:Holds D I) (k:Nat) (hk:k<32):mapI D k=⟨AM (I.mapL k),nv (I.ms k),true⟩:=by
 unfold Go.Proofs.YtmcgbdemcknkaaaGreatDoor.mapI;rw [h.content,h.map k hk];unfold Img.mapR;rw [Ju];unfold Img.mapL;rw [gX]
theorem Holds.datI {D:Dev} {I:Img} (h:Holds D I) (i:Nat) (hi:i<I.n):datI D i=⟨I.cs i,nv (I.vs i),true⟩:=by
 unfold Go.Proofs.YtmcgbdemcknkaaaGreatDoor.datI;rw [h.content,h.dat i hi];unfold Img.datR;rw [Ju,Ji _ (h.img.cs i hi)]
theorem Holds.look {D:Dev} {I:Img} (h:Holds D I) (i:Nat) (hi:i<I.n):Dl D i=(I.cs i,0):=by
 have hn:=h.img.n1;have hk:i / 32<32:=oo;unfold Dl;rw [h.topI,h.mapI _ hk,h.datI i hi,if_neg qs,if_neg qs,if_neg,if_neg qs,if_neg]
 . intro hc;apply hc;show nv (I.vs i)=fld (AM (I.mapL (i / 32))) (i % 32);unfold Img.mapL;rw [PS _ _ oo];unfold Img.mv;rw [show 32*(i / 32)+i % 32=i from oo,if_pos hi]
 . intro hc;apply hc;show nv (I.ms (i / 32))=fld (AM I.tops) (i / 32);unfold Img.tops;rw [PS _ _ hk]
theorem fV (i:Nat) (h:i≠0) (h2:i<4294967296):FI (i:Int)≠0#32:=by
 intro e;have:=YJ (i:=(i:Int)) (j:=0) oo oo (by rw [e];decide);omega
theorem NF (D:Dev) (h:(B7 D).ok=false):AU D=[]:=by
 unfold AU GP Ft;rw [h];rfl
theorem RO (D:Dev) (h:D.content 33=blankR):AU D=[]:=by
 apply NF;unfold B7 AN;rw [h,if_neg (T8 33 (fV 33 qd qd))];rfl
theorem Clean.noint {D:Dev} {I:Img} (h:Clean D I):AU D=[]:=RO D (by rw [h.content,h.head])
theorem E0 {D:Dev} {I:Img} (h:Clean D I) (sy ep:Int):B9 D sy ep=(D,false,0):=by
 unfold B9;rw [if_neg (by rw [h.live];simp),if_pos h.noint]

def wlI (l:Wl):List (Int × ByteArray):=l.map λe=>((e.1:Int),e.2)
def Fw (l:Wl):List ByteArray:=l.map (·.2)
def I6 (l:Wl) (v:U32):ByteArray:=Bl v++(Bl (nv l.length)++Bl (Hq (AP (Fw l))))
def GE (l:Wl) (v:U32):ByteArray:=Ak (I6 l v) v 33
def Cb (l:Wl):Wl:=(List.range l.length).map λj=>(34+j,(l.getD j (0,⟨#[]⟩)).2)
def Cw (l:Wl) (v:U32):List St:=(puts (Cb l)++[.sync])++((puts [(33,GE l v)]++[.sync])++((puts l++[.sync])++(puts [(33,blankR)]++[.sync])))
theorem WX (l:Wl):CL (wlI l)=(puts l++[.sync])++(puts [(33,blankR)]++[.sync]):=by
 unfold CL wlI puts;simp
theorem Qv (l:Wl) (v:U32):(I6 l v).size=12:=by
 unfold I6;rw [io,io,Ac,Ac,Ac]
structure Entries (n:Nat) (l:Wl) (v:U32):Prop where
 pack:∀e∈l,∃d,e.2=Ak d v (e.1:Int)
 place:∀e∈l,e.1<=32\/(131<=e.1/\e.1<n)
 pos:1<=l.length
 lim:l.length<=97
 nodup:(l.map (·.1)).Nodup
 bound:n<=1155
 low:131<=n
theorem Entries.lt {n:Nat} {l:Wl} {v:U32} (h:Entries n l v):∀e∈l,e.1<n/\e.2.size=140:=λe he=>by
 obtain ⟨d,hd⟩:=h.pack e he;have:=h.low;exact ⟨by rcases h.place e he with h1 | h1<;>omega,by rw [hd,Bc]⟩
theorem Jc (l:Wl) (e:Nat × ByteArray) (he:e∈Cb l):∃j,∃hj:j<l.length,e=(34+j,l[j].2):=by
 unfold Cb at he;obtain ⟨j,hj,rfl⟩:=ie.1 he;have a:=jB.1 hj;exact ⟨j,a,by rw [iu,iV a];rfl⟩
theorem I2 {D:Dev} {l:Wl} {v:U32} (h:Entries D.st.length l v):okW D (Cb l):=λe he=>by
 obtain ⟨j,hj,rfl⟩:=Jc l e he;have:=h.lim;have:=h.low;exact ⟨by show 34+j<_;omega,(h.lt _ (ib hj)).2⟩
theorem Kf (l:Wl):((Cb l).map (·.1)).Nodup:=by
 unfold Cb;rw [jt,Nodup,kE];exact nodup_range.imp (λ{a b} hab he=>hab (by simp only [Function.comp] at he;omega))
theorem bz (D:Dev) (l:Wl) (hl:okW D (Cb l)) (i:Nat):(B8 D (Cb l)).at i=if h:34<=i/\i<34+l.length then (l[i - 34]'oo).2 else D.at i:=by
 rw [G9 _ _ hl];split
 . rename_i h
   have hm:(i,(l[i - 34]'oo).2)∈Cb l:=by
    unfold Cb;refine ie.2 ⟨i - 34,jB.2 oo,?_⟩;rw [iu,iV oo];show (34+(i - 34),_)=_;rw [show 34+(i - 34)=i from oo];rfl
   rw [Ev _ (Kf l) _ hm];rfl
 . rename_i h;rw [CW _ _ (λe he hq=>by obtain ⟨j,hj,rfl⟩:=Jc l e he;simp only [] at hq;omega)];rfl
theorem bV (D:Dev) (i:Nat) (s:ByteArray) (hl:okW D [(i,s)]) (j:Nat):(B8 D [(i,s)]).at j=if j=i then s else D.at j:=by
 rw [G9 _ _ hl];show ((if j=i then some s else none:Option ByteArray)).getD _=_;by_cases h:j=i<;>simp [h]

def ph1 (D:Dev) (l:Wl):Dev:=B8 D (Cb l)
def ph2 (D:Dev) (l:Wl) (v:U32):Dev:=B8 (ph1 D l) [(33,GE l v)]
def ph3 (D:Dev) (l:Wl) (v:U32):Dev:=B8 (ph2 D l v) l
def ph4 (D:Dev) (l:Wl) (v:U32):Dev:=B8 (ph3 D l v) [(33,blankR)]
theorem GL {D:Dev} (h:131<=D.st.length) (s:ByteArray) (hs:s.size=140):okW D [(33,s)]:=λe he=>by
 rw [ia.1 he];exact ⟨by show 33<_;omega,hs⟩
theorem MQ {D:Dev} {l:Wl} {v:U32} (hd:D.Ok) (h:Entries D.st.length l v):EndKept D (ph1 D l)/\EndKept (ph1 D l) (ph2 D l v)/\EndKept (ph2 D l v) (ph3 D l v)/\EndKept (ph3 D l v) (ph4 D l v):=by
 have k1:=EO (Cb l) D hd (I2 h);have b:=h.low;have k2:EndKept (ph1 D l) (ph2 D l v):=EO _ (ph1 D l) k1.ok (GL (by have:=k1.len;show 131<=(B8 D (Cb l)).st.length;omega) _ (Bc ..));have a:okW (ph2 D l v) l:=λe he=>by rw [k2.len,show (ph1 D l).st.length=D.st.length from k1.len];exact h.lt e he
 have k3:EndKept (ph2 D l v) (ph3 D l v):=EO l (ph2 D l v) k2.ok a;have k4:EndKept (ph3 D l v) (ph4 D l v):=EO _ (ph3 D l v) k3.ok (GL (by rw [k3.len,k2.len,show (ph1 D l).st.length=D.st.length from k1.len];omega) _ EJ);exact ⟨k1,k2,k3,k4⟩
theorem K3 {D:Dev} {l:Wl} {v:U32} (hd:D.Ok) (h:Entries D.st.length l v):(ph1 D l).st.length=D.st.length/\(ph2 D l v).st.length=D.st.length/\(ph3 D l v).st.length=D.st.length/\(ph4 D l v).st.length=D.st.length:=by
 obtain ⟨k1,k2,k3,k4⟩:=MQ hd h;exact ⟨k1.len,k2.len.trans k1.len,k3.len.trans (k2.len.trans k1.len),k4.len.trans (k3.len.trans (k2.len.trans k1.len))⟩
theorem Ut {D:Dev} {l:Wl} {v:U32} {sy ep:Int} (h:Entries D.st.length l v) (hc:Calm D sy ep) (hf:D.fuse=none) (hp:D.pend=[]):Bm sy ep (Cw l v) D=(ph4 D l v,0):=by
 obtain ⟨k1,k2,k3,k4⟩:=MQ (v:=v) hc.ok h;obtain ⟨l1,l2,l3,l4⟩:=K3 (v:=v) hc.ok h;have a:=h.low;have c1:=hc.kept k1;have c2:=c1.kept k2;have c3:=c2.kept k3;have r1:=Fo sy ep (Cb l) D hc hf hp (I2 h);have r2:=Fo sy ep [(33,GE l v)] (ph1 D l) c1 (k1.fuse.trans hf) (k1.pend.trans hp) (GL oo _ (Bc ..));have r3:=Fo sy ep l (ph2 D l v) c2 (k2.fuse.trans (k1.fuse.trans hf)) (k2.pend.trans (k1.pend.trans hp)) (λe he=>by rw [l2];exact h.lt e he);have r4:=Fo sy ep [(33,blankR)] (ph3 D l v) c3 (k3.fuse.trans (k2.fuse.trans (k1.fuse.trans hf))) (k3.pend.trans (k2.pend.trans (k1.pend.trans hp))) (GL oo _ EJ);unfold Cw;rw [Ih,r1,if_pos rfl,Ih];rw [show B8 D (Cb l)=ph1 D l from rfl,r2,if_pos rfl,Ih];rw [show B8 (ph1 D l) [(33,GE l v)]=ph2 D l v from rfl,r3,if_pos rfl];rw [show B8 (ph2 D l v) l=ph3 D l v from rfl,r4];rfl
theorem cN {D:Dev} {l:Wl} {v:U32} (h:Entries D.st.length l v) (i:Nat):(ph1 D l).at i=if h:34<=i/\i<34+l.length then (l[i - 34]'oo).2 else D.at i:=bz D l (I2 h) i
theorem bJ {D:Dev} {l:Wl} {v:U32} (hd:D.Ok) (h:Entries D.st.length l v) (i:Nat):(ph2 D l v).at i=if i=33 then GE l v else (ph1 D l).at i:=by
 obtain ⟨l1,_⟩:=K3 (v:=v) hd h;have a:=h.low;exact bV (ph1 D l) 33 _ (GL oo _ (Bc ..)) i
theorem Yw {D:Dev} {l:Wl} {v:U32} (hd:D.Ok) (h:Entries D.st.length l v) (i:Nat):(ph3 D l v).at i=(Ad l i).getD ((ph2 D l v).at i):=by
 obtain ⟨_,l2,_⟩:=K3 (v:=v) hd h;exact G9 l _ (λe he=>by rw [l2];exact h.lt e he) i
theorem UI {D:Dev} {l:Wl} {v:U32} (hd:D.Ok) (h:Entries D.st.length l v) (i:Nat):(ph4 D l v).at i=if i=33 then blankR else (ph3 D l v).at i:=by
 obtain ⟨_,_,l3,_⟩:=K3 (v:=v) hd h;have a:=h.low;exact bV (ph3 D l v) 33 _ (GL oo _ EJ) i
theorem cX {D:Dev} {l:Wl} {v:U32} (hd:D.Ok) (h:Entries D.st.length l v) (i:Nat) (hi:i<=32\/131<=i):(ph4 D l v).at i=(Ad l i).getD (D.at i):=by
 have a:=h.lim;rw [UI hd h,if_neg oo,Yw hd h,bJ hd h,if_neg oo,cN h,dif_neg oo]
structure Takes (I:Img) (ws:Wl):Prop where
 lt:∀e∈ws,e.1<I.n/\e.2.size=128
 asc:ws.Pairwise λa b=>a.1<b.1
 pos:1<=ws.length
 lim:ws.length<=64
 room:I.N+1<4294967296
def ksW (ws:Wl):List Nat:=(List.range 32).filter λk=>ws.any λe=>e.1 / 32==k
def Img.upd (I:Img) (ws:Wl):Img where
 n:=I.n
 N:=I.N+1
 ms:=λk=>if (ws.any λe=>e.1 / 32==k)=true then I.N+1 else I.ms k
 vs:=λi=>if (Ad ws i).isSome=true then I.N+1 else I.vs i
 cs:=λi=>(Ad ws i).getD (I.cs i)
def FF (J:Img) (ws:Wl):Wl:=(0,J.topR)::((ksW ws).map (λk=>(1+k,J.mapR k))++ws.map λe=>(131+e.1,J.datR e.1))
theorem CT (ws:Wl) (k:Nat):k∈ksW ws↔k<32/\∃e∈ws,e.1 / 32=k:=by
 unfold ksW;rw [jV,jB,j6];simp
theorem Ws (ws:Wl):(ksW ws).Nodup:=nodup_range.filter _
theorem dT (ws:Wl):(ksW ws).length<=32:=by
 unfold ksW;refine ij (j5 _ _) ?_;simp
theorem L5 {I:Img} {ws:Wl} (h:Takes I ws):(ws.map (·.1)).Nodup:=by
 rw [Nodup,kE];exact h.asc.imp (λ{a b} hab=>oo)
theorem OH {I:Img} {ws:Wl} (h:Takes I ws) (J:Img):((FF J ws).map (·.1)).Nodup:=by
 unfold FF;rw [map_cons,il,jt,jt,nodup_cons];refine ⟨?_,jg.2 ⟨?_,?_,?_⟩⟩
 . intro hm;rcases ip.1 hm with hm | hm
   . obtain ⟨k,_,hk⟩:=ie.1 hm;simp only [Function.comp] at hk;omega
   . obtain ⟨e,_,he⟩:=ie.1 hm;simp only [Function.comp] at he;omega
 . rw [Nodup,kE];exact (Ws ws).imp (λ{a b} hab he=>hab (by simp only [Function.comp] at he;omega))
 . rw [Nodup,kE];exact h.asc.imp (λ{a b} hab he=>by simp only [Function.comp] at he;omega)
 . intro a ha b hb e;obtain ⟨k,hk,rfl⟩:=ie.1 ha;obtain ⟨x,_,rfl⟩:=ie.1 hb;have:=((CT ws k).1 hk).1;simp only [Function.comp] at e;omega
theorem Vo {I:Img} {ws:Wl} (hI:I.Ok) (h:Takes I ws):Entries (131+I.n) (FF (I.upd ws) ws) (nv (I.N+1)):=by
 refine ⟨?_,?_,by simp [FF],?_,OH h _,by have:=hI.n1;omega,oo⟩
 . intro e he;unfold FF at he;rcases jh.1 he with rfl | he
   . exact ⟨_,rfl⟩
   rcases ip.1 he with he | he
   . obtain ⟨k,hk,rfl⟩:=ie.1 he;obtain ⟨_,x,hx,a⟩:=(CT ws k).1 hk;refine ⟨AM ((I.upd ws).mapL k),?_⟩;unfold Img.mapR;rw [show (I.upd ws).ms k=I.N+1 from if_pos (j6.2 ⟨x,hx,by simpa using a⟩)]
   . obtain ⟨x,hx,rfl⟩:=ie.1 he;refine ⟨(I.upd ws).cs x.1,?_⟩;unfold Img.datR;rw [show (I.upd ws).vs x.1=I.N+1 from if_pos (by rw [Ev ws (L5 h) x hx];rfl)]
 . intro e he;unfold FF at he;rcases jh.1 he with rfl | he
   . left;show 0<=32;omega
   rcases ip.1 he with he | he
   . obtain ⟨k,hk,rfl⟩:=ie.1 he;have:=((CT ws k).1 hk).1;left;show 1+k<=32;omega
   . obtain ⟨x,hx,rfl⟩:=ie.1 he;have:=(h.lt x hx).1;right;show 131<=131+x.1/\131+x.1<131+I.n;omega
 . have h1:=dT ws;have h2:=h.lim;unfold FF;rw [jf,iy,iY,iY];omega
theorem gO {I:Img} {ws:Wl} (hI:I.Ok) (h:Takes I ws):(I.upd ws).Ok:=by
 refine ⟨hI.n0,hI.n1,h.room,λk=>?_,λi=>?_,λi hi=>?_⟩
 . have h1:=hI.ms k;unfold Img.upd;simp only [];split
   . exact iX _
   . exact Nat.le_succ_of_le h1
 . have h1:=hI.vs i;unfold Img.upd;simp only [];split
   . exact iX _
   . exact Nat.le_succ_of_le h1
 . show ((Ad ws i).getD (I.cs i)).size=128;cases hl:Ad ws i with
   | none=>exact hI.cs i hi
   | some s=>
     have:∀(l:Wl) (i:Nat) (s:ByteArray),Ad l i=some s->∃e∈l,e.1=i/\e.2=s:=by
      intro l
      induction l with
      | nil=>intro i s h;cases h
      | cons x l ih=>
        intro i s h;have hE:Ad (x::l) i=match Ad l i with
         | some s=>some s
         | none=>if i=x.1 then some x.2 else none:=rfl
        rw [hE] at h;cases h2:Ad l i with
        | some t=>
          rw [h2] at h;obtain ⟨e,he,h3,h4⟩:=ih i t h2;injection h with h;exact ⟨e,iz _ he,h3,h4.trans h⟩
        | none=>
          rw [h2] at h;simp only [] at h;split at h
          . rename_i hi;injection h with h;exact ⟨x,jA ..,hi.symm,h⟩
          . cases h
     obtain ⟨e,he,_,rfl⟩:=this ws i s hl;exact (h.lt e he).2
structure UpdAt (I:Img) (ws:Wl):Prop where
 top:Ad (FF (I.upd ws) ws) 0=some (I.upd ws).topR
 map:∀k∈ksW ws,Ad (FF (I.upd ws) ws) (1+k)=some ((I.upd ws).mapR k)
 mapN:∀k,k<32->k ∉ ksW ws->Ad (FF (I.upd ws) ws) (1+k)=none/\(I.upd ws).mapR k=I.mapR k/\(I.upd ws).ms k=I.ms k
 dat:∀e∈ws,Ad (FF (I.upd ws) ws) (131+e.1)=some ((I.upd ws).datR e.1)
 datN:∀i,(∀e∈ws,e.1≠i)->Ad (FF (I.upd ws) ws) (131+i)=none/\(I.upd ws).datR i=I.datR i/\(I.upd ws).vs i=I.vs i
theorem fg {I:Img} {ws:Wl} (ht:Takes I ws):UpdAt I ws:=by
 have c:=OH ht (I.upd ws);have b:∀e∈FF (I.upd ws) ws,Ad (FF (I.upd ws) ws) e.1=some e.2:=λe he=>Ev _ c e he;refine ⟨b (0,(I.upd ws).topR) (jA ..),λk hin=>b (1+k,(I.upd ws).mapR k) (iz _ (jQ _ (ie.2 ⟨k,hin,rfl⟩))),λk hk hin=>?_,λe he=>b (131+e.1,(I.upd ws).datR e.1) (iz _ (jI _ (ie.2 ⟨e,he,rfl⟩))),λi a=>?_⟩
 . have a:∀e∈ws,e.1 / 32≠k:=λe he hq=>hin ((CT ws k).2 ⟨hk,e,he,hq⟩)
   have hm:(I.upd ws).ms k=I.ms k:=if_neg (by
    rw [j6]
    rintro ⟨e,he,hq⟩
    exact a e he (by simpa using hq))
   have hv:(I.upd ws).mapL k=I.mapL k:=by
    unfold Img.mapL;apply jO;intro j hj;have d:=jB.1 hj;congr 1;unfold Img.mv;show (if 32*k+j<I.n then (if (Ad ws (32*k+j)).isSome=true then I.N+1 else I.vs (32*k+j)) else 0)=_;rw [CW ws _ (λe he hq=>a e he oo)];rfl
   refine ⟨CW _ _ (λe he hq=>?_),by unfold Img.mapR;rw [hm,hv],hm⟩;unfold FF at he;rcases jh.1 he with rfl | he
   . simp only [] at hq;omega
   rcases ip.1 he with he | he
   . obtain ⟨j,hj,rfl⟩:=ie.1 he;simp only [] at hq;have:j=k:=oo;subst this;exact hin hj
   . obtain ⟨x,_,rfl⟩:=ie.1 he;simp only [] at hq;omega
 . have hv:(I.upd ws).vs i=I.vs i:=if_neg (by rw [CW ws i a];simp);refine ⟨CW _ _ (λe he hq=>?_),by unfold Img.datR;rw [show (I.upd ws).cs i=I.cs i from by show (Ad ws i).getD _=_;rw [CW ws i a];rfl,hv],hv⟩;unfold FF at he;rcases jh.1 he with rfl | he
   . simp only [] at hq;omega
   rcases ip.1 he with he | he
   . obtain ⟨j,hj,rfl⟩:=ie.1 he;have:=((CT ws j).1 hj).1;simp only [] at hq;omega
   . obtain ⟨x,hx,rfl⟩:=ie.1 he;simp only [] at hq;exact a x hx oo
theorem X0 {D:Dev} {I:Img} {ws:Wl} (h:Holds D I) (ht:Takes I ws) (E:Dev) (hE:E.Ok) (c:E.st.length=D.st.length) (d:E.failed=false) (f:E.pend=[])
 (b:∀i,(i<=32\/131<=i)->E.at i=(Ad (FF (I.upd ws) ws) i).getD (D.at i)):Holds E (I.upd ws):=by
 have hu:=fg ht;refine ⟨hE,gO h.img ht,c.trans h.len,d,f,?_,λk hk=>?_,λi hi=>?_⟩
 . rw [b 0 oo,hu.top];rfl
 . rw [b (1+k) oo];by_cases a:k∈ksW ws
   . rw [hu.map k a];rfl
   . obtain ⟨h1,h2,_⟩:=hu.mapN k hk a;rw [h1,h2];exact h.map k hk
 . rw [b (131+i) oo];by_cases a:∃e∈ws,e.1=i
   . obtain ⟨e,he,rfl⟩:=a;rw [hu.dat e he];rfl
   . obtain ⟨h1,h2,_⟩:=hu.datN i (λe he hq=>a ⟨e,he,hq⟩);rw [h1,h2];exact h.dat i hi
theorem J1 {D:Dev} {I:Img} {ws:Wl} {sy ep:Int} (h:Clean D I) (ht:Takes I ws) (hc:Calm D sy ep) (hf:D.fuse=none):
 Bm sy ep (Cw (FF (I.upd ws) ws) (nv (I.N+1))) D=(ph4 D (FF (I.upd ws) ws) (nv (I.N+1)),0)/\Clean (ph4 D (FF (I.upd ws) ws) (nv (I.N+1))) (I.upd ws)/\
  (ph4 D (FF (I.upd ws) ws) (nv (I.N+1))).fen=D.fen/\(ph4 D (FF (I.upd ws) ws) (nv (I.N+1))).fuse=none:=by
 have he:=Vo h.img ht;rw [<-h.len] at he;obtain ⟨k1,k2,k3,k4⟩:=MQ h.ok he;have a:=(K3 h.ok he).2.2.2;have b:(ph4 D (FF (I.upd ws) ws) (nv (I.N+1))).pend=[]:=k4.pend.trans (k3.pend.trans (k2.pend.trans (k1.pend.trans h.pend)));refine ⟨Ut he hc hf h.pend,⟨X0 h.toHolds ht _ k4.ok a (k4.failed.trans (k3.failed.trans (k2.failed.trans (k1.failed.trans h.live)))) b (λi hi=>cX h.ok he i hi),?_⟩,k4.fen.trans (k3.fen.trans (k2.fen.trans k1.fen)),k4.fuse.trans (k3.fuse.trans (k2.fuse.trans (k1.fuse.trans hf)))⟩;rw [UI h.ok he,if_pos rfl]

def J8 (s:ByteArray) (j:Nat):UInt8:=s.data.toList.getD j 0
theorem XM (s:ByteArray) (i j k:Nat) (h:k<j - i):J8 (s.extract i j) k=J8 s (i+k):=by
 unfold J8;rw [Fz,iu,getElem?_take,if_pos h,getElem?_drop,iu]
theorem cP {a b:ByteArray} (hs:a.size=b.size) (h:∀j,j<a.size->J8 a j=J8 b j):a=b:=by
 apply EM;apply kR (by simpa using hs);intro j h1 h2;have:=h j (by simpa using h1);unfold J8 at this;rwa [iu,iu,iV h1,iV h2] at this

theorem ec (x:BitVec 32):bits .and .u32 (u32 x) 1=(if x.getLsbD 0=true then 1 else 0):=by
 rw [show (1:Int)=u32 1#32 from qd,QS];unfold u32;rw [BitVec.toNat_and];have e:(1#32).toNat=1:=rfl;rw [e,Nat.and_one_is_mod];have:x.getLsbD 0=decide (x.toNat % 2=1):=by rw [BitVec.getLsbD];simp [Nat.testBit_zero]
 rw [this];rcases Nat.mod_two_eq_zero_or_one x.toNat with h | h<;>rw [h]<;>simp
theorem dG (x:BitVec 32) (h:x.getLsbD 0=true):bits .xor .u32 (u32 x / 2) 2197175160=u32 (sh1 x):=by
 have:=MB x 1;rw [show (2:Int) ^ 1=2 from rfl] at this;rw [this,show (2197175160:Int)=u32 0x82F63B78#32 from qd,MJ];unfold sh1;rw [if_pos h]
theorem fZ (x:BitVec 32) (h:x.getLsbD 0=false):u32 x / 2=u32 (sh1 x):=by
 have:=MB x 1;rw [show (2:Int) ^ 1=2 from rfl] at this;rw [this,VO x h]
theorem X5 (c:BitVec 32) (n:Nat) (w:World) (hn:n<=64):
 Calls Tryz.prog 233 #[.int .u32 (u32 c),.int .i64 n] w λe w'=>e=.returned (.int .u32 (u32 (shN n c)))/\Grew w w':=by
 have hb:=An c;obtain ⟨X,hX⟩:∃X,u32 c=X:=⟨_,rfl⟩;rw [hX] at hb ⊢;have HX:=zh hX;clear hX;go_enter Tryz.func233,Tryz.ntmps233;go_wp2_with fail
 go_loopg [0,6] n (λgk x i wr=>∃k:Nat,k<=n/\gk=n - k/\i=.int .i64 k/\x=.int .u32 (u32 (shN k c))/\Grew w wr)
 case atStart=>exact ⟨0,oo,oo,rfl,by rw [<-HX.out];rfl,gG⟩
 case round=>
  obtain ⟨k,hk,d,rfl,rfl,hg⟩:=hrel;have b:=zh d;clear d;obtain ⟨y,hy⟩:∃y,shN k c=y:=⟨_,rfl⟩;rw [hy];have HY:=zh hy;clear hy;have g:=An y;have a:=ec y;by_cases h:k<n
  . rcases hyy:y.getLsbD 0 with _ | _
    . rw [hyy] at a;have hs:=fZ y hyy;have HS:=zh hs;rw [if_neg qs] at a;clear hyy;go_wp2_with fail
      go_roundg (n - (k+1))
      case measure=>rw [b.out];omega
      case rel=>exact ⟨k+1,oo,oo,by go_num,by rw [QJ,HY.out],gG⟩
    . rw [hyy] at a;have hs:=dG y hyy;have HS:=zh hs;rw [if_pos rfl] at a;clear hyy;go_wp2_with fail
      go_roundg (n - (k+1))
      case measure=>rw [b.out];omega
      case rel=>exact ⟨k+1,oo,oo,by go_num,by rw [QJ,HY.out],gG⟩
  . have f:k=n:=oo;subst f;go_wp2_with fail;go_ret;exact ⟨by rw [HY.out];rfl,gG⟩

def B3 (S:Nat->BitVec 32):Array Value:=((List.range 16).map λi=>Value.int .u32 (u32 (S i))).toArray
theorem C8 (S:Nat->BitVec 32):(B3 S).size=16:=by simp [B3]
theorem Ms (S:Nat->BitVec 32) (k:Nat) (h:k<16):(B3 S)[k]? =some (.int .u32 (u32 (S k))):=by
 simp [B3,iZ,jk,h]
theorem Um (S:Nat->BitVec 32) (k:Nat) (b:BitVec 32):(B3 S).setIfInBounds k (.int .u32 (u32 b))=B3 (λi=>if i=k then b else S i):=by
 simp only [B3,setIfInBounds_toArray];congr 1;apply kU;intro i;rw [kD];by_cases a:k=i
 . subst a;by_cases h:k<16
   . simp [h]
   . simp [h,jb]
 . rw [if_neg a];by_cases h:i<16
   . simp [iZ,jk,h,Ne.symm a]
   . rw [jb (by simp;omega),jb (by simp;omega)]
theorem Hm {S T:Nat->BitVec 32} (h:∀i,i<16->S i=T i):B3 S=B3 T:=by
 unfold B3;congr 1;apply jO;intro i hi;rw [h i (List.mem_range.mp hi)]
theorem NB (S:Nat->BitVec 32):(B3 S).all (·.oneCell')=true:=by
 rw [B3,all_toArray,jN];intro v hv;obtain ⟨i,_,rfl⟩:=List.mem_map.mp hv;rfl
def Gg (k:Nat):BitVec 32:=shN 4 (BitVec.ofNat 32 k)
theorem Wn (k:Nat) (h:k<16):u32 (BitVec.ofNat 32 k)=(k:Int):=by
 unfold u32;rw [ji,jZ oo]
theorem Sa (w:World):(zeroValue 304).run Tryz.prog w=.ok (.agg (B3 λ_=>0#32)) w:=qk
theorem KK:(Tryz.prog.info? 304).map (·.size)=some 16:=qk
theorem aO (k i:Nat):(if i=k then Gg k else if i<k then Gg i else 0#32)=if i<k+1 then Gg i else 0#32:=by
 by_cases h:i=k
 . subst h;rw [if_pos rfl,if_pos oo]
 . rw [if_neg h];by_cases h2:i<k
   . rw [if_pos h2,if_pos oo]
   . rw [if_neg h2,if_neg oo]
theorem VF (k:Nat) (hk:k<16) (w:World):
 Calls Tryz.prog 233 #[.int .u32 k,.int .i64 4] w λe w'=>e=.returned (.int .u32 (u32 (Gg k)))/\Grew w w':=by
 have:=X5 (BitVec.ofNat 32 k) 4 w oo;rw [Wn k hk] at this;exact this
theorem S9 (w:World):
 Calls Tryz.prog 210 #[] w λe w'=>e=.returned (.agg (B3 Gg))/\Grew w w':=by
 have hz:=Sa;go_enter Tryz.func210,Tryz.ntmps210;go_wp2_with fail;clear hz
 go_loopg [3] 16 (λgk i wr=>∃k:Nat,k<=16/\gk=16 - k/\i=.int .i64 k/\Blk wr w.heap.size 304 (B3 λ_=>0#32)/\Blk wr (w.heap.size+1) 304 (B3 λi=>if i<k then Gg i else 0#32)/\Grew w wr)
 case atStart=>exact ⟨0,oo,oo,rfl,gB,by (apply Blk.conv;(· (repeat' first | (with_reducible assumption) | (with_reducible apply Blk.setRow) | ((with_reducible apply Blk.farRow);rotate_left;(focus (first | (simp;done) | (simp;omega) | omega))) | (with_reducible apply Blk.drew) | (with_reducible apply Blk.drewN) | (with_reducible apply Blk.set_) | (with_reducible exact ik _ _ _ (by first | rfl | (simp;done) | (simp;omega))) | (with_reducible apply Blk.alloc) | ((with_reducible apply Blk.far);rotate_left;(focus (first | (simp;done) | (simp;omega) | omega))) | ((with_reducible apply Blk.grew);rotate_left;(with_reducible assumption)) | ((with_reducible apply Blk.turned);rotate_left;(with_reducible assumption);(focus (first | (simp;done) | (simp;omega) | omega))) | fail));(· exact Hm λi _=>qs)),gG⟩
 case round=>
  obtain ⟨k,hk,f,rfl,b,a,hg⟩:=hrel;have g:=zh f;clear f;have h:=a.lt;by_cases d:k<16
  . go_wp2_with fail;refine (VF k d _).mono ?_;rintro e w1 ⟨rfl,g1⟩;have j:=b.grew g1;have c:=a.grew g1;have l:Grew w w1:=gG;have ha:=c.cell k;rw [Ms _ _ oo] at ha;have hf:=c.frozen k;have m:=An (Gg k);go_wp2_with fail
    go_roundg (16 - (k+1))
    case measure=>rw [g.out];omega
    case rel=>exact ⟨k+1,oo,oo,by go_num,gB,by (apply Blk.conv;(· (repeat' first | (with_reducible assumption) | (with_reducible apply Blk.setRow) | ((with_reducible apply Blk.farRow);rotate_left;(focus (first | (simp;done) | (simp;omega) | omega))) | (with_reducible apply Blk.drew) | (with_reducible apply Blk.drewN) | (with_reducible apply Blk.set_) | (with_reducible exact ik _ _ _ (by first | rfl | (simp;done) | (simp;omega))) | (with_reducible apply Blk.alloc) | ((with_reducible apply Blk.far);rotate_left;(focus (first | (simp;done) | (simp;omega) | omega))) | ((with_reducible apply Blk.grew);rotate_left;(with_reducible assumption)) | ((with_reducible apply Blk.turned);rotate_left;(with_reducible assumption);(focus (first | (simp;done) | (simp;omega) | omega))) | fail));(· rw [Um];exact Hm λi _=>aO k i)),gG⟩
  . obtain rfl:k=16:=oo;have e0:B3 (λi=>if i<16 then Gg i else 0#32)=B3 Gg:=Hm λi hi=>by rw [if_pos hi]
    rw [e0] at a;clear e0;clear d;go_wp2_with (first | (refine AJ rfl 304 _ rfl (w.heap.size+1) rfl 304 (B3 Gg) _ a Tryz.underlying304 rfl (by rw [C8];exact KK) ?_) | (refine AF rfl 304 _ _ rfl w.heap.size (B3 Gg) rfl rfl 304 _ b (by rw [C8,C8]) (by rw [C8];exact KK) (NB _) ?_));refine im (results_cell_row rfl _ _ _ 304 (B3 Gg) (0,0) _ rfl (b.setRow _) Tryz.underlying304 rfl (by rw [C8];exact KK)) rfl ?_;exact ⟨rfl,gG⟩

theorem dU (x b:BitVec 32):∃k:Nat,k<16/\bits .and .u32 (u32 (x ^^^ b)) 15=(k:Int)/\(x ^^^ b) &&& 15#32=BitVec.ofNat 32 k:=by
 refine ⟨((x ^^^ b) &&& 15#32).toNat,?_,?_,?_⟩
 . rw [BitVec.toNat_and];exact Nat.lt_of_le_of_lt Nat.and_le_right qd
 . rw [show (15:Int)=u32 15#32 from qd,QS];rfl
 . rw [BitVec.ofNat_toNat,BitVec.setWidth_eq]
theorem dJ (x b:BitVec 32) (k:Nat) (h:(x ^^^ b) &&& 15#32=BitVec.ofNat 32 k):bits .xor .u32 (u32 x / 16) (u32 (Gg k))=u32 (nib x b):=by
 have:=MB x 4;rw [show (2:Int) ^ 4=16 from rfl] at this;rw [this,MJ];unfold nib Gg;rw [h]
theorem Q5 (x b:BitVec 32) (bx bt:Nat) (W:World) (g:bx≠bt) (hx:Blk W bx 199 #[.int .u32 (u32 x)]) (ht:Blk W bt 304 (B3 Gg)):
 Calls Tryz.prog 211 #[.int .u32 (u32 b),.pointer (some ⟨bx,0,none⟩),.pointer (some ⟨bt,0,none⟩)] W λe w'=>e=.returned (.tuple #[])/\Blk w' bx 199 #[.int .u32 (u32 (nib x b))]/\Turned (λi=>i=bx) W w':=by
 obtain ⟨k,hk,m,d⟩:=dU x b;have h:=dJ x b k d;have j:=MJ x b;have b1:=An x;have b2:=An b;have b3:=An (x ^^^ b);have b4:=An (Gg k);have b5:=An (nib x b);have HK:=zh d;clear d;go_enter Tryz.func211,Tryz.ntmps211;refine wp_region_still_tail 9 qk qk ?_;simp only [take_succ_cons,take_zero,drop_succ_cons,drop_zero];change wpStill _ _ (World.drew W) (λa'=>wpList _ _ _ _ a' (World.drew W)) _ _;obtain ⟨w2,a⟩:∃w',w'=World.drew W:=⟨_,rfl⟩;rw [<-a];have c:Blk w2 bx 199 #[.int .u32 (u32 x)]:=by rw [a];exact hx.drew
 have f:Blk w2 bt 304 (B3 Gg):=by rw [a];exact ht.drew
 have hT:Turned (λi=>i=bx) W w2:=by rw [a];exact (jD _ W).drew
 have HT:=zh hT;clear a hT hx ht;have h1:=c.lt;have h2:=f.lt;have x0:=c.cell 0;have t0:=f.cell k;rw [Ms _ _ oo] at t0;have f0:=c.frozen 0;have l:(k:Int)<16:=oo
 repeat still_step
 refine wpStill_nil ?_;go_wp2_with fail;refine bodyPost_end (results_none rfl _ _ _) rfl ?_;exact ⟨rfl,gB,HT.setCell (λ_=>rfl) _⟩

theorem fc (c:UInt8):bits .and .u32 (c.toNat:Int) 15=u32 (Dx c &&& 15#32):=by
 rw [show (15:Int)=u32 15#32 from qd,<-QS];congr 1;unfold u32 Dx;rw [ji,jZ (by have:=c.toNat_lt;omega)]
theorem gK (c:UInt8):(c.toNat:Int) / 16=u32 (Dx c>>>4):=by
 have:=MB (Dx c) 4;rw [show (2:Int) ^ 4=16 from rfl] at this;rw [<-this];congr 1;unfold u32 Dx;rw [ji,jZ (by have:=c.toNat_lt;omega)]

theorem YL (c:UInt8) (y:BitVec 32):∃p q Y1 Y2:Int,bits .and .u32 (c.toNat:Int) 15=p/\(c.toNat:Int) / 16=q/\(0<=p/\p<=4294967295)/\(0<=q/\q<=4294967295)/\Y2=u32 (nib (nib y (Dx c &&& 15#32)) (Dx c>>>4))/\
 (∀(bx bt:Nat) (W:World),bx≠bt->Blk W bx 199 #[.int .u32 (u32 y)]->Blk W bt 304 (B3 Gg)->Calls Tryz.prog 211 #[.int .u32 p,.pointer (some ⟨bx,0,none⟩),.pointer (some ⟨bt,0,none⟩)] W λe w'=>e=.returned (.tuple #[])/\Blk w' bx 199 #[.int .u32 Y1]/\Turned (λi=>i=bx) W w')/\
 (∀(bx bt:Nat) (W:World),bx≠bt->Blk W bx 199 #[.int .u32 Y1]->Blk W bt 304 (B3 Gg)->Calls Tryz.prog 211 #[.int .u32 q,.pointer (some ⟨bx,0,none⟩),.pointer (some ⟨bt,0,none⟩)] W λe w'=>e=.returned (.tuple #[])/\Blk w' bx 199 #[.int .u32 Y2]/\Turned (λi=>i=bx) W w'):=
 ⟨u32 (Dx c &&& 15#32),u32 (Dx c>>>4),u32 (nib y (Dx c &&& 15#32)),_,fc c,gK c,An _,An _,rfl,λbx bt W hne h1 h2=>Q5 y _ bx bt W hne h1 h2,λbx bt W hne h1 h2=>Q5 _ _ bx bt W hne h1 h2⟩
theorem eI (x:BitVec 32):bits .xor .u32 IntKind.u32.max (u32 x)=u32 (~~~x):=VP x
theorem Uz (x:BitVec 32) (s:ByteArray) (hs:s.size<=9223372036854775807) (w:World):
 Calls Tryz.prog 168 #[.int .u32 (u32 x),.string s] w λe w'=>e=.returned (.int .u32 (u32 (~~~(Oe s.data.toList (~~~x)))))/\Grew w w':=by
 have hz:=Sa;have n:bits .xor .u32 IntKind.u32.max (u32 x)=u32 (~~~x):=VP x;have b0:=An x;have b1:=An (~~~x);go_enter Tryz.func168,Tryz.ntmps168;go_wp2_with fail;refine (S9 _).mono ?_;rintro e w1 ⟨rfl,g1⟩;have hG:=g1;clear hz;go_wp2_with (first | (refine AF rfl 304 _ _ rfl w1.heap.size (B3 Gg) rfl rfl 304 (B3 λ_=>0#32) (ik w1 _ _ rfl) (by rw [C8,C8]) (by rw [C8];exact KK) (NB _) ?_))
 go_loopg [8] s.size (λgk i wr=>∃k:Nat,k<=s.size/\gk=s.size - k/\i=.int .i64 k/\Blk wr w1.heap.size 304 (B3 Gg)/\Blk wr (w1.heap.size+1) 199 #[.int .u32 (u32 (Oe (s.data.toList.take k) (~~~x)))]/\Grew w wr)
 case atStart=>exact ⟨0,oo,oo,rfl,gB,gB,by (first | (refine Grew.alloc ?_ _;exact (hG.alloc _).setRow (by have:=hG.size;omega) _) | (refine Grew.trans (hG.alloc _) ?_;skip))⟩
 case round=>
  obtain ⟨k,hk,g,rfl,c,a,hg⟩:=hrel;have o:=zh g;clear g n b0 b1;have G:=hG.size;by_cases E:k<s.size
  . have b:=Wx s k E (~~~x);obtain ⟨y,hy⟩:∃y,Oe (s.data.toList.take k) (~~~x)=y:=⟨_,rfl⟩;rw [hy] at a b;rw [<-dh] at b;have r:=zh b;obtain ⟨p,q,Y1,Y2,hp,hq,J,K,h,l,m⟩:=YL s[k] y;have t:=zh h;have hu:=s[k].toNat_lt;have u:=zh (l (w1.heap.size+1) w1.heap.size _ oo a c);have v:=zh m;have z:=zh c;have HG:=zh hg;clear b hy h l m c a hg;go_wp2_with fail;refine u.mono ?_;rintro e w2 ⟨rfl,f,t2⟩;have A:=zh f;have d:=zh (z.turned t2 (show ¬(w1.heap.size=w1.heap.size+1) from oo));have B:=zh t2;clear f t2;go_wp2_with fail;refine (v (w1.heap.size+1) w1.heap.size _ oo A d).mono ?_;rintro e w3 ⟨rfl,F,t3⟩;have C:=d.turned t3 (show ¬(w1.heap.size=w1.heap.size+1) from oo);have D:Grew w w3:=(((HG.turned (λi=>i=w1.heap.size+1)).trans B).trans t3).grew (λj hj (e:j=_)=>oo);go_wp2_with fail
    go_roundg (s.size - (k+1))
    case measure=>rw [o.out];omega
    case rel=>exact ⟨k+1,oo,oo,by go_num,C,by rw [r.out,<-t.out];exact F,D⟩
  . obtain rfl:k=s.size:=oo;have e0:s.data.toList.take s.size=s.data.toList:=by rw [i8 qs]
    rw [e0] at a;have H:=eI (Oe s.data.toList (~~~x));have v0:=a.cell 0;have v1:=An (Oe s.data.toList (~~~x));have v2:=An (~~~(Oe s.data.toList (~~~x)));have I:=a.lt;clear e0;go_wp2_with fail;go_ret;exact ⟨rfl,gG⟩

theorem I1 (W:World) (g cap n:Nat) (u:ByteArray) (hu:u.size=n) (hc:∀j (hj:j<u.size),W.cell? ⟨g,j,none⟩=some (.int .u8 (u[j].toNat:Int))):(convert 74 9 (.slice (some ⟨g,0,none⟩) n cap)).run Tryz.prog W=.ok (.string u) W:=by
 have h:=run_convert_bytes_back (P:=Tryz.prog) W 74 9 5 ⟨g,0,none⟩ cap u.data.toList Tryz.underlying74 Tryz.underlying5 Tryz.underlying9 (λj hj=>by
  have:(⟨g,0,none⟩:Addr).add j=⟨g,j,none⟩:=by unfold Addr.add;split<;>simp_all
  rw [this]
  exact hc j (by rw [jP] at hj;exact hj))
 have hl:u.data.toList.length=n:=by rw [jP];exact hu
 rw [hl] at h;exact h
theorem TT (w:World) (x:BitVec 32):
 (convert 74 9 (.slice (some ⟨w.heap.size,0,none⟩) 4 4)).run Tryz.prog (w.alloc (.cells #[.int .u8 (u32 x % 256),.int .u8 (u32 x / 256 % 256),.int .u8 (u32 x / 65536 % 256),.int .u8 (u32 x / 16777216)] 5))=.ok (.string (Bl x)) (w.alloc (.cells #[.int .u8 (u32 x % 256),.int .u8 (u32 x / 256 % 256),.int .u8 (u32 x / 65536 % 256),.int .u8 (u32 x / 16777216)] 5)):=by
 refine I1 _ _ 4 4 (Bl x) (Ac x) (λj hj=>?_);rw [(ik w 5 #[.int .u8 (u32 x % 256),.int .u8 (u32 x / 256 % 256),.int .u8 (u32 x / 65536 % 256),.int .u8 (u32 x / 16777216)] rfl).cell];have hx:=x.isLt;rw [Ac] at hj;unfold u32
 match j,hj with
 | 0,_=>show some (Value.int .u8 ((x.toNat:Int) % 256))=some (Value.int .u8 ((b8 x.toNat).toNat:Int));rw [Ba];rfl
 | 1,_=>show some (Value.int .u8 ((x.toNat:Int) / 256 % 256))=some (Value.int .u8 ((b8 (x.toNat / 256)).toNat:Int));rw [Ba];rfl
 | 2,_=>show some (Value.int .u8 ((x.toNat:Int) / 65536 % 256))=some (Value.int .u8 ((b8 (x.toNat / 65536)).toNat:Int));rw [Ba];rfl
 | 3,_=>show some (Value.int .u8 ((x.toNat:Int) / 16777216))=some (Value.int .u8 ((b8 (x.toNat / 16777216)).toNat:Int));rw [Ba,jZ oo];rfl
theorem Uy (a b:Nat) (ha:a<4294967296) (hb:b<4294967296):bits .or .u32 (a:Int) (b:Int)=((a ||| b:Nat):Int):=by
 have h1:(a:Int)=u32 (BitVec.ofNat 32 a):=by unfold u32;rw [ji,jZ ha]
 have h2:(b:Int)=u32 (BitVec.ofNat 32 b):=by unfold u32;rw [ji,jZ hb]
 rw [h1,h2,fY];unfold u32;rw [BitVec.toNat_or,ji,ji,jZ ha,jZ hb]
theorem Nj (a b i:Nat) (h:a<2 ^ i):a ||| b*2 ^ i=a+b*2 ^ i:=by
 have:=Nat.shiftLeft_add_eq_or_of_lt h b;rw [Nat.shiftLeft_eq] at this;rw [Nat.or_comm,<-this,Nat.add_comm]
theorem Z4 (s:ByteArray) (h:s.size=4):bits .or .u32 (bits .or .u32 (bits .or .u32 (((s[0]'oo).toNat:Int) % 4294967296) (((s[1]'oo).toNat:Int) % 4294967296*256 % 4294967296)) (((s[2]'oo).toNat:Int) % 4294967296*65536 % 4294967296)) (((s[3]'oo).toNat:Int) % 4294967296*16777216 % 4294967296)=u32 (Dn s):=by
 have e0:(s[0]'oo).toNat=at8 s 0:=by unfold at8;rw [Array.getD_eq_getD_getElem?,jR (show 0<s.data.size from by show 0<s.size;omega)];rfl
 have e1:(s[1]'oo).toNat=at8 s 1:=by unfold at8;rw [Array.getD_eq_getD_getElem?,jR (show 1<s.data.size from by show 1<s.size;omega)];rfl
 have e2:(s[2]'oo).toNat=at8 s 2:=by unfold at8;rw [Array.getD_eq_getD_getElem?,jR (show 2<s.data.size from by show 2<s.size;omega)];rfl
 have e3:(s[3]'oo).toNat=at8 s 3:=by unfold at8;rw [Array.getD_eq_getD_getElem?,jR (show 3<s.data.size from by show 3<s.size;omega)];rfl
 rw [e0,e1,e2,e3];unfold u32;rw [N7];unfold YT;rw [if_pos h];have h0:=FP s 0;have h1:=FP s 1;have h2:=FP s 2;have h3:=FP s 3;generalize at8 s 0=a at*
 generalize at8 s 1=b at*
 generalize at8 s 2=c at*
 generalize at8 s 3=d at*
 rw [show ((a:Int) % 4294967296)=((a:Nat):Int) from oo,show ((b:Int) % 4294967296*256 % 4294967296)=((b*2 ^ 8:Nat):Int) from oo,show ((c:Int) % 4294967296*65536 % 4294967296)=((c*2 ^ 16:Nat):Int) from oo,show ((d:Int) % 4294967296*16777216 % 4294967296)=((d*2 ^ 24:Nat):Int) from oo];rw [Uy _ _ oo oo,Nj _ _ 8 oo,Uy _ _ oo oo,Nj _ _ 16 oo,Uy _ _ oo oo,Nj _ _ 24 oo];omega
theorem Xb (s:ByteArray) (h:¬s.size=4):Dn s=0#32:=by unfold Dn YT;rw [if_neg h]
theorem MK (s:ByteArray) (hs:s.size<=9223372036854775807) (w:World):Calls Tryz.prog 132 #[.string s] w λe w'=>e=.returned (.int .u32 (u32 (Hq s)))/\Grew w w':=by
 have HU:=zh (Uz 0#32 s hs w);go_enter Tryz.func132,Tryz.ntmps132;go_wp2_with fail;refine HU.mono ?_;rintro e w1 ⟨rfl,g1⟩;go_wp2_with fail;go_ret;exact ⟨rfl,g1⟩
theorem Ez (x:BitVec 32) (w:World):Calls Tryz.prog 131 #[.int .u32 (u32 x)] w λe w'=>e=.returned (.string (Bl x))/\Grew w w':=by
 have hb:=An x;have a:=TT w x;go_enter Tryz.func131,Tryz.ntmps131;go_wp2_with fail;go_ret;exact ⟨rfl,gG⟩
theorem Dj (s:ByteArray) (hs:s.size<=9223372036854775807) (w:World):Calls Tryz.prog 167 #[.string s] w λe w'=>e=.returned (.int .u32 (u32 (Dn s)))/\Grew w w':=by
 by_cases h4:s.size=4
 . have a:((s.size:Int) != 4)=false:=by rw [h4];rfl
   have HN:=zh (Z4 s h4);go_enter Tryz.func167,Tryz.ntmps167;go_wp2_with fail
   go_quiet (fail)
   go_wp2_with fail;go_ret;exact ⟨Yh HN,gG⟩
 . have a:((s.size:Int) != 4)=true:=by simp;omega
   have HN:=zh (Xb s h4);go_enter Tryz.func167,Tryz.ntmps167;go_wp2_with fail;go_ret;exact ⟨by rw [HN.out];rfl,gG⟩

end
section
attribute [local go_sem ↓] Go.wp_at_zero Go.wp_at_succ
open Go.RowKit
theorem bg (s:ByteArray) (hs:s.size<=1000000) (w:World):Calls Tryz.prog 161 #[.string s] w λe w'=>e=.returned (.string (Vf s))/\Grew w w':=by
 have HU:=zh (MK s oo);have HB:=zh (Ez (Hq s));have hz:=Ac (Hq s);go_enter Tryz.func161,Tryz.ntmps161;go_wp2_with fail;refine (HU _).mono ?_;rintro e w1 ⟨rfl,g1⟩;go_wp2_with fail;refine (HB _).mono ?_;rintro e w2 ⟨rfl,g2⟩;go_wp2_with fail;go_ret;exact ⟨rfl,g1.trans g2⟩
def IY (s:ByteArray):ByteArray × Int:=if 4<=s.size/\Dn (s.extract (s.size - 4) s.size)=Hq (s.extract 0 (s.size - 4)) then (s.extract 0 (s.size - 4),0) else (⟨#[]⟩,11)
theorem X9 (s:ByteArray) (n:Nat) (h4:4<=s.size) (hn:s.size - 4=n) (h:Dn (s.extract n s.size)=Hq (s.extract 0 n)):IY s=(s.extract 0 n,0):=by
 subst hn;unfold IY;rw [if_pos ⟨h4,h⟩]
theorem bF (s:ByteArray) (n:Nat) (hn:s.size - 4=n) (h:¬Dn (s.extract n s.size)=Hq (s.extract 0 n)):IY s=(⟨#[]⟩,11):=by
 subst hn;unfold IY;rw [if_neg (λe=>h e.2)]
theorem R9 (s:ByteArray) (hs:s.size<=1000000) (w:World) (t:ByteArray) (er:Int) (hr:IY s=(t,er)):Calls Tryz.prog 227 #[.string s] w λe w'=>e=.returned (.tuple #[.string t,.int .i64 er])/\Grew w w':=by
 by_cases h4:4<=s.size
 . obtain ⟨n,hn⟩:∃n,s.size - 4=n:=⟨_,rfl⟩;have b:(s.size:Int) - 4=(n:Int):=oo;have hd:decide ((n:Int)<0)=false:=qs;have HN:=zh (Dj (s.extract n s.size) (by rw [i0];omega));have HS:=zh (MK (s.extract 0 n) (by rw [i0];omega));obtain ⟨p,hp⟩:∃p,Dn (s.extract n s.size)=p:=⟨_,rfl⟩;obtain ⟨q,hq⟩:∃q,Hq (s.extract 0 n)=q:=⟨_,rfl⟩;rw [hp] at HN;rw [hq] at HS;have HY:=zh (X9 s n h4 hn);have HZ:=zh (bF s n hn);rw [hp,hq] at HY HZ;have HR:=zh hr;clear hp hq hr;have hx:0<=n/\n<=s.size:=oo;clear hn;go_enter Tryz.func227,Tryz.ntmps227;go_wp2_with fail;refine AB [] (λw':World=>True) qk ?_;have hS:=trivial;refine tQ 0 8 ?_;refine tQ 1 9 ?_;refine tQ 2 10 ?_;refine tQ 3 11 ?_;refine tQ 4 12 ?_;refine tQ 5 13 ?_;refine tQ 7 15 ?_;refine tQ 8 16 ?_;refine tQ 9 17 ?_;refine tO 6 λK' hK=>?_;go_wp2_with fail;refine (HN _).mono ?_;rintro e w1 ⟨rfl,g1⟩;go_wp2_with fail;refine hK.out _ _ (.inr id) ?_;clear hK;refine tO 10 λK' hK=>?_;go_wp2_with fail;refine (HS _).mono ?_;rintro e w2 ⟨rfl,g2⟩;go_wp2_with fail;refine hK.out _ _ (.inr id) ?_;clear hK;refine tQ 11 19 ?_;refine tQ 12 20 ?_;refine AA qk ?_ _;have hg:Grew w w2:=((iW w).drew.trans g1).trans g2;by_cases a:p=q
   . have hb:(u32 p != u32 q)=false:=by rw [a];simp
     have h1:=HR.out;rw [HY.out a] at h1;injection h1 with h1 h2;subst h1;subst h2;clear a;go_wp2_with fail;go_ret2;exact ⟨rfl,hg⟩
   . have hb:(u32 p != u32 q)=true:=by rw [jH];exact λe=>a (Hn e)
     have h1:=HR.out;rw [HZ.out a] at h1;injection h1 with h1 h2;subst h1;subst h2;clear a;go_wp2_with fail;go_ret2;exact ⟨rfl,hg⟩
 . have hd:decide ((s.size:Int) - 4<0)=true:=by simp;omega
   have h1:IY s=(⟨#[]⟩,11):=by unfold IY;rw [if_neg (λe=>h4 e.1)]
   rw [h1] at hr;injection hr with h1 h2;subst h1;subst h2;go_enter Tryz.func227,Tryz.ntmps227;go_wp2_with fail;refine AB [] (λw':World=>True) qk ?_;have hS:=trivial;refine tQ 0 8 ?_;refine tQ 1 9 ?_;refine tQ 2 10 ?_;refine tU 3 (some 11) ?_;refine tU 4 (some 12) ?_;refine tU 5 (some 13) ?_;refine tU 6 (some 14) ?_;refine tU 7 (some 15) ?_;refine tU 8 (some 16) ?_;refine tU 9 (some 17) ?_;refine tU 10 (some 18) ?_;refine tU 11 (some 19) ?_;refine tQ 12 20 ?_;refine AA qk ?_ _;go_wp2_with fail;go_ret2;exact ⟨rfl,gG⟩

theorem bN:(Tryz.prog.info? 5).map (λi=>(i.zero,i.size,i.bytes))=some (some (.int .u8 0),1,1):=qk
theorem Yv:(Tryz.prog.info? 5).map (·.size)=some 1:=qk
def OD (b:UInt8):Value:=.int .u8 (b.toNat:Int)
def Al (s:ByteArray):Array Value:=(s.data.toList.map OD).toArray
theorem RE (s:ByteArray):(Al s).size=s.size:=by simp [Al]
theorem Hu (w:World) (n:Nat) (hn:n<=1000000):(Instr.makeSlice 74 (.int .i64 (n:Int)) (.int .i64 (n:Int))).run Tryz.prog w=.ok (.slice (some ⟨w.heap.size,0,none⟩) n n) (w.alloc (.cells (Al (AO n)) 5)):=by
 obtain ⟨i,hi,a,b,c⟩:=info_parts bN;have h:=run_make (P:=Tryz.prog) w 74 5 i _ Tryz.underlying74 hi a .i64 .i64 (n:Int) (n:Int) oo oo (by rw [c];omega) oo;rw [b] at h;simp only [i9,Nat.mul_one] at h;rw [h];congr 3;unfold madeCells;apply Array.ext
 . simp [Al,AO]
 . intro j h1 h2;simp [Value.cells,Nat.mod_one,Al,AO,OD]
theorem EA (W:World) (g n:Nat) (s:ByteArray) (hs:s.size=n) (hb:Blk W g 5 (Al s)):(convert 74 9 (.slice (some ⟨g,0,none⟩) n n)).run Tryz.prog W=.ok (.string s) W:=by
 refine I1 W g n n s hs (λj hj=>?_);rw [hb.cell];unfold Al;have h2:j<s.data.size:=hj;simp [OD];exact ⟨s[j],jR h2,rfl⟩
theorem L9 {W:World} {ops:Array Oper} {rest:List Oper} {o:Oper} {a:Act} {Q:Exit->Act->World->Prop} (j:o.guard=none) (d x:Operand)
 (ho:o.op=.call { callee:=.builtin .copy,args:=#[d,x],argTypes:=#[74,9] }) (g n c:Nat) (s u:ByteArray) (hd:a.eval d=.slice (some ⟨g,0,none⟩) n c) (hx:a.eval x=.string s) (hb:Blk W g 5 (Al u)) (hn:u.size=n)
 (h:wpList Tryz.prog ops Q rest (a.put o.dst (.int .i64 (min s.size n:Nat))) (W.setRow g (Al (s.extract 0 n++u.extract s.size n)))):wpList Tryz.prog ops Q (o::rest) a W:=by
 have k:Nat.min s.size n=min s.size n:=rfl
 have e:((s.data.toList.map OD).take (min s.size n)).length=min s.size n:=by
  rw [je,iY];have:s.data.toList.length=s.size:=rfl;omega
 have f:=run_storeCells_at Tryz.prog g 0 5 ((s.data.toList.map OD).take (min s.size n)) 0 (Al u) W hb (by rw [e,RE];omega) (by
  intro v hv
  have:=jw hv
  obtain ⟨b,_,rfl⟩:=ie.1 this
  rfl)
 have l:((Al u).toList.take (0+0)++(s.data.toList.map OD).take (min s.size n)++(Al u).toList.drop (0+0+((s.data.toList.map OD).take (min s.size n)).length)).toArray=Al (s.extract 0 n++u.extract s.size n):=by
  rw [e];unfold Al;congr 1;simp only [jo,kF,take_zero,nil_append,ByteArray.data_append,Array.toList_append,il,ByteArray.data_extract];have e1:s.data.size=s.size:=rfl;have e2:u.data.size=u.size:=rfl;congr 1
  . simp [Array.toList_extract,map_take];omega
  . simp [Array.toList_extract,map_drop];rw [i8 (by simp;omega)];by_cases t:s.size<=n
    . rw [Nat.min_eq_left t]
    . rw [Nat.min_eq_right oo,drop_of_length_le (by simp;omega),drop_of_length_le (by simp;omega)]
 rw [l] at f;refine wpList_plain j λK' hK=>?_
 have m:(Builtin.copy_ #[74,9] o.type #[.slice (some ⟨g,0,none⟩) n c,.string s]).run Tryz.prog W=.ok (goInt (min (s.size:Int) (n:Int))) (W.setRow g (Al (s.extract 0 n++u.extract s.size n))):=by
  obtain ⟨i,hi,hz⟩:∃i,Tryz.prog.info? 5=some i/\i.size=1:=by
   have:=Yv;cases hq:Tryz.prog.info? 5 with
   | none=>rw [hq] at this;cases this
   | some i=>rw [hq] at this;exact ⟨i,rfl,by simpa using this⟩
  have p:(storeCells ⟨g,0,none⟩ (List.take (min s.size n) (List.map (λb:UInt8=>Value.int IntKind.u8 (b.toNat:Int)) s.data.toList)) 0).run Tryz.prog W=.ok () (W.setRow g (Al (s.extract 0 n++u.extract s.size n))):=f;have hu:=Tryz.underlying74;have q:((min s.size n:Nat):Int)=min (s.size:Int) (n:Int):=oo;simp [Builtin.copy_,j7 hu,Builtin.lenOf,Builtin.firstCells,sizeOf,typeInfo,hi,hz,p,k];rw [q]
 unfold Oper.wp;simp [execOp,ho,resolve,invoke,builtin,hd,hx,m,Result.andThen];have r:goInt (min (s.size:Int) (n:Int))=.int .i64 ((min s.size n:Nat):Int):=by rw [show min (s.size:Int) (n:Int)=((min s.size n:Nat):Int) from oo];rfl
 rw [r];exact hK _ _ h
theorem VR (i:Int):u32 (FI i)=i % 4294967296:=by
 unfold u32 FI;rw [BitVec.toNat_ofInt];omega
theorem Rs (i:Int):IntKind.u32.wrap i=u32 (FI i):=by
 rw [VR];simp only [IntKind.wrap,IntKind.signed,IntKind.bits];simp
theorem Xs (n k:Nat):(AO n).extract k n=AO (n - k):=by
 apply ByteArray.ext;rw [ByteArray.data_extract];unfold AO;simp only [extract_toArray];congr 1;simp [List.extract]
theorem TX (d:ByteArray):d.extract 0 128++(AO 128).extract d.size 128=Bt d:=by rw [Xs];rfl
theorem Iv (d:ByteArray) (v:BitVec 32) (i:Int) (w:World) (hd:d.size<=9223372036854775807) (hi:okI i):
 Calls Tryz.prog 118 #[.string d,.int .u32 (u32 v),.int .i64 i] w λe w'=>e=.returned (.string (Ak d v i))/\Grew w w':=by
 have c:Blk (w.alloc (.cells (Al (AO 128)) 5)) w.heap.size 5 (Al (AO 128)):=ik w _ _ rfl;have h:(Instr.makeSlice 74 (.int .i64 128) (.int .i64 128)).run Tryz.prog w=_:=Hu w 128 oo;have o:=Rs i;have b:=D9 d;have p:=Ac v;have q:=Ac (FI i);have HS:=zh (bg (Ib d v i) (by rw [Jf];omega));have j:=zh (Ez v);have k:=zh (Ez (FI i));unfold okI at hi;unfold Ib at HS;go_enter Tryz.func118,Tryz.ntmps118;go_wp2_with (with_reducible refine L9 rfl _ _ rfl _ 128 128 d (AO 128) rfl rfl c (BS 128) ?_);rw [TX];have a:Blk ((w.alloc (.cells (Al (AO 128)) 5)).setRow w.heap.size (Al (Bt d))) w.heap.size 5 (Al (Bt d)):=c.setRow _;have f:Grew w ((w.alloc (.cells (Al (AO 128)) 5)).setRow w.heap.size (Al (Bt d))):=gG;obtain ⟨W1,g⟩:∃W1,W1=(w.alloc (.cells (Al (AO 128)) 5)).setRow w.heap.size (Al (Bt d)):=⟨_,rfl⟩;rw [<-g] at a f ⊢;clear g c h;simp only [Act.put,zA,zB,zC];go_wp2_with fail;refine AB [] (λw':World=>(convert 74 9 (.slice (some ⟨w.heap.size,0,none⟩) 128 128)).run Tryz.prog w'=.ok (.string (Bt d)) w') qk ?_;have hS:=(show (λw':World=>(convert 74 9 (.slice (some ⟨w.heap.size,0,none⟩) 128 128)).run Tryz.prog w'=.ok (.string (Bt d)) w') W1.drew from EA _ _ _ _ b a.drew);refine tQ 0 12 ?_;refine tT 1 (some 13) hS ?_;refine tQ 2 14 ?_;refine tQ 5 17 ?_;refine tT 6 (some 18) hS ?_;clear hS;refine tO 3 λK' hK=>?_;go_wp2_with fail;refine (j _).mono ?_;rintro e w2 ⟨rfl,g2⟩;go_wp2_with fail;have l:Grew w w2:=f.drew.trans g2;refine hK.out _ _ (.inr (λ_=>EA _ _ _ _ b (a.drew.grew g2))) ?_;clear hK;have hS:=trivial;refine tQ 4 16 ?_;refine tO 7 λK' hK=>?_;go_wp2_with fail;refine (k _).mono ?_;rintro e w3 ⟨rfl,g3⟩;go_wp2_with fail;have m:Grew w w3:=l.trans g3;refine hK.out _ _ (.inr (λ_=>EA _ _ _ _ b ((a.drew.grew g2).grew g3))) ?_;clear hK;refine tQ 8 20 ?_;refine tO 9 λK' hK=>?_;go_wp2_with fail;refine (HS _).mono ?_;rintro e w4 ⟨rfl,g4⟩;go_wp2_with fail;have n:Grew w w4:=m.trans g4;refine hK.out _ _ (.inr (λ_=>EA _ _ _ _ b (((a.drew.grew g2).grew g3).grew g4))) ?_;clear hK;refine tQ 10 6 ?_;refine AA qk ?_ _;go_wp2_with fail;go_ret;exact ⟨rfl,n⟩
theorem Pa (s:ByteArray) (h:s.size=140):IY s=if Dn (s.extract 136 140)=Hq (s.extract 0 136) then (s.extract 0 136,0) else (⟨#[]⟩,11):=by
 unfold IY;rw [h];by_cases hq:Dn (s.extract 136 140)=Hq (s.extract 0 136)
 . rw [if_pos ⟨oo,hq⟩,if_pos hq]
 . rw [if_neg (λe=>hq e.2),if_neg hq]
theorem QG (s:ByteArray) (i j k:Nat) (h:j<=k):(s.extract 0 k).extract i j=s.extract i j:=by
 rw [ByteArray.extract_extract];congr 1<;>omega
theorem Hf (s:ByteArray) (i:Int) (h:¬okR s i):Db s i=(⟨#[]⟩,0#32,11):=by unfold Db;rw [if_neg h]
theorem MV (s:ByteArray) (i:Int) (w:World) (hs:s.size<=9223372036854775807) (hi:okI i) (d:ByteArray) (v:BitVec 32) (er:Int) (hr:Db s i=(d,v,er)):
 Calls Tryz.prog 199 #[.string s,.int .i64 i] w λe w'=>e=.returned (.tuple #[.string d,.int .u32 (u32 v),.int .i64 er])/\Grew w w':=by
 have m:=Rs i;have n:i % 4294967296=u32 (FI i):=(VR i).symm;unfold okI at hi;by_cases f:s.size=140
 . have h:((s.size:Int) != 140)=false:=by rw [f];rfl
   by_cases a:Dn (s.extract 136 140)=Hq (s.extract 0 136)
   . have c:IY s=(s.extract 0 136,0):=by rw [Pa s f,if_pos a]
     have hz:(s.extract 0 136).size=136:=by rw [i0];omega
     have HO:=zh (R9 s oo w _ _ c);obtain ⟨t,ht⟩:∃t,s.extract 0 136=t:=⟨_,rfl⟩;rw [ht] at HO hz;have e1:t.extract 132 t.size=s.extract 132 136:=by rw [hz,<-ht];exact QG s 132 136 136 oo
     have e2:t.extract 0 128=s.extract 0 128:=by rw [<-ht];exact QG s 0 128 136 oo
     have e3:t.extract 128 132=s.extract 128 132:=by rw [<-ht];exact QG s 128 132 136 oo
     have HN:=zh (Dj (t.extract 132 t.size) (by rw [i0];omega));have HM:=zh (Dj (t.extract 128 132) (by rw [i0];omega));obtain ⟨p,hp⟩:∃p,Dn (s.extract 132 136)=p:=⟨_,rfl⟩;obtain ⟨q,hq⟩:∃q,Dn (s.extract 128 132)=q:=⟨_,rfl⟩;rw [e1,hp] at HN;rw [e3,hq] at HM;have g:=zh e1;have j:=zh e2;have k:=zh e3;have o:136<=t.size/\t.size<=136:=oo;clear ht c e1 e2 e3;by_cases b:p=FI i
     . have hu:Db s i=(s.extract 0 128,q,0):=by unfold Db;rw [if_pos ⟨f,a,hp.trans b⟩,hq]
       rw [hu] at hr;injection hr with h1 h2;injection h2 with h2 h3;subst h1;subst h2;subst h3;have l:(u32 p != u32 (FI i))=false:=by rw [b];simp
       clear hu a b hz hp;go_enter Tryz.func199,Tryz.ntmps199;go_wp2_with fail;refine HO.mono ?_;rintro e w1 ⟨rfl,g1⟩;go_wp2_with fail;rw [g.out];refine (HN _).mono ?_;rintro e w2 ⟨rfl,g2⟩;go_wp2_with fail;refine AB [] (λw':World=>True) qk ?_;have hS:=trivial;refine tQ 0 27 ?_;refine tQ 1 28 ?_;refine tQ 2 29 ?_;refine tQ 3 30 ?_;refine tO 4 λK' hK=>?_;go_wp2_with fail;rw [k.out];refine (HM _).mono ?_;rintro e w3 ⟨rfl,g3⟩;go_wp2_with fail;refine hK.out _ _ (.inr id) ?_;clear hK;refine tQ 5 4 ?_;refine tQ 6 5 ?_;refine tQ 7 6 ?_;refine AA qk ?_ _;rw [j.out];go_wp2_with fail;have hg:Grew w w3:=(g1.trans g2).drew.trans g3
       go_ret3
       exact ⟨rfl,hg⟩
     . have hu:Db s i=(⟨#[]⟩,0#32,11):=Hf s i (λe=>b (hp.symm.trans e.2.2));rw [hu] at hr;injection hr with h1 h2;injection h2 with h2 h3;subst h1;subst h2;subst h3;have l:(u32 p != u32 (FI i))=true:=by rw [jH];exact λe=>b (Hn e)
       clear hu a b hz hp;go_enter Tryz.func199,Tryz.ntmps199;go_wp2_with fail;refine HO.mono ?_;rintro e w1 ⟨rfl,g1⟩;go_wp2_with fail;rw [g.out];refine (HN _).mono ?_;rintro e w2 ⟨rfl,g2⟩;go_wp2_with fail
       go_ret3
       exact ⟨rfl,g1.trans g2⟩
   . have c:IY s=(⟨#[]⟩,11):=by rw [Pa s f,if_neg a]
     have HO:=zh (R9 s oo w _ _ c);have hu:Db s i=(⟨#[]⟩,0#32,11):=Hf s i (λe=>a e.2.1);rw [hu] at hr;injection hr with h1 h2;injection h2 with h2 h3;subst h1;subst h2;subst h3;clear hu a c;go_enter Tryz.func199,Tryz.ntmps199;go_wp2_with fail;refine HO.mono ?_;rintro e w1 ⟨rfl,g1⟩;go_wp2_with fail
     go_ret3
     exact ⟨rfl,g1⟩
 . have h:((s.size:Int) != 140)=true:=by simp;omega
   have hu:Db s i=(⟨#[]⟩,0#32,11):=Hf s i (λe=>f e.1);rw [hu] at hr;injection hr with h1 h2;injection h2 with h2 h3;subst h1;subst h2;subst h3;clear hu;go_enter Tryz.func199,Tryz.ntmps199;go_wp2_with fail
   go_ret3
   exact ⟨rfl,gG⟩

def AE (S:Nat->BitVec 32):Array Value:=((List.range 32).map λi=>Value.int .u32 (u32 (S i))).toArray
theorem AW (S:Nat->BitVec 32):(AE S).size=32:=by simp [AE]
theorem Cg (S:Nat->BitVec 32) (k:Nat) (h:k<32):(AE S)[k]? =some (.int .u32 (u32 (S k))):=by
 simp [AE,iZ,jk,h]
theorem Ht (S:Nat->BitVec 32) (k:Nat) (b:BitVec 32):(AE S).setIfInBounds k (.int .u32 (u32 b))=AE (λi=>if i=k then b else S i):=by
 simp only [AE,setIfInBounds_toArray];congr 1;apply kU;intro i;rw [kD];by_cases a:k=i
 . subst a;by_cases h:k<32
   . simp [h]
   . simp [h,jb]
 . rw [if_neg a];by_cases h:i<32
   . simp [iZ,jk,h,Ne.symm a]
   . rw [jb (by simp;omega),jb (by simp;omega)]
theorem BF {S T:Nat->BitVec 32} (h:∀i,i<32->S i=T i):AE S=AE T:=by
 unfold AE;congr 1;apply jO;intro i hi;rw [h i (List.mem_range.mp hi)]
theorem ED (S:Nat->BitVec 32):(AE S).all (·.oneCell')=true:=by
 rw [AE,all_toArray,jN];intro v hv;obtain ⟨i,_,rfl⟩:=List.mem_map.mp hv;rfl
theorem Fy (w:World):(zeroValue 201).run Tryz.prog w=.ok (.agg (AE λ_=>0#32)) w:=qk
theorem EW:(Tryz.prog.info? 201).map (·.size)=some 32:=qk
theorem KC (f g:Nat->BitVec 32) (k i:Nat):(if i=k then f k else if i<k then f i else g i)=if i<k+1 then f i else g i:=by
 by_cases h:i=k
 . subst h;rw [if_pos rfl,if_pos oo]
 . rw [if_neg h];by_cases h2:i<k
   . rw [if_pos h2,if_pos oo]
   . rw [if_neg h2,if_neg oo]
theorem Il (d:ByteArray) (hd:d.size=128) (w:World):
 Calls Tryz.prog 129 #[.string d] w λe w'=>e=.returned (.agg (AE (fld d)))/\Grew w w':=by
 have hz:=Fy;have HN:=zh (λk (hk:k<32) (w:World)=>Dj (d.extract (4*k) (4*k+4)) (by rw [i0];omega) w);have j:128<=d.size/\d.size<=128:=oo;clear hd;go_enter Tryz.func129,Tryz.ntmps129;go_wp2_with fail;clear hz
 go_loopg [5] 32 (λgk i wr=>∃k:Nat,k<=32/\gk=32 - k/\i=.int .i64 k/\Blk wr w.heap.size 201 (AE λ_=>0#32)/\Blk wr (w.heap.size+1) 201 (AE λi=>if i<k then fld d i else 0#32)/\Grew w wr)
 case atStart=>exact ⟨0,oo,oo,rfl,gB,by (apply Blk.conv;(· (repeat' first | (with_reducible assumption) | (with_reducible apply Blk.setRow) | ((with_reducible apply Blk.farRow);rotate_left;(focus (first | (simp;done) | (simp;omega) | omega))) | (with_reducible apply Blk.drew) | (with_reducible apply Blk.drewN) | (with_reducible apply Blk.set_) | (with_reducible exact ik _ _ _ (by first | rfl | (simp;done) | (simp;omega))) | (with_reducible apply Blk.alloc) | ((with_reducible apply Blk.far);rotate_left;(focus (first | (simp;done) | (simp;omega) | omega))) | ((with_reducible apply Blk.grew);rotate_left;(with_reducible assumption)) | ((with_reducible apply Blk.turned);rotate_left;(with_reducible assumption);(focus (first | (simp;done) | (simp;omega) | omega))) | fail));(· exact BF λi _=>qs)),gG⟩
 case round=>
  obtain ⟨k,hk,g,rfl,b,a,hg⟩:=hrel;have h:=zh g;clear g;have l:=a.lt;by_cases f:k<32
  . go_wp2_with fail;refine (HN k f _).mono ?_;rintro e w1 ⟨rfl,g1⟩;have m:=b.grew g1;have c:=a.grew g1;have n:Grew w w1:=gG;have ha:=c.cell k;rw [Cg _ _ oo] at ha;have hf:=c.frozen k;have o:=An (Dn (d.extract (4*k) (4*k+4)));go_wp2_with fail
    go_roundg (32 - (k+1))
    case measure=>rw [h.out];omega
    case rel=>exact ⟨k+1,oo,oo,by go_num,gB,by (apply Blk.conv;(· (repeat' first | (with_reducible assumption) | (with_reducible apply Blk.setRow) | ((with_reducible apply Blk.farRow);rotate_left;(focus (first | (simp;done) | (simp;omega) | omega))) | (with_reducible apply Blk.drew) | (with_reducible apply Blk.drewN) | (with_reducible apply Blk.set_) | (with_reducible exact ik _ _ _ (by first | rfl | (simp;done) | (simp;omega))) | (with_reducible apply Blk.alloc) | ((with_reducible apply Blk.far);rotate_left;(focus (first | (simp;done) | (simp;omega) | omega))) | ((with_reducible apply Blk.grew);rotate_left;(with_reducible assumption)) | ((with_reducible apply Blk.turned);rotate_left;(with_reducible assumption);(focus (first | (simp;done) | (simp;omega) | omega))) | fail));(· rw [Ht];exact BF λi _=>KC (fld d) (λ_=>0#32) k i)),gG⟩
  . obtain rfl:k=32:=oo;have e0:AE (λi=>if i<32 then fld d i else 0#32)=AE (fld d):=BF λi hi=>by rw [if_pos hi]
    rw [e0] at a;clear e0;clear f;go_wp2_with (first | (refine AJ rfl 201 _ rfl (w.heap.size+1) rfl 201 (AE (fld d)) _ a Tryz.underlying201 rfl (by rw [AW];exact EW) ?_) | (refine AF rfl 201 _ _ rfl w.heap.size (AE (fld d)) rfl rfl 201 _ b (by rw [AW,AW]) (by rw [AW];exact EW) (ED _) ?_));refine im (results_cell_row rfl _ _ _ 201 (AE (fld d)) (0,0) _ rfl (b.setRow _) Tryz.underlying201 rfl (by rw [AW];exact EW)) rfl ?_;exact ⟨rfl,gG⟩
theorem Sn (S:Nat->BitVec 32) (k:Nat):AM ((List.range (k+1)).map S)=AM ((List.range k).map S)++Bl (S k):=by
 rw [kP,il,Tx];congr 1
theorem JB (S:Nat->BitVec 32) (g:Nat) (w:World) (hb:Blk w g 201 (AE S)):
 Calls Tryz.prog 119 #[.pointer (some ⟨g,0,none⟩)] w λe w'=>e=.returned (.string (AM ((List.range 32).map S)))/\Grew w w':=by
 have HV:=zh (λk=>Sn S k);have c:=zh (λk=>EL ((List.range k).map S));have HB:=zh hb;clear hb;go_enter Tryz.func119,Tryz.ntmps119;go_wp2_with fail
 go_loopg [3,7] 32 (λgk s i wr=>∃k:Nat,k<=32/\gk=32 - k/\i=.int .i64 k/\s=.string (AM ((List.range k).map S))/\Grew w wr)
 case atStart=>exact ⟨0,oo,oo,rfl,rfl,gG⟩
 case round=>
  obtain ⟨k,hk,b,rfl,rfl,hg⟩:=hrel;have d:=zh b;clear b;by_cases m:k<32
  . have a:=HB.grew hg;have ha:=a.cell k;rw [Cg _ _ oo] at ha;have f:=a.lt;have h:(k:Int)<32:=oo;have j:(AM ((List.range k).map S)).size<=128:=by rw [c.out,iY,jr];omega
    have l:=Ac (S k);clear a;go_wp2_with fail;refine (Ez (S k) _).mono ?_;rintro e w1 ⟨rfl,g1⟩;go_wp2_with fail
    go_roundg (32 - (k+1))
    case measure=>rw [d.out];omega
    case rel=>exact ⟨k+1,oo,oo,by go_num,by rw [HV.out],hg.trans g1⟩
  . obtain rfl:k=32:=oo;go_wp2_with fail;go_ret;exact ⟨rfl,hg⟩

end
section
open Go.RowKit
def II (D:Dev) (sy ep:Int):Bool:=decide (132<=D.st.length/\D.st.length<=1155) && DA sy ep
def KO (n:Nat):Img:=⟨n,1,λ_=>1,λ_=>1,λ_=>AO 128⟩
def ES:ByteArray:=⟨#[]⟩
def GB (n k:Nat):List U32:=(List.range 32).map λj=>if 32*k+j<n then nv 1 else nv 0
def FN (n:Nat):Wl:=((List.range n).map λi=>(131+i,Ak ES (nv 1) (131+i:Nat)))++(((List.range 32).map λk=>(1+k,Ak (AM (GB n k)) (nv 1) (1+k:Nat)))++[(0,Ak (AM ((List.range 32).map λ_=>nv 1)) (nv 1) 0),(33,blankR)])
def GT (D:Dev) (sy ep:Int):Dev × Int:=if II D sy ep=false then (D,1) else Bm sy ep (puts (FN (D.st.length - 131))++[.sync]) D
def TG (D:Dev) (sy ep:Int):Dev × Int:=
 if II D sy ep=false then (D,1) else if (B9 D sy ep).2.2≠0 then ((B9 D sy ep).1,(B9 D sy ep).2.2) else if (topI (B9 D sy ep).1).ok=false then ((B9 D sy ep).1,11) else ((B9 D sy ep).1,0)
def NQ (D:Dev) (sy ep:Int) (i:Int):Dev × ByteArray × Int:=
 if (B9 D sy ep).2.2≠0 then ((B9 D sy ep).1,ES,(B9 D sy ep).2.2)
 else if i<0\/(D.st.length:Int) - 131<=i then ((B9 D sy ep).1,ES,2)
 else ((B9 D sy ep).1,if (Dl (B9 D sy ep).1 i.toNat).2=0 then (Dl (B9 D sy ep).1 i.toNat).1 else ES,(Dl (B9 D sy ep).1 i.toNat).2)
def Ae (n:Nat) (ws:List (Int × ByteArray)):Int:=
 if (ws.any λe=>decide (e.2.size≠128))=true\/¬(ws.map (·.1)).Nodup then 1 else if (ws.any λe=>decide (e.1<0\/(n:Int)<=e.1))=true then 2 else if 64<ws.length then 8 else 0
def CS (n:Nat) (ws:List (Int × ByteArray)):Wl:=(List.range n).filterMap λ(i:Nat)=>(ws.find? λe=>e.1==(i:Int)).map λe=>(i,e.2)
def FV (E:Dev):List Nat->Int
 | []=>0
 | k::l=>if (mapI E k).ok=false then 11 else if (mapI E k).ver≠fld (topI E).data k then 12 else FV E l
def GC (E:Dev) (S:Wl) (v:U32):List U32:=(List.range 32).map λk=>if (S.any λe=>e.1 / 32==k)=true then v else fld (topI E).data k
def Ex (E:Dev) (S:Wl) (v:U32) (k:Nat):List U32:=(List.range 32).map λj=>if (Ad S (32*k+j)).isSome=true then v else fld (mapI E k).data j
def ID (E:Dev) (S:Wl) (v:U32):Wl:=(0,Ak (AM (GC E S v)) v 0)::((ksW S).map (λk=>(1+k,Ak (AM (Ex E S v k)) v (1+k:Nat)))++S.map λe=>(131+e.1,Ak e.2 v (131+e.1:Nat)))
def Bk (D:Dev) (sy ep:Int) (ws:List (Int × ByteArray)):Dev × Int:=
 if (B9 D sy ep).2.2≠0 then ((B9 D sy ep).1,(B9 D sy ep).2.2)
 else if Ae (D.st.length - 131) ws≠0\/ws=[] then ((B9 D sy ep).1,Ae (D.st.length - 131) ws)
 else if (topI (B9 D sy ep).1).ok=false then ((B9 D sy ep).1,11)
 else if FV (B9 D sy ep).1 (ksW (CS (D.st.length - 131) ws))≠0 then ((B9 D sy ep).1,FV (B9 D sy ep).1 (ksW (CS (D.st.length - 131) ws)))
 else if (topI (B9 D sy ep).1).ver=4294967295#32 then ((B9 D sy ep).1,8)
 else Bm sy ep (Cw (ID (B9 D sy ep).1 (CS (D.st.length - 131) ws) ((topI (B9 D sy ep).1).ver+1#32)) ((topI (B9 D sy ep).1).ver+1#32)) (B9 D sy ep).1
theorem dataS_empty:Bt ES=AO 128:=by decide+kernel
theorem YN {d d':ByteArray} (h:Bt d=Bt d') (v:U32) (i:Int):Ak d v i=Ak d' v i:=by unfold Ak Ib;rw [h]
theorem Ve (N:Nat):nv N+1#32=nv (N+1):=by
 unfold nv;rw [<-BitVec.ofNat_add]
theorem SZ (n:Nat):((FN n).map (·.1)).Nodup:=by
 unfold FN;rw [il,il,jt,jt];refine jg.2 ⟨?_,jg.2 ⟨?_,qs,?_⟩,?_⟩
 . rw [Nodup,kE];exact nodup_range.imp (λ{a b} hab he=>hab (by simp only [Function.comp] at he;omega))
 . rw [Nodup,kE];exact nodup_range.imp (λ{a b} hab he=>hab (by simp only [Function.comp] at he;omega))
 . intro a ha b hb e;obtain ⟨k,hk,rfl⟩:=ie.1 ha;have:=jB.1 hk;simp only [Function.comp] at e;simp at hb;omega
 . intro a ha b hb e;obtain ⟨k,hk,rfl⟩:=ie.1 ha;simp only [Function.comp] at e;rcases ip.1 hb with hb | hb
   . obtain ⟨j,hj,rfl⟩:=ie.1 hb;have:=jB.1 hj;simp only [Function.comp] at e;omega
   . simp at hb;omega
theorem aI {D:Dev} {n:Nat} (h:D.st.length=131+n):okW D (FN n):=by
 intro e he;unfold FN at he;rcases ip.1 he with he | he
 . obtain ⟨i,hi,rfl⟩:=ie.1 he;have:=jB.1 hi;exact ⟨by show 131+i<_;omega,Bc ..⟩
 rcases ip.1 he with he | he
 . obtain ⟨k,hk,rfl⟩:=ie.1 he;have:=jB.1 hk;exact ⟨by show 1+k<_;omega,Bc ..⟩
 . simp only [jh,not_mem_nil,or_false] at he;rcases he with rfl | rfl
   . exact ⟨by show 0<_;omega,Bc ..⟩
   . exact ⟨by show 33<_;omega,EJ⟩
theorem QL {D:Dev} {sy ep:Int} {n:Nat} (hc:Calm D sy ep) (hf:D.fuse=none) (hp:D.pend=[]) (hl:D.st.length=131+n) (h1:1<=n) (h2:n<=1024):
 ∃E,GT D sy ep=(E,0)/\Clean E (KO n)/\E.fen=D.fen/\E.fuse=none:=by
 have ho:=aI hl;have k:=EO (FN n) D hc.ok ho
 have hm:∀e∈FN n,(B8 D (FN n)).at e.1=e.2:=λe he=>by
  rw [G9 _ _ ho,Ev _ (SZ n) e he];rfl
 refine ⟨B8 D (FN n),?_,⟨⟨k.ok,⟨h1,h2,by show 1<_;omega,λ_=>iX _,λ_=>iX _,λ_ _=>BS 128⟩,k.len.trans hl,k.failed.trans hc.live,k.pend.trans hp,?_,λj hj=>?_,λi hi=>?_⟩,?_⟩,k.fen,k.fuse.trans hf⟩
 . unfold GT II;rw [hc.plain,iq ⟨oo,oo⟩,if_neg qs,hl,show 131+n - 131=n from oo];exact Fo sy ep _ D hc hf hp ho
 . have e0:(KO n).topR=Ak (AM ((List.range 32).map λ_=>nv 1)) (nv 1) 0:=by
    unfold Img.topR Img.tops;rfl
   rw [e0];exact hm (0,Ak (AM ((List.range 32).map λ_=>nv 1)) (nv 1) 0) (jI _ (jI _ (jA ..)))
 . refine (hm (1+j,Ak (AM (GB n j)) (nv 1) (1+j:Nat)) (jI _ (jQ _ (ie.2 ⟨j,jB.2 hj,rfl⟩)))).trans ?_
   have e1:(KO n).mapL j=GB n j:=by
    unfold Img.mapL GB;apply jO;intro x _;unfold Img.mv;show nv (if 32*j+x<n then 1 else 0)=(if 32*j+x<n then nv 1 else nv 0);split<;>rfl
   unfold Img.mapR;rw [e1];rfl
 . refine (hm (131+i,Ak ES (nv 1) (131+i:Nat)) (jQ _ (ie.2 ⟨i,jB.2 hi,rfl⟩))).trans ?_;unfold Img.datR;have e2:Bt ES=Bt ((KO n).cs i):=dataS_empty.trans (Ji _ (BS 128)).symm;rw [YN e2];rfl
 . exact hm (33,blankR) (jI _ (jI _ (iz _ (jA ..))))
theorem WF {E:Dev} {I:Img} (h:topI E=⟨AM I.tops,nv I.N,true⟩) (S:Wl):GC E S (nv (I.N+1))=(I.upd S).tops:=by
 unfold GC Img.tops;apply jO;intro k hk;have a:=jB.1 hk;rw [h];show (if _ then _ else fld (AM I.tops) k)=nv (if _ then I.N+1 else I.ms k);unfold Img.tops;rw [PS _ _ a];split<;>rfl
theorem Xh {E:Dev} {I:Img} {S:Wl} (k:Nat) (h:mapI E k=⟨AM (I.mapL k),nv (I.ms k),true⟩) (ht:Takes I S):Ex E S (nv (I.N+1)) k=(I.upd S).mapL k:=by
 unfold Ex Img.mapL;apply jO;intro j hj;have a:=jB.1 hj;rw [h];show (if _ then _ else fld (AM (I.mapL k)) j)=_;unfold Img.mapL;rw [PS _ _ a];unfold Img.mv;show _=nv (if 32*k+j<I.n then (if (Ad S (32*k+j)).isSome=true then I.N+1 else I.vs (32*k+j)) else 0);by_cases hs:(Ad S (32*k+j)).isSome=true
 . rw [if_pos hs,if_pos hs]
   have b:32*k+j<I.n:=by
    rcases jY (32*k+j) I.n with h9 | h9
    . exact h9
    . rw [CW S _ (λe he hq=>by have:=(ht.lt e he).1;omega)] at hs;cases hs
   rw [if_pos b]
 . rw [if_neg hs,if_neg hs]
theorem eY {E:Dev} {I:Img} {S:Wl} (h:topI E=⟨AM I.tops,nv I.N,true⟩) (a:∀k∈ksW S,mapI E k=⟨AM (I.mapL k),nv (I.ms k),true⟩) (ht:Takes I S):ID E S (nv (I.N+1))=FF (I.upd S) S:=by
 unfold ID FF;rw [WF h S]
 have e1:(ksW S).map (λk=>(1+k,Ak (AM (Ex E S (nv (I.N+1)) k)) (nv (I.N+1)) (1+k:Nat)))=(ksW S).map (λk=>(1+k,(I.upd S).mapR k)):=by
  apply jO;intro k hk;obtain ⟨c,x,hx,b⟩:=(CT S k).1 hk;have hm:(I.upd S).ms k=I.N+1:=if_pos (j6.2 ⟨x,hx,by simpa using b⟩);unfold Img.mapR;rw [Xh k (a k hk) ht,hm]
 have e2:S.map (λe=>(131+e.1,Ak e.2 (nv (I.N+1)) (131+e.1:Nat)))=S.map (λe=>(131+e.1,(I.upd S).datR e.1)):=by
  apply jO;intro e he;have hl:=Ev S (L5 ht) e he;have hc:(I.upd S).cs e.1=e.2:=by show (Ad S e.1).getD _=_;rw [hl];rfl
  have hv:(I.upd S).vs e.1=I.N+1:=if_pos (by rw [hl];rfl);unfold Img.datR;rw [hc,hv]
 rw [e1,e2];rfl
theorem Vn {E:Dev} {I:Img} {S:Wl} (h:Holds E I) (ht:Takes I S):ID E S (nv (I.N+1))=FF (I.upd S) S:=eY h.topI (λk hk=>h.mapI k ((CT S k).1 hk).1) ht
theorem Rn {E:Dev} {I:Img} (h:Holds E I):∀l:List Nat,(∀k∈l,k<32)->FV E l=0:=by
 intro l
 induction l with
 | nil=>intro _;rfl
 | cons k l ih=>
   intro hl;have hk:=hl k (jA ..);unfold FV;rw [h.mapI k hk,h.topI,if_neg qs,if_neg,ih (λx hx=>hl x (iz _ hx))];intro hc;apply hc;show nv (I.ms k)=fld (AM I.tops) k;unfold Img.tops;rw [PS _ _ hk]

end
section
attribute [local go_sem ↓] Go.wp_at_zero Go.wp_at_succ
open Go.RowKit
def OE (t:ByteArray) (i:Int):Value:=.agg #[.string t,.string (AN t i).data,.int .u32 (u32 (AN t i).ver),.bool (AN t i).ok]
abbrev ptrV (s:Nat):Value:=.pointer (some ⟨s,0,none⟩)
def Ct (x:Nat) (sy ep:Int) (m:Nat):Array Value:=#[ptrV x,.int .i64 sy,.int .i64 ep,.map (some m)]
structure StoreM (W:World) (s m x:Nat) (sy ep:Int):Prop where
 blk:Blk W s 252 (Ct x sy ep m)
 seen:∃F,MapI W m F/\∀i v,F i=some v->∃t:ByteArray,t.size<=200/\v=OE t i
theorem StoreM.ne {W:World} {s m x:Nat} {sy ep:Int} (h:StoreM W s m x sy ep):¬s=m:=by
 obtain ⟨F,hF,_⟩:=h.seen;exact Ch h.blk hF
theorem StoreM.lt {W:World} {s m x:Nat} {sy ep:Int} (h:StoreM W s m x sy ep):s<W.heap.size/\m<W.heap.size:=by
 obtain ⟨F,hF,_⟩:=h.seen;exact ⟨h.blk.lt,hF.lt⟩
theorem StoreM.kept {W W':World} {s m x:Nat} {sy ep:Int} (h:StoreM W s m x sy ep) {S:Nat->Prop} (ht:Turned S W W') (h1:¬S s) (h2:¬S m):StoreM W' s m x sy ep:=by
 obtain ⟨F,hF,hv⟩:=h.seen;exact ⟨h.blk.turned ht h1,F,hF.turned ht h2,hv⟩
theorem StoreM.grew {W W':World} {s m x:Nat} {sy ep:Int} (h:StoreM W s m x sy ep) (hg:Grew W W'):StoreM W' s m x sy ep:=h.kept (hg.turned (λ_=>False)) (λh=>h) (λh=>h)
def PutAt (W:World) (lo s:Nat) (i:Int) (raw:ByteArray) (v:Value):Prop:=
 ∃a b c,v=.func (.func 159) #[] #[ptrV a,ptrV b,ptrV c]/\lo<=a/\lo<=b/\lo<=c/\Blk W a 106 #[ptrV s]/\Blk W b 3 #[.int .i64 i]/\Blk W c 9 #[.string raw]
theorem I7 (s:Nat) (i:Int) (a:ByteArray) (w:World):Calls Tryz.prog 117 #[ptrV s,.int .i64 i,.string a] w λe w'=>∃v,e=.returned v/\PutAt w' w.heap.size s i a v/\Grew w w':=by
 have b:=((ik w 106 #[ptrV s] rfl).alloc (.cells #[.int .i64 i] 3)).alloc (.cells #[.string a] 9);have c:=(ik (w.alloc (.cells #[ptrV s] 106)) 3 #[.int .i64 i] (n:=w.heap.size+1) qs).alloc (.cells #[.string a] 9);have d:=ik ((w.alloc (.cells #[ptrV s] 106)).alloc (.cells #[.int .i64 i] 3)) 9 #[.string a] (n:=w.heap.size+1+1) qs;have HB:=zh (⟨b,c,d⟩:_/\_/\_);have HG:=zh ((((iW w).alloc (.cells #[ptrV s] 106)).alloc (.cells #[.int .i64 i] 3)).alloc (.cells #[.string a] 9));clear b c d;go_enter Tryz.func117,Tryz.ntmps117;go_wp2_with fail;go_ret;exact ⟨_,rfl,⟨_,_,_,rfl,oo,oo,oo,HB.1,HB.2.1,HB.2.2⟩,HG⟩
section
variable {w0:World} {x s m:Nat} {sy ep:Int} {D:Dev} {out:Nat->Prop} {W:World} (hL:Live w0 x D out W) (hb:Blk W s 252 (Ct x sy ep m)) (hp:D.pend.length<=999999)
include hL hb hp
theorem Zl (i:Int) (f:ByteArray) (hr:f.size<=9223372036854775807) (a b c:Nat) (ha:Blk W a 106 #[ptrV s]) (h:Blk W b 3 #[.int .i64 i]) (hc:Blk W c 9 #[.string f]):
 Calls Tryz.prog 159 #[ptrV a,ptrV b,ptrV c] W λe w'=>e=.returned (.int .i64 (BJ D sy ep i f).2)/\Live w0 x (BJ D sy ep i f).1 out w'/\Beside w0 out W w':=by
 have HW:=zh (Mv (hL.grew (iW W).drew) sy ep i f hp hr);clear hL hp;go_enter Tryz.func159,Tryz.ntmps159;go_wp2_with fail;refine wp_region_still_tail 10 qk qk ?_;simp only [take_succ_cons,take_zero,drop_succ_cons,drop_zero];change wpStill _ _ (World.drew W) (λa'=>wpList _ _ _ _ a' (World.drew W)) _ _;obtain ⟨w2,d⟩:∃w',w'=World.drew W:=⟨_,rfl⟩;rw [<-d];have g:Blk w2 s 252 (Ct x sy ep m):=by rw [d];exact hb.drew
 rw [<-d] at HW;have h1:=g.lt;have s0:=g.cell 0;have s1:=g.cell 1;have s2:=g.cell 2;have hB:Beside w0 out W w2:=by rw [d];exact ((iW W).drew).turned _
 have a0:w2.cell? ⟨a,0,none⟩=some (ptrV s):=by rw [d];exact ha.drew.cell 0
 have b0:w2.cell? ⟨b,0,none⟩=some (.int .i64 i):=by rw [d];exact h.drew.cell 0
 have c0:w2.cell? ⟨c,0,none⟩=some (.string f):=by rw [d];exact hc.drew.cell 0
 have la:a<w2.heap.size:=by rw [d];exact ha.drew.lt
 have lb:b<w2.heap.size:=by rw [d];exact h.drew.lt
 have lc:c<w2.heap.size:=by rw [d];exact hc.drew.lt
 have HB:=zh hB;clear d g ha h hc hb hB;unfold Ct at s0 s1 s2
 repeat still_step
 refine wpStill_nil ?_;go_wp2_with fail;refine HW.mono ?_;rintro e w3 ⟨rfl,j,k⟩;go_wp2_with fail;go_ret;exact ⟨rfl,j,HB.out.trans k⟩
theorem YA:Calls Tryz.prog 122 #[ptrV s] W λe w'=>e=.returned (.int .i64 (Cl D sy ep).2)/\Live w0 x (Cl D sy ep).1 out w'/\Beside w0 out W w':=by
 have HW:=zh (XA (hL.grew (iW W).drew) sy ep oo);clear hL hp;go_enter Tryz.func122,Tryz.ntmps122;go_wp2_with fail;refine wp_region_still_tail 8 qk qk ?_;simp only [take_succ_cons,take_zero,drop_succ_cons,drop_zero];change wpStill _ _ (World.drew W) (λa'=>wpList _ _ _ _ a' (World.drew W)) _ _;obtain ⟨w2,b⟩:∃w',w'=World.drew W:=⟨_,rfl⟩;rw [<-b];have a:Blk w2 s 252 (Ct x sy ep m):=by rw [b];exact hb.drew
 rw [<-b] at HW;have h1:=a.lt;have s0:=a.cell 0;have s1:=a.cell 1;have s2:=a.cell 2;have hB:Beside w0 out W w2:=by rw [b];exact ((iW W).drew).turned _
 have HB:=zh hB;clear b a hb hB;unfold Ct at s0 s1 s2
 repeat still_step
 refine wpStill_nil ?_;go_wp2_with fail;refine HW.mono ?_;rintro e w3 ⟨rfl,c,d⟩;go_wp2_with fail;go_ret;exact ⟨rfl,c,HB.out.trans d⟩
theorem XH:Calls Tryz.prog 121 #[ptrV s] W λe w'=>e=.returned (.int .i64 (BJ D sy ep 33 blankR).2)/\Live w0 x (BJ D sy ep 33 blankR).1 out w'/\Beside w0 out W w':=by
 have HW:=zh (λw9 (hg:Grew W w9)=>Mv (hL.grew hg) sy ep 33 blankR hp (by rw [EJ];omega));clear hL hp;go_enter Tryz.func121,Tryz.ntmps121;go_wp2_with fail;refine AB [10] (λw':World=>w'.cell? ⟨s,0,none⟩=some (ptrV x)/\w'.cell? ⟨s,1,none⟩=some (.int .i64 sy)/\w'.cell? ⟨s,2,none⟩=some (.int .i64 ep)/\s<w'.heap.size) qk ?_;have hS:=(show (λw':World=>w'.cell? ⟨s,0,none⟩=some (ptrV x)/\w'.cell? ⟨s,1,none⟩=some (.int .i64 sy)/\w'.cell? ⟨s,2,none⟩=some (.int .i64 ep)/\s<w'.heap.size) W.drew from ⟨hb.drew.cell 0,hb.drew.cell 1,hb.drew.cell 2,hb.drew.lt⟩);refine tQ 0 3 ?_;refine tT 1 (some 4) hS ?_;refine tQ 2 5 ?_;refine tT 3 (some 6) hS ?_;refine tQ 4 7 ?_;refine tT 5 (some 8) hS ?_;refine tQ 6 9 ?_;refine tT 7 (some 10) hS ?_;clear hS;have d:(Instr.makeSlice 74 (.int .i64 140) (.int .i64 140)).run Tryz.prog W.drew=_:=Hu W.drew 140 oo;have c:Blk (W.alloc (.cells (Al (AO 140)) 5)).drew W.heap.size 5 (Al (AO 140)):=(ik W _ _ rfl).drew;have b:Grew W (W.alloc (.cells (Al (AO 140)) 5)).drew:=((iW W).alloc _).drew;have f:(convert 74 9 (.slice (some ⟨W.heap.size,0,none⟩) 140 140)).run Tryz.prog (W.alloc (.cells (Al (AO 140)) 5)).drew=.ok (.string blankR) (W.alloc (.cells (Al (AO 140)) 5)).drew:=EA _ _ 140 (AO 140) (BS 140) c;have a:=hb.grew b;have g:=zh (HW _ b);have HG:=zh b;clear c b;refine tO 8 λK' hK=>?_;go_wp2_with fail;refine hK.out _ _ (.inr (λ_=>⟨a.cell 0,a.cell 1,a.cell 2,a.lt⟩)) ?_;clear hK;refine tO 9 λK' hK=>?_;go_wp2_with fail;refine hK.out _ _ (.inr (λ_=>⟨a.cell 0,a.cell 1,a.cell 2,a.lt⟩)) ?_;clear hK f d;refine tO 10 λK' hK=>?_;go_wp2_with fail;refine g.mono ?_;rintro e w3 ⟨rfl,h,i⟩;go_wp2_with fail;refine hK.out _ _ (.inl (by rfl)) ?_;clear hK;refine tQ 11 2 ?_;refine AA qk ?_ _;go_wp2_with fail;go_ret;exact ⟨rfl,h,(HG.turned _).trans i⟩
end

def De:List (Dev->Dev × Int)->Dev->Dev × Int
 | [],D=>(D,0)
 | f::l,D=>if (f D).2=0 then De l (f D).1 else f D
theorem bO (a b:List (Dev->Dev × Int)):∀D,De (a++b) D=if (De a D).2=0 then De b (De a D).1 else De a D:=by
 induction a with
 | nil=>intro D;rfl
 | cons t a ih=>
   intro D;show (if (t D).2=0 then De (a++b) (t D).1 else t D)=_;by_cases h:(t D).2=0
   . rw [if_pos h,ih];show _=if (if (t D).2=0 then De a (t D).1 else t D).2=0 then De b (if (t D).2=0 then De a (t D).1 else t D).1 else (if (t D).2=0 then De a (t D).1 else t D);rw [if_pos h]
   . rw [if_neg h];show _=if (if (t D).2=0 then De a (t D).1 else t D).2=0 then De b (if (t D).2=0 then De a (t D).1 else t D).1 else (if (t D).2=0 then De a (t D).1 else t D);rw [if_neg h,if_neg h]
theorem UJ (sy ep:Int) (l:List St):∀D,De (l.map λt D=>stD D sy ep t) D=Bm sy ep l D:=by
 induction l with
 | nil=>intro D;rfl
 | cons t l ih=>
   intro D;show (if (stD D sy ep t).2=0 then De (l.map λt D=>stD D sy ep t) (stD D sy ep t).1 else stD D sy ep t)=(if (stD D sy ep t).2=0 then Bm sy ep l (stD D sy ep t).1 else stD D sy ep t);rw [ih]
theorem WN (fs:List (Dev->Dev × Int)) (k:Nat) (hk:k<fs.length) (D:Dev):De (fs.drop k) D=if (fs[k] D).2=0 then De (fs.drop (k+1)) (fs[k] D).1 else fs[k] D:=by
 rw [jz hk];rfl
def iE (I:Nat->Dev->World->Prop) (k:Nat) (f:Dev->Dev × Int) (v:Value):Prop:=
 ∃fn first caps,v=.func (.func fn) first caps/\CF Tryz.prog fn/\∀D w,I k D w->Calls Tryz.prog fn (first++caps) w λe w'=>e=.returned (.int .i64 (f D).2)/\I (k+1) (f D).1 w'
theorem cO (I:Nat->Dev->World->Prop) (fs:List (Dev->Dev × Int)) (vs:List Value) (n:vs.length=fs.length) (E:vs.length<=9223372036854775807) (A:Option Addr) (c:Nat)
 (l:∀k D w,I k D w->ListAt w w.heap.size 1 A (vs.map λv=>[v])) (m:∀k (h1:k<fs.length) (h2:k<vs.length),iE I k fs[k] vs[k]) (D0:Dev) (w:World) (hI:I 0 D0 w):
 Calls Tryz.prog 120 #[.slice A vs.length c] w λe w'=>e=.returned (.int .i64 (De fs D0).2)/\∃j,j<=vs.length/\I j (De fs D0).1 w':=by
 have z:=zh l;have B:=zh m;have HI:=zh hI;have o:=zh n;clear l m hI n;go_enter Tryz.func120,Tryz.ntmps120;go_wp2_with fail
 go_loopg [8] vs.length (λgk i wr=>∃(k:Nat) (D:Dev),k<=vs.length/\gk=vs.length - k/\i=.int .i64 k/\I k D wr/\De (fs.drop k) D=De fs D0)
 case atStart=>exact ⟨0,D0,oo,oo,rfl,HI,rfl⟩
 case round=>
  obtain ⟨k,D,hk,s,rfl,t,u⟩:=hrel;have C:=zh s;have HR:=zh u;have d:=zh t;clear s u t;by_cases h:k<vs.length
  . have p:k<fs.length:=by rw [<-o.out];exact h
    obtain ⟨b,G,rfl,hb,x⟩:=z.out k D wr d (by rw [iY];omega);have q:=x k [vs[k]] (by rw [iZ,iV h];rfl) 0 vs[k] rfl;rw [Nat.mul_one,jo] at q;obtain ⟨fn,first,H,hv,hE,y⟩:=B.out k p h;rw [hv] at q;have HC:=zh (y D wr d);have HE:=zh hE;have f:=zh (WN fs k p D);clear x hv hE y;obtain ⟨⟨D1,er⟩,hr⟩:∃r,fs[k] D=r:=⟨_,rfl⟩;rw [hr] at HC f;clear hr;unfold CF at HE;have hE:=HE.out;by_cases h0:er=0
    . subst h0;go_wp2_with fail;refine HC.mono ?_;rintro e w1 ⟨rfl,a⟩;have g:=zh a;clear a hE;go_wp2_with fail
      go_roundg (vs.length - (k+1))
      case measure=>rw [C.out];omega
      case rel=>exact ⟨k+1,D1,oo,oo,by go_num,g,by rw [<-HR.out,f.out];rfl⟩
    . have F:(er != 0)=true:=by rw [jH];exact h0
      have HF:Hid (De fs D0=(D1,er)):=zh (by rw [<-HR.out,f.out];exact if_neg h0);clear h0;go_wp2_with fail;refine HC.mono ?_;rintro e w1 ⟨rfl,a⟩;have g:=zh a;clear a hE;go_wp2_with fail;go_ret;rw [HF.out];exact ⟨rfl,k+1,oo,g⟩
  . obtain rfl:k=vs.length:=oo;have HF:Hid (De fs D0=(D,0)):=zh (by rw [<-HR.out,drop_of_length_le (by rw [<-o.out];omega)];rfl);go_wp2_with fail;go_ret;rw [HF.out];exact ⟨rfl,vs.length,oo,d⟩

end
section
open Go.RowKit
theorem PE (D:Dev):(JZ D).1.pend.length<=D.pend.length:=by
 unfold JZ;split
 . exact iX _
 . exact iX _
 . show ((D.pend.filter λr=>!(λ_=>true) r)).length<=_;exact j5 _ _
theorem Lb (D:Dev) (sy ep:Int):(Ah D sy ep).1.pend.length<=D.pend.length:=by
 unfold Ah;split
 . exact iX _
 split
 . exact iX _
 split
 . exact PE D
 . exact PE D
theorem Ix (D:Dev) (sy ep i:Int) (s:ByteArray):(BJ D sy ep i s).1.pend.length<=D.pend.length+1:=by
 have h:=Lb D sy ep;unfold BJ;split
 . show D.pend.length<=_;omega
 split
 . show D.pend.length<=_;omega
 split
 . omega
 . show ((Ah D sy ep).1.pend++[_]).length<=_;rw [iy,ju];omega
theorem Nd (D:Dev) (sy ep:Int):(Cl D sy ep).1.pend.length<=D.pend.length:=by
 have h:=Lb D sy ep;unfold Cl;split
 . exact iX _
 split
 . exact h
 . show ((Ah D sy ep).1.pend.filter _).length<=_;exact ij (j5 _ _) h
theorem bq (D:Dev) (sy ep:Int) (t:St):(stD D sy ep t).1.pend.length<=D.pend.length+1:=by
 cases t with
 | put i s=>exact Ix D sy ep i s
 | sync=>exact Nat.le_succ_of_le (Nd D sy ep)
theorem O4 (sy ep:Int) (l:List St):∀D,(Bm sy ep l D).1.pend.length<=D.pend.length+l.length:=by
 induction l with
 | nil=>intro D;exact iX _
 | cons t l ih=>
   intro D;have h:=bq D sy ep t;show (if (stD D sy ep t).2=0 then Bm sy ep l (stD D sy ep t).1 else stD D sy ep t).1.pend.length<=_;rw [jf];split
   . have:=ih (stD D sy ep t).1;omega
   . omega
def Works (w0:World) (x:Nat) (out:Nat->Prop) (W:World) (n:Nat) (v:Value) (f:Dev->Dev × Int):Prop:=
 ∃fn first caps,v=.func (.func fn) first caps/\CF Tryz.prog fn/\∀D' w',Live w0 x D' out w'->Beside w0 out W w'->D'.pend.length<=990000->Calls Tryz.prog fn (first++caps) w' λe w''=>
  e=.returned (.int .i64 (f D').2)/\Live w0 x (f D').1 out w''/\Beside w0 out w' w''/\(f D').1.pend.length<=D'.pend.length+n
theorem R5:CF Tryz.prog 159:=BD Tryz.func159 qk qk
theorem Rk:CF Tryz.prog 122:=BD Tryz.func122 qk qk
theorem QY:CF Tryz.prog 121:=BD Tryz.func121 qk qk
theorem Blk.beside {w0 W w':World} {out:Nat->Prop} {g:Nat} {t:TypeId} {cs:Array Value} (h:Blk W g t cs) (hB:Beside w0 out W w') (ho:out g):Blk w' g t cs:=h.turned hB (λhh=>hh.2 ho)
section
variable {w0:World} {x s m:Nat} {sy ep:Int} {out:Nat->Prop} {W:World} (hb:Blk W s 252 (Ct x sy ep m)) (hs:out s)
include hb hs
theorem PY {lo:Nat} (d:∀k,lo<=k->k<W.heap.size->out k) {i:Int} {raw:ByteArray} (hr:raw.size<=9223372036854775807) {v:Value} (h:PutAt W lo s i raw v):Works w0 x out W 1 v (λD=>BJ D sy ep i raw):=by
 obtain ⟨a,b,c,rfl,la,lb,lc,ha,f,hc⟩:=h;refine ⟨_,_,_,rfl,R5,λD' w' hL hB hp=>?_⟩;refine (Zl hL (hb.beside hB hs) oo i raw hr a b c (ha.beside hB (d a la ha.lt)) (f.beside hB (d b lb f.lt)) (hc.beside hB (d c lc hc.lt))).mono ?_;rintro e g ⟨he,h1,h2⟩;exact ⟨he,h1,h2,Ix ..⟩
theorem F8:Works w0 x out W 0 (.func (.func 122) #[ptrV s] #[]) (λD=>Cl D sy ep):=by
 refine ⟨_,_,_,rfl,Rk,λD' w' hL hB hp=>?_⟩;refine (YA hL (hb.beside hB hs) oo).mono ?_;rintro e a ⟨he,h1,h2⟩;exact ⟨he,h1,h2,Nd ..⟩
theorem Lx:Works w0 x out W 1 (.func (.func 121) #[ptrV s] #[]) (λD=>BJ D sy ep 33 blankR):=by
 refine ⟨_,_,_,rfl,QY,λD' w' hL hB hp=>?_⟩;refine (XH hL (hb.beside hB hs) oo).mono ?_;rintro e a ⟨he,h1,h2⟩;exact ⟨he,h1,h2,Ix ..⟩
end
def Et (w0:World) (out:Nat->Prop) (A:Option Addr):Prop:=∀b off,A=some ⟨b,off,none⟩->b<w0.heap.size\/out b
theorem ListAt.beside {w0 W w':World} {out:Nat->Prop} {sz:Nat} {A:Option Addr} {rows:List (List Value)} (h:ListAt W W.heap.size sz A rows) (hB:Beside w0 out W w') (hA:Et w0 out A):ListAt w' w'.heap.size sz A rows:=λhl=>by
 obtain ⟨b,off,e,hb,hc⟩:=h hl;refine ⟨b,off,e,ig hb hB.size,λj cs hj i v hi=>?_⟩;rw [hB.cellEq b _ hb (λhh=>by rcases hA b off e with h9 | h9;exact absurd hh.1 oo;exact hh.2 h9)];exact hc j cs hj i v hi
theorem Works.more {w0:World} {x:Nat} {out:Nat->Prop} {W:World} {n n':Nat} {v:Value} {f:Dev->Dev × Int} (h:Works w0 x out W n v f) (hn:n<=n'):Works w0 x out W n' v f:=by
 obtain ⟨fn,first,d,h1,h2,h3⟩:=h;exact ⟨fn,first,d,h1,h2,λD' w' a b c=>(h3 D' w' a b c).mono λe w'' h=>⟨h.1,h.2.1,h.2.2.1,oo⟩⟩
def WorksL (w0:World) (x:Nat) (out:Nat->Prop) (W:World) (n:Nat) (fs:List (Dev->Dev × Int)) (vs:List Value):Prop:=
 vs.length=fs.length/\∀(k:Nat) (f:Dev->Dev × Int) (v:Value),fs[k]? =some f->vs[k]? =some v->Works w0 x out W n v f
theorem WorksL.nil (w0:World) (x:Nat) (out:Nat->Prop) (W:World) (n:Nat):WorksL w0 x out W n [] []:=⟨rfl,λk f v h=>by simp at h⟩
theorem WorksL.app {w0:World} {x:Nat} {out:Nat->Prop} {W:World} {n:Nat} {fs gs:List (Dev->Dev × Int)} {vs us:List Value} (h:WorksL w0 x out W n fs vs) (k:WorksL w0 x out W n gs us):WorksL w0 x out W n (fs++gs) (vs++us):=by
 refine ⟨by rw [iy,iy,h.1,k.1],λj f v h1 h2=>?_⟩;rcases jY j fs.length with hj | hj
 . rw [jm hj] at h1;rw [jm (by rw [h.1];exact hj)] at h2;exact h.2 j f v h1 h2
 . rw [jW hj] at h1;rw [jW (by rw [h.1];exact hj),h.1] at h2;exact k.2 _ f v h1 h2
theorem WorksL.cons {w0:World} {x:Nat} {out:Nat->Prop} {W:World} {n:Nat} {fs:List (Dev->Dev × Int)} {vs:List Value} {f:Dev->Dev × Int} {v:Value} (h:Works w0 x out W n v f) (k:WorksL w0 x out W n fs vs):WorksL w0 x out W n (f::fs) (v::vs):=by
 refine ⟨by rw [jf,jf,k.1],λj f' v' h1 h2=>?_⟩;cases j with
 | zero=>
   obtain rfl:f=f':=by simpa using h1
   obtain rfl:v=v':=by simpa using h2
   exact h
 | succ j=>exact k.2 j f' v' (by simpa using h1) (by simpa using h2)
theorem RG {w0:World} {x:Nat} {D:Dev} {out:Nat->Prop} {W:World} (hL:Live w0 x D out W) (n:Nat) (fs:List (Dev->Dev × Int)) (vs:List Value) (hW:WorksL w0 x out W n fs vs)
 (i:D.pend.length+n*vs.length<=990000) (hv:vs.length<=990000) (A:Option Addr) (c:Nat) (b:ListAt W W.heap.size 1 A (vs.map λv=>[v])) (hA:Et w0 out A):
 Calls Tryz.prog 120 #[.slice A vs.length c] W λe w'=>e=.returned (.int .i64 (De fs D).2)/\Live w0 x (De fs D).1 out w'/\Beside w0 out W w'/\(De fs D).1.pend.length<=D.pend.length+n*vs.length:=by
 refine (cO (λk D' w'=>(k<=vs.length->D'.pend.length<=D.pend.length+n*k)/\Live w0 x D' out w'/\Beside w0 out W w') fs vs hW.1 oo A c (λk D' w' h=>b.beside h.2.2 hA) (λk h1 h2=>?_) D W ⟨λ_=>oo,hL,jD _ _⟩).mono ?_
 . obtain ⟨fn,first,g,hv,hE,hc⟩:=hW.2 k _ _ (iV h1) (iV h2);refine ⟨fn,first,g,hv,hE,λD' w' ⟨hp,a,hB⟩=>?_⟩;have h9:=hp oo;have h8:n*k<=n*vs.length:=Nat.mul_le_mul_left n oo;refine (hc D' w' a hB oo).mono ?_;rintro e l ⟨he,d,f,m⟩;exact ⟨he,λ_=>by rw [Nat.mul_succ];omega,d,hB.trans f⟩
 . rintro e w' ⟨he,j,hj,hp,a,hB⟩;have h8:n*j<=n*vs.length:=Nat.mul_le_mul_left n hj;exact ⟨he,a,hB,by have:=hp hj;omega⟩

end
end Go.Proofs.YtmcgbdemcknkaaaGreatDoor
