/- Parts of the proof (packed), 10. -/
import Derived.IntWalk
import Derived.Lib.Strings
import Derived.Test.YtmcgbdemcknkaaaGreatDoorCwF
namespace Go.Proofs.YtmcgbdemcknkaaaGreatDoor
set_option linter.all false
set_option maxRecDepth 100000
set_option maxHeartbeats 16000000
open List
section
open Go.RowKit
def okT (t:Int):Bool:=decide (4<=t/\t<=128)
def ttS (t:Int):Int:=if okT t=true then (t+3) / 4 else 0
def Ca (t:Int):Int:=max 0 (ttS t - 1)
theorem Ck {t:Int} (h:okT t=true):4<=t/\t<=128:=by simpa [okT] using h
theorem EC (t:Int):0<=ttS t/\ttS t<=32:=by
 unfold ttS;cases h:okT t with
 | true=>have:=Ck h;rw [if_pos rfl];omega
 | false=>rw [if_neg qs];omega
theorem BW (t:Int) (w:World):Calls Tryz.prog 111 #[.int .i64 t] w λe w'=>e=.returned (.bool (okT t))/\w=w':=by
 have HO:=zh (show okT t=decide (4<=t/\t<=128) from rfl);by_cases h1:4<=t
 . by_cases h2:t<=128
   . have HE:=zh (show okT t=true from by rw [HO.out];simp [h1,h2]);go_enter Tryz.func111,Tryz.ntmps111
     go_wp2
     go_ret;exact ⟨AC (by rw [HE.out]),rfl⟩
   . have HE:=zh (show okT t=false from by rw [HO.out];simp [h1,h2]);go_enter Tryz.func111,Tryz.ntmps111
     go_wp2
     go_ret;exact ⟨AC (by rw [HE.out]),rfl⟩
 . have HE:=zh (show okT t=false from by rw [HO.out];simp [h1]);go_enter Tryz.func111,Tryz.ntmps111
   go_wp2
   go_ret;exact ⟨AC (by rw [HE.out]),rfl⟩
theorem CC (t:Int) (w:World):Calls Tryz.prog 74 #[.int .i64 t] w λe w'=>e=.returned (.int .i64 (ttS t))/\w=w':=by
 cases h:okT t with
 | true=>
   have HE:=zh h;obtain ⟨h1,h2⟩:=Ck h;have HT:=zh (show ttS t=(t+3) / 4 from by unfold ttS;rw [if_pos h]);clear h;go_enter Tryz.func74,Tryz.ntmps74;go_wp2_with fail;refine (BW _ _).mono ?_;rintro e w1 ⟨rfl,rfl⟩;rw [HE.out];go_wp2_with fail;go_ret;exact ⟨DK (by rw [HT.out]),rfl⟩
 | false=>
   have HE:=zh h;have HT:=zh (show ttS t=0 from by unfold ttS;rw [if_neg (by rw [h];simp)]);clear h;go_enter Tryz.func74,Tryz.ntmps74;go_wp2_with fail;refine (BW _ _).mono ?_;rintro e w1 ⟨rfl,rfl⟩;rw [HE.out];go_wp2_with fail;go_ret;exact ⟨DK (by rw [HT.out]),rfl⟩
theorem LO (t:Int) (w:World):Calls Tryz.prog 113 #[.int .i64 t] w λe w'=>e=.returned (.int .i64 (Ca t))/\w=w':=by
 obtain ⟨h0,h1⟩:=EC t;have HS:=zh (show Ca t=max 0 (ttS t - 1) from rfl);have HC:=zh (CC t w);generalize ttS t=n at*
 by_cases h:1<=n
 . go_enter Tryz.func113,Tryz.ntmps113;go_wp2_with fail;refine HC.mono ?_;rintro e w1 ⟨rfl,rfl⟩;go_wp2_with fail
   all_goals
    go_ret;exact ⟨DK (by rw [HS.out]<;>omega),rfl⟩
 . go_enter Tryz.func113,Tryz.ntmps113;go_wp2_with fail;refine HC.mono ?_;rintro e w1 ⟨rfl,rfl⟩;go_wp2_with fail
   all_goals
    go_ret;exact ⟨DK (by rw [HS.out]<;>omega),rfl⟩

structure Lab where
 id:Int
 unit:Int
 name:ByteArray
 note:ByteArray
 ext:List (Int × Int)
instance:Inhabited Lab:=⟨⟨0,0,⟨#[]⟩,⟨#[]⟩,[]⟩⟩
def CN:Lab:=⟨0,0,⟨#[]⟩,⟨#[]⟩,[]⟩
structure LabAt (w:World) (A:Option Addr) (c:Nat) (l:Lab):Prop where
 id0:-9223372036854775808<=l.id
 id1:l.id<=9223372036854775807
 unit0:-9223372036854775808<=l.unit
 unit1:l.unit<=9223372036854775807
 name:l.name.size<=9223372036854775807
 note:l.note.size<=9223372036854775807
 runs:RunsAt w w.heap.size A l.ext
 len:l.ext.length<=c
 cap:c<=9223372036854775807
theorem LabAt.hold {w w':World} {A:Option Addr} {c:Nat} {l:Lab} (h:LabAt w A c l) (hg:Grew w w'):LabAt w' A c l:=
 ⟨h.id0,h.id1,h.unit0,h.unit1,h.name,h.note,⟨h.runs.1,(ListAt.keep h.runs.2 (iX _) hg).mono hg.size⟩,h.len,h.cap⟩
theorem LabAt.zero (w:World):LabAt w none 0 CN:=⟨qd,qd,qd,qd,qd,qd,⟨by simp [CN],λh=>by simp [CN] at h⟩,by simp [CN],oo⟩
def eqL (a b:Lab):Bool:=(a.id==b.id) && ((a.unit==b.unit) && ((a.name.toList==b.name.toList) && ((a.note.toList==b.note.toList) && decide (a.ext=b.ext))))
theorem US (A B:Option Addr) (c d:Nat) (a b:Lab) (w:World) (ha:LabAt w A c a) (hb:LabAt w B d b) (j:a.ext.length<=100000) (i:b.ext.length<=100000):
 Calls Tryz.prog 144 #[.agg #[.int .i64 a.id,.int .i64 a.unit,.string a.name,.string a.note,.slice A a.ext.length c],.agg #[.int .i64 b.id,.int .i64 b.unit,.string b.name,.string b.note,.slice B b.ext.length d]] w λe w'=>e=.returned (.bool (eqL a b))/\Grew w w':=by
 obtain ⟨i1,u1,n1,t1,e1⟩:=a;obtain ⟨i2,u2,n2,t2,e2⟩:=b;have ra:=ha.runs;have rb:=hb.runs;simp only at ra rb j i;have ga:=((iW w).alloc (.cells #[.int .i64 i1,.int .i64 u1,.string n1,.string t1,.slice A e1.length c] 101)).alloc (.cells #[.int .i64 i2,.int .i64 u2,.string n2,.string t2,.slice B e2.length d] 101);have HC:=zh (K9 A B c d e1 e2 _ w.heap.size ga.size oo oo (ra.keep (iX _) ga) (rb.keep (iX _) ga));have HE:=zh (show eqL ⟨i1,u1,n1,t1,e1⟩ ⟨i2,u2,n2,t2,e2⟩=((i1==i2) && ((u1==u2) && ((n1.toList==n2.toList) && ((t1.toList==t2.toList) && decide (e1=e2))))) from rfl);have HG:=zh ga;clear ha hb ra rb ga;cases b1:(i1==i2) with
 | false=>
   have HB:=zh b1;go_enter Tryz.func144,Tryz.ntmps144;go_wp2_with fail;go_ret;exact ⟨AC (by rw [HE.out,HB.out];rfl),HG⟩
 | true=>
   have f:=zh b1;cases b2:(u1==u2) with
   | false=>
     have HB:=zh b2;go_enter Tryz.func144,Tryz.ntmps144;go_wp2_with fail;go_ret;exact ⟨AC (by rw [HE.out,f.out,HB.out];rfl),HG⟩
   | true=>
     have g:=zh b2;cases b3:(n1.toList==n2.toList) with
     | false=>
       have HB:=zh b3;go_enter Tryz.func144,Tryz.ntmps144;go_wp2_with fail;go_ret;exact ⟨AC (by rw [HE.out,f.out,g.out,HB.out];rfl),HG⟩
     | true=>
       have h:=zh b3;cases b4:(t1.toList==t2.toList) with
       | false=>
         have HB:=zh b4;go_enter Tryz.func144,Tryz.ntmps144;go_wp2_with fail;go_ret;exact ⟨AC (by rw [HE.out,f.out,g.out,h.out,HB.out];rfl),HG⟩
       | true=>
         have HB:=zh b4;go_enter Tryz.func144,Tryz.ntmps144;go_wp2_with fail;refine HC.mono ?_;rintro e w1 ⟨rfl,g1⟩;go_wp2_with fail;go_ret;exact ⟨AC (by rw [HE.out,f.out,g.out,h.out,HB.out];simp),HG.out.trans g1⟩

def idB (l:Lab):Bool:=decide (1<=l.id/\l.id<=1099511627776/\0<=l.unit/\l.unit<=1099511627776)
def txB (l:Lab):Bool:=decide (l.name.size<=31/\l.note.size<=400)
def cnB (l:Lab):Bool:=decide (1<=l.ext.length/\l.ext.length<=16)
def jnB (l:Lab):Bool:=decide (Cq (FK l.ext)=l.ext) && decide (CZ l.ext).Nodup
def GH (t:Int) (r:Int × Int):Bool:=decide (r.1<ttS t) || decide (t<r.1+r.2)
def inB (l:Lab) (t:Int):Bool:=!(l.ext.any (GH t))
def Sx (l:Lab) (t:Int):Nat->Bool
 | 0=>okT t
 | 1=>idB l
 | 2=>txB l
 | 3=>cnB l
 | 4=>jnB l
 | _=>inB l t
def BZ (l:Lab) (t:Int):Bool:=okT t && (idB l && (txB l && (cnB l && (jnB l && inB l t))))
theorem Lw (l:Lab) (t:Int) (k:Nat) (h:Sx l t k=false):BZ l t=false:=by
 unfold BZ
 match k with
 | 0=>rw [show okT t=false from h];rfl
 | 1=>rw [show idB l=false from h];simp
 | 2=>rw [show txB l=false from h];simp
 | 3=>rw [show cnB l=false from h];simp
 | 4=>rw [show jnB l=false from h];simp
 | k+5=>rw [show inB l t=false from h];simp
theorem TQ (l:Lab) (t:Int) (h:∀k,k<6->Sx l t k=true):BZ l t=true:=by
 unfold BZ;rw [show okT t=true from h 0 oo,show idB l=true from h 1 oo,show txB l=true from h 2 oo,show cnB l=true from h 3 oo,show jnB l=true from h 4 oo,show inB l t=true from h 5 oo];rfl
theorem az (l:Lab) (h:jnB l=true):∀r∈l.ext,0<=r.1/\0<=r.2/\r.1+r.2<=128:=by
 unfold jnB at h;rw [jF,jG] at h;intro r hr;rw [<-h.1] at hr;obtain ⟨x,hx,rfl⟩:=ie.1 hr;have:=Nb l.ext x hx;simp only;omega
section
variable (A:Option Addr) (c:Nat) (l:Lab) (g:Nat) (w:World)
theorem Wo (t:Int) (hb:Blk w g 3 #[.int .i64 t]):
 Calls Tryz.prog 174 #[.pointer (some ⟨g,0,none⟩)] w λe w'=>e=.returned (.bool (okT t))/\Grew w w':=by
 have x0:=hb.cell 0;have hl:=hb.lt;go_enter Tryz.func174,Tryz.ntmps174;go_wp2_with fail;refine (BW _ _).mono ?_;rintro e w1 ⟨rfl,rfl⟩;go_wp2_with fail;go_ret;exact ⟨rfl,iW _⟩
theorem Xw (hb:Blk w g 101 #[.int .i64 l.id,.int .i64 l.unit,.string l.name,.string l.note,.slice A l.ext.length c]):
 Calls Tryz.prog 175 #[.pointer (some ⟨g,0,none⟩)] w λe w'=>e=.returned (.bool (idB l))/\Grew w w':=by
 have x0:=hb.cell 0;have x1:=hb.cell 1;have hl:=hb.lt;obtain ⟨id,unit,name,note,ext⟩:=l;simp only at x0 x1;have HE:=zh (show idB ⟨id,unit,name,note,ext⟩=decide (1<=id/\id<=1099511627776/\0<=unit/\unit<=1099511627776) from rfl);clear hb;by_cases h1:1<=id
 . by_cases h2:id<=1099511627776
   . by_cases h3:0<=unit
     . by_cases h4:unit<=1099511627776
       . have HF:=zh (show idB ⟨id,unit,name,note,ext⟩=true from HE.out.trans (by simp [h1,h2,h3,h4]));clear HE;go_enter Tryz.func175,Tryz.ntmps175;go_wp2_with fail;go_ret;exact ⟨AC (by rw [HF.out]),iW _⟩
       . have HF:=zh (show idB ⟨id,unit,name,note,ext⟩=false from HE.out.trans (by simp [h1,h2,h3,h4]));clear HE;go_enter Tryz.func175,Tryz.ntmps175;go_wp2_with fail;go_ret;exact ⟨AC (by rw [HF.out]),iW _⟩
     . have HF:=zh (show idB ⟨id,unit,name,note,ext⟩=false from HE.out.trans (by simp [h1,h2,h3]));clear HE;go_enter Tryz.func175,Tryz.ntmps175;go_wp2_with fail;go_ret;exact ⟨AC (by rw [HF.out]),iW _⟩
   . have HF:=zh (show idB ⟨id,unit,name,note,ext⟩=false from HE.out.trans (by simp [h1,h2]));clear HE;go_enter Tryz.func175,Tryz.ntmps175;go_wp2_with fail;go_ret;exact ⟨AC (by rw [HF.out]),iW _⟩
 . have HF:=zh (show idB ⟨id,unit,name,note,ext⟩=false from HE.out.trans (by simp [h1]));clear HE;go_enter Tryz.func175,Tryz.ntmps175;go_wp2_with fail;go_ret;exact ⟨AC (by rw [HF.out]),iW _⟩
theorem Xx (b:l.name.size<=9223372036854775807) (a:l.note.size<=9223372036854775807) (hb:Blk w g 101 #[.int .i64 l.id,.int .i64 l.unit,.string l.name,.string l.note,.slice A l.ext.length c]):
 Calls Tryz.prog 176 #[.pointer (some ⟨g,0,none⟩)] w λe w'=>e=.returned (.bool (txB l))/\Grew w w':=by
 have x0:=hb.cell 2;have x1:=hb.cell 3;have hl:=hb.lt;obtain ⟨id,unit,name,note,ext⟩:=l;simp only at x0 x1 b a;have HE:=zh (show txB ⟨id,unit,name,note,ext⟩=decide (name.size<=31/\note.size<=400) from rfl);clear hb;by_cases h1:name.size<=31
 . by_cases h2:note.size<=400
   . have d:(note.size:Int)<=400:=oo;have HF:=zh (show txB ⟨id,unit,name,note,ext⟩=true from HE.out.trans (by simp [h1,h2]));clear HE;go_enter Tryz.func176,Tryz.ntmps176;go_wp2_with fail;go_ret;exact ⟨AC (by rw [HF.out]),iW _⟩
   . have d:¬(note.size:Int)<=400:=oo;have HF:=zh (show txB ⟨id,unit,name,note,ext⟩=false from HE.out.trans (by simp [h1,h2]));clear HE;go_enter Tryz.func176,Tryz.ntmps176;go_wp2_with fail;go_ret;exact ⟨AC (by rw [HF.out]),iW _⟩
 . have HF:=zh (show txB ⟨id,unit,name,note,ext⟩=false from HE.out.trans (by simp [h1]));clear HE;go_enter Tryz.func176,Tryz.ntmps176;go_wp2_with fail;go_ret;exact ⟨AC (by rw [HF.out]),iW _⟩
theorem YD (hs:l.ext.length<=1000000000) (hb:Blk w g 101 #[.int .i64 l.id,.int .i64 l.unit,.string l.name,.string l.note,.slice A l.ext.length c]):
 Calls Tryz.prog 177 #[.pointer (some ⟨g,0,none⟩)] w λe w'=>e=.returned (.bool (cnB l))/\Grew w w':=by
 have x1:=hb.cell 4;have hl:=hb.lt;obtain ⟨id,unit,name,note,ext⟩:=l;simp only at x1 hs;have HE:=zh (show cnB ⟨id,unit,name,note,ext⟩=decide (1<=ext.length/\ext.length<=16) from rfl);clear hb;generalize ext.length=n at*
 by_cases h1:1<=n
 . have a:1<=(n:Int):=oo;by_cases h2:n<=16
   . have b:(n:Int)<=16:=oo;have HF:=zh (show cnB ⟨id,unit,name,note,ext⟩=true from HE.out.trans (by simp [h1,h2]));clear HE;go_enter Tryz.func177,Tryz.ntmps177;go_wp2_with fail;go_ret;exact ⟨AC (by rw [HF.out]),iW _⟩
   . have b:¬(n:Int)<=16:=oo;have HF:=zh (show cnB ⟨id,unit,name,note,ext⟩=false from HE.out.trans (by simp [h1,h2]));clear HE;go_enter Tryz.func177,Tryz.ntmps177;go_wp2_with fail;go_ret;exact ⟨AC (by rw [HF.out]),iW _⟩
 . have a:¬1<=(n:Int):=oo;have HF:=zh (show cnB ⟨id,unit,name,note,ext⟩=false from HE.out.trans (by simp [h1]));clear HE;go_enter Tryz.func177,Tryz.ntmps177;go_wp2_with fail;go_ret;exact ⟨AC (by rw [HF.out]),iW _⟩
end

end
section
attribute [local go_sem ↓] Go.wp_at_zero Go.wp_at_succ
open Go.RowKit
theorem RunsAt.mono2 {w:World} {B B':Nat} {A:Option Addr} {l:List (Int × Int)} (h:RunsAt w B A l) (hB:B<=B'):RunsAt w B' A l:=⟨h.1,h.2.mono hB⟩
section
variable (A:Option Addr) (c:Nat) (l:Lab) (g:Nat) (w:World)
theorem X8 (h:LabAt w A c l) (hs:l.ext.length<=100000) (hb:Blk w g 101 #[.int .i64 l.id,.int .i64 l.unit,.string l.name,.string l.note,.slice A l.ext.length c]):
 Calls Tryz.prog 178 #[.pointer (some ⟨g,0,none⟩)] w λe w'=>e=.returned (.bool (jnB l))/\Grew w w':=by
 have hl:=hb.lt;have hJ:=jnB l;obtain ⟨k,hk⟩:∃k,Cq (FK l.ext)=k:=⟨_,rfl⟩;have j:k.length<=l.ext.length:=by rw [<-hk,Dw];exact Py _
 have HR:=zh h.runs;have HB:=zh hb;have HK:=zh hk;have HE:=zh (show jnB l=(decide (k=l.ext) && decide (CZ l.ext).Nodup) from by unfold jnB;rw [hk]);clear h hk hJ;cases hj:decide (k=l.ext) with
 | false=>
   have HJ:=zh hj;have HF:=zh (show jnB l=false from HE.out.trans (by rw [hj];rfl));clear hj HE;go_enter Tryz.func178,Tryz.ntmps178;go_wp2_with fail;refine AB [] (λw':World=>w'.cell? ⟨g,4,none⟩=some (.slice A l.ext.length c)) qk ?_;have hS:=HB.drew.cell 4;refine tQ 0 2 ?_;refine tT 1 (some 3) hS ?_;refine tQ 3 5 ?_;refine tT 4 (some 6) hS ?_;refine tO 2 λK' hK=>?_;go_wp2_with fail;refine (SU A c _ l.ext w.drew rfl oo HR k HK).mono ?_;rintro e w1 ⟨A1,c1,rfl,b,g1⟩;have d:=zh b;clear b;go_wp2_with fail;refine hK.out _ _ (.inr (λ_=>(HB.drew.grew g1).cell 4)) ?_;clear hK hS;have a:Grew w w1:=(iW w).drew.trans g1;have hS:=(HB.grew a).cell 4;refine tO 5 λK' hK=>?_;go_wp2_with fail;refine (K9 A1 A c1 c k l.ext w1 w1.heap.size (iX _) oo oo d ((HR.keep (iX _) a).mono2 a.size)).mono ?_;rintro e w2 ⟨rfl,f⟩;rw [HJ.out];have g2:Grew w w2:=a.trans f;go_wp2_with fail;refine hK.out _ _ (.inr (λ_=>(HB.grew g2).cell 4)) ?_;clear hK hS;have hS:=(HB.grew g2).cell 4;refine tQ 6 8 ?_;refine tU 7 (some 9) ?_;refine tU 8 (some 10) ?_;refine tU 9 (some 11) ?_;refine tQ 10 12 ?_;refine tQ 11 1 ?_;refine AA qk ?_ _;go_wp2_with fail;go_ret;exact ⟨AC (by rw [HF.out]),g2⟩
 | true=>
   have HJ:=zh hj;have HF:=zh (show jnB l=decide (CZ l.ext).Nodup from HE.out.trans (by rw [hj];rfl));clear hj HE;go_enter Tryz.func178,Tryz.ntmps178;go_wp2_with fail;refine AB [] (λw':World=>w'.cell? ⟨g,4,none⟩=some (.slice A l.ext.length c)) qk ?_;have hS:=HB.drew.cell 4;refine tQ 0 2 ?_;refine tT 1 (some 3) hS ?_;refine tQ 3 5 ?_;refine tT 4 (some 6) hS ?_;refine tO 2 λK' hK=>?_;go_wp2_with fail;refine (SU A c _ l.ext w.drew rfl oo HR k HK).mono ?_;rintro e w1 ⟨A1,c1,rfl,b,g1⟩;have d:=zh b;clear b;go_wp2_with fail;refine hK.out _ _ (.inr (λ_=>(HB.drew.grew g1).cell 4)) ?_;clear hK hS;have a:Grew w w1:=(iW w).drew.trans g1;have hS:=(HB.grew a).cell 4;refine tO 5 λK' hK=>?_;go_wp2_with fail;refine (K9 A1 A c1 c k l.ext w1 w1.heap.size (iX _) oo oo d ((HR.keep (iX _) a).mono2 a.size)).mono ?_;rintro e w2 ⟨rfl,f⟩;rw [HJ.out];have g2:Grew w w2:=a.trans f;go_wp2_with fail;refine hK.out _ _ (.inr (λ_=>(HB.grew g2).cell 4)) ?_;clear hK hS;have hS:=(HB.grew g2).cell 4;refine tQ 6 8 ?_;refine tQ 7 9 ?_;refine tT 8 (some 10) hS ?_;refine tO 9 λK' hK=>?_;go_wp2_with fail;refine (J7 rfl oo ((HR.keep (iX _) g2).mono2 g2.size) _ rfl).mono ?_;rintro e w3 ⟨rfl,g3⟩;have i:=zh (g2.trans g3);clear g3;go_wp2_with fail;refine hK.out _ _ (.inr (λ_=>(HB.grew i).cell 4)) ?_;clear hK;refine tQ 10 12 ?_;refine tQ 11 1 ?_;refine AA qk ?_ _;go_wp2_with fail;go_ret;exact ⟨AC (by rw [HF.out]),i⟩
end
theorem cI (t f n:Int) (g1 g2:Nat) (w:World) (h1:Blk w g1 3 #[.int .i64 (ttS t)]) (h2:Blk w g2 3 #[.int .i64 t]) (hf:0<=f/\f<=1000) (hn:0<=n/\n<=1000):
 Calls Tryz.prog 183 #[.agg #[.int .i64 f,.int .i64 n],.pointer (some ⟨g1,0,none⟩),.pointer (some ⟨g2,0,none⟩)] w λe w'=>e=.returned (.bool (GH t (f,n)))/\Grew w w':=by
 obtain ⟨c,d⟩:=hf;obtain ⟨g,h⟩:=hn;have a:=h1.lt;have b:=h2.lt;have x1:=h1.cell 0;have x2:=h2.cell 0;have HB:=zh (show GH t (f,n)=(decide (f<ttS t) || decide (t<f+n)) from rfl);clear h1 h2;generalize ttS t=tt at*
 by_cases a1:f<tt
 . have HF:=zh (show GH t (f,n)=true from HB.out.trans (by simp [a1]));clear HB;go_enter Tryz.func183,Tryz.ntmps183;go_wp2_with fail;go_ret;exact ⟨AC (by rw [HF.out]),gG⟩
 . by_cases a2:t<f+n
   . have HF:=zh (show GH t (f,n)=true from HB.out.trans (by simp [a1,a2]));clear HB;go_enter Tryz.func183,Tryz.ntmps183;go_wp2_with fail;go_ret;exact ⟨AC (by rw [HF.out]),gG⟩
   . have HF:=zh (show GH t (f,n)=false from HB.out.trans (by simp [a1,a2]));clear HB;go_enter Tryz.func183,Tryz.ntmps183;go_wp2_with fail;go_ret;exact ⟨AC (by rw [HF.out]),gG⟩
def iL (l:List (Int × Int)) (t:Int) (e:Ending):Prop:=(∃i:Nat,e=.returned (.int .i64 (i:Int))/\i<l.length/\l.any (GH t)=true)\/(e=.returned (.int .i64 (-1))/\l.any (GH t)=false)
section
variable (A:Option Addr) (c:Nat) (l:List (Int × Int)) (t:Int) (g1 g2:Nat) (w:World)
theorem bH (h1:Blk w g1 3 #[.int .i64 (ttS t)]) (h2:Blk w g2 3 #[.int .i64 t]) (hr:RunsAt w w.heap.size A l) (hl:l.length<=100000) (hs:∀r∈l,0<=r.1/\0<=r.2/\r.1+r.2<=128):
 Calls Tryz.prog 213 #[.slice A l.length c,.func (.func 183) #[] #[.pointer (some ⟨g1,0,none⟩),.pointer (some ⟨g2,0,none⟩)]] w λe w'=>iL l t e/\Grew w w':=by
 have HR:=zh hr;have HS:=zh hs;have H1:=zh h1;have H2:=zh h2;clear hr hs h1 h2;go_enter Tryz.func213,Tryz.ntmps213;go_wp2_with fail
 go_loopg [8] l.length (λgk i wr=>∃k:Nat,k<=l.length/\gk=l.length - k/\i=.int .i64 k/\(∀j (hj:j<l.length),j<k->GH t l[j]=false)/\Grew w wr)
 case atStart=>exact ⟨0,oo,oo,rfl,λj _ h=>oo,iW _⟩
 case round=>
  obtain ⟨k,hk,m,rfl,o,hg⟩:=hrel;have p:=zh m;have HA:=zh o;have HG:=zh hg;clear m o;by_cases a:k<l.length
  . obtain ⟨b,v,f,n,rfl,hb,hv,u,c0,c1⟩:=(HR.keep (iX _) hg).at_ a;have g:=HS.out l[k] (ib a);rw [hv] at g;simp only at g;have HV:=zh hv;have HB:=zh (cI t f n g1 g2 wr (H1.grew hg) (H2.grew hg) oo oo);clear hv u;go_wp2_with fail;refine HB.mono ?_;rintro e w3 ⟨rfl,g3⟩;cases d:GH t (f,n) with
    | true=>
      have q:=zh (show l.any (GH t)=true from by rw [j6];exact ⟨l[k],ib a,by rw [HV.out];exact d⟩);clear d;go_wp2_with fail;go_ret;exact ⟨.inl ⟨k,rfl,a,q⟩,HG.out.trans g3⟩
    | false=>
      have HN:=zh (show ∀j (hj:j<l.length),j<k+1->GH t l[j]=false from λj hj hjk=>by
       by_cases s:j=k
       . subst s;rw [HV.out];exact d
       . exact HA.out j hj oo)
      clear d;go_wp2_with fail
      go_roundg (l.length - (k+1))
      case measure=>rw [p.out];omega
      case rel=>exact ⟨k+1,oo,oo,by go_num,HN,HG.out.trans g3⟩
  . have HN:=zh (show l.any (GH t)=false from by
     rw [jT]
     intro x hx
     obtain ⟨j,hj,rfl⟩:=List.getElem_of_mem hx
     rw [HA.out j hj oo]
     simp)
    go_wp2_with fail;go_ret;exact ⟨.inr ⟨rfl,HN⟩,HG⟩
theorem bX (h1:Blk w g1 3 #[.int .i64 (ttS t)]) (h2:Blk w g2 3 #[.int .i64 t]) (hr:RunsAt w w.heap.size A l) (hl:l.length<=100000) (hs:∀r∈l,0<=r.1/\0<=r.2/\r.1+r.2<=128):
 Calls Tryz.prog 182 #[.slice A l.length c,.func (.func 183) #[] #[.pointer (some ⟨g1,0,none⟩),.pointer (some ⟨g2,0,none⟩)]] w λe w'=>e=.returned (.bool (l.any (GH t)))/\Grew w w':=by
 have HC:=zh (bH A c l t g1 g2 w h1 h2 hr hl hs);clear h1 h2 hr hs;go_enter Tryz.func182,Tryz.ntmps182;go_wp2_with fail;refine HC.mono ?_;rintro e w1 ⟨hi,g1⟩;rcases hi with ⟨i,rfl,b,he⟩ | ⟨rfl,he⟩
 . have HE:=zh he;have a:(0:Int)<=(i:Int):=oo;clear he;go_wp2_with fail;go_ret;exact ⟨AC (by rw [HE.out]),g1⟩
 . have HE:=zh he;clear he;go_wp2_with fail;go_ret;exact ⟨AC (by rw [HE.out]),g1⟩
end
theorem WR (A:Option Addr) (c:Nat) (l:Lab) (t:Int) (g g1 g2:Nat) (w:World) (h:LabAt w A c l) (hs:l.ext.length<=100000) (hj:jnB l=true) (hb:Blk w g 101 #[.int .i64 l.id,.int .i64 l.unit,.string l.name,.string l.note,.slice A l.ext.length c]) (h1:Blk w g1 3 #[.int .i64 (ttS t)]) (h2:Blk w g2 3 #[.int .i64 t]):
 Calls Tryz.prog 181 #[.pointer (some ⟨g,0,none⟩),.pointer (some ⟨g1,0,none⟩),.pointer (some ⟨g2,0,none⟩)] w λe w'=>e=.returned (.bool (inB l t))/\Grew w w':=by
 have hl:=hb.lt;have x4:=hb.cell 4;have HC:=zh (bX A c l.ext t g1 g2 w h1 h2 h.runs hs (az l hj));have HE:=zh (show inB l t= !(l.ext.any (GH t)) from rfl);clear h hj hb h1 h2;go_enter Tryz.func181,Tryz.ntmps181;go_wp2_with fail;refine HC.mono ?_;rintro e w1 ⟨rfl,g1⟩;cases hx:l.ext.any (GH t) with
 | true=>
   have HX:=zh hx;clear hx;go_wp2_with fail;go_ret;exact ⟨AC (by rw [HE.out,HX.out];rfl),g1⟩
 | false=>
   have HX:=zh hx;clear hx;go_wp2_with fail;go_ret;exact ⟨AC (by rw [HE.out,HX.out];rfl),g1⟩

end
section
open Go.RowKit
theorem LG (A:Option Addr) (c:Nat) (l:Lab) (t:Int) (w:World) (h:LabAt w A c l) (hs:l.ext.length<=100000):
 Calls Tryz.prog 142 #[.agg #[.int .i64 l.id,.int .i64 l.unit,.string l.name,.string l.note,.slice A l.ext.length c],.int .i64 t] w λe w'=>e=.returned (.bool (BZ l t))/\Grew w w':=by
 have HL:=zh h;have HF:=zh (Lw l t);have HT:=zh (TQ l t);have z:=h.name;have B:=h.note;clear h;go_enter Tryz.func142,Tryz.ntmps142;go_wp2_with fail;refine (CC _ _).mono ?_;rintro e w1 ⟨rfl,rfl⟩;go_wp2_with fail;have p:=zh ((((ik w 101 #[.int .i64 l.id,.int .i64 l.unit,.string l.name,.string l.note,.slice A l.ext.length c] rfl).alloc (.cells #[.int .i64 t] 3)).alloc (.cells #[.int .i64 (ttS t)] 3)).alloc (.cells #[.func (.func 174) #[] #[.pointer (some ⟨w.heap.size+1,0,none⟩)],.func (.func 175) #[] #[.pointer (some ⟨w.heap.size,0,none⟩)],.func (.func 176) #[] #[.pointer (some ⟨w.heap.size,0,none⟩)],.func (.func 177) #[] #[.pointer (some ⟨w.heap.size,0,none⟩)],.func (.func 178) #[] #[.pointer (some ⟨w.heap.size,0,none⟩)],.func (.func 181) #[] #[.pointer (some ⟨w.heap.size,0,none⟩),.pointer (some ⟨w.heap.size+1+1,0,none⟩),.pointer (some ⟨w.heap.size+1,0,none⟩)]] 26));have q:=zh (((ik (w.alloc (.cells #[.int .i64 l.id,.int .i64 l.unit,.string l.name,.string l.note,.slice A l.ext.length c] 101)) 3 #[.int .i64 t] (n:=w.heap.size+1) qs).alloc (.cells #[.int .i64 (ttS t)] 3)).alloc (.cells #[.func (.func 174) #[] #[.pointer (some ⟨w.heap.size+1,0,none⟩)],.func (.func 175) #[] #[.pointer (some ⟨w.heap.size,0,none⟩)],.func (.func 176) #[] #[.pointer (some ⟨w.heap.size,0,none⟩)],.func (.func 177) #[] #[.pointer (some ⟨w.heap.size,0,none⟩)],.func (.func 178) #[] #[.pointer (some ⟨w.heap.size,0,none⟩)],.func (.func 181) #[] #[.pointer (some ⟨w.heap.size,0,none⟩),.pointer (some ⟨w.heap.size+1+1,0,none⟩),.pointer (some ⟨w.heap.size+1,0,none⟩)]] 26));have r:=zh ((ik ((w.alloc (.cells #[.int .i64 l.id,.int .i64 l.unit,.string l.name,.string l.note,.slice A l.ext.length c] 101)).alloc (.cells #[.int .i64 t] 3)) 3 #[.int .i64 (ttS t)] (n:=w.heap.size+1+1) qs).alloc (.cells #[.func (.func 174) #[] #[.pointer (some ⟨w.heap.size+1,0,none⟩)],.func (.func 175) #[] #[.pointer (some ⟨w.heap.size,0,none⟩)],.func (.func 176) #[] #[.pointer (some ⟨w.heap.size,0,none⟩)],.func (.func 177) #[] #[.pointer (some ⟨w.heap.size,0,none⟩)],.func (.func 178) #[] #[.pointer (some ⟨w.heap.size,0,none⟩)],.func (.func 181) #[] #[.pointer (some ⟨w.heap.size,0,none⟩),.pointer (some ⟨w.heap.size+1+1,0,none⟩),.pointer (some ⟨w.heap.size+1,0,none⟩)]] 26));have s:=zh (ik (((w.alloc (.cells #[.int .i64 l.id,.int .i64 l.unit,.string l.name,.string l.note,.slice A l.ext.length c] 101)).alloc (.cells #[.int .i64 t] 3)).alloc (.cells #[.int .i64 (ttS t)] 3)) 26 #[.func (.func 174) #[] #[.pointer (some ⟨w.heap.size+1,0,none⟩)],.func (.func 175) #[] #[.pointer (some ⟨w.heap.size,0,none⟩)],.func (.func 176) #[] #[.pointer (some ⟨w.heap.size,0,none⟩)],.func (.func 177) #[] #[.pointer (some ⟨w.heap.size,0,none⟩)],.func (.func 178) #[] #[.pointer (some ⟨w.heap.size,0,none⟩)],.func (.func 181) #[] #[.pointer (some ⟨w.heap.size,0,none⟩),.pointer (some ⟨w.heap.size+1+1,0,none⟩),.pointer (some ⟨w.heap.size+1,0,none⟩)]] (n:=w.heap.size+1+1+1) qs);have d:=zh ((((iW w).alloc (.cells #[.int .i64 l.id,.int .i64 l.unit,.string l.name,.string l.note,.slice A l.ext.length c] 101)).alloc (.cells #[.int .i64 t] 3)).alloc (.cells #[.int .i64 (ttS t)] 3) |>.alloc (.cells #[.func (.func 174) #[] #[.pointer (some ⟨w.heap.size+1,0,none⟩)],.func (.func 175) #[] #[.pointer (some ⟨w.heap.size,0,none⟩)],.func (.func 176) #[] #[.pointer (some ⟨w.heap.size,0,none⟩)],.func (.func 177) #[] #[.pointer (some ⟨w.heap.size,0,none⟩)],.func (.func 178) #[] #[.pointer (some ⟨w.heap.size,0,none⟩)],.func (.func 181) #[] #[.pointer (some ⟨w.heap.size,0,none⟩),.pointer (some ⟨w.heap.size+1+1,0,none⟩),.pointer (some ⟨w.heap.size+1,0,none⟩)]] 26));obtain ⟨w0,x⟩:∃w0,w0=((((w.alloc (.cells #[.int .i64 l.id,.int .i64 l.unit,.string l.name,.string l.note,.slice A l.ext.length c] 101)).alloc (.cells #[.int .i64 t] 3)).alloc (.cells #[.int .i64 (ttS t)] 3)).alloc (.cells #[.func (.func 174) #[] #[.pointer (some ⟨w.heap.size+1,0,none⟩)],.func (.func 175) #[] #[.pointer (some ⟨w.heap.size,0,none⟩)],.func (.func 176) #[] #[.pointer (some ⟨w.heap.size,0,none⟩)],.func (.func 177) #[] #[.pointer (some ⟨w.heap.size,0,none⟩)],.func (.func 178) #[] #[.pointer (some ⟨w.heap.size,0,none⟩)],.func (.func 181) #[] #[.pointer (some ⟨w.heap.size,0,none⟩),.pointer (some ⟨w.heap.size+1+1,0,none⟩),.pointer (some ⟨w.heap.size+1,0,none⟩)]] 26)):=⟨_,rfl⟩;rw [<-x] at p q r s d ⊢;clear x
 go_loopg [20] 6 (λgk i wr=>∃k:Nat,k<=6/\gk=6 - k/\i=.int .i64 k/\(∀j,j<k->Sx l t j=true)/\Grew w0 wr)
 case atStart=>exact ⟨0,oo,oo,rfl,λj h=>oo,iW _⟩
 case round=>
  obtain ⟨k,hk,y,rfl,o,hg⟩:=hrel;have f:=zh y;have HA:=zh o;have HG:=zh hg;have u:=zh (HL.hold (d.out.trans hg));have b4:=s.grew hg;have F:=b4.lt;have m:=zh (p.grew hg);have v:=zh (q.grew hg);have C:=zh (r.grew hg)
  have g:=zh (show Sx l t k=true->∀j,j<k+1->Sx l t j=true from λh j hj=>by
   by_cases E:j=k
   . rw [E];exact h
   . exact o j oo)
  clear y o hg;by_cases G:k<6
  . rcases (show k=0\/k=1\/k=2\/k=3\/k=4\/k=5 by omega) with rfl | rfl | rfl | rfl | rfl | rfl
    . have x0:=b4.cell 0;have HC:=zh (Wo (w.heap.size+1) wr t v);clear b4;go_wp2_with fail;refine HC.mono ?_;rintro e w5 ⟨rfl,g5⟩;cases hx:okT t with
      | false=>
        have a:=zh (HF 0 hx);clear hx;go_wp2_with fail;go_ret;exact ⟨AC (by rw [a.out]),(d.out.trans HG).trans g5⟩
      | true=>
        have b:=zh (g hx);clear hx;go_wp2_with fail
        go_roundg (6 - (0+1))
        case measure=>rw [f.out];omega
        case rel=>exact ⟨0+1,oo,oo,by go_num,b,HG.out.trans g5⟩
    . have x0:=b4.cell 1;have HC:=zh (Xw A c l w.heap.size wr m);clear b4;go_wp2_with fail;refine HC.mono ?_;rintro e w5 ⟨rfl,g5⟩;cases hx:idB l with
      | false=>
        have a:=zh (HF 1 hx);clear hx;go_wp2_with fail;go_ret;exact ⟨AC (by rw [a.out]),(d.out.trans HG).trans g5⟩
      | true=>
        have b:=zh (g hx);clear hx;go_wp2_with fail
        go_roundg (6 - (1+1))
        case measure=>rw [f.out];omega
        case rel=>exact ⟨1+1,oo,oo,by go_num,b,HG.out.trans g5⟩
    . have x0:=b4.cell 2;have HC:=zh (Xx A c l w.heap.size wr z B m);clear b4;go_wp2_with fail;refine HC.mono ?_;rintro e w5 ⟨rfl,g5⟩;cases hx:txB l with
      | false=>
        have a:=zh (HF 2 hx);clear hx;go_wp2_with fail;go_ret;exact ⟨AC (by rw [a.out]),(d.out.trans HG).trans g5⟩
      | true=>
        have b:=zh (g hx);clear hx;go_wp2_with fail
        go_roundg (6 - (2+1))
        case measure=>rw [f.out];omega
        case rel=>exact ⟨2+1,oo,oo,by go_num,b,HG.out.trans g5⟩
    . have x0:=b4.cell 3;have HC:=zh (YD A c l w.heap.size wr oo m);clear b4;go_wp2_with fail;refine HC.mono ?_;rintro e w5 ⟨rfl,g5⟩;cases hx:cnB l with
      | false=>
        have a:=zh (HF 3 hx);clear hx;go_wp2_with fail;go_ret;exact ⟨AC (by rw [a.out]),(d.out.trans HG).trans g5⟩
      | true=>
        have b:=zh (g hx);clear hx;go_wp2_with fail
        go_roundg (6 - (3+1))
        case measure=>rw [f.out];omega
        case rel=>exact ⟨3+1,oo,oo,by go_num,b,HG.out.trans g5⟩
    . have x0:=b4.cell 4;have HC:=zh (X8 A c l w.heap.size wr u hs m);clear b4;go_wp2_with fail;refine HC.mono ?_;rintro e w5 ⟨rfl,g5⟩;cases hx:jnB l with
      | false=>
        have a:=zh (HF 4 hx);clear hx;go_wp2_with fail;go_ret;exact ⟨AC (by rw [a.out]),(d.out.trans HG).trans g5⟩
      | true=>
        have b:=zh (g hx);clear hx;go_wp2_with fail
        go_roundg (6 - (4+1))
        case measure=>rw [f.out];omega
        case rel=>exact ⟨4+1,oo,oo,by go_num,b,HG.out.trans g5⟩
    . have x0:=b4.cell 5;have HC:=zh (WR A c l t w.heap.size (w.heap.size+1+1) (w.heap.size+1) wr u hs (HA 4 oo) m C v);clear b4;go_wp2_with fail;refine HC.mono ?_;rintro e w5 ⟨rfl,g5⟩;cases hx:inB l t with
      | false=>
        have a:=zh (HF 5 hx);clear hx;go_wp2_with fail;go_ret;exact ⟨AC (by rw [a.out]),(d.out.trans HG).trans g5⟩
      | true=>
        have b:=zh (g hx);clear hx;go_wp2_with fail
        go_roundg (6 - (5+1))
        case measure=>rw [f.out];omega
        case rel=>exact ⟨5+1,oo,oo,by go_num,b,HG.out.trans g5⟩
  . have D:=zh (HT (λj hj=>HA j oo));clear b4;go_wp2_with fail;go_ret;exact ⟨AC (by rw [D.out]),d.out.trans HG⟩

end
section
attribute [local go_sem ↓] Go.wp_at_zero Go.wp_at_succ
open Go.RowKit
def gm (t:Int) (r:Int × Int):Prop:=ttS t<=r.1/\r.1<t/\1<=r.2/\r.2<=t - r.1
theorem YP (a:List (Nat × Nat)) (r:Nat × Nat) (h:∀x∈a,0<x.2):∀x∈CP a r,0<x.2:=by
 intro x hx;unfold CP at hx;split at hx
 . exact h x hx
 . rename_i hr;split at hx
   . rcases jE hx with hx | rfl
     . exact h x hx
     . show 0<_+r.2;omega
   . rcases ip.1 hx with hx | hx
     . exact h x hx
     . rw [ia.1 hx];omega
theorem Yf (l:List (Int × Int)):∀x∈FK l,0<x.2:=by
 have b:∀(l:List (Int × Int)) (a:List (Nat × Nat)),(∀x∈a,0<x.2)->∀x∈l.foldl (λa x=>CP a (Be x)) a,0<x.2:=by
  intro l
  induction l with
  | nil=>intro a h;exact h
  | cons r l ih=>intro a h;exact ih _ (YP a _ h)
 exact b l [] qs
theorem gE (l:Lab) (t:Int) (hj:jnB l=true) (hi:inB l t=true):∀r∈l.ext,gm t r:=by
 intro r hr
 have h1:GH t r=false:=by
  unfold inB at hi;rw [kM,jT] at hi;simpa using hi r hr
 have h2:¬(r.1<ttS t)/\¬(t<r.1+r.2):=by
  unfold GH at h1;simpa using h1
 unfold jnB at hj;rw [jF,jG] at hj;rw [<-hj.1] at hr;obtain ⟨x,hx,rfl⟩:=ie.1 hr;have:=Yf l.ext x hx;simp only at h2;unfold gm;simp only;omega

end
section
open Go.RowKit
theorem DL {a b:ByteArray} (h:a=b):Ending.returned (.string a)=.returned (.string b):=by rw [h]
def FL (n:Nat):ByteArray:=⟨(List.replicate n (0:UInt8)).toArray⟩
theorem NI (n:Nat):(FL n).size=n:=by simp [FL,ByteArray.size]
def DF (n:Nat) (s:ByteArray):ByteArray:=s++FL (n - s.size)
theorem MR:(Tryz.prog.info? 5).map (λi=>(i.zero,i.size,i.bytes))=some (some (.int .u8 0),1,1):=qk
theorem Yn (w:World) (n:Nat) (hn:n<=1000000):(Instr.makeSlice 74 (.int .i64 (n:Int)) (.int .i64 (n:Int))).run Tryz.prog w=.ok (.slice (some ⟨w.heap.size,0,none⟩) n n) (w.alloc (.cells (Array.replicate n (Value.int .u8 0)) 5)):=by
 obtain ⟨i,hi,a,b,c⟩:=info_parts MR;have h:=run_make (P:=Tryz.prog) w 74 5 i _ Tryz.underlying74 hi a .i64 .i64 (n:Int) (n:Int) oo oo (by rw [c];omega) oo;rw [b] at h;simp only [i9,Nat.mul_one] at h;rw [h];congr 3;unfold madeCells;apply Array.ext
 . simp
 . intro j h1 h2;simp [Value.cells,Nat.mod_one]
theorem WY (w:World) (n:Nat):(convert 74 9 (.slice (some ⟨w.heap.size,0,none⟩) n n)).run Tryz.prog (w.alloc (.cells (Array.replicate n (Value.int .u8 0)) 5))=.ok (.string (FL n)) (w.alloc (.cells (Array.replicate n (Value.int .u8 0)) 5)):=
 Sp _ 74 9 5 _ n n (List.replicate n 0) _ 5 Tryz.underlying74 Tryz.underlying5 Tryz.underlying9 qs (heap_alloc_new w _) (λj hj=>by
  simp only [j0] at hj
  simp [hj,Na])
theorem IR (s:ByteArray) (w:World) (hs:s.size<=1024):
 Calls Tryz.prog 169 #[.string s] w λe w'=>e=.returned (.string (DF 1024 s))/\Grew w w':=by
 obtain ⟨n,hn⟩:∃n,1024 - s.size=n:=⟨_,rfl⟩;have h1:(1024:Int) - (s.size:Int)=(n:Int):=oo;have HE:=zh (show DF 1024 s=s++FL n from by unfold DF;rw [hn]);have a:=Yn w n oo;have b:=WY w n;have c:=NI n;have d:n<=1024:=oo;clear hn;go_enter Tryz.func169,Tryz.ntmps169;go_wp2_with fail;go_ret;exact ⟨DL (by rw [HE.out]),gG⟩
theorem V8 (n:Nat) (s:ByteArray) (h:n<=s.size):DF n s=s:=by
 unfold DF;rw [show n - s.size=0 by omega];show s++⟨#[]⟩=s;exact j3
theorem WU (n:Nat) (s:ByteArray) (h:s.size<n):DF n s=DF n (s++⟨#[0]⟩):=by
 unfold DF;have hs:(s++(⟨#[0]⟩:ByteArray)).size=s.size+1:=by simp [io];rfl
 rw [hs,show n - s.size=(n - (s.size+1))+1 by omega];rw [jq];congr 1
theorem VA (s:ByteArray) (n:Nat) (w:World) (hn:n<=2000) (hs:s.size<=1000000):
 Calls Tryz.prog 39 #[.string s,.int .i64 (n:Int)] w λe w'=>e=.returned (.string (DF n s))/\w=w':=by
 go_enter Tryz.func39,Tryz.ntmps39;go_wp2_with fail
 go_loopg [0] (n+1 - s.size) (λgk v wr=>w=wr/\∃u:ByteArray,v=.string u/\gk=n+1 - u.size/\u.size<=1000000/\DF n u=DF n s)
 case atStart=>exact ⟨rfl,s,rfl,rfl,hs,rfl⟩
 case round=>
  obtain ⟨rfl,u,rfl,c,hu,hp⟩:=hrel;have d:=zh c;have HP:=zh hp;clear c hp;have a:(u++(⟨#[0]⟩:ByteArray)).size=u.size+1:=by simp [io];rfl
  have b:=zh a;clear a;by_cases i:u.size<n
  . have f:(u.size:Int)<(n:Int):=oo;have g:=zh (WU n u i);go_wp2_with fail
    go_roundg (n+1 - (u.size+1))
    case measure=>rw [d.out];omega
    case rel=>exact ⟨rfl,_,rfl,by rw [b.out],by rw [b.out];omega,by rw [<-g.out];exact HP.out⟩
  . have f:¬(u.size:Int)<(n:Int):=oo;have h:=zh (V8 n u oo);go_wp2_with fail;go_ret;exact ⟨DL (by rw [<-HP.out,h.out]),rfl⟩

end
section
attribute [local go_sem ↓] Go.wp_at_zero Go.wp_at_succ
open Go.RowKit
def eB (n:Nat):ByteArray:=⟨(enc n).toArray⟩
theorem BG (n:Nat):(eB n).size<=10:=d8 n
def rB (r:Int × Int):ByteArray:=eB r.1.toNat++eB r.2.toNat
def EH:List (Int × Int)->ByteArray
 | []=>⟨#[]⟩
 | r::l=>rB r++EH l
def IK (l:Lab):ByteArray:=eB l.id.toNat++(eB l.unit.toNat++(eB l.name.size++(l.name++(eB l.note.size++(l.note++eB l.ext.length)))))
def Cz (l:Lab) (t:Int):ByteArray:=if okT t=true/\eqL l CN=true then DF 1024 ⟨#[]⟩ else if BZ l t=true then DF 1024 (IK l++EH l.ext) else ⟨#[]⟩
theorem Ty (l:List (Int × Int)) (r:Int × Int):EH (l++[r])=EH l++rB r:=by
 induction l with
 | nil=>show rB r++ByteArray.empty=ByteArray.empty++rB r;rw [j3];exact (kO).symm
 | cons x l ih=>show rB x++EH (l++[r])=(rB x++EH l)++rB r;rw [ih,jq]
theorem dp (r:Int × Int):(rB r).size<=20:=by
 unfold rB;rw [io];have:=BG r.1.toNat;have:=BG r.2.toNat;omega
theorem Mb (l:List (Int × Int)):(EH l).size<=20*l.length:=by
 induction l with
 | nil=>simp [EH];rfl
 | cons r l ih=>show (rB r++EH l).size<=_;rw [io,jf];have:=dp r;omega
theorem OJ (l:Lab) (h1:l.name.size<=31) (h2:l.note.size<=400):(IK l).size<=481:=by
 unfold IK;simp only [io];have:=BG l.id.toNat;have:=BG l.unit.toNat;have:=BG l.name.size;have:=BG l.note.size;have:=BG l.ext.length;omega
theorem Lj (s:ByteArray):(⟨#[]⟩:ByteArray)++s=s:=kO
theorem EI (l:Lab) (t:Int) (h:BZ l t=true):(1<=l.id/\l.id<=1099511627776/\0<=l.unit/\l.unit<=1099511627776)/\(l.name.size<=31/\l.note.size<=400)/\(1<=l.ext.length/\l.ext.length<=16)/\jnB l=true:=by
 unfold BZ at h;simp only [jF] at h;obtain ⟨_,h1,h2,h3,h4,_⟩:=h;exact ⟨by simpa [idB] using h1,by simpa [txB] using h2,by simpa [cnB] using h3,h4⟩
theorem N4 (A:Option Addr) (c:Nat) (l:Lab) (w:World) (h:LabAt w A c l) (hl:l.ext.length<=100000):
 Calls Tryz.prog 144 #[.agg #[.int .i64 l.id,.int .i64 l.unit,.string l.name,.string l.note,.slice A l.ext.length c],.agg #[.int .i64 0,.int .i64 0,.string ⟨#[]⟩,.string ⟨#[]⟩,.slice none 0 0]] w λe w'=>e=.returned (.bool (eqL l CN))/\Grew w w':=
 US A none c 0 l CN w h (LabAt.zero w) hl (by simp [CN])
theorem Np (A:Option Addr) (c:Nat) (l:Lab) (t:Int) (w:World) (h:LabAt w A c l) (hs:l.ext.length<=100000) (t0:-9223372036854775808<=t) (t1:t<=9223372036854775807):
 Calls Tryz.prog 136 #[.agg #[.int .i64 l.id,.int .i64 l.unit,.string l.name,.string l.note,.slice A l.ext.length c],.int .i64 t] w λe w'=>e=.returned (.string (Cz l t))/\Grew w w':=by
 have g0:=(iW w).alloc (.cells #[.int .i64 l.id,.int .i64 l.unit,.string l.name,.string l.note,.slice A l.ext.length c] 101);have HL:=zh h;have M:=zh (h.hold g0);have a:=zh (ik w 101 #[.int .i64 l.id,.int .i64 l.unit,.string l.name,.string l.note,.slice A l.ext.length c] rfl);have j:=zh g0;have HV:=zh (λ(hv:BZ l t=true)=>EI l t hv);have HZ:=zh (λw' (g:Grew w w')=>N4 A c l w' (HL.hold g) hs);have p:=zh (λw' (g:Grew w w')=>LG A c l t w' (HL.hold g) hs);clear h g0;cases ho:okT t with
 | false=>
   have HO:=zh ho;have q:=Lw l t 0 ho;have r:=zh q;have HE:=zh (show Cz l t=⟨#[]⟩ from by unfold Cz;rw [if_neg (by rw [ho];simp),if_neg (by rw [q];simp)]);clear ho q;go_enter Tryz.func136,Tryz.ntmps136;go_wp2_with fail;refine (BW _ _).mono ?_;rintro e w1 ⟨rfl,rfl⟩;rw [HO.out];go_wp2_with fail;refine (p _ j).mono ?_;rintro e w2 ⟨rfl,g2⟩;rw [r.out];go_wp2_with fail;go_ret;exact ⟨DL (by rw [HE.out]),j.out.trans g2⟩
 | true=>
   have HO:=zh ho;clear ho;cases hz:eqL l CN with
   | true=>
     have o:=zh hz;have HE:=zh (show Cz l t=DF 1024 ⟨#[]⟩ from by unfold Cz;rw [if_pos ⟨HO.out,hz⟩]);clear hz;go_enter Tryz.func136,Tryz.ntmps136;go_wp2_with fail;refine (BW _ _).mono ?_;rintro e w1 ⟨rfl,rfl⟩;rw [HO.out];go_wp2_with fail;refine (HZ _ j).mono ?_;rintro e w2 ⟨rfl,g2⟩;rw [o.out];go_wp2_with fail;refine (IR ⟨#[]⟩ w2 qd).mono ?_;rintro e w3 ⟨rfl,g3⟩;go_wp2_with fail;go_ret;exact ⟨DL (by rw [HE.out]),(j.out.trans g2).trans g3⟩
   | false=>
     have o:=zh hz;clear hz;cases hv:BZ l t with
     | false=>
       have r:=zh hv;have HE:=zh (show Cz l t=⟨#[]⟩ from by unfold Cz;rw [if_neg (by rw [o.out];simp),if_neg (by rw [hv];simp)]);clear hv;go_enter Tryz.func136,Tryz.ntmps136;go_wp2_with fail;refine (BW _ _).mono ?_;rintro e w1 ⟨rfl,rfl⟩;rw [HO.out];go_wp2_with fail;refine (HZ _ j).mono ?_;rintro e w2 ⟨rfl,g2⟩;rw [o.out];have I:=(a.grew g2).lt;have x0:=(a.grew g2).cell 0;have x1:=(a.grew g2).cell 1;have x2:=(a.grew g2).cell 2;have x3:=(a.grew g2).cell 3;have x4:=(a.grew g2).cell 4;go_wp2_with fail;refine (p _ (j.out.trans g2)).mono ?_;rintro e w3 ⟨rfl,g3⟩;rw [r.out];go_wp2_with fail;go_ret;exact ⟨DL (by rw [HE.out]),(j.out.trans g2).trans g3⟩
     | true=>
       have N:=zh hv;have HE:=zh (show Cz l t=DF 1024 (IK l++EH l.ext) from by unfold Cz;rw [if_neg (by rw [o.out];simp),if_pos hv]);obtain ⟨⟨v1,v2,v3,v4⟩,⟨v5,v6⟩,⟨v7,v8⟩,vj⟩:=HV.out hv;have O:=zh (az l vj);clear hv vj;go_enter Tryz.func136,Tryz.ntmps136;go_wp2_with fail;refine (BW _ _).mono ?_;rintro e w1 ⟨rfl,rfl⟩;rw [HO.out];go_wp2_with fail;refine (HZ _ j).mono ?_;rintro e w2 ⟨rfl,g2⟩;rw [o.out];have I:=(a.grew g2).lt;have x0:=(a.grew g2).cell 0;have x1:=(a.grew g2).cell 1;have x2:=(a.grew g2).cell 2;have x3:=(a.grew g2).cell 3;have x4:=(a.grew g2).cell 4;go_wp2_with fail;refine (p _ (j.out.trans g2)).mono ?_;rintro e w3 ⟨rfl,g3⟩;rw [N.out];have hG:=g2.trans g3;clear g2 g3 x0 x1 x2 x3 x4 I HZ p;obtain ⟨id,unit,name,note,ext⟩:=l;simp only at v1 v2 v3 v4 v5 v6 v7 v8;obtain ⟨d,rfl⟩:=Int.eq_ofNat_of_zero_le (show 0<=id by omega);obtain ⟨un,rfl⟩:=Int.eq_ofNat_of_zero_le v3;have HB:=zh (show Blk (w.alloc (.cells #[.int .i64 (d:Int),.int .i64 (un:Int),.string name,.string note,.slice A ext.length c] 101)) w.heap.size 101 #[.int .i64 (d:Int),.int .i64 (un:Int),.string name,.string note,.slice A ext.length c] from a.out);have P:=zh (show LabAt w A c ⟨(d:Int),(un:Int),name,note,ext⟩ from HL.out);have Q:=zh (show IK ⟨(d:Int),(un:Int),name,note,ext⟩=eB d++(eB un++(eB name.size++(name++(eB note.size++(note++eB ext.length))))) from rfl);have an:=zh (OJ ⟨(d:Int),(un:Int),name,note,ext⟩ v5 v6);have R:=zh (λk=>Mb (ext.take k));clear a HL M;have s0:=BG d;have s1:=BG un;have s2:=BG name.size;have s3:=BG note.size;have s4:=BG ext.length;have m:=(HB.grew hG).lt;have x0:=(HB.grew hG).cell 0;go_wp2_with fail;refine (Br ⟨#[]⟩ d _ oo qd).mono ?_;rintro e ws ⟨rfl,gs⟩;replace hG:=hG.trans gs;obtain ⟨S1,D⟩:∃S1:ByteArray,S1=⟨#[]⟩++⟨(enc d).toArray⟩:=⟨_,rfl⟩;rw [<-D];have s:=zh (show S1=eB d from D.trans (by rw [Lj];rfl));have S:S1.size<=10:=by rw [s.out];(try simp only [io]);omega
       clear gs D m x0;have m:=(HB.grew hG).lt;have x1:=(HB.grew hG).cell 1;go_wp2_with fail;refine (Br S1 un _ oo oo).mono ?_;rintro e ws ⟨rfl,gs⟩;replace hG:=hG.trans gs;obtain ⟨S2,E⟩:∃S2:ByteArray,S2=S1++⟨(enc un).toArray⟩:=⟨_,rfl⟩;rw [<-E];have u:=zh (show S2=S1++eB un from E.trans (rfl));have T:S2.size<=20:=by rw [u.out];(try simp only [io]);omega
       clear gs E m x1;have m:=(HB.grew hG).lt;have x2:=(HB.grew hG).cell 2;go_wp2_with fail;refine (Fx S2 name _ oo oo).mono ?_;rintro e ws ⟨rfl,gs⟩;replace hG:=hG.trans gs;obtain ⟨S3,F⟩:∃S3:ByteArray,S3=S2++⟨(enc name.size).toArray⟩++name:=⟨_,rfl⟩;rw [<-F];have x:=zh (show S3=S2++eB name.size++name from F.trans (rfl));have W:S3.size<=61:=by rw [x.out];(try simp only [io]);omega
       clear gs F m x2;have m:=(HB.grew hG).lt;have x3:=(HB.grew hG).cell 3;go_wp2_with fail;refine (Fx S3 note _ oo oo).mono ?_;rintro e ws ⟨rfl,gs⟩;replace hG:=hG.trans gs;obtain ⟨S4,G⟩:∃S4:ByteArray,S4=S3++⟨(enc note.size).toArray⟩++note:=⟨_,rfl⟩;rw [<-G];have y:=zh (show S4=S3++eB note.size++note from G.trans (rfl));have X:S4.size<=471:=by rw [y.out];(try simp only [io]);omega
       clear gs G m x3;have m:=(HB.grew hG).lt;have x4:=(HB.grew hG).cell 4;go_wp2_with fail;refine (Br S4 ext.length _ oo oo).mono ?_;rintro e ws ⟨rfl,gs⟩;replace hG:=hG.trans gs;obtain ⟨S5,H⟩:∃S5:ByteArray,S5=S4++⟨(enc ext.length).toArray⟩:=⟨_,rfl⟩;rw [<-H];have z:=zh (show S5=S4++eB ext.length from H.trans (rfl));have ap:S5.size<=481:=by rw [z.out];(try simp only [io]);omega
       clear gs H m x4
       have HS:=zh (show S5=IK ⟨(d:Int),(un:Int),name,note,ext⟩ from by
        rw [Q.out,z.out,y.out,x.out,u.out,s.out];simp only [jq])
       clear s u x y z s0 s1 s2 s3 s4 S T W X;have m:=(HB.grew hG).lt;have x4:=(HB.grew hG).cell 4;go_wp2_with fail;obtain ⟨wl,K⟩:∃wl,wl=ws:=⟨_,rfl⟩;rw [<-K] at hG ⊢;clear K
       go_loopg [5,46] ext.length (λgk v i wr=>∃k:Nat,k<=ext.length/\gk=ext.length - k/\i=.int .i64 k/\v=.string (S5++EH (ext.take k))/\Grew (w.alloc (.cells #[.int .i64 (d:Int),.int .i64 (un:Int),.string name,.string note,.slice A ext.length c] 101)) wr)
       case atStart=>exact ⟨0,oo,oo,rfl,by rw [take_zero];show _=Value.string (S5++ByteArray.empty);rw [j3],hG⟩
       case round=>
        obtain ⟨k,hk,L,rfl,rfl,hg⟩:=hrel;have Y:=zh L;have J:=R.out k;rw [je] at J;obtain ⟨U,hU⟩:∃U,S5++EH (ext.take k)=U:=⟨_,rfl⟩;have av:U.size<=801:=by rw [<-hU,io];omega
        rw [hU];have HU:=zh hU;clear L J hU;by_cases C:k<ext.length
        . obtain ⟨b,aw,f,n,rfl,hb,hv,ag,c0,c1⟩:=((P.hold j).hold hg).runs.at_ C;have B:=O.out ext[k] (ib C);rw [hv] at B;simp only at B;obtain ⟨q0,q1,q2⟩:=B;obtain ⟨fn,rfl⟩:=Int.eq_ofNat_of_zero_le q0;obtain ⟨nn,rfl⟩:=Int.eq_ofNat_of_zero_le q1
          have Z:=zh (show S5++EH (ext.take (k+1))=U++eB fn++eB nn from by
           rw [ic C,Ty,hv,<-jq,HU.out]
           show U++(eB fn++eB nn)=_
           rw [jq])
          have z0:=BG fn;obtain ⟨wm,al⟩:∃wm,wm=wr:=⟨_,rfl⟩;subst al;have HR:=zh (ik wm 229 #[.int .i64 (fn:Int),.int .i64 (nn:Int)] rfl);clear hv ag;go_wp2_with fail;refine AB [] (λw':World=>w'.cell? ⟨wm.heap.size,0,none⟩=some (.int .i64 (fn:Int))/\w'.cell? ⟨wm.heap.size,1,none⟩=some (.int .i64 (nn:Int))) qk ?_;have hS:=(show (λw':World=>w'.cell? ⟨wm.heap.size,0,none⟩=some (.int .i64 (fn:Int))/\w'.cell? ⟨wm.heap.size,1,none⟩=some (.int .i64 (nn:Int))) _ from ⟨HR.drew.cell 0,HR.drew.cell 1⟩);refine tQ 0 50 ?_;refine tQ 1 51 ?_;refine tT 2 (some 52) hS ?_;refine tT 3 (some 53) hS ?_;refine tQ 5 55 ?_;refine tT 6 (some 56) hS ?_;refine tT 7 (some 57) hS ?_;refine tO 4 λK' hK=>?_;go_wp2_with fail;refine (Br U fn _ oo oo).mono ?_;rintro e w4 ⟨rfl,g4⟩;obtain ⟨V,hV⟩:∃V:ByteArray,V=U++⟨(enc fn).toArray⟩:=⟨_,rfl⟩;rw [<-hV];have HV:=zh (show V=U++eB fn from hV);have zV:V.size<=811:=by rw [HV.out,io];omega
          clear hV;go_wp2_with fail;refine hK.out _ _ (.inr (λ_=>⟨(HR.drew.grew g4).cell 0,(HR.drew.grew g4).cell 1⟩)) ?_;clear hK hS;refine tO 8 λK' hK=>?_;go_wp2_with fail;refine (Br V nn _ oo oo).mono ?_;rintro e w5 ⟨rfl,g5⟩;go_wp2_with fail;refine hK.out _ _ (.inr (λ_=>⟨((HR.drew.grew g4).grew g5).cell 0,((HR.drew.grew g4).grew g5).cell 1⟩)) ?_;clear hK;have ad:=((hg.alloc (.cells #[.int .i64 (fn:Int),.int .i64 (nn:Int)] 229)).drew.trans g4).trans g5;refine tQ 9 5 ?_;refine AA qk ?_ _;go_wp2_with fail
          go_roundg (ext.length - (k+1))
          case measure=>rw [Y.out];omega
          case rel=>exact ⟨k+1,oo,oo,by go_num,by rw [Z.out,<-HV.out];rfl,ad⟩
        . obtain rfl:k=ext.length:=oo
          have af:=zh (show Cz ⟨(d:Int),(un:Int),name,note,ext⟩ t=DF 1024 U from by
           rw [HE.out]
           show DF 1024 (IK _++EH ext)=_
           rw [<-HS.out,<-HU.out,j1])
          go_wp2_with fail;refine (IR U _ oo).mono ?_;rintro e w6 ⟨rfl,g6⟩;go_wp2_with fail;go_ret;exact ⟨DL (by rw [af.out]),(j.out.trans hg).trans g6⟩

end
section
open Go.RowKit
theorem Ia (a b:List UInt8):(⟨(a++b).toArray⟩:ByteArray).extract a.length (⟨(a++b).toArray⟩:ByteArray).size=⟨b.toArray⟩:=by
 rw [Lib.extract_eq];congr 2;simp only [];rw [drop_left];apply i8;show b.length<=(a++b).toArray.size - a.length;simp
theorem SB (a b:List UInt8):(⟨(a++b).toArray⟩:ByteArray).extract 0 a.length=⟨a.toArray⟩:=by
 rw [Lib.extract_eq];congr 2;simp
theorem bS (n:Nat) (a:List UInt8) (h:n<18446744073709551616):Eh ⟨(enc n++a).toArray⟩ 0=(n,⟨a.toArray⟩,0):=by
 have hd:=cZ n a h;have hp:=dI n;have b:dec (⟨(enc n++a).toArray⟩:ByteArray).data.toList=(n,((enc n).length - 1)+1):=by rw [show (enc n).length - 1+1=(enc n).length from oo];exact hd
 rw [Yr _ n _ b,show (enc n).length - 1+1=(enc n).length from oo,Ia]
theorem Eb (n:Nat) (a:List UInt8) (b:Int) (h:n<18446744073709551616) (hm:(n:Int)<=b):BR ⟨(enc n++a).toArray⟩ 0 b=(n,⟨a.toArray⟩,0):=by
 rw [BR,bS n a h,if_neg qs,if_neg (by simp;omega)]
theorem Mm (t a:List UInt8) (b:Int) (h:t.length<18446744073709551616) (hm:(t.length:Int)<=b):IQ ⟨(enc t.length++(t++a)).toArray⟩ 0 b=(⟨t.toArray⟩,⟨a.toArray⟩,0):=by
 rw [IQ,Eb _ _ _ h hm,if_neg qs];have c:(⟨(t++a).toArray⟩:ByteArray).size=t.length+a.length:=by show (t++a).toArray.size=_;simp
 rw [if_neg (by simp only [c];omega)];simp only [];rw [SB,Ia]
theorem MP (s:ByteArray):(⟨s.data.toList.toArray⟩:ByteArray)=s:=Lib.mk_data s
def Whole (s again left:ByteArray) (err:Int):Prop:=(err≠0/\left=⟨#[]⟩)\/(err=0/\again++left=s)
theorem UR (s:ByteArray):Whole s ⟨(enc (Eh s 0).1).toArray⟩ (Eh s 0).2.1 (Eh s 0).2.2:=by
 by_cases h:Ge s.data.toList=0
 . left;rw [Eh,if_neg qs,if_pos h];exact ⟨qd,rfl⟩
 . right;rw [Eh,if_neg qs,if_neg h];obtain ⟨h1,h2⟩:=UH _ h;refine ⟨rfl,?_⟩;simp only [];rw [h1];generalize enc (Hv s.data.toList)=E at h1 h2 ⊢;have hx:=Ia E (s.data.toList.drop E.length);rw [<-h2,MP] at hx;rw [hx];conv=>rhs;rw [<-MP s,h2]
   exact ByteArray.mk_append_mk _ _
def KZ:List (Int × Int)->List UInt8
 | []=>[]
 | r::l=>enc r.1.toNat++(enc r.2.toNat++KZ l)
theorem U8 (l:List (Int × Int)):(EH l).data.toList=KZ l:=by
 induction l with
 | nil=>rfl
 | cons r l ih=>
   show (rB r++EH l).data.toList=_;unfold rB eB;simp only [ByteArray.data_append,Array.toList_append,ih];simp [KZ]
def ey (l:Lab) (z:Nat):List UInt8:=enc l.id.toNat++(enc l.unit.toNat++(enc l.name.size++(l.name.data.toList++(enc l.note.size++(l.note.data.toList++(enc l.ext.length++(KZ l.ext++List.replicate z 0)))))))
theorem aj (l:Lab):(DF 1024 (IK l++EH l.ext)).data.toList=ey l (1024 - (IK l++EH l.ext).size):=by
 unfold DF IK ey FL eB;simp only [ByteArray.data_append,Array.toList_append,U8];simp
theorem GA {a b:ByteArray} (h:a.data.toList=b.data.toList):a=b:=by
 apply ByteArray.ext;exact Array.toList_inj.1 h
theorem My (l:Lab) (t:Int) (h:BZ l t=true):Cz l t=DF 1024 (IK l++EH l.ext):=by
 have hz:eqL l CN=false:=by
  obtain ⟨⟨v1,_⟩,_⟩:=EI l t h;unfold eqL CN;simp only;rw [show (l.id==0)=false from it.2 oo];rfl
 unfold Cz;rw [if_neg (by rw [hz];simp),if_pos h]
theorem J2 (l k:Lab):eqL l k=true↔l=k:=by
 obtain ⟨i1,u1,n1,t1,e1⟩:=l;obtain ⟨i2,u2,n2,t2,e2⟩:=k;unfold eqL;simp only [jF,jy,jG,Lab.mk.injEq];constructor
 . rintro ⟨h1,h2,h3,h4,h5⟩;exact ⟨h1,h2,GA (by simpa [ByteArray.toList_eq] using h3),GA (by simpa [ByteArray.toList_eq] using h4),h5⟩
 . rintro ⟨rfl,rfl,rfl,rfl,rfl⟩;exact ⟨rfl,rfl,rfl,rfl,rfl⟩

end
section
attribute [local go_sem ↓] Go.wp_at_zero Go.wp_at_succ
open Go.RowKit
def M0 (n:Nat):Bool:=decide (65<=n/\n<=90) || decide (48<=n/\n<=57)
def JQ (s:ByteArray):Prop:=1<=s.size/\s.size<=8/\(∀j (hj:j<s.size),M0 s[j].toNat=true)/\∀_h:0<s.size,65<=s[0].toNat
instance (s:ByteArray):Decidable (JQ s):=by unfold JQ;exact inferInstance
def Cn (s:ByteArray):Bool:=decide (JQ s)
theorem I0 {s:ByteArray} (h:¬JQ s):Cn s=false:=ir h
theorem UV {s:ByteArray} (h:JQ s):Cn s=true:=iq h
theorem VI (n:Nat):(M0 n=true/\65<=n/\n<=90)\/(M0 n=true/\48<=n/\n<=57)\/(M0 n=false/\n<48)\/(M0 n=false/\57<n/\n<65)\/(M0 n=false/\90<n):=by
 unfold M0;by_cases h1:65<=n/\n<=90
 . exact .inl ⟨by simp [h1],h1⟩
 . by_cases h2:48<=n/\n<=57
   . exact .inr (.inl ⟨by simp [h2],h2⟩)
   . have e:(decide (65<=n/\n<=90) || decide (48<=n/\n<=57))=false:=by rw [ir h1,ir h2];rfl
     by_cases h3:n<48
     . exact .inr (.inr (.inl ⟨e,h3⟩))
     . by_cases h4:n<65
       . exact .inr (.inr (.inr (.inl ⟨e,oo,h4⟩)))
       . exact .inr (.inr (.inr (.inr ⟨e,oo⟩)))
theorem Cd (s:ByteArray) (w:World) (hs:s.size<=9223372036854775807):
 Calls Tryz.prog 112 #[.string s] w λe w'=>e=.returned (.bool (Cn s))/\w=w':=by
 by_cases h0:s.size<1
 . have HE:=zh (I0 (s:=s) (λh=>by have:=h.1;omega));go_enter Tryz.func112,Tryz.ntmps112;go_wp2_with fail;go_ret;exact ⟨AC (by rw [HE.out]),rfl⟩
 by_cases h8:s.size>8
 . have HE:=zh (I0 (s:=s) (λh=>by have:=h.2.1;omega));go_enter Tryz.func112,Tryz.ntmps112;go_wp2_with fail;go_ret;exact ⟨AC (by rw [HE.out]),rfl⟩
 have d:0<s.size:=oo;by_cases hc:s[0].toNat<65
 . have HE:=zh (I0 (s:=s) (λh=>by have:=h.2.2.2 d;omega));go_enter Tryz.func112,Tryz.ntmps112;go_wp2_with fail;go_ret;exact ⟨AC (by rw [HE.out]),rfl⟩
 go_enter Tryz.func112,Tryz.ntmps112;go_wp2_with fail;have HC:=zh hc;clear hc
 go_loopg [20] s.size (λgk i wr=>w=wr/\∃k:Nat,k<=s.size/\gk=s.size - k/\i=.int .i64 k/\∀j (hj:j<s.size),j<k->M0 s[j].toNat=true)
 case atStart=>exact ⟨rfl,0,oo,oo,rfl,λj hj h=>oo⟩
 case round=>
  obtain ⟨rfl,k,hk,b,rfl,c⟩:=hrel;have a:=zh b;have HA:=zh c;clear b c;by_cases f:k<s.size
  . have HN:=zh (show M0 s[k].toNat=true->∀j (hj:j<s.size),j<k+1->M0 s[j].toNat=true from λhz j hj hjk=>by
     by_cases g:j=k
     . subst g;exact hz
     . exact HA.out j hj oo)
    have HF:=zh (show M0 s[k].toNat=false->Cn s=false from λhz=>I0 (λh=>by have:=h.2.2.1 k f;rw [hz] at this;cases this));rcases VI s[k].toNat with ⟨hz,a1,a2⟩ | ⟨hz,a1,a2⟩ | ⟨hz,a1⟩ | ⟨hz,a1,a2⟩ | ⟨hz,a1⟩
    . replace HN:=zh (HN hz);clear hz HF;go_wp2_with fail
      go_roundg (s.size - (k+1))
      case measure=>rw [a.out];omega
      case rel=>exact ⟨rfl,k+1,oo,oo,by go_num,HN⟩
    . replace HN:=zh (HN hz);clear hz HF;go_wp2_with fail
      go_roundg (s.size - (k+1))
      case measure=>rw [a.out];omega
      case rel=>exact ⟨rfl,k+1,oo,oo,by go_num,HN⟩
    . replace HF:=zh (HF hz);clear hz HN;go_wp2_with fail;go_ret;exact ⟨AC (by rw [HF.out]),rfl⟩
    . replace HF:=zh (HF hz);clear hz HN;go_wp2_with fail;go_ret;exact ⟨AC (by rw [HF.out]),rfl⟩
    . replace HF:=zh (HF hz);clear hz HN;go_wp2_with fail;go_ret;exact ⟨AC (by rw [HF.out]),rfl⟩
  . have HE:=zh (show Cn s=true from UV ⟨oo,oo,λj hj=>HA.out j hj oo,λ_=>by have:=HC.out;omega⟩);go_wp2_with fail;go_ret;exact ⟨AC (by rw [HE.out]),rfl⟩

def CJ (s:ByteArray) (t:Int):ByteArray:=if Cn s=true/\okT t=true then DF 1024 (eB s.size++s++eB t.toNat) else ⟨#[]⟩
theorem Ll (s:ByteArray) (t:Int) (w:World) (hs:s.size<=9223372036854775807):
 Calls Tryz.prog 135 #[.string s,.int .i64 t] w λe w'=>e=.returned (.string (CJ s t))/\Grew w w':=by
 cases hn:Cn s with
 | false=>
   have HE:=zh (show CJ s t=⟨#[]⟩ from by unfold CJ;rw [if_neg (by rw [hn];simp)]);have HN:=zh hn;clear hn;go_enter Tryz.func135,Tryz.ntmps135;go_wp2_with fail;refine (Cd s _ hs).mono ?_;rintro e w1 ⟨rfl,rfl⟩;rw [HN.out];go_wp2_with fail;go_ret;exact ⟨DL (by rw [HE.out]),gG⟩
 | true=>
   have hp:JQ s:=jC hn;have f:s.size<=8:=hp.2.1;clear hp;have HN:=zh hn;cases ho:okT t with
   | false=>
     have HE:=zh (show CJ s t=⟨#[]⟩ from by unfold CJ;rw [if_neg (by rw [ho];simp)]);have HO:=zh ho;clear ho hn;go_enter Tryz.func135,Tryz.ntmps135;go_wp2_with fail;refine (Cd s _ hs).mono ?_;rintro e w1 ⟨rfl,rfl⟩;rw [HN.out];go_wp2_with fail;refine (BW _ _).mono ?_;rintro e w1 ⟨rfl,rfl⟩;rw [HO.out];go_wp2_with fail;go_ret;exact ⟨DL (by rw [HE.out]),gG⟩
   | true=>
     have hb:=Ck ho;obtain ⟨n,rfl⟩:∃n:Nat,t=(n:Int):=⟨t.toNat,oo⟩;have HE:=zh (show CJ s (n:Int)=DF 1024 (eB s.size++s++eB n) from by unfold CJ;rw [if_pos ⟨hn,ho⟩];rfl);have HO:=zh ho;clear ho hn;have g:n<=128:=oo;clear hb;have z1:=BG s.size;have z2:=BG n;go_enter Tryz.func135,Tryz.ntmps135;go_wp2_with fail;refine (Cd s _ hs).mono ?_;rintro e w1 ⟨rfl,rfl⟩;rw [HN.out];go_wp2_with fail;refine (BW _ _).mono ?_;rintro e w1 ⟨rfl,rfl⟩;rw [HO.out];go_wp2_with fail;refine (Fx ⟨#[]⟩ s _ qd oo).mono ?_;rintro e ws ⟨rfl,g1⟩;obtain ⟨S1,a⟩:∃S1:ByteArray,S1=⟨#[]⟩++⟨(enc s.size).toArray⟩++s:=⟨_,rfl⟩;rw [<-a];have c:=zh (show S1=eB s.size++s from a.trans (by rw [Lj];rfl));have h:S1.size<=18:=by rw [c.out];(try simp only [io]);omega
     clear a;go_wp2_with fail;refine (Br S1 n _ oo oo).mono ?_;rintro e j ⟨rfl,g2⟩;obtain ⟨S2,b⟩:∃S2:ByteArray,S2=S1++⟨(enc n).toArray⟩:=⟨_,rfl⟩;rw [<-b];have d:=zh (show S2=S1++eB n from b.trans rfl);have i:S2.size<=28:=by rw [d.out];(try simp only [io]);omega
     clear b;go_wp2_with fail;refine (IR S2 _ oo).mono ?_;rintro e k ⟨rfl,g3⟩;go_wp2_with fail;go_ret;exact ⟨DL (by rw [HE.out,d.out,c.out]),(g1.trans g2).trans g3⟩

end
section
open Go.RowKit
theorem Fq (n:Nat) (s:ByteArray) (h:s.size<=n):(DF n s).size=n:=by
 unfold DF;rw [io,NI];omega

end
section
attribute [local go_sem ↓] Go.wp_at_zero Go.wp_at_succ
open Go.RowKit
def rdK (m:Int) (s:ByteArray) (e:Int):Nat->List (Int × Int) × ByteArray × Int
 | 0=>([],s,e)
 | k+1=>((rdK m s e k).1++[(((BR (rdK m s e k).2.1 (rdK m s e k).2.2 m).1:Int),((BR (BR (rdK m s e k).2.1 (rdK m s e k).2.2 m).2.1 (BR (rdK m s e k).2.1 (rdK m s e k).2.2 m).2.2 128).1:Int))],
    (BR (BR (rdK m s e k).2.1 (rdK m s e k).2.2 m).2.1 (BR (rdK m s e k).2.1 (rdK m s e k).2.2 m).2.2 128).2.1,(BR (BR (rdK m s e k).2.1 (rdK m s e k).2.2 m).2.1 (BR (rdK m s e k).2.1 (rdK m s e k).2.2 m).2.2 128).2.2)
theorem el (m:Int) (s:ByteArray) (e:Int) (k:Nat):(rdK m s e k).1.length=k:=by
 induction k with
 | zero=>rfl
 | succ k ih=>show ((rdK m s e k).1++[_]).length=_;rw [iy,ih];rfl
theorem bT (m:Int) (s:ByteArray) (e:Int) (k:Nat):(rdK m s e k).2.1.size<=s.size:=by
 induction k with
 | zero=>exact iX _
 | succ k ih=>exact ij (Bz _ _ _) (ij (Bz _ _ _) ih)
def rI (s:ByteArray):=BR s 0 1099511627776
def rU (s:ByteArray):=BR (rI s).2.1 (rI s).2.2 1099511627776
def rN (s:ByteArray):=IQ (rU s).2.1 (rU s).2.2 31
def rT (s:ByteArray):=IQ (rN s).2.1 (rN s).2.2 400
def rC (s:ByteArray):=BR (rT s).2.1 (rT s).2.2 16
def rL (m:Int) (s:ByteArray):Lab:=⟨((rI s).1:Int),((rU s).1:Int),(rN s).1,(rT s).1,(rdK m (rC s).2.1 (rC s).2.2 (rC s).1).1⟩
def rE (m:Int) (s:ByteArray):Int:=(rdK m (rC s).2.1 (rC s).2.2 (rC s).1).2.2
theorem Fa (s:ByteArray) (e a:Int) (h0:0<=a):((BR s e a).1:Int)<=a:=by
 unfold BR;split
 . exact h0
 . split
   . exact h0
   . rename_i h;show ((Eh s e).1:Int)<=a;omega
theorem RI {m:Int} {s s1 s2 s3:ByteArray} {e e1 e2 e3:Int} {k a b:Nat} {L:List (Int × Int)} (h:rdK m s e k=(L,s1,e1)) (h1:BR s1 e1 m=(a,s2,e2)) (h2:BR s2 e2 128=(b,s3,e3)):
 rdK m s e (k+1)=(L++[((a:Int),(b:Int))],s3,e3):=by simp only [rdK,h,h1,h2]
theorem fo (s:ByteArray) (e:Int) (k:Nat):∀r∈(rdK 128 s e k).1,GR r:=by
 induction k with
 | zero=>intro r hr;cases hr
 | succ k ih=>
   intro r hr;rcases ip.1 hr with hr | hr
   . exact ih r hr
   . rw [ia.1 hr];have h1:=Fa (rdK 128 s e k).2.1 (rdK 128 s e k).2.2 128 oo;have h2:=Fa (BR (rdK 128 s e k).2.1 (rdK 128 s e k).2.2 128).2.1 (BR (rdK 128 s e k).2.1 (rdK 128 s e k).2.2 128).2.2 128 oo;exact ⟨by show -9223372036854775808<=((_:Nat):Int);omega,by show ((_:Nat):Int)<=9223372036854775807;omega,by show -9223372036854775808<=((_:Nat):Int);omega,by show ((_:Nat):Int)<=9223372036854775807;omega⟩
def Dq (s:ByteArray) (t:Int):Lab × Int:=
 if okT t=false\/s.size≠1024 then (CN,11) else if s=DF 1024 ⟨#[]⟩ then (CN,0)
 else if BZ (rL 128 s) t=true/\Cz (rL 128 s) t=s then (rL 128 s,0) else (CN,11)
def iA (w:World) (d:Lab × Int) (e:Ending) (w':World):Prop:=∃A c,e=.returned (.tuple #[.agg #[.int .i64 d.1.id,.int .i64 d.1.unit,.string d.1.name,.string d.1.note,.slice A d.1.ext.length c],.int .i64 d.2])/\LabAt w' A c d.1/\Grew w w'/\∀b off,A=some ⟨b,off,none⟩->w.heap.size<=b
theorem bR (w w':World) (n:Int) (h:Grew w w'):iA w (CN,n) (.returned (.tuple #[.agg #[.int .i64 0,.int .i64 0,.string ⟨#[]⟩,.string ⟨#[]⟩,.slice none 0 0],.int .i64 n])) w':=⟨none,0,rfl,LabAt.zero _,h,λb off e=>by cases e⟩
theorem Q0 {a b:ByteArray} (h:¬a=b):(a.toList==b.toList)=false:=it.2 (λe=>h (GA (by simpa [ByteArray.toList_eq] using e)))
theorem Qf (s:ByteArray) (e a:Int):(IQ s e a).1.size<=s.size:=by
 unfold IQ;split
 . exact jL _
 . split
   . exact jL _
   . simp only [i0];have:=Bz s e a;omega
theorem Tu (s:ByteArray) (t:Int) (w:World) (hs:s.size<=9223372036854775807) (t0:-9223372036854775808<=t) (t1:t<=9223372036854775807):
 Calls Tryz.prog 172 #[.string s,.int .i64 t] w (iA w (Dq s t)):=by
 have g0:=(iW w).alloc (.cells #[.int .i64 0,.int .i64 0,.string ⟨#[]⟩,.string ⟨#[]⟩,.slice none 0 0] 101);have a7:=zh g0;have R:=zh (ik w 101 #[.int .i64 0,.int .i64 0,.string ⟨#[]⟩,.string ⟨#[]⟩,.slice none 0 0] rfl);clear g0;cases ho:okT t with
 | false=>
   have HO:=zh ho;have HE:=zh (show Dq s t=(CN,11) from by unfold Dq;rw [if_pos (.inl ho)]);clear ho;go_enter Tryz.func172,Tryz.ntmps172;go_wp2_with fail;refine (BW _ _).mono ?_;rintro e w1 ⟨rfl,rfl⟩;rw [HO.out];go_wp2_with fail;refine im (by first | (simp [*,results,Tryz.results172,go_sem];rfl) | simp [*,results,Tryz.results172,go_sem]) rfl ?_;rw [HE.out];exact bR _ _ _ (gG)
 | true=>
   have HO:=zh ho;by_cases hz:s.size=1024;rotate_left
   . have ci:((s.size:Int) != 1024)=true:=by rw [jH];omega
     have HE:=zh (show Dq s t=(CN,11) from by unfold Dq;rw [if_pos (.inr hz)]);clear ho hz;go_enter Tryz.func172,Tryz.ntmps172;go_wp2_with fail;refine (BW _ _).mono ?_;rintro e w1 ⟨rfl,rfl⟩;rw [HO.out];go_wp2_with fail;refine im (by first | (simp [*,results,Tryz.results172,go_sem];rfl) | simp [*,results,Tryz.results172,go_sem]) rfl ?_;rw [HE.out];exact bR _ _ _ (gG)
   have ci:((s.size:Int) != 1024)=false:=by rw [kS];omega
   have ds:=zh hz;have d0:s.size<=1024:=oo;obtain ⟨ZZ,l⟩:∃ZZ,DF 1024 ⟨#[]⟩=ZZ:=⟨_,rfl⟩;have d1:=zh l;by_cases u:s=ZZ
   . have HE:=zh (show Dq s t=(CN,0) from by unfold Dq;rw [if_neg (by rw [ho];simp [hz]),if_pos (by rw [l];exact u)]);have y:=λw=>zh (IR ⟨#[]⟩ w qd);rw [l,<-u] at y;clear ho hz l u;go_enter Tryz.func172,Tryz.ntmps172;go_wp2_with fail;refine (BW _ _).mono ?_;rintro e w1 ⟨rfl,rfl⟩;rw [HO.out];go_wp2_with fail;refine (y _).out.mono ?_;rintro e w2 ⟨rfl,g2⟩;have a:=R.grew g2;have z0:=a.cell 0;have f0:=a.frozen 0;have z1:=a.cell 1;have f1:=a.frozen 1;have z2:=a.cell 2;have f2:=a.frozen 2;have z3:=a.cell 3;have f3:=a.frozen 3;have z4:=a.cell 4;have f4:=a.frozen 4;have m:=a.lt;go_wp2_with fail;refine im (by first | (simp [*,results,Tryz.results172,go_sem];rfl) | simp [*,results,Tryz.results172,go_sem]) rfl ?_;rw [HE.out];exact bR _ _ _ (gG)
   have d2:=Q0 u;have y:=λw=>zh (IR ⟨#[]⟩ w qd);rw [l] at y
   have S:=zh (show Dq s t=if BZ (rL 128 s) t=true/\Cz (rL 128 s) t=s then (rL 128 s,0) else (CN,11) from by
    unfold Dq;rw [if_neg (by rw [ho];simp [hz]),if_neg (by rw [l];exact u)])
   clear ho hz l u;go_enter Tryz.func172,Tryz.ntmps172;go_wp2_with fail;refine (BW _ _).mono ?_;rintro e w1 ⟨rfl,rfl⟩;rw [HO.out];go_wp2_with fail;refine (y _).out.mono ?_;rintro e w2 ⟨rfl,g2⟩;go_wp2_with fail;refine (GZ s _).mono ?_;rintro e w3 ⟨g,rfl,c8,g3,z⟩;have hG:=g2.trans g3;have d3:w.heap.size+1<=g:=by have:=g2.size;simp at this;omega
   have hI:=Fa s 0 1099511627776 oo;have cl:=Bz s 0 1099511627776;clear g2 g3 c8 hI cl;obtain ⟨w0,a4⟩:∃w0,w0=(w.alloc (.cells #[.int .i64 0,.int .i64 0,.string ⟨#[]⟩,.string ⟨#[]⟩,.slice none 0 0] 101)):=⟨_,rfl⟩;have d4:w0.heap.size=w.heap.size+1:=by rw [a4];simp
   rw [<-a4] at hG a7 R;clear a4;obtain ⟨⟨i1,s1,e1⟩,B⟩:∃X,BR s 0 1099511627776=X:=⟨_,rfl⟩;have a8:=zh B;have zz:=Bz s 0 1099511627776;rw [B] at zz;have d5:s1.size<=1024:=ij zz oo;have C:=CU g s 0 1099511627776 w3 z oo oo oo;rw [B] at C;have T:=Fa s 0 1099511627776 oo;rw [B] at T;have T:(i1:Int)<=1099511627776:=T;clear B zz;go_wp2_with fail;refine C.mono ?_;rintro e w4 ⟨rfl,t1,b5⟩;replace hG:=hG.turn t1 (λ_ hk=>oo);have cn:=t1.size;clear C t1 z;obtain ⟨⟨u1,s2,e2⟩,D⟩:∃X,BR s1 e1 1099511627776=X:=⟨_,rfl⟩;have a9:=zh D;have zz:=Bz s1 e1 1099511627776;rw [D] at zz;have d6:s2.size<=1024:=ij zz oo;have C:=CU g s1 e1 1099511627776 w4 b5 oo oo oo;rw [D] at C;have U:=Fa s1 e1 1099511627776 oo;rw [D] at U;have U:(u1:Int)<=1099511627776:=U;clear D zz;go_wp2_with fail;refine C.mono ?_;rintro e w5 ⟨rfl,t2,b9⟩;replace hG:=hG.turn t2 (λ_ hk=>oo);have co:=t2.size;clear C t2 b5;obtain ⟨⟨n1,s3,e3⟩,E⟩:∃X,IQ s2 e2 31=X:=⟨_,rfl⟩;have bb:=zh E;have zz:=Ks s2 e2 31;rw [E] at zz;have d7:s3.size<=1024:=ij zz oo;have C:=LV g s2 e2 31 w5 b9 oo oo oo;rw [E] at C;have V:=Qf s2 e2 31;rw [E] at V;have V:n1.size<=1024:=ij V oo;clear E zz;go_wp2_with fail;refine C.mono ?_;rintro e w6 ⟨rfl,t3,z⟩;replace hG:=hG.turn t3 (λ_ hk=>oo);have cp:=t3.size;clear C t3 b9;obtain ⟨⟨o1,s4,e4⟩,F⟩:∃X,IQ s3 e3 400=X:=⟨_,rfl⟩;have bc:=zh F;have zz:=Ks s3 e3 400;rw [F] at zz;have ee:s4.size<=1024:=ij zz oo;have C:=LV g s3 e3 400 w6 z oo oo oo;rw [F] at C;have W:=Qf s3 e3 400;rw [F] at W;have W:o1.size<=1024:=ij W oo;clear F zz;go_wp2_with fail;refine C.mono ?_;rintro e w7 ⟨rfl,t4,a3⟩;replace hG:=hG.turn t4 (λ_ hk=>oo);have cq:=t4.size;clear C t4 z;have eg:=a3.lt;have n:=zh (ik w7 101 #[.int .i64 (i1:Int),.int .i64 (u1:Int),.string n1,.string o1,.slice none 0 0] rfl);have Y:=a3.alloc (.cells #[.int .i64 (i1:Int),.int .i64 (u1:Int),.string n1,.string o1,.slice none 0 0] 101);have Z:=hG.alloc (.cells #[.int .i64 (i1:Int),.int .i64 (u1:Int),.string n1,.string o1,.slice none 0 0] 101);obtain ⟨w8,O⟩:∃w8,w8=w7.alloc (.cells #[.int .i64 (i1:Int),.int .i64 (u1:Int),.string n1,.string o1,.slice none 0 0] 101):=⟨_,rfl⟩;have eh:w8.heap.size=w7.heap.size+1:=by rw [O];simp
   rw [<-O] at Y Z n;clear a3 hG;go_wp2_with fail;rw [<-O];clear O;obtain ⟨⟨c5,s5,e5⟩,G⟩:∃X,BR s4 e4 16=X:=⟨_,rfl⟩;have bf:=zh G;have zz:=Bz s4 e4 16;rw [G] at zz;have cr:s5.size<=1024:=ij zz oo;have C:=CU g s4 e4 16 w8 Y oo oo oo;rw [G] at C;have ad:=Fa s4 e4 16 oo;rw [G] at ad;have ad:(c5:Int)<=16:=ad;clear G zz;refine C.mono ?_;rintro e w9 ⟨rfl,t5,ca⟩;have bk:=Z.turn t5 (λ_ hk=>oo);have cs:=t5.size;have bl:=n.turned t5 oo
   have ct:=zh (show ∀L s6 e6,rdK 128 s5 e5 c5=(L,s6,e6)->rL 128 s=⟨(i1:Int),(u1:Int),n1,o1,L⟩ from by
    intro L s6 e6 h6
    have q1:rI s=(i1,s1,e1):=a8.out
    have q2:rU s=(u1,s2,e2):=by unfold rU;rw [q1];exact a9.out
    have q3:rN s=(n1,s3,e3):=by unfold rN;rw [q2];exact bb.out
    have q4:rT s=(o1,s4,e4):=by unfold rT;rw [q3];exact bc.out
    have q5:rC s=(c5,s5,e5):=by unfold rC;rw [q4];exact bf.out
    unfold rL
    rw [q1,q2,q3,q4,q5]
    simp only [h6])
   clear Y Z C t5 a8 a9 bb bc bf n cn co cp cq;go_wp2_with fail
   go_loopg [34] c5 (λgk i wr=>∃(k:Nat) (v:Value) (L:List (Int × Int)) (sk:ByteArray) (ek:Int),k<=c5/\gk=c5 - k/\i=.int .i64 k/\rdK 128 s5 e5 k=(L,sk,ek)/\OwnL wr (w7.heap.size+1) 229 2 v (L.map G1)/\Blk wr w7.heap.size 101 #[.int .i64 (i1:Int),.int .i64 (u1:Int),.string n1,.string o1,v]/\Rd wr g sk ek/\Grew w0 wr)
   case atStart=>exact ⟨0,.slice none 0 0,[],s5,e5,oo,oo,rfl,rfl,OwnL.nil _ _ _ _,bl,ca,bk⟩
   clear bl ca bk cs
   case round=>
    obtain ⟨k,v,L,sk,ek,hk,cc,rfl,H,I,f,ce,a5⟩:=hrel;have cu:=zh cc;have bs:=zh H;have af:L.length=k:=by have:=el 128 s5 e5 k;rw [H] at this;exact this
    have ej:sk.size<=1024:=by have:=bT 128 s5 e5 k;rw [H] at this;exact ij this cr
    have bt:=zh (show ∀r∈L,GR r from by have:=fo s5 e5 k;rw [H] at this;exact this);obtain ⟨A,cv,hv,cf,dk,ch⟩:=I.listAt;have cw:=zh ch;clear ch;rw [iY,af] at hv cf;subst hv;clear cc H;by_cases et:k<c5
    . obtain ⟨⟨a1,sa,ea⟩,J⟩:∃X,BR sk ek 128=X:=⟨_,rfl⟩;obtain ⟨⟨b1,sb,eb⟩,P⟩:∃X,BR sa ea 128=X:=⟨_,rfl⟩;have cx:=zh (RI bs J P);have zz:=Bz sk ek 128;rw [J] at zz;have em:sa.size<=1024:=ij zz oo;have CA:=λw h=>CU g sk ek 128 w h oo oo oo;rw [J] at CA;have CB:=λw h=>CU g sa ea 128 w h oo oo oo;rw [P] at CB;have ag:=Fa sk ek 128 oo;rw [J] at ag;have ag:(a1:Int)<=128:=ag;have al:=Fa sa ea 128 oo;rw [P] at al;have al:(b1:Int)<=128:=al;clear J P zz;have HO:=zh I;have HL:=zh f;have an:=f.lt;clear I f;go_wp2_with fail;refine AB [10] (λw':World=>w'.cell? ⟨w7.heap.size,4,none⟩=some (.slice A k cv)) qk ?_;have hS:=(show (λw':World=>w'.cell? ⟨w7.heap.size,4,none⟩=some (.slice A k cv)) _ from HL.drew.cell 4);refine tQ 0 36 ?_;refine tT 1 (some 37) hS ?_;refine tQ 2 38 ?_;refine tQ 4 40 ?_;refine tO 3 λK' hK=>?_;go_wp2_with fail;refine (CA _ ce.drew).mono ?_;rintro e wa ⟨rfl,ta,c9⟩;have ga:=(a5.drew).turn ta (λ_ hk=>oo);have bv:=(HL.drew).turned ta oo;have bx:=(HO.drew).kept ta (λq hq hqg=>by have:=(HO.own_ge hq).1;omega);have ep:wr.heap.size<=wa.heap.size:=ta.size;go_wp2_with fail;refine hK.out _ _ (.inr (λ_=>bv.cell 4)) ?_;clear hK hS ta;refine tO 5 λK' hK=>?_;go_wp2_with fail;refine (CB _ c9).mono ?_;rintro e wb ⟨rfl,tb,da⟩;have gb:=ga.turn tb (λ_ hk=>oo);have m:=bv.turned tb oo;have cy:=bx.kept tb (λq hq hqg=>by have:=(bx.own_ge hq).1;omega);have eq:wa.heap.size<=wb.heap.size:=tb.size;go_wp2_with fail;refine hK.out _ _ (.inr (λ_=>m.cell 4)) ?_;clear hK tb;refine tQ 6 42 ?_;refine tO 7 λK' hK=>?_;go_wp2_with fail;have gc:=gb.alloc (.cells #[.int .i64 (a1:Int),.int .i64 (b1:Int)] 229);have cz:=ik wb 229 #[.int .i64 (a1:Int),.int .i64 (b1:Int)] rfl;have b0:=m.alloc (.cells #[.int .i64 (a1:Int),.int .i64 (b1:Int)] 229);have K:=cy.alloc (.cells #[.int .i64 (a1:Int),.int .i64 (b1:Int)] 229);have c0:=da.alloc (.cells #[.int .i64 (a1:Int),.int .i64 (b1:Int)] 229);refine hK.out _ _ (.inr (λ_=>b0.cell 4)) ?_;clear hK;refine tO 8 λK' hK=>?_;refine JD (.tmp 37) (.tmp 43) 99 rfl (w7.heap.size+1) 229 2 16 _ Tryz.underlying99 Ec rfl qd _ _ (L.map G1) (G1 ((a1:Int),(b1:Int))) rfl rfl K _ rfl cz rfl (by rw [iY];omega) (by rw [iY];omega) (by simp;omega) k (by rw [iY,af]) ?_;intro g6 c6 dd cb N df eu;have c1:Grew w0 dd:=Grew.own gc N (λq hq=>by have:=(K.own_ge hq).1;omega) (iX _);have M:=b0.own N (λhq=>by have:=(K.own_ge hq).1;omega);have c2:=c0.own N (λhq=>by have:=(K.own_ge hq).1;omega);refine hK.out _ _ (.inr (λ_=>M.cell 4)) ?_;have z4:=M.cell 4;have f4:=M.frozen 4;have b2:=zh cb;clear hK N df cb;refine tQ 9 45 ?_;refine tO 10 λK' hK=>?_;go_wp2_with fail;refine hK.out _ _ (.inl rfl) ?_;refine AA qk ?_ _;have c3:=M.set_ 4 (.slice (some ⟨g6,0,none⟩) (k+1) c6);have c4:Rd _ g sb eb:=c2.far (p:=⟨w7.heap.size,4,none⟩) (by show g≠w7.heap.size;omega) (.slice (some ⟨g6,0,none⟩) (k+1) c6);have c7:=b2.far (p:=⟨w7.heap.size,4,none⟩) (λhq=>by have:w7.heap.size+1<=w7.heap.size:=(b2.own_ge hq).1;omega) (.slice (some ⟨g6,0,none⟩) (k+1) c6);have g7:=c1.setCell (p:=⟨w7.heap.size,4,none⟩) (by show w0.heap.size<=w7.heap.size;omega) (.slice (some ⟨g6,0,none⟩) (k+1) c6);clear z4 f4 hK;go_wp2_with fail
      go_roundg (c5 - (k+1))
      case measure=>rw [cu.out];omega
      case rel=>exact ⟨k+1,_,_,sb,eb,oo,oo,by go_num,cx,by rw [il];exact c7,c3,c4,g7⟩
    . obtain rfl:k=c5:=oo;have ap:=zh (ct _ _ _ bs);subst af;have d:=zh (show LabAt wr A cv ⟨(i1:Int),(u1:Int),n1,o1,L⟩ from ⟨by show -9223372036854775808<=((_:Nat):Int);omega,by show ((_:Nat):Int)<=9223372036854775807;omega,by show -9223372036854775808<=((_:Nat):Int);omega,by show ((_:Nat):Int)<=9223372036854775807;omega,by show n1.size<=_;omega,by show o1.size<=_;omega,⟨bt,cw⟩,cf,dk⟩);have an:=f.lt;have x0:=f.cell 0;have x1:=f.cell 1;have x2:=f.cell 2;have x3:=f.cell 3;have x4:=f.cell 4;have n:=zh f;have av:=zh (R.grew a5);have aw:=zh (a7.out.trans a5);have a0:=zh I;clear f I ce;have CV:=λw h=>LG A cv ⟨(i1:Int),(u1:Int),n1,o1,L⟩ t w h (by show L.length<=100000;omega);cases j:BZ ⟨(i1:Int),(u1:Int),n1,o1,L⟩ t with
      | false=>
        have HE:=zh (show Dq s t=(CN,11) from by rw [S.out,ap.out,j];simp);rw [j] at CV;clear j;go_wp2_with fail;refine (CV _ d).mono ?_;rintro e wv ⟨rfl,gv⟩;have a:=av.grew gv;have z0:=a.cell 0;have f0:=a.frozen 0;have z1:=a.cell 1;have f1:=a.frozen 1;have z2:=a.cell 2;have f2:=a.frozen 2;have z3:=a.cell 3;have f3:=a.frozen 3;have z4:=a.cell 4;have f4:=a.frozen 4;have m:=a.lt;clear x0 x1 x2 x3 x4;go_wp2_with fail;refine im (by first | (simp [*,results,Tryz.results172,go_sem];rfl) | simp [*,results,Tryz.results172,go_sem]) rfl ?_;rw [HE.out];have b3:=aw.out.trans gv;exact bR _ _ _ (gG)
      | true=>
        have CE:=λw h=>Np A cv ⟨(i1:Int),(u1:Int),n1,o1,L⟩ t w h (by show L.length<=100000;omega) t0 t1;rw [j] at CV;obtain ⟨EE,Q⟩:∃EE,Cz ⟨(i1:Int),(u1:Int),n1,o1,L⟩ t=EE:=⟨_,rfl⟩;rw [Q] at CE;have b4:=zh Q;by_cases x:EE=s
        . have HE:=zh (show Dq s t=(⟨(i1:Int),(u1:Int),n1,o1,L⟩,0) from by rw [S.out,ap.out,j,b4.out,x];simp);rw [x] at CE;clear j Q x;go_wp2_with fail;refine (CV _ d).mono ?_;rintro e wv ⟨rfl,gv⟩;have c:=zh (n.grew gv);have a2:=c.out.lt;have y0:=c.cell 0;have y1:=c.cell 1;have y2:=c.cell 2;have y3:=c.cell 3;have y4:=c.cell 4;clear x0 x1 x2 x3 x4 an;go_wp2_with fail;refine (CE _ (d.hold gv)).mono ?_;rintro e we ⟨rfl,ge⟩;have o:=zh (c.grew ge);have er:=o.out.lt;have x0:=o.cell 0;have x1:=o.cell 1;have x2:=o.cell 2;have x3:=o.cell 3;have x4:=o.cell 4;have a:=(av.grew gv).grew ge;have z0:=a.cell 0;have f0:=a.frozen 0;have z1:=a.cell 1;have f1:=a.frozen 1;have z2:=a.cell 2;have f2:=a.frozen 2;have z3:=a.cell 3;have f3:=a.frozen 3;have z4:=a.cell 4;have f4:=a.frozen 4;have m:=a.lt;clear y0 y1 y2 y3 y4 a2;go_wp2_with fail;refine im (by first | (simp [*,results,Tryz.results172,go_sem];rfl) | simp [*,results,Tryz.results172,go_sem]) rfl ?_;rw [HE.out];have b3:=(aw.out.trans gv).trans ge;have hT:=(((((((gv.trans ge).turned (λq=>q=w.heap.size)).setCell (p:=⟨w.heap.size,0,none⟩) (λ_=>rfl) (.int .i64 (i1:Int))).setCell (p:=⟨w.heap.size,1,none⟩) (λ_=>rfl) (.int .i64 (u1:Int))).setCell (p:=⟨w.heap.size,2,none⟩) (λ_=>rfl) (.string n1)).setCell (p:=⟨w.heap.size,3,none⟩) (λ_=>rfl) (.string o1)).setCell (p:=⟨w.heap.size,4,none⟩) (λ_=>rfl) (.slice A L.length cv));have hk:=a0.kept hT (λq hq hqg=>by have:w7.heap.size+1<=q:=(a0.own_ge hq).1;omega);obtain ⟨A',c',a6,-,-,dn⟩:=hk.listAt;rw [iY] at a6;simp only [Value.slice.injEq] at a6;obtain ⟨rfl,-,rfl⟩:=a6;exact ⟨A,cv,rfl,⟨d.id0,d.id1,d.unit0,d.unit1,d.name,d.note,⟨bt,dn⟩,d.len,d.cap⟩,gG,λb off e=>by have:w7.heap.size+1<=b:=(a0.own_ge (g:=b) (by rw [e];rfl)).1;omega⟩
        . have HE:=zh (show Dq s t=(CN,11) from by rw [S.out,ap.out,j,b4.out];simp [x]);have es:=Q0 x;clear j Q x;go_wp2_with fail;refine (CV _ d).mono ?_;rintro e wv ⟨rfl,gv⟩;have c:=zh (n.grew gv);have a2:=c.out.lt;have y0:=c.cell 0;have y1:=c.cell 1;have y2:=c.cell 2;have y3:=c.cell 3;have y4:=c.cell 4;clear x0 x1 x2 x3 x4 an;go_wp2_with fail;refine (CE _ (d.hold gv)).mono ?_;rintro e we ⟨rfl,ge⟩;have a:=(av.grew gv).grew ge;have z0:=a.cell 0;have f0:=a.frozen 0;have z1:=a.cell 1;have f1:=a.frozen 1;have z2:=a.cell 2;have f2:=a.frozen 2;have z3:=a.cell 3;have f3:=a.frozen 3;have z4:=a.cell 4;have f4:=a.frozen 4;have m:=a.lt;clear y0 y1 y2 y3 y4 a2;go_wp2_with fail;refine im (by first | (simp [*,results,Tryz.results172,go_sem];rfl) | simp [*,results,Tryz.results172,go_sem]) rfl ?_;rw [HE.out];have b3:=(aw.out.trans gv).trans ge;exact bR _ _ _ (gG)

end
section
open Go.RowKit
theorem br (m:Int) (l:List (Int × Int)) (a:List UInt8) (hm:m<=1000000) (h:∀x∈l,0<=x.1/\x.1<=m/\0<=x.2/\x.2<=128):
 ∀k,k<=l.length->rdK m ⟨(KZ l++a).toArray⟩ 0 k=(l.take k,⟨(KZ (l.drop k)++a).toArray⟩,0):=by
 intro k
 induction k with
 | zero=>intro _;rfl
 | succ k ih=>
   intro hk;have h0:=ih oo;obtain ⟨x0,x1,x2,x3⟩:=h l[k] (ib oo);rw [jz oo] at h0
   have e1:KZ (l[k]::l.drop (k+1))++a=enc (l[k].1).toNat++(enc (l[k].2).toNat++(KZ (l.drop (k+1))++a)):=by
    show (enc _++(enc _++KZ _))++a=_;simp only [jK]
   rw [e1] at h0;have h3:=RI h0 (Eb (l[k].1).toNat _ m oo oo) (Eb (l[k].2).toNat _ 128 oo oo);rw [h3,ic oo];congr 3;rw [kC x0,kC x2]
theorem ft (m:Int) (l:Lab) (z:Nat) (hm:m<=1000000) (hl:(1<=l.id/\l.id<=1099511627776/\0<=l.unit/\l.unit<=1099511627776)/\(l.name.size<=31/\l.note.size<=400)/\(1<=l.ext.length/\l.ext.length<=16)/\jnB l=true)
 (h:∀x∈l.ext,0<=x.1/\x.1<=m/\0<=x.2/\x.2<=128) (s:ByteArray) (hs:s=⟨(ey l z).toArray⟩):rL m s=l/\rE m s=0:=by
 obtain ⟨⟨a1,a2,a3,a4⟩,⟨a5,a6⟩,⟨a7,a8⟩,_⟩:=hl;obtain ⟨id,unit,name,note,ext⟩:=l;simp only at*
 have n1:name.data.toList.length=name.size:=jP;have n2:note.data.toList.length=note.size:=jP;unfold ey at hs;simp only at hs;have q1:=(ix rI hs).trans (Eb id.toNat _ 1099511627776 oo oo);have q2:rU s=BR (rI s).2.1 (rI s).2.2 1099511627776:=rfl;rw [q1] at q2;have q2:=q2.trans (Eb unit.toNat _ 1099511627776 oo oo);rw [<-n1,<-n2] at q2;have q3:rN s=IQ (rU s).2.1 (rU s).2.2 31:=rfl;rw [q2] at q3;have q3:=q3.trans (Mm _ _ 31 oo oo);have q4:rT s=IQ (rN s).2.1 (rN s).2.2 400:=rfl;rw [q3] at q4;have q4:=q4.trans (Mm _ _ 400 oo oo);have q5:rC s=BR (rT s).2.1 (rT s).2.2 16:=rfl;rw [q4] at q5;have q5:=q5.trans (Eb ext.length _ 16 oo oo);have q6:=br m ext (List.replicate z 0) hm h ext.length (iX _);rw [j1] at q6;refine ⟨?_,?_⟩
 . unfold rL;rw [q1,q2,q3,q4,q5];simp only [q6,MP];rw [kC oo,kC a3]
 . unfold rE;rw [q5];simp only [q6]
theorem iM (m:Int) (l:Lab) (t:Int) (h:BZ l t=true) (m0:127<=m) (m1:m<=1000000):rL m (Cz l t)=l/\rE m (Cz l t)=0:=by
 have hf:=EI l t h;obtain ⟨h1,h2,h3,h4⟩:=hf;have ht:=Ck (show okT t=true from by unfold BZ at h;revert h;cases okT t<;>simp);have hi:inB l t=true:=by unfold BZ at h;revert h;cases inB l t<;>simp
 have hb:=az l h4;have hr:=gE l t h4 hi;refine ft m l (1024 - (IK l++EH l.ext).size) m1 ⟨h1,h2,h3,h4⟩ (λx hx=>?_) _ (by rw [My l t h,<-aj,MP]);obtain ⟨b0,b1,b2⟩:=hb x hx;obtain ⟨r0,r1,r2,r3⟩:=hr x hx;exact ⟨b0,oo,b1,oo⟩
theorem RW (l:Lab) (t:Int) (h:BZ l t=true) (hs:(Cz l t).size=1024):Dq (Cz l t) t=(l,0):=by
 have ht:okT t=true:=by unfold BZ at h;revert h;cases okT t<;>simp
 have hr:=(iM 128 l t h oo oo).1
 have hz:Cz l t≠DF 1024 ⟨#[]⟩:=by
  intro e;have h1:=ix (λs=>(rI s).1) e
  have h2:(rI (DF 1024 ⟨#[]⟩)).1=0:=by
   have:=Eb 0 (List.replicate 1023 0) 1099511627776 oo oo;unfold rI
   have e2:DF 1024 ⟨#[]⟩=⟨(enc 0++List.replicate 1023 0).toArray⟩:=by
    apply GA
    have e4:(DF 1024 ⟨#[]⟩).data.toList=List.replicate 1024 0:=by
     unfold DF FL;simp only [ByteArray.data_append,Array.toList_append,Array.toList_replicate];rfl
    rw [e4];have e3:enc 0=[0]:=qd;rw [e3];exact List.replicate_succ (n:=1023)
   rw [e2,this]
  simp only [h2] at h1;have h3:((rI (Cz l t)).1:Int)=l.id:=ix Lab.id hr;have h4:=(EI l t h).1.1;omega
 unfold Dq;rw [if_neg (by rw [ht,hs];simp),if_neg hz,hr,if_pos ⟨h,rfl⟩]
theorem OB (s:ByteArray) (t:Int):((Dq s t).2=0/\Cz (Dq s t).1 t=s)\/(Dq s t=(CN,11)):=by
 unfold Dq;by_cases h0:okT t=false\/s.size≠1024
 . rw [if_pos h0];exact .inr rfl
 . rw [if_neg h0];have ht:okT t=true:=by cases h:okT t with | true=>rfl | false=>exact absurd (.inl h) h0
   by_cases hz:s=DF 1024 ⟨#[]⟩
   . rw [if_pos hz];left;refine ⟨rfl,?_⟩;unfold Cz;rw [if_pos ⟨ht,(J2 _ _).2 rfl⟩,hz]
   . rw [if_neg hz];by_cases hp:BZ (rL 128 s) t=true/\Cz (rL 128 s) t=s
     . rw [if_pos hp];exact .inl ⟨rfl,hp.2⟩
     . rw [if_neg hp];exact .inr rfl
theorem O0 (l:Lab) (t:Int) (h:BZ l t=true):(Cz l t).size=1024:=by
 obtain ⟨⟨v1,v2,v3,v4⟩,⟨v5,v6⟩,⟨v7,v8⟩,_⟩:=EI l t h;rw [My l t h];refine Fq _ _ ?_;have h1:=OJ l v5 v6;have h2:=Mb l.ext;rw [io];omega

end
section
attribute [local go_sem ↓] Go.wp_at_zero Go.wp_at_succ
open Go.RowKit
def hdN (s:ByteArray):=IQ s 0 8
def hdT (s:ByteArray):=BR (hdN s).2.1 (hdN s).2.2 128
def hdE (s:ByteArray):=CJ (hdN s).1 ((hdT s).1:Int)
def E7 (s:ByteArray):ByteArray × Int × Int:=if hdE s=⟨#[]⟩\/hdE s≠s then (⟨#[]⟩,0,11) else ((hdN s).1,((hdT s).1:Int),0)
theorem Sh (s:ByteArray) (t:Int) (h:CJ s t≠⟨#[]⟩):Cn s=true/\okT t=true/\(CJ s t).size=1024:=by
 unfold CJ at h ⊢;split at h
 . rename_i hc;rw [if_pos hc];refine ⟨hc.1,hc.2,Fq _ _ ?_⟩;have hp:JQ s:=jC hc.1;have:=hp.2.1;have z1:=BG s.size;have z2:=BG t.toNat;rw [io,io];omega
 . exact absurd rfl h
theorem Lh (s:ByteArray):E7 s=(⟨#[]⟩,0,11)\/∃n t,E7 s=(n,t,0)/\CJ n t=s/\Cn n=true/\okT t=true/\n.size<=8/\0<=t/\t<=128:=by
 unfold E7;split
 . exact .inl rfl
 . rename_i h;obtain ⟨h0,h1⟩:=not_or.1 h;have h1:=jU.1 h1;obtain ⟨a1,a2,a3⟩:=Sh _ _ h0;have hp:JQ (hdN s).1:=jC a1;have:=Ck a2;exact .inr ⟨_,_,rfl,h1,a1,a2,hp.2.1,oo,oo⟩
def HdR (w:World) (d:ByteArray × Int × Int) (e:Ending) (w':World):Prop:=e=.returned (.tuple #[.string d.1,.int .i64 d.2.1,.int .i64 d.2.2])/\Grew w w'
theorem fC (w w':World) (h:Grew w w'):HdR w (⟨#[]⟩,0,11) (.returned (.tuple #[.string ⟨#[]⟩,.int .i64 0,.int .i64 11])) w':=⟨rfl,h⟩
theorem RS (s:ByteArray) (w:World) (hs:s.size<=9223372036854775807):
 Calls Tryz.prog 171 #[.string s] w (HdR w (E7 s)):=by
 go_enter Tryz.func171,Tryz.ntmps171;go_wp2_with fail;refine (GZ s _).mono ?_;rintro e w3 ⟨g,rfl,p,hG,f⟩;have a:=zh (show E7 s=if hdE s=⟨#[]⟩\/hdE s≠s then (⟨#[]⟩,0,11) else ((hdN s).1,((hdT s).1:Int),0) from rfl);unfold hdE hdT hdN at a;obtain ⟨⟨n1,s1,e1⟩,b⟩:∃X,IQ s 0 8=X:=⟨_,rfl⟩;rw [b] at a;have m:=zh b;have zz:=Ks s 0 8;rw [b] at zz;have j:s1.size<=9223372036854775807:=ij zz hs;have C:=LV g s 0 8 w3 f hs oo oo;rw [b] at C;have c:=Qf s 0 8;rw [b] at c;have c:n1.size<=9223372036854775807:=ij c hs;clear b zz;go_wp2_with fail;refine C.mono ?_;rintro e w4 ⟨rfl,t1,i⟩;replace hG:=hG.turn t1 (λ_ hk=>oo);clear C t1 f
 try simp only at a
 obtain ⟨⟨t2,s2,e2⟩,d⟩:∃X,BR s1 e1 128=X:=⟨_,rfl⟩;rw [d] at a;have C:=CU g s1 e1 128 w4 i j oo oo;rw [d] at C;have bt:=Fa s1 e1 128 oo;rw [d] at bt;have bt:(t2:Int)<=128:=bt;clear d;go_wp2_with fail;refine C.mono ?_;rintro e w5 ⟨rfl,t5,q⟩;replace hG:=hG.turn t5 (λ_ hk=>oo);clear C t5 i
 try simp only at a
 obtain ⟨E,hE⟩:∃E,CJ n1 (t2:Int)=E:=⟨_,rfl⟩;rw [hE] at a;have C:=Ll n1 (t2:Int) w5 c;rw [hE] at C;clear hE;by_cases h0:E=⟨#[]⟩
 . subst h0;have HE:=zh (show E7 s=(⟨#[]⟩,0,11) from by rw [a.out,if_pos (.inl rfl)]);clear a;go_wp2_with fail;refine C.mono ?_;rintro e w6 ⟨rfl,g6⟩;go_wp2_with fail;refine im (by first | (simp [*,results,Tryz.results171,go_sem];rfl) | simp [*,results,Tryz.results171,go_sem]) rfl ?_;rw [HE.out];exact fC _ _ (hG.trans g6)
 have k:=Q0 h0;have n:(E.toList==[])=false:=by have:=k;simpa using this
 by_cases h1:E=s
 . have HE:=zh (show E7 s=(n1,(t2:Int),0) from by rw [a.out,if_neg (λh=>h.elim h0 (λh=>h h1))]);clear a h0;subst h1;go_wp2_with fail;refine C.mono ?_;rintro e w6 ⟨rfl,g6⟩;go_wp2_with fail;refine im (by first | (simp [*,results,Tryz.results171,go_sem];rfl) | simp [*,results,Tryz.results171,go_sem]) rfl ?_;rw [HE.out];exact ⟨rfl,hG.trans g6⟩
 . have l:=Q0 h1;have o:(E.toList != s.toList)=true:=by rw [bne,l];rfl
   have HE:=zh (show E7 s=(⟨#[]⟩,0,11) from by rw [a.out,if_pos (.inr h1)]);clear a h0 h1;go_wp2_with fail;refine C.mono ?_;rintro e w6 ⟨rfl,g6⟩;go_wp2_with fail;refine im (by first | (simp [*,results,Tryz.results171,go_sem];rfl) | simp [*,results,Tryz.results171,go_sem]) rfl ?_;rw [HE.out];exact fC _ _ (hG.trans g6)

end
end Go.Proofs.YtmcgbdemcknkaaaGreatDoor
