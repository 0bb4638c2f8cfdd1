/- Parts of the proof (packed), 7. -/
import Derived.IntWalk
import Derived.Lib.Strings
import Derived.Test.YtfklieeipokllaaGreatCyE
namespace Go.Proofs.YtfklieeipokllaaGreat
set_option linter.all false
set_option maxRecDepth 100000
set_option maxHeartbeats 16000000
open List
section
open Go.RowKit
def okT (t:Int):Bool:=decide (4<=t/\t<=128)
def ttS (t:Int):Int:=if okT t=true then (t+3) / 4 else 0
def CT (t:Int):Int:=max 0 (ttS t - 1)
theorem B0 {t:Int} (h:okT t=true):4<=t/\t<=128:=by simpa [okT] using h
theorem DQ (t:Int):0<=ttS t/\ttS t<=32:=by
 unfold ttS;cases h:okT t with
 | true=>have:=B0 h;rw [if_pos rfl];omega
 | false=>rw [if_neg qs];omega
theorem BX (t:Int) (w:World):Calls Tryz.prog 140 #[.int .i64 t] w λe w'=>e=.returned (.bool (okT t))/\w=w':=by
 have HO:=zh (show okT t=decide (4<=t/\t<=128) from rfl);by_cases h1:4<=t
 . by_cases h2:t<=128
   . have HE:=zh (show okT t=true from by rw [HO.out];simp [h1,h2]);go_enter Tryz.func140,Tryz.ntmps140
     go_wp2
     go_ret;exact ⟨AE (by rw [HE.out]),rfl⟩
   . have HE:=zh (show okT t=false from by rw [HO.out];simp [h1,h2]);go_enter Tryz.func140,Tryz.ntmps140
     go_wp2
     go_ret;exact ⟨AE (by rw [HE.out]),rfl⟩
 . have HE:=zh (show okT t=false from by rw [HO.out];simp [h1]);go_enter Tryz.func140,Tryz.ntmps140
   go_wp2
   go_ret;exact ⟨AE (by rw [HE.out]),rfl⟩
theorem B6 (t:Int) (w:World):Calls Tryz.prog 67 #[.int .i64 t] w λe w'=>e=.returned (.int .i64 (ttS t))/\w=w':=by
 cases h:okT t with
 | true=>
   have HE:=zh h;obtain ⟨h1,h2⟩:=B0 h;have HT:=zh (show ttS t=(t+3) / 4 from by unfold ttS;rw [if_pos h]);clear h;go_enter Tryz.func67,Tryz.ntmps67;go_wp2_with fail;refine (BX _ _).mono ?_;rintro e w1 ⟨rfl,rfl⟩;rw [HE.out];go_wp2_with fail;go_ret;exact ⟨CL (by rw [HT.out]),rfl⟩
 | false=>
   have HE:=zh h;have HT:=zh (show ttS t=0 from by unfold ttS;rw [if_neg (by rw [h];simp)]);clear h;go_enter Tryz.func67,Tryz.ntmps67;go_wp2_with fail;refine (BX _ _).mono ?_;rintro e w1 ⟨rfl,rfl⟩;rw [HE.out];go_wp2_with fail;go_ret;exact ⟨CL (by rw [HT.out]),rfl⟩
theorem LA (t:Int) (w:World):Calls Tryz.prog 125 #[.int .i64 t] w λe w'=>e=.returned (.int .i64 (CT t))/\w=w':=by
 obtain ⟨h0,h1⟩:=DQ t;have HS:=zh (show CT t=max 0 (ttS t - 1) from rfl);have HC:=zh (B6 t w);generalize ttS t=n at*;by_cases h:1<=n
 . go_enter Tryz.func125,Tryz.ntmps125;go_wp2_with fail;refine HC.mono ?_;rintro e w1 ⟨rfl,rfl⟩;go_wp2_with fail
   all_goals
    go_ret;exact ⟨CL (by rw [HS.out]<;>omega),rfl⟩
 . go_enter Tryz.func125,Tryz.ntmps125;go_wp2_with fail;refine HC.mono ?_;rintro e w1 ⟨rfl,rfl⟩;go_wp2_with fail
   all_goals
    go_ret;exact ⟨CL (by rw [HS.out]<;>omega),rfl⟩

structure Lab where
 id:Int
 unit:Int
 name:ByteArray
 note:ByteArray
 ext:List (Int × Int)
instance:Inhabited Lab:=⟨⟨0,0,⟨#[]⟩,⟨#[]⟩,[]⟩⟩
def BH:Lab:=⟨0,0,⟨#[]⟩,⟨#[]⟩,[]⟩
structure LabAt (w:World) (A:Option Addr) (c:Nat) (l:Lab):Prop where
 id0:-9223372036854775808<=l.id
 id1:l.id<=9223372036854775807
 unit0:-9223372036854775808<=l.unit
 unit1:l.unit<=9223372036854775807
 name:l.name.size<=9223372036854775807
 note:l.note.size<=9223372036854775807
 runs:RunsAt w w.heap.size A l.ext
 len:l.ext.length<=c
 cap:c<=9223372036854775807
theorem LabAt.hold {w w':World} {A:Option Addr} {c:Nat} {l:Lab} (h:LabAt w A c l) (hg:Grew w w'):LabAt w' A c l:=
 ⟨h.id0,h.id1,h.unit0,h.unit1,h.name,h.note,⟨h.runs.1,(ListAt.keep h.runs.2 (fk _) hg).mono hg.size⟩,h.len,h.cap⟩
theorem LabAt.zero (w:World):LabAt w none 0 BH:=⟨qd,qd,qd,qd,qd,qd,⟨by simp [BH],λh=>by simp [BH] at h⟩,by simp [BH],oo⟩
def eqL (a b:Lab):Bool:=(a.id==b.id) && ((a.unit==b.unit) && ((a.name.toList==b.name.toList) && ((a.note.toList==b.note.toList) && decide (a.ext=b.ext))))
theorem T7 (A B:Option Addr) (c d:Nat) (a b:Lab) (w:World) (ha:LabAt w A c a) (hb:LabAt w B d b) (j:a.ext.length<=100000) (i:b.ext.length<=100000):
 Calls Tryz.prog 97 #[.agg #[.int .i64 a.id,.int .i64 a.unit,.string a.name,.string a.note,.slice A a.ext.length c],.agg #[.int .i64 b.id,.int .i64 b.unit,.string b.name,.string b.note,.slice B b.ext.length d]] w λe w'=>e=.returned (.bool (eqL a b))/\Grew w w':=by
 obtain ⟨i1,u1,n1,t1,e1⟩:=a;obtain ⟨i2,u2,n2,t2,e2⟩:=b;have ra:=ha.runs;have rb:=hb.runs;simp only at ra rb j i;have ga:=((fh w).alloc (.cells #[.int .i64 i1,.int .i64 u1,.string n1,.string t1,.slice A e1.length c] 100)).alloc (.cells #[.int .i64 i2,.int .i64 u2,.string n2,.string t2,.slice B e2.length d] 100);have HC:=zh (Lm A B c d e1 e2 _ w.heap.size ga.size oo oo (ra.keep (fk _) ga) (rb.keep (fk _) ga));have HE:=zh (show eqL ⟨i1,u1,n1,t1,e1⟩ ⟨i2,u2,n2,t2,e2⟩=((i1==i2) && ((u1==u2) && ((n1.toList==n2.toList) && ((t1.toList==t2.toList) && decide (e1=e2))))) from rfl);have HG:=zh ga;clear ha hb ra rb ga;cases b1:(i1==i2) with
 | false=>
   have HB:=zh b1;go_enter Tryz.func97,Tryz.ntmps97;go_wp2_with fail;go_ret;exact ⟨AE (by rw [HE.out,HB.out];rfl),HG⟩
 | true=>
   have f:=zh b1;cases b2:(u1==u2) with
   | false=>
     have HB:=zh b2;go_enter Tryz.func97,Tryz.ntmps97;go_wp2_with fail;go_ret;exact ⟨AE (by rw [HE.out,f.out,HB.out];rfl),HG⟩
   | true=>
     have g:=zh b2;cases b3:(n1.toList==n2.toList) with
     | false=>
       have HB:=zh b3;go_enter Tryz.func97,Tryz.ntmps97;go_wp2_with fail;go_ret;exact ⟨AE (by rw [HE.out,f.out,g.out,HB.out];rfl),HG⟩
     | true=>
       have h:=zh b3;cases b4:(t1.toList==t2.toList) with
       | false=>
         have HB:=zh b4;go_enter Tryz.func97,Tryz.ntmps97;go_wp2_with fail;go_ret;exact ⟨AE (by rw [HE.out,f.out,g.out,h.out,HB.out];rfl),HG⟩
       | true=>
         have HB:=zh b4;go_enter Tryz.func97,Tryz.ntmps97;go_wp2_with fail;refine HC.mono ?_;rintro e w1 ⟨rfl,g1⟩;go_wp2_with fail;go_ret;exact ⟨AE (by rw [HE.out,f.out,g.out,h.out,HB.out];simp),HG.out.trans g1⟩

def idB (l:Lab):Bool:=decide (1<=l.id/\l.id<=1099511627776/\0<=l.unit/\l.unit<=1099511627776)
def txB (l:Lab):Bool:=decide (l.name.size<=31/\l.note.size<=400)
def cnB (l:Lab):Bool:=decide (1<=l.ext.length/\l.ext.length<=16)
def jnB (l:Lab):Bool:=decide (AK (Bb l.ext)=l.ext) && decide (BP l.ext).Nodup
def GQ (t:Int) (r:Int × Int):Bool:=decide (r.1<ttS t) || decide (t<r.1+r.2)
def inB (l:Lab) (t:Int):Bool:=!(l.ext.any (GQ t))
def Sn (l:Lab) (t:Int):Nat->Bool
 | 0=>okT t
 | 1=>idB l
 | 2=>txB l
 | 3=>cnB l
 | 4=>jnB l
 | _=>inB l t
def BO (l:Lab) (t:Int):Bool:=okT t && (idB l && (txB l && (cnB l && (jnB l && inB l t))))
theorem L7 (l:Lab) (t:Int) (k:Nat) (h:Sn l t k=false):BO l t=false:=by
 unfold BO
 match k with
 | 0=>rw [show okT t=false from h];rfl
 | 1=>rw [show idB l=false from h];simp
 | 2=>rw [show txB l=false from h];simp
 | 3=>rw [show cnB l=false from h];simp
 | 4=>rw [show jnB l=false from h];simp
 | k+5=>rw [show inB l t=false from h];simp
theorem UD (l:Lab) (t:Int) (h:∀k,k<6->Sn l t k=true):BO l t=true:=by
 unfold BO;rw [show okT t=true from h 0 oo,show idB l=true from h 1 oo,show txB l=true from h 2 oo,show cnB l=true from h 3 oo,show jnB l=true from h 4 oo,show inB l t=true from h 5 oo];rfl
theorem Yb (l:Lab) (h:jnB l=true):∀r∈l.ext,0<=r.1/\0<=r.2/\r.1+r.2<=128:=by
 unfold jnB at h;rw [gZ,gm] at h;intro r hr;rw [<-h.1] at hr;obtain ⟨x,hx,rfl⟩:=ft.1 hr;have:=DE l.ext x hx;simp only;omega
section
variable (A:Option Addr) (c:Nat) (l:Lab) (g:Nat) (w:World)
theorem YD (t:Int) (hb:Blk w g 3 #[.int .i64 t]):
 Calls Tryz.prog 189 #[.pointer (some ⟨g,0,none⟩)] w λe w'=>e=.returned (.bool (okT t))/\Grew w w':=by
 have x0:=hb.cell 0;have hl:=hb.lt;go_enter Tryz.func189,Tryz.ntmps189;go_wp2_with fail;refine (BX _ _).mono ?_;rintro e w1 ⟨rfl,rfl⟩;go_wp2_with fail;go_ret;exact ⟨rfl,fh _⟩
theorem XT (hb:Blk w g 100 #[.int .i64 l.id,.int .i64 l.unit,.string l.name,.string l.note,.slice A l.ext.length c]):
 Calls Tryz.prog 190 #[.pointer (some ⟨g,0,none⟩)] w λe w'=>e=.returned (.bool (idB l))/\Grew w w':=by
 have x0:=hb.cell 0;have x1:=hb.cell 1;have hl:=hb.lt;obtain ⟨id,unit,name,note,ext⟩:=l;simp only at x0 x1;have HE:=zh (show idB ⟨id,unit,name,note,ext⟩=decide (1<=id/\id<=1099511627776/\0<=unit/\unit<=1099511627776) from rfl);clear hb;by_cases h1:1<=id
 . by_cases h2:id<=1099511627776
   . by_cases h3:0<=unit
     . by_cases h4:unit<=1099511627776
       . have HF:=zh (show idB ⟨id,unit,name,note,ext⟩=true from HE.out.trans (by simp [h1,h2,h3,h4]));clear HE;go_enter Tryz.func190,Tryz.ntmps190;go_wp2_with fail;go_ret;exact ⟨AE (by rw [HF.out]),fh _⟩
       . have HF:=zh (show idB ⟨id,unit,name,note,ext⟩=false from HE.out.trans (by simp [h1,h2,h3,h4]));clear HE;go_enter Tryz.func190,Tryz.ntmps190;go_wp2_with fail;go_ret;exact ⟨AE (by rw [HF.out]),fh _⟩
     . have HF:=zh (show idB ⟨id,unit,name,note,ext⟩=false from HE.out.trans (by simp [h1,h2,h3]));clear HE;go_enter Tryz.func190,Tryz.ntmps190;go_wp2_with fail;go_ret;exact ⟨AE (by rw [HF.out]),fh _⟩
   . have HF:=zh (show idB ⟨id,unit,name,note,ext⟩=false from HE.out.trans (by simp [h1,h2]));clear HE;go_enter Tryz.func190,Tryz.ntmps190;go_wp2_with fail;go_ret;exact ⟨AE (by rw [HF.out]),fh _⟩
 . have HF:=zh (show idB ⟨id,unit,name,note,ext⟩=false from HE.out.trans (by simp [h1]));clear HE;go_enter Tryz.func190,Tryz.ntmps190;go_wp2_with fail;go_ret;exact ⟨AE (by rw [HF.out]),fh _⟩
theorem X9 (b:l.name.size<=9223372036854775807) (a:l.note.size<=9223372036854775807) (hb:Blk w g 100 #[.int .i64 l.id,.int .i64 l.unit,.string l.name,.string l.note,.slice A l.ext.length c]):
 Calls Tryz.prog 191 #[.pointer (some ⟨g,0,none⟩)] w λe w'=>e=.returned (.bool (txB l))/\Grew w w':=by
 have x0:=hb.cell 2;have x1:=hb.cell 3;have hl:=hb.lt;obtain ⟨id,unit,name,note,ext⟩:=l;simp only at x0 x1 b a;have HE:=zh (show txB ⟨id,unit,name,note,ext⟩=decide (name.size<=31/\note.size<=400) from rfl);clear hb;by_cases h1:name.size<=31
 . by_cases h2:note.size<=400
   . have d:(note.size:Int)<=400:=oo;have HF:=zh (show txB ⟨id,unit,name,note,ext⟩=true from HE.out.trans (by simp [h1,h2]));clear HE;go_enter Tryz.func191,Tryz.ntmps191;go_wp2_with fail;go_ret;exact ⟨AE (by rw [HF.out]),fh _⟩
   . have d:¬(note.size:Int)<=400:=oo;have HF:=zh (show txB ⟨id,unit,name,note,ext⟩=false from HE.out.trans (by simp [h1,h2]));clear HE;go_enter Tryz.func191,Tryz.ntmps191;go_wp2_with fail;go_ret;exact ⟨AE (by rw [HF.out]),fh _⟩
 . have HF:=zh (show txB ⟨id,unit,name,note,ext⟩=false from HE.out.trans (by simp [h1]));clear HE;go_enter Tryz.func191,Tryz.ntmps191;go_wp2_with fail;go_ret;exact ⟨AE (by rw [HF.out]),fh _⟩
theorem YE (hs:l.ext.length<=1000000000) (hb:Blk w g 100 #[.int .i64 l.id,.int .i64 l.unit,.string l.name,.string l.note,.slice A l.ext.length c]):
 Calls Tryz.prog 192 #[.pointer (some ⟨g,0,none⟩)] w λe w'=>e=.returned (.bool (cnB l))/\Grew w w':=by
 have x1:=hb.cell 4;have hl:=hb.lt;obtain ⟨id,unit,name,note,ext⟩:=l;simp only at x1 hs;have HE:=zh (show cnB ⟨id,unit,name,note,ext⟩=decide (1<=ext.length/\ext.length<=16) from rfl);clear hb;generalize ext.length=n at*;by_cases h1:1<=n
 . have a:1<=(n:Int):=oo;by_cases h2:n<=16
   . have b:(n:Int)<=16:=oo;have HF:=zh (show cnB ⟨id,unit,name,note,ext⟩=true from HE.out.trans (by simp [h1,h2]));clear HE;go_enter Tryz.func192,Tryz.ntmps192;go_wp2_with fail;go_ret;exact ⟨AE (by rw [HF.out]),fh _⟩
   . have b:¬(n:Int)<=16:=oo;have HF:=zh (show cnB ⟨id,unit,name,note,ext⟩=false from HE.out.trans (by simp [h1,h2]));clear HE;go_enter Tryz.func192,Tryz.ntmps192;go_wp2_with fail;go_ret;exact ⟨AE (by rw [HF.out]),fh _⟩
 . have a:¬1<=(n:Int):=oo;have HF:=zh (show cnB ⟨id,unit,name,note,ext⟩=false from HE.out.trans (by simp [h1]));clear HE;go_enter Tryz.func192,Tryz.ntmps192;go_wp2_with fail;go_ret;exact ⟨AE (by rw [HF.out]),fh _⟩
end

end
section
attribute [local go_sem ↓] Go.wp_at_zero Go.wp_at_succ
open Go.RowKit
theorem RunsAt.mono2 {w:World} {B B':Nat} {A:Option Addr} {l:List (Int × Int)} (h:RunsAt w B A l) (hB:B<=B'):RunsAt w B' A l:=⟨h.1,h.2.mono hB⟩
section
variable (A:Option Addr) (c:Nat) (l:Lab) (g:Nat) (w:World)
theorem Xs (h:LabAt w A c l) (hs:l.ext.length<=100000) (hb:Blk w g 100 #[.int .i64 l.id,.int .i64 l.unit,.string l.name,.string l.note,.slice A l.ext.length c]):
 Calls Tryz.prog 193 #[.pointer (some ⟨g,0,none⟩)] w λe w'=>e=.returned (.bool (jnB l))/\Grew w w':=by
 have hl:=hb.lt;have hJ:=jnB l;obtain ⟨k,hk⟩:∃k,AK (Bb l.ext)=k:=⟨_,rfl⟩;have j:k.length<=l.ext.length:=by rw [<-hk,AZ];exact DJ _
 have HR:=zh h.runs;have HB:=zh hb;have HK:=zh hk;have HE:=zh (show jnB l=(decide (k=l.ext) && decide (BP l.ext).Nodup) from by unfold jnB;rw [hk]);clear h hk hJ;cases hj:decide (k=l.ext) with
 | false=>
   have HJ:=zh hj;have HF:=zh (show jnB l=false from HE.out.trans (by rw [hj];rfl));clear hj HE;go_enter Tryz.func193,Tryz.ntmps193;go_wp2_with fail;refine AB [] (λw':World=>w'.cell? ⟨g,4,none⟩=some (.slice A l.ext.length c)) qk ?_;have hS:=HB.drew.cell 4;refine tQ 0 2 ?_;refine tT 1 (some 3) hS ?_;refine tQ 3 5 ?_;refine tT 4 (some 6) hS ?_;refine tO 2 λK' hK=>?_;go_wp2_with fail;refine (KH A c _ l.ext w.drew rfl oo HR k HK).mono ?_;rintro e w1 ⟨A1,c1,rfl,b,g1⟩;have d:=zh b;clear b;go_wp2_with fail;refine hK.out _ _ (.inr (λ_=>(HB.drew.grew g1).cell 4)) ?_;clear hK hS;have a:Grew w w1:=(fh w).drew.trans g1;have hS:=(HB.grew a).cell 4;refine tO 5 λK' hK=>?_;go_wp2_with fail;refine (Lm A1 A c1 c k l.ext w1 w1.heap.size (fk _) oo oo d ((HR.keep (fk _) a).mono2 a.size)).mono ?_;rintro e w2 ⟨rfl,f⟩;rw [HJ.out];have g2:Grew w w2:=a.trans f;go_wp2_with fail;refine hK.out _ _ (.inr (λ_=>(HB.grew g2).cell 4)) ?_;clear hK hS;have hS:=(HB.grew g2).cell 4;refine tQ 6 8 ?_;refine tU 7 (some 9) ?_;refine tU 8 (some 10) ?_;refine tU 9 (some 11) ?_;refine tQ 10 12 ?_;refine tQ 11 1 ?_;refine AA qk ?_ _;go_wp2_with fail;go_ret;exact ⟨AE (by rw [HF.out]),g2⟩
 | true=>
   have HJ:=zh hj;have HF:=zh (show jnB l=decide (BP l.ext).Nodup from HE.out.trans (by rw [hj];rfl));clear hj HE;go_enter Tryz.func193,Tryz.ntmps193;go_wp2_with fail;refine AB [] (λw':World=>w'.cell? ⟨g,4,none⟩=some (.slice A l.ext.length c)) qk ?_;have hS:=HB.drew.cell 4;refine tQ 0 2 ?_;refine tT 1 (some 3) hS ?_;refine tQ 3 5 ?_;refine tT 4 (some 6) hS ?_;refine tO 2 λK' hK=>?_;go_wp2_with fail;refine (KH A c _ l.ext w.drew rfl oo HR k HK).mono ?_;rintro e w1 ⟨A1,c1,rfl,b,g1⟩;have d:=zh b;clear b;go_wp2_with fail;refine hK.out _ _ (.inr (λ_=>(HB.drew.grew g1).cell 4)) ?_;clear hK hS;have a:Grew w w1:=(fh w).drew.trans g1;have hS:=(HB.grew a).cell 4;refine tO 5 λK' hK=>?_;go_wp2_with fail;refine (Lm A1 A c1 c k l.ext w1 w1.heap.size (fk _) oo oo d ((HR.keep (fk _) a).mono2 a.size)).mono ?_;rintro e w2 ⟨rfl,f⟩;rw [HJ.out];have g2:Grew w w2:=a.trans f;go_wp2_with fail;refine hK.out _ _ (.inr (λ_=>(HB.grew g2).cell 4)) ?_;clear hK hS;have hS:=(HB.grew g2).cell 4;refine tQ 6 8 ?_;refine tQ 7 9 ?_;refine tT 8 (some 10) hS ?_;refine tO 9 λK' hK=>?_;go_wp2_with fail;refine (Kj rfl oo ((HR.keep (fk _) g2).mono2 g2.size) _ rfl).mono ?_;rintro e w3 ⟨rfl,g3⟩;have i:=zh (g2.trans g3);clear g3;go_wp2_with fail;refine hK.out _ _ (.inr (λ_=>(HB.grew i).cell 4)) ?_;clear hK;refine tQ 10 12 ?_;refine tQ 11 1 ?_;refine AA qk ?_ _;go_wp2_with fail;go_ret;exact ⟨AE (by rw [HF.out]),i⟩
end
theorem aA (t f n:Int) (g1 g2:Nat) (w:World) (h1:Blk w g1 3 #[.int .i64 (ttS t)]) (h2:Blk w g2 3 #[.int .i64 t]) (hf:0<=f/\f<=1000) (hn:0<=n/\n<=1000):
 Calls Tryz.prog 196 #[.agg #[.int .i64 f,.int .i64 n],.pointer (some ⟨g1,0,none⟩),.pointer (some ⟨g2,0,none⟩)] w λe w'=>e=.returned (.bool (GQ t (f,n)))/\Grew w w':=by
 obtain ⟨c,d⟩:=hf;obtain ⟨g,h⟩:=hn;have a:=h1.lt;have b:=h2.lt;have x1:=h1.cell 0;have x2:=h2.cell 0;have HB:=zh (show GQ t (f,n)=(decide (f<ttS t) || decide (t<f+n)) from rfl);clear h1 h2;generalize ttS t=tt at*;by_cases a1:f<tt
 . have HF:=zh (show GQ t (f,n)=true from HB.out.trans (by simp [a1]));clear HB;go_enter Tryz.func196,Tryz.ntmps196;go_wp2_with fail;go_ret;exact ⟨AE (by rw [HF.out]),gG⟩
 . by_cases a2:t<f+n
   . have HF:=zh (show GQ t (f,n)=true from HB.out.trans (by simp [a1,a2]));clear HB;go_enter Tryz.func196,Tryz.ntmps196;go_wp2_with fail;go_ret;exact ⟨AE (by rw [HF.out]),gG⟩
   . have HF:=zh (show GQ t (f,n)=false from HB.out.trans (by simp [a1,a2]));clear HB;go_enter Tryz.func196,Tryz.ntmps196;go_wp2_with fail;go_ret;exact ⟨AE (by rw [HF.out]),gG⟩
def fe (l:List (Int × Int)) (t:Int) (e:Ending):Prop:=(∃i:Nat,e=.returned (.int .i64 (i:Int))/\i<l.length/\l.any (GQ t)=true)\/(e=.returned (.int .i64 (-1))/\l.any (GQ t)=false)
section
variable (A:Option Addr) (c:Nat) (l:List (Int × Int)) (t:Int) (g1 g2:Nat) (w:World)
theorem Zp (h1:Blk w g1 3 #[.int .i64 (ttS t)]) (h2:Blk w g2 3 #[.int .i64 t]) (hr:RunsAt w w.heap.size A l) (hl:l.length<=100000) (hs:∀r∈l,0<=r.1/\0<=r.2/\r.1+r.2<=128):
 Calls Tryz.prog 231 #[.slice A l.length c,.func (.func 196) #[] #[.pointer (some ⟨g1,0,none⟩),.pointer (some ⟨g2,0,none⟩)]] w λe w'=>fe l t e/\Grew w w':=by
 have HR:=zh hr;have HS:=zh hs;have H1:=zh h1;have H2:=zh h2;clear hr hs h1 h2;go_enter Tryz.func231,Tryz.ntmps231;go_wp2_with fail
 go_loopg [8] l.length (λgk i wr=>∃k:Nat,k<=l.length/\gk=l.length - k/\i=.int .i64 k/\(∀j (hj:j<l.length),j<k->GQ t l[j]=false)/\Grew w wr)
 case atStart=>exact ⟨0,oo,oo,rfl,λj _ h=>oo,fh _⟩
 case round=>
  obtain ⟨k,hk,m,rfl,o,hg⟩:=hrel;have p:=zh m;have HA:=zh o;have HG:=zh hg;clear m o;by_cases a:k<l.length
  . obtain ⟨b,v,f,n,rfl,hb,hv,u,c0,c1⟩:=(HR.keep (fk _) hg).at_ a;have g:=HS.out l[k] (fq a);rw [hv] at g;simp only at g;have HV:=zh hv;have HB:=zh (aA t f n g1 g2 wr (H1.grew hg) (H2.grew hg) oo oo);clear hv u;go_wp2_with fail;refine HB.mono ?_;rintro e w3 ⟨rfl,g3⟩;cases d:GQ t (f,n) with
    | true=>
      have q:=zh (show l.any (GQ t)=true from by rw [jD];exact ⟨l[k],fq a,by rw [HV.out];exact d⟩);clear d;go_wp2_with fail;go_ret;exact ⟨.inl ⟨k,rfl,a,q⟩,HG.out.trans g3⟩
    | false=>
      have HN:=zh (show ∀j (hj:j<l.length),j<k+1->GQ t l[j]=false from λj hj hjk=>by
       by_cases s:j=k
       . subst s;rw [HV.out];exact d
       . exact HA.out j hj oo)
      clear d;go_wp2_with fail
      go_roundg (l.length - (k+1))
      case measure=>rw [p.out];omega
      case rel=>exact ⟨k+1,oo,oo,by go_num,HN,HG.out.trans g3⟩
  . have HN:=zh (show l.any (GQ t)=false from by
     rw [iK]
     intro x hx
     obtain ⟨j,hj,rfl⟩:=List.getElem_of_mem hx
     rw [HA.out j hj oo]
     simp)
    go_wp2_with fail;go_ret;exact ⟨.inr ⟨rfl,HN⟩,HG⟩
theorem aV (h1:Blk w g1 3 #[.int .i64 (ttS t)]) (h2:Blk w g2 3 #[.int .i64 t]) (hr:RunsAt w w.heap.size A l) (hl:l.length<=100000) (hs:∀r∈l,0<=r.1/\0<=r.2/\r.1+r.2<=128):
 Calls Tryz.prog 195 #[.slice A l.length c,.func (.func 196) #[] #[.pointer (some ⟨g1,0,none⟩),.pointer (some ⟨g2,0,none⟩)]] w λe w'=>e=.returned (.bool (l.any (GQ t)))/\Grew w w':=by
 have HC:=zh (Zp A c l t g1 g2 w h1 h2 hr hl hs);clear h1 h2 hr hs;go_enter Tryz.func195,Tryz.ntmps195;go_wp2_with fail;refine HC.mono ?_;rintro e w1 ⟨hi,g1⟩;rcases hi with ⟨i,rfl,b,he⟩ | ⟨rfl,he⟩
 . have HE:=zh he;have a:(0:Int)<=(i:Int):=oo;clear he;go_wp2_with fail;go_ret;exact ⟨AE (by rw [HE.out]),g1⟩
 . have HE:=zh he;clear he;go_wp2_with fail;go_ret;exact ⟨AE (by rw [HE.out]),g1⟩
end
theorem Xb (A:Option Addr) (c:Nat) (l:Lab) (t:Int) (g g1 g2:Nat) (w:World) (h:LabAt w A c l) (hs:l.ext.length<=100000) (hj:jnB l=true) (hb:Blk w g 100 #[.int .i64 l.id,.int .i64 l.unit,.string l.name,.string l.note,.slice A l.ext.length c]) (h1:Blk w g1 3 #[.int .i64 (ttS t)]) (h2:Blk w g2 3 #[.int .i64 t]):
 Calls Tryz.prog 194 #[.pointer (some ⟨g,0,none⟩),.pointer (some ⟨g1,0,none⟩),.pointer (some ⟨g2,0,none⟩)] w λe w'=>e=.returned (.bool (inB l t))/\Grew w w':=by
 have hl:=hb.lt;have x4:=hb.cell 4;have HC:=zh (aV A c l.ext t g1 g2 w h1 h2 h.runs hs (Yb l hj));have HE:=zh (show inB l t= !(l.ext.any (GQ t)) from rfl);clear h hj hb h1 h2;go_enter Tryz.func194,Tryz.ntmps194;go_wp2_with fail;refine HC.mono ?_;rintro e w1 ⟨rfl,g1⟩;cases hx:l.ext.any (GQ t) with
 | true=>
   have HX:=zh hx;clear hx;go_wp2_with fail;go_ret;exact ⟨AE (by rw [HE.out,HX.out];rfl),g1⟩
 | false=>
   have HX:=zh hx;clear hx;go_wp2_with fail;go_ret;exact ⟨AE (by rw [HE.out,HX.out];rfl),g1⟩

end
section
open Go.RowKit
theorem LC (A:Option Addr) (c:Nat) (l:Lab) (t:Int) (w:World) (h:LabAt w A c l) (hs:l.ext.length<=100000):
 Calls Tryz.prog 126 #[.agg #[.int .i64 l.id,.int .i64 l.unit,.string l.name,.string l.note,.slice A l.ext.length c],.int .i64 t] w λe w'=>e=.returned (.bool (BO l t))/\Grew w w':=by
 have HL:=zh h;have HF:=zh (L7 l t);have HT:=zh (UD l t);have z:=h.name;have B:=h.note;clear h;go_enter Tryz.func126,Tryz.ntmps126;go_wp2_with fail;refine (B6 _ _).mono ?_;rintro e w1 ⟨rfl,rfl⟩;go_wp2_with fail;have p:=zh ((((fy w 100 #[.int .i64 l.id,.int .i64 l.unit,.string l.name,.string l.note,.slice A l.ext.length c] rfl).alloc (.cells #[.int .i64 t] 3)).alloc (.cells #[.int .i64 (ttS t)] 3)).alloc (.cells #[.func (.func 189) #[] #[.pointer (some ⟨w.heap.size+1,0,none⟩)],.func (.func 190) #[] #[.pointer (some ⟨w.heap.size,0,none⟩)],.func (.func 191) #[] #[.pointer (some ⟨w.heap.size,0,none⟩)],.func (.func 192) #[] #[.pointer (some ⟨w.heap.size,0,none⟩)],.func (.func 193) #[] #[.pointer (some ⟨w.heap.size,0,none⟩)],.func (.func 194) #[] #[.pointer (some ⟨w.heap.size,0,none⟩),.pointer (some ⟨w.heap.size+1+1,0,none⟩),.pointer (some ⟨w.heap.size+1,0,none⟩)]] 25));have q:=zh (((fy (w.alloc (.cells #[.int .i64 l.id,.int .i64 l.unit,.string l.name,.string l.note,.slice A l.ext.length c] 100)) 3 #[.int .i64 t] (n:=w.heap.size+1) qs).alloc (.cells #[.int .i64 (ttS t)] 3)).alloc (.cells #[.func (.func 189) #[] #[.pointer (some ⟨w.heap.size+1,0,none⟩)],.func (.func 190) #[] #[.pointer (some ⟨w.heap.size,0,none⟩)],.func (.func 191) #[] #[.pointer (some ⟨w.heap.size,0,none⟩)],.func (.func 192) #[] #[.pointer (some ⟨w.heap.size,0,none⟩)],.func (.func 193) #[] #[.pointer (some ⟨w.heap.size,0,none⟩)],.func (.func 194) #[] #[.pointer (some ⟨w.heap.size,0,none⟩),.pointer (some ⟨w.heap.size+1+1,0,none⟩),.pointer (some ⟨w.heap.size+1,0,none⟩)]] 25));have r:=zh ((fy ((w.alloc (.cells #[.int .i64 l.id,.int .i64 l.unit,.string l.name,.string l.note,.slice A l.ext.length c] 100)).alloc (.cells #[.int .i64 t] 3)) 3 #[.int .i64 (ttS t)] (n:=w.heap.size+1+1) qs).alloc (.cells #[.func (.func 189) #[] #[.pointer (some ⟨w.heap.size+1,0,none⟩)],.func (.func 190) #[] #[.pointer (some ⟨w.heap.size,0,none⟩)],.func (.func 191) #[] #[.pointer (some ⟨w.heap.size,0,none⟩)],.func (.func 192) #[] #[.pointer (some ⟨w.heap.size,0,none⟩)],.func (.func 193) #[] #[.pointer (some ⟨w.heap.size,0,none⟩)],.func (.func 194) #[] #[.pointer (some ⟨w.heap.size,0,none⟩),.pointer (some ⟨w.heap.size+1+1,0,none⟩),.pointer (some ⟨w.heap.size+1,0,none⟩)]] 25));have s:=zh (fy (((w.alloc (.cells #[.int .i64 l.id,.int .i64 l.unit,.string l.name,.string l.note,.slice A l.ext.length c] 100)).alloc (.cells #[.int .i64 t] 3)).alloc (.cells #[.int .i64 (ttS t)] 3)) 25 #[.func (.func 189) #[] #[.pointer (some ⟨w.heap.size+1,0,none⟩)],.func (.func 190) #[] #[.pointer (some ⟨w.heap.size,0,none⟩)],.func (.func 191) #[] #[.pointer (some ⟨w.heap.size,0,none⟩)],.func (.func 192) #[] #[.pointer (some ⟨w.heap.size,0,none⟩)],.func (.func 193) #[] #[.pointer (some ⟨w.heap.size,0,none⟩)],.func (.func 194) #[] #[.pointer (some ⟨w.heap.size,0,none⟩),.pointer (some ⟨w.heap.size+1+1,0,none⟩),.pointer (some ⟨w.heap.size+1,0,none⟩)]] (n:=w.heap.size+1+1+1) qs);have d:=zh ((((fh w).alloc (.cells #[.int .i64 l.id,.int .i64 l.unit,.string l.name,.string l.note,.slice A l.ext.length c] 100)).alloc (.cells #[.int .i64 t] 3)).alloc (.cells #[.int .i64 (ttS t)] 3) |>.alloc (.cells #[.func (.func 189) #[] #[.pointer (some ⟨w.heap.size+1,0,none⟩)],.func (.func 190) #[] #[.pointer (some ⟨w.heap.size,0,none⟩)],.func (.func 191) #[] #[.pointer (some ⟨w.heap.size,0,none⟩)],.func (.func 192) #[] #[.pointer (some ⟨w.heap.size,0,none⟩)],.func (.func 193) #[] #[.pointer (some ⟨w.heap.size,0,none⟩)],.func (.func 194) #[] #[.pointer (some ⟨w.heap.size,0,none⟩),.pointer (some ⟨w.heap.size+1+1,0,none⟩),.pointer (some ⟨w.heap.size+1,0,none⟩)]] 25));obtain ⟨w0,x⟩:∃w0,w0=((((w.alloc (.cells #[.int .i64 l.id,.int .i64 l.unit,.string l.name,.string l.note,.slice A l.ext.length c] 100)).alloc (.cells #[.int .i64 t] 3)).alloc (.cells #[.int .i64 (ttS t)] 3)).alloc (.cells #[.func (.func 189) #[] #[.pointer (some ⟨w.heap.size+1,0,none⟩)],.func (.func 190) #[] #[.pointer (some ⟨w.heap.size,0,none⟩)],.func (.func 191) #[] #[.pointer (some ⟨w.heap.size,0,none⟩)],.func (.func 192) #[] #[.pointer (some ⟨w.heap.size,0,none⟩)],.func (.func 193) #[] #[.pointer (some ⟨w.heap.size,0,none⟩)],.func (.func 194) #[] #[.pointer (some ⟨w.heap.size,0,none⟩),.pointer (some ⟨w.heap.size+1+1,0,none⟩),.pointer (some ⟨w.heap.size+1,0,none⟩)]] 25)):=⟨_,rfl⟩;rw [<-x] at p q r s d ⊢;clear x
 go_loopg [20] 6 (λgk i wr=>∃k:Nat,k<=6/\gk=6 - k/\i=.int .i64 k/\(∀j,j<k->Sn l t j=true)/\Grew w0 wr)
 case atStart=>exact ⟨0,oo,oo,rfl,λj h=>oo,fh _⟩
 case round=>
  obtain ⟨k,hk,y,rfl,o,hg⟩:=hrel;have f:=zh y;have HA:=zh o;have HG:=zh hg;have u:=zh (HL.hold (d.out.trans hg));have b4:=s.grew hg;have F:=b4.lt;have m:=zh (p.grew hg);have v:=zh (q.grew hg);have C:=zh (r.grew hg)
  have g:=zh (show Sn l t k=true->∀j,j<k+1->Sn l t j=true from λh j hj=>by
   by_cases E:j=k
   . rw [E];exact h
   . exact o j oo)
  clear y o hg;by_cases G:k<6
  . rcases (show k=0\/k=1\/k=2\/k=3\/k=4\/k=5 by omega) with rfl | rfl | rfl | rfl | rfl | rfl
    . have x0:=b4.cell 0;have HC:=zh (YD (w.heap.size+1) wr t v);clear b4;go_wp2_with fail;refine HC.mono ?_;rintro e w5 ⟨rfl,g5⟩;cases hx:okT t with
      | false=>
        have a:=zh (HF 0 hx);clear hx;go_wp2_with fail;go_ret;exact ⟨AE (by rw [a.out]),(d.out.trans HG).trans g5⟩
      | true=>
        have b:=zh (g hx);clear hx;go_wp2_with fail
        go_roundg (6 - (0+1))
        case measure=>rw [f.out];omega
        case rel=>exact ⟨0+1,oo,oo,by go_num,b,HG.out.trans g5⟩
    . have x0:=b4.cell 1;have HC:=zh (XT A c l w.heap.size wr m);clear b4;go_wp2_with fail;refine HC.mono ?_;rintro e w5 ⟨rfl,g5⟩;cases hx:idB l with
      | false=>
        have a:=zh (HF 1 hx);clear hx;go_wp2_with fail;go_ret;exact ⟨AE (by rw [a.out]),(d.out.trans HG).trans g5⟩
      | true=>
        have b:=zh (g hx);clear hx;go_wp2_with fail
        go_roundg (6 - (1+1))
        case measure=>rw [f.out];omega
        case rel=>exact ⟨1+1,oo,oo,by go_num,b,HG.out.trans g5⟩
    . have x0:=b4.cell 2;have HC:=zh (X9 A c l w.heap.size wr z B m);clear b4;go_wp2_with fail;refine HC.mono ?_;rintro e w5 ⟨rfl,g5⟩;cases hx:txB l with
      | false=>
        have a:=zh (HF 2 hx);clear hx;go_wp2_with fail;go_ret;exact ⟨AE (by rw [a.out]),(d.out.trans HG).trans g5⟩
      | true=>
        have b:=zh (g hx);clear hx;go_wp2_with fail
        go_roundg (6 - (2+1))
        case measure=>rw [f.out];omega
        case rel=>exact ⟨2+1,oo,oo,by go_num,b,HG.out.trans g5⟩
    . have x0:=b4.cell 3;have HC:=zh (YE A c l w.heap.size wr oo m);clear b4;go_wp2_with fail;refine HC.mono ?_;rintro e w5 ⟨rfl,g5⟩;cases hx:cnB l with
      | false=>
        have a:=zh (HF 3 hx);clear hx;go_wp2_with fail;go_ret;exact ⟨AE (by rw [a.out]),(d.out.trans HG).trans g5⟩
      | true=>
        have b:=zh (g hx);clear hx;go_wp2_with fail
        go_roundg (6 - (3+1))
        case measure=>rw [f.out];omega
        case rel=>exact ⟨3+1,oo,oo,by go_num,b,HG.out.trans g5⟩
    . have x0:=b4.cell 4;have HC:=zh (Xs A c l w.heap.size wr u hs m);clear b4;go_wp2_with fail;refine HC.mono ?_;rintro e w5 ⟨rfl,g5⟩;cases hx:jnB l with
      | false=>
        have a:=zh (HF 4 hx);clear hx;go_wp2_with fail;go_ret;exact ⟨AE (by rw [a.out]),(d.out.trans HG).trans g5⟩
      | true=>
        have b:=zh (g hx);clear hx;go_wp2_with fail
        go_roundg (6 - (4+1))
        case measure=>rw [f.out];omega
        case rel=>exact ⟨4+1,oo,oo,by go_num,b,HG.out.trans g5⟩
    . have x0:=b4.cell 5;have HC:=zh (Xb A c l t w.heap.size (w.heap.size+1+1) (w.heap.size+1) wr u hs (HA 4 oo) m C v);clear b4;go_wp2_with fail;refine HC.mono ?_;rintro e w5 ⟨rfl,g5⟩;cases hx:inB l t with
      | false=>
        have a:=zh (HF 5 hx);clear hx;go_wp2_with fail;go_ret;exact ⟨AE (by rw [a.out]),(d.out.trans HG).trans g5⟩
      | true=>
        have b:=zh (g hx);clear hx;go_wp2_with fail
        go_roundg (6 - (5+1))
        case measure=>rw [f.out];omega
        case rel=>exact ⟨5+1,oo,oo,by go_num,b,HG.out.trans g5⟩
  . have D:=zh (HT (λj hj=>HA j oo));clear b4;go_wp2_with fail;go_ret;exact ⟨AE (by rw [D.out]),d.out.trans HG⟩

end
section
attribute [local go_sem ↓] Go.wp_at_zero Go.wp_at_succ
open Go.RowKit
def fL (t:Int) (r:Int × Int):Prop:=ttS t<=r.1/\r.1<t/\1<=r.2/\r.2<=t - r.1
theorem Xx (a:List (Nat × Nat)) (r:Nat × Nat) (h:∀x∈a,0<x.2):∀x∈CM a r,0<x.2:=by
 intro x hx;unfold CM at hx;split at hx
 . exact h x hx
 . rename_i hr;split at hx
   . rcases gY hx with hx | rfl
     . exact h x hx
     . show 0<_+r.2;omega
   . rcases gC.1 hx with hx | hx
     . exact h x hx
     . rw [fp.1 hx];omega
theorem V3 (l:List (Int × Int)):∀x∈Bb l,0<x.2:=by
 have b:∀(l:List (Int × Int)) (a:List (Nat × Nat)),(∀x∈a,0<x.2)->∀x∈l.foldl (λa x=>CM a (Ag x)) a,0<x.2:=by
  intro l
  induction l with
  | nil=>intro a h;exact h
  | cons r l ih=>intro a h;exact ih _ (Xx a _ h)
 exact b l [] qs
theorem eS (l:Lab) (t:Int) (hj:jnB l=true) (hi:inB l t=true):∀r∈l.ext,fL t r:=by
 intro r hr
 have h1:GQ t r=false:=by
  unfold inB at hi;rw [jT,iK] at hi;simpa using hi r hr
 have h2:¬(r.1<ttS t)/\¬(t<r.1+r.2):=by
  unfold GQ at h1;simpa using h1
 unfold jnB at hj;rw [gZ,gm] at hj;rw [<-hj.1] at hr;obtain ⟨x,hx,rfl⟩:=ft.1 hr;have:=V3 l.ext x hx;simp only at h2;unfold fL;simp only;omega

end
section
open Go.RowKit
theorem GX {a b:ByteArray} (h:a=b):Ending.returned (.string a)=.returned (.string b):=by rw [h]
def FB (n:Nat):ByteArray:=⟨(List.replicate n (0:UInt8)).toArray⟩
theorem ND (n:Nat):(FB n).size=n:=by simp [FB,ByteArray.size]
def Ef (n:Nat) (s:ByteArray):ByteArray:=s++FB (n - s.size)
theorem bV:(Tryz.prog.info? 5).map (λi=>(i.zero,i.size,i.bytes))=some (some (.int .u8 0),1,1):=qk
theorem XZ (w:World) (n:Nat) (hn:n<=1000000):(Instr.makeSlice 169 (.int .i64 (n:Int)) (.int .i64 (n:Int))).run Tryz.prog w=.ok (.slice (some ⟨w.heap.size,0,none⟩) n n) (w.alloc (.cells (Array.replicate n (Value.int .u8 0)) 5)):=by
 obtain ⟨i,hi,a,b,c⟩:=info_parts bV;have h:=run_make (P:=Tryz.prog) w 169 5 i _ Tryz.underlying169 hi a .i64 .i64 (n:Int) (n:Int) oo oo (by rw [c];omega) oo;rw [b] at h;simp only [gQ,Nat.mul_one] at h;rw [h];congr 3;unfold madeCells;apply Array.ext
 . simp
 . intro j h1 h2;simp [Value.cells,Nat.mod_one]
theorem Xk (w:World) (n:Nat):(convert 169 9 (.slice (some ⟨w.heap.size,0,none⟩) n n)).run Tryz.prog (w.alloc (.cells (Array.replicate n (Value.int .u8 0)) 5))=.ok (.string (FB n)) (w.alloc (.cells (Array.replicate n (Value.int .u8 0)) 5)):=
 RK _ 169 9 5 _ n n (List.replicate n 0) _ 5 Tryz.underlying169 Tryz.underlying5 Tryz.underlying9 qs (heap_alloc_new w _) (λj hj=>by
  simp only [i0] at hj
  simp [hj,Mg])
theorem Iq (s:ByteArray) (w:World) (hs:s.size<=1024):
 Calls Tryz.prog 199 #[.string s] w λe w'=>e=.returned (.string (Ef 1024 s))/\Grew w w':=by
 obtain ⟨n,hn⟩:∃n,1024 - s.size=n:=⟨_,rfl⟩;have h1:(1024:Int) - (s.size:Int)=(n:Int):=oo;have HE:=zh (show Ef 1024 s=s++FB n from by unfold Ef;rw [hn]);have a:=XZ w n oo;have b:=Xk w n;have c:=ND n;have d:n<=1024:=oo;clear hn;go_enter Tryz.func199,Tryz.ntmps199;go_wp2_with fail;go_ret;exact ⟨GX (by rw [HE.out]),gG⟩

end
section
attribute [local go_sem ↓] Go.wp_at_zero Go.wp_at_succ
open Go.RowKit
def eB (n:Nat):ByteArray:=⟨(enc n).toArray⟩
theorem Bf (n:Nat):(eB n).size<=10:=cG n
def rB (r:Int × Int):ByteArray:=eB r.1.toNat++eB r.2.toNat
def EK:List (Int × Int)->ByteArray
 | []=>⟨#[]⟩
 | r::l=>rB r++EK l
def II (l:Lab):ByteArray:=eB l.id.toNat++(eB l.unit.toNat++(eB l.name.size++(l.name++(eB l.note.size++(l.note++eB l.ext.length)))))
def Cw (l:Lab) (t:Int):ByteArray:=if okT t=true/\eqL l BH=true then Ef 1024 ⟨#[]⟩ else if BO l t=true then Ef 1024 (II l++EK l.ext) else ⟨#[]⟩
theorem UJ (l:List (Int × Int)) (r:Int × Int):EK (l++[r])=EK l++rB r:=by
 induction l with
 | nil=>show rB r++ByteArray.empty=ByteArray.empty++rB r;rw [jA];exact (jV).symm
 | cons x l ih=>show rB x++EK (l++[r])=(rB x++EK l)++rB r;rw [ih,im]
theorem cO (r:Int × Int):(rB r).size<=20:=by
 unfold rB;rw [f8];have:=Bf r.1.toNat;have:=Bf r.2.toNat;omega
theorem NT (l:List (Int × Int)):(EK l).size<=20*l.length:=by
 induction l with
 | nil=>simp [EK];rfl
 | cons r l ih=>show (rB r++EK l).size<=_;rw [f8,iY];have:=cO r;omega
theorem M5 (l:Lab) (h1:l.name.size<=31) (h2:l.note.size<=400):(II l).size<=481:=by
 unfold II;simp only [f8];have:=Bf l.id.toNat;have:=Bf l.unit.toNat;have:=Bf l.name.size;have:=Bf l.note.size;have:=Bf l.ext.length;omega
theorem L1 (s:ByteArray):(⟨#[]⟩:ByteArray)++s=s:=jV
theorem EI (l:Lab) (t:Int) (h:BO l t=true):(1<=l.id/\l.id<=1099511627776/\0<=l.unit/\l.unit<=1099511627776)/\(l.name.size<=31/\l.note.size<=400)/\(1<=l.ext.length/\l.ext.length<=16)/\jnB l=true:=by
 unfold BO at h;simp only [gZ] at h;obtain ⟨_,h1,h2,h3,h4,_⟩:=h;exact ⟨by simpa [idB] using h1,by simpa [txB] using h2,by simpa [cnB] using h3,h4⟩
theorem M7 (A:Option Addr) (c:Nat) (l:Lab) (w:World) (h:LabAt w A c l) (hl:l.ext.length<=100000):
 Calls Tryz.prog 97 #[.agg #[.int .i64 l.id,.int .i64 l.unit,.string l.name,.string l.note,.slice A l.ext.length c],.agg #[.int .i64 0,.int .i64 0,.string ⟨#[]⟩,.string ⟨#[]⟩,.slice none 0 0]] w λe w'=>e=.returned (.bool (eqL l BH))/\Grew w w':=
 T7 A none c 0 l BH w h (LabAt.zero w) hl (by simp [BH])
theorem NW (A:Option Addr) (c:Nat) (l:Lab) (t:Int) (w:World) (h:LabAt w A c l) (hs:l.ext.length<=100000) (t0:-9223372036854775808<=t) (t1:t<=9223372036854775807):
 Calls Tryz.prog 145 #[.agg #[.int .i64 l.id,.int .i64 l.unit,.string l.name,.string l.note,.slice A l.ext.length c],.int .i64 t] w λe w'=>e=.returned (.string (Cw l t))/\Grew w w':=by
 have g0:=(fh w).alloc (.cells #[.int .i64 l.id,.int .i64 l.unit,.string l.name,.string l.note,.slice A l.ext.length c] 100);have HL:=zh h;have M:=zh (h.hold g0);have a:=zh (fy w 100 #[.int .i64 l.id,.int .i64 l.unit,.string l.name,.string l.note,.slice A l.ext.length c] rfl);have j:=zh g0;have HV:=zh (λ(hv:BO l t=true)=>EI l t hv);have HZ:=zh (λw' (g:Grew w w')=>M7 A c l w' (HL.hold g) hs);have p:=zh (λw' (g:Grew w w')=>LC A c l t w' (HL.hold g) hs);clear h g0;cases ho:okT t with
 | false=>
   have HO:=zh ho;have q:=L7 l t 0 ho;have r:=zh q;have HE:=zh (show Cw l t=⟨#[]⟩ from by unfold Cw;rw [if_neg (by rw [ho];simp),if_neg (by rw [q];simp)]);clear ho q;go_enter Tryz.func145,Tryz.ntmps145;go_wp2_with fail;refine (BX _ _).mono ?_;rintro e w1 ⟨rfl,rfl⟩;rw [HO.out];go_wp2_with fail;refine (p _ j).mono ?_;rintro e w2 ⟨rfl,g2⟩;rw [r.out];go_wp2_with fail;go_ret;exact ⟨GX (by rw [HE.out]),j.out.trans g2⟩
 | true=>
   have HO:=zh ho;clear ho;cases hz:eqL l BH with
   | true=>
     have o:=zh hz;have HE:=zh (show Cw l t=Ef 1024 ⟨#[]⟩ from by unfold Cw;rw [if_pos ⟨HO.out,hz⟩]);clear hz;go_enter Tryz.func145,Tryz.ntmps145;go_wp2_with fail;refine (BX _ _).mono ?_;rintro e w1 ⟨rfl,rfl⟩;rw [HO.out];go_wp2_with fail;refine (HZ _ j).mono ?_;rintro e w2 ⟨rfl,g2⟩;rw [o.out];go_wp2_with fail;refine (Iq ⟨#[]⟩ w2 qd).mono ?_;rintro e w3 ⟨rfl,g3⟩;go_wp2_with fail;go_ret;exact ⟨GX (by rw [HE.out]),(j.out.trans g2).trans g3⟩
   | false=>
     have o:=zh hz;clear hz;cases hv:BO l t with
     | false=>
       have r:=zh hv;have HE:=zh (show Cw l t=⟨#[]⟩ from by unfold Cw;rw [if_neg (by rw [o.out];simp),if_neg (by rw [hv];simp)]);clear hv;go_enter Tryz.func145,Tryz.ntmps145;go_wp2_with fail;refine (BX _ _).mono ?_;rintro e w1 ⟨rfl,rfl⟩;rw [HO.out];go_wp2_with fail;refine (HZ _ j).mono ?_;rintro e w2 ⟨rfl,g2⟩;rw [o.out];have I:=(a.grew g2).lt;have x0:=(a.grew g2).cell 0;have x1:=(a.grew g2).cell 1;have x2:=(a.grew g2).cell 2;have x3:=(a.grew g2).cell 3;have x4:=(a.grew g2).cell 4;go_wp2_with fail;refine (p _ (j.out.trans g2)).mono ?_;rintro e w3 ⟨rfl,g3⟩;rw [r.out];go_wp2_with fail;go_ret;exact ⟨GX (by rw [HE.out]),(j.out.trans g2).trans g3⟩
     | true=>
       have N:=zh hv;have HE:=zh (show Cw l t=Ef 1024 (II l++EK l.ext) from by unfold Cw;rw [if_neg (by rw [o.out];simp),if_pos hv]);obtain ⟨⟨v1,v2,v3,v4⟩,⟨v5,v6⟩,⟨v7,v8⟩,vj⟩:=HV.out hv;have O:=zh (Yb l vj);clear hv vj;go_enter Tryz.func145,Tryz.ntmps145;go_wp2_with fail;refine (BX _ _).mono ?_;rintro e w1 ⟨rfl,rfl⟩;rw [HO.out];go_wp2_with fail;refine (HZ _ j).mono ?_;rintro e w2 ⟨rfl,g2⟩;rw [o.out];have I:=(a.grew g2).lt;have x0:=(a.grew g2).cell 0;have x1:=(a.grew g2).cell 1;have x2:=(a.grew g2).cell 2;have x3:=(a.grew g2).cell 3;have x4:=(a.grew g2).cell 4;go_wp2_with fail;refine (p _ (j.out.trans g2)).mono ?_;rintro e w3 ⟨rfl,g3⟩;rw [N.out];have hG:=g2.trans g3;clear g2 g3 x0 x1 x2 x3 x4 I HZ p;obtain ⟨id,unit,name,note,ext⟩:=l;simp only at v1 v2 v3 v4 v5 v6 v7 v8;obtain ⟨d,rfl⟩:=Int.eq_ofNat_of_zero_le (show 0<=id by omega);obtain ⟨un,rfl⟩:=Int.eq_ofNat_of_zero_le v3;have HB:=zh (show Blk (w.alloc (.cells #[.int .i64 (d:Int),.int .i64 (un:Int),.string name,.string note,.slice A ext.length c] 100)) w.heap.size 100 #[.int .i64 (d:Int),.int .i64 (un:Int),.string name,.string note,.slice A ext.length c] from a.out);have P:=zh (show LabAt w A c ⟨(d:Int),(un:Int),name,note,ext⟩ from HL.out);have Q:=zh (show II ⟨(d:Int),(un:Int),name,note,ext⟩=eB d++(eB un++(eB name.size++(name++(eB note.size++(note++eB ext.length))))) from rfl);have al:=zh (M5 ⟨(d:Int),(un:Int),name,note,ext⟩ v5 v6);have R:=zh (λk=>NT (ext.take k));clear a HL M;have s0:=Bf d;have s1:=Bf un;have s2:=Bf name.size;have s3:=Bf note.size;have s4:=Bf ext.length;have m:=(HB.grew hG).lt;have x0:=(HB.grew hG).cell 0;go_wp2_with fail;refine (B8 ⟨#[]⟩ d _ oo qd).mono ?_;rintro e ws ⟨rfl,gs⟩;replace hG:=hG.trans gs;obtain ⟨S1,D⟩:∃S1:ByteArray,S1=⟨#[]⟩++⟨(enc d).toArray⟩:=⟨_,rfl⟩;rw [<-D];have s:=zh (show S1=eB d from D.trans (by rw [L1];rfl));have S:S1.size<=10:=by rw [s.out];(try simp only [f8]);omega
       clear gs D m x0;have m:=(HB.grew hG).lt;have x1:=(HB.grew hG).cell 1;go_wp2_with fail;refine (B8 S1 un _ oo oo).mono ?_;rintro e ws ⟨rfl,gs⟩;replace hG:=hG.trans gs;obtain ⟨S2,E⟩:∃S2:ByteArray,S2=S1++⟨(enc un).toArray⟩:=⟨_,rfl⟩;rw [<-E];have u:=zh (show S2=S1++eB un from E.trans (rfl));have T:S2.size<=20:=by rw [u.out];(try simp only [f8]);omega
       clear gs E m x1;have m:=(HB.grew hG).lt;have x2:=(HB.grew hG).cell 2;go_wp2_with fail;refine (F0 S2 name _ oo oo).mono ?_;rintro e ws ⟨rfl,gs⟩;replace hG:=hG.trans gs;obtain ⟨S3,F⟩:∃S3:ByteArray,S3=S2++⟨(enc name.size).toArray⟩++name:=⟨_,rfl⟩;rw [<-F];have x:=zh (show S3=S2++eB name.size++name from F.trans (rfl));have W:S3.size<=61:=by rw [x.out];(try simp only [f8]);omega
       clear gs F m x2;have m:=(HB.grew hG).lt;have x3:=(HB.grew hG).cell 3;go_wp2_with fail;refine (F0 S3 note _ oo oo).mono ?_;rintro e ws ⟨rfl,gs⟩;replace hG:=hG.trans gs;obtain ⟨S4,G⟩:∃S4:ByteArray,S4=S3++⟨(enc note.size).toArray⟩++note:=⟨_,rfl⟩;rw [<-G];have y:=zh (show S4=S3++eB note.size++note from G.trans (rfl));have X:S4.size<=471:=by rw [y.out];(try simp only [f8]);omega
       clear gs G m x3;have m:=(HB.grew hG).lt;have x4:=(HB.grew hG).cell 4;go_wp2_with fail;refine (B8 S4 ext.length _ oo oo).mono ?_;rintro e ws ⟨rfl,gs⟩;replace hG:=hG.trans gs;obtain ⟨S5,H⟩:∃S5:ByteArray,S5=S4++⟨(enc ext.length).toArray⟩:=⟨_,rfl⟩;rw [<-H];have z:=zh (show S5=S4++eB ext.length from H.trans (rfl));have an:S5.size<=481:=by rw [z.out];(try simp only [f8]);omega
       clear gs H m x4
       have HS:=zh (show S5=II ⟨(d:Int),(un:Int),name,note,ext⟩ from by
        rw [Q.out,z.out,y.out,x.out,u.out,s.out];simp only [im])
       clear s u x y z s0 s1 s2 s3 s4 S T W X;have m:=(HB.grew hG).lt;have x4:=(HB.grew hG).cell 4;go_wp2_with fail;obtain ⟨wl,K⟩:∃wl,wl=ws:=⟨_,rfl⟩;rw [<-K] at hG ⊢;clear K
       go_loopg [5,46] ext.length (λgk v i wr=>∃k:Nat,k<=ext.length/\gk=ext.length - k/\i=.int .i64 k/\v=.string (S5++EK (ext.take k))/\Grew (w.alloc (.cells #[.int .i64 (d:Int),.int .i64 (un:Int),.string name,.string note,.slice A ext.length c] 100)) wr)
       case atStart=>exact ⟨0,oo,oo,rfl,by rw [take_zero];show _=Value.string (S5++ByteArray.empty);rw [jA],hG⟩
       case round=>
        obtain ⟨k,hk,L,rfl,rfl,hg⟩:=hrel;have Y:=zh L;have J:=R.out k;rw [iX] at J;obtain ⟨U,hU⟩:∃U,S5++EK (ext.take k)=U:=⟨_,rfl⟩;have av:U.size<=801:=by rw [<-hU,f8];omega
        rw [hU];have HU:=zh hU;clear L J hU;by_cases C:k<ext.length
        . obtain ⟨b,a0,f,n,rfl,hb,hv,ae,c0,c1⟩:=((P.hold j).hold hg).runs.at_ C;have B:=O.out ext[k] (fq C);rw [hv] at B;simp only at B;obtain ⟨q0,q1,q2⟩:=B;obtain ⟨fn,rfl⟩:=Int.eq_ofNat_of_zero_le q0;obtain ⟨nn,rfl⟩:=Int.eq_ofNat_of_zero_le q1
          have Z:=zh (show S5++EK (ext.take (k+1))=U++eB fn++eB nn from by
           rw [fr C,UJ,hv,<-im,HU.out]
           show U++(eB fn++eB nn)=_
           rw [im])
          have z0:=Bf fn;obtain ⟨wm,aj⟩:∃wm,wm=wr:=⟨_,rfl⟩;subst aj;have HR:=zh (fy wm 136 #[.int .i64 (fn:Int),.int .i64 (nn:Int)] rfl);clear hv ae;go_wp2_with fail;refine AB [] (λw':World=>w'.cell? ⟨wm.heap.size,0,none⟩=some (.int .i64 (fn:Int))/\w'.cell? ⟨wm.heap.size,1,none⟩=some (.int .i64 (nn:Int))) qk ?_;have hS:=(show (λw':World=>w'.cell? ⟨wm.heap.size,0,none⟩=some (.int .i64 (fn:Int))/\w'.cell? ⟨wm.heap.size,1,none⟩=some (.int .i64 (nn:Int))) _ from ⟨HR.drew.cell 0,HR.drew.cell 1⟩);refine tQ 0 50 ?_;refine tQ 1 51 ?_;refine tT 2 (some 52) hS ?_;refine tT 3 (some 53) hS ?_;refine tQ 5 55 ?_;refine tT 6 (some 56) hS ?_;refine tT 7 (some 57) hS ?_;refine tO 4 λK' hK=>?_;go_wp2_with fail;refine (B8 U fn _ oo oo).mono ?_;rintro e w4 ⟨rfl,g4⟩;obtain ⟨V,hV⟩:∃V:ByteArray,V=U++⟨(enc fn).toArray⟩:=⟨_,rfl⟩;rw [<-hV];have HV:=zh (show V=U++eB fn from hV);have zV:V.size<=811:=by rw [HV.out,f8];omega
          clear hV;go_wp2_with fail;refine hK.out _ _ (.inr (λ_=>⟨(HR.drew.grew g4).cell 0,(HR.drew.grew g4).cell 1⟩)) ?_;clear hK hS;refine tO 8 λK' hK=>?_;go_wp2_with fail;refine (B8 V nn _ oo oo).mono ?_;rintro e w5 ⟨rfl,g5⟩;go_wp2_with fail;refine hK.out _ _ (.inr (λ_=>⟨((HR.drew.grew g4).grew g5).cell 0,((HR.drew.grew g4).grew g5).cell 1⟩)) ?_;clear hK;have aa:=((hg.alloc (.cells #[.int .i64 (fn:Int),.int .i64 (nn:Int)] 136)).drew.trans g4).trans g5;refine tQ 9 5 ?_;refine AA qk ?_ _;go_wp2_with fail
          go_roundg (ext.length - (k+1))
          case measure=>rw [Y.out];omega
          case rel=>exact ⟨k+1,oo,oo,by go_num,by rw [Z.out,<-HV.out];rfl,aa⟩
        . obtain rfl:k=ext.length:=oo
          have ad:=zh (show Cw ⟨(d:Int),(un:Int),name,note,ext⟩ t=Ef 1024 U from by
           rw [HE.out]
           show Ef 1024 (II _++EK ext)=_
           rw [<-HS.out,<-HU.out,i8])
          go_wp2_with fail;refine (Iq U _ oo).mono ?_;rintro e w6 ⟨rfl,g6⟩;go_wp2_with fail;go_ret;exact ⟨GX (by rw [ad.out]),(j.out.trans hg).trans g6⟩

end
section
open Go.RowKit
theorem Ly (a b:List UInt8):(⟨(a++b).toArray⟩:ByteArray).extract a.length (⟨(a++b).toArray⟩:ByteArray).size=⟨b.toArray⟩:=by
 rw [Lib.extract_eq];congr 2;simp only [];rw [drop_left];apply gP;show b.length<=(a++b).toArray.size - a.length;simp
theorem SZ (a b:List UInt8):(⟨(a++b).toArray⟩:ByteArray).extract 0 a.length=⟨a.toArray⟩:=by
 rw [Lib.extract_eq];congr 2;simp
theorem ZE (n:Nat) (a:List UInt8) (h:n<18446744073709551616):GP ⟨(enc n++a).toArray⟩ 0=(n,⟨a.toArray⟩,0):=by
 have hd:=dB n a h;have hp:=dS n;have b:dec (⟨(enc n++a).toArray⟩:ByteArray).data.toList=(n,((enc n).length - 1)+1):=by rw [show (enc n).length - 1+1=(enc n).length from oo];exact hd
 rw [Xa _ n _ b,show (enc n).length - 1+1=(enc n).length from oo,Ly]
theorem FN (n:Nat) (a:List UInt8) (most:Int) (h:n<18446744073709551616) (hm:(n:Int)<=most):CH ⟨(enc n++a).toArray⟩ 0 most=(n,⟨a.toArray⟩,0):=by
 rw [CH,ZE n a h,if_neg qs,if_neg (by simp;omega)]
theorem Ni (t a:List UInt8) (most:Int) (h:t.length<18446744073709551616) (hm:(t.length:Int)<=most):IM ⟨(enc t.length++(t++a)).toArray⟩ 0 most=(⟨t.toArray⟩,⟨a.toArray⟩,0):=by
 rw [IM,FN _ _ _ h hm,if_neg qs];have b:(⟨(t++a).toArray⟩:ByteArray).size=t.length+a.length:=by show (t++a).toArray.size=_;simp
 rw [if_neg (by simp only [b];omega)];simp only [];rw [SZ,Ly]
theorem Vd (s:ByteArray):(⟨s.data.toList.toArray⟩:ByteArray)=s:=Lib.mk_data s
def Kr:List (Int × Int)->List UInt8
 | []=>[]
 | r::l=>enc r.1.toNat++(enc r.2.toNat++Kr l)
theorem VF (l:List (Int × Int)):(EK l).data.toList=Kr l:=by
 induction l with
 | nil=>rfl
 | cons r l ih=>
   show (rB r++EK l).data.toList=_;unfold rB eB;simp only [ByteArray.data_append,Array.toList_append,ih];simp [Kr]
def bX (l:Lab) (z:Nat):List UInt8:=enc l.id.toNat++(enc l.unit.toNat++(enc l.name.size++(l.name.data.toList++(enc l.note.size++(l.note.data.toList++(enc l.ext.length++(Kr l.ext++List.replicate z 0)))))))
theorem bE (l:Lab):(Ef 1024 (II l++EK l.ext)).data.toList=bX l (1024 - (II l++EK l.ext).size):=by
 unfold Ef II bX FB eB;simp only [ByteArray.data_append,Array.toList_append,VF];simp
theorem F6 {a b:ByteArray} (h:a.data.toList=b.data.toList):a=b:=by
 apply ByteArray.ext;exact Array.toList_inj.1 h
theorem Nt (l:Lab) (t:Int) (h:BO l t=true):Cw l t=Ef 1024 (II l++EK l.ext):=by
 have hz:eqL l BH=false:=by
  obtain ⟨⟨v1,_⟩,_⟩:=EI l t h;unfold eqL BH;simp only;rw [show (l.id==0)=false from gF.2 oo];rfl
 unfold Cw;rw [if_neg (by rw [hz];simp),if_pos h]
theorem I4 (l k:Lab):eqL l k=true↔l=k:=by
 obtain ⟨i1,u1,n1,t1,e1⟩:=l;obtain ⟨i2,u2,n2,t2,e2⟩:=k;unfold eqL;simp only [gZ,iy,gm,Lab.mk.injEq];constructor
 . rintro ⟨h1,h2,h3,h4,h5⟩;exact ⟨h1,h2,F6 (by simpa [ByteArray.toList_eq] using h3),F6 (by simpa [ByteArray.toList_eq] using h4),h5⟩
 . rintro ⟨rfl,rfl,rfl,rfl,rfl⟩;exact ⟨rfl,rfl,rfl,rfl,rfl⟩

end
section
attribute [local go_sem ↓] Go.wp_at_zero Go.wp_at_succ
open Go.RowKit
def N2 (n:Nat):Bool:=decide (65<=n/\n<=90) || decide (48<=n/\n<=57)
def JS (s:ByteArray):Prop:=1<=s.size/\s.size<=8/\(∀j (hj:j<s.size),N2 s[j].toNat=true)/\∀_h:0<s.size,65<=s[0].toNat
instance (s:ByteArray):Decidable (JS s):=by unfold JS;exact inferInstance
def Cj (s:ByteArray):Bool:=decide (JS s)
theorem Iw {s:ByteArray} (h:¬JS s):Cj s=false:=gE h
theorem Tq {s:ByteArray} (h:JS s):Cj s=true:=gD h
theorem TK (n:Nat):(N2 n=true/\65<=n/\n<=90)\/(N2 n=true/\48<=n/\n<=57)\/(N2 n=false/\n<48)\/(N2 n=false/\57<n/\n<65)\/(N2 n=false/\90<n):=by
 unfold N2;by_cases h1:65<=n/\n<=90
 . exact .inl ⟨by simp [h1],h1⟩
 . by_cases h2:48<=n/\n<=57
   . exact .inr (.inl ⟨by simp [h2],h2⟩)
   . have e:(decide (65<=n/\n<=90) || decide (48<=n/\n<=57))=false:=by rw [gE h1,gE h2];rfl
     by_cases h3:n<48
     . exact .inr (.inr (.inl ⟨e,h3⟩))
     . by_cases h4:n<65
       . exact .inr (.inr (.inr (.inl ⟨e,oo,h4⟩)))
       . exact .inr (.inr (.inr (.inr ⟨e,oo⟩)))
theorem CX (s:ByteArray) (w:World) (hs:s.size<=9223372036854775807):
 Calls Tryz.prog 124 #[.string s] w λe w'=>e=.returned (.bool (Cj s))/\w=w':=by
 by_cases h0:s.size<1
 . have HE:=zh (Iw (s:=s) (λh=>by have:=h.1;omega));go_enter Tryz.func124,Tryz.ntmps124;go_wp2_with fail;go_ret;exact ⟨AE (by rw [HE.out]),rfl⟩
 by_cases h8:s.size>8
 . have HE:=zh (Iw (s:=s) (λh=>by have:=h.2.1;omega));go_enter Tryz.func124,Tryz.ntmps124;go_wp2_with fail;go_ret;exact ⟨AE (by rw [HE.out]),rfl⟩
 have d:0<s.size:=oo;by_cases hc:s[0].toNat<65
 . have HE:=zh (Iw (s:=s) (λh=>by have:=h.2.2.2 d;omega));go_enter Tryz.func124,Tryz.ntmps124;go_wp2_with fail;go_ret;exact ⟨AE (by rw [HE.out]),rfl⟩
 go_enter Tryz.func124,Tryz.ntmps124;go_wp2_with fail;have HC:=zh hc;clear hc
 go_loopg [20] s.size (λgk i wr=>w=wr/\∃k:Nat,k<=s.size/\gk=s.size - k/\i=.int .i64 k/\∀j (hj:j<s.size),j<k->N2 s[j].toNat=true)
 case atStart=>exact ⟨rfl,0,oo,oo,rfl,λj hj h=>oo⟩
 case round=>
  obtain ⟨rfl,k,hk,b,rfl,c⟩:=hrel;have a:=zh b;have HA:=zh c;clear b c;by_cases f:k<s.size
  . have HN:=zh (show N2 s[k].toNat=true->∀j (hj:j<s.size),j<k+1->N2 s[j].toNat=true from λhz j hj hjk=>by
     by_cases g:j=k
     . subst g;exact hz
     . exact HA.out j hj oo)
    have HF:=zh (show N2 s[k].toNat=false->Cj s=false from λhz=>Iw (λh=>by have:=h.2.2.1 k f;rw [hz] at this;cases this));rcases TK s[k].toNat with ⟨hz,a1,a2⟩ | ⟨hz,a1,a2⟩ | ⟨hz,a1⟩ | ⟨hz,a1,a2⟩ | ⟨hz,a1⟩
    . replace HN:=zh (HN hz);clear hz HF;go_wp2_with fail
      go_roundg (s.size - (k+1))
      case measure=>rw [a.out];omega
      case rel=>exact ⟨rfl,k+1,oo,oo,by go_num,HN⟩
    . replace HN:=zh (HN hz);clear hz HF;go_wp2_with fail
      go_roundg (s.size - (k+1))
      case measure=>rw [a.out];omega
      case rel=>exact ⟨rfl,k+1,oo,oo,by go_num,HN⟩
    . replace HF:=zh (HF hz);clear hz HN;go_wp2_with fail;go_ret;exact ⟨AE (by rw [HF.out]),rfl⟩
    . replace HF:=zh (HF hz);clear hz HN;go_wp2_with fail;go_ret;exact ⟨AE (by rw [HF.out]),rfl⟩
    . replace HF:=zh (HF hz);clear hz HN;go_wp2_with fail;go_ret;exact ⟨AE (by rw [HF.out]),rfl⟩
  . have HE:=zh (show Cj s=true from Tq ⟨oo,oo,λj hj=>HA.out j hj oo,λ_=>by have:=HC.out;omega⟩);go_wp2_with fail;go_ret;exact ⟨AE (by rw [HE.out]),rfl⟩

def CG (s:ByteArray) (t:Int):ByteArray:=if Cj s=true/\okT t=true then Ef 1024 (eB s.size++s++eB t.toNat) else ⟨#[]⟩
theorem Lo (s:ByteArray) (t:Int) (w:World) (hs:s.size<=9223372036854775807):
 Calls Tryz.prog 144 #[.string s,.int .i64 t] w λe w'=>e=.returned (.string (CG s t))/\Grew w w':=by
 cases hn:Cj s with
 | false=>
   have HE:=zh (show CG s t=⟨#[]⟩ from by unfold CG;rw [if_neg (by rw [hn];simp)]);have HN:=zh hn;clear hn;go_enter Tryz.func144,Tryz.ntmps144;go_wp2_with fail;refine (CX s _ hs).mono ?_;rintro e w1 ⟨rfl,rfl⟩;rw [HN.out];go_wp2_with fail;go_ret;exact ⟨GX (by rw [HE.out]),gG⟩
 | true=>
   have hp:JS s:=gV hn;have f:s.size<=8:=hp.2.1;clear hp;have HN:=zh hn;cases ho:okT t with
   | false=>
     have HE:=zh (show CG s t=⟨#[]⟩ from by unfold CG;rw [if_neg (by rw [ho];simp)]);have HO:=zh ho;clear ho hn;go_enter Tryz.func144,Tryz.ntmps144;go_wp2_with fail;refine (CX s _ hs).mono ?_;rintro e w1 ⟨rfl,rfl⟩;rw [HN.out];go_wp2_with fail;refine (BX _ _).mono ?_;rintro e w1 ⟨rfl,rfl⟩;rw [HO.out];go_wp2_with fail;go_ret;exact ⟨GX (by rw [HE.out]),gG⟩
   | true=>
     have hb:=B0 ho;obtain ⟨n,rfl⟩:∃n:Nat,t=(n:Int):=⟨t.toNat,oo⟩;have HE:=zh (show CG s (n:Int)=Ef 1024 (eB s.size++s++eB n) from by unfold CG;rw [if_pos ⟨hn,ho⟩];rfl);have HO:=zh ho;clear ho hn;have g:n<=128:=oo;clear hb;have z1:=Bf s.size;have z2:=Bf n;go_enter Tryz.func144,Tryz.ntmps144;go_wp2_with fail;refine (CX s _ hs).mono ?_;rintro e w1 ⟨rfl,rfl⟩;rw [HN.out];go_wp2_with fail;refine (BX _ _).mono ?_;rintro e w1 ⟨rfl,rfl⟩;rw [HO.out];go_wp2_with fail;refine (F0 ⟨#[]⟩ s _ qd oo).mono ?_;rintro e ws ⟨rfl,g1⟩;obtain ⟨S1,a⟩:∃S1:ByteArray,S1=⟨#[]⟩++⟨(enc s.size).toArray⟩++s:=⟨_,rfl⟩;rw [<-a];have c:=zh (show S1=eB s.size++s from a.trans (by rw [L1];rfl));have h:S1.size<=18:=by rw [c.out];(try simp only [f8]);omega
     clear a;go_wp2_with fail;refine (B8 S1 n _ oo oo).mono ?_;rintro e j ⟨rfl,g2⟩;obtain ⟨S2,b⟩:∃S2:ByteArray,S2=S1++⟨(enc n).toArray⟩:=⟨_,rfl⟩;rw [<-b];have d:=zh (show S2=S1++eB n from b.trans rfl);have i:S2.size<=28:=by rw [d.out];(try simp only [f8]);omega
     clear b;go_wp2_with fail;refine (Iq S2 _ oo).mono ?_;rintro e k ⟨rfl,g3⟩;go_wp2_with fail;go_ret;exact ⟨GX (by rw [HE.out,d.out,c.out]),(g1.trans g2).trans g3⟩

end
section
open Go.ChangeShapes Go.WideShapes Go.ChangeAt Go.RowKit Go.Deep
section
variable {H:Type} {enc:TypeId × Value->H} {P:Program} {w:World}
theorem Ja {α:Type} [Inhabited α] {t e:Nat} {sz fuel:Nat} {v:Value} {x0:DataW H × List MemPlace} (ht:P.underlying t=some (.slice e)) (B:P.cellsOf e=sz) (z:0<sz) (f:α->List Value) (Pr:α->Prop)
 (u:∀n cs y,cs.length=sz->DataW.trod enc P w 0 (λ_=>true) true n e cs=some y->∃a,Pr a/\cs=f a)
 (hf:DataW.trod enc P w 0 (λ_=>true) true fuel t [v]=some x0):
 ∃A c,∃l:List α,v=.slice A l.length c/\l.length<=c/\c<=9223372036854775807/\(∀a∈l,Pr a)/\ListAt w w.heap.size sz A (l.map f):=by
 obtain ⟨A,n,c,rfl⟩:∃A n c,v=.slice A n c:=by
  rcases open_slice ht hf with ⟨h0,_⟩ | ⟨a,len,cap,m,n',D,Pl,d,_⟩
  . exact ⟨none,0,0,by injection h0⟩
  . exact ⟨some a,len,cap,by injection d⟩
 rcases open_slice ht hf with ⟨h0,_⟩ | ⟨a,len,cap,m,n',D,Pl,d,hb,hl,hm,O,hx,hi⟩
 . simp only [cons.injEq,and_true] at h0;injection h0 with h1 h2 h3;subst h1;subst h2;subst h3;exact ⟨none,0,[],rfl,qs,qs,qs,λh=>absurd h qs⟩
 . simp only [cons.injEq,and_true] at d;injection d with h1 h2 h3;subst h1;subst h2;subst h3;rw [if_pos rfl] at O;have Q:n<=m:=oo
   have C:∀i,i<n->∃x:α,Pr x/\∃cs,cs=f x/\cs.length=sz/\w.cells? 0 (a.add (i*sz)) sz=some cs:=λi hin=>by
    obtain ⟨p,hc,G⟩:=hi i oo;rw [B] at hc;have k:=(World.cells?_some hc).2.1;obtain ⟨x,hp,d⟩:=u n' p _ k G;exact ⟨x,hp,p,d,k,hc⟩
   obtain ⟨g,hg⟩:=choose_lt C;refine ⟨some a,c,(List.range n).map g,qs,by simpa using hl,by unfold maxLen at hm;simpa using hm,?_,λh0=>?_⟩
   . intro x hx;rw [ft] at hx;obtain ⟨i,I,rfl⟩:=hx;exact (hg i (gU.1 I)).1
   . have hn:0<n:=by simpa using h0
     obtain ⟨_,q,R,S,J⟩:=hg 0 hn;have h1:=(World.cells?_some J).2.2 0 z;rw [Nat.zero_mul] at h1;have E:q[0]? =some q[0]:=fg oo;have ha:(a.add 0).add 0=a:=by simp [Addr.add]
     rw [ha,E] at h1;obtain ⟨r,s⟩:=MV h1;obtain ⟨b,K,sp⟩:=a;simp only at s r;subst s;refine ⟨b,K,rfl,r,λj cs hj i v hiv=>?_⟩
     have o:j<n:=by
      rcases iQ j n with h | h
      . exact h
      . rw [iU (by simpa using h)] at hj;cases hj
     obtain ⟨_,L,M,T,N⟩:=hg j o
     have d:cs=L:=by
      simp [fo,ic,o] at hj;rw [<-hj,M]
     subst d
     have F:i<sz:=by
      rcases iQ i cs.length with h | h
      . omega
      . rw [iU h] at hiv;cases hiv
     have h2:=(World.cells?_some N).2.2 i F;rw [EO,EO] at h2;rw [h2,hiv]
end
section
variable {H:Type} {enc:TypeId × Value->H} {w:World}
theorem TG {fuel:Nat} {v:Value} {x0:DataW H × List MemPlace} (hf:DataW.trod enc Tryz.prog w 0 (λ_=>true) true fuel 33 [v]=some x0):
 ∃A c,∃l:List (Int × Int),v=.slice A l.length c/\l.length<=c/\c<=9223372036854775807/\RunsAt w w.heap.size A l:=by
 obtain ⟨A,c,l,rfl,h1,h2,h3,h4⟩:=Ja (α:=Int × Int) (sz:=2) Tryz.underlying33 qk oo FW GN (λn cs y hlen h=>by
  have hf:=Dv Tryz.underlying136 qk h
  obtain ⟨v0,_,_,e0,f0⟩:=hf 0 _ rfl oo
  obtain ⟨v1,_,_,e1,f1⟩:=hf 1 _ rfl oo
  obtain ⟨n0,a,_,w0⟩:=iW Tryz.underlying3 f0
  obtain ⟨n1,b,_,w1⟩:=iW Tryz.underlying3 f1
  injection a with a _
  injection b with b _
  subst a;subst b
  have b0:=wf_i64 w0
  have b1:=wf_i64 w1
  refine ⟨(n0,n1),⟨b0.1,b0.2,b1.1,b1.2⟩,?_⟩
  match cs,hlen with
  | [x0,x1],_=>
    simp at e0 e1
    rw [e0,e1]
    rfl) hf
 exact ⟨A,c,l,rfl,h1,h2,h3,h4⟩
end

end
section
open Go.RowKit
theorem Fp (n:Nat) (s:ByteArray) (h:s.size<=n):(Ef n s).size=n:=by
 unfold Ef;rw [f8,ND];omega

end
section
attribute [local go_sem ↓] Go.wp_at_zero Go.wp_at_succ
open Go.RowKit
def rdK (m:Int) (s:ByteArray) (e:Int):Nat->List (Int × Int) × ByteArray × Int
 | 0=>([],s,e)
 | k+1=>((rdK m s e k).1++[(((CH (rdK m s e k).2.1 (rdK m s e k).2.2 m).1:Int),((CH (CH (rdK m s e k).2.1 (rdK m s e k).2.2 m).2.1 (CH (rdK m s e k).2.1 (rdK m s e k).2.2 m).2.2 128).1:Int))],
    (CH (CH (rdK m s e k).2.1 (rdK m s e k).2.2 m).2.1 (CH (rdK m s e k).2.1 (rdK m s e k).2.2 m).2.2 128).2.1,(CH (CH (rdK m s e k).2.1 (rdK m s e k).2.2 m).2.1 (CH (rdK m s e k).2.1 (rdK m s e k).2.2 m).2.2 128).2.2)
theorem dp (m:Int) (s:ByteArray) (e:Int) (k:Nat):(rdK m s e k).1.length=k:=by
 induction k with
 | zero=>rfl
 | succ k ih=>show ((rdK m s e k).1++[_]).length=_;rw [gK,ih];rfl
theorem Y8 (m:Int) (s:ByteArray) (e:Int) (k:Nat):(rdK m s e k).2.1.size<=s.size:=by
 induction k with
 | zero=>exact fk _
 | succ k ih=>exact fx (DL _ _ _) (fx (DL _ _ _) ih)
def rI (s:ByteArray):=CH s 0 1099511627776
def rU (s:ByteArray):=CH (rI s).2.1 (rI s).2.2 1099511627776
def rN (s:ByteArray):=IM (rU s).2.1 (rU s).2.2 31
def rT (s:ByteArray):=IM (rN s).2.1 (rN s).2.2 400
def rC (s:ByteArray):=CH (rT s).2.1 (rT s).2.2 16
def rL (m:Int) (s:ByteArray):Lab:=⟨((rI s).1:Int),((rU s).1:Int),(rN s).1,(rT s).1,(rdK m (rC s).2.1 (rC s).2.2 (rC s).1).1⟩
def rE (m:Int) (s:ByteArray):Int:=(rdK m (rC s).2.1 (rC s).2.2 (rC s).1).2.2
theorem Fg (s:ByteArray) (e most:Int) (h0:0<=most):((CH s e most).1:Int)<=most:=by
 unfold CH;split
 . exact h0
 . split
   . exact h0
   . rename_i h;show ((GP s e).1:Int)<=most;omega
theorem S9 {m:Int} {s s1 s2 s3:ByteArray} {e e1 e2 e3:Int} {k a b:Nat} {L:List (Int × Int)} (h:rdK m s e k=(L,s1,e1)) (h1:CH s1 e1 m=(a,s2,e2)) (h2:CH s2 e2 128=(b,s3,e3)):
 rdK m s e (k+1)=(L++[((a:Int),(b:Int))],s3,e3):=by simp only [rdK,h,h1,h2]
theorem e8 (s:ByteArray) (e:Int) (k:Nat):∀r∈(rdK 128 s e k).1,GN r:=by
 induction k with
 | zero=>intro r hr;cases hr
 | succ k ih=>
   intro r hr;rcases gC.1 hr with hr | hr
   . exact ih r hr
   . rw [fp.1 hr];have h1:=Fg (rdK 128 s e k).2.1 (rdK 128 s e k).2.2 128 oo;have h2:=Fg (CH (rdK 128 s e k).2.1 (rdK 128 s e k).2.2 128).2.1 (CH (rdK 128 s e k).2.1 (rdK 128 s e k).2.2 128).2.2 128 oo;exact ⟨by show -9223372036854775808<=((_:Nat):Int);omega,by show ((_:Nat):Int)<=9223372036854775807;omega,by show -9223372036854775808<=((_:Nat):Int);omega,by show ((_:Nat):Int)<=9223372036854775807;omega⟩
def Dr (s:ByteArray) (t:Int):Lab × Int:=
 if okT t=false\/s.size≠1024 then (BH,11) else if s=Ef 1024 ⟨#[]⟩ then (BH,0)
 else if BO (rL 128 s) t=true/\Cw (rL 128 s) t=s then (rL 128 s,0) else (BH,11)
def fT (w:World) (d:Lab × Int) (e:Ending) (w':World):Prop:=∃A c,e=.returned (.tuple #[.agg #[.int .i64 d.1.id,.int .i64 d.1.unit,.string d.1.name,.string d.1.note,.slice A d.1.ext.length c],.int .i64 d.2])/\LabAt w' A c d.1/\Grew w w'/\∀b off,A=some ⟨b,off,none⟩->w.heap.size<=b
theorem Zh (w w':World) (n:Int) (h:Grew w w'):fT w (BH,n) (.returned (.tuple #[.agg #[.int .i64 0,.int .i64 0,.string ⟨#[]⟩,.string ⟨#[]⟩,.slice none 0 0],.int .i64 n])) w':=⟨none,0,rfl,LabAt.zero _,h,λb off e=>by cases e⟩
theorem Qi {a b:ByteArray} (h:¬a=b):(a.toList==b.toList)=false:=gF.2 (λe=>h (F6 (by simpa [ByteArray.toList_eq] using e)))
theorem Qf (s:ByteArray) (e most:Int):(IM s e most).1.size<=s.size:=by
 unfold IM;split
 . exact iB _
 . split
   . exact iB _
   . simp only [gO];have:=DL s e most;omega
theorem Ta (s:ByteArray) (t:Int) (w:World) (hs:s.size<=9223372036854775807) (t0:-9223372036854775808<=t) (t1:t<=9223372036854775807):
 Calls Tryz.prog 164 #[.string s,.int .i64 t] w (fT w (Dr s t)):=by
 have g0:=(fh w).alloc (.cells #[.int .i64 0,.int .i64 0,.string ⟨#[]⟩,.string ⟨#[]⟩,.slice none 0 0] 100);have a8:=zh g0;have R:=zh (fy w 100 #[.int .i64 0,.int .i64 0,.string ⟨#[]⟩,.string ⟨#[]⟩,.slice none 0 0] rfl);clear g0;cases ho:okT t with
 | false=>
   have HO:=zh ho;have HE:=zh (show Dr s t=(BH,11) from by unfold Dr;rw [if_pos (.inl ho)]);clear ho;go_enter Tryz.func164,Tryz.ntmps164;go_wp2_with fail;refine (BX _ _).mono ?_;rintro e w1 ⟨rfl,rfl⟩;rw [HO.out];go_wp2_with fail;refine f7 (by first | (simp [*,results,Tryz.results164,go_sem];rfl) | simp [*,results,Tryz.results164,go_sem]) rfl ?_;rw [HE.out];exact Zh _ _ _ (gG)
 | true=>
   have HO:=zh ho;by_cases hz:s.size=1024;rotate_left
   . have cb:((s.size:Int) != 1024)=true:=by rw [gu];omega
     have HE:=zh (show Dr s t=(BH,11) from by unfold Dr;rw [if_pos (.inr hz)]);clear ho hz;go_enter Tryz.func164,Tryz.ntmps164;go_wp2_with fail;refine (BX _ _).mono ?_;rintro e w1 ⟨rfl,rfl⟩;rw [HO.out];go_wp2_with fail;refine f7 (by first | (simp [*,results,Tryz.results164,go_sem];rfl) | simp [*,results,Tryz.results164,go_sem]) rfl ?_;rw [HE.out];exact Zh _ _ _ (gG)
   have cb:((s.size:Int) != 1024)=false:=by rw [jZ];omega
   have da:=zh hz;have dd:s.size<=1024:=oo;obtain ⟨ZZ,l⟩:∃ZZ,Ef 1024 ⟨#[]⟩=ZZ:=⟨_,rfl⟩;have df:=zh l;by_cases u:s=ZZ
   . have HE:=zh (show Dr s t=(BH,0) from by unfold Dr;rw [if_neg (by rw [ho];simp [hz]),if_pos (by rw [l];exact u)]);have y:=λw=>zh (Iq ⟨#[]⟩ w qd);rw [l,<-u] at y;clear ho hz l u;go_enter Tryz.func164,Tryz.ntmps164;go_wp2_with fail;refine (BX _ _).mono ?_;rintro e w1 ⟨rfl,rfl⟩;rw [HO.out];go_wp2_with fail;refine (y _).out.mono ?_;rintro e w2 ⟨rfl,g2⟩;have a:=R.grew g2;have z0:=a.cell 0;have f0:=a.frozen 0;have z1:=a.cell 1;have f1:=a.frozen 1;have z2:=a.cell 2;have f2:=a.frozen 2;have z3:=a.cell 3;have f3:=a.frozen 3;have z4:=a.cell 4;have f4:=a.frozen 4;have m:=a.lt;go_wp2_with fail;refine f7 (by first | (simp [*,results,Tryz.results164,go_sem];rfl) | simp [*,results,Tryz.results164,go_sem]) rfl ?_;rw [HE.out];exact Zh _ _ _ (gG)
   have dk:=Qi u;have y:=λw=>zh (Iq ⟨#[]⟩ w qd);rw [l] at y
   have S:=zh (show Dr s t=if BO (rL 128 s) t=true/\Cw (rL 128 s) t=s then (rL 128 s,0) else (BH,11) from by
    unfold Dr;rw [if_neg (by rw [ho];simp [hz]),if_neg (by rw [l];exact u)])
   clear ho hz l u;go_enter Tryz.func164,Tryz.ntmps164;go_wp2_with fail;refine (BX _ _).mono ?_;rintro e w1 ⟨rfl,rfl⟩;rw [HO.out];go_wp2_with fail;refine (y _).out.mono ?_;rintro e w2 ⟨rfl,g2⟩;go_wp2_with fail;refine (JT s _).mono ?_;rintro e w3 ⟨g,rfl,c1,g3,z⟩;have hG:=g2.trans g3;have ds:w.heap.size+1<=g:=by have:=g2.size;simp at this;omega
   have hI:=Fg s 0 1099511627776 oo;have cc:=DL s 0 1099511627776;clear g2 g3 c1 hI cc;obtain ⟨w0,a5⟩:∃w0,w0=(w.alloc (.cells #[.int .i64 0,.int .i64 0,.string ⟨#[]⟩,.string ⟨#[]⟩,.slice none 0 0] 100)):=⟨_,rfl⟩;have d0:w0.heap.size=w.heap.size+1:=by rw [a5];simp
   rw [<-a5] at hG a8 R;clear a5;obtain ⟨⟨i1,s1,e1⟩,B⟩:∃X,CH s 0 1099511627776=X:=⟨_,rfl⟩;have a9:=zh B;have zz:=DL s 0 1099511627776;rw [B] at zz;have d1:s1.size<=1024:=fx zz oo;have C:=DC g s 0 1099511627776 w3 z oo oo oo;rw [B] at C;have T:=Fg s 0 1099511627776 oo;rw [B] at T;have T:(i1:Int)<=1099511627776:=T;clear B zz;go_wp2_with fail;refine C.mono ?_;rintro e w4 ⟨rfl,t1,b0⟩;replace hG:=hG.turn t1 (λ_ hk=>oo);have ce:=t1.size;clear C t1 z;obtain ⟨⟨u1,s2,e2⟩,D⟩:∃X,CH s1 e1 1099511627776=X:=⟨_,rfl⟩;have bb:=zh D;have zz:=DL s1 e1 1099511627776;rw [D] at zz;have d2:s2.size<=1024:=fx zz oo;have C:=DC g s1 e1 1099511627776 w4 b0 oo oo oo;rw [D] at C;have U:=Fg s1 e1 1099511627776 oo;rw [D] at U;have U:(u1:Int)<=1099511627776:=U;clear D zz;go_wp2_with fail;refine C.mono ?_;rintro e w5 ⟨rfl,t2,b2⟩;replace hG:=hG.turn t2 (λ_ hk=>oo);have cf:=t2.size;clear C t2 b0;obtain ⟨⟨n1,s3,e3⟩,E⟩:∃X,IM s2 e2 31=X:=⟨_,rfl⟩;have bc:=zh E;have zz:=LB s2 e2 31;rw [E] at zz;have d3:s3.size<=1024:=fx zz oo;have C:=Lj g s2 e2 31 w5 b2 oo oo oo;rw [E] at C;have V:=Qf s2 e2 31;rw [E] at V;have V:n1.size<=1024:=fx V oo;clear E zz;go_wp2_with fail;refine C.mono ?_;rintro e w6 ⟨rfl,t3,z⟩;replace hG:=hG.turn t3 (λ_ hk=>oo);have ch:=t3.size;clear C t3 b2;obtain ⟨⟨o1,s4,e4⟩,F⟩:∃X,IM s3 e3 400=X:=⟨_,rfl⟩;have bd:=zh F;have zz:=LB s3 e3 400;rw [F] at zz;have d4:s4.size<=1024:=fx zz oo;have C:=Lj g s3 e3 400 w6 z oo oo oo;rw [F] at C;have W:=Qf s3 e3 400;rw [F] at W;have W:o1.size<=1024:=fx W oo;clear F zz;go_wp2_with fail;refine C.mono ?_;rintro e w7 ⟨rfl,t4,a4⟩;replace hG:=hG.turn t4 (λ_ hk=>oo);have ci:=t4.size;clear C t4 z;have d5:=a4.lt;have n:=zh (fy w7 100 #[.int .i64 (i1:Int),.int .i64 (u1:Int),.string n1,.string o1,.slice none 0 0] rfl);have Y:=a4.alloc (.cells #[.int .i64 (i1:Int),.int .i64 (u1:Int),.string n1,.string o1,.slice none 0 0] 100);have Z:=hG.alloc (.cells #[.int .i64 (i1:Int),.int .i64 (u1:Int),.string n1,.string o1,.slice none 0 0] 100);obtain ⟨w8,O⟩:∃w8,w8=w7.alloc (.cells #[.int .i64 (i1:Int),.int .i64 (u1:Int),.string n1,.string o1,.slice none 0 0] 100):=⟨_,rfl⟩;have d6:w8.heap.size=w7.heap.size+1:=by rw [O];simp
   rw [<-O] at Y Z n;clear a4 hG;go_wp2_with fail;rw [<-O];clear O;obtain ⟨⟨c5,s5,e5⟩,G⟩:∃X,CH s4 e4 16=X:=⟨_,rfl⟩;have bf:=zh G;have zz:=DL s4 e4 16;rw [G] at zz;have cj:s5.size<=1024:=fx zz oo;have C:=DC g s4 e4 16 w8 Y oo oo oo;rw [G] at C;have aa:=Fg s4 e4 16 oo;rw [G] at aa;have aa:(c5:Int)<=16:=aa;clear G zz;refine C.mono ?_;rintro e w9 ⟨rfl,t5,b3⟩;have bk:=Z.turn t5 (λ_ hk=>oo);have cl:=t5.size;have bl:=n.turned t5 oo
   have cm:=zh (show ∀L s6 e6,rdK 128 s5 e5 c5=(L,s6,e6)->rL 128 s=⟨(i1:Int),(u1:Int),n1,o1,L⟩ from by
    intro L s6 e6 h6
    have q1:rI s=(i1,s1,e1):=a9.out
    have q2:rU s=(u1,s2,e2):=by unfold rU;rw [q1];exact bb.out
    have q3:rN s=(n1,s3,e3):=by unfold rN;rw [q2];exact bc.out
    have q4:rT s=(o1,s4,e4):=by unfold rT;rw [q3];exact bd.out
    have q5:rC s=(c5,s5,e5):=by unfold rC;rw [q4];exact bf.out
    unfold rL
    rw [q1,q2,q3,q4,q5]
    simp only [h6])
   clear Y Z C t5 a9 bb bc bd bf n ce cf ch ci;go_wp2_with fail
   go_loopg [34] c5 (λgk i wr=>∃(k:Nat) (v:Value) (L:List (Int × Int)) (sk:ByteArray) (ek:Int),k<=c5/\gk=c5 - k/\i=.int .i64 k/\rdK 128 s5 e5 k=(L,sk,ek)/\OwnL wr (w7.heap.size+1) 136 2 v (L.map FW)/\Blk wr w7.heap.size 100 #[.int .i64 (i1:Int),.int .i64 (u1:Int),.string n1,.string o1,v]/\Rd wr g sk ek/\Grew w0 wr)
   case atStart=>exact ⟨0,.slice none 0 0,[],s5,e5,oo,oo,rfl,rfl,OwnL.nil _ _ _ _,bl,b3,bk⟩
   clear bl b3 bk cl
   case round=>
    obtain ⟨k,v,L,sk,ek,hk,b5,rfl,H,I,f,b6,a6⟩:=hrel;have co:=zh b5;have bn:=zh H;have ad:L.length=k:=by have:=dp 128 s5 e5 k;rw [H] at this;exact this
    have d7:sk.size<=1024:=by have:=Y8 128 s5 e5 k;rw [H] at this;exact fx this cj
    have bo:=zh (show ∀r∈L,GN r from by have:=e8 s5 e5 k;rw [H] at this;exact this);obtain ⟨A,cv,hv,b9,c8,ca⟩:=I.listAt;have cp:=zh ca;clear ca;rw [fm,ad] at hv b9;subst hv;clear b5 H;by_cases em:k<c5
    . obtain ⟨⟨a1,sa,ea⟩,J⟩:∃X,CH sk ek 128=X:=⟨_,rfl⟩;obtain ⟨⟨b1,sb,eb⟩,P⟩:∃X,CH sa ea 128=X:=⟨_,rfl⟩;have cq:=zh (S9 bn J P);have zz:=DL sk ek 128;rw [J] at zz;have ec:sa.size<=1024:=fx zz oo;have CA:=λw h=>DC g sk ek 128 w h oo oo oo;rw [J] at CA;have CB:=λw h=>DC g sa ea 128 w h oo oo oo;rw [P] at CB;have ae:=Fg sk ek 128 oo;rw [J] at ae;have ae:(a1:Int)<=128:=ae;have aj:=Fg sa ea 128 oo;rw [P] at aj;have aj:(b1:Int)<=128:=aj;clear J P zz;have HO:=zh I;have HL:=zh f;have al:=f.lt;clear I f;go_wp2_with fail;refine AB [10] (λw':World=>w'.cell? ⟨w7.heap.size,4,none⟩=some (.slice A k cv)) qk ?_;have hS:=(show (λw':World=>w'.cell? ⟨w7.heap.size,4,none⟩=some (.slice A k cv)) _ from HL.drew.cell 4);refine tQ 0 36 ?_;refine tT 1 (some 37) hS ?_;refine tQ 2 38 ?_;refine tQ 4 40 ?_;refine tO 3 λK' hK=>?_;go_wp2_with fail;refine (CA _ b6.drew).mono ?_;rintro e wa ⟨rfl,ta,c2⟩;have ga:=(a6.drew).turn ta (λ_ hk=>oo);have br:=(HL.drew).turned ta oo;have bs:=(HO.drew).kept ta (λq hq hqg=>by have:=(HO.own_ge hq).1;omega);have ee:wr.heap.size<=wa.heap.size:=ta.size;go_wp2_with fail;refine hK.out _ _ (.inr (λ_=>br.cell 4)) ?_;clear hK hS ta;refine tO 5 λK' hK=>?_;go_wp2_with fail;refine (CB _ c2).mono ?_;rintro e wb ⟨rfl,tb,c3⟩;have gb:=ga.turn tb (λ_ hk=>oo);have m:=br.turned tb oo;have cr:=bs.kept tb (λq hq hqg=>by have:=(bs.own_ge hq).1;omega);have eg:wa.heap.size<=wb.heap.size:=tb.size;go_wp2_with fail;refine hK.out _ _ (.inr (λ_=>m.cell 4)) ?_;clear hK tb;refine tQ 6 42 ?_;refine tO 7 λK' hK=>?_;go_wp2_with fail;have gc:=gb.alloc (.cells #[.int .i64 (a1:Int),.int .i64 (b1:Int)] 136);have cs:=fy wb 136 #[.int .i64 (a1:Int),.int .i64 (b1:Int)] rfl;have bt:=m.alloc (.cells #[.int .i64 (a1:Int),.int .i64 (b1:Int)] 136);have K:=cr.alloc (.cells #[.int .i64 (a1:Int),.int .i64 (b1:Int)] 136);have cu:=c3.alloc (.cells #[.int .i64 (a1:Int),.int .i64 (b1:Int)] 136);refine hK.out _ _ (.inr (λ_=>bt.cell 4)) ?_;clear hK;refine tO 8 λK' hK=>?_;refine Hg (.tmp 37) (.tmp 43) 33 rfl (w7.heap.size+1) 136 2 16 _ Tryz.underlying33 DG rfl qd _ _ (L.map FW) (FW ((a1:Int),(b1:Int))) rfl rfl K _ rfl cs rfl (by rw [fm];omega) (by rw [fm];omega) (by simp;omega) k (by rw [fm,ad]) ?_;intro g6 c6 c4 b4 N c7 ep;have cw:Grew w0 c4:=Grew.own gc N (λq hq=>by have:=(K.own_ge hq).1;omega) (fk _);have M:=bt.own N (λhq=>by have:=(K.own_ge hq).1;omega);have cx:=cu.own N (λhq=>by have:=(K.own_ge hq).1;omega);refine hK.out _ _ (.inr (λ_=>M.cell 4)) ?_;have z4:=M.cell 4;have f4:=M.frozen 4;have bv:=zh b4;clear hK N c7 b4;refine tQ 9 45 ?_;refine tO 10 λK' hK=>?_;go_wp2_with fail;refine hK.out _ _ (.inl rfl) ?_;refine AA qk ?_ _;have cy:=M.set_ 4 (.slice (some ⟨g6,0,none⟩) (k+1) c6);have cz:Rd _ g sb eb:=cx.far (p:=⟨w7.heap.size,4,none⟩) (by show g≠w7.heap.size;omega) (.slice (some ⟨g6,0,none⟩) (k+1) c6);have c0:=bv.far (p:=⟨w7.heap.size,4,none⟩) (λhq=>by have:w7.heap.size+1<=w7.heap.size:=(bv.own_ge hq).1;omega) (.slice (some ⟨g6,0,none⟩) (k+1) c6);have g7:=cw.setCell (p:=⟨w7.heap.size,4,none⟩) (by show w0.heap.size<=w7.heap.size;omega) (.slice (some ⟨g6,0,none⟩) (k+1) c6);clear z4 f4 hK;go_wp2_with fail
      go_roundg (c5 - (k+1))
      case measure=>rw [co.out];omega
      case rel=>exact ⟨k+1,_,_,sb,eb,oo,oo,by go_num,cq,by rw [fz];exact c0,cy,cz,g7⟩
    . obtain rfl:k=c5:=oo;have an:=zh (cm _ _ _ bn);subst ad;have d:=zh (show LabAt wr A cv ⟨(i1:Int),(u1:Int),n1,o1,L⟩ from ⟨by show -9223372036854775808<=((_:Nat):Int);omega,by show ((_:Nat):Int)<=9223372036854775807;omega,by show -9223372036854775808<=((_:Nat):Int);omega,by show ((_:Nat):Int)<=9223372036854775807;omega,by show n1.size<=_;omega,by show o1.size<=_;omega,⟨bo,cp⟩,b9,c8⟩);have al:=f.lt;have x0:=f.cell 0;have x1:=f.cell 1;have x2:=f.cell 2;have x3:=f.cell 3;have x4:=f.cell 4;have n:=zh f;have av:=zh (R.grew a6);have a0:=zh (a8.out.trans a6);have a2:=zh I;clear f I b6;have CV:=λw h=>LC A cv ⟨(i1:Int),(u1:Int),n1,o1,L⟩ t w h (by show L.length<=100000;omega);cases j:BO ⟨(i1:Int),(u1:Int),n1,o1,L⟩ t with
      | false=>
        have HE:=zh (show Dr s t=(BH,11) from by rw [S.out,an.out,j];simp);rw [j] at CV;clear j;go_wp2_with fail;refine (CV _ d).mono ?_;rintro e wv ⟨rfl,gv⟩;have a:=av.grew gv;have z0:=a.cell 0;have f0:=a.frozen 0;have z1:=a.cell 1;have f1:=a.frozen 1;have z2:=a.cell 2;have f2:=a.frozen 2;have z3:=a.cell 3;have f3:=a.frozen 3;have z4:=a.cell 4;have f4:=a.frozen 4;have m:=a.lt;clear x0 x1 x2 x3 x4;go_wp2_with fail;refine f7 (by first | (simp [*,results,Tryz.results164,go_sem];rfl) | simp [*,results,Tryz.results164,go_sem]) rfl ?_;rw [HE.out];have bw:=a0.out.trans gv;exact Zh _ _ _ (gG)
      | true=>
        have CE:=λw h=>NW A cv ⟨(i1:Int),(u1:Int),n1,o1,L⟩ t w h (by show L.length<=100000;omega) t0 t1;rw [j] at CV;obtain ⟨EE,Q⟩:∃EE,Cw ⟨(i1:Int),(u1:Int),n1,o1,L⟩ t=EE:=⟨_,rfl⟩;rw [Q] at CE;have bx:=zh Q;by_cases x:EE=s
        . have HE:=zh (show Dr s t=(⟨(i1:Int),(u1:Int),n1,o1,L⟩,0) from by rw [S.out,an.out,j,bx.out,x];simp);rw [x] at CE;clear j Q x;go_wp2_with fail;refine (CV _ d).mono ?_;rintro e wv ⟨rfl,gv⟩;have c:=zh (n.grew gv);have a3:=c.out.lt;have y0:=c.cell 0;have y1:=c.cell 1;have y2:=c.cell 2;have y3:=c.cell 3;have y4:=c.cell 4;clear x0 x1 x2 x3 x4 al;go_wp2_with fail;refine (CE _ (d.hold gv)).mono ?_;rintro e we ⟨rfl,ge⟩;have o:=zh (c.grew ge);have ei:=o.out.lt;have x0:=o.cell 0;have x1:=o.cell 1;have x2:=o.cell 2;have x3:=o.cell 3;have x4:=o.cell 4;have a:=(av.grew gv).grew ge;have z0:=a.cell 0;have f0:=a.frozen 0;have z1:=a.cell 1;have f1:=a.frozen 1;have z2:=a.cell 2;have f2:=a.frozen 2;have z3:=a.cell 3;have f3:=a.frozen 3;have z4:=a.cell 4;have f4:=a.frozen 4;have m:=a.lt;clear y0 y1 y2 y3 y4 a3;go_wp2_with fail;refine f7 (by first | (simp [*,results,Tryz.results164,go_sem];rfl) | simp [*,results,Tryz.results164,go_sem]) rfl ?_;rw [HE.out];have bw:=(a0.out.trans gv).trans ge;have hT:=(((((((gv.trans ge).turned (λq=>q=w.heap.size)).setCell (p:=⟨w.heap.size,0,none⟩) (λ_=>rfl) (.int .i64 (i1:Int))).setCell (p:=⟨w.heap.size,1,none⟩) (λ_=>rfl) (.int .i64 (u1:Int))).setCell (p:=⟨w.heap.size,2,none⟩) (λ_=>rfl) (.string n1)).setCell (p:=⟨w.heap.size,3,none⟩) (λ_=>rfl) (.string o1)).setCell (p:=⟨w.heap.size,4,none⟩) (λ_=>rfl) (.slice A L.length cv));have hk:=a2.kept hT (λq hq hqg=>by have:w7.heap.size+1<=q:=(a2.own_ge hq).1;omega);obtain ⟨A',c',a7,-,-,c9⟩:=hk.listAt;rw [fm] at a7;simp only [Value.slice.injEq] at a7;obtain ⟨rfl,-,rfl⟩:=a7;exact ⟨A,cv,rfl,⟨d.id0,d.id1,d.unit0,d.unit1,d.name,d.note,⟨bo,c9⟩,d.len,d.cap⟩,gG,λb off e=>by have:w7.heap.size+1<=b:=(a2.own_ge (g:=b) (by rw [e];rfl)).1;omega⟩
        . have HE:=zh (show Dr s t=(BH,11) from by rw [S.out,an.out,j,bx.out];simp [x]);have el:=Qi x;clear j Q x;go_wp2_with fail;refine (CV _ d).mono ?_;rintro e wv ⟨rfl,gv⟩;have c:=zh (n.grew gv);have a3:=c.out.lt;have y0:=c.cell 0;have y1:=c.cell 1;have y2:=c.cell 2;have y3:=c.cell 3;have y4:=c.cell 4;clear x0 x1 x2 x3 x4 al;go_wp2_with fail;refine (CE _ (d.hold gv)).mono ?_;rintro e we ⟨rfl,ge⟩;have a:=(av.grew gv).grew ge;have z0:=a.cell 0;have f0:=a.frozen 0;have z1:=a.cell 1;have f1:=a.frozen 1;have z2:=a.cell 2;have f2:=a.frozen 2;have z3:=a.cell 3;have f3:=a.frozen 3;have z4:=a.cell 4;have f4:=a.frozen 4;have m:=a.lt;clear y0 y1 y2 y3 y4 a3;go_wp2_with fail;refine f7 (by first | (simp [*,results,Tryz.results164,go_sem];rfl) | simp [*,results,Tryz.results164,go_sem]) rfl ?_;rw [HE.out];have bw:=(a0.out.trans gv).trans ge;exact Zh _ _ _ (gG)

end
section
open Go.RowKit
theorem YV (m:Int) (l:List (Int × Int)) (a:List UInt8) (hm:m<=1000000) (h:∀x∈l,0<=x.1/\x.1<=m/\0<=x.2/\x.2<=128):
 ∀k,k<=l.length->rdK m ⟨(Kr l++a).toArray⟩ 0 k=(l.take k,⟨(Kr (l.drop k)++a).toArray⟩,0):=by
 intro k
 induction k with
 | zero=>intro _;rfl
 | succ k ih=>
   intro hk;have h0:=ih oo;obtain ⟨x0,x1,x2,x3⟩:=h l[k] (fq oo);rw [iz oo] at h0
   have e1:Kr (l[k]::l.drop (k+1))++a=enc (l[k].1).toNat++(enc (l[k].2).toNat++(Kr (l.drop (k+1))++a)):=by
    show (enc _++(enc _++Kr _))++a=_;simp only [iA]
   rw [e1] at h0;have h3:=S9 h0 (FN (l[k].1).toNat _ m oo oo) (FN (l[k].2).toNat _ 128 oo oo);rw [h3,fr oo];congr 3;rw [jJ x0,jJ x2]
theorem en (m:Int) (l:Lab) (z:Nat) (hm:m<=1000000) (hl:(1<=l.id/\l.id<=1099511627776/\0<=l.unit/\l.unit<=1099511627776)/\(l.name.size<=31/\l.note.size<=400)/\(1<=l.ext.length/\l.ext.length<=16)/\jnB l=true)
 (h:∀x∈l.ext,0<=x.1/\x.1<=m/\0<=x.2/\x.2<=128) (s:ByteArray) (hs:s=⟨(bX l z).toArray⟩):rL m s=l/\rE m s=0:=by
 obtain ⟨⟨a1,a2,a3,a4⟩,⟨a5,a6⟩,⟨a7,a8⟩,_⟩:=hl;obtain ⟨id,unit,name,note,ext⟩:=l;simp only at*;have n1:name.data.toList.length=name.size:=iG;have n2:note.data.toList.length=note.size:=iG;unfold bX at hs;simp only at hs;have q1:=(gJ rI hs).trans (FN id.toNat _ 1099511627776 oo oo);have q2:rU s=CH (rI s).2.1 (rI s).2.2 1099511627776:=rfl;rw [q1] at q2;have q2:=q2.trans (FN unit.toNat _ 1099511627776 oo oo);rw [<-n1,<-n2] at q2;have q3:rN s=IM (rU s).2.1 (rU s).2.2 31:=rfl;rw [q2] at q3;have q3:=q3.trans (Ni _ _ 31 oo oo);have q4:rT s=IM (rN s).2.1 (rN s).2.2 400:=rfl;rw [q3] at q4;have q4:=q4.trans (Ni _ _ 400 oo oo);have q5:rC s=CH (rT s).2.1 (rT s).2.2 16:=rfl;rw [q4] at q5;have q5:=q5.trans (FN ext.length _ 16 oo oo);have q6:=YV m ext (List.replicate z 0) hm h ext.length (fk _);rw [i8] at q6;refine ⟨?_,?_⟩
 . unfold rL;rw [q1,q2,q3,q4,q5];simp only [q6,Vd];rw [jJ oo,jJ a3]
 . unfold rE;rw [q5];simp only [q6]
theorem fc (m:Int) (l:Lab) (t:Int) (h:BO l t=true) (m0:127<=m) (m1:m<=1000000):rL m (Cw l t)=l/\rE m (Cw l t)=0:=by
 have hf:=EI l t h;obtain ⟨h1,h2,h3,h4⟩:=hf;have ht:=B0 (show okT t=true from by unfold BO at h;revert h;cases okT t<;>simp);have hi:inB l t=true:=by unfold BO at h;revert h;cases inB l t<;>simp
 have hb:=Yb l h4;have hr:=eS l t h4 hi;refine en m l (1024 - (II l++EK l.ext).size) m1 ⟨h1,h2,h3,h4⟩ (λx hx=>?_) _ (by rw [Nt l t h,<-bE,Vd]);obtain ⟨b0,b1,b2⟩:=hb x hx;obtain ⟨r0,r1,r2,r3⟩:=hr x hx;exact ⟨b0,oo,b1,oo⟩
theorem SF (l:Lab) (t:Int) (h:BO l t=true) (hs:(Cw l t).size=1024):Dr (Cw l t) t=(l,0):=by
 have ht:okT t=true:=by unfold BO at h;revert h;cases okT t<;>simp
 have hr:=(fc 128 l t h oo oo).1
 have hz:Cw l t≠Ef 1024 ⟨#[]⟩:=by
  intro e;have h1:=gJ (λs=>(rI s).1) e
  have h2:(rI (Ef 1024 ⟨#[]⟩)).1=0:=by
   have:=FN 0 (List.replicate 1023 0) 1099511627776 oo oo;unfold rI
   have e2:Ef 1024 ⟨#[]⟩=⟨(enc 0++List.replicate 1023 0).toArray⟩:=by
    apply F6
    have e4:(Ef 1024 ⟨#[]⟩).data.toList=List.replicate 1024 0:=by
     unfold Ef FB;simp only [ByteArray.data_append,Array.toList_append,Array.toList_replicate];rfl
    rw [e4];have e3:enc 0=[0]:=qd;rw [e3];exact List.replicate_succ (n:=1023)
   rw [e2,this]
  simp only [h2] at h1;have h3:((rI (Cw l t)).1:Int)=l.id:=gJ Lab.id hr;have h4:=(EI l t h).1.1;omega
 unfold Dr;rw [if_neg (by rw [ht,hs];simp),if_neg hz,hr,if_pos ⟨h,rfl⟩]
theorem Nj (s:ByteArray) (t:Int):((Dr s t).2=0/\Cw (Dr s t).1 t=s)\/(Dr s t=(BH,11)):=by
 unfold Dr;by_cases h0:okT t=false\/s.size≠1024
 . rw [if_pos h0];exact .inr rfl
 . rw [if_neg h0];have ht:okT t=true:=by cases h:okT t with | true=>rfl | false=>exact absurd (.inl h) h0
   by_cases hz:s=Ef 1024 ⟨#[]⟩
   . rw [if_pos hz];left;refine ⟨rfl,?_⟩;unfold Cw;rw [if_pos ⟨ht,(I4 _ _).2 rfl⟩,hz]
   . rw [if_neg hz];by_cases hp:BO (rL 128 s) t=true/\Cw (rL 128 s) t=s
     . rw [if_pos hp];exact .inl ⟨rfl,hp.2⟩
     . rw [if_neg hp];exact .inr rfl
theorem Ol (l:Lab) (t:Int) (h:BO l t=true):(Cw l t).size=1024:=by
 obtain ⟨⟨v1,v2,v3,v4⟩,⟨v5,v6⟩,⟨v7,v8⟩,_⟩:=EI l t h;rw [Nt l t h];refine Fp _ _ ?_;have h1:=M5 l v5 v6;have h2:=NT l.ext;rw [f8];omega

end
section
attribute [local go_sem ↓] Go.wp_at_zero Go.wp_at_succ
open Go.RowKit
def hdN (s:ByteArray):=IM s 0 8
def hdT (s:ByteArray):=CH (hdN s).2.1 (hdN s).2.2 128
def hdE (s:ByteArray):=CG (hdN s).1 ((hdT s).1:Int)
def FC (s:ByteArray):ByteArray × Int × Int:=if hdE s=⟨#[]⟩\/hdE s≠s then (⟨#[]⟩,0,11) else ((hdN s).1,((hdT s).1:Int),0)
theorem Sa (s:ByteArray) (t:Int) (h:CG s t≠⟨#[]⟩):Cj s=true/\okT t=true/\(CG s t).size=1024:=by
 unfold CG at h ⊢;split at h
 . rename_i hc;rw [if_pos hc];refine ⟨hc.1,hc.2,Fp _ _ ?_⟩;have hp:JS s:=gV hc.1;have:=hp.2.1;have z1:=Bf s.size;have z2:=Bf t.toNat;rw [f8,f8];omega
 . exact absurd rfl h
theorem Ln (s:ByteArray):FC s=(⟨#[]⟩,0,11)\/∃n t,FC s=(n,t,0)/\CG n t=s/\Cj n=true/\okT t=true/\n.size<=8/\0<=t/\t<=128:=by
 unfold FC;split
 . exact .inl rfl
 . rename_i h;obtain ⟨h0,h1⟩:=not_or.1 h;have h1:=iL.1 h1;obtain ⟨a1,a2,a3⟩:=Sa _ _ h0;have hp:JS (hdN s).1:=gV a1;have:=B0 a2;exact .inr ⟨_,_,rfl,h1,a1,a2,hp.2.1,oo,oo⟩
def HdR (w:World) (d:ByteArray × Int × Int) (e:Ending) (w':World):Prop:=e=.returned (.tuple #[.string d.1,.int .i64 d.2.1,.int .i64 d.2.2])/\Grew w w'
theorem dy (w w':World) (h:Grew w w'):HdR w (⟨#[]⟩,0,11) (.returned (.tuple #[.string ⟨#[]⟩,.int .i64 0,.int .i64 11])) w':=⟨rfl,h⟩
theorem RR (s:ByteArray) (w:World) (hs:s.size<=9223372036854775807):
 Calls Tryz.prog 163 #[.string s] w (HdR w (FC s)):=by
 go_enter Tryz.func163,Tryz.ntmps163;go_wp2_with fail;refine (JT s _).mono ?_;rintro e w3 ⟨g,rfl,p,hG,f⟩;have a:=zh (show FC s=if hdE s=⟨#[]⟩\/hdE s≠s then (⟨#[]⟩,0,11) else ((hdN s).1,((hdT s).1:Int),0) from rfl);unfold hdE hdT hdN at a;obtain ⟨⟨n1,s1,e1⟩,b⟩:∃X,IM s 0 8=X:=⟨_,rfl⟩;rw [b] at a;have m:=zh b;have zz:=LB s 0 8;rw [b] at zz;have j:s1.size<=9223372036854775807:=fx zz hs;have C:=Lj g s 0 8 w3 f hs oo oo;rw [b] at C;have c:=Qf s 0 8;rw [b] at c;have c:n1.size<=9223372036854775807:=fx c hs;clear b zz;go_wp2_with fail;refine C.mono ?_;rintro e w4 ⟨rfl,t1,i⟩;replace hG:=hG.turn t1 (λ_ hk=>oo);clear C t1 f
 try simp only at a
 obtain ⟨⟨t2,s2,e2⟩,d⟩:∃X,CH s1 e1 128=X:=⟨_,rfl⟩;rw [d] at a;have C:=DC g s1 e1 128 w4 i j oo oo;rw [d] at C;have bt:=Fg s1 e1 128 oo;rw [d] at bt;have bt:(t2:Int)<=128:=bt;clear d;go_wp2_with fail;refine C.mono ?_;rintro e w5 ⟨rfl,t5,q⟩;replace hG:=hG.turn t5 (λ_ hk=>oo);clear C t5 i
 try simp only at a
 obtain ⟨E,hE⟩:∃E,CG n1 (t2:Int)=E:=⟨_,rfl⟩;rw [hE] at a;have C:=Lo n1 (t2:Int) w5 c;rw [hE] at C;clear hE;by_cases h0:E=⟨#[]⟩
 . subst h0;have HE:=zh (show FC s=(⟨#[]⟩,0,11) from by rw [a.out,if_pos (.inl rfl)]);clear a;go_wp2_with fail;refine C.mono ?_;rintro e w6 ⟨rfl,g6⟩;go_wp2_with fail;refine f7 (by first | (simp [*,results,Tryz.results163,go_sem];rfl) | simp [*,results,Tryz.results163,go_sem]) rfl ?_;rw [HE.out];exact dy _ _ (hG.trans g6)
 have k:=Qi h0;have n:(E.toList==[])=false:=by have:=k;simpa using this
 by_cases h1:E=s
 . have HE:=zh (show FC s=(n1,(t2:Int),0) from by rw [a.out,if_neg (λh=>h.elim h0 (λh=>h h1))]);clear a h0;subst h1;go_wp2_with fail;refine C.mono ?_;rintro e w6 ⟨rfl,g6⟩;go_wp2_with fail;refine f7 (by first | (simp [*,results,Tryz.results163,go_sem];rfl) | simp [*,results,Tryz.results163,go_sem]) rfl ?_;rw [HE.out];exact ⟨rfl,hG.trans g6⟩
 . have l:=Qi h1;have o:(E.toList != s.toList)=true:=by rw [bne,l];rfl
   have HE:=zh (show FC s=(⟨#[]⟩,0,11) from by rw [a.out,if_pos (.inr h1)]);clear a h0 h1;go_wp2_with fail;refine C.mono ?_;rintro e w6 ⟨rfl,g6⟩;go_wp2_with fail;refine f7 (by first | (simp [*,results,Tryz.results163,go_sem];rfl) | simp [*,results,Tryz.results163,go_sem]) rfl ?_;rw [HE.out];exact dy _ _ (hG.trans g6)

end
end Go.Proofs.YtfklieeipokllaaGreat
