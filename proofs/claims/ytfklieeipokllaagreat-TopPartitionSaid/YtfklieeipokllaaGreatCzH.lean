/- Parts of the proof (packed), 8. -/
import Derived.DeepKeys4
import Derived.Laws.EntriesVeiled
import Derived.Laws.MakeOwn
import Derived.Test.YtfklieeipokllaaGreatCzG
import Derived.Test.YtfklieeipokllaaGreatCzF
namespace Go.Proofs.YtfklieeipokllaaGreat
set_option linter.all false
set_option maxRecDepth 100000
set_option maxHeartbeats 16000000
open List
section
open Go.RowKit
structure Tab where
 name:ByteArray
 tracks:Int
 labels:List Lab
def Cq:Tab:=⟨⟨#[]⟩,0,[]⟩
instance:Inhabited Tab:=⟨Cq⟩
def emL (l:Lab):Bool:=eqL l BN
def okL (t:Int) (l:Lab):Bool:=emL l || BW l t
def Gs (l:Lab):Int × Bool:=(l.id,decide (0<l.unit))
def CQ (ls:List Lab):List (Int × Bool):=(ls.filter λl=>!emL l).map Gs
def BA (ls:List Lab):List (Int × Int):=ls.flatMap (·.ext)
def LI (t:Tab):Bool:=okT t.tracks && Cs t.name && decide ((t.labels.length:Int)=Cg t.tracks)
def BG (t:Tab):Bool:=LI t && (t.labels.all (okL t.tracks) && decide (CQ t.labels).Nodup && decide (BL (BA t.labels)).Nodup)
structure LabE where
 A:Option Addr
 c:Nat
 l:Lab
instance:Inhabited LabE:=⟨⟨none,0,BN⟩⟩
def DP (x:LabE):List Value:=[.int .i64 x.l.id,.int .i64 x.l.unit,.string x.l.name,.string x.l.note,.slice x.A x.l.ext.length x.c]
structure TabAt (w:World) (A:Option Addr) (c:Nat) (xs:List LabE) (T:Tab):Prop where
 lab:∀x∈xs,LabAt w x.A x.c x.l
 rows:ListAt w w.heap.size 5 A (xs.map DP)
 len:xs.length<=c
 cap:c<=9223372036854775807
 eq:xs.map (·.l)=T.labels
 tr0:-9223372036854775808<=T.tracks
 tr1:T.tracks<=9223372036854775807
 name:T.name.size<=9223372036854775807
structure SmallT (T:Tab):Prop where
 len:T.labels.length<=1000
 ext:∀l∈T.labels,l.ext.length<=1000
theorem TabAt.hold {w w':World} {A:Option Addr} {c:Nat} {xs:List LabE} {T:Tab} (h:TabAt w A c xs T) (hg:Grew w w'):TabAt w' A c xs T:=
 ⟨λx hx=>(h.lab x hx).hold hg,(h.rows.keep (gM _) hg).mono hg.size,h.len,h.cap,h.eq,h.tr0,h.tr1,h.name⟩
theorem TabAt.xlen {w:World} {A:Option Addr} {c:Nat} {xs:List LabE} {T:Tab} (h:TabAt w A c xs T):xs.length=T.labels.length:=by rw [<-h.eq,gO]
theorem TabAt.zero (w:World):TabAt w none 0 [] Cq:=⟨qs,λh=>absurd h qs,gM _,oo,rfl,qd,qd,qd⟩
theorem TabAt.get {w:World} {A:Option Addr} {c:Nat} {xs:List LabE} {T:Tab} (h:TabAt w A c xs T) {k:Nat} (hk:k<xs.length):T.labels[k]? =some xs[k].l:=by
 rw [<-h.eq,gP,gJ hk];rfl
theorem TabAt.at_ {w:World} {A:Option Addr} {c:Nat} {xs:List LabE} {T:Tab} (h:TabAt w A c xs T) {k:Nat} (hk:k<T.labels.length):
 ∃b off B d l,A=some ⟨b,off,none⟩/\b<w.heap.size/\xs[k]? =some ⟨B,d,l⟩/\T.labels[k]=l/\LabAt w B d l/\
  w.cell? ⟨b,off+k*5,none⟩=some (.int .i64 l.id)/\w.cell? ⟨b,off+k*5+1,none⟩=some (.int .i64 l.unit)/\w.cell? ⟨b,off+k*5+2,none⟩=some (.string l.name)/\w.cell? ⟨b,off+k*5+3,none⟩=some (.string l.note)/\w.cell? ⟨b,off+k*5+4,none⟩=some (.slice B l.ext.length d):=by
 have hx:k<xs.length:=by rw [h.xlen];exact hk
 obtain ⟨b,off,e,hb,hc⟩:=h.rows (by rw [gO];omega);have hg:=h.get hx;rw [gJ hk] at hg;injection hg with hg;have hl:=h.lab xs[k] (gS hx);have hr:(xs.map DP)[k]? =some (DP xs[k]):=by rw [gP,gJ hx];rfl
 have a:=hc k _ hr;have f:=gJ hx;rcases hv:xs[k] with ⟨B,d,l⟩;rw [hv] at a hg hl f;exact ⟨b,off,B,d,l,e,hb,f,hg,hl,a 0 _ rfl,a 1 _ rfl,a 2 _ rfl,a 3 _ rfl,a 4 _ rfl⟩
theorem TabAt.okruns {w:World} {A:Option Addr} {c:Nat} {xs:List LabE} {T:Tab} (h:TabAt w A c xs T):∀r∈BA T.labels,FX r:=by
 intro r hr;unfold BA at hr;obtain ⟨l,hl,hr⟩:=List.mem_flatMap.1 hr;rw [<-h.eq] at hl;obtain ⟨x,hx,rfl⟩:=gV.1 hl;exact (h.lab x hx).runs.1 r hr
theorem Tr (ls:List Lab) (k:Nat) (h:k<ls.length):CQ (ls.take (k+1))=CQ (ls.take k)++(if emL ls[k]=true then [] else [Gs ls[k]]):=by
 unfold CQ;rw [gU h,jb,gm];congr 1;cases hm:emL ls[k]<;>simp [hm]
theorem Hy (ls:List Lab) (k:Nat) (h:k<ls.length):BA (ls.take (k+1))=BA (ls.take k)++ls[k].ext:=by
 unfold BA;rw [gU h,List.flatMap_append];simp
theorem Fl (l:Lab):emL l=true↔l=BN:=Jd l BN
theorem Vk (l:Lab) (h:emL l=true):l.ext=[]:=by rw [(Fl l).1 h];rfl
theorem Dh (l:Lab) (t:Int) (h:BW l t=true):okT t=true/\idB l=true/\txB l=true/\cnB l=true/\jnB l=true/\inB l t=true:=by
 unfold BW at h;simp only [iU] at h;exact ⟨h.1,h.2.1,h.2.2.1,h.2.2.2.1,h.2.2.2.2.1,h.2.2.2.2.2⟩
theorem J3 (l:Lab) (t:Int) (h:BW l t=true):1<=l.id/\0<=l.unit/\1<=l.ext.length/\l.ext.length<=16:=by
 obtain ⟨_,h1,_,h2,_⟩:=Dh l t h;unfold idB at h1;unfold cnB at h2;simp at h1 h2;omega
theorem dp (l:Lab) (t:Int) (h:okL t l=true):l.ext.length<=16/\0<=l.unit:=by
 unfold okL at h;rw [Bool.or_eq_true] at h;rcases h with h | h
 . rw [(Fl l).1 h];decide
 . have:=J3 l t h;omega
theorem Ee (T:Tab) (h:LI T=false):BG T=false:=by unfold BG;rw [h];rfl
theorem Lt (T:Tab) (k:Nat) (hk:k<T.labels.length) (h:okL T.tracks T.labels[k]=false):BG T=false:=by
 unfold BG
 have:T.labels.all (okL T.tracks)=false:=by
  rw [List.all_eq_false];exact ⟨T.labels[k],gS hk,by rw [h];simp⟩
 rw [this];simp
theorem La (T:Tab) (h:¬(CQ T.labels).Nodup):BG T=false:=by
 unfold BG;rw [iC h];simp
theorem Xo (T:Tab) (h1:LI T=true) (h2:T.labels.all (okL T.tracks)=true) (h3:(CQ T.labels).Nodup):BG T=decide (BL (BA T.labels)).Nodup:=by
 unfold BG;rw [h1,h2,iB h3];rfl
theorem Ll (ls:List Lab) (k:Nat) (h:(CQ ls).Nodup):(CQ (ls.take k)).Nodup:=by
 have:CQ ls=CQ (ls.take k)++CQ (ls.drop k):=by
  unfold CQ;conv=>lhs;rw [<-jo k ls]
  rw [jb,gm]
 rw [this] at h;exact (jA.1 h).1
structure GoodT (T:Tab):Prop where
 tr:okT T.tracks=true
 nm:Cs T.name=true
 len:(T.labels.length:Int)=Cg T.tracks
 ok:∀l∈T.labels,emL l=true\/BW l T.tracks=true
 keys:(CQ T.labels).Nodup
 seq:(BL (BA T.labels)).Nodup
theorem AX (T:Tab):BG T=true↔GoodT T:=by
 unfold BG LI;constructor
 . intro h;simp only [iU,iV,ic] at h;obtain ⟨⟨⟨h1,h2⟩,h3⟩,⟨h4,h5⟩,h6⟩:=h;exact ⟨h1,h2,h3,λl hl=>by have:=h4 l hl;unfold okL at this;rwa [Bool.or_eq_true] at this,h5,h6⟩
 . intro ⟨h1,h2,h3,h4,h5,h6⟩;simp only [iU,iV,ic];exact ⟨⟨⟨h1,h2⟩,h3⟩,⟨λl hl=>by unfold okL;rw [Bool.or_eq_true];exact h4 l hl,h5⟩,h6⟩
theorem GoodT.small {T:Tab} (h:GoodT T):T.labels.length<=31/\∀l∈T.labels,l.ext.length<=16/\0<=l.unit:=by
 constructor
 . have h1:=h.len;have h2:=Ce T.tracks;unfold Cg at h1;omega
 . intro l hl;refine dp l T.tracks ?_;unfold okL;rw [Bool.or_eq_true];exact h.ok l hl
theorem WO (ls:List Lab) (m:Nat) (h:∀l∈ls,l.ext.length<=m):(BA ls).length<=ls.length*m:=by
 induction ls with
 | nil=>simp [BA]
 | cons x ls ih=>
   have h1:=h x (iO ..);have h2:=ih (λy hy=>h y (iJ _ hy));have:BA (x::ls)=x.ext++BA ls:=by simp [BA]
   rw [this,iI,i9,Nat.succ_mul];omega
theorem GoodT.exts {T:Tab} (h:GoodT T):(BA T.labels).length<=496:=by
 have:=WO T.labels 16 (λl hl=>(h.small.2 l hl).1);have:=h.small.1;omega
def Bp (T:Tab):List (Int × Int):=if BG T=true then J0 (ttS T.tracks) T.tracks (BA T.labels) else []
theorem Jk (T:Tab):(Bp T).length<=128:=by
 unfold Bp;split
 . unfold J0;rw [Ag];exact EP _
 . simp
def Fd (id unit:Int) (l:Lab):Bool:=!(id==0) && (l.id==id) && (l.unit==unit)
def IR (p:Lab->Bool) (ls:List Lab):Int:=match ls.findIdx? p with | some i=>(i:Int) | none=>-1
theorem N2 (p:Lab->Bool) (ls:List Lab) (k:Nat) (hk:k<ls.length) (h:p ls[k]=true) (hn:∀j (hj:j<ls.length),j<k->p ls[j]=false):IR p ls=(k:Int):=by
 unfold IR;rw [List.findIdx?_eq_some_iff_getElem.2 ⟨hk,h,λj hj=>by rw [hn j oo hj];simp⟩]
theorem Lc (p:Lab->Bool) (ls:List Lab) (hn:∀j (hj:j<ls.length),p ls[j]=false):IR p ls=-1:=by
 unfold IR;rw [List.findIdx?_eq_none_iff.2 (λl hl=>by obtain ⟨j,hj,rfl⟩:=List.getElem_of_mem hl;exact hn j hj)]
theorem ED (p:Lab->Bool) (ls:List Lab):(∃(k:Nat) (hk:k<ls.length),IR p ls=(k:Int)/\p ls[k]=true/\∀j (hj:j<ls.length),j<k->p ls[j]=false)\/(IR p ls=-1/\∀l∈ls,p l=false):=by
 unfold IR;cases h:ls.findIdx? p with
 | none=>exact .inr ⟨rfl,λl hl=>by simpa using List.findIdx?_eq_none_iff.1 h l hl⟩
 | some k=>
   obtain ⟨hk,h1,h2⟩:=List.findIdx?_eq_some_iff_getElem.1 h;exact .inl ⟨k,hk,rfl,h1,λj hj hjk=>by simpa using h2 j hjk⟩
theorem Z8 (p:Lab->Bool) (ls:List Lab):decide (0<=IR p ls)=ls.any p:=by
 rcases ED p ls with ⟨k,hk,h,hp,_⟩ | ⟨h,hn⟩
 . rw [h,iB oo];exact (jZ.2 ⟨ls[k],gS hk,hp⟩).symm
 . rw [h,iC oo];exact (im.2 (λl hl=>by rw [hn l hl];simp)).symm
def Ih (id:Int) (l:Lab):Bool:=(l.id==id) && decide (0<l.unit)
def FK (T:Tab) (id unit:Int):Int:=IR (Fd id unit) T.labels
theorem G9 (id unit:Int) (l:Lab):Fd id unit l=true↔id≠0/\l.id=id/\l.unit=unit:=by
 unfold Fd;simp only [iU,jq,iD,jR];constructor
 . rintro ⟨⟨h1,h2⟩,h3⟩;exact ⟨h1,h2,h3⟩
 . rintro ⟨h1,h2,h3⟩;exact ⟨⟨h1,h2⟩,h3⟩

theorem cX (a b:Int) (h:(a==b)=true):(a != b)=false:=by simp [bne,h]
theorem eF (a b:Int) (h:(a==b)=false):(a != b)=true:=by simp [bne,h]
theorem LO (B:Option Addr) (d:Nat) (l:Lab) (w:World) (h:LabAt w B d l) (hl:l.ext.length<=1000):
 Calls Tryz.prog 42 #[.agg #[.int .i64 l.id,.int .i64 l.unit,.string l.name,.string l.note,.slice B l.ext.length d]] w λe w'=>e=.returned (.bool (emL l))/\Grew w w':=by
 have g0:=(gK w).alloc (.cells #[.int .i64 l.id,.int .i64 l.unit,.string l.name,.string l.note,.slice B l.ext.length d] 100);have HC:=zh (Oi B d l _ (h.hold g0) oo);have HG:=zh g0;have HE:=zh (show emL l=eqL l BN from rfl);clear h g0;go_enter Tryz.func42,Tryz.ntmps42;go_wp2_with fail;refine HC.mono ?_;rintro e w1 ⟨rfl,g1⟩;go_wp2_with fail;go_ret;exact ⟨AE (by rw [HE.out]),HG.out.trans g1⟩
theorem Ui (B:Option Addr) (d:Nat) (l:Lab) (id unit:Int) (g:Nat) (w:World) (hb:Blk w g 32 #[.int .i64 id,.int .i64 unit]):
 Calls Tryz.prog 202 #[.agg #[.int .i64 l.id,.int .i64 l.unit,.string l.name,.string l.note,.slice B l.ext.length d],.pointer (some ⟨g,0,none⟩)] w λe w'=>e=.returned (.bool (Fd id unit l))/\Grew w w':=by
 have x0:=hb.cell 0;have x1:=hb.cell 1;have hl:=hb.lt;obtain ⟨i,u,nm,nt,ex⟩:=l;simp only;have HE:=zh (show Fd id unit ⟨i,u,nm,nt,ex⟩=(!(id==0) && (i==id) && (u==unit)) from rfl);clear hb;cases b1:(id==0) with
 | true=>
   have HB:=zh b1;have c1:=cX _ _ b1;clear b1;go_enter Tryz.func202,Tryz.ntmps202;go_wp2_with fail;go_ret;exact ⟨AE (by rw [HE.out,HB.out];rfl),gG⟩
 | false=>
   have a:=zh b1;have c1:=eF _ _ b1;clear b1;cases b2:(i==id) with
   | false=>
     have HB:=zh b2;go_enter Tryz.func202,Tryz.ntmps202;go_wp2_with fail;go_ret;exact ⟨AE (by rw [HE.out,a.out,HB.out];rfl),gG⟩
   | true=>
     have b:=zh b2;cases b3:(u==unit) with
     | false=>
       have HB:=zh b3;go_enter Tryz.func202,Tryz.ntmps202;go_wp2_with fail;go_ret;exact ⟨AE (by rw [HE.out,a.out,b.out,HB.out];rfl),gG⟩
     | true=>
       have HB:=zh b3;go_enter Tryz.func202,Tryz.ntmps202;go_wp2_with fail;go_ret;exact ⟨AE (by rw [HE.out,a.out,b.out,HB.out];rfl),gG⟩
theorem RL (B:Option Addr) (d:Nat) (l:Lab) (id unit:Int) (g:Nat) (w:World) (hb:Blk w g 32 #[.int .i64 id,.int .i64 unit]):
 Calls Tryz.prog 136 #[.agg #[.int .i64 l.id,.int .i64 l.unit,.string l.name,.string l.note,.slice B l.ext.length d],.pointer (some ⟨g,0,none⟩)] w λe w'=>e=.returned (.bool (Ih id l))/\Grew w w':=by
 have x0:=hb.cell 0;have hl:=hb.lt;obtain ⟨i,u,nm,nt,ex⟩:=l;simp only;have HE:=zh (show Ih id ⟨i,u,nm,nt,ex⟩=((i==id) && decide (0<u)) from rfl);clear hb;cases b1:(i==id) with
 | false=>
   have HB:=zh b1;go_enter Tryz.func136,Tryz.ntmps136;go_wp2_with fail;go_ret;exact ⟨AE (by rw [HE.out,HB.out];rfl),gG⟩
 | true=>
   have a:=zh b1;by_cases b2:0<u
   . have HB:=zh (iB b2);go_enter Tryz.func136,Tryz.ntmps136;go_wp2_with fail;go_ret;exact ⟨AE (by rw [HE.out,a.out,HB.out];rfl),gG⟩
   . have HB:=zh (iC b2);go_enter Tryz.func136,Tryz.ntmps136;go_wp2_with fail;go_ret;exact ⟨AE (by rw [HE.out,a.out,HB.out];rfl),gG⟩
section
variable (A:Option Addr) (c:Nat) (xs:List LabE) (T:Tab) (g:Nat) (id unit:Int) (w:World)
theorem Ur (h:TabAt w A c xs T) (hs:SmallT T) (hb:Blk w g 32 #[.int .i64 id,.int .i64 unit]) (n:Nat) (hn:n=T.labels.length):
 Calls Tryz.prog 137 #[.slice A n c,.func (.func 202) #[] #[.pointer (some ⟨g,0,none⟩)]] w λe w'=>e=.returned (.int .i64 (IR (Fd id unit) T.labels))/\Grew w w':=by
 subst hn;have HT:=zh h;have HS:=zh hs;have p:=zh hb;have x:=hs.len;obtain ⟨q,hq⟩:∃q,Fd id unit=q:=⟨_,rfl⟩;have HQ:=zh hq;rw [hq];clear h hs hb hq;go_enter Tryz.func137,Tryz.ntmps137;go_wp2_with fail
 go_loopg [8] T.labels.length (λgk i wr=>∃k:Nat,k<=T.labels.length/\gk=T.labels.length - k/\i=.int .i64 k/\(∀j (hj:j<T.labels.length),j<k->q T.labels[j]=false)/\Grew w wr)
 case atStart=>exact ⟨0,oo,oo,rfl,λj _ h=>oo,gK _⟩
 case round=>
  obtain ⟨k,hk,m,rfl,o,hg⟩:=hrel;have r:=zh m;have HA:=zh o;have HG:=zh hg;clear m o;by_cases f:k<T.labels.length
  . obtain ⟨b,y,B,d,l,rfl,z,u,hv,v,c0,c1,c2,c3,c4⟩:=(HT.hold hg).at_ f;have s:=HS.ext T.labels[k] (gS f);rw [hv] at s;have hb:=p.out;have HC:=zh (Ui B d l id unit g wr (hb.hold hg));have HV:=zh hv;clear hv u hb v;rw [HQ.out] at HC;go_wp2_with fail;refine HC.mono ?_;rintro e w3 ⟨rfl,g3⟩;cases a:q l with
    | true=>
      have HI:=zh (N2 q T.labels k f (by rw [HV.out];exact a) HA);clear a;go_wp2_with fail;go_ret;exact ⟨CH (by rw [HI.out]),HG.out.trans g3⟩
    | false=>
      have HN:=zh (show ∀j (hj:j<T.labels.length),j<k+1->q T.labels[j]=false from λj hj hjk=>by
       by_cases t:j=k
       . subst t;rw [HV.out];exact a
       . exact HA.out j hj oo)
      clear a;go_wp2_with fail
      go_roundg (T.labels.length - (k+1))
      case measure=>rw [r.out];omega
      case rel=>exact ⟨k+1,oo,oo,by go_num,HN,HG.out.trans g3⟩
  . have HN:=zh (Lc q T.labels (λj hj=>HA j hj oo));go_wp2_with fail;go_ret;exact ⟨CH (by rw [HN.out]),HG⟩
theorem Xe (h:TabAt w A c xs T) (hs:SmallT T) (hb:Blk w g 32 #[.int .i64 id,.int .i64 unit]) (n:Nat) (hn:n=T.labels.length):
 Calls Tryz.prog 137 #[.slice A n c,.func (.func 136) #[] #[.pointer (some ⟨g,0,none⟩)]] w λe w'=>e=.returned (.int .i64 (IR (Ih id) T.labels))/\Grew w w':=by
 subst hn;have HT:=zh h;have HS:=zh hs;have p:=zh hb;have x:=hs.len;obtain ⟨q,hq⟩:∃q,Ih id=q:=⟨_,rfl⟩;have HQ:=zh hq;rw [hq];clear h hs hb hq;go_enter Tryz.func137,Tryz.ntmps137;go_wp2_with fail
 go_loopg [8] T.labels.length (λgk i wr=>∃k:Nat,k<=T.labels.length/\gk=T.labels.length - k/\i=.int .i64 k/\(∀j (hj:j<T.labels.length),j<k->q T.labels[j]=false)/\Grew w wr)
 case atStart=>exact ⟨0,oo,oo,rfl,λj _ h=>oo,gK _⟩
 case round=>
  obtain ⟨k,hk,m,rfl,o,hg⟩:=hrel;have r:=zh m;have HA:=zh o;have HG:=zh hg;clear m o;by_cases f:k<T.labels.length
  . obtain ⟨b,y,B,d,l,rfl,z,u,hv,v,c0,c1,c2,c3,c4⟩:=(HT.hold hg).at_ f;have s:=HS.ext T.labels[k] (gS f);rw [hv] at s;have hb:=p.out;have HC:=zh (RL B d l id unit g wr (hb.hold hg));have HV:=zh hv;clear hv u hb v;rw [HQ.out] at HC;go_wp2_with fail;refine HC.mono ?_;rintro e w3 ⟨rfl,g3⟩;cases a:q l with
    | true=>
      have HI:=zh (N2 q T.labels k f (by rw [HV.out];exact a) HA);clear a;go_wp2_with fail;go_ret;exact ⟨CH (by rw [HI.out]),HG.out.trans g3⟩
    | false=>
      have HN:=zh (show ∀j (hj:j<T.labels.length),j<k+1->q T.labels[j]=false from λj hj hjk=>by
       by_cases t:j=k
       . subst t;rw [HV.out];exact a
       . exact HA.out j hj oo)
      clear a;go_wp2_with fail
      go_roundg (T.labels.length - (k+1))
      case measure=>rw [r.out];omega
      case rel=>exact ⟨k+1,oo,oo,by go_num,HN,HG.out.trans g3⟩
  . have HN:=zh (Lc q T.labels (λj hj=>HA j hj oo));go_wp2_with fail;go_ret;exact ⟨CH (by rw [HN.out]),HG⟩
theorem J7 (h:TabAt w A c xs T) (hs:SmallT T) (hb:Blk w g 32 #[.int .i64 id,.int .i64 unit]) (n:Nat) (hn:n=T.labels.length):
 Calls Tryz.prog 137 #[.slice A n c,.func (.func 42) #[] #[]] w λe w'=>e=.returned (.int .i64 (IR (emL) T.labels))/\Grew w w':=by
 subst hn;have HT:=zh h;have HS:=zh hs;have s:=zh hb;have x:=hs.len;obtain ⟨q,hq⟩:∃q,emL=q:=⟨_,rfl⟩;have HQ:=zh hq;rw [hq];clear h hs hb hq;go_enter Tryz.func137,Tryz.ntmps137;go_wp2_with fail
 go_loopg [8] T.labels.length (λgk i wr=>∃k:Nat,k<=T.labels.length/\gk=T.labels.length - k/\i=.int .i64 k/\(∀j (hj:j<T.labels.length),j<k->q T.labels[j]=false)/\Grew w wr)
 case atStart=>exact ⟨0,oo,oo,rfl,λj _ h=>oo,gK _⟩
 case round=>
  obtain ⟨k,hk,o,rfl,p,hg⟩:=hrel;have t:=zh o;have HA:=zh p;have HG:=zh hg;clear o p;by_cases f:k<T.labels.length
  . obtain ⟨b,y,B,d,l,rfl,z,v,hv,r,c0,c1,c2,c3,c4⟩:=(HT.hold hg).at_ f;have m:=HS.ext T.labels[k] (gS f);rw [hv] at m;have hb:=s.out;have HC:=zh (LO B d l wr r m);have HV:=zh hv;clear hv v hb r;rw [HQ.out] at HC;go_wp2_with fail;refine HC.mono ?_;rintro e w3 ⟨rfl,g3⟩;cases a:q l with
    | true=>
      have HI:=zh (N2 q T.labels k f (by rw [HV.out];exact a) HA);clear a;go_wp2_with fail;go_ret;exact ⟨CH (by rw [HI.out]),HG.out.trans g3⟩
    | false=>
      have HN:=zh (show ∀j (hj:j<T.labels.length),j<k+1->q T.labels[j]=false from λj hj hjk=>by
       by_cases u:j=k
       . subst u;rw [HV.out];exact a
       . exact HA.out j hj oo)
      clear a;go_wp2_with fail
      go_roundg (T.labels.length - (k+1))
      case measure=>rw [t.out];omega
      case rel=>exact ⟨k+1,oo,oo,by go_num,HN,HG.out.trans g3⟩
  . have HN:=zh (Lc q T.labels (λj hj=>HA j hj oo));go_wp2_with fail;go_ret;exact ⟨CH (by rw [HN.out]),HG⟩
theorem GU (h:TabAt w A c xs T) (hs:SmallT T) (hb:Blk w g 32 #[.int .i64 id,.int .i64 unit]) (n:Nat) (hn:n=T.labels.length):
 Calls Tryz.prog 135 #[.slice A n c,.func (.func 136) #[] #[.pointer (some ⟨g,0,none⟩)]] w λe w'=>e=.returned (.bool (T.labels.any (Ih id)))/\Grew w w':=by
 subst hn;have HC:=zh (Xe A c xs T g id unit w h hs hb _ rfl);have HE:=zh (Z8 (Ih id) T.labels);generalize IR (Ih id) T.labels=i at*
 clear h hs hb;go_enter Tryz.func135,Tryz.ntmps135;go_wp2_with fail;refine HC.mono ?_;rintro e w1 ⟨rfl,g1⟩;go_wp2_with fail;go_ret;exact ⟨AE (by rw [<-HE.out]),g1⟩
theorem KS (h:TabAt w A c xs T) (hs:SmallT T) (n:Nat) (hn:n=T.labels.length) (k:Int) (hk:FK T id unit=k):
 Calls Tryz.prog 146 #[.agg #[.string T.name,.int .i64 T.tracks,.slice A n c],.agg #[.int .i64 id,.int .i64 unit]] w λe w'=>e=.returned (.int .i64 k)/\Grew w w':=by
 subst hk;subst hn;have g0:=((gK w).alloc (.cells #[.string T.name,.int .i64 T.tracks,.slice A T.labels.length c] 50)).alloc (.cells #[.int .i64 id,.int .i64 unit] 32);have a:=gZ (w.alloc (.cells #[.string T.name,.int .i64 T.tracks,.slice A T.labels.length c] 50)) 32 #[.int .i64 id,.int .i64 unit] (n:=w.heap.size+1) qs;have HC:=zh (Ur A c xs T (w.heap.size+1) id unit _ (h.hold g0) hs a _ rfl);have HG:=zh g0;have HI:=zh (show FK T id unit=IR (Fd id unit) T.labels from rfl);clear h g0 hs a;go_enter Tryz.func146,Tryz.ntmps146;go_wp2_with fail;refine HC.mono ?_;rintro e w1 ⟨rfl,g1⟩;go_wp2_with fail;go_ret;exact ⟨CH (by rw [HI.out]),HG.out.trans g1⟩
end

end
section
attribute [local go_sem ↓] Go.wp_at_zero Go.wp_at_succ
open Go.RowKit
theorem Nc:(Tryz.prog.info? 100).map (λi=>(i.zero,i.size,i.bytes))=some (some (.agg #[.int .i64 0,.int .i64 0,.string ⟨#[]⟩,.string ⟨#[]⟩,.slice none 0 0]),5,72):=qk
theorem H8 (A:Option Addr) (c n:Nat) (l:List (Int × Int)) (w:World) (hn:n=l.length) (hl:l.length<=1000000) (hr:ListAt w w.heap.size 2 A (l.map EC)):
 Calls Tryz.prog 95 #[.slice A n c] w λe w'=>∃v,e=.returned v/\OwnL w' w.heap.size 136 2 v (l.map EC)/\Grew w w':=by
 subst hn;cases A with
 | none=>
   have h0:l=[]:=by
    rcases Nat.eq_zero_or_pos l.length with h0 | h0
    . exact jm.1 h0
    . obtain ⟨b,i,e,_⟩:=hr (by rw [gO];exact h0);cases e
   subst h0;have a:=λ(W:World)=>Lib.run_eql_slice_nil (P:=Tryz.prog) W 33 136 none 0 c 0 0 Tryz.underlying33;go_enter Tryz.func95,Tryz.ntmps95
   go_wp2
   go_ret;exact ⟨_,rfl,OwnL.nil _ _ _ _,gG⟩
 | some ad=>
   have a:=λ(W:World)=>Lib.run_eql_slice_nil (P:=Tryz.prog) W 33 136 (some ad) l.length c 0 0 Tryz.underlying33;have d:=ListAt.mono (B':=w.heap.size+1) (hr.keep (gM _) ((gK w).alloc (.cells #[] 136))) oo;go_enter Tryz.func95,Tryz.ntmps95;go_wp2_with (at_builtin;refine Be (by rfl) _ _ 33 rfl w.heap.size 136 2 16 _ Tryz.underlying33 Cz rfl qd _ [] (l.map EC) (by rfl) (OwnL.empty w _ _ _ (gM _) rfl) _ l.length _ (by rfl) qs (by intro r hr;obtain ⟨x,_,rfl⟩:=gV.1 hr;rfl) (by simpa using d) (by intro r hr;obtain ⟨x,_,rfl⟩:=gV.1 hr;rfl) (by simp;omega) (by simp;omega) qs ?_;intro v1 w3 f g h);go_ret;exact ⟨v1,rfl,f,Grew.own ((gK w).alloc _) g (by simp [Value.ownBlock]) (gM _)⟩
theorem Ng (A:Option Addr) (c n:Nat) (l:List (LabE)) (w:World) (hn:n=l.length) (hl:l.length<=1000000) (hr:ListAt w w.heap.size 5 A (l.map DP)):
 Calls Tryz.prog 94 #[.slice A n c] w λe w'=>∃v,e=.returned v/\OwnL w' w.heap.size 100 5 v (l.map DP)/\Grew w w':=by
 subst hn;cases A with
 | none=>
   have h0:l=[]:=by
    rcases Nat.eq_zero_or_pos l.length with h0 | h0
    . exact jm.1 h0
    . obtain ⟨b,i,e,_⟩:=hr (by rw [gO];exact h0);cases e
   subst h0;have a:=λ(W:World)=>Lib.run_eql_slice_nil (P:=Tryz.prog) W 48 100 none 0 c 0 0 Tryz.underlying48;go_enter Tryz.func94,Tryz.ntmps94
   go_wp2
   go_ret;exact ⟨_,rfl,OwnL.nil _ _ _ _,gG⟩
 | some ad=>
   have a:=λ(W:World)=>Lib.run_eql_slice_nil (P:=Tryz.prog) W 48 100 (some ad) l.length c 0 0 Tryz.underlying48;have d:=ListAt.mono (B':=w.heap.size+1) (hr.keep (gM _) ((gK w).alloc (.cells #[] 100))) oo;go_enter Tryz.func94,Tryz.ntmps94;go_wp2_with (at_builtin;refine Be (by rfl) _ _ 48 rfl w.heap.size 100 5 72 _ Tryz.underlying48 Nc rfl qd _ [] (l.map DP) (by rfl) (OwnL.empty w _ _ _ (gM _) rfl) _ l.length _ (by rfl) qs (by intro r hr;obtain ⟨x,_,rfl⟩:=gV.1 hr;rfl) (by simpa using d) (by intro r hr;obtain ⟨x,_,rfl⟩:=gV.1 hr;rfl) (by simp;omega) (by simp;omega) qs ?_;intro v1 w3 f g h);go_ret;exact ⟨v1,rfl,f,Grew.own ((gK w).alloc _) g (by simp [Value.ownBlock]) (gM _)⟩
structure TabO (w:World) (base:Nat) (v:Value) (ys:List LabE) (ls:List Lab):Prop where
 own:OwnL w base 100 5 v (ys.map DP)
 lab:∀y∈ys,LabAt w y.A y.c y.l
 far:∀y∈ys,0<y.l.ext.length->∀b off,y.A=some ⟨b,off,none⟩->v.ownBlock≠some b
 eq:ys.map (·.l)=ls
theorem TabO.hold {w w':World} {base:Nat} {v:Value} {ys:List LabE} {ls:List Lab} (h:TabO w base v ys ls) (hg:Grew w w'):TabO w' base v ys ls:=
 ⟨h.own.grew hg,λy hy=>(h.lab y hy).hold hg,h.far,h.eq⟩
theorem TabO.lower {w:World} {b b':Nat} {v:Value} {ys:List LabE} {ls:List Lab} (h:TabO w b v ys ls) (hb:b'<=b):TabO w b' v ys ls:=by
 refine ⟨⟨h.own.1,h.own.2.1,?_⟩,h.lab,h.far,h.eq⟩;rcases h.own.2.2 with h0 | ⟨g,cap,a,h1,h2,h3⟩
 . exact .inl h0
 . exact .inr ⟨g,cap,a,h1,gY hb h2,h3⟩
theorem TabO.len {w:World} {base:Nat} {v:Value} {ys:List LabE} {ls:List Lab} (h:TabO w base v ys ls):ys.length=ls.length:=by rw [<-h.eq,gO]
theorem TabO.form {w:World} {base:Nat} {v:Value} {ys:List LabE} {ls:List Lab} (h:TabO w base v ys ls):
 ∃A c,v=.slice A ls.length c/\∀(nm:ByteArray) (t:Int),nm.size<=9223372036854775807->-9223372036854775808<=t->t<=9223372036854775807->TabAt w A c ys ⟨nm,t,ls⟩:=by
 obtain ⟨A,c,hv,h1,h2,h3⟩:=h.own.listAt;rw [gO] at hv h1;rw [h.len] at hv;exact ⟨A,c,hv,λnm t hn ht0 ht1=>⟨h.lab,h3,h1,h2,h.eq,ht0,ht1,hn⟩⟩
theorem LabAt.turned {S:Nat->Prop} {w w':World} {A:Option Addr} {c:Nat} {l:Lab} (h:LabAt w A c l) (ht:Turned S w w') (hS:0<l.ext.length->∀b off,A=some ⟨b,off,none⟩->¬S b):LabAt w' A c l:=
 ⟨h.id0,h.id1,h.unit0,h.unit1,h.name,h.note,⟨h.runs.1,λh0=>by
  obtain ⟨b,off,e,hb,hc⟩:=h.runs.2 h0
  exact ⟨b,off,e,gW hb ht.size,λj cs hj i v hi=>by rw [ht.cellEq _ _ hb (hS (by simpa using h0) b off e)];exact hc j cs hj i v hi⟩⟩,h.len,h.cap⟩
theorem TabO.set_ {w w':World} {base g n cap:Nat} {ys:List LabE} {ls:List Lab} (h:TabO w base (.slice (some ⟨g,0,none⟩) n cap) ys ls) (i:Nat) (y:LabE) (hi:i<ls.length)
 (a:OwnL w' base 100 5 (.slice (some ⟨g,0,none⟩) n cap) ((ys.map DP).set i (DP y))) (ht:Turned (λk=>k=g) w w') (hy:LabAt w' y.A y.c y.l) (hf:0<y.l.ext.length->∀b off,y.A=some ⟨b,off,none⟩->b≠g):
 TabO w' base (.slice (some ⟨g,0,none⟩) n cap) (ys.set i y) (ls.set i y.l):=by
 have d:(ys.set i y).map DP=(ys.map DP).set i (DP y):=by rw [List.map_set]
 refine ⟨by rw [d];exact a,λz hz=>?_,λz hz hz0 b off e=>?_,by rw [List.map_set,h.eq]⟩
 . rcases iT hz with hz | rfl
   . exact (h.lab z hz).turned ht (λh0 b off e hk=>h.far z hz h0 b off e (by rw [hk];rfl))
   . exact hy
 . rcases iT hz with hz | rfl
   . exact h.far z hz hz0 b off e
   . intro e2;exact hf hz0 b off e (by simpa [Value.ownBlock] using e2.symm)
theorem TabO.turned {S:Nat->Prop} {w w':World} {base:Nat} {v:Value} {ys:List LabE} {ls:List Lab} (h:TabO w base v ys ls) (ht:Turned S w w') (h1:∀g,v.ownBlock=some g->¬S g) (h2:∀y∈ys,0<y.l.ext.length->∀b off,y.A=some ⟨b,off,none⟩->¬S b):TabO w' base v ys ls:=
 ⟨h.own.kept ht h1,λy hy=>(h.lab y hy).turned ht (h2 y hy),h.far,h.eq⟩
theorem QX {w:World} {base e sz g:Nat} {v:Value} {rows:List (List Value)} (h:OwnL w base e sz v rows) (hg:g<base) {A:Option Addr} {n c:Nat} (hv:v=.slice A n c):∀b off,A=some ⟨b,off,none⟩->b≠g:=by
 intro b off e;subst hv;subst e;rcases h.form with ⟨h0,_⟩ | ⟨g',cap,h1,h2,_⟩
 . cases h0
 . injection h1 with h1;injection h1 with h1;injection h1 with h1;omega
theorem FD {w:World} {base:Nat} {v:Value} {l:List (Int × Int)} (h:OwnL w base 136 2 v (l.map EC)) (a:∀r∈l,FX r):∃A c,v=.slice A l.length c/\l.length<=c/\c<=9223372036854775807/\RunsAt w w.heap.size A l:=by
 obtain ⟨A,c,hv,h1,h2,h3⟩:=h.listAt;rw [gO] at hv h1;exact ⟨A,c,hv,h1,h2,a,h3⟩
theorem PG (A:Option Addr) (c:Nat) (xs:List LabE) (T:Tab) (w:World) (h:TabAt w A c xs T) (hs:SmallT T) (n:Nat) (hn:n=T.labels.length):
 Calls Tryz.prog 139 #[.agg #[.string T.name,.int .i64 T.tracks,.slice A n c]] w λe w'=>∃v ys,e=.returned (.agg #[.string T.name,.int .i64 T.tracks,v])/\TabO w' w.heap.size v ys T.labels/\Grew w w':=by
 subst hn;have cf:=hs.len;have g0:=((gK w).alloc (.cells #[.string T.name,.int .i64 T.tracks,.slice A T.labels.length c] 50)).alloc (.cells #[.string ⟨#[]⟩,.int .i64 0,.slice none 0 0] 50);have M:=(gZ w 50 #[.string T.name,.int .i64 T.tracks,.slice A T.labels.length c] rfl).alloc (.cells #[.string ⟨#[]⟩,.int .i64 0,.slice none 0 0] 50);have N:=gZ (w.alloc (.cells #[.string T.name,.int .i64 T.tracks,.slice A T.labels.length c] 50)) 50 #[.string ⟨#[]⟩,.int .i64 0,.slice none 0 0] (n:=w.heap.size+1) qs;have h0:=h.hold g0;have hx:=h.xlen;have HC:=zh (Ng A c T.labels.length xs _ hx.symm oo h0.rows);have HT:=zh h;have HS:=zh hs;have a7:=zh M;have a8:=zh N;have a9:=zh g0;clear h hs h0 M N g0;go_enter Tryz.func139,Tryz.ntmps139;go_wp2_with fail;refine HC.mono ?_;rintro e w1 ⟨v,rfl,K,g1⟩;obtain ⟨A1,c1,hv,_,_,_⟩:=K.listAt;rw [gO,hx] at hv;subst hv;have O:=a9.out.trans g1;have ch:w.heap.size+2<=w1.heap.size:=by have:=g1.size;simp at this;omega
 have q:OwnL w1 (w.heap.size+2) 100 5 (.slice A1 T.labels.length c1) (xs.map DP):=by have:=K;simp only [World.alloc,Array.size_push] at this;exact this
 have f:Grew w (w1.setCell ⟨w.heap.size,2,none⟩ (.slice A1 T.labels.length c1)):=O.setCell (gM _) _;have P:OwnL (w1.setCell ⟨w.heap.size,2,none⟩ (.slice A1 T.labels.length c1)) (w.heap.size+2) 100 5 (.slice A1 T.labels.length c1) (xs.map DP):=q.far (λhk=>by have:=(q.own_ge hk).1;simp at this;omega) _
 have a:TabO (w1.setCell ⟨w.heap.size,2,none⟩ (.slice A1 T.labels.length c1)) (w.heap.size+2) (.slice A1 T.labels.length c1) xs T.labels:=⟨P,λy hy=>(HT.lab y hy).hold f,λy hy h0 b off e hk=>by
  have h9:=(q.own_ge hk).1
  obtain ⟨b',b6,e',b9,_⟩:=(HT.lab y hy).runs.2 (by simpa using h0)
  rw [e] at e'
  injection e' with e'
  injection e' with e'
  omega,HT.eq⟩
 have hb:=a7.grew g1;have hc:=a8.grew g1;have hz:=hb.lt;have x2:=hb.cell 2;have f2:=hb.frozen 2;have j:=zh a
 have r:=zh (show ∀y∈xs,0<y.l.ext.length->∀b off,y.A=some ⟨b,off,none⟩->b<w.heap.size\/w.heap.size+2<=b from λy hy h0 b off e=>by
  obtain ⟨b',b6,e',b9,_⟩:=(HT.lab y hy).runs.2 (by simpa using h0)
  rw [e] at e'
  injection e' with e'
  injection e' with e'
  omega)
 have bb:=zh f;have bc:=zh (hb.set_ 2 (.slice A1 T.labels.length c1));have bd:=zh (hc.far (p:=⟨w.heap.size,2,none⟩) qs (.slice A1 T.labels.length c1));clear K q P a HC f hb hc O;go_wp2_with fail
 go_loopg [11] T.labels.length (λgk i wr=>∃(k:Nat) (ys:List LabE),k<=T.labels.length/\gk=T.labels.length - k/\i=.int .i64 k/\TabO wr (w.heap.size+2) (.slice A1 T.labels.length c1) ys T.labels/\Blk wr w.heap.size 50 #[.string T.name,.int .i64 T.tracks,.slice A1 T.labels.length c1]/\Blk wr (w.heap.size+1) 50 #[.string ⟨#[]⟩,.int .i64 0,.slice none 0 0]/\(∀y∈ys,0<y.l.ext.length->∀b off,y.A=some ⟨b,off,none⟩->b<w.heap.size\/w.heap.size+2<=b)/\Grew w wr)
 case atStart=>exact ⟨0,xs,oo,oo,rfl,j,bc,bd,r,bb⟩
 case round=>
  obtain ⟨k,ys,hk,a0,rfl,a,hb,hc,a5,hg⟩:=hrel;have r:=zh a5;clear a5;have bf:=zh a0;clear a0;have C:=a.len;have Q:=hb.lt;have bk:=hc.lt;have x2:=hb.cell 2;by_cases J:k<T.labels.length
  . obtain ⟨g,cap,hv,cp,L⟩:∃g cap,Value.slice A1 T.labels.length c1=.slice (some ⟨g,0,none⟩) T.labels.length cap/\w.heap.size+2<=g/\g<wr.heap.size:=by
     rcases a.own.form with ⟨_,h0⟩ | ⟨g,cap,hv,h1,h2,_⟩
     . have:=iH length h0;rw [gO,C,length_nil] at this;omega
     . rw [gO,C] at hv;exact ⟨g,cap,hv,h1,h2⟩
    injection hv with hv1 _ hv2;subst hv1;subst hv2;have D:k<ys.length:=oo;have s:(ys.map DP)[k]? =some (DP ys[k]):=by rw [gP,gJ D];rfl
    have E:=a.lab ys[k] (gS D)
    have t:T.labels[k]=ys[k].l:=by
     have:(ys.map (·.l))[k]? =some ys[k].l:=by rw [gP,gJ D];rfl
     rw [a.eq,gJ J] at this;exact Option.some.inj this
    have bl:=HS.ext T.labels[k] (gS J);obtain ⟨B,d,l,hy⟩:∃B d l,ys[k]=⟨B,d,l⟩:=⟨_,_,_,rfl⟩;rw [hy] at s E t;rw [t] at bl;have x4:wr.cell? ⟨g,k*5+4,none⟩=some (.slice B l.ext.length d):=a.own.cell s (i:=4) rfl;have f4:=a.own.frozen (k*5+4);have j:=zh a;have HB:=zh hb;have HC:=zh hc;have HG:=zh hg;have F:=zh E;have R:=zh s;have bn:=zh t
    have U:∀w1 w2:World,Grew w1 w2->(w1.cell? ⟨w.heap.size,2,none⟩=some (.slice (some ⟨g,0,none⟩) T.labels.length c1)/\w1.cell? ⟨g,k*5+4,none⟩=some (.slice B l.ext.length d)/\w.heap.size<w1.heap.size/\g<w1.heap.size)->(w2.cell? ⟨w.heap.size,2,none⟩=some (.slice (some ⟨g,0,none⟩) T.labels.length c1)/\w2.cell? ⟨g,k*5+4,none⟩=some (.slice B l.ext.length d)/\w.heap.size<w2.heap.size/\g<w2.heap.size):=λw1 w2 h9 ⟨a1,a2,a3,a4⟩=>by
     rw [h9.cellEq _ _ a3,h9.cellEq _ _ a4];exact ⟨a1,a2,gW a3 h9.size,gW a4 h9.size⟩
    have br:=zh U;clear a hb hc hg E s t hy C U;go_wp2_with fail;refine AB [12] (λw':World=>w'.cell? ⟨w.heap.size,2,none⟩=some (.slice (some ⟨g,0,none⟩) T.labels.length c1)/\w'.cell? ⟨g,k*5+4,none⟩=some (.slice B l.ext.length d)/\w.heap.size<w'.heap.size/\g<w'.heap.size) qk ?_;have hS:(λw':World=>w'.cell? ⟨w.heap.size,2,none⟩=some (.slice (some ⟨g,0,none⟩) T.labels.length c1)/\w'.cell? ⟨g,k*5+4,none⟩=some (.slice B l.ext.length d)/\w.heap.size<w'.heap.size/\g<w'.heap.size) wr.drew:=⟨x2,x4,Q,L⟩;refine tQ 0 14 ?_;refine tT 1 (some 15) hS ?_;refine tQ 2 16 ?_;refine tQ 3 17 ?_;refine tT 4 (some 18) hS ?_;refine tQ 5 19 ?_;refine tQ 6 20 ?_;refine tQ 7 21 ?_;refine tT 8 (some 22) hS ?_;refine tO 9 λK' hK=>?_;go_wp2_with fail;refine (H8 B d l.ext.length l.ext _ rfl oo (F.hold ((gK wr).drew)).runs.2).mono ?_;rintro e w4 ⟨v4,rfl,z,g4⟩;obtain ⟨A4,c4,ca,cb,ce,a6⟩:=FD z F.runs.1;subst ca;have m:Grew wr w4:=(gK wr).drew.trans g4;have V:=QX z (show g<wr.drew.heap.size from L) rfl;have W:=zh V;have bs:=zh (show ∀b off,A4=some ⟨b,off,none⟩->wr.drew.heap.size<=b from λb off e=>(z.own_ge (by rw [e];rfl)).1);have bt:=zh a6;clear a6 z V;go_wp2_with fail;refine hK.out _ _ (.inr (br _ _ g4)) ?_;clear hK hS x2 x4 f4;have ci:w.heap.size<w4.heap.size:=gW Q m.size;have cj:g<w4.heap.size:=gW L m.size;have u:=j.hold m;have x4:w4.cell? ⟨g,k*5+4,none⟩=some (.slice B l.ext.length d):=u.own.cell R (i:=4) rfl;have f4:=u.own.frozen (k*5+4);have X:=zh u;have G:=zh m;clear u m g4;refine tQ 10 24 ?_;refine tQ 11 25 ?_;refine tO 12 λK' hK=>?_;go_wp2_with fail;refine hK.out _ _ (.inl rfl) ?_;refine AA qk ?_ _;have Y:=(HB.grew G).far (p:=⟨g,k*5+4,none⟩) (by simp;omega) (.slice A4 l.ext.length c4);have Z:=(HC.grew G).far (p:=⟨g,k*5+4,none⟩) (by simp;omega) (.slice A4 l.ext.length c4);have ad:=(HG.out.trans G).setCell (p:=⟨g,k*5+4,none⟩) (by simp;omega) (.slice A4 l.ext.length c4);have ae:=R.out;have al:=X.own.set_ ae (i:=4) (o:=k*5+4) qd rfl (.slice A4 l.ext.length c4);have H:Turned (λx=>x=g) w4 (w4.setCell ⟨g,k*5+4,none⟩ (.slice A4 l.ext.length c4)):=(iR (λx=>x=g) w4).setCell (p:=⟨g,k*5+4,none⟩) (λ_=>rfl) _
    have an:LabAt (w4.setCell ⟨g,k*5+4,none⟩ (.slice A4 l.ext.length c4)) A4 c4 l:=by
     have hl:=F.out;have:LabAt w4 A4 c4 l:=⟨hl.id0,hl.id1,hl.unit0,hl.unit1,hl.name,hl.note,bt,cb,ce⟩;exact this.turned H (λ_ b off e hk=>W b off e hk)
    have I:=X.set_ k ⟨A4,c4,l⟩ J (by simpa [DP] using al) H an (λ_ b off e=>W b off e);have av:T.labels.set k l=T.labels:=by rw [<-bn.out];exact List.set_getElem_self ..
    rw [av] at I;have bv:=zh I;have bx:=zh Y;have b2:=zh Z;have b3:=zh ad
    have b4:=zh (show ∀y∈ys.set k (⟨A4,c4,l⟩:LabE),0<y.l.ext.length->∀b off,y.A=some ⟨b,off,none⟩->b<w.heap.size\/w.heap.size+2<=b from λy hy h0 b off e=>by
     rcases iT hy with hy | rfl
     . exact r.out y hy h0 b off e
     . exact .inr (gY (show w.heap.size+2<=wr.drew.heap.size from bk) (bs.out b off e)))
    clear Y Z ad ae al H an I av x4 f4;go_wp2_with fail
    go_roundg (T.labels.length - (k+1))
    case measure=>rw [bf.out];omega
    case rel=>exact ⟨k+1,_,oo,oo,by go_num,bv,bx,b2,b4,b3⟩
  . have b0:=hb.cell 0;have b1:=hb.cell 1;have j:=zh a;have HG:=zh hg;have y0:=hc.cell 0;have y1:=hc.cell 1;have y2:=hc.cell 2;have cl:=hc.frozen 0;have cm:=hc.frozen 1;have co:=hc.frozen 2;have b5:=zh (show ∀g,(Value.slice A1 T.labels.length c1).ownBlock=some g->¬g=w.heap.size+1 from λg f=>by have:=(a.own.own_ge f).1;omega);clear a hg hb hc;go_wp2_with fail;refine gw (by first | (simp [*,results,Tryz.results139,go_sem];rfl) | simp [*,results,Tryz.results139,go_sem]) rfl ?_;exact ⟨_,_,rfl,(j.turned (S:=λk=>k=w.heap.size+1) (gT) b5 (λy hy h0 b off e hk=>by have:=r.out y hy h0 b off e;omega)).lower oo,by have hg:=HG.out;exact gG⟩

end
section
attribute [local go_sem ↓] Go.wp_at_zero Go.wp_at_succ
open Go.Maps (Keyed)
open Go.RowKit
def JC (p:Int × Bool):Value:=.agg #[.int .i64 p.1,.bool p.2]
theorem R2 (a b:Int × Bool) (h:JC a=JC b):a=b:=by
 unfold JC at h;injection h with h;injection h with h;injection h with h1 h2;injection h2 with h2 _;injection h1 with _ h1;injection h2 with h2;exact Prod.ext h1 h2
theorem YW:∃m,Tryz.prog.types.size=m+1:=⟨Tryz.prog.types.size - 1,qk⟩
theorem Nt:Keyed Tryz.prog 212:=Keyed.of_law (deep_law_laid qk (m:=2) oo (iQ qk) qk qk)
theorem Qs:Tryz.prog.keyType 212=true:=qk
theorem OI:Tryz.prog.cellsOf 212=2:=qk
theorem YZ:Tryz.prog.cellsOf 3=1:=qk
theorem Ut:Tryz.prog.cellsOf 4=1:=qk
theorem bZ (p:Int × Bool) (h1:-9223372036854775808<=p.1) (h2:p.1<=9223372036854775807):∃x,keyOf Tryz.prog 212 (JC p)=some x:=by
 obtain ⟨a,b⟩:=p;have wa:(Lit.int .i64 a).wf=true:=WalkArith.wf_i64 ⟨h1,h2⟩;have wb:(Lit.bool b).wf=true:=rfl;obtain ⟨m,hm⟩:=YW;refine ⟨.string (keyBytes [.int .i64 a,.bool b]),?_⟩;unfold keyOf JC;simp only [Tryz.underlying212];rw [if_pos (by simp [Qs,Value.formed,Tryz.underlying212,OI]),hm];unfold Program.keyLits;simp only [Tryz.underlying212,Value.cells];rw [if_pos (by rw [OI];exact ⟨rfl,qk⟩)];simp [Program.keyLits,Tryz.underlying3,Tryz.underlying4,YZ,Ut,wa,wb]
theorem Wa (w:World):(zeroValue 4).run Tryz.prog w=.ok (.bool false) w:=qk
def Jt (ks:List (Int × Bool)) (a:Int × Bool):Option Value:=if a∈ks then some (.bool true) else none
theorem UF (ks:List (Int × Bool)) (a x:Int × Bool):upd (Jt ks) a (some (.bool true)) x=Jt (ks++[a]) x:=by
 unfold Jt;by_cases h:x=a
 . subst h;rw [Ea];simp
 . rw [Ey _ _ h];simp [h]
theorem MM {w:World} {base e sz m:Nat} {v:Value} {rows:List (List Value)} {F:Int × Bool->Option Value} (h:OwnL w base e sz v rows) (hm:MapIs Tryz.prog 212 JC w m F):v.ownBlock≠some m:=by
 rcases h.2.2 with ⟨rfl,_⟩ | ⟨g',cap,b,rfl,_,hh,_⟩
 . simp [Value.ownBlock]
 . intro he;have:g'=m:=by simpa [Value.ownBlock] using he
   subst this;obtain ⟨es,a,l,hb,_⟩:=hm;rw [hh] at hb;cases hb
theorem SW {w:World} {g m:Nat} {t:TypeId} {cs:Array Value} {F:Int × Bool->Option Value} (h:Blk w g t cs) (hm:MapIs Tryz.prog 212 JC w m F):¬g=m:=by
 rintro rfl;obtain ⟨es,a,l,hb,_⟩:=hm;unfold Blk at h;rw [h] at hb;cases hb
theorem Gd (l:List (Int × Int)):∀r∈l.map EC,r.length=2:=by
 intro r hr;obtain ⟨x,_,rfl⟩:=gV.1 hr;rfl
theorem GZ (l:List (Int × Int)):∀r∈l.map EC,r.all (·.oneCell')=true:=by
 intro r hr;obtain ⟨x,_,rfl⟩:=gV.1 hr;rfl
theorem EH (A:Option Addr) (c:Nat) (xs:List LabE) (T:Tab) (w:World) (h:TabAt w A c xs T) (hs:SmallT T) (n:Nat) (hn:n=T.labels.length):
 Calls Tryz.prog 57 #[.agg #[.string T.name,.int .i64 T.tracks,.slice A n c]] w λe w'=>e=.returned (.bool (BG T))/\Grew w w':=by
 subst hn;have U:=h.name;have c7:=hs.len;have V:=zh ((gK w).alloc (.cells #[.string T.name,.int .i64 T.tracks,.slice A T.labels.length c] 50));have f:=zh (gZ w 50 #[.string T.name,.int .i64 T.tracks,.slice A T.labels.length c] rfl);have a6:=zh h;have HS:=zh hs;clear h hs;by_cases hz:okT T.tracks=true;rotate_left
 . have a7:okT T.tracks=false:=by simpa using hz
   have HE:=zh (Ee T (by unfold LI;rw [a7];rfl));have F:=zh (show ttS T.tracks=0 from by unfold ttS;rw [if_neg hz]);clear hz a7;go_enter Tryz.func57,Tryz.ntmps57;go_wp2_with fail;refine AB [] (λw':World=>w'.cell? ⟨w.heap.size,0,none⟩=some (.string T.name)/\w'.cell? ⟨w.heap.size,1,none⟩=some (.int .i64 T.tracks)/\w'.cell? ⟨w.heap.size,2,none⟩=some (.slice A T.labels.length c)) qk ?_;have hS:(λw':World=>w'.cell? ⟨w.heap.size,0,none⟩=some (.string T.name)/\w'.cell? ⟨w.heap.size,1,none⟩=some (.int .i64 T.tracks)/\w'.cell? ⟨w.heap.size,2,none⟩=some (.slice A T.labels.length c)) (w.alloc (.cells #[.string T.name,.int .i64 T.tracks,.slice A T.labels.length c] 50)).drew:=⟨f.drew.cell 0,f.drew.cell 1,f.drew.cell 2⟩;refine tQ 0 8 ?_;refine tT 1 (some 9) hS ?_;refine tO 2 λK' hK=>?_;go_wp2_with fail;refine (Bo _ _).mono ?_;rintro e w1 ⟨rfl,rfl⟩;rw [F.out];go_wp2_with fail;refine hK.out _ _ (.inr (λh=>h)) ?_;clear hK;refine tQ 3 11 ?_;refine tQ 4 12 ?_;refine tU 5 (some 13) ?_;refine tU 6 (some 14) ?_;refine tU 7 (some 15) ?_;refine tU 8 (some 16) ?_;refine tQ 9 17 ?_;refine tQ 10 18 ?_;refine tU 11 (some 19) ?_;refine tU 12 (some 20) ?_;refine tU 13 (some 21) ?_;refine tU 14 (some 22) ?_;refine tU 15 (some 23) ?_;refine tU 16 (some 24) ?_;refine tU 17 (some 25) ?_;refine tQ 18 26 ?_;refine AA qk ?_ _;go_wp2_with fail;go_ret;exact ⟨AE (by rw [HE.out]),V.drew⟩
 obtain ⟨tt,a5⟩:∃tt,ttS T.tracks=tt:=⟨_,rfl⟩;have F:=zh a5
 have HZ:=zh (show (tt==0)=false from by
  rw [iD,<-a5]
  unfold ttS
  have:=BT hz
  rw [if_pos hz]
  omega)
 have b3:=zh hz;clear hz a5;cases hn:Cs T.name with
 | false=>
   have HN:=zh hn;have HE:=zh (Ee T (by unfold LI;rw [hn];simp));clear hn;go_enter Tryz.func57,Tryz.ntmps57;go_wp2_with fail;refine AB [] (λw':World=>w'.cell? ⟨w.heap.size,0,none⟩=some (.string T.name)/\w'.cell? ⟨w.heap.size,1,none⟩=some (.int .i64 T.tracks)/\w'.cell? ⟨w.heap.size,2,none⟩=some (.slice A T.labels.length c)) qk ?_;have hS:(λw':World=>w'.cell? ⟨w.heap.size,0,none⟩=some (.string T.name)/\w'.cell? ⟨w.heap.size,1,none⟩=some (.int .i64 T.tracks)/\w'.cell? ⟨w.heap.size,2,none⟩=some (.slice A T.labels.length c)) (w.alloc (.cells #[.string T.name,.int .i64 T.tracks,.slice A T.labels.length c] 50)).drew:=⟨f.drew.cell 0,f.drew.cell 1,f.drew.cell 2⟩;refine tQ 0 8 ?_;refine tT 1 (some 9) hS ?_;refine tO 2 λK' hK=>?_;go_wp2_with fail;refine (Bo _ _).mono ?_;rintro e w1 ⟨rfl,rfl⟩;rw [F.out];go_wp2_with fail;refine hK.out _ _ (.inr (λh=>h)) ?_;clear hK;refine tQ 3 11 ?_;refine tQ 4 12 ?_;rw [HZ.out];refine tQ 5 13 ?_;refine tT 6 (some 14) hS ?_;refine tO 7 λK' hK=>?_;go_wp2_with fail;refine (Cj _ _ U).mono ?_;rintro e w1 ⟨rfl,rfl⟩;rw [HN.out];go_wp2_with fail;refine hK.out _ _ (.inr (λh=>h)) ?_;clear hK;refine tQ 8 16 ?_;refine tQ 9 17 ?_;refine tQ 10 18 ?_;refine tU 11 (some 19) ?_;refine tU 12 (some 20) ?_;refine tU 13 (some 21) ?_;refine tU 14 (some 22) ?_;refine tU 15 (some 23) ?_;refine tU 16 (some 24) ?_;refine tU 17 (some 25) ?_;refine tQ 18 26 ?_;refine AA qk ?_ _;go_wp2_with fail;go_ret;exact ⟨AE (by rw [HE.out]),V.drew⟩
 | true=>
   have HN:=zh hn;clear hn;obtain ⟨sl,E⟩:∃sl,Cg T.tracks=sl:=⟨_,rfl⟩;have a8:=zh E;by_cases hl:(T.labels.length:Int)=sl;rotate_left
   . have HL:=zh (show ((T.labels.length:Int) != sl)=true from by rw [iW];exact hl);have HE:=zh (Ee T (by unfold LI;rw [E,iC hl];simp));clear hl E;go_enter Tryz.func57,Tryz.ntmps57;go_wp2_with fail;refine AB [] (λw':World=>w'.cell? ⟨w.heap.size,0,none⟩=some (.string T.name)/\w'.cell? ⟨w.heap.size,1,none⟩=some (.int .i64 T.tracks)/\w'.cell? ⟨w.heap.size,2,none⟩=some (.slice A T.labels.length c)) qk ?_;have hS:(λw':World=>w'.cell? ⟨w.heap.size,0,none⟩=some (.string T.name)/\w'.cell? ⟨w.heap.size,1,none⟩=some (.int .i64 T.tracks)/\w'.cell? ⟨w.heap.size,2,none⟩=some (.slice A T.labels.length c)) (w.alloc (.cells #[.string T.name,.int .i64 T.tracks,.slice A T.labels.length c] 50)).drew:=⟨f.drew.cell 0,f.drew.cell 1,f.drew.cell 2⟩;refine tQ 0 8 ?_;refine tT 1 (some 9) hS ?_;refine tO 2 λK' hK=>?_;go_wp2_with fail;refine (Bo _ _).mono ?_;rintro e w1 ⟨rfl,rfl⟩;rw [F.out];go_wp2_with fail;refine hK.out _ _ (.inr (λh=>h)) ?_;clear hK;refine tQ 3 11 ?_;refine tQ 4 12 ?_;rw [HZ.out];refine tQ 5 13 ?_;refine tT 6 (some 14) hS ?_;refine tO 7 λK' hK=>?_;go_wp2_with fail;refine (Cj _ _ U).mono ?_;rintro e w1 ⟨rfl,rfl⟩;rw [HN.out];go_wp2_with fail;refine hK.out _ _ (.inr (λh=>h)) ?_;clear hK;refine tQ 8 16 ?_;refine tQ 9 17 ?_;refine tQ 10 18 ?_;refine tQ 11 19 ?_;refine tT 12 (some 20) hS ?_;refine tT 13 (some 21) hS ?_;refine tQ 14 22 ?_;refine tT 15 (some 23) hS ?_;refine tO 16 λK' hK=>?_;go_wp2_with fail;refine (LV _ _).mono ?_;rintro e w1 ⟨rfl,rfl⟩;rw [a8.out];go_wp2_with fail;refine hK.out _ _ (.inr (λh=>h)) ?_;clear hK;refine tQ 17 25 ?_;rw [HL.out];refine tQ 18 26 ?_;refine AA qk ?_ _;go_wp2_with fail;go_ret;exact ⟨AE (by rw [HE.out]),V.drew⟩
   have HL:=zh (show ((T.labels.length:Int) != sl)=false from by rw [jw];exact hl)
   have c8:T.labels.length<=31:=by
    have h1:=Ce T.tracks;unfold Cg at E;omega
   have b4:=zh (show LI T=true from by unfold LI;rw [b3.out,HN.out,E,iB hl];rfl);clear hl E;go_enter Tryz.func57,Tryz.ntmps57;go_wp2_with fail;refine AB [] (λw':World=>w'.cell? ⟨w.heap.size,0,none⟩=some (.string T.name)/\w'.cell? ⟨w.heap.size,1,none⟩=some (.int .i64 T.tracks)/\w'.cell? ⟨w.heap.size,2,none⟩=some (.slice A T.labels.length c)) qk ?_;have hS:(λw':World=>w'.cell? ⟨w.heap.size,0,none⟩=some (.string T.name)/\w'.cell? ⟨w.heap.size,1,none⟩=some (.int .i64 T.tracks)/\w'.cell? ⟨w.heap.size,2,none⟩=some (.slice A T.labels.length c)) (w.alloc (.cells #[.string T.name,.int .i64 T.tracks,.slice A T.labels.length c] 50)).drew:=⟨f.drew.cell 0,f.drew.cell 1,f.drew.cell 2⟩;refine tQ 0 8 ?_;refine tT 1 (some 9) hS ?_;refine tO 2 λK' hK=>?_;go_wp2_with fail;refine (Bo _ _).mono ?_;rintro e w1 ⟨rfl,rfl⟩;rw [F.out];go_wp2_with fail;refine hK.out _ _ (.inr (λh=>h)) ?_;clear hK;refine tQ 3 11 ?_;refine tQ 4 12 ?_;rw [HZ.out];refine tQ 5 13 ?_;refine tT 6 (some 14) hS ?_;refine tO 7 λK' hK=>?_;go_wp2_with fail;refine (Cj _ _ U).mono ?_;rintro e w1 ⟨rfl,rfl⟩;rw [HN.out];go_wp2_with fail;refine hK.out _ _ (.inr (λh=>h)) ?_;clear hK;refine tQ 8 16 ?_;refine tQ 9 17 ?_;refine tQ 10 18 ?_;refine tQ 11 19 ?_;refine tT 12 (some 20) hS ?_;refine tT 13 (some 21) hS ?_;refine tQ 14 22 ?_;refine tT 15 (some 23) hS ?_;refine tO 16 λK' hK=>?_;go_wp2_with fail;refine (LV _ _).mono ?_;rintro e w1 ⟨rfl,rfl⟩;rw [a8.out];go_wp2_with fail;refine hK.out _ _ (.inr (λh=>h)) ?_;clear hK;refine tQ 17 25 ?_;rw [HL.out];refine tQ 18 26 ?_;refine AA qk ?_ _;have b5:=zh (show MapIs Tryz.prog 212 JC ((w.alloc (.cells #[.string T.name,.int .i64 T.tracks,.slice A T.labels.length c] 50)).drew.alloc (.map #[] 0)) (w.heap.size+1) (Jt []) from (MapIs.made _ qs).congr (λa=>by simp [Jt]));have a9:=f.drew.alloc (.map #[] 0);have x2:=a9.cell 2;have c9:=@run_makeMap Tryz.prog;go_wp2_with fail
   go_loopg [3,31] T.labels.length (λgk ov i wr=>∃k:Nat,k<=T.labels.length/\gk=T.labels.length - k/\i=.int .i64 k/\OwnL wr w.heap.size 136 2 ov ((BA (T.labels.take k)).map EC)/\MapIs Tryz.prog 212 JC wr (w.heap.size+1) (Jt (CQ (T.labels.take k)))/\Blk wr w.heap.size 50 #[.string T.name,.int .i64 T.tracks,.slice A T.labels.length c]/\(∀j (hj:j<T.labels.length),j<k->okL T.tracks T.labels[j]=true)/\(CQ (T.labels.take k)).Nodup/\(BA (T.labels.take k)).length<=16*k/\Grew w wr)
   case atStart=>exact ⟨0,oo,oo,rfl,OwnL.nil _ _ _ _,b5,a9,λj _ h=>oo,by simp [CQ],by simp [BA],gG⟩
   case round=>
    obtain ⟨k,hk,p,rfl,K,hm,hb,b1,R,cz,hg⟩:=hrel;have bb:=zh p;have HA:=zh b1;have W:=zh R;have bc:=zh K;have HM:=zh hm;have HB:=zh hb;have HG:=zh hg;have dd:=hb.lt;have df:=hm.lt;clear p b1 R x2;by_cases J:k<T.labels.length
    . obtain ⟨b,d2,B,d,l,rfl,d3,c5,hv,L,c0,c1,c2,c3,c4⟩:=(a6.hold hg).at_ J;have bd:=HS.ext T.labels[k] (gS J);rw [hv] at bd;have X:=Tr T.labels k J;have Y:=Hy T.labels k J;rw [hv] at X Y;have Z:Grew wr (wr.alloc (.cells #[.int .i64 l.id,.int .i64 l.unit,.string l.name,.string l.note,.slice B l.ext.length d] 100)):=(gK wr).alloc _;have HE:=zh (LO B d l _ (L.hold Z) bd);have HV:=zh hv;have bf:=zh L;have ad:=zh X;have M:=zh Y;have bk:=zh (gZ wr 100 #[.int .i64 l.id,.int .i64 l.unit,.string l.name,.string l.note,.slice B l.ext.length d] rfl);have b6:=zh Z;have b9:=L.id0;have ca:=L.id1;clear hv c5 L X Y Z K hm hb hg;go_wp2_with fail;refine HE.mono ?_;rintro e w3 ⟨rfl,g3⟩;have t:=b6.out.trans g3;cases z:emL l with
      | true=>
        have ae:=zh (show okL T.tracks l=true from by unfold okL;rw [z];rfl);have HX:=zh (Vk l z);have G:=zh z;have N:=zh t;clear z g3 t c0 c1 c2 c3 c4;go_wp2_with fail
        go_roundg (T.labels.length - (k+1))
        case measure=>rw [bb.out];omega
        case rel=>
         refine ⟨k+1,oo,oo,by go_num,?_,?_,HB.grew N,?_,?_,?_,HG.out.trans N⟩
         . rw [M.out,HX.out,append_nil];exact bc.grew N
         . rw [ad.out,if_pos G.out,append_nil];exact HM.grew N
         . intro j hj cx;by_cases a3:j=k
           . subst a3;rw [HV.out];exact ae.out
           . exact HA.out j hj oo
         . rw [ad.out,if_pos G.out,append_nil];exact W.out
         . rw [M.out,HX.out,append_nil];omega
      | false=>
        have G:=zh z;have m:=bk.grew g3;have al:=HB.grew t;have x0:=m.cell 0;have x1:=m.cell 1;have x2:=m.cell 2;have x3:=m.cell 3;have x4:=m.cell 4;have y1:=al.cell 1;have dk:=m.lt;have ds:=al.lt;obtain ⟨q,hq⟩:∃q,decide (l.unit>0)=q:=⟨_,rfl⟩;have p:Grew w3 (w3.alloc (.cells #[.int .i64 l.id,.bool q] 212)):=(gK w3).alloc _;have cb:=zh (LY B d l T.tracks _ (((bf.hold t)).hold p) oo);have ce:=zh (gZ w3 212 #[.int .i64 l.id,.bool q] rfl);have cf:=zh (show Gs l=(l.id,q) from by unfold Gs;rw [<-hq]);have ch:=zh (t.trans p);have ci:=zh p;have cj:=zh m;clear z g3 t c0 c1 c2 c3 c4 p m al bk;go_wp2_with fail;refine cb.mono ?_;rintro e w5 ⟨rfl,g5⟩;have u:=ch.out.trans g5;have r:=ce.grew g5;have v:=(cj.grew ci).grew g5;have z0:=r.cell 0;have z1:=r.cell 1;have z4:=v.cell 4;have d0:=r.lt;have d1:=v.lt;cases C:BW l T.tracks with
        | false=>
          have HF:=zh (Lt T k J (by rw [HV.out];unfold okL;rw [G.out,C];rfl));have o:=zh u;clear C u r v g5;go_wp2_with fail;go_ret;exact ⟨AE (by rw [HF.out]),HG.out.trans o⟩
        | true=>
          obtain ⟨d4,_,d5,d6⟩:=J3 l T.tracks C;have ae:=zh (show okL T.tracks l=true from by unfold okL;rw [C];simp);have an:=zh (show CQ (T.labels.take (k+1))=CQ (T.labels.take k)++[(l.id,q)] from by rw [ad.out,if_neg (by rw [G.out];simp),cf.out]);obtain ⟨kl,S⟩:=bZ (l.id,q) b9 ca;have H:=(HM.grew u).lookup_val Nt R2 Tryz.underlying210 (Wa _) (l.id,q) S;have o:=zh u;have cl:=zh r;have cm:=zh v;have co:=zh S;by_cases y:(l.id,q)∈CQ (T.labels.take k)
          . have HF:=zh (La T (λR=>by
             have h1:=Ll T.labels (k+1) R
             rw [an.out] at h1
             exact (jA.1 h1).2.2 _ y _ (gQ.2 rfl) rfl))
            have I:(Jt (CQ (T.labels.take k)) (l.id,q)).getD (.bool false)=.bool true:=by unfold Jt;rw [if_pos y];rfl
            rw [I] at H;unfold JC at H;clear C u r v g5 S y I;go_wp2_with fail;go_ret;exact ⟨AE (by rw [HF.out]),HG.out.trans o⟩
          . have I:(Jt (CQ (T.labels.take k)) (l.id,q)).getD (.bool false)=.bool false:=by unfold Jt;rw [if_neg y];rfl
            rw [I] at H;unfold JC at H
            have cp:=zh (show (CQ (T.labels.take (k+1))).Nodup from by
             rw [an.out,jA]
             exact ⟨W,qs,λa ha b hb he=>y (by rw [gQ.1 hb] at he;rw [<-he];exact ha)⟩)
            clear C u r v g5 S y I;go_wp2_with fail;refine AB [6] (λw':World=>w'.cell? ⟨w3.heap.size,0,none⟩=some (.int .i64 l.id)/\w'.cell? ⟨w3.heap.size,1,none⟩=some (.bool q)/\w'.cell? ⟨wr.heap.size,4,none⟩=some (.slice B l.ext.length d)) qk ?_;have hS:(λw':World=>w'.cell? ⟨w3.heap.size,0,none⟩=some (.int .i64 l.id)/\w'.cell? ⟨w3.heap.size,1,none⟩=some (.bool q)/\w'.cell? ⟨wr.heap.size,4,none⟩=some (.slice B l.ext.length d)) w5.drew:=⟨z0,z1,z4⟩;refine tQ 0 53 ?_;refine tT 1 (some 54) hS ?_;refine tQ 2 55 ?_;refine tQ 3 56 ?_;refine tT 4 (some 57) hS ?_;refine tO 5 λK' hK=>?_;have av:=cl.out;have a0:=cm.out;have O:=HB.grew o;have s:=bc.grew o;have P:=HM.grew o;have n1:=s.ne_blk av qd;have n2:=s.ne_blk a0 qd;have n3:=s.ne_blk O qd;have n4:=MM s P;have bl:=s.row_ge;have bn:=(bf.hold o).runs.2;have br:=SW O P;have bs:=zh (HG.out.trans o);refine KR (.tmp 55) (.tmp 57) 33 rfl w.heap.size 136 2 16 _ Tryz.underlying33 Cz rfl qd _ _ (l.ext.map EC) rfl s.drew B l.ext.length d rfl (by rw [gO]) (Gd _) bn (GZ _) (by rw [gO];omega) (by rw [gO];omega) bs.size ?_;intro v6 w6 a4 D cy;have a1:=av.drew.own D n1;have bt:=a0.drew.own D n2;have bv:=O.drew.own D n3;have a2:=P.drew.grown D n4;have bx:Grew w w6:=bs.drew.own D bl (gM _);refine hK.out _ _ (.inr (λ_=>⟨a1.cell 0,a1.cell 1,bt.cell 4⟩)) ?_;clear hK;refine tO 6 λK' hK=>?_;refine Dx (.tmp 53) (.tmp 54) (.const (.bool true)) 210 rfl 4 Nt R2 Tryz.underlying210 rfl a2 (l.id,q) co (.bool true) rfl rfl ?_;intro w7 b0 Q;refine hK.out _ _ (.inl rfl) ?_;refine tQ 7 3 ?_;refine AA qk ?_ _;have cq:=zh (a4.kept Q (λg hg2 e=>MM a4 a2 (by rw [hg2,e])));have cs:=zh (bv.turned Q (λe=>br e));have cu:=zh (bx.turn Q (λi e=>oo));have cv:=zh b0;clear hK av a0 O s P n1 n2 n3 n4 bl bn a4 D cy a1 bt bv a2 bx b0 Q H x0 x1 x2 x3 x4 y1 z0 z1 z4 hS br;go_wp2_with fail
            go_roundg (T.labels.length - (k+1))
            case measure=>rw [bb.out];omega
            case rel=>
             refine ⟨k+1,oo,oo,by go_num,?_,?_,cs,?_,cp,?_,cu⟩
             . rw [M.out,gm];exact cq.out
             . rw [an.out];exact cv.congr (λx=>UF _ _ _)
             . intro j hj cx;by_cases a3:j=k
               . subst a3;rw [HV.out];exact ae.out
               . exact HA.out j hj oo
             . rw [M.out,iI];omega
    . have cw:k=T.labels.length:=oo;subst cw;rw [jU] at K cz;obtain ⟨Ar,cr,c6,d7,ea,b2⟩:=FD K (a6.okruns);subst c6;have HD:=zh (IB (A:=Ar) (c:=cr) rfl oo b2 _ rfl)
      have HF:=zh (Xo T b4 (ic.2 (λl hl=>by
       obtain ⟨j,hj,rfl⟩:=List.getElem_of_mem hl
       exact HA.out j hj hj)) (by have:=W.out;rwa [jU] at this))
      clear K b2 hm hb hg;go_wp2_with fail;refine HD.mono ?_;rintro e w9 ⟨rfl,g9⟩;go_wp2_with fail;go_ret;exact ⟨AE (by rw [HF.out]),HG.out.trans g9⟩

end
section
attribute [local go_sem ↓] Go.wp_at_zero Go.wp_at_succ
open Go.RowKit
theorem QD (T:Tab) (h:BG T=true):T.labels.length<=31/\(BA T.labels).length<=496/\(∀l∈T.labels,l.ext.length<=16/\0<=l.unit):=
 ⟨((AX T).1 h).small.1,((AX T).1 h).exts,((AX T).1 h).small.2⟩
theorem V5 (t:Int):-9223372036854775808<=ttS t/\ttS t<=9223372036854775807:=by have:=Ce t;omega
theorem Ir (A:Option Addr) (c:Nat) (xs:List LabE) (T:Tab) (w:World) (h:TabAt w A c xs T) (hs:SmallT T) (n:Nat) (hn:n=T.labels.length) (kf:List (Int × Int)) (H:Bp T=kf):
 Calls Tryz.prog 59 #[.agg #[.string T.name,.int .i64 T.tracks,.slice A n c]] w λe w'=>∃A c,e=.returned (.slice A kf.length c)/\RunsAt w' w'.heap.size A kf/\Grew w w':=by
 subst hn;subst H;have j:=(gK w).alloc (.cells #[.string T.name,.int .i64 T.tracks,.slice A T.labels.length c] 50);have I:=zh (gZ w 50 #[.string T.name,.int .i64 T.tracks,.slice A T.labels.length c] rfl);have HV:=zh (EH A c xs T _ (h.hold j) hs _ rfl);have q:=zh h;have HS:=zh hs;have r:=zh j;have J:=h.tr0;have K:=h.tr1;clear h hs j;cases hv:BG T with
 | false=>
   have HE:=zh (show Bp T=[] from by unfold Bp;rw [hv];rfl);have m:=zh hv;clear hv;go_enter Tryz.func59,Tryz.ntmps59;go_wp2_with fail;refine HV.mono ?_;rintro e w1 ⟨rfl,g1⟩;rw [m.out];go_wp2_with fail;go_ret;exact ⟨none,0,by rw [HE.out];rfl,by rw [HE.out];exact N4 _,r.out.trans g1⟩
 | true=>
   obtain ⟨a0,a1,D⟩:=QD T hv;have L:=zh (show J0 (ttS T.tracks) T.tracks (BA T.labels)=Bp T from by unfold Bp;rw [if_pos hv]);have m:=zh hv;have M:=zh D;clear hv D;go_enter Tryz.func59,Tryz.ntmps59;go_wp2_with fail;refine HV.mono ?_;rintro e w1 ⟨rfl,g1⟩;rw [m.out];have f:=I.grew g1;have N:=r.out.trans g1;have x2:=f.cell 2;have ae:=f.lt;clear g1;go_wp2_with fail
   go_loopg [3,12] T.labels.length (λgk ov i wr=>∃k:Nat,k<=T.labels.length/\gk=T.labels.length - k/\i=.int .i64 k/\OwnL wr w.heap.size 136 2 ov ((BA (T.labels.take k)).map EC)/\Blk wr w.heap.size 50 #[.string T.name,.int .i64 T.tracks,.slice A T.labels.length c]/\(BA (T.labels.take k)).length<=16*k/\Grew w wr)
   case atStart=>exact ⟨0,oo,oo,rfl,OwnL.nil _ _ _ _,f,by simp [BA],N⟩
   case round=>
    obtain ⟨k,hk,E,rfl,a,hb,Y,hg⟩:=hrel;have O:=zh E;have al:=zh a;have HB:=zh hb;have HG:=zh hg;have an:=hb.lt;have av:=hg.size;clear E x2 f;by_cases g:k<T.labels.length
    . obtain ⟨b,a2,B,d,l,rfl,a3,Z,hv,F,c0,c1,c2,c3,c4⟩:=(q.hold hg).at_ g;have P:=(M T.labels[k] (gS g)).1;rw [hv] at P;have o:=Hy T.labels k g;rw [hv] at o;have s:=zh o;have t:Grew wr (wr.alloc (.cells #[.int .i64 l.id,.int .i64 l.unit,.string l.name,.string l.note,.slice B l.ext.length d] 100)):=(gK wr).alloc _;have u:=((F.hold t).runs.2.mono (gM _));have v:=a.alloc (.cells #[.int .i64 l.id,.int .i64 l.unit,.string l.name,.string l.note,.slice B l.ext.length d] 100);have Q:=a.row_ge;have n3:=a.ne_blk hb qd;have x:=hb.alloc (.cells #[.int .i64 l.id,.int .i64 l.unit,.string l.name,.string l.note,.slice B l.ext.length d] 100);have y:=hg.alloc (.cells #[.int .i64 l.id,.int .i64 l.unit,.string l.name,.string l.note,.slice B l.ext.length d] 100);clear hv Z F o t a hb hg;go_wp2_with (at_builtin;refine Be (by rfl) _ _ 33 rfl w.heap.size 136 2 16 _ Tryz.underlying33 Cz rfl qd _ _ (l.ext.map EC) (by rfl) v B l.ext.length _ (by rfl) (by rw [gO]) (Gd _) u (GZ _) (by rw [gO];omega) (by rw [gO];omega) (by simp;omega) ?_;intro v1 w3 z p X);have R:=zh z;have S:=zh (x.own p n3);have U:=zh (y.own p Q (gM _));clear z p X x y v u
      go_roundg (T.labels.length - (k+1))
      case measure=>rw [O.out];omega
      case rel=>exact ⟨k+1,oo,oo,by go_num,by rw [s.out,gm];exact R.out,S,by rw [s.out,iI];omega,U⟩
    . have V:k=T.labels.length:=oo;subst V;rw [jU] at a Y;obtain ⟨Ar,cr,ad,a4,a5,G⟩:=FD a (q.okruns);subst ad;have HF:=zh (λw9 (g9:Grew wr w9)=>ZH (A:=Ar) (c:=cr) (w:=w9) rfl oo (G.hold g9) (ttS T.tracks) T.tracks (V5 _).1 (V5 _).2 J K _ L);have hS:(λw':World=>w'.cell? ⟨w.heap.size,1,none⟩=some (.int .i64 T.tracks)) wr.drew:=hb.drew.cell 1;clear a G hb hg g;go_wp2_with fail;refine AB [] (λw':World=>w'.cell? ⟨w.heap.size,1,none⟩=some (.int .i64 T.tracks)) qk ?_;refine tQ 0 21 ?_;refine tT 1 (some 22) hS ?_;refine tQ 3 24 ?_;refine tT 4 (some 25) hS ?_;refine tQ 5 26 ?_;refine tO 2 λK' hK=>?_;go_wp2_with fail;refine (Bo _ _).mono ?_;rintro e w8 ⟨rfl,rfl⟩;go_wp2_with fail;refine hK.out _ _ (.inr (λh=>h)) ?_;clear hK;refine tO 6 λK' hK=>?_;go_wp2_with fail;refine (HF _ (gK wr).drew).mono ?_;rintro e w9 ⟨A9,c9,rfl,C,g9⟩;have W:=zh C;clear C;go_wp2_with fail;refine hK.out _ _ (.inr (λh=>(HB.drew.grew g9).cell 1)) ?_;clear hK;refine tQ 7 2 ?_;refine AA qk ?_ _;go_wp2_with fail;go_ret;exact ⟨A9,c9,rfl,W,HG.drew.trans g9⟩
def CK (T:Tab) (id unit:Int):Lab × Bool:=if 0<=FK T id unit then (T.labels.getD (FK T id unit).toNat BN,true) else (BN,false)
theorem H5 (T:Tab) (id a:Int):(∃(k:Nat) (hk:k<T.labels.length),FK T id a=(k:Int)/\CK T id a=(T.labels[k],true)/\Fd id a T.labels[k]=true)\/(FK T id a=-1/\CK T id a=(BN,false)/\∀l∈T.labels,Fd id a l=false):=by
 rcases ED (Fd id a) T.labels with ⟨k,hk,h1,h2,_⟩ | ⟨h1,h2⟩
 . have b:FK T id a=(k:Int):=h1;refine .inl ⟨k,hk,b,?_,h2⟩;unfold CK;rw [b,if_pos oo,iM,iE,gJ hk];rfl
 . have b:FK T id a=-1:=h1;refine .inr ⟨b,?_,h2⟩;unfold CK;rw [b,if_neg oo]
theorem Lq (A:Option Addr) (c:Nat) (xs:List LabE) (T:Tab) (w:World) (h:TabAt w A c xs T) (hs:SmallT T) (n:Nat) (hn:n=T.labels.length) (id unit:Int) (l:Lab) (ok:Bool) (hf:CK T id unit=(l,ok)):
 Calls Tryz.prog 74 #[.agg #[.string T.name,.int .i64 T.tracks,.slice A n c],.agg #[.int .i64 id,.int .i64 unit]] w λe w'=>∃B d,e=.returned (.tuple #[.agg #[.int .i64 l.id,.int .i64 l.unit,.string l.name,.string l.note,.slice B l.ext.length d],.bool ok])/\LabAt w' B d l/\Grew w w'/\∀b off,B=some ⟨b,off,none⟩->w.heap.size<=b:=by
 subst hn;have m:=(((gK w).alloc (.cells #[.string T.name,.int .i64 T.tracks,.slice A T.labels.length c] 50)).alloc (.cells #[.int .i64 id,.int .i64 unit] 32)).alloc (.cells #[.int .i64 0,.int .i64 0,.string ⟨#[]⟩,.string ⟨#[]⟩,.slice none 0 0] 100);have t:=((gZ w 50 #[.string T.name,.int .i64 T.tracks,.slice A T.labels.length c] rfl).alloc (.cells #[.int .i64 id,.int .i64 unit] 32)).alloc (.cells #[.int .i64 0,.int .i64 0,.string ⟨#[]⟩,.string ⟨#[]⟩,.slice none 0 0] 100);have u:=gZ ((w.alloc (.cells #[.string T.name,.int .i64 T.tracks,.slice A T.labels.length c] 50)).alloc (.cells #[.int .i64 id,.int .i64 unit] 32)) 100 #[.int .i64 0,.int .i64 0,.string ⟨#[]⟩,.string ⟨#[]⟩,.slice none 0 0] (n:=w.heap.size+1+1) qs;have HC:=zh (λk hk=>KS A c xs T id unit _ (h.hold m) hs _ rfl k hk);have C:=zh h;have HS:=zh hs;have v:=zh m;have D:=zh t;have x:=zh u;clear h hs m t u;rcases H5 T id unit with ⟨k,hk,h1,h2,_⟩ | ⟨h1,h2,_⟩
 . rw [h2] at hf;injection hf with hf1 hf2;subst hf2;have HI:=zh (HC _ h1);have E:=zh hf1;have F:=HS.ext T.labels[k] (gS hk);rw [hf1] at F;clear HC h1 h2 hf1;go_enter Tryz.func74,Tryz.ntmps74;go_wp2_with fail;refine HI.mono ?_;rintro e w1 ⟨rfl,g1⟩;have o:=D.grew g1;have j:=v.out.trans g1;have p:=x.grew g1;have x2:=o.cell 2;have V:=o.lt;have G:=p.lt;have W:(k:Int)<(T.labels.length:Int):=oo;obtain ⟨b,off,B,d,l',rfl,Z,P,hv,s,c0,c1,c2,c3,c4⟩:=(C.hold j).at_ hk;rw [E.out] at hv;subst hv;have i:Grew w1 (w1.alloc (.cells #[.int .i64 l.id,.int .i64 l.unit,.string l.name,.string l.note,.slice B l.ext.length d] 100)):=(gK w1).alloc _;have H:=zh (H8 B d l.ext.length l.ext _ rfl oo (s.hold i).runs.2);have g:=zh (s.hold i);have I:=zh (gZ w1 100 #[.int .i64 l.id,.int .i64 l.unit,.string l.name,.string l.note,.slice B l.ext.length d] rfl);have J:=zh (j.trans i);have K:=zh (p.grew i);clear g1 o j p s i P;go_wp2_with fail;refine H.mono ?_;rintro e w2 ⟨v2,rfl,r,g2⟩;obtain ⟨A2,Q,rfl,R,U,z⟩:=FD r g.runs.1;have f:=I.grew g2;have a:=K.grew g2;have q:=J.out.trans g2;have y0:=f.cell 0;have y1:=f.cell 1;have y2:=f.cell 2;have y3:=f.cell 3;have y4:=f.cell 4;have yf:=f.frozen 4;have X:=f.lt;have z0:=a.cell 0;have z1:=a.cell 1;have z2:=a.cell 2;have z3:=a.cell 3;have z4:=a.cell 4;have f0:=a.frozen 0;have f1:=a.frozen 1;have f2:=a.frozen 2;have f3:=a.frozen 3;have f4:=a.frozen 4;have L:=a.lt;have Y:=q.size;have M:w.heap.size+1+1<w1.heap.size:=G;have N:=zh (show LabAt w2 A2 Q l from ⟨g.id0,g.id1,g.unit0,g.unit1,g.name,g.note,z,R,U⟩);have O:=zh q;have y:=zh (show ∀b off,A2=some ⟨b,off,none⟩->w1.heap.size+1<=b from λb off e=>by have:=(r.own_ge (by rw [e];rfl)).1;simpa using this);clear r z f a g2 q c0 c1 c2 c3 c4 x2;go_wp2_with fail;refine gw (by first | (simp [*,results,Tryz.results74,go_sem];rfl) | simp [*,results,Tryz.results74,go_sem]) rfl ?_;exact ⟨_,_,rfl,N.turned (S:=λk=>k<w1.heap.size+1) (gT) (λ_ b off e=>by have:=y.out b off e;omega),by have hg:=O.out;exact gG,λb off e=>by have:=y.out b off e;have:w.heap.size+1+1<w1.heap.size:=M;omega⟩
 . rw [h2] at hf;injection hf with hf1 hf2;subst hf2;subst hf1;have HI:=zh (HC _ h1);clear HC h1 h2;go_enter Tryz.func74,Tryz.ntmps74;go_wp2_with fail;refine HI.mono ?_;rintro e w1 ⟨rfl,g1⟩;have a:=x.grew g1;have z0:=a.cell 0;have z1:=a.cell 1;have z2:=a.cell 2;have z3:=a.cell 3;have z4:=a.cell 4;have f0:=a.frozen 0;have f1:=a.frozen 1;have f2:=a.frozen 2;have f3:=a.frozen 3;have f4:=a.frozen 4;have L:=a.lt;have j:=v.out.trans g1;clear a g1;go_wp2_with fail;refine gw (by first | (simp [*,results,Tryz.results74,go_sem];rfl) | simp [*,results,Tryz.results74,go_sem]) rfl ?_;exact ⟨none,0,rfl,LabAt.zero _,gG,λb off e=>by cases e⟩
theorem Yl (A:Option Addr) (c:Nat) (xs:List LabE) (T:Tab) (w:World) (h:TabAt w A c xs T) (hs:SmallT T) (n:Nat) (hn:n=T.labels.length) (id unit:Int) (l:Lab) (ok:Bool) (hf:CK T id unit=(l,ok)):
 Calls Tryz.prog 74 #[.agg #[.string T.name,.int .i64 T.tracks,.slice A n c],.agg #[.int .i64 id,.int .i64 unit]] w λe w'=>∃B d,e=.returned (.tuple #[.agg #[.int .i64 l.id,.int .i64 l.unit,.string l.name,.string l.note,.slice B l.ext.length d],.bool ok])/\LabAt w' B d l/\Grew w w':=
 (Lq A c xs T w h hs n hn id unit l ok hf).mono λ_ _ ⟨B,d,h1,h2,h3,_⟩=>⟨B,d,h1,h2,h3⟩
def NG (s:ByteArray) (t:Int):Tab × Int:=if okT t=true/\Cs s=true then (⟨s,t,List.replicate (Cg t).toNat BN⟩,0) else (Cq,1)
theorem PR (t:Int):((Cg t).toNat:Int)=Cg t/\(Cg t).toNat<=31:=by
 have:=Ce t;unfold Cg;omega
theorem WU (w:World) (n:Nat) (hn:n<=1000):(Instr.makeSlice 48 (.int .i64 (n:Int)) (.int .i64 (n:Int))).run Tryz.prog w=.ok (.slice (some ⟨w.heap.size,0,none⟩) n n) (w.alloc (.cells (madeCells #[.int .i64 0,.int .i64 0,.string ⟨#[]⟩,.string ⟨#[]⟩,.slice none 0 0] (n*5)) 100)):=by
 obtain ⟨i,hi,a,b,c⟩:∃i,Tryz.prog.info? 100=some i/\i.zero=some (.agg #[.int .i64 0,.int .i64 0,.string ⟨#[]⟩,.string ⟨#[]⟩,.slice none 0 0])/\i.size=5/\i.bytes=72:=by
  have h:=Nc;cases hq:Tryz.prog.info? 100 with
  | none=>rw [hq] at h;cases h
  | some i=>rw [hq] at h;simp at h;exact ⟨i,rfl,h.1,h.2.1,h.2.2⟩
 have h:=run_make (P:=Tryz.prog) w 48 100 i _ Tryz.underlying48 hi a .i64 .i64 (n:Int) (n:Int) oo oo (by rw [c];omega) oo;rw [b] at h;simp only [iM] at h;exact h
theorem Za (w:World) (n:Nat) (s:ByteArray) (t:Int) (hs:s.size<=9223372036854775807) (t0:-9223372036854775808<=t) (t1:t<=9223372036854775807) (hn:n<=1000) {g:Nat} (a:g=w.heap.size) {w':World} (hw:Grew (w.alloc (.cells (madeCells #[.int .i64 0,.int .i64 0,.string ⟨#[]⟩,.string ⟨#[]⟩,.slice none 0 0] (n*5)) 100)) w'):
 TabAt w' (some ⟨g,0,none⟩) n (List.replicate n ⟨none,0,BN⟩) ⟨s,t,List.replicate n BN⟩:=by
 subst a;refine TabAt.hold ?_ hw;refine ⟨λx hx=>by rw [List.eq_of_mem_replicate hx];exact LabAt.zero _,λh0=>⟨w.heap.size,0,rfl,qs,λj cs hj i v hi=>?_⟩,qs,oo,qs,t0,t1,hs⟩;rw [List.map_replicate,jp] at hj;split at hj
 . rename_i hjn;injection hj with hj;subst hj;have b:i<5:=(iG.1 hi).1;rw [(gZ w 100 _ rfl).cell];unfold madeCells;rw [ji,Array.getElem?_map,Array.getElem?_range,if_pos oo];simp only [Option.map_some];have hm:(j*5+i) % 5=i:=oo;have h5:(#[Value.int .i64 0,.int .i64 0,.string ⟨#[]⟩,.string ⟨#[]⟩,.slice none 0 0]:Array Value).size=5:=rfl;rw [h5,hm]
   match i,b with
   | 0,_=>exact hi
   | 1,_=>exact hi
   | 2,_=>exact hi
   | 3,_=>exact hi
   | 4,_=>exact hi
 . cases hj
theorem Z6 (s:ByteArray) (t:Int) (w:World) (hs:s.size<=9223372036854775807) (t0:-9223372036854775808<=t) (t1:t<=9223372036854775807) (T:Tab) (er:Int) (hT:NG s t=(T,er)):
 Calls Tryz.prog 69 #[.string s,.int .i64 t] w λe w'=>∃A c xs,e=.returned (.tuple #[.agg #[.string T.name,.int .i64 T.tracks,.slice A T.labels.length c],.int .i64 er])/\TabAt w' A c xs T/\Grew w w'/\(∀b off,A=some ⟨b,off,none⟩->w.heap.size<=b)/\∀x∈xs,x.A=none:=by
 have a:=gZ w 50 #[.string ⟨#[]⟩,.int .i64 0,.slice none 0 0] rfl;have hG:=(gK w).alloc (.cells #[.string ⟨#[]⟩,.int .i64 0,.slice none 0 0] 50);have z0:=a.cell 0;have z1:=a.cell 1;have z2:=a.cell 2;have f0:=a.frozen 0;have f1:=a.frozen 1;have f2:=a.frozen 2;by_cases ho:okT t=true;rotate_left
 . unfold NG at hT;rw [if_neg (λh=>ho h.1)] at hT;injection hT with h1 h2;subst h1;subst h2;have d:=zh (show ttS t=0 from by unfold ttS;rw [if_neg ho]);clear ho;go_enter Tryz.func69,Tryz.ntmps69;go_wp2_with fail;refine (Bo _ _).mono ?_;rintro e w1 ⟨rfl,rfl⟩;rw [d.out];go_wp2_with fail;refine gw (by first | (simp [*,results,Tryz.results69,go_sem];rfl) | simp [*,results,Tryz.results69,go_sem]) rfl ?_;exact ⟨none,0,[],rfl,TabAt.zero _,(gG),(λb off e=>by cases e),(λx hx=>by cases hx)⟩
 obtain ⟨tt,f⟩:∃tt,ttS t=tt:=⟨_,rfl⟩;have d:=zh f
 have hz:(tt==0)=false:=by
  rw [iD,<-f];unfold ttS;have:=BT ho;rw [if_pos ho];omega
 clear f;cases hn:Cs s with
 | false=>
   unfold NG at hT;rw [if_neg (λh=>by rw [hn] at h;cases h.2)] at hT;injection hT with h1 h2;subst h1;subst h2;have HN:=zh hn;clear ho hn;go_enter Tryz.func69,Tryz.ntmps69;go_wp2_with fail;refine (Bo _ _).mono ?_;rintro e w1 ⟨rfl,rfl⟩;rw [d.out];go_wp2_with fail;refine (Cj _ _ hs).mono ?_;rintro e w1 ⟨rfl,rfl⟩;rw [HN.out];go_wp2_with fail;refine gw (by first | (simp [*,results,Tryz.results69,go_sem];rfl) | simp [*,results,Tryz.results69,go_sem]) rfl ?_;exact ⟨none,0,[],rfl,TabAt.zero _,(gG),(λb off e=>by cases e),(λx hx=>by cases hx)⟩
 | true=>
   unfold NG at hT;rw [if_pos ⟨ho,hn⟩] at hT;injection hT with h1 h2;subst h1;subst h2;obtain ⟨h1,h2⟩:=PR t;have HN:=zh hn;generalize (Cg t).toNat=m at*
   have j:=zh h1.symm;have n:=λw=>WU w m oo;have i:(List.replicate m BN).length=m:=jT;have k:=zh (λw0 g hg=>Za w0 m s t hs t0 t1 oo (g:=g) hg (gK _));have l:=zh i;clear ho hn h1 i;go_enter Tryz.func69,Tryz.ntmps69;go_wp2_with fail;refine (Bo _ _).mono ?_;rintro e w1 ⟨rfl,rfl⟩;rw [d.out];go_wp2_with fail;refine (Cj _ _ hs).mono ?_;rintro e w1 ⟨rfl,rfl⟩;rw [HN.out];go_wp2_with fail;refine (LV _ _).mono ?_;rintro e w1 ⟨rfl,rfl⟩;rw [j.out];go_wp2_with fail;refine gw (by first | (simp [*,results,Tryz.results69,go_sem];rfl) | simp [*,results,Tryz.results69,go_sem]) rfl ?_;exact ⟨_,_,_,by rw [l.out],k _ _ qs,(gG),(λb off e=>by (injection e with e;injection e with e _ _;rw [<-e];simp)),(λx hx=>by rw [List.eq_of_mem_replicate hx])⟩

end
section
open Go.RowKit
def NewRuns (w w':World) (A:Option Addr) (c:Nat) (k:List (Int × Int)):Prop:=RunsAt w' w'.heap.size A k/\k.length<=c/\c<=9223372036854775807/\∀b off,A=some ⟨b,off,none⟩->w.heap.size<=b
theorem NewRuns.nil (w w':World):NewRuns w w' none 0 []:=⟨N4 w',gM _,oo,λb off e=>by cases e⟩
theorem NewRuns.of_own {w w':World} {v:Value} {l:List (Nat × Nat)} {k:List (Int × Int)} (h:OwnL w' w.heap.size 136 2 v (l.map BU)) (hb:∀r∈l,r.1+r.2<=128) (hk:AP l=k):∃A c,v=.slice A k.length c/\NewRuns w w' A c k:=by
 obtain ⟨A,c,hv,hr,h1,h2,h3⟩:=FB h (λr hr=>gY (hb r hr) oo);subst hk;exact ⟨A,c,by rw [Ag];exact hv,hr,by rw [Ag];exact h1,h2,λb off e=>(h3 b off e).1⟩
section
variable {A:Option Addr} {c m:Nat} {l:List (Int × Int)} {w:World}
theorem Uy {A2:Option Addr} {c2 m2:Nat} {l2:List (Int × Int)} (a:m=l.length) (d:m2=l2.length) (f:l.length<=1000) (g:l2.length<=1000000) (h:RunsAt w w.heap.size A l) (b:RunsAt w w.heap.size A2 l2) (n:Int) (n0:-9223372036854775808<=n) (n1:n<=9223372036854775807) (k:List (Int × Int)) (er:Int) (hk:AP (Ds l l2 n).1=k) (he:(Ds l l2 n).2=er):
 Calls Tryz.prog 157 #[.slice A m c,.slice A2 m2 c2,.int .i64 n] w λe w'=>∃A c,e=.returned (.tuple #[.slice A k.length c,.int .i64 er])/\NewRuns w w' A c k/\Grew w w':=by
 subst a;subst d;subst he;refine (UH A A2 c c2 l l2 w w.heap.size (gM _) f g h b n n0 n1).mono ?_;rintro e w1 ⟨v,rfl,i,g1⟩;obtain ⟨A',c',hv,j⟩:=NewRuns.of_own i (Vp _ _ _) hk;exact ⟨A',c',by rw [hv],j,g1⟩
theorem QB (hn:m=l.length) (hl:l.length<=1000000) (hr:RunsAt w w.heap.size A l) (n:Int) (n0:-9223372036854775808<=n) (n1:n<=9223372036854775807) (most:Int) (k:List (Int × Int)) (er:Int) (hk:AP (Bb (AG l) n most).1=k) (he:(Bb (AG l) n most).2=er):
 Calls Tryz.prog 138 #[.slice A m c,.int .i64 n,.int .i64 most] w λe w'=>∃A c,e=.returned (.tuple #[.slice A k.length c,.int .i64 er])/\NewRuns w w' A c k/\Grew w w':=by
 subst hn;subst he;refine (PD A c l w w.heap.size (gM _) hl hr n n0 n1 most).mono ?_;rintro e w1 ⟨v,rfl,a,g1⟩;obtain ⟨A',c',hv,b⟩:=NewRuns.of_own a (Nw _ _ _) hk;exact ⟨A',c',by rw [hv],b,g1⟩
theorem NewRuns.hold {w w1 w2:World} {k:List (Int × Int)} (h:NewRuns w w1 A c k) (hg:Grew w1 w2):NewRuns w w2 A c k:=⟨h.1.hold hg,h.2⟩
theorem TD (hn:m=l.length) (hl:l.length<=1000) (hr:RunsAt w w.heap.size A l) (keep:Int) (n0:-9223372036854775808<=keep) (n1:keep<=9223372036854775807) (ka:List (Int × Int)) (er:Int) (ha:Uj l keep=ka) (he:Tw l keep=er):
 Calls Tryz.prog 159 #[.slice A m c,.int .i64 keep] w λe w'=>∃A1 c1 A2 n2 c2,e=.returned (.tuple #[.slice A1 ka.length c1,.slice A2 n2 c2,.int .i64 er])/\NewRuns w w' A1 c1 ka/\Grew w w':=by
 subst hn;have hG:=gK w;have t:=Hj l;by_cases h1:keep<1
 . have e1:ka=[]:=by rw [<-ha];unfold Uj;rw [if_pos (.inl h1)]
   have e3:er=2:=by rw [<-he];unfold Tw;rw [if_pos (.inl h1)]
   clear ha he;subst e1;subst e3;go_enter Tryz.func159,Tryz.ntmps159;go_wp2_with fail
   go_returns
   exact ⟨none,0,none,0,0,rfl,NewRuns.nil _ _,hG⟩
 by_cases h2:(Ao l:Int)<keep
 . have e1:ka=[]:=by rw [<-ha];unfold Uj;rw [if_pos (.inr h2)]
   have e3:er=2:=by rw [<-he];unfold Tw;rw [if_pos (.inr h2)]
   clear ha he;subst e1;subst e3;go_enter Tryz.func159,Tryz.ntmps159;go_wp2_with fail;refine (G6 rfl oo hr (Ao l) rfl).mono ?_;rintro e ws ⟨rfl,gs⟩;replace hr:=hr.hold gs;replace hG:=hG.trans gs;clear gs;go_wp2_with fail
   go_returns
   exact ⟨none,0,none,0,0,rfl,NewRuns.nil _ _,hG⟩
 have h3:¬(keep<1\/(Ao l:Int)<keep):=λh=>h.elim h1 h2;have e3:er=0:=by rw [<-he];unfold Tw;rw [if_neg h3]
 have d:AP (Bk (AP (D9 l keep.toNat)))=ka:=by rw [<-ha];unfold Uj;rw [if_neg h3]
 have u:ka.length<=l.length:=by have:=DL (AP (D9 l keep.toNat));rw [<-d,Ag];rw [Ag,N7] at this;exact this
 obtain ⟨k2,f⟩:∃k,AP (Bk (AP (Gy l keep.toNat)))=k:=⟨_,rfl⟩;have v:k2.length<=l.length:=by have:=DL (AP (Gy l keep.toNat));rw [<-f,Ag];rw [Ag,Og] at this;exact this
 have n:=zh d;have o:=zh f;clear ha he d f h3;subst e3;go_enter Tryz.func159,Tryz.ntmps159;go_wp2_with fail;refine (G6 rfl oo hr (Ao l) rfl).mono ?_;rintro e ws ⟨rfl,gs⟩;replace hr:=hr.hold gs;replace hG:=hG.trans gs;clear gs;have p:=zh hG.size;go_wp2_with fail;refine (eA A c l ws ws.heap.size (gM _) oo hr keep keep.toNat n0 n1 rfl).mono ?_;rintro e w3 ⟨v1,v2,rfl,g,i,g3⟩;obtain ⟨A1,c1,r,a⟩:=NewRuns.of_own g (DJ _) n;obtain ⟨A2,c2,s,j⟩:=NewRuns.of_own i (DJ _) o;subst r;subst s;have r1:=a.1;have r2:=j.1;have q:=zh (show NewRuns w w3 A1 c1 ka from ⟨a.1,a.2.1,a.2.2.1,λb off e=>gY p.out (a.2.2.2 b off e)⟩);replace hG:=hG.trans g3;clear g i a j g3 hr;go_wp2_with fail;refine (Lo rfl rfl oo oo r2 r1 _ rfl).mono ?_;rintro e w4 ⟨A3,c3,rfl,r3,g4⟩;go_wp2_with fail
 go_returns
 exact ⟨_,_,_,_,_,rfl,q.hold g4,hG.trans g4⟩
end

end
section
attribute [local go_sem ↓] Go.wp_at_zero Go.wp_at_succ
open Go.RowKit
def Ho (T:Tab) (n:Int) (k:Nat) (l:Lab):List Lab × Int:=(T.labels.set k { l with ext:=AP (Ds l.ext (Bp T) n).1 },(Ds l.ext (Bp T) n).2)
def G5 (T:Tab) (keep:Int) (k:Nat) (l:Lab):List Lab × Int:=(T.labels.set k { l with ext:=Uj l.ext keep },Tw l.ext keep)
def Gf (T:Tab) (ex:List (Int × Int)) (k:Nat) (l:Lab):List Lab × Int:=(T.labels.set k { l with ext:=ex },if Ao ex=Ao l.ext/\BG { T with labels:=T.labels.set k { l with ext:=ex } }=true then 0 else 1)
def Ig (T:Tab) (id:Int) (note:ByteArray) (k:Nat) (l:Lab):List Lab × Int:=
 if l.unit=0 then (T.labels,9) else if 400<note.size then (T.labels,1)
 else ((if 0<=FK T id 0 then T.labels.set (FK T id 0).toNat BN else T.labels).set k { l with unit:=0,note:=note },0)
def Et (T:Tab) (note:ByteArray) (k:Nat) (l:Lab):List Lab × Int:=if 400<note.size then (T.labels,1) else (T.labels.set k { l with note:=note },0)
def Ju (T:Tab) (k:Nat) (_l:Lab):List Lab × Int:=(T.labels.set k BN,0)
def Bt (T:Tab) (id unit:Int) (F:Nat->Lab->List Lab × Int):Tab × Int:=
 if BG T=true then
  if 0<=FK T id unit then
   (if (F (FK T id unit).toNat (T.labels.getD (FK T id unit).toNat BN)).2=0 then ({ T with labels:=(F (FK T id unit).toNat (T.labels.getD (FK T id unit).toNat BN)).1 },0) else (Cq,(F (FK T id unit).toNat (T.labels.getD (FK T id unit).toNat BN)).2))
  else (Cq,6)
 else (Cq,1)
structure OutAt (w w1:World) (base g cap xo:Nat) (ys:List LabE) (T:Tab):Prop where
 grew:Grew w w1
 hg:w.heap.size<=g
 hx:w.heap.size<=xo
 ne:xo≠g
 tab:TabO w1 base (.slice (some ⟨g,0,none⟩) T.labels.length cap) ys T.labels
 blk:Blk w1 xo 50 #[.string T.name,.int .i64 T.tracks,.slice (some ⟨g,0,none⟩) T.labels.length cap]
def Lw (w1:World) (base g cap n:Nat) (r:List Lab × Int) (e:Ending) (w2:World):Prop:=
 e=.returned (.int .i64 r.2)/\(∃ys,TabO w2 base (.slice (some ⟨g,0,none⟩) n cap) ys r.1)/\Turned (λx=>x=g) w1 w2
theorem TabO.row {w:World} {base g n cap:Nat} {ys:List LabE} {ls:List Lab} (h:TabO w base (.slice (some ⟨g,0,none⟩) n cap) ys ls) {k:Nat} (hk:k<ls.length):
 ∃B d,(ys.map DP)[k]? =some (DP ⟨B,d,ls[k]⟩)/\LabAt w B d ls[k]/\(0<ls[k].ext.length->∀b off,B=some ⟨b,off,none⟩->b≠g)/\ys[k]? =some ⟨B,d,ls[k]⟩:=by
 have hy:k<ys.length:=by rw [h.len];exact hk
 have h1:(ys.map (·.l))[k]? =some ys[k].l:=by rw [gP,gJ hy];rfl
 rw [h.eq,gJ hk] at h1;have h2:=Option.some.inj h1;have h3:ys[k]=⟨ys[k].A,ys[k].c,ls[k]⟩:=by rw [h2]
 refine ⟨ys[k].A,ys[k].c,by rw [gP,gJ hy,<-h3];rfl,by rw [h2];exact h.lab _ (gS hy),λh0 b off e=>?_,by rw [gJ hy,<-h3]⟩;have:=h.far ys[k] (gS hy) (by rw [<-h2];exact h0) b off e;intro e2;exact this (by rw [e2];rfl)
theorem OwnL.cell0 {w:World} {base e sz g n cap:Nat} {rows:List (List Value)} (h:OwnL w base e sz (.slice (some ⟨g,0,none⟩) n cap) rows) {j:Nat} {r:List Value} {u:Value} (hj:rows[j]? =some r) (hi:r[0]? =some u):w.cell? ⟨g,j*sz,none⟩=some u:=h.cell hj hi
theorem OwnL.block_lt {w:World} {base e sz g n cap:Nat} {rows:List (List Value)} (h:OwnL w base e sz (.slice (some ⟨g,0,none⟩) n cap) rows):base<=g/\g<w.heap.size:=h.own_ge rfl
theorem Bd (w:World) (g o:Nat) (u:Value):Turned (λx=>x=g) w (w.setCell ⟨g,o,none⟩ u):=(iR (λx=>x=g) w).setCell (p:=⟨g,o,none⟩) (λ_=>rfl) u
theorem TabO.field {w:World} {base g n cap:Nat} {ys:List LabE} {ls:List Lab} (h:TabO w base (.slice (some ⟨g,0,none⟩) n cap) ys ls) {k:Nat} (hk:k<ls.length) {B:Option Addr} {d:Nat} (hrow:(ys.map DP)[k]? =some (DP ⟨B,d,ls[k]⟩)) (i:Nat) (hi:i<5) (u:Value) (y:LabE) (hy:DP y=(DP ⟨B,d,ls[k]⟩).set i u)
 (hl:LabAt w y.A y.c y.l) (hf:0<y.l.ext.length->∀b off,y.A=some ⟨b,off,none⟩->b≠g):TabO (w.setCell ⟨g,k*5+i,none⟩ u) base (.slice (some ⟨g,0,none⟩) n cap) (ys.set k y) (ls.set k y.l):=
 h.set_ k y hk (by rw [hy];exact h.own.set_ hrow hi rfl u) (Bd w g _ u) (hl.turned (Bd w g _ u) (λh0 b off e=>hf h0 b off e)) hf
theorem OwnL.set5 {w:World} {base e g n cap:Nat} {rows:List (List Value)} (h:OwnL w base e 5 (.slice (some ⟨g,0,none⟩) n cap) rows) {j:Nat} {r:List Value} (hj:rows[j]? =some r) (a b c d f:Value):
 OwnL (((((w.setCell ⟨g,j*5,none⟩ a).setCell ⟨g,j*5+1,none⟩ b).setCell ⟨g,j*5+2,none⟩ c).setCell ⟨g,j*5+3,none⟩ d).setCell ⟨g,j*5+4,none⟩ f) base e 5 (.slice (some ⟨g,0,none⟩) n cap) (rows.set j [a,b,c,d,f]):=by
 have hl:r.length=5:=h.1 r (jL hj);have k:j<rows.length:=(iG.1 hj).1;have h0:=h.set_ (i:=0) (o:=j*5) hj oo rfl a;have h1:=h0.set_ (i:=1) (o:=j*5+1) (jI k) oo rfl b;rw [List.set_set] at h1;have h2:=h1.set_ (i:=2) (o:=j*5+2) (jI k) oo rfl c;rw [List.set_set] at h2;have h3:=h2.set_ (i:=3) (o:=j*5+3) (jI k) oo rfl d;rw [List.set_set] at h3;have h4:=h3.set_ (i:=4) (o:=j*5+4) (jI k) oo rfl f;rw [List.set_set] at h4
 match r,hl with
 | [r0,r1,r2,r3,r4],_=>exact h4
theorem FS (w:World) (g o:Nat) (a b c d f:Value):Turned (λx=>x=g) w (((((w.setCell ⟨g,o,none⟩ a).setCell ⟨g,o+1,none⟩ b).setCell ⟨g,o+2,none⟩ c).setCell ⟨g,o+3,none⟩ d).setCell ⟨g,o+4,none⟩ f):=
 ((((Bd w g _ a).trans (Bd _ g _ b)).trans (Bd _ g _ c)).trans (Bd _ g _ d)).trans (Bd _ g _ f)
theorem TabO.set5 {w:World} {base g n cap:Nat} {ys:List LabE} {ls:List Lab} (h:TabO w base (.slice (some ⟨g,0,none⟩) n cap) ys ls) {k:Nat} (hk:k<ls.length) (y:LabE)
 (hl:LabAt w y.A y.c y.l) (hf:0<y.l.ext.length->∀b off,y.A=some ⟨b,off,none⟩->b≠g):
 TabO (((((w.setCell ⟨g,k*5,none⟩ (.int .i64 y.l.id)).setCell ⟨g,k*5+1,none⟩ (.int .i64 y.l.unit)).setCell ⟨g,k*5+2,none⟩ (.string y.l.name)).setCell ⟨g,k*5+3,none⟩ (.string y.l.note)).setCell ⟨g,k*5+4,none⟩ (.slice y.A y.l.ext.length y.c)) base (.slice (some ⟨g,0,none⟩) n cap) (ys.set k y) (ls.set k y.l):=by
 obtain ⟨B,d,a,_,_,_⟩:=h.row hk;exact h.set_ k y hk (h.own.set5 a _ _ _ _ _) (FS w g _ _ _ _ _ _) (hl.turned (FS w g _ _ _ _ _ _) (λh0 b off e=>hf h0 b off e)) hf
section
variable (w w1:World) (base g cap xo:Nat) (ys:List LabE) (T:Tab) (k:Nat) (hk:k<T.labels.length) (h:OutAt w w1 base g cap xo ys T)
include h
theorem X9 (note:ByteArray) (j:note.size<=9223372036854775807) (gn:Nat) (hb:Blk w gn 9 #[.string note]):
 Calls Tryz.prog 161 #[.pointer (some ⟨g,k*5,none⟩),.pointer (some ⟨xo,0,none⟩),.pointer (some ⟨gn,0,none⟩)] w1 (Lw w1 base g cap T.labels.length (Et T note k T.labels[k])):=by
 obtain ⟨B,d,b,a,e,_⟩:=h.tab.row hk;have c:=hb.grew h.grew;have n:=hb.lt;have o:=h.tab.own.block_lt;have x0:=c.cell 0;have p:=c.lt;have y3:w1.cell? ⟨g,k*5+3,none⟩=some (.string T.labels[k].note):=h.tab.own.cell b (i:=3) rfl;have y0:w1.cell? ⟨g,k*5,none⟩=some (.int .i64 T.labels[k].id):=h.tab.own.cell0 b rfl;have f3:=h.tab.own.frozen (k*5+3);by_cases hn:400<note.size
 . have HE:=zh (show Et T note k T.labels[k]=(T.labels,1) from if_pos hn);have l:(note.size:Int)>400:=oo;have HT:=zh h.tab;clear h b a e hb c;go_enter Tryz.func161,Tryz.ntmps161;go_wp2_with fail;go_ret;rw [HE.out];exact ⟨rfl,⟨_,HT⟩,gT⟩
 . have HE:=zh (show Et T note k T.labels[k]=(T.labels.set k { T.labels[k] with note:=note },0) from if_neg hn);have l:¬(note.size:Int)>400:=oo;have f:LabAt w1 B d { T.labels[k] with note:=note }:=⟨a.id0,a.id1,a.unit0,a.unit1,a.name,j,a.runs,a.len,a.cap⟩;have HT:=zh (h.tab.field hk b 3 qd (.string note) ⟨B,d,{ T.labels[k] with note:=note }⟩ rfl f e);have ht:=Bd w1 g (k*5+3) (.string note);have m:=zh ht;clear h b a e hb c ht f;go_enter Tryz.func161,Tryz.ntmps161;go_wp2_with fail;go_ret;rw [HE.out];exact ⟨rfl,⟨_,HT⟩,m⟩
theorem Si:Calls Tryz.prog 162 #[.pointer (some ⟨g,k*5,none⟩),.pointer (some ⟨xo,0,none⟩)] w1 (Lw w1 base g cap T.labels.length (Ju T k T.labels[k])):=by
 obtain ⟨B,d,a,c,e,_⟩:=h.tab.row hk;have f:=h.tab.own.block_lt;have y0:w1.cell? ⟨g,k*5,none⟩=some (.int .i64 T.labels[k].id):=h.tab.own.cell0 a rfl;have y1:w1.cell? ⟨g,k*5+1,none⟩=some (.int .i64 T.labels[k].unit):=h.tab.own.cell a (i:=1) rfl;have y2:w1.cell? ⟨g,k*5+2,none⟩=some (.string T.labels[k].name):=h.tab.own.cell a (i:=2) rfl;have y3:w1.cell? ⟨g,k*5+3,none⟩=some (.string T.labels[k].note):=h.tab.own.cell a (i:=3) rfl;have y4:w1.cell? ⟨g,k*5+4,none⟩=some (.slice B T.labels[k].ext.length d):=h.tab.own.cell a (i:=4) rfl;have f0:=h.tab.own.frozen (k*5);have f1:=h.tab.own.frozen (k*5+1);have f2:=h.tab.own.frozen (k*5+2);have f3:=h.tab.own.frozen (k*5+3);have f4:=h.tab.own.frozen (k*5+4);have HT:=zh (h.tab.set5 hk ⟨none,0,BN⟩ (LabAt.zero _) (λh0=>absurd h0 qd));have b:=zh (FS w1 g (k*5));clear h a c e;go_enter Tryz.func162,Tryz.ntmps162;go_wp2_with fail;go_ret;exact ⟨rfl,⟨_,HT⟩,b _ _ _ _ _⟩
theorem TU (A:Option Addr) (c:Nat) (xs:List LabE) (hT:TabAt w A c xs T) (hs:SmallT T) (n:Int) (n0:-9223372036854775808<=n) (n1:n<=9223372036854775807) (gt gn:Nat) (ht:Blk w gt 50 #[.string T.name,.int .i64 T.tracks,.slice A T.labels.length c]) (hb:Blk w gn 3 #[.int .i64 n]):
 Calls Tryz.prog 156 #[.pointer (some ⟨g,k*5,none⟩),.pointer (some ⟨xo,0,none⟩),.pointer (some ⟨gt,0,none⟩),.pointer (some ⟨gn,0,none⟩)] w1 (Lw w1 base g cap T.labels.length (Ho T n k T.labels[k])):=by
 obtain ⟨B,d,q,y,U,_⟩:=h.tab.row hk;have K:=hs.ext T.labels[k] (gS hk);have j:=ht.grew h.grew;have p:=hb.grew h.grew;have s:=h.tab.own.block_lt;have y0:w1.cell? ⟨g,k*5,none⟩=some (.int .i64 T.labels[k].id):=h.tab.own.cell0 q rfl;have y4:w1.cell? ⟨g,k*5+4,none⟩=some (.slice B T.labels[k].ext.length d):=h.tab.own.cell q (i:=4) rfl;obtain ⟨kf,r⟩:∃kf,Bp T=kf:=⟨_,rfl⟩;have V:kf.length<=128:=by rw [<-r];exact Jk T
 obtain ⟨ke,z⟩:∃ke,AP (Ds T.labels[k].ext kf n).1=ke:=⟨_,rfl⟩;obtain ⟨er,C⟩:∃er,(Ds T.labels[k].ext kf n).2=er:=⟨_,rfl⟩;have HE:=zh (show Ho T n k T.labels[k]=(T.labels.set k { T.labels[k] with ext:=ke },er) from by unfold Ho;rw [r,z,C]);have L:=zh (λw2 (g2:Grew w1 w2)=>Ir A c xs T w2 (hT.hold (h.grew.trans g2)) hs _ rfl kf r);have HX:=zh (λ(w2:World) (g2:Grew w1 w2) A5 c5 (hr:RunsAt w2 w2.heap.size A5 kf)=>Uy (A:=B) (c:=d) (m:=T.labels[k].ext.length) (A2:=A5) (c2:=c5) (w:=w2) rfl rfl K oo ((y.hold g2).runs) hr n n0 n1 ke er z C);have M:=zh h.tab;have t:=zh q;have N:=zh y;have W:=zh j;have X:=zh p;have hS:(λw':World=>w'.cell? ⟨g,k*5,none⟩=some (.int .i64 T.labels[k].id)/\w'.cell? ⟨g,k*5+4,none⟩=some (.slice B T.labels[k].ext.length d)/\w'.cell? ⟨gt,0,none⟩=some (.string T.name)/\w'.cell? ⟨gt,1,none⟩=some (.int .i64 T.tracks)/\w'.cell? ⟨gt,2,none⟩=some (.slice A T.labels.length c)/\w'.cell? ⟨gn,0,none⟩=some (.int .i64 n)) w1.drew:=⟨y0,y4,j.cell 0,j.cell 1,j.cell 2,p.cell 0⟩
 have D:∀w2 w3:World,Grew w2 w3->g<w2.heap.size->gt<w2.heap.size->gn<w2.heap.size->(λw':World=>w'.cell? ⟨g,k*5,none⟩=some (.int .i64 T.labels[k].id)/\w'.cell? ⟨g,k*5+4,none⟩=some (.slice B T.labels[k].ext.length d)/\w'.cell? ⟨gt,0,none⟩=some (.string T.name)/\w'.cell? ⟨gt,1,none⟩=some (.int .i64 T.tracks)/\w'.cell? ⟨gt,2,none⟩=some (.slice A T.labels.length c)/\w'.cell? ⟨gn,0,none⟩=some (.int .i64 n)) w2->(λw':World=>w'.cell? ⟨g,k*5,none⟩=some (.int .i64 T.labels[k].id)/\w'.cell? ⟨g,k*5+4,none⟩=some (.slice B T.labels[k].ext.length d)/\w'.cell? ⟨gt,0,none⟩=some (.string T.name)/\w'.cell? ⟨gt,1,none⟩=some (.int .i64 T.tracks)/\w'.cell? ⟨gt,2,none⟩=some (.slice A T.labels.length c)/\w'.cell? ⟨gn,0,none⟩=some (.int .i64 n)) w3:=λw2 w3 h9 z1 z2 z3 h8=>by
  simp only [h9.cellEq _ _ z1,h9.cellEq _ _ z2,h9.cellEq _ _ z3];exact h8
 have O:=zh D;have E:=j.lt;have F:=p.lt;clear h q y U r z C ht hb j p hT D;go_enter Tryz.func156,Tryz.ntmps156;go_wp2_with fail;refine AB [] (λw':World=>w'.cell? ⟨g,k*5,none⟩=some (.int .i64 T.labels[k].id)/\w'.cell? ⟨g,k*5+4,none⟩=some (.slice B T.labels[k].ext.length d)/\w'.cell? ⟨gt,0,none⟩=some (.string T.name)/\w'.cell? ⟨gt,1,none⟩=some (.int .i64 T.tracks)/\w'.cell? ⟨gt,2,none⟩=some (.slice A T.labels.length c)/\w'.cell? ⟨gn,0,none⟩=some (.int .i64 n)) qk ?_;refine tQ 0 10 ?_;refine tT 1 (some 11) hS ?_;refine tQ 2 12 ?_;refine tT 3 (some 13) hS ?_;refine tT 4 (some 14) hS ?_;refine tT 6 (some 16) hS ?_;refine tO 5 λK' hK=>?_;go_wp2_with fail;refine (L _ (gK w1).drew).mono ?_;rintro e w2 ⟨A5,c5,rfl,J,g2⟩;have a:Grew w1 w2:=(gK w1).drew.trans g2;have G:=O.out _ _ g2 s.2 E F hS;have P:=zh J;clear J;go_wp2_with fail;refine hK.out _ _ (.inr (λ_=>G)) ?_;clear hK;refine tO 7 λK' hK=>?_;go_wp2_with fail;refine (HX w2 a A5 c5 P).mono ?_;rintro e w3 ⟨A6,c6,rfl,v,g3⟩;have l:Grew w1 w3:=a.trans g3;have u:=zh v;have H:∀b off,A6=some ⟨b,off,none⟩->b≠g:=λb off e=>by have:=v.2.2.2 b off e;have:=a.size;omega
 have Q:=zh H;clear v H;go_wp2_with fail
 refine hK.out _ _ (.inr (λh=>by
  simp only [g3.cellEq _ _ (gW s.2 a.size),g3.cellEq _ _ (gW E a.size),g3.cellEq _ _ (gW F a.size)]
  exact h)) ?_
 clear hK;refine tQ 8 9 ?_;refine tQ 9 18 ?_;refine tQ 10 19 ?_;refine tQ 11 7 ?_;refine tQ 12 8 ?_;refine AA qk ?_ _;have o:=M.hold l;have f:=N.hold l;have I:LabAt w3 A6 c6 { T.labels[k] with ext:=ke }:=⟨f.id0,f.id1,f.unit0,f.unit1,f.name,f.note,u.1,u.2.1,u.2.2.1⟩;have R:=zh (o.field hk t 4 qd (.slice A6 ke.length c6) ⟨A6,c6,{ T.labels[k] with ext:=ke }⟩ rfl I (λ_=>Q));have S:=zh ((l.turned (λx=>x=g)).trans (Bd w3 g (k*5+4) (.slice A6 ke.length c6)));have z4:w3.cell? ⟨g,k*5+4,none⟩=some (.slice B T.labels[k].ext.length d):=o.own.cell t (i:=4) rfl;have z0:w3.cell? ⟨g,k*5,none⟩=some (.int .i64 T.labels[k].id):=o.own.cell0 t rfl;have zf:=o.own.frozen (k*5+4);have Y:=gW s.2 l.size;clear o f I G hS y0 y4 g2 g3 a l;go_wp2_with fail;go_ret;rw [HE.out];exact ⟨rfl,⟨_,R⟩,S⟩
theorem QV (hs:SmallT T) (n:Int) (n0:-9223372036854775808<=n) (n1:n<=9223372036854775807) (gn:Nat) (hb:Blk w gn 3 #[.int .i64 n]):
 Calls Tryz.prog 158 #[.pointer (some ⟨g,k*5,none⟩),.pointer (some ⟨xo,0,none⟩),.pointer (some ⟨gn,0,none⟩)] w1 (Lw w1 base g cap T.labels.length (G5 T n k T.labels[k])):=by
 obtain ⟨B,d,o,s,J,_⟩:=h.tab.row hk;have C:=hs.ext T.labels[k] (gS hk);have l:=hb.grew h.grew;have v:=h.tab.own.block_lt;have y0:w1.cell? ⟨g,k*5,none⟩=some (.int .i64 T.labels[k].id):=h.tab.own.cell0 o rfl;have y4:w1.cell? ⟨g,k*5+4,none⟩=some (.slice B T.labels[k].ext.length d):=h.tab.own.cell o (i:=4) rfl;obtain ⟨ke,t⟩:∃ke,Uj T.labels[k].ext n=ke:=⟨_,rfl⟩;obtain ⟨er,u⟩:∃er,Tw T.labels[k].ext n=er:=⟨_,rfl⟩;have HE:=zh (show G5 T n k T.labels[k]=(T.labels.set k { T.labels[k] with ext:=ke },er) from by unfold G5;rw [t,u]);have HX:=zh (λ(w2:World) (g2:Grew w1 w2)=>TD (A:=B) (c:=d) (m:=T.labels[k].ext.length) (w:=w2) rfl C ((s.hold g2).runs) n n0 n1 ke er t u);have D:=zh h.tab;have p:=zh o;have E:=zh s;have K:=zh l;have hS:(λw':World=>w'.cell? ⟨g,k*5,none⟩=some (.int .i64 T.labels[k].id)/\w'.cell? ⟨g,k*5+4,none⟩=some (.slice B T.labels[k].ext.length d)/\w'.cell? ⟨gn,0,none⟩=some (.int .i64 n)) w1.drew:=⟨y0,y4,l.cell 0⟩;have F:=l.lt;clear h o s J t u hb l;go_enter Tryz.func158,Tryz.ntmps158;go_wp2_with fail;refine AB [] (λw':World=>w'.cell? ⟨g,k*5,none⟩=some (.int .i64 T.labels[k].id)/\w'.cell? ⟨g,k*5+4,none⟩=some (.slice B T.labels[k].ext.length d)/\w'.cell? ⟨gn,0,none⟩=some (.int .i64 n)) qk ?_;refine tQ 0 10 ?_;refine tT 1 (some 11) hS ?_;refine tQ 2 12 ?_;refine tT 3 (some 13) hS ?_;refine tT 4 (some 14) hS ?_;refine tO 5 λK' hK=>?_;go_wp2_with fail;refine (HX _ (gK w1).drew).mono ?_;rintro e w3 ⟨A6,c6,A7,n7,c7,rfl,r,g3⟩;have a:Grew w1 w3:=(gK w1).drew.trans g3;have q:=zh r;have y:∀b off,A6=some ⟨b,off,none⟩->b≠g:=λb off e=>by have:w1.heap.size<=b:=r.2.2.2 b off e;omega
 have G:=zh y;clear r y;go_wp2_with fail
 refine hK.out _ _ (.inr (λh=>by
  simp only [a.cellEq _ _ v.2,a.cellEq _ _ F]
  exact h)) ?_
 clear hK;refine tQ 6 9 ?_;refine tQ 7 16 ?_;refine tQ 8 17 ?_;refine tQ 9 18 ?_;refine tQ 10 6 ?_;refine tQ 11 7 ?_;refine tQ 12 8 ?_;refine AA qk ?_ _;have j:=D.hold a;have f:=E.hold a;have z:LabAt w3 A6 c6 { T.labels[k] with ext:=ke }:=⟨f.id0,f.id1,f.unit0,f.unit1,f.name,f.note,q.1,q.2.1,q.2.2.1⟩;have H:=zh (j.field hk p 4 qd (.slice A6 ke.length c6) ⟨A6,c6,{ T.labels[k] with ext:=ke }⟩ rfl z (λ_=>G));have I:=zh ((a.turned (λx=>x=g)).trans (Bd w3 g (k*5+4) (.slice A6 ke.length c6)));have z4:w3.cell? ⟨g,k*5+4,none⟩=some (.slice B T.labels[k].ext.length d):=j.own.cell p (i:=4) rfl;have z0:w3.cell? ⟨g,k*5,none⟩=some (.int .i64 T.labels[k].id):=j.own.cell0 p rfl;have zf:=j.own.frozen (k*5+4);have L:=gW v.2 a.size;clear j f z hS y0 y4 g3 a;go_wp2_with fail;go_ret;rw [HE.out];exact ⟨rfl,⟨_,H⟩,I⟩
end

theorem TabO.row0 {w:World} {base g n cap:Nat} {ys:List LabE} {ls:List Lab} (h:TabO w base (.slice (some ⟨g,0,none⟩) n cap) ys ls) {k:Nat} (hk:k<ls.length):w.cell? ⟨g,k*5,none⟩=some (.int .i64 ls[k].id):=by
 obtain ⟨B,d,a,_,_,_⟩:=h.row hk;exact h.own.cell0 a rfl
theorem TabO.row1 {w:World} {base g n cap:Nat} {ys:List LabE} {ls:List Lab} (h:TabO w base (.slice (some ⟨g,0,none⟩) n cap) ys ls) {k:Nat} (hk:k<ls.length):w.cell? ⟨g,k*5+1,none⟩=some (.int .i64 ls[k].unit):=by
 obtain ⟨B,d,a,_,_,_⟩:=h.row hk;exact h.own.cell a (i:=1) rfl
theorem TabO.row3 {w:World} {base g n cap:Nat} {ys:List LabE} {ls:List Lab} (h:TabO w base (.slice (some ⟨g,0,none⟩) n cap) ys ls) {k:Nat} (hk:k<ls.length):w.cell? ⟨g,k*5+3,none⟩=some (.string ls[k].note):=by
 obtain ⟨B,d,a,_,_,_⟩:=h.row hk;exact h.own.cell a (i:=3) rfl
theorem TabO.unit_ {w:World} {base g n cap:Nat} {ys:List LabE} {ls:List Lab} (h:TabO w base (.slice (some ⟨g,0,none⟩) n cap) ys ls) {k:Nat} (hk:k<ls.length) (u:Int) (hu:-9223372036854775808<=u/\u<=9223372036854775807):∃ys',TabO (w.setCell ⟨g,k*5+1,none⟩ (.int .i64 u)) base (.slice (some ⟨g,0,none⟩) n cap) ys' (ls.set k { ls[k] with unit:=u }):=by
 obtain ⟨B,d,b,a,c,_⟩:=h.row hk;exact ⟨_,h.field hk b 1 qd (.int .i64 u) ⟨B,d,{ ls[k] with unit:=u }⟩ rfl ⟨a.id0,a.id1,hu.1,hu.2,a.name,a.note,a.runs,a.len,a.cap⟩ c⟩
theorem TabO.note_ {w:World} {base g n cap:Nat} {ys:List LabE} {ls:List Lab} (h:TabO w base (.slice (some ⟨g,0,none⟩) n cap) ys ls) {k:Nat} (hk:k<ls.length) (u:ByteArray) (hu:u.size<=9223372036854775807):∃ys',TabO (w.setCell ⟨g,k*5+3,none⟩ (.string u)) base (.slice (some ⟨g,0,none⟩) n cap) ys' (ls.set k { ls[k] with note:=u }):=by
 obtain ⟨B,d,b,a,c,_⟩:=h.row hk;exact ⟨_,h.field hk b 3 qd (.string u) ⟨B,d,{ ls[k] with note:=u }⟩ rfl ⟨a.id0,a.id1,a.unit0,a.unit1,a.name,hu,a.runs,a.len,a.cap⟩ c⟩
theorem Ss {S:Nat->Prop} {w w':World} {A:Option Addr} {l:List (Int × Int)} (h:RunsAt w w.heap.size A l) (ht:Turned S w w') (hS:0<l.length->∀b off,A=some ⟨b,off,none⟩->¬S b):RunsAt w' w'.heap.size A l:=
 ⟨h.1,λh0=>by
  obtain ⟨b,off,e,hb,hc⟩:=h.2 h0
  exact ⟨b,off,e,gW hb ht.size,λj cs hj i v hi=>by rw [ht.cellEq _ _ hb (hS (by simpa using h0) b off e)];exact hc j cs hj i v hi⟩⟩
theorem TabO.tabAt {w:World} {base g n cap:Nat} {ys:List LabE} {ls:List Lab} (h:TabO w base (.slice (some ⟨g,0,none⟩) n cap) ys ls) (nm:ByteArray) (t:Int) (hn:nm.size<=9223372036854775807) (t0:-9223372036854775808<=t) (t1:t<=9223372036854775807):TabAt w (some ⟨g,0,none⟩) cap ys ⟨nm,t,ls⟩:=by
 obtain ⟨A,c,hv,ht⟩:=h.form;injection hv with h1 _ h3;rw [h1,h3];exact ht nm t hn t0 t1
section
variable (w w1:World) (base g cap xo:Nat) (ys:List LabE) (T:Tab) (k:Nat) (hk:k<T.labels.length) (h:OutAt w w1 base g cap xo ys T)
include h
theorem RF (hs:SmallT T) (P:T.name.size<=9223372036854775807) (O:-9223372036854775808<=T.tracks) (Q:T.tracks<=9223372036854775807) (Ax:Option Addr) (cx:Nat) (ex:List (Int × Int)) (hx:RunsAt w w.heap.size Ax ex) (N:ex.length<=1000) (ge:Nat) (hb:Blk w ge 33 #[.slice Ax ex.length cx]):
 Calls Tryz.prog 155 #[.pointer (some ⟨g,k*5,none⟩),.pointer (some ⟨xo,0,none⟩),.pointer (some ⟨ge,0,none⟩)] w1 (Lw w1 base g cap T.labels.length (Gf T ex k T.labels[k])):=by
 obtain ⟨B,d,D,E,a4,_⟩:=h.tab.row hk;have a8:=hs.ext T.labels[k] (gS hk);have o:=hb.grew h.grew;have F:=h.tab.own.block_lt;have a9:=h.blk.lt;have R:=h.ne;have y0:w1.cell? ⟨g,k*5,none⟩=some (.int .i64 T.labels[k].id):=h.tab.row0 hk;have y4:w1.cell? ⟨g,k*5+4,none⟩=some (.slice B T.labels[k].ext.length d):=h.tab.own.cell D (i:=4) rfl;have S:=zh (G6 (A:=B) (c:=d) (n:=T.labels[k].ext.length) rfl oo E.runs _ rfl);have HX:=zh (λ(w2:World) (g2:Grew w1 w2)=>H8 Ax cx ex.length ex w2 rfl oo ((hx.keep (gM _) (h.grew.trans g2)).mono2 (h.grew.trans g2).size).2);have U:=zh (λ(w2:World) (g2:Grew w1 w2)=>((hx.keep (gM _) (h.grew.trans g2)).mono2 (h.grew.trans g2).size:RunsAt w2 w2.heap.size Ax ex));have V:=zh hx.1;have W:=zh h.tab;have X:=zh h.blk;have G:=zh D;have Y:=zh E;have t:=zh o;have H:=o.lt;have bb:=hb.lt;have Z:¬ge=g:=by have:=h.hg;omega
 have ad:=zh (show ∀b off,0<ex.length->Ax=some ⟨b,off,none⟩->b≠g from λb off h0 e=>by
  obtain ⟨b',bt,e',bv,_⟩:=hx.2 (by simpa using h0)
  rw [e] at e'
  injection e' with e'
  injection e' with e'
  have:=h.hg
  omega)
 have x0:=o.cell 0;obtain ⟨T',j⟩:∃T':Tab,T'={ T with labels:=T.labels.set k { T.labels[k] with ext:=ex } }:=⟨_,rfl⟩
 have ae:=zh (show SmallT T' from by
  subst j
  refine ⟨by simpa using hs.len,λl hl=>?_⟩
  rcases iT hl with hl | rfl
  . exact hs.ext l hl
  . exact N)
 have al:=zh (show T'.labels=T.labels.set k { T.labels[k] with ext:=ex } from by rw [j]);have an:=zh (show T.labels.length=T'.labels.length from by rw [j];simp);have av:=zh (show T'.name=T.name from by rw [j]);have a0:=zh (show T'.tracks=T.tracks from by rw [j]);have u:=zh (show Gf T ex k T.labels[k]=(T.labels.set k { T.labels[k] with ext:=ex },if Ao ex=Ao T.labels[k].ext/\BG T'=true then 0 else 1) from by rw [j];rfl);have bc:=Hj ex;have bd:=Hj T.labels[k].ext;clear h D E a4 hb o j hx;go_enter Tryz.func155,Tryz.ntmps155;go_wp2_with fail;refine S.mono ?_;rintro e w2 ⟨rfl,g2⟩;have x0:=(t.grew g2).cell 0;have bf:=gW H g2.size;go_wp2_with fail;refine (HX w2 g2).mono ?_;rintro e w3 ⟨v3,rfl,C,g3⟩;obtain ⟨A3,c3,a5,a6,a7,M⟩:=FD C V;subst a5;have a:Grew w1 w3:=g2.trans g3;have I:=QX C (gW F.2 g2.size) rfl;have m:=W.hold a;have f:=Y.hold a;have J:LabAt w3 A3 c3 { T.labels[k] with ext:=ex }:=⟨f.id0,f.id1,f.unit0,f.unit1,f.name,f.note,M,a6,a7⟩;have q:=zh (m.field hk G 4 qd (.slice A3 ex.length c3) ⟨A3,c3,{ T.labels[k] with ext:=ex }⟩ rfl J (λ_=>I));have v:=zh ((a.turned (λx=>x=g)).trans (Bd w3 g (k*5+4) (.slice A3 ex.length c3)));have z4:w3.cell? ⟨g,k*5+4,none⟩=some (.slice B T.labels[k].ext.length d):=m.own.cell G (i:=4) rfl;have z0:w3.cell? ⟨g,k*5,none⟩=some (.int .i64 T.labels[k].id):=m.row0 hk;have zf:=m.own.frozen (k*5+4);have bk:=gW F.2 a.size;have x3:=(t.grew a).cell 0;have bl:=gW H a.size;have b4:=(t.grew a).far (p:=⟨g,k*5+4,none⟩) Z (.slice A3 ex.length c3);have o4:=(X.grew a).far (p:=⟨g,k*5+4,none⟩) R (.slice A3 ex.length c3);have r4:=Ss (U w3 a) (Bd w3 g (k*5+4) (.slice A3 ex.length c3)) (λh0 b off e=>ad b off h0 e);have bn:=(Bd w3 g (k*5+4) (.slice A3 ex.length c3)).size;have a1:=zh o4;have K:=zh (G6 (A:=Ax) (c:=cx) (n:=ex.length) rfl oo r4 _ rfl);have br:=o4.lt;clear C M I m f J g2 g3 a b4 o4 r4 y0 y4 x0;by_cases s:Ao ex=Ao T.labels[k].ext;rotate_left
 . have a2:((Ao ex:Int) != (Ao T.labels[k].ext:Int))=true:=by rw [iW];omega
   have HE:=zh (u.out.trans (by rw [if_neg (λh=>s h.1)]));clear s;go_wp2_with fail;refine K.mono ?_;rintro e w5 ⟨rfl,g5⟩;go_wp2_with fail;go_ret;rw [HE.out];exact ⟨rfl,⟨_,q.hold g5⟩,v.out.trans (g5.turned _)⟩
 have a2:((Ao ex:Int) != (Ao T.labels[k].ext:Int))=false:=by rw [jw];omega
 have a3:=zh s;clear s;go_wp2_with fail;refine K.mono ?_;rintro e w5 ⟨rfl,g5⟩;have o5:=a1.grew g5;have u0:=o5.cell 0;have u1:=o5.cell 1;have u2:=o5.cell 2;have bs:=o5.lt;have y:=(q.hold g5).tabAt T.name T.tracks P O Q;rw [<-al.out] at y;have HV:=zh (EH _ _ _ _ w5 y (by have:=ae.out;exact ⟨this.len,this.ext⟩) T.labels.length an);have L:=zh (show BG ⟨T.name,T.tracks,T'.labels⟩=BG T' from by rw [<-av.out,<-a0.out]);have r:=zh g5;clear o5 g5 y;cases hv:BG T' with
 | false=>
   have HE:=zh (u.out.trans (by rw [if_neg (λh=>by rw [hv] at h;cases h.2)]));have z:=zh hv;clear hv;go_wp2_with fail;refine HV.mono ?_;rintro e w6 ⟨rfl,g6⟩;rw [L.out,z.out];go_wp2_with fail;go_ret;rw [HE.out];exact ⟨rfl,⟨_,(q.hold r).hold g6⟩,(v.out.trans (r.turned _)).trans (g6.turned _)⟩
 | true=>
   have HE:=zh (u.out.trans (by rw [if_pos ⟨a3.out,hv⟩]));have z:=zh hv;clear hv;go_wp2_with fail;refine HV.mono ?_;rintro e w6 ⟨rfl,g6⟩;rw [L.out,z.out];go_wp2_with fail;go_ret;rw [HE.out];exact ⟨rfl,⟨_,(q.hold r).hold g6⟩,(v.out.trans (r.turned _)).trans (g6.turned _)⟩
end

end
end Go.Proofs.YtfklieeipokllaaGreat
