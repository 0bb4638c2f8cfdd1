/- Parts of the proof (packed), 13. -/
import Derived.DeepKeys4
import Derived.Laws.EntriesVeiled
import Derived.Laws.MakeOwn
import Derived.Test.YtmcgbdemcknkaaaGreatDoorCwJ
import Derived.Test.YtmcgbdemcknkaaaGreatDoorCwH
namespace Go.Proofs.YtmcgbdemcknkaaaGreatDoor
set_option linter.all false
set_option maxRecDepth 100000
set_option maxHeartbeats 16000000
open List
section
open Go.RowKit
structure Tab where
 name:ByteArray
 tracks:Int
 labels:List Lab
def C2:Tab:=⟨⟨#[]⟩,0,[]⟩
instance:Inhabited Tab:=⟨C2⟩
def emL (l:Lab):Bool:=eqL l CN
def okL (t:Int) (l:Lab):Bool:=emL l || BZ l t
def Qc (l:Lab):Int × Bool:=(l.id,decide (0<l.unit))
def CK (ls:List Lab):List (Int × Bool):=(ls.filter λl=>!emL l).map Qc
def CG (ls:List Lab):List (Int × Int):=ls.flatMap (·.ext)
def J6 (t:Tab):Bool:=okT t.tracks && Cn t.name && decide ((t.labels.length:Int)=Ca t.tracks)
def Bf (t:Tab):Bool:=J6 t && (t.labels.all (okL t.tracks) && decide (CK t.labels).Nodup && decide (CZ (CG t.labels)).Nodup)
structure LabE where
 A:Option Addr
 c:Nat
 l:Lab
instance:Inhabited LabE:=⟨⟨none,0,CN⟩⟩
def Dt (x:LabE):List Value:=[.int .i64 x.l.id,.int .i64 x.l.unit,.string x.l.name,.string x.l.note,.slice x.A x.l.ext.length x.c]
structure TabAt (w:World) (A:Option Addr) (c:Nat) (xs:List LabE) (T:Tab):Prop where
 lab:∀x∈xs,LabAt w x.A x.c x.l
 rows:ListAt w w.heap.size 5 A (xs.map Dt)
 len:xs.length<=c
 cap:c<=9223372036854775807
 eq:xs.map (·.l)=T.labels
 tr0:-9223372036854775808<=T.tracks
 tr1:T.tracks<=9223372036854775807
 name:T.name.size<=9223372036854775807
structure SmallT (T:Tab):Prop where
 len:T.labels.length<=1000
 ext:∀l∈T.labels,l.ext.length<=1000
theorem TabAt.hold {w w':World} {A:Option Addr} {c:Nat} {xs:List LabE} {T:Tab} (h:TabAt w A c xs T) (hg:Grew w w'):TabAt w' A c xs T:=
 ⟨λx hx=>(h.lab x hx).hold hg,(h.rows.keep (iX _) hg).mono hg.size,h.len,h.cap,h.eq,h.tr0,h.tr1,h.name⟩
theorem TabAt.xlen {w:World} {A:Option Addr} {c:Nat} {xs:List LabE} {T:Tab} (h:TabAt w A c xs T):xs.length=T.labels.length:=by rw [<-h.eq,iY]
theorem TabAt.zero (w:World):TabAt w none 0 [] C2:=⟨qs,λh=>absurd h qs,iX _,oo,rfl,qd,qd,qd⟩
theorem TabAt.get {w:World} {A:Option Addr} {c:Nat} {xs:List LabE} {T:Tab} (h:TabAt w A c xs T) {k:Nat} (hk:k<xs.length):T.labels[k]? =some xs[k].l:=by
 rw [<-h.eq,iZ,iV hk];rfl
theorem TabAt.at_ {w:World} {A:Option Addr} {c:Nat} {xs:List LabE} {T:Tab} (h:TabAt w A c xs T) {k:Nat} (hk:k<T.labels.length):
 ∃b off B d l,A=some ⟨b,off,none⟩/\b<w.heap.size/\xs[k]? =some ⟨B,d,l⟩/\T.labels[k]=l/\LabAt w B d l/\
  w.cell? ⟨b,off+k*5,none⟩=some (.int .i64 l.id)/\w.cell? ⟨b,off+k*5+1,none⟩=some (.int .i64 l.unit)/\w.cell? ⟨b,off+k*5+2,none⟩=some (.string l.name)/\w.cell? ⟨b,off+k*5+3,none⟩=some (.string l.note)/\w.cell? ⟨b,off+k*5+4,none⟩=some (.slice B l.ext.length d):=by
 have hx:k<xs.length:=by rw [h.xlen];exact hk
 obtain ⟨b,off,e,hb,hc⟩:=h.rows (by rw [iY];omega);have hg:=h.get hx;rw [iV hk] at hg;injection hg with hg;have hl:=h.lab xs[k] (ib hx);have hr:(xs.map Dt)[k]? =some (Dt xs[k]):=by rw [iZ,iV hx];rfl
 have a:=hc k _ hr;have f:=iV hx;rcases hv:xs[k] with ⟨B,d,l⟩;rw [hv] at a hg hl f;exact ⟨b,off,B,d,l,e,hb,f,hg,hl,a 0 _ rfl,a 1 _ rfl,a 2 _ rfl,a 3 _ rfl,a 4 _ rfl⟩
theorem TabAt.okruns {w:World} {A:Option Addr} {c:Nat} {xs:List LabE} {T:Tab} (h:TabAt w A c xs T):∀r∈CG T.labels,GR r:=by
 intro r hr;unfold CG at hr;obtain ⟨l,hl,hr⟩:=List.mem_flatMap.1 hr;rw [<-h.eq] at hl;obtain ⟨x,hx,rfl⟩:=ie.1 hl;exact (h.lab x hx).runs.1 r hr
theorem Ug (ls:List Lab) (k:Nat) (h:k<ls.length):CK (ls.take (k+1))=CK (ls.take k)++(if emL ls[k]=true then [] else [Qc ls[k]]):=by
 unfold CK;rw [ic h,j8,il];congr 1;cases hm:emL ls[k]<;>simp [hm]
theorem NJ (ls:List Lab) (k:Nat) (h:k<ls.length):CG (ls.take (k+1))=CG (ls.take k)++ls[k].ext:=by
 unfold CG;rw [ic h,List.flatMap_append];simp
theorem I8 (l:Lab):emL l=true↔l=CN:=J2 l CN
theorem ck (l:Lab) (h:emL l=true):l.ext=[]:=by rw [(I8 l).1 h];rfl
theorem KI (l:Lab) (t:Int) (h:BZ l t=true):okT t=true/\idB l=true/\txB l=true/\cnB l=true/\jnB l=true/\inB l t=true:=by
 unfold BZ at h;simp only [jF] at h;exact ⟨h.1,h.2.1,h.2.2.1,h.2.2.2.1,h.2.2.2.2.1,h.2.2.2.2.2⟩
theorem N0 (l:Lab) (t:Int) (h:BZ l t=true):1<=l.id/\0<=l.unit/\1<=l.ext.length/\l.ext.length<=16:=by
 obtain ⟨_,h1,_,h2,_⟩:=KI l t h;unfold idB at h1;unfold cnB at h2;simp at h1 h2;omega
theorem ed (l:Lab) (t:Int) (h:okL t l=true):l.ext.length<=16/\0<=l.unit:=by
 unfold okL at h;rw [Bool.or_eq_true] at h;rcases h with h | h
 . rw [(I8 l).1 h];decide
 . have:=N0 l t h;omega
theorem EV (T:Tab) (h:J6 T=false):Bf T=false:=by unfold Bf;rw [h];rfl
theorem K7 (T:Tab) (k:Nat) (hk:k<T.labels.length) (h:okL T.tracks T.labels[k]=false):Bf T=false:=by
 unfold Bf
 have:T.labels.all (okL T.tracks)=false:=by
  rw [List.all_eq_false];exact ⟨T.labels[k],ib hk,by rw [h];simp⟩
 rw [this];simp
theorem LK (T:Tab) (h:¬(CK T.labels).Nodup):Bf T=false:=by
 unfold Bf;rw [ir h];simp
theorem WZ (T:Tab) (h1:J6 T=true) (h2:T.labels.all (okL T.tracks)=true) (h3:(CK T.labels).Nodup):Bf T=decide (CZ (CG T.labels)).Nodup:=by
 unfold Bf;rw [h1,h2,iq h3];rfl
theorem LS (ls:List Lab) (k:Nat) (h:(CK ls).Nodup):(CK (ls.take k)).Nodup:=by
 have:CK ls=CK (ls.take k)++CK (ls.drop k):=by
  unfold CK;conv=>lhs;rw [<-kK k ls]
  rw [j8,il]
 rw [this] at h;exact (jg.1 h).1
structure GoodT (T:Tab):Prop where
 tr:okT T.tracks=true
 nm:Cn T.name=true
 len:(T.labels.length:Int)=Ca T.tracks
 ok:∀l∈T.labels,emL l=true\/BZ l T.tracks=true
 keys:(CK T.labels).Nodup
 seq:(CZ (CG T.labels)).Nodup
theorem Af (T:Tab):Bf T=true↔GoodT T:=by
 unfold Bf J6;constructor
 . intro h;simp only [jF,jG,jN] at h;obtain ⟨⟨⟨h1,h2⟩,h3⟩,⟨h4,h5⟩,h6⟩:=h;exact ⟨h1,h2,h3,λl hl=>by have:=h4 l hl;unfold okL at this;rwa [Bool.or_eq_true] at this,h5,h6⟩
 . intro ⟨h1,h2,h3,h4,h5,h6⟩;simp only [jF,jG,jN];exact ⟨⟨⟨h1,h2⟩,h3⟩,⟨λl hl=>by unfold okL;rw [Bool.or_eq_true];exact h4 l hl,h5⟩,h6⟩
theorem GoodT.small {T:Tab} (h:GoodT T):T.labels.length<=31/\∀l∈T.labels,l.ext.length<=16/\0<=l.unit:=by
 constructor
 . have h1:=h.len;have h2:=EC T.tracks;unfold Ca at h1;omega
 . intro l hl;refine ed l T.tracks ?_;unfold okL;rw [Bool.or_eq_true];exact h.ok l hl
theorem Xq (ls:List Lab) (m:Nat) (h:∀l∈ls,l.ext.length<=m):(CG ls).length<=ls.length*m:=by
 induction ls with
 | nil=>simp [CG]
 | cons x ls ih=>
   have h1:=h x (jA ..);have h2:=ih (λy hy=>h y (iz _ hy));have:CG (x::ls)=x.ext++CG ls:=by simp [CG]
   rw [this,iy,jf,Nat.succ_mul];omega
theorem GoodT.exts {T:Tab} (h:GoodT T):(CG T.labels).length<=496:=by
 have:=Xq T.labels 16 (λl hl=>(h.small.2 l hl).1);have:=h.small.1;omega
def FU (T:Tab):List (Int × Int):=if Bf T=true then OU (ttS T.tracks) T.tracks (CG T.labels) else []
theorem Xy (T:Tab):(FU T).length<=128:=by
 unfold FU;split
 . unfold OU;rw [Dw];exact I5 _
 . simp
def MA (id unit:Int) (l:Lab):Bool:=!(id==0) && (l.id==id) && (l.unit==unit)
def H6 (p:Lab->Bool) (ls:List Lab):Int:=match ls.findIdx? p with | some i=>(i:Int) | none=>-1
theorem OS (p:Lab->Bool) (ls:List Lab) (k:Nat) (hk:k<ls.length) (h:p ls[k]=true) (hn:∀j (hj:j<ls.length),j<k->p ls[j]=false):H6 p ls=(k:Int):=by
 unfold H6;rw [List.findIdx?_eq_some_iff_getElem.2 ⟨hk,h,λj hj=>by rw [hn j oo hj];simp⟩]
theorem K2 (p:Lab->Bool) (ls:List Lab) (hn:∀j (hj:j<ls.length),p ls[j]=false):H6 p ls=-1:=by
 unfold H6;rw [List.findIdx?_eq_none_iff.2 (λl hl=>by obtain ⟨j,hj,rfl⟩:=List.getElem_of_mem hl;exact hn j hj)]
theorem Hh (p:Lab->Bool) (ls:List Lab):(∃(k:Nat) (hk:k<ls.length),H6 p ls=(k:Int)/\p ls[k]=true/\∀j (hj:j<ls.length),j<k->p ls[j]=false)\/(H6 p ls=-1/\∀l∈ls,p l=false):=by
 unfold H6;cases h:ls.findIdx? p with
 | none=>exact .inr ⟨rfl,λl hl=>by simpa using List.findIdx?_eq_none_iff.1 h l hl⟩
 | some k=>
   obtain ⟨hk,h1,h2⟩:=List.findIdx?_eq_some_iff_getElem.1 h;exact .inl ⟨k,hk,rfl,h1,λj hj hjk=>by simpa using h2 j hjk⟩
theorem Z0 (p:Lab->Bool) (ls:List Lab):decide (0<=H6 p ls)=ls.any p:=by
 rcases Hh p ls with ⟨k,hk,h,hp,_⟩ | ⟨h,hn⟩
 . rw [h,iq oo];exact (j6.2 ⟨ls[k],ib hk,hp⟩).symm
 . rw [h,ir oo];exact (jT.2 (λl hl=>by rw [hn l hl];simp)).symm
def IM (id:Int) (l:Lab):Bool:=(l.id==id) && decide (0<l.unit)
def Sc (T:Tab) (id unit:Int):Int:=H6 (MA id unit) T.labels
theorem aE (id unit:Int) (l:Lab):MA id unit l=true↔id≠0/\l.id=id/\l.unit=unit:=by
 unfold MA;simp only [jF,kM,it,jy];constructor
 . rintro ⟨⟨h1,h2⟩,h3⟩;exact ⟨h1,h2,h3⟩
 . rintro ⟨h1,h2,h3⟩;exact ⟨⟨h1,h2⟩,h3⟩

theorem dN (a b:Int) (h:(a==b)=true):(a != b)=false:=by simp [bne,h]
theorem ev (a b:Int) (h:(a==b)=false):(a != b)=true:=by simp [bne,h]
theorem PU (B:Option Addr) (d:Nat) (l:Lab) (w:World) (h:LabAt w B d l) (hl:l.ext.length<=1000):
 Calls Tryz.prog 90 #[.agg #[.int .i64 l.id,.int .i64 l.unit,.string l.name,.string l.note,.slice B l.ext.length d]] w λe w'=>e=.returned (.bool (emL l))/\Grew w w':=by
 have g0:=(iW w).alloc (.cells #[.int .i64 l.id,.int .i64 l.unit,.string l.name,.string l.note,.slice B l.ext.length d] 101);have HC:=zh (N4 B d l _ (h.hold g0) oo);have HG:=zh g0;have HE:=zh (show emL l=eqL l CN from rfl);clear h g0;go_enter Tryz.func90,Tryz.ntmps90;go_wp2_with fail;refine HC.mono ?_;rintro e w1 ⟨rfl,g1⟩;go_wp2_with fail;go_ret;exact ⟨AC (by rw [HE.out]),HG.out.trans g1⟩
theorem Td (B:Option Addr) (d:Nat) (l:Lab) (id unit:Int) (g:Nat) (w:World) (hb:Blk w g 53 #[.int .i64 id,.int .i64 unit]):
 Calls Tryz.prog 173 #[.agg #[.int .i64 l.id,.int .i64 l.unit,.string l.name,.string l.note,.slice B l.ext.length d],.pointer (some ⟨g,0,none⟩)] w λe w'=>e=.returned (.bool (MA id unit l))/\Grew w w':=by
 have x0:=hb.cell 0;have x1:=hb.cell 1;have hl:=hb.lt;obtain ⟨i,u,nm,nt,ex⟩:=l;simp only;have HE:=zh (show MA id unit ⟨i,u,nm,nt,ex⟩=(!(id==0) && (i==id) && (u==unit)) from rfl);clear hb;cases b1:(id==0) with
 | true=>
   have HB:=zh b1;have c1:=dN _ _ b1;clear b1;go_enter Tryz.func173,Tryz.ntmps173;go_wp2_with fail;go_ret;exact ⟨AC (by rw [HE.out,HB.out];rfl),gG⟩
 | false=>
   have a:=zh b1;have c1:=ev _ _ b1;clear b1;cases b2:(i==id) with
   | false=>
     have HB:=zh b2;go_enter Tryz.func173,Tryz.ntmps173;go_wp2_with fail;go_ret;exact ⟨AC (by rw [HE.out,a.out,HB.out];rfl),gG⟩
   | true=>
     have b:=zh b2;cases b3:(u==unit) with
     | false=>
       have HB:=zh b3;go_enter Tryz.func173,Tryz.ntmps173;go_wp2_with fail;go_ret;exact ⟨AC (by rw [HE.out,a.out,b.out,HB.out];rfl),gG⟩
     | true=>
       have HB:=zh b3;go_enter Tryz.func173,Tryz.ntmps173;go_wp2_with fail;go_ret;exact ⟨AC (by rw [HE.out,a.out,b.out,HB.out];rfl),gG⟩
theorem Se (B:Option Addr) (d:Nat) (l:Lab) (id unit:Int) (g:Nat) (w:World) (hb:Blk w g 53 #[.int .i64 id,.int .i64 unit]):
 Calls Tryz.prog 88 #[.agg #[.int .i64 l.id,.int .i64 l.unit,.string l.name,.string l.note,.slice B l.ext.length d],.pointer (some ⟨g,0,none⟩)] w λe w'=>e=.returned (.bool (IM id l))/\Grew w w':=by
 have x0:=hb.cell 0;have hl:=hb.lt;obtain ⟨i,u,nm,nt,ex⟩:=l;simp only;have HE:=zh (show IM id ⟨i,u,nm,nt,ex⟩=((i==id) && decide (0<u)) from rfl);clear hb;cases b1:(i==id) with
 | false=>
   have HB:=zh b1;go_enter Tryz.func88,Tryz.ntmps88;go_wp2_with fail;go_ret;exact ⟨AC (by rw [HE.out,HB.out];rfl),gG⟩
 | true=>
   have a:=zh b1;by_cases b2:0<u
   . have HB:=zh (iq b2);go_enter Tryz.func88,Tryz.ntmps88;go_wp2_with fail;go_ret;exact ⟨AC (by rw [HE.out,a.out,HB.out];rfl),gG⟩
   . have HB:=zh (ir b2);go_enter Tryz.func88,Tryz.ntmps88;go_wp2_with fail;go_ret;exact ⟨AC (by rw [HE.out,a.out,HB.out];rfl),gG⟩
section
variable (A:Option Addr) (c:Nat) (xs:List LabE) (T:Tab) (g:Nat) (id unit:Int) (w:World)
theorem UA (h:TabAt w A c xs T) (hs:SmallT T) (hb:Blk w g 53 #[.int .i64 id,.int .i64 unit]) (n:Nat) (hn:n=T.labels.length):
 Calls Tryz.prog 89 #[.slice A n c,.func (.func 173) #[] #[.pointer (some ⟨g,0,none⟩)]] w λe w'=>e=.returned (.int .i64 (H6 (MA id unit) T.labels))/\Grew w w':=by
 subst hn;have HT:=zh h;have HS:=zh hs;have p:=zh hb;have x:=hs.len;obtain ⟨q,hq⟩:∃q,MA id unit=q:=⟨_,rfl⟩;have HQ:=zh hq;rw [hq];clear h hs hb hq;go_enter Tryz.func89,Tryz.ntmps89;go_wp2_with fail
 go_loopg [8] T.labels.length (λgk i wr=>∃k:Nat,k<=T.labels.length/\gk=T.labels.length - k/\i=.int .i64 k/\(∀j (hj:j<T.labels.length),j<k->q T.labels[j]=false)/\Grew w wr)
 case atStart=>exact ⟨0,oo,oo,rfl,λj _ h=>oo,iW _⟩
 case round=>
  obtain ⟨k,hk,m,rfl,o,hg⟩:=hrel;have r:=zh m;have HA:=zh o;have HG:=zh hg;clear m o;by_cases f:k<T.labels.length
  . obtain ⟨b,y,B,d,l,rfl,z,u,hv,v,c0,c1,c2,c3,c4⟩:=(HT.hold hg).at_ f;have s:=HS.ext T.labels[k] (ib f);rw [hv] at s;have hb:=p.out;have HC:=zh (Td B d l id unit g wr (hb.hold hg));have HV:=zh hv;clear hv u hb v;rw [HQ.out] at HC;go_wp2_with fail;refine HC.mono ?_;rintro e w3 ⟨rfl,g3⟩;cases a:q l with
    | true=>
      have HI:=zh (OS q T.labels k f (by rw [HV.out];exact a) HA);clear a;go_wp2_with fail;go_ret;exact ⟨DK (by rw [HI.out]),HG.out.trans g3⟩
    | false=>
      have HN:=zh (show ∀j (hj:j<T.labels.length),j<k+1->q T.labels[j]=false from λj hj hjk=>by
       by_cases t:j=k
       . subst t;rw [HV.out];exact a
       . exact HA.out j hj oo)
      clear a;go_wp2_with fail
      go_roundg (T.labels.length - (k+1))
      case measure=>rw [r.out];omega
      case rel=>exact ⟨k+1,oo,oo,by go_num,HN,HG.out.trans g3⟩
  . have HN:=zh (K2 q T.labels (λj hj=>HA j hj oo));go_wp2_with fail;go_ret;exact ⟨DK (by rw [HN.out]),HG⟩
theorem YS (h:TabAt w A c xs T) (hs:SmallT T) (hb:Blk w g 53 #[.int .i64 id,.int .i64 unit]) (n:Nat) (hn:n=T.labels.length):
 Calls Tryz.prog 89 #[.slice A n c,.func (.func 88) #[] #[.pointer (some ⟨g,0,none⟩)]] w λe w'=>e=.returned (.int .i64 (H6 (IM id) T.labels))/\Grew w w':=by
 subst hn;have HT:=zh h;have HS:=zh hs;have p:=zh hb;have x:=hs.len;obtain ⟨q,hq⟩:∃q,IM id=q:=⟨_,rfl⟩;have HQ:=zh hq;rw [hq];clear h hs hb hq;go_enter Tryz.func89,Tryz.ntmps89;go_wp2_with fail
 go_loopg [8] T.labels.length (λgk i wr=>∃k:Nat,k<=T.labels.length/\gk=T.labels.length - k/\i=.int .i64 k/\(∀j (hj:j<T.labels.length),j<k->q T.labels[j]=false)/\Grew w wr)
 case atStart=>exact ⟨0,oo,oo,rfl,λj _ h=>oo,iW _⟩
 case round=>
  obtain ⟨k,hk,m,rfl,o,hg⟩:=hrel;have r:=zh m;have HA:=zh o;have HG:=zh hg;clear m o;by_cases f:k<T.labels.length
  . obtain ⟨b,y,B,d,l,rfl,z,u,hv,v,c0,c1,c2,c3,c4⟩:=(HT.hold hg).at_ f;have s:=HS.ext T.labels[k] (ib f);rw [hv] at s;have hb:=p.out;have HC:=zh (Se B d l id unit g wr (hb.hold hg));have HV:=zh hv;clear hv u hb v;rw [HQ.out] at HC;go_wp2_with fail;refine HC.mono ?_;rintro e w3 ⟨rfl,g3⟩;cases a:q l with
    | true=>
      have HI:=zh (OS q T.labels k f (by rw [HV.out];exact a) HA);clear a;go_wp2_with fail;go_ret;exact ⟨DK (by rw [HI.out]),HG.out.trans g3⟩
    | false=>
      have HN:=zh (show ∀j (hj:j<T.labels.length),j<k+1->q T.labels[j]=false from λj hj hjk=>by
       by_cases t:j=k
       . subst t;rw [HV.out];exact a
       . exact HA.out j hj oo)
      clear a;go_wp2_with fail
      go_roundg (T.labels.length - (k+1))
      case measure=>rw [r.out];omega
      case rel=>exact ⟨k+1,oo,oo,by go_num,HN,HG.out.trans g3⟩
  . have HN:=zh (K2 q T.labels (λj hj=>HA j hj oo));go_wp2_with fail;go_ret;exact ⟨DK (by rw [HN.out]),HG⟩
theorem Jl (h:TabAt w A c xs T) (hs:SmallT T) (hb:Blk w g 53 #[.int .i64 id,.int .i64 unit]) (n:Nat) (hn:n=T.labels.length):
 Calls Tryz.prog 89 #[.slice A n c,.func (.func 90) #[] #[]] w λe w'=>e=.returned (.int .i64 (H6 (emL) T.labels))/\Grew w w':=by
 subst hn;have HT:=zh h;have HS:=zh hs;have s:=zh hb;have x:=hs.len;obtain ⟨q,hq⟩:∃q,emL=q:=⟨_,rfl⟩;have HQ:=zh hq;rw [hq];clear h hs hb hq;go_enter Tryz.func89,Tryz.ntmps89;go_wp2_with fail
 go_loopg [8] T.labels.length (λgk i wr=>∃k:Nat,k<=T.labels.length/\gk=T.labels.length - k/\i=.int .i64 k/\(∀j (hj:j<T.labels.length),j<k->q T.labels[j]=false)/\Grew w wr)
 case atStart=>exact ⟨0,oo,oo,rfl,λj _ h=>oo,iW _⟩
 case round=>
  obtain ⟨k,hk,o,rfl,p,hg⟩:=hrel;have t:=zh o;have HA:=zh p;have HG:=zh hg;clear o p;by_cases f:k<T.labels.length
  . obtain ⟨b,y,B,d,l,rfl,z,v,hv,r,c0,c1,c2,c3,c4⟩:=(HT.hold hg).at_ f;have m:=HS.ext T.labels[k] (ib f);rw [hv] at m;have hb:=s.out;have HC:=zh (PU B d l wr r m);have HV:=zh hv;clear hv v hb r;rw [HQ.out] at HC;go_wp2_with fail;refine HC.mono ?_;rintro e w3 ⟨rfl,g3⟩;cases a:q l with
    | true=>
      have HI:=zh (OS q T.labels k f (by rw [HV.out];exact a) HA);clear a;go_wp2_with fail;go_ret;exact ⟨DK (by rw [HI.out]),HG.out.trans g3⟩
    | false=>
      have HN:=zh (show ∀j (hj:j<T.labels.length),j<k+1->q T.labels[j]=false from λj hj hjk=>by
       by_cases u:j=k
       . subst u;rw [HV.out];exact a
       . exact HA.out j hj oo)
      clear a;go_wp2_with fail
      go_roundg (T.labels.length - (k+1))
      case measure=>rw [t.out];omega
      case rel=>exact ⟨k+1,oo,oo,by go_num,HN,HG.out.trans g3⟩
  . have HN:=zh (K2 q T.labels (λj hj=>HA j hj oo));go_wp2_with fail;go_ret;exact ⟨DK (by rw [HN.out]),HG⟩
theorem GW (h:TabAt w A c xs T) (hs:SmallT T) (hb:Blk w g 53 #[.int .i64 id,.int .i64 unit]) (n:Nat) (hn:n=T.labels.length):
 Calls Tryz.prog 87 #[.slice A n c,.func (.func 88) #[] #[.pointer (some ⟨g,0,none⟩)]] w λe w'=>e=.returned (.bool (T.labels.any (IM id)))/\Grew w w':=by
 subst hn;have HC:=zh (YS A c xs T g id unit w h hs hb _ rfl);have HE:=zh (Z0 (IM id) T.labels);generalize H6 (IM id) T.labels=i at*
 clear h hs hb;go_enter Tryz.func87,Tryz.ntmps87;go_wp2_with fail;refine HC.mono ?_;rintro e w1 ⟨rfl,g1⟩;go_wp2_with fail;go_ret;exact ⟨AC (by rw [<-HE.out]),g1⟩
theorem UO (h:TabAt w A c xs T) (hs:SmallT T) (n:Nat) (hn:n=T.labels.length) (k:Int) (hk:Sc T id unit=k):
 Calls Tryz.prog 141 #[.agg #[.string T.name,.int .i64 T.tracks,.slice A n c],.agg #[.int .i64 id,.int .i64 unit]] w λe w'=>e=.returned (.int .i64 k)/\Grew w w':=by
 subst hk;subst hn;have g0:=((iW w).alloc (.cells #[.string T.name,.int .i64 T.tracks,.slice A T.labels.length c] 95)).alloc (.cells #[.int .i64 id,.int .i64 unit] 53);have a:=ik (w.alloc (.cells #[.string T.name,.int .i64 T.tracks,.slice A T.labels.length c] 95)) 53 #[.int .i64 id,.int .i64 unit] (n:=w.heap.size+1) qs;have HC:=zh (UA A c xs T (w.heap.size+1) id unit _ (h.hold g0) hs a _ rfl);have HG:=zh g0;have HI:=zh (show Sc T id unit=H6 (MA id unit) T.labels from rfl);clear h g0 hs a;go_enter Tryz.func141,Tryz.ntmps141;go_wp2_with fail;refine HC.mono ?_;rintro e w1 ⟨rfl,g1⟩;go_wp2_with fail;go_ret;exact ⟨DK (by rw [HI.out]),HG.out.trans g1⟩
end

end
section
attribute [local go_sem ↓] Go.wp_at_zero Go.wp_at_succ
open Go.RowKit
theorem Nx:(Tryz.prog.info? 101).map (λi=>(i.zero,i.size,i.bytes))=some (some (.agg #[.int .i64 0,.int .i64 0,.string ⟨#[]⟩,.string ⟨#[]⟩,.slice none 0 0]),5,72):=qk
theorem Jn (A:Option Addr) (c n:Nat) (l:List (Int × Int)) (w:World) (hn:n=l.length) (hl:l.length<=1000000) (hr:ListAt w w.heap.size 2 A (l.map G1)):
 Calls Tryz.prog 140 #[.slice A n c] w λe w'=>∃v,e=.returned v/\OwnL w' w.heap.size 229 2 v (l.map G1)/\Grew w w':=by
 subst hn;cases A with
 | none=>
   have h0:l=[]:=by
    rcases Nat.eq_zero_or_pos l.length with h0 | h0
    . exact kI.1 h0
    . obtain ⟨b,i,e,_⟩:=hr (by rw [iY];exact h0);cases e
   subst h0;have a:=λ(W:World)=>Lib.run_eql_slice_nil (P:=Tryz.prog) W 99 229 none 0 c 0 0 Tryz.underlying99;go_enter Tryz.func140,Tryz.ntmps140
   go_wp2
   go_ret;exact ⟨_,rfl,OwnL.nil _ _ _ _,gG⟩
 | some ad=>
   have a:=λ(W:World)=>Lib.run_eql_slice_nil (P:=Tryz.prog) W 99 229 (some ad) l.length c 0 0 Tryz.underlying99;have d:=ListAt.mono (B':=w.heap.size+1) (hr.keep (iX _) ((iW w).alloc (.cells #[] 229))) oo;go_enter Tryz.func140,Tryz.ntmps140;go_wp2_with (at_builtin;refine Ab (by rfl) _ _ 99 rfl w.heap.size 229 2 16 _ Tryz.underlying99 Ec rfl qd _ [] (l.map G1) (by rfl) (OwnL.empty w _ _ _ (iX _) rfl) _ l.length _ (by rfl) qs (by intro r hr;obtain ⟨x,_,rfl⟩:=ie.1 hr;rfl) (by simpa using d) (by intro r hr;obtain ⟨x,_,rfl⟩:=ie.1 hr;rfl) (by simp;omega) (by simp;omega) qs ?_;intro v1 w3 f g h);go_ret;exact ⟨v1,rfl,f,Grew.own ((iW w).alloc _) g (by simp [Value.ownBlock]) (iX _)⟩
theorem Nw (A:Option Addr) (c n:Nat) (l:List (LabE)) (w:World) (hn:n=l.length) (hl:l.length<=1000000) (hr:ListAt w w.heap.size 5 A (l.map Dt)):
 Calls Tryz.prog 139 #[.slice A n c] w λe w'=>∃v,e=.returned v/\OwnL w' w.heap.size 101 5 v (l.map Dt)/\Grew w w':=by
 subst hn;cases A with
 | none=>
   have h0:l=[]:=by
    rcases Nat.eq_zero_or_pos l.length with h0 | h0
    . exact kI.1 h0
    . obtain ⟨b,i,e,_⟩:=hr (by rw [iY];exact h0);cases e
   subst h0;have a:=λ(W:World)=>Lib.run_eql_slice_nil (P:=Tryz.prog) W 93 101 none 0 c 0 0 Tryz.underlying93;go_enter Tryz.func139,Tryz.ntmps139
   go_wp2
   go_ret;exact ⟨_,rfl,OwnL.nil _ _ _ _,gG⟩
 | some ad=>
   have a:=λ(W:World)=>Lib.run_eql_slice_nil (P:=Tryz.prog) W 93 101 (some ad) l.length c 0 0 Tryz.underlying93;have d:=ListAt.mono (B':=w.heap.size+1) (hr.keep (iX _) ((iW w).alloc (.cells #[] 101))) oo;go_enter Tryz.func139,Tryz.ntmps139;go_wp2_with (at_builtin;refine Ab (by rfl) _ _ 93 rfl w.heap.size 101 5 72 _ Tryz.underlying93 Nx rfl qd _ [] (l.map Dt) (by rfl) (OwnL.empty w _ _ _ (iX _) rfl) _ l.length _ (by rfl) qs (by intro r hr;obtain ⟨x,_,rfl⟩:=ie.1 hr;rfl) (by simpa using d) (by intro r hr;obtain ⟨x,_,rfl⟩:=ie.1 hr;rfl) (by simp;omega) (by simp;omega) qs ?_;intro v1 w3 f g h);go_ret;exact ⟨v1,rfl,f,Grew.own ((iW w).alloc _) g (by simp [Value.ownBlock]) (iX _)⟩
structure TabO (w:World) (base:Nat) (v:Value) (ys:List LabE) (ls:List Lab):Prop where
 own:OwnL w base 101 5 v (ys.map Dt)
 lab:∀y∈ys,LabAt w y.A y.c y.l
 far:∀y∈ys,0<y.l.ext.length->∀b off,y.A=some ⟨b,off,none⟩->v.ownBlock≠some b
 eq:ys.map (·.l)=ls
theorem TabO.hold {w w':World} {base:Nat} {v:Value} {ys:List LabE} {ls:List Lab} (h:TabO w base v ys ls) (hg:Grew w w'):TabO w' base v ys ls:=
 ⟨h.own.grew hg,λy hy=>(h.lab y hy).hold hg,h.far,h.eq⟩
theorem TabO.lower {w:World} {b b':Nat} {v:Value} {ys:List LabE} {ls:List Lab} (h:TabO w b v ys ls) (hb:b'<=b):TabO w b' v ys ls:=by
 refine ⟨⟨h.own.1,h.own.2.1,?_⟩,h.lab,h.far,h.eq⟩;rcases h.own.2.2 with h0 | ⟨g,cap,a,h1,h2,h3⟩
 . exact .inl h0
 . exact .inr ⟨g,cap,a,h1,ij hb h2,h3⟩
theorem TabO.len {w:World} {base:Nat} {v:Value} {ys:List LabE} {ls:List Lab} (h:TabO w base v ys ls):ys.length=ls.length:=by rw [<-h.eq,iY]
theorem TabO.form {w:World} {base:Nat} {v:Value} {ys:List LabE} {ls:List Lab} (h:TabO w base v ys ls):
 ∃A c,v=.slice A ls.length c/\∀(nm:ByteArray) (t:Int),nm.size<=9223372036854775807->-9223372036854775808<=t->t<=9223372036854775807->TabAt w A c ys ⟨nm,t,ls⟩:=by
 obtain ⟨A,c,hv,h1,h2,h3⟩:=h.own.listAt;rw [iY] at hv h1;rw [h.len] at hv;exact ⟨A,c,hv,λnm t hn ht0 ht1=>⟨h.lab,h3,h1,h2,h.eq,ht0,ht1,hn⟩⟩
theorem LabAt.turned {S:Nat->Prop} {w w':World} {A:Option Addr} {c:Nat} {l:Lab} (h:LabAt w A c l) (ht:Turned S w w') (hS:0<l.ext.length->∀b off,A=some ⟨b,off,none⟩->¬S b):LabAt w' A c l:=
 ⟨h.id0,h.id1,h.unit0,h.unit1,h.name,h.note,⟨h.runs.1,λh0=>by
  obtain ⟨b,off,e,hb,hc⟩:=h.runs.2 h0
  exact ⟨b,off,e,ig hb ht.size,λj cs hj i v hi=>by rw [ht.cellEq _ _ hb (hS (by simpa using h0) b off e)];exact hc j cs hj i v hi⟩⟩,h.len,h.cap⟩
theorem TabO.set_ {w w':World} {base g n cap:Nat} {ys:List LabE} {ls:List Lab} (h:TabO w base (.slice (some ⟨g,0,none⟩) n cap) ys ls) (i:Nat) (y:LabE) (hi:i<ls.length)
 (a:OwnL w' base 101 5 (.slice (some ⟨g,0,none⟩) n cap) ((ys.map Dt).set i (Dt y))) (ht:Turned (λk=>k=g) w w') (hy:LabAt w' y.A y.c y.l) (hf:0<y.l.ext.length->∀b off,y.A=some ⟨b,off,none⟩->b≠g):
 TabO w' base (.slice (some ⟨g,0,none⟩) n cap) (ys.set i y) (ls.set i y.l):=by
 have d:(ys.set i y).map Dt=(ys.map Dt).set i (Dt y):=by rw [List.map_set]
 refine ⟨by rw [d];exact a,λz hz=>?_,λz hz hz0 b off e=>?_,by rw [List.map_set,h.eq]⟩
 . rcases jE hz with hz | rfl
   . exact (h.lab z hz).turned ht (λh0 b off e hk=>h.far z hz h0 b off e (by rw [hk];rfl))
   . exact hy
 . rcases jE hz with hz | rfl
   . exact h.far z hz hz0 b off e
   . intro e2;exact hf hz0 b off e (by simpa [Value.ownBlock] using e2.symm)
theorem TabO.turned {S:Nat->Prop} {w w':World} {base:Nat} {v:Value} {ys:List LabE} {ls:List Lab} (h:TabO w base v ys ls) (ht:Turned S w w') (h1:∀g,v.ownBlock=some g->¬S g) (h2:∀y∈ys,0<y.l.ext.length->∀b off,y.A=some ⟨b,off,none⟩->¬S b):TabO w' base v ys ls:=
 ⟨h.own.kept ht h1,λy hy=>(h.lab y hy).turned ht (h2 y hy),h.far,h.eq⟩
theorem VZ {w:World} {base e sz g:Nat} {v:Value} {rows:List (List Value)} (h:OwnL w base e sz v rows) (hg:g<base) {A:Option Addr} {n c:Nat} (hv:v=.slice A n c):∀b off,A=some ⟨b,off,none⟩->b≠g:=by
 intro b off e;subst hv;subst e;rcases h.form with ⟨h0,_⟩ | ⟨g',cap,h1,h2,_⟩
 . cases h0
 . injection h1 with h1;injection h1 with h1;injection h1 with h1;omega
theorem Hd {w:World} {base:Nat} {v:Value} {l:List (Int × Int)} (h:OwnL w base 229 2 v (l.map G1)) (a:∀r∈l,GR r):∃A c,v=.slice A l.length c/\l.length<=c/\c<=9223372036854775807/\RunsAt w w.heap.size A l:=by
 obtain ⟨A,c,hv,h1,h2,h3⟩:=h.listAt;rw [iY] at hv h1;exact ⟨A,c,hv,h1,h2,a,h3⟩
theorem Yc (A:Option Addr) (c:Nat) (xs:List LabE) (T:Tab) (w:World) (h:TabAt w A c xs T) (hs:SmallT T) (n:Nat) (hn:n=T.labels.length):
 Calls Tryz.prog 93 #[.agg #[.string T.name,.int .i64 T.tracks,.slice A n c]] w λe w'=>∃v ys,e=.returned (.agg #[.string T.name,.int .i64 T.tracks,v])/\TabO w' w.heap.size v ys T.labels/\Grew w w':=by
 subst hn;have cf:=hs.len;have g0:=((iW w).alloc (.cells #[.string T.name,.int .i64 T.tracks,.slice A T.labels.length c] 95)).alloc (.cells #[.string ⟨#[]⟩,.int .i64 0,.slice none 0 0] 95);have M:=(ik w 95 #[.string T.name,.int .i64 T.tracks,.slice A T.labels.length c] rfl).alloc (.cells #[.string ⟨#[]⟩,.int .i64 0,.slice none 0 0] 95);have N:=ik (w.alloc (.cells #[.string T.name,.int .i64 T.tracks,.slice A T.labels.length c] 95)) 95 #[.string ⟨#[]⟩,.int .i64 0,.slice none 0 0] (n:=w.heap.size+1) qs;have h0:=h.hold g0;have hx:=h.xlen;have HC:=zh (Nw A c T.labels.length xs _ hx.symm oo h0.rows);have HT:=zh h;have HS:=zh hs;have a0:=zh M;have a5:=zh N;have a6:=zh g0;clear h hs h0 M N g0;go_enter Tryz.func93,Tryz.ntmps93;go_wp2_with fail;refine HC.mono ?_;rintro e w1 ⟨v,rfl,K,g1⟩;obtain ⟨A1,c1,hv,_,_,_⟩:=K.listAt;rw [iY,hx] at hv;subst hv;have O:=a6.out.trans g1;have ch:w.heap.size+2<=w1.heap.size:=by have:=g1.size;simp at this;omega
 have q:OwnL w1 (w.heap.size+2) 101 5 (.slice A1 T.labels.length c1) (xs.map Dt):=by have:=K;simp only [World.alloc,Array.size_push] at this;exact this
 have f:Grew w (w1.setCell ⟨w.heap.size,2,none⟩ (.slice A1 T.labels.length c1)):=O.setCell (iX _) _;have P:OwnL (w1.setCell ⟨w.heap.size,2,none⟩ (.slice A1 T.labels.length c1)) (w.heap.size+2) 101 5 (.slice A1 T.labels.length c1) (xs.map Dt):=q.far (λhk=>by have:=(q.own_ge hk).1;simp at this;omega) _
 have a:TabO (w1.setCell ⟨w.heap.size,2,none⟩ (.slice A1 T.labels.length c1)) (w.heap.size+2) (.slice A1 T.labels.length c1) xs T.labels:=⟨P,λy hy=>(HT.lab y hy).hold f,λy hy h0 b off e hk=>by
  have h9:=(q.own_ge hk).1
  obtain ⟨b',b9,e',ca,_⟩:=(HT.lab y hy).runs.2 (by simpa using h0)
  rw [e] at e'
  injection e' with e'
  injection e' with e'
  omega,HT.eq⟩
 have hb:=a0.grew g1;have hc:=a5.grew g1;have hz:=hb.lt;have x2:=hb.cell 2;have f2:=hb.frozen 2;have j:=zh a
 have r:=zh (show ∀y∈xs,0<y.l.ext.length->∀b off,y.A=some ⟨b,off,none⟩->b<w.heap.size\/w.heap.size+2<=b from λy hy h0 b off e=>by
  obtain ⟨b',b9,e',ca,_⟩:=(HT.lab y hy).runs.2 (by simpa using h0)
  rw [e] at e'
  injection e' with e'
  injection e' with e'
  omega)
 have a7:=zh f;have a8:=zh (hb.set_ 2 (.slice A1 T.labels.length c1));have a9:=zh (hc.far (p:=⟨w.heap.size,2,none⟩) qs (.slice A1 T.labels.length c1));clear K q P a HC f hb hc O;go_wp2_with fail
 go_loopg [11] T.labels.length (λgk i wr=>∃(k:Nat) (ys:List LabE),k<=T.labels.length/\gk=T.labels.length - k/\i=.int .i64 k/\TabO wr (w.heap.size+2) (.slice A1 T.labels.length c1) ys T.labels/\Blk wr w.heap.size 95 #[.string T.name,.int .i64 T.tracks,.slice A1 T.labels.length c1]/\Blk wr (w.heap.size+1) 95 #[.string ⟨#[]⟩,.int .i64 0,.slice none 0 0]/\(∀y∈ys,0<y.l.ext.length->∀b off,y.A=some ⟨b,off,none⟩->b<w.heap.size\/w.heap.size+2<=b)/\Grew w wr)
 case atStart=>exact ⟨0,xs,oo,oo,rfl,j,a8,a9,r,a7⟩
 case round=>
  obtain ⟨k,ys,hk,ap,rfl,a,hb,hc,av,hg⟩:=hrel;have r:=zh av;clear av;have bb:=zh ap;clear ap;have C:=a.len;have Q:=hb.lt;have bc:=hc.lt;have x2:=hb.cell 2;by_cases J:k<T.labels.length
  . obtain ⟨g,cap,hv,cq,L⟩:∃g cap,Value.slice A1 T.labels.length c1=.slice (some ⟨g,0,none⟩) T.labels.length cap/\w.heap.size+2<=g/\g<wr.heap.size:=by
     rcases a.own.form with ⟨_,h0⟩ | ⟨g,cap,hv,h1,h2,_⟩
     . have:=ix length h0;rw [iY,C,length_nil] at this;omega
     . rw [iY,C] at hv;exact ⟨g,cap,hv,h1,h2⟩
    injection hv with hv1 _ hv2;subst hv1;subst hv2;have D:k<ys.length:=oo;have s:(ys.map Dt)[k]? =some (Dt ys[k]):=by rw [iZ,iV D];rfl
    have E:=a.lab ys[k] (ib D)
    have t:T.labels[k]=ys[k].l:=by
     have:(ys.map (·.l))[k]? =some ys[k].l:=by rw [iZ,iV D];rfl
     rw [a.eq,iV J] at this;exact Option.some.inj this
    have bf:=HS.ext T.labels[k] (ib J);obtain ⟨B,d,l,hy⟩:∃B d l,ys[k]=⟨B,d,l⟩:=⟨_,_,_,rfl⟩;rw [hy] at s E t;rw [t] at bf;have x4:wr.cell? ⟨g,k*5+4,none⟩=some (.slice B l.ext.length d):=a.own.cell s (i:=4) rfl;have f4:=a.own.frozen (k*5+4);have j:=zh a;have HB:=zh hb;have HC:=zh hc;have HG:=zh hg;have F:=zh E;have R:=zh s;have bk:=zh t
    have U:∀w1 w2:World,Grew w1 w2->(w1.cell? ⟨w.heap.size,2,none⟩=some (.slice (some ⟨g,0,none⟩) T.labels.length c1)/\w1.cell? ⟨g,k*5+4,none⟩=some (.slice B l.ext.length d)/\w.heap.size<w1.heap.size/\g<w1.heap.size)->(w2.cell? ⟨w.heap.size,2,none⟩=some (.slice (some ⟨g,0,none⟩) T.labels.length c1)/\w2.cell? ⟨g,k*5+4,none⟩=some (.slice B l.ext.length d)/\w.heap.size<w2.heap.size/\g<w2.heap.size):=λw1 w2 h9 ⟨a1,a2,a3,a4⟩=>by
     rw [h9.cellEq _ _ a3,h9.cellEq _ _ a4];exact ⟨a1,a2,ig a3 h9.size,ig a4 h9.size⟩
    have bl:=zh U;clear a hb hc hg E s t hy C U;go_wp2_with fail;refine AB [12] (λw':World=>w'.cell? ⟨w.heap.size,2,none⟩=some (.slice (some ⟨g,0,none⟩) T.labels.length c1)/\w'.cell? ⟨g,k*5+4,none⟩=some (.slice B l.ext.length d)/\w.heap.size<w'.heap.size/\g<w'.heap.size) qk ?_;have hS:(λw':World=>w'.cell? ⟨w.heap.size,2,none⟩=some (.slice (some ⟨g,0,none⟩) T.labels.length c1)/\w'.cell? ⟨g,k*5+4,none⟩=some (.slice B l.ext.length d)/\w.heap.size<w'.heap.size/\g<w'.heap.size) wr.drew:=⟨x2,x4,Q,L⟩;refine tQ 0 14 ?_;refine tT 1 (some 15) hS ?_;refine tQ 2 16 ?_;refine tQ 3 17 ?_;refine tT 4 (some 18) hS ?_;refine tQ 5 19 ?_;refine tQ 6 20 ?_;refine tQ 7 21 ?_;refine tT 8 (some 22) hS ?_;refine tO 9 λK' hK=>?_;go_wp2_with fail;refine (Jn B d l.ext.length l.ext _ rfl oo (F.hold ((iW wr).drew)).runs.2).mono ?_;rintro e w4 ⟨v4,rfl,z,g4⟩;obtain ⟨A4,c4,cb,cc,ce,aw⟩:=Hd z F.runs.1;subst cb;have m:Grew wr w4:=(iW wr).drew.trans g4;have V:=VZ z (show g<wr.drew.heap.size from L) rfl;have W:=zh V;have bs:=zh (show ∀b off,A4=some ⟨b,off,none⟩->wr.drew.heap.size<=b from λb off e=>(z.own_ge (by rw [e];rfl)).1);have bt:=zh aw;clear aw z V;go_wp2_with fail;refine hK.out _ _ (.inr (bl _ _ g4)) ?_;clear hK hS x2 x4 f4;have ci:w.heap.size<w4.heap.size:=ig Q m.size;have cl:g<w4.heap.size:=ig L m.size;have u:=j.hold m;have x4:w4.cell? ⟨g,k*5+4,none⟩=some (.slice B l.ext.length d):=u.own.cell R (i:=4) rfl;have f4:=u.own.frozen (k*5+4);have X:=zh u;have G:=zh m;clear u m g4;refine tQ 10 24 ?_;refine tQ 11 25 ?_;refine tO 12 λK' hK=>?_;go_wp2_with fail;refine hK.out _ _ (.inl rfl) ?_;refine AA qk ?_ _;have Y:=(HB.grew G).far (p:=⟨g,k*5+4,none⟩) (by simp;omega) (.slice A4 l.ext.length c4);have Z:=(HC.grew G).far (p:=⟨g,k*5+4,none⟩) (by simp;omega) (.slice A4 l.ext.length c4);have ad:=(HG.out.trans G).setCell (p:=⟨g,k*5+4,none⟩) (by simp;omega) (.slice A4 l.ext.length c4);have af:=R.out;have ag:=X.own.set_ af (i:=4) (o:=k*5+4) qd rfl (.slice A4 l.ext.length c4);have H:Turned (λx=>x=g) w4 (w4.setCell ⟨g,k*5+4,none⟩ (.slice A4 l.ext.length c4)):=(jD (λx=>x=g) w4).setCell (p:=⟨g,k*5+4,none⟩) (λ_=>rfl) _
    have al:LabAt (w4.setCell ⟨g,k*5+4,none⟩ (.slice A4 l.ext.length c4)) A4 c4 l:=by
     have hl:=F.out;have:LabAt w4 A4 c4 l:=⟨hl.id0,hl.id1,hl.unit0,hl.unit1,hl.name,hl.note,bt,cc,ce⟩;exact this.turned H (λ_ b off e hk=>W b off e hk)
    have I:=X.set_ k ⟨A4,c4,l⟩ J (by simpa [Dt] using ag) H al (λ_ b off e=>W b off e);have an:T.labels.set k l=T.labels:=by rw [<-bk.out];exact List.set_getElem_self ..
    rw [an] at I;have bv:=zh I;have bx:=zh Y;have b2:=zh Z;have b3:=zh ad
    have b4:=zh (show ∀y∈ys.set k (⟨A4,c4,l⟩:LabE),0<y.l.ext.length->∀b off,y.A=some ⟨b,off,none⟩->b<w.heap.size\/w.heap.size+2<=b from λy hy h0 b off e=>by
     rcases jE hy with hy | rfl
     . exact r.out y hy h0 b off e
     . exact .inr (ij (show w.heap.size+2<=wr.drew.heap.size from bc) (bs.out b off e)))
    clear Y Z ad af ag H al I an x4 f4;go_wp2_with fail
    go_roundg (T.labels.length - (k+1))
    case measure=>rw [bb.out];omega
    case rel=>exact ⟨k+1,_,oo,oo,by go_num,bv,bx,b2,b4,b3⟩
  . have b0:=hb.cell 0;have b1:=hb.cell 1;have j:=zh a;have HG:=zh hg;have y0:=hc.cell 0;have y1:=hc.cell 1;have y2:=hc.cell 2;have cn:=hc.frozen 0;have co:=hc.frozen 1;have cp:=hc.frozen 2;have b5:=zh (show ∀g,(Value.slice A1 T.labels.length c1).ownBlock=some g->¬g=w.heap.size+1 from λg f=>by have:=(a.own.own_ge f).1;omega);clear a hg hb hc;go_wp2_with fail;refine im (by first | (simp [*,results,Tryz.results93,go_sem];rfl) | simp [*,results,Tryz.results93,go_sem]) rfl ?_;exact ⟨_,_,rfl,(j.turned (S:=λk=>k=w.heap.size+1) (gT) b5 (λy hy h0 b off e hk=>by have:=r.out y hy h0 b off e;omega)).lower oo,by have hg:=HG.out;exact gG⟩

end
section
attribute [local go_sem ↓] Go.wp_at_zero Go.wp_at_succ
open Go.Maps (Keyed)
open Go.RowKit
def Iw (p:Int × Bool):Value:=.agg #[.int .i64 p.1,.bool p.2]
theorem Q6 (a b:Int × Bool) (h:Iw a=Iw b):a=b:=by
 unfold Iw at h;injection h with h;injection h with h;injection h with h1 h2;injection h2 with h2 _;injection h1 with _ h1;injection h2 with h2;exact Prod.ext h1 h2
theorem Xo:∃m,Tryz.prog.types.size=m+1:=⟨Tryz.prog.types.size - 1,qk⟩
theorem Mw:Keyed Tryz.prog 234:=Keyed.of_law (deep_law_laid qk (m:=2) oo (jC qk) qk qk)
theorem P8:Tryz.prog.keyType 234=true:=qk
theorem Mj:Tryz.prog.cellsOf 234=2:=qk
theorem YI:Tryz.prog.cellsOf 3=1:=qk
theorem UB:Tryz.prog.cellsOf 4=1:=qk
theorem au (p:Int × Bool) (h1:-9223372036854775808<=p.1) (h2:p.1<=9223372036854775807):∃x,keyOf Tryz.prog 234 (Iw p)=some x:=by
 obtain ⟨a,b⟩:=p;have wa:(Lit.int .i64 a).wf=true:=WalkArith.wf_i64 ⟨h1,h2⟩;have wb:(Lit.bool b).wf=true:=rfl;obtain ⟨m,hm⟩:=Xo;refine ⟨.string (keyBytes [.int .i64 a,.bool b]),?_⟩;unfold keyOf Iw;simp only [Tryz.underlying234];rw [if_pos (by simp [P8,Value.formed,Tryz.underlying234,Mj]),hm];unfold Program.keyLits;simp only [Tryz.underlying234,Value.cells];rw [if_pos (by rw [Mj];exact ⟨rfl,qk⟩)];simp [Program.keyLits,Tryz.underlying3,Tryz.underlying4,YI,UB,wa,wb]
theorem V6 (w:World):(zeroValue 4).run Tryz.prog w=.ok (.bool false) w:=qk
def JT (ks:List (Int × Bool)) (a:Int × Bool):Option Value:=if a∈ks then some (.bool true) else none
theorem TJ (ks:List (Int × Bool)) (a x:Int × Bool):upd (JT ks) a (some (.bool true)) x=JT (ks++[a]) x:=by
 unfold JT;by_cases h:x=a
 . subst h;rw [ER];simp
 . rw [Ep _ _ h];simp [h]
theorem L1 {w:World} {base e sz m:Nat} {v:Value} {rows:List (List Value)} {F:Int × Bool->Option Value} (h:OwnL w base e sz v rows) (hm:MapIs Tryz.prog 234 Iw w m F):v.ownBlock≠some m:=by
 rcases h.2.2 with ⟨rfl,_⟩ | ⟨g',cap,b,rfl,_,hh,_⟩
 . simp [Value.ownBlock]
 . intro he;have:g'=m:=by simpa [Value.ownBlock] using he
   subst this;obtain ⟨es,a,l,hb,_⟩:=hm;rw [hh] at hb;cases hb
theorem Ru {w:World} {g m:Nat} {t:TypeId} {cs:Array Value} {F:Int × Bool->Option Value} (h:Blk w g t cs) (hm:MapIs Tryz.prog 234 Iw w m F):¬g=m:=by
 rintro rfl;obtain ⟨es,a,l,hb,_⟩:=hm;unfold Blk at h;rw [h] at hb;cases hb
theorem La (l:List (Int × Int)):∀r∈l.map G1,r.length=2:=by
 intro r hr;obtain ⟨x,_,rfl⟩:=ie.1 hr;rfl
theorem Lt (l:List (Int × Int)):∀r∈l.map G1,r.all (·.oneCell')=true:=by
 intro r hr;obtain ⟨x,_,rfl⟩:=ie.1 hr;rfl
theorem G8 (A:Option Addr) (c:Nat) (xs:List LabE) (T:Tab) (w:World) (h:TabAt w A c xs T) (hs:SmallT T) (n:Nat) (hn:n=T.labels.length):
 Calls Tryz.prog 86 #[.agg #[.string T.name,.int .i64 T.tracks,.slice A n c]] w λe w'=>e=.returned (.bool (Bf T))/\Grew w w':=by
 subst hn;have U:=h.name;have c7:=hs.len;have V:=zh ((iW w).alloc (.cells #[.string T.name,.int .i64 T.tracks,.slice A T.labels.length c] 95));have f:=zh (ik w 95 #[.string T.name,.int .i64 T.tracks,.slice A T.labels.length c] rfl);have a3:=zh h;have HS:=zh hs;clear h hs;by_cases hz:okT T.tracks=true;rotate_left
 . have a4:okT T.tracks=false:=by simpa using hz
   have HE:=zh (EV T (by unfold J6;rw [a4];rfl));have F:=zh (show ttS T.tracks=0 from by unfold ttS;rw [if_neg hz]);clear hz a4;go_enter Tryz.func86,Tryz.ntmps86;go_wp2_with fail;refine AB [] (λw':World=>w'.cell? ⟨w.heap.size,0,none⟩=some (.string T.name)/\w'.cell? ⟨w.heap.size,1,none⟩=some (.int .i64 T.tracks)/\w'.cell? ⟨w.heap.size,2,none⟩=some (.slice A T.labels.length c)) qk ?_;have hS:(λw':World=>w'.cell? ⟨w.heap.size,0,none⟩=some (.string T.name)/\w'.cell? ⟨w.heap.size,1,none⟩=some (.int .i64 T.tracks)/\w'.cell? ⟨w.heap.size,2,none⟩=some (.slice A T.labels.length c)) (w.alloc (.cells #[.string T.name,.int .i64 T.tracks,.slice A T.labels.length c] 95)).drew:=⟨f.drew.cell 0,f.drew.cell 1,f.drew.cell 2⟩;refine tQ 0 8 ?_;refine tT 1 (some 9) hS ?_;refine tO 2 λK' hK=>?_;go_wp2_with fail;refine (CC _ _).mono ?_;rintro e w1 ⟨rfl,rfl⟩;rw [F.out];go_wp2_with fail;refine hK.out _ _ (.inr (λh=>h)) ?_;clear hK;refine tQ 3 11 ?_;refine tQ 4 12 ?_;refine tU 5 (some 13) ?_;refine tU 6 (some 14) ?_;refine tU 7 (some 15) ?_;refine tU 8 (some 16) ?_;refine tQ 9 17 ?_;refine tQ 10 18 ?_;refine tU 11 (some 19) ?_;refine tU 12 (some 20) ?_;refine tU 13 (some 21) ?_;refine tU 14 (some 22) ?_;refine tU 15 (some 23) ?_;refine tU 16 (some 24) ?_;refine tU 17 (some 25) ?_;refine tQ 18 26 ?_;refine AA qk ?_ _;go_wp2_with fail;go_ret;exact ⟨AC (by rw [HE.out]),V.drew⟩
 obtain ⟨tt,a2⟩:∃tt,ttS T.tracks=tt:=⟨_,rfl⟩;have F:=zh a2
 have HZ:=zh (show (tt==0)=false from by
  rw [it,<-a2]
  unfold ttS
  have:=Ck hz
  rw [if_pos hz]
  omega)
 have b3:=zh hz;clear hz a2;cases hn:Cn T.name with
 | false=>
   have HN:=zh hn;have HE:=zh (EV T (by unfold J6;rw [hn];simp));clear hn;go_enter Tryz.func86,Tryz.ntmps86;go_wp2_with fail;refine AB [] (λw':World=>w'.cell? ⟨w.heap.size,0,none⟩=some (.string T.name)/\w'.cell? ⟨w.heap.size,1,none⟩=some (.int .i64 T.tracks)/\w'.cell? ⟨w.heap.size,2,none⟩=some (.slice A T.labels.length c)) qk ?_;have hS:(λw':World=>w'.cell? ⟨w.heap.size,0,none⟩=some (.string T.name)/\w'.cell? ⟨w.heap.size,1,none⟩=some (.int .i64 T.tracks)/\w'.cell? ⟨w.heap.size,2,none⟩=some (.slice A T.labels.length c)) (w.alloc (.cells #[.string T.name,.int .i64 T.tracks,.slice A T.labels.length c] 95)).drew:=⟨f.drew.cell 0,f.drew.cell 1,f.drew.cell 2⟩;refine tQ 0 8 ?_;refine tT 1 (some 9) hS ?_;refine tO 2 λK' hK=>?_;go_wp2_with fail;refine (CC _ _).mono ?_;rintro e w1 ⟨rfl,rfl⟩;rw [F.out];go_wp2_with fail;refine hK.out _ _ (.inr (λh=>h)) ?_;clear hK;refine tQ 3 11 ?_;refine tQ 4 12 ?_;rw [HZ.out];refine tQ 5 13 ?_;refine tT 6 (some 14) hS ?_;refine tO 7 λK' hK=>?_;go_wp2_with fail;refine (Cd _ _ U).mono ?_;rintro e w1 ⟨rfl,rfl⟩;rw [HN.out];go_wp2_with fail;refine hK.out _ _ (.inr (λh=>h)) ?_;clear hK;refine tQ 8 16 ?_;refine tQ 9 17 ?_;refine tQ 10 18 ?_;refine tU 11 (some 19) ?_;refine tU 12 (some 20) ?_;refine tU 13 (some 21) ?_;refine tU 14 (some 22) ?_;refine tU 15 (some 23) ?_;refine tU 16 (some 24) ?_;refine tU 17 (some 25) ?_;refine tQ 18 26 ?_;refine AA qk ?_ _;go_wp2_with fail;go_ret;exact ⟨AC (by rw [HE.out]),V.drew⟩
 | true=>
   have HN:=zh hn;clear hn;obtain ⟨sl,E⟩:∃sl,Ca T.tracks=sl:=⟨_,rfl⟩;have a5:=zh E;by_cases hl:(T.labels.length:Int)=sl;rotate_left
   . have HL:=zh (show ((T.labels.length:Int) != sl)=true from by rw [jH];exact hl);have HE:=zh (EV T (by unfold J6;rw [E,ir hl];simp));clear hl E;go_enter Tryz.func86,Tryz.ntmps86;go_wp2_with fail;refine AB [] (λw':World=>w'.cell? ⟨w.heap.size,0,none⟩=some (.string T.name)/\w'.cell? ⟨w.heap.size,1,none⟩=some (.int .i64 T.tracks)/\w'.cell? ⟨w.heap.size,2,none⟩=some (.slice A T.labels.length c)) qk ?_;have hS:(λw':World=>w'.cell? ⟨w.heap.size,0,none⟩=some (.string T.name)/\w'.cell? ⟨w.heap.size,1,none⟩=some (.int .i64 T.tracks)/\w'.cell? ⟨w.heap.size,2,none⟩=some (.slice A T.labels.length c)) (w.alloc (.cells #[.string T.name,.int .i64 T.tracks,.slice A T.labels.length c] 95)).drew:=⟨f.drew.cell 0,f.drew.cell 1,f.drew.cell 2⟩;refine tQ 0 8 ?_;refine tT 1 (some 9) hS ?_;refine tO 2 λK' hK=>?_;go_wp2_with fail;refine (CC _ _).mono ?_;rintro e w1 ⟨rfl,rfl⟩;rw [F.out];go_wp2_with fail;refine hK.out _ _ (.inr (λh=>h)) ?_;clear hK;refine tQ 3 11 ?_;refine tQ 4 12 ?_;rw [HZ.out];refine tQ 5 13 ?_;refine tT 6 (some 14) hS ?_;refine tO 7 λK' hK=>?_;go_wp2_with fail;refine (Cd _ _ U).mono ?_;rintro e w1 ⟨rfl,rfl⟩;rw [HN.out];go_wp2_with fail;refine hK.out _ _ (.inr (λh=>h)) ?_;clear hK;refine tQ 8 16 ?_;refine tQ 9 17 ?_;refine tQ 10 18 ?_;refine tQ 11 19 ?_;refine tT 12 (some 20) hS ?_;refine tT 13 (some 21) hS ?_;refine tQ 14 22 ?_;refine tT 15 (some 23) hS ?_;refine tO 16 λK' hK=>?_;go_wp2_with fail;refine (LO _ _).mono ?_;rintro e w1 ⟨rfl,rfl⟩;rw [a5.out];go_wp2_with fail;refine hK.out _ _ (.inr (λh=>h)) ?_;clear hK;refine tQ 17 25 ?_;rw [HL.out];refine tQ 18 26 ?_;refine AA qk ?_ _;go_wp2_with fail;go_ret;exact ⟨AC (by rw [HE.out]),V.drew⟩
   have HL:=zh (show ((T.labels.length:Int) != sl)=false from by rw [kS];exact hl)
   have c8:T.labels.length<=31:=by
    have h1:=EC T.tracks;unfold Ca at E;omega
   have b4:=zh (show J6 T=true from by unfold J6;rw [b3.out,HN.out,E,iq hl];rfl);clear hl E;go_enter Tryz.func86,Tryz.ntmps86;go_wp2_with fail;refine AB [] (λw':World=>w'.cell? ⟨w.heap.size,0,none⟩=some (.string T.name)/\w'.cell? ⟨w.heap.size,1,none⟩=some (.int .i64 T.tracks)/\w'.cell? ⟨w.heap.size,2,none⟩=some (.slice A T.labels.length c)) qk ?_;have hS:(λw':World=>w'.cell? ⟨w.heap.size,0,none⟩=some (.string T.name)/\w'.cell? ⟨w.heap.size,1,none⟩=some (.int .i64 T.tracks)/\w'.cell? ⟨w.heap.size,2,none⟩=some (.slice A T.labels.length c)) (w.alloc (.cells #[.string T.name,.int .i64 T.tracks,.slice A T.labels.length c] 95)).drew:=⟨f.drew.cell 0,f.drew.cell 1,f.drew.cell 2⟩;refine tQ 0 8 ?_;refine tT 1 (some 9) hS ?_;refine tO 2 λK' hK=>?_;go_wp2_with fail;refine (CC _ _).mono ?_;rintro e w1 ⟨rfl,rfl⟩;rw [F.out];go_wp2_with fail;refine hK.out _ _ (.inr (λh=>h)) ?_;clear hK;refine tQ 3 11 ?_;refine tQ 4 12 ?_;rw [HZ.out];refine tQ 5 13 ?_;refine tT 6 (some 14) hS ?_;refine tO 7 λK' hK=>?_;go_wp2_with fail;refine (Cd _ _ U).mono ?_;rintro e w1 ⟨rfl,rfl⟩;rw [HN.out];go_wp2_with fail;refine hK.out _ _ (.inr (λh=>h)) ?_;clear hK;refine tQ 8 16 ?_;refine tQ 9 17 ?_;refine tQ 10 18 ?_;refine tQ 11 19 ?_;refine tT 12 (some 20) hS ?_;refine tT 13 (some 21) hS ?_;refine tQ 14 22 ?_;refine tT 15 (some 23) hS ?_;refine tO 16 λK' hK=>?_;go_wp2_with fail;refine (LO _ _).mono ?_;rintro e w1 ⟨rfl,rfl⟩;rw [a5.out];go_wp2_with fail;refine hK.out _ _ (.inr (λh=>h)) ?_;clear hK;refine tQ 17 25 ?_;rw [HL.out];refine tQ 18 26 ?_;refine AA qk ?_ _;have b5:=zh (show MapIs Tryz.prog 234 Iw ((w.alloc (.cells #[.string T.name,.int .i64 T.tracks,.slice A T.labels.length c] 95)).drew.alloc (.map #[] 0)) (w.heap.size+1) (JT []) from (MapIs.made _ qs).congr (λa=>by simp [JT]));have a6:=f.drew.alloc (.map #[] 0);have x2:=a6.cell 2;have c9:=@run_makeMap Tryz.prog;go_wp2_with fail
   go_loopg [3,31] T.labels.length (λgk ov i wr=>∃k:Nat,k<=T.labels.length/\gk=T.labels.length - k/\i=.int .i64 k/\OwnL wr w.heap.size 229 2 ov ((CG (T.labels.take k)).map G1)/\MapIs Tryz.prog 234 Iw wr (w.heap.size+1) (JT (CK (T.labels.take k)))/\Blk wr w.heap.size 95 #[.string T.name,.int .i64 T.tracks,.slice A T.labels.length c]/\(∀j (hj:j<T.labels.length),j<k->okL T.tracks T.labels[j]=true)/\(CK (T.labels.take k)).Nodup/\(CG (T.labels.take k)).length<=16*k/\Grew w wr)
   case atStart=>exact ⟨0,oo,oo,rfl,OwnL.nil _ _ _ _,b5,a6,λj _ h=>oo,by simp [CK],by simp [CG],gG⟩
   case round=>
    obtain ⟨k,hk,p,rfl,K,hm,hb,b1,R,cz,hg⟩:=hrel;have a7:=zh p;have HA:=zh b1;have W:=zh R;have a8:=zh K;have HM:=zh hm;have HB:=zh hb;have HG:=zh hg;have da:=hb.lt;have dd:=hm.lt;clear p b1 R x2;by_cases J:k<T.labels.length
    . obtain ⟨b,d0,B,d,l,rfl,d1,c5,hv,L,c0,c1,c2,c3,c4⟩:=(a3.hold hg).at_ J;have a9:=HS.ext T.labels[k] (ib J);rw [hv] at a9;have X:=Ug T.labels k J;have Y:=NJ T.labels k J;rw [hv] at X Y;have Z:Grew wr (wr.alloc (.cells #[.int .i64 l.id,.int .i64 l.unit,.string l.name,.string l.note,.slice B l.ext.length d] 101)):=(iW wr).alloc _;have HE:=zh (PU B d l _ (L.hold Z) a9);have HV:=zh hv;have bb:=zh L;have ad:=zh X;have M:=zh Y;have bc:=zh (ik wr 101 #[.int .i64 l.id,.int .i64 l.unit,.string l.name,.string l.note,.slice B l.ext.length d] rfl);have b9:=zh Z;have ca:=L.id0;have cb:=L.id1;clear hv c5 L X Y Z K hm hb hg;go_wp2_with fail;refine HE.mono ?_;rintro e w3 ⟨rfl,g3⟩;have t:=b9.out.trans g3;cases z:emL l with
      | true=>
        have af:=zh (show okL T.tracks l=true from by unfold okL;rw [z];rfl);have HX:=zh (ck l z);have G:=zh z;have N:=zh t;clear z g3 t c0 c1 c2 c3 c4;go_wp2_with fail
        go_roundg (T.labels.length - (k+1))
        case measure=>rw [a7.out];omega
        case rel=>
         refine ⟨k+1,oo,oo,by go_num,?_,?_,HB.grew N,?_,?_,?_,HG.out.trans N⟩
         . rw [M.out,HX.out,append_nil];exact a8.grew N
         . rw [ad.out,if_pos G.out,append_nil];exact HM.grew N
         . intro j hj cx;by_cases a0:j=k
           . subst a0;rw [HV.out];exact af.out
           . exact HA.out j hj oo
         . rw [ad.out,if_pos G.out,append_nil];exact W.out
         . rw [M.out,HX.out,append_nil];omega
      | false=>
        have G:=zh z;have m:=bc.grew g3;have ag:=HB.grew t;have x0:=m.cell 0;have x1:=m.cell 1;have x2:=m.cell 2;have x3:=m.cell 3;have x4:=m.cell 4;have y1:=ag.cell 1;have df:=m.lt;have dk:=ag.lt;obtain ⟨q,hq⟩:∃q,decide (l.unit>0)=q:=⟨_,rfl⟩;have p:Grew w3 (w3.alloc (.cells #[.int .i64 l.id,.bool q] 234)):=(iW w3).alloc _;have cc:=zh (LG B d l T.tracks _ (((bb.hold t)).hold p) oo);have ce:=zh (ik w3 234 #[.int .i64 l.id,.bool q] rfl);have cf:=zh (show Qc l=(l.id,q) from by unfold Qc;rw [<-hq]);have ch:=zh (t.trans p);have ci:=zh p;have cl:=zh m;clear z g3 t c0 c1 c2 c3 c4 p m ag bc;go_wp2_with fail;refine cc.mono ?_;rintro e w5 ⟨rfl,g5⟩;have u:=ch.out.trans g5;have r:=ce.grew g5;have v:=(cl.grew ci).grew g5;have z0:=r.cell 0;have z1:=r.cell 1;have z4:=v.cell 4;have dn:=r.lt;have ds:=v.lt;cases C:BZ l T.tracks with
        | false=>
          have HF:=zh (K7 T k J (by rw [HV.out];unfold okL;rw [G.out,C];rfl));have o:=zh u;clear C u r v g5;go_wp2_with fail;go_ret;exact ⟨AC (by rw [HF.out]),HG.out.trans o⟩
        | true=>
          obtain ⟨d2,_,d3,d4⟩:=N0 l T.tracks C;have af:=zh (show okL T.tracks l=true from by unfold okL;rw [C];simp);have al:=zh (show CK (T.labels.take (k+1))=CK (T.labels.take k)++[(l.id,q)] from by rw [ad.out,if_neg (by rw [G.out];simp),cf.out]);obtain ⟨kl,S⟩:=au (l.id,q) ca cb;have H:=(HM.grew u).lookup_val Mw Q6 Tryz.underlying232 (V6 _) (l.id,q) S;have o:=zh u;have cn:=zh r;have co:=zh v;have cp:=zh S;by_cases y:(l.id,q)∈CK (T.labels.take k)
          . have HF:=zh (LK T (λR=>by
             have h1:=LS T.labels (k+1) R
             rw [al.out] at h1
             exact (jg.1 h1).2.2 _ y _ (ia.2 rfl) rfl))
            have I:(JT (CK (T.labels.take k)) (l.id,q)).getD (.bool false)=.bool true:=by unfold JT;rw [if_pos y];rfl
            rw [I] at H;unfold Iw at H;clear C u r v g5 S y I;go_wp2_with fail;go_ret;exact ⟨AC (by rw [HF.out]),HG.out.trans o⟩
          . have I:(JT (CK (T.labels.take k)) (l.id,q)).getD (.bool false)=.bool false:=by unfold JT;rw [if_neg y];rfl
            rw [I] at H;unfold Iw at H
            have cq:=zh (show (CK (T.labels.take (k+1))).Nodup from by
             rw [al.out,jg]
             exact ⟨W,qs,λa ha b hb he=>y (by rw [ia.1 hb] at he;rw [<-he];exact ha)⟩)
            clear C u r v g5 S y I;go_wp2_with fail;refine AB [6] (λw':World=>w'.cell? ⟨w3.heap.size,0,none⟩=some (.int .i64 l.id)/\w'.cell? ⟨w3.heap.size,1,none⟩=some (.bool q)/\w'.cell? ⟨wr.heap.size,4,none⟩=some (.slice B l.ext.length d)) qk ?_;have hS:(λw':World=>w'.cell? ⟨w3.heap.size,0,none⟩=some (.int .i64 l.id)/\w'.cell? ⟨w3.heap.size,1,none⟩=some (.bool q)/\w'.cell? ⟨wr.heap.size,4,none⟩=some (.slice B l.ext.length d)) w5.drew:=⟨z0,z1,z4⟩;refine tQ 0 53 ?_;refine tT 1 (some 54) hS ?_;refine tQ 2 55 ?_;refine tQ 3 56 ?_;refine tT 4 (some 57) hS ?_;refine tO 5 λK' hK=>?_;have an:=cn.out;have ap:=co.out;have O:=HB.grew o;have s:=a8.grew o;have P:=HM.grew o;have n1:=s.ne_blk an qd;have n2:=s.ne_blk ap qd;have n3:=s.ne_blk O qd;have n4:=L1 s P;have bf:=s.row_ge;have bk:=(bb.hold o).runs.2;have bl:=Ru O P;have bs:=zh (HG.out.trans o);refine Hj (.tmp 55) (.tmp 57) 99 rfl w.heap.size 229 2 16 _ Tryz.underlying99 Ec rfl qd _ _ (l.ext.map G1) rfl s.drew B l.ext.length d rfl (by rw [iY]) (La _) bk (Lt _) (by rw [iY];omega) (by rw [iY];omega) bs.size ?_;intro v6 w6 a1 D cy;have av:=an.drew.own D n1;have bt:=ap.drew.own D n2;have bv:=O.drew.own D n3;have aw:=P.drew.grown D n4;have bx:Grew w w6:=bs.drew.own D bf (iX _);refine hK.out _ _ (.inr (λ_=>⟨av.cell 0,av.cell 1,bt.cell 4⟩)) ?_;clear hK;refine tO 6 λK' hK=>?_;refine D6 (.tmp 53) (.tmp 54) (.const (.bool true)) 232 rfl 4 Mw Q6 Tryz.underlying232 rfl aw (l.id,q) cp (.bool true) rfl rfl ?_;intro w7 b0 Q;refine hK.out _ _ (.inl rfl) ?_;refine tQ 7 3 ?_;refine AA qk ?_ _;have cs:=zh (a1.kept Q (λg hg2 e=>L1 a1 aw (by rw [hg2,e])));have ct:=zh (bv.turned Q (λe=>bl e));have cu:=zh (bx.turn Q (λi e=>oo));have cv:=zh b0;clear hK an ap O s P n1 n2 n3 n4 bf bk a1 D cy av bt bv aw bx b0 Q H x0 x1 x2 x3 x4 y1 z0 z1 z4 hS bl;go_wp2_with fail
            go_roundg (T.labels.length - (k+1))
            case measure=>rw [a7.out];omega
            case rel=>
             refine ⟨k+1,oo,oo,by go_num,?_,?_,ct,?_,cq,?_,cu⟩
             . rw [M.out,il];exact cs.out
             . rw [al.out];exact cv.congr (λx=>TJ _ _ _)
             . intro j hj cx;by_cases a0:j=k
               . subst a0;rw [HV.out];exact af.out
               . exact HA.out j hj oo
             . rw [M.out,iy];omega
    . have cw:k=T.labels.length:=oo;subst cw;rw [j1] at K cz;obtain ⟨Ar,cr,c6,d5,d6,b2⟩:=Hd K (a3.okruns);subst c6;have HD:=zh (J7 (A:=Ar) (c:=cr) rfl oo b2 _ rfl)
      have HF:=zh (WZ T b4 (jN.2 (λl hl=>by
       obtain ⟨j,hj,rfl⟩:=List.getElem_of_mem hl
       exact HA.out j hj hj)) (by have:=W.out;rwa [j1] at this))
      clear K b2 hm hb hg;go_wp2_with fail;refine HD.mono ?_;rintro e w9 ⟨rfl,g9⟩;go_wp2_with fail;go_ret;exact ⟨AC (by rw [HF.out]),HG.out.trans g9⟩

end
section
attribute [local go_sem ↓] Go.wp_at_zero Go.wp_at_succ
open Go.RowKit
theorem Qg (T:Tab) (h:Bf T=true):T.labels.length<=31/\(CG T.labels).length<=496/\(∀l∈T.labels,l.ext.length<=16/\0<=l.unit):=
 ⟨((Af T).1 h).small.1,((Af T).1 h).exts,((Af T).1 h).small.2⟩
theorem Vk (t:Int):-9223372036854775808<=ttS t/\ttS t<=9223372036854775807:=by have:=EC t;omega
theorem TE (A:Option Addr) (c:Nat) (xs:List LabE) (T:Tab) (w:World) (h:TabAt w A c xs T) (hs:SmallT T) (n:Nat) (hn:n=T.labels.length) (kf:List (Int × Int)) (H:FU T=kf):
 Calls Tryz.prog 92 #[.agg #[.string T.name,.int .i64 T.tracks,.slice A n c]] w λe w'=>∃A c,e=.returned (.slice A kf.length c)/\RunsAt w' w'.heap.size A kf/\Grew w w':=by
 subst hn;subst H;have j:=(iW w).alloc (.cells #[.string T.name,.int .i64 T.tracks,.slice A T.labels.length c] 95);have I:=zh (ik w 95 #[.string T.name,.int .i64 T.tracks,.slice A T.labels.length c] rfl);have HV:=zh (G8 A c xs T _ (h.hold j) hs _ rfl);have q:=zh h;have HS:=zh hs;have r:=zh j;have J:=h.tr0;have K:=h.tr1;clear h hs j;cases hv:Bf T with
 | false=>
   have HE:=zh (show FU T=[] from by unfold FU;rw [hv];rfl);have m:=zh hv;clear hv;go_enter Tryz.func92,Tryz.ntmps92;go_wp2_with fail;refine HV.mono ?_;rintro e w1 ⟨rfl,g1⟩;rw [m.out];go_wp2_with fail;go_ret;exact ⟨none,0,by rw [HE.out];rfl,by rw [HE.out];exact SP _,r.out.trans g1⟩
 | true=>
   obtain ⟨ap,av,D⟩:=Qg T hv;have L:=zh (show OU (ttS T.tracks) T.tracks (CG T.labels)=FU T from by unfold FU;rw [if_pos hv]);have m:=zh hv;have M:=zh D;clear hv D;go_enter Tryz.func92,Tryz.ntmps92;go_wp2_with fail;refine HV.mono ?_;rintro e w1 ⟨rfl,g1⟩;rw [m.out];have f:=I.grew g1;have N:=r.out.trans g1;have x2:=f.cell 2;have af:=f.lt;clear g1;go_wp2_with fail
   go_loopg [3,12] T.labels.length (λgk ov i wr=>∃k:Nat,k<=T.labels.length/\gk=T.labels.length - k/\i=.int .i64 k/\OwnL wr w.heap.size 229 2 ov ((CG (T.labels.take k)).map G1)/\Blk wr w.heap.size 95 #[.string T.name,.int .i64 T.tracks,.slice A T.labels.length c]/\(CG (T.labels.take k)).length<=16*k/\Grew w wr)
   case atStart=>exact ⟨0,oo,oo,rfl,OwnL.nil _ _ _ _,f,by simp [CG],N⟩
   case round=>
    obtain ⟨k,hk,E,rfl,a,hb,Y,hg⟩:=hrel;have O:=zh E;have ag:=zh a;have HB:=zh hb;have HG:=zh hg;have al:=hb.lt;have an:=hg.size;clear E x2 f;by_cases g:k<T.labels.length
    . obtain ⟨b,aw,B,d,l,rfl,a0,Z,hv,F,c0,c1,c2,c3,c4⟩:=(q.hold hg).at_ g;have P:=(M T.labels[k] (ib g)).1;rw [hv] at P;have o:=NJ T.labels k g;rw [hv] at o;have s:=zh o;have t:Grew wr (wr.alloc (.cells #[.int .i64 l.id,.int .i64 l.unit,.string l.name,.string l.note,.slice B l.ext.length d] 101)):=(iW wr).alloc _;have u:=((F.hold t).runs.2.mono (iX _));have v:=a.alloc (.cells #[.int .i64 l.id,.int .i64 l.unit,.string l.name,.string l.note,.slice B l.ext.length d] 101);have Q:=a.row_ge;have n3:=a.ne_blk hb qd;have x:=hb.alloc (.cells #[.int .i64 l.id,.int .i64 l.unit,.string l.name,.string l.note,.slice B l.ext.length d] 101);have y:=hg.alloc (.cells #[.int .i64 l.id,.int .i64 l.unit,.string l.name,.string l.note,.slice B l.ext.length d] 101);clear hv Z F o t a hb hg;go_wp2_with (at_builtin;refine Ab (by rfl) _ _ 99 rfl w.heap.size 229 2 16 _ Tryz.underlying99 Ec rfl qd _ _ (l.ext.map G1) (by rfl) v B l.ext.length _ (by rfl) (by rw [iY]) (La _) u (Lt _) (by rw [iY];omega) (by rw [iY];omega) (by simp;omega) ?_;intro v1 w3 z p X);have R:=zh z;have S:=zh (x.own p n3);have U:=zh (y.own p Q (iX _));clear z p X x y v u
      go_roundg (T.labels.length - (k+1))
      case measure=>rw [O.out];omega
      case rel=>exact ⟨k+1,oo,oo,by go_num,by rw [s.out,il];exact R.out,S,by rw [s.out,iy];omega,U⟩
    . have V:k=T.labels.length:=oo;subst V;rw [j1] at a Y;obtain ⟨Ar,cr,ad,a1,a2,G⟩:=Hd a (q.okruns);subst ad;have HF:=zh (λw9 (g9:Grew wr w9)=>Zz (A:=Ar) (c:=cr) (w:=w9) rfl oo (G.hold g9) (ttS T.tracks) T.tracks (Vk _).1 (Vk _).2 J K _ L);have hS:(λw':World=>w'.cell? ⟨w.heap.size,1,none⟩=some (.int .i64 T.tracks)) wr.drew:=hb.drew.cell 1;clear a G hb hg g;go_wp2_with fail;refine AB [] (λw':World=>w'.cell? ⟨w.heap.size,1,none⟩=some (.int .i64 T.tracks)) qk ?_;refine tQ 0 21 ?_;refine tT 1 (some 22) hS ?_;refine tQ 3 24 ?_;refine tT 4 (some 25) hS ?_;refine tQ 5 26 ?_;refine tO 2 λK' hK=>?_;go_wp2_with fail;refine (CC _ _).mono ?_;rintro e w8 ⟨rfl,rfl⟩;go_wp2_with fail;refine hK.out _ _ (.inr (λh=>h)) ?_;clear hK;refine tO 6 λK' hK=>?_;go_wp2_with fail;refine (HF _ (iW wr).drew).mono ?_;rintro e w9 ⟨A9,c9,rfl,C,g9⟩;have W:=zh C;clear C;go_wp2_with fail;refine hK.out _ _ (.inr (λh=>(HB.drew.grew g9).cell 1)) ?_;clear hK;refine tQ 7 2 ?_;refine AA qk ?_ _;go_wp2_with fail;go_ret;exact ⟨A9,c9,rfl,W,HG.drew.trans g9⟩
def C4 (T:Tab) (id unit:Int):Lab × Bool:=if 0<=Sc T id unit then (T.labels.getD (Sc T id unit).toNat CN,true) else (CN,false)
theorem IB (T:Tab) (id a:Int):(∃(k:Nat) (hk:k<T.labels.length),Sc T id a=(k:Int)/\C4 T id a=(T.labels[k],true)/\MA id a T.labels[k]=true)\/(Sc T id a=-1/\C4 T id a=(CN,false)/\∀l∈T.labels,MA id a l=false):=by
 rcases Hh (MA id a) T.labels with ⟨k,hk,h1,h2,_⟩ | ⟨h1,h2⟩
 . have b:Sc T id a=(k:Int):=h1;refine .inl ⟨k,hk,b,?_,h2⟩;unfold C4;rw [b,if_pos oo,i9,iu,iV hk];rfl
 . have b:Sc T id a=-1:=h1;refine .inr ⟨b,?_,h2⟩;unfold C4;rw [b,if_neg oo]
theorem Pm (A:Option Addr) (c:Nat) (xs:List LabE) (T:Tab) (w:World) (h:TabAt w A c xs T) (hs:SmallT T) (n:Nat) (hn:n=T.labels.length) (id unit:Int) (l:Lab) (ok:Bool) (hf:C4 T id unit=(l,ok)):
 Calls Tryz.prog 83 #[.agg #[.string T.name,.int .i64 T.tracks,.slice A n c],.agg #[.int .i64 id,.int .i64 unit]] w λe w'=>∃B d,e=.returned (.tuple #[.agg #[.int .i64 l.id,.int .i64 l.unit,.string l.name,.string l.note,.slice B l.ext.length d],.bool ok])/\LabAt w' B d l/\Grew w w'/\∀b off,B=some ⟨b,off,none⟩->w.heap.size<=b:=by
 subst hn;have m:=(((iW w).alloc (.cells #[.string T.name,.int .i64 T.tracks,.slice A T.labels.length c] 95)).alloc (.cells #[.int .i64 id,.int .i64 unit] 53)).alloc (.cells #[.int .i64 0,.int .i64 0,.string ⟨#[]⟩,.string ⟨#[]⟩,.slice none 0 0] 101);have t:=((ik w 95 #[.string T.name,.int .i64 T.tracks,.slice A T.labels.length c] rfl).alloc (.cells #[.int .i64 id,.int .i64 unit] 53)).alloc (.cells #[.int .i64 0,.int .i64 0,.string ⟨#[]⟩,.string ⟨#[]⟩,.slice none 0 0] 101);have u:=ik ((w.alloc (.cells #[.string T.name,.int .i64 T.tracks,.slice A T.labels.length c] 95)).alloc (.cells #[.int .i64 id,.int .i64 unit] 53)) 101 #[.int .i64 0,.int .i64 0,.string ⟨#[]⟩,.string ⟨#[]⟩,.slice none 0 0] (n:=w.heap.size+1+1) qs;have HC:=zh (λk hk=>UO A c xs T id unit _ (h.hold m) hs _ rfl k hk);have C:=zh h;have HS:=zh hs;have v:=zh m;have D:=zh t;have x:=zh u;clear h hs m t u;rcases IB T id unit with ⟨k,hk,h1,h2,_⟩ | ⟨h1,h2,_⟩
 . rw [h2] at hf;injection hf with hf1 hf2;subst hf2;have HI:=zh (HC _ h1);have E:=zh hf1;have F:=HS.ext T.labels[k] (ib hk);rw [hf1] at F;clear HC h1 h2 hf1;go_enter Tryz.func83,Tryz.ntmps83;go_wp2_with fail;refine HI.mono ?_;rintro e w1 ⟨rfl,g1⟩;have o:=D.grew g1;have j:=v.out.trans g1;have p:=x.grew g1;have x2:=o.cell 2;have V:=o.lt;have G:=p.lt;have W:(k:Int)<(T.labels.length:Int):=oo;obtain ⟨b,off,B,d,l',rfl,Z,P,hv,s,c0,c1,c2,c3,c4⟩:=(C.hold j).at_ hk;rw [E.out] at hv;subst hv;have i:Grew w1 (w1.alloc (.cells #[.int .i64 l.id,.int .i64 l.unit,.string l.name,.string l.note,.slice B l.ext.length d] 101)):=(iW w1).alloc _;have H:=zh (Jn B d l.ext.length l.ext _ rfl oo (s.hold i).runs.2);have g:=zh (s.hold i);have I:=zh (ik w1 101 #[.int .i64 l.id,.int .i64 l.unit,.string l.name,.string l.note,.slice B l.ext.length d] rfl);have J:=zh (j.trans i);have K:=zh (p.grew i);clear g1 o j p s i P;go_wp2_with fail;refine H.mono ?_;rintro e w2 ⟨v2,rfl,r,g2⟩;obtain ⟨A2,Q,rfl,R,U,z⟩:=Hd r g.runs.1;have f:=I.grew g2;have a:=K.grew g2;have q:=J.out.trans g2;have y0:=f.cell 0;have y1:=f.cell 1;have y2:=f.cell 2;have y3:=f.cell 3;have y4:=f.cell 4;have yf:=f.frozen 4;have X:=f.lt;have z0:=a.cell 0;have z1:=a.cell 1;have z2:=a.cell 2;have z3:=a.cell 3;have z4:=a.cell 4;have f0:=a.frozen 0;have f1:=a.frozen 1;have f2:=a.frozen 2;have f3:=a.frozen 3;have f4:=a.frozen 4;have L:=a.lt;have Y:=q.size;have M:w.heap.size+1+1<w1.heap.size:=G;have N:=zh (show LabAt w2 A2 Q l from ⟨g.id0,g.id1,g.unit0,g.unit1,g.name,g.note,z,R,U⟩);have O:=zh q;have y:=zh (show ∀b off,A2=some ⟨b,off,none⟩->w1.heap.size+1<=b from λb off e=>by have:=(r.own_ge (by rw [e];rfl)).1;simpa using this);clear r z f a g2 q c0 c1 c2 c3 c4 x2;go_wp2_with fail;refine im (by first | (simp [*,results,Tryz.results83,go_sem];rfl) | simp [*,results,Tryz.results83,go_sem]) rfl ?_;exact ⟨_,_,rfl,N.turned (S:=λk=>k<w1.heap.size+1) (gT) (λ_ b off e=>by have:=y.out b off e;omega),by have hg:=O.out;exact gG,λb off e=>by have:=y.out b off e;have:w.heap.size+1+1<w1.heap.size:=M;omega⟩
 . rw [h2] at hf;injection hf with hf1 hf2;subst hf2;subst hf1;have HI:=zh (HC _ h1);clear HC h1 h2;go_enter Tryz.func83,Tryz.ntmps83;go_wp2_with fail;refine HI.mono ?_;rintro e w1 ⟨rfl,g1⟩;have a:=x.grew g1;have z0:=a.cell 0;have z1:=a.cell 1;have z2:=a.cell 2;have z3:=a.cell 3;have z4:=a.cell 4;have f0:=a.frozen 0;have f1:=a.frozen 1;have f2:=a.frozen 2;have f3:=a.frozen 3;have f4:=a.frozen 4;have L:=a.lt;have j:=v.out.trans g1;clear a g1;go_wp2_with fail;refine im (by first | (simp [*,results,Tryz.results83,go_sem];rfl) | simp [*,results,Tryz.results83,go_sem]) rfl ?_;exact ⟨none,0,rfl,LabAt.zero _,gG,λb off e=>by cases e⟩
def Nu (s:ByteArray) (t:Int):Tab × Int:=if okT t=true/\Cn s=true then (⟨s,t,List.replicate (Ca t).toNat CN⟩,0) else (C2,1)
theorem Pf (t:Int):((Ca t).toNat:Int)=Ca t/\(Ca t).toNat<=31:=by
 have:=EC t;unfold Ca;omega
theorem Yq (w:World) (n:Nat) (hn:n<=1000):(Instr.makeSlice 93 (.int .i64 (n:Int)) (.int .i64 (n:Int))).run Tryz.prog w=.ok (.slice (some ⟨w.heap.size,0,none⟩) n n) (w.alloc (.cells (madeCells #[.int .i64 0,.int .i64 0,.string ⟨#[]⟩,.string ⟨#[]⟩,.slice none 0 0] (n*5)) 101)):=by
 obtain ⟨i,hi,a,b,c⟩:∃i,Tryz.prog.info? 101=some i/\i.zero=some (.agg #[.int .i64 0,.int .i64 0,.string ⟨#[]⟩,.string ⟨#[]⟩,.slice none 0 0])/\i.size=5/\i.bytes=72:=by
  have h:=Nx;cases hq:Tryz.prog.info? 101 with
  | none=>rw [hq] at h;cases h
  | some i=>rw [hq] at h;simp at h;exact ⟨i,rfl,h.1,h.2.1,h.2.2⟩
 have h:=run_make (P:=Tryz.prog) w 93 101 i _ Tryz.underlying93 hi a .i64 .i64 (n:Int) (n:Int) oo oo (by rw [c];omega) oo;rw [b] at h;simp only [i9] at h;exact h
theorem aG (w:World) (n:Nat) (s:ByteArray) (t:Int) (hs:s.size<=9223372036854775807) (t0:-9223372036854775808<=t) (t1:t<=9223372036854775807) (hn:n<=1000) {g:Nat} (a:g=w.heap.size) {w':World} (hw:Grew (w.alloc (.cells (madeCells #[.int .i64 0,.int .i64 0,.string ⟨#[]⟩,.string ⟨#[]⟩,.slice none 0 0] (n*5)) 101)) w'):
 TabAt w' (some ⟨g,0,none⟩) n (List.replicate n ⟨none,0,CN⟩) ⟨s,t,List.replicate n CN⟩:=by
 subst a;refine TabAt.hold ?_ hw;refine ⟨λx hx=>by rw [List.eq_of_mem_replicate hx];exact LabAt.zero _,λh0=>⟨w.heap.size,0,rfl,qs,λj cs hj i v hi=>?_⟩,qs,oo,qs,t0,t1,hs⟩;rw [List.map_replicate,kL] at hj;split at hj
 . rename_i hjn;injection hj with hj;subst hj;have b:i<5:=(iw.1 hi).1;rw [(ik w 101 _ rfl).cell];unfold madeCells;rw [kF,Array.getElem?_map,Array.getElem?_range,if_pos oo];simp only [Option.map_some];have hm:(j*5+i) % 5=i:=oo;have h5:(#[Value.int .i64 0,.int .i64 0,.string ⟨#[]⟩,.string ⟨#[]⟩,.slice none 0 0]:Array Value).size=5:=rfl;rw [h5,hm]
   match i,b with
   | 0,_=>exact hi
   | 1,_=>exact hi
   | 2,_=>exact hi
   | 3,_=>exact hi
   | 4,_=>exact hi
 . cases hj
theorem aa (s:ByteArray) (t:Int) (w:World) (hs:s.size<=9223372036854775807) (t0:-9223372036854775808<=t) (t1:t<=9223372036854775807) (T:Tab) (er:Int) (hT:Nu s t=(T,er)):
 Calls Tryz.prog 76 #[.string s,.int .i64 t] w λe w'=>∃A c xs,e=.returned (.tuple #[.agg #[.string T.name,.int .i64 T.tracks,.slice A T.labels.length c],.int .i64 er])/\TabAt w' A c xs T/\Grew w w'/\(∀b off,A=some ⟨b,off,none⟩->w.heap.size<=b)/\∀x∈xs,x.A=none:=by
 have a:=ik w 95 #[.string ⟨#[]⟩,.int .i64 0,.slice none 0 0] rfl;have hG:=(iW w).alloc (.cells #[.string ⟨#[]⟩,.int .i64 0,.slice none 0 0] 95);have z0:=a.cell 0;have z1:=a.cell 1;have z2:=a.cell 2;have f0:=a.frozen 0;have f1:=a.frozen 1;have f2:=a.frozen 2;by_cases ho:okT t=true;rotate_left
 . unfold Nu at hT;rw [if_neg (λh=>ho h.1)] at hT;injection hT with h1 h2;subst h1;subst h2;have d:=zh (show ttS t=0 from by unfold ttS;rw [if_neg ho]);clear ho;go_enter Tryz.func76,Tryz.ntmps76;go_wp2_with fail;refine (CC _ _).mono ?_;rintro e w1 ⟨rfl,rfl⟩;rw [d.out];go_wp2_with fail;refine im (by first | (simp [*,results,Tryz.results76,go_sem];rfl) | simp [*,results,Tryz.results76,go_sem]) rfl ?_;exact ⟨none,0,[],rfl,TabAt.zero _,(gG),(λb off e=>by cases e),(λx hx=>by cases hx)⟩
 obtain ⟨tt,f⟩:∃tt,ttS t=tt:=⟨_,rfl⟩;have d:=zh f
 have hz:(tt==0)=false:=by
  rw [it,<-f];unfold ttS;have:=Ck ho;rw [if_pos ho];omega
 clear f;cases hn:Cn s with
 | false=>
   unfold Nu at hT;rw [if_neg (λh=>by rw [hn] at h;cases h.2)] at hT;injection hT with h1 h2;subst h1;subst h2;have HN:=zh hn;clear ho hn;go_enter Tryz.func76,Tryz.ntmps76;go_wp2_with fail;refine (CC _ _).mono ?_;rintro e w1 ⟨rfl,rfl⟩;rw [d.out];go_wp2_with fail;refine (Cd _ _ hs).mono ?_;rintro e w1 ⟨rfl,rfl⟩;rw [HN.out];go_wp2_with fail;refine im (by first | (simp [*,results,Tryz.results76,go_sem];rfl) | simp [*,results,Tryz.results76,go_sem]) rfl ?_;exact ⟨none,0,[],rfl,TabAt.zero _,(gG),(λb off e=>by cases e),(λx hx=>by cases hx)⟩
 | true=>
   unfold Nu at hT;rw [if_pos ⟨ho,hn⟩] at hT;injection hT with h1 h2;subst h1;subst h2;obtain ⟨h1,h2⟩:=Pf t;have HN:=zh hn;generalize (Ca t).toNat=m at*
   have j:=zh h1.symm;have n:=λw=>Yq w m oo;have i:(List.replicate m CN).length=m:=j0;have k:=zh (λw0 g hg=>aG w0 m s t hs t0 t1 oo (g:=g) hg (iW _));have l:=zh i;clear ho hn h1 i;go_enter Tryz.func76,Tryz.ntmps76;go_wp2_with fail;refine (CC _ _).mono ?_;rintro e w1 ⟨rfl,rfl⟩;rw [d.out];go_wp2_with fail;refine (Cd _ _ hs).mono ?_;rintro e w1 ⟨rfl,rfl⟩;rw [HN.out];go_wp2_with fail;refine (LO _ _).mono ?_;rintro e w1 ⟨rfl,rfl⟩;rw [j.out];go_wp2_with fail;refine im (by first | (simp [*,results,Tryz.results76,go_sem];rfl) | simp [*,results,Tryz.results76,go_sem]) rfl ?_;exact ⟨_,_,_,by rw [l.out],k _ _ qs,(gG),(λb off e=>by (injection e with e;injection e with e _ _;rw [<-e];simp)),(λx hx=>by rw [List.eq_of_mem_replicate hx])⟩

end
section
open Go.RowKit
def NewRuns (w w':World) (A:Option Addr) (c:Nat) (k:List (Int × Int)):Prop:=RunsAt w' w'.heap.size A k/\k.length<=c/\c<=9223372036854775807/\∀b off,A=some ⟨b,off,none⟩->w.heap.size<=b
theorem NewRuns.of_own {w w':World} {v:Value} {l:List (Nat × Nat)} {k:List (Int × Int)} (h:OwnL w' w.heap.size 229 2 v (l.map Cf)) (hb:∀r∈l,r.1+r.2<=128) (hk:Cq l=k):∃A c,v=.slice A k.length c/\NewRuns w w' A c k:=by
 obtain ⟨A,c,hv,hr,h1,h2,h3⟩:=PO h (λr hr=>ij (hb r hr) oo);subst hk;exact ⟨A,c,by rw [Dw];exact hv,hr,by rw [Dw];exact h1,h2,λb off e=>(h3 b off e).1⟩
section
variable {A:Option Addr} {c m:Nat} {l:List (Int × Int)} {w:World}
theorem PC (hn:m=l.length) (hl:l.length<=1000000) (hr:RunsAt w w.heap.size A l) (n:Int) (n0:-9223372036854775808<=n) (n1:n<=9223372036854775807) (a:Int) (k:List (Int × Int)) (er:Int) (hk:Cq (Bg (AH l) n a).1=k) (he:(Bg (AH l) n a).2=er):
 Calls Tryz.prog 91 #[.slice A m c,.int .i64 n,.int .i64 a] w λe w'=>∃A c,e=.returned (.tuple #[.slice A k.length c,.int .i64 er])/\NewRuns w w' A c k/\Grew w w':=by
 subst hn;subst he;refine (WJ A c l w w.heap.size (iX _) hl hr n n0 n1 a).mono ?_;rintro e w1 ⟨v,rfl,b,g1⟩;obtain ⟨A',c',hv,d⟩:=NewRuns.of_own b (RR _ _ _) hk;exact ⟨A',c',by rw [hv],d,g1⟩
theorem NewRuns.hold {w w1 w2:World} {k:List (Int × Int)} (h:NewRuns w w1 A c k) (hg:Grew w1 w2):NewRuns w w2 A c k:=⟨h.1.hold hg,h.2⟩
end

end
section
attribute [local go_sem ↓] Go.wp_at_zero Go.wp_at_succ
open Go.RowKit
theorem TabO.row {w:World} {base g n cap:Nat} {ys:List LabE} {ls:List Lab} (h:TabO w base (.slice (some ⟨g,0,none⟩) n cap) ys ls) {k:Nat} (hk:k<ls.length):
 ∃B d,(ys.map Dt)[k]? =some (Dt ⟨B,d,ls[k]⟩)/\LabAt w B d ls[k]/\(0<ls[k].ext.length->∀b off,B=some ⟨b,off,none⟩->b≠g)/\ys[k]? =some ⟨B,d,ls[k]⟩:=by
 have hy:k<ys.length:=by rw [h.len];exact hk
 have h1:(ys.map (·.l))[k]? =some ys[k].l:=by rw [iZ,iV hy];rfl
 rw [h.eq,iV hk] at h1;have h2:=Option.some.inj h1;have h3:ys[k]=⟨ys[k].A,ys[k].c,ls[k]⟩:=by rw [h2]
 refine ⟨ys[k].A,ys[k].c,by rw [iZ,iV hy,<-h3];rfl,by rw [h2];exact h.lab _ (ib hy),λh0 b off e=>?_,by rw [iV hy,<-h3]⟩;have:=h.far ys[k] (ib hy) (by rw [<-h2];exact h0) b off e;intro e2;exact this (by rw [e2];rfl)
theorem OwnL.cell0 {w:World} {base e sz g n cap:Nat} {rows:List (List Value)} (h:OwnL w base e sz (.slice (some ⟨g,0,none⟩) n cap) rows) {j:Nat} {r:List Value} {u:Value} (hj:rows[j]? =some r) (hi:r[0]? =some u):w.cell? ⟨g,j*sz,none⟩=some u:=h.cell hj hi
theorem F4 (w:World) (g o:Nat) (u:Value):Turned (λx=>x=g) w (w.setCell ⟨g,o,none⟩ u):=(jD (λx=>x=g) w).setCell (p:=⟨g,o,none⟩) (λ_=>rfl) u
theorem OwnL.set5 {w:World} {base e g n cap:Nat} {rows:List (List Value)} (h:OwnL w base e 5 (.slice (some ⟨g,0,none⟩) n cap) rows) {j:Nat} {r:List Value} (hj:rows[j]? =some r) (a b c d f:Value):
 OwnL (((((w.setCell ⟨g,j*5,none⟩ a).setCell ⟨g,j*5+1,none⟩ b).setCell ⟨g,j*5+2,none⟩ c).setCell ⟨g,j*5+3,none⟩ d).setCell ⟨g,j*5+4,none⟩ f) base e 5 (.slice (some ⟨g,0,none⟩) n cap) (rows.set j [a,b,c,d,f]):=by
 have hl:r.length=5:=h.1 r (js hj);have k:j<rows.length:=(iw.1 hj).1;have h0:=h.set_ (i:=0) (o:=j*5) hj oo rfl a;have h1:=h0.set_ (i:=1) (o:=j*5+1) (jp k) oo rfl b;rw [List.set_set] at h1;have h2:=h1.set_ (i:=2) (o:=j*5+2) (jp k) oo rfl c;rw [List.set_set] at h2;have h3:=h2.set_ (i:=3) (o:=j*5+3) (jp k) oo rfl d;rw [List.set_set] at h3;have h4:=h3.set_ (i:=4) (o:=j*5+4) (jp k) oo rfl f;rw [List.set_set] at h4
 match r,hl with
 | [r0,r1,r2,r3,r4],_=>exact h4
theorem Ie (w:World) (g o:Nat) (a b c d f:Value):Turned (λx=>x=g) w (((((w.setCell ⟨g,o,none⟩ a).setCell ⟨g,o+1,none⟩ b).setCell ⟨g,o+2,none⟩ c).setCell ⟨g,o+3,none⟩ d).setCell ⟨g,o+4,none⟩ f):=
 ((((F4 w g _ a).trans (F4 _ g _ b)).trans (F4 _ g _ c)).trans (F4 _ g _ d)).trans (F4 _ g _ f)
theorem TabO.set5 {w:World} {base g n cap:Nat} {ys:List LabE} {ls:List Lab} (h:TabO w base (.slice (some ⟨g,0,none⟩) n cap) ys ls) {k:Nat} (hk:k<ls.length) (y:LabE)
 (hl:LabAt w y.A y.c y.l) (hf:0<y.l.ext.length->∀b off,y.A=some ⟨b,off,none⟩->b≠g):
 TabO (((((w.setCell ⟨g,k*5,none⟩ (.int .i64 y.l.id)).setCell ⟨g,k*5+1,none⟩ (.int .i64 y.l.unit)).setCell ⟨g,k*5+2,none⟩ (.string y.l.name)).setCell ⟨g,k*5+3,none⟩ (.string y.l.note)).setCell ⟨g,k*5+4,none⟩ (.slice y.A y.l.ext.length y.c)) base (.slice (some ⟨g,0,none⟩) n cap) (ys.set k y) (ls.set k y.l):=by
 obtain ⟨B,d,a,_,_,_⟩:=h.row hk;exact h.set_ k y hk (h.own.set5 a _ _ _ _ _) (Ie w g _ _ _ _ _ _) (hl.turned (Ie w g _ _ _ _ _ _) (λh0 b off e=>hf h0 b off e)) hf

theorem TabO.tabAt {w:World} {base g n cap:Nat} {ys:List LabE} {ls:List Lab} (h:TabO w base (.slice (some ⟨g,0,none⟩) n cap) ys ls) (nm:ByteArray) (t:Int) (hn:nm.size<=9223372036854775807) (t0:-9223372036854775808<=t) (t1:t<=9223372036854775807):TabAt w (some ⟨g,0,none⟩) cap ys ⟨nm,t,ls⟩:=by
 obtain ⟨A,c,hv,ht⟩:=h.form;injection hv with h1 _ h3;rw [h1,h3];exact ht nm t hn t0 t1

theorem Lk {w:World} {A:Option Addr} {l:List (Int × Int)} {g:Nat} {t:TypeId} {s:ByteArray} {i:Int} {a:Option Addr} {n c:Nat} (h:RunsAt w w.heap.size A l) (hl:0<l.length) (hb:Blk w g t #[.string s,.int .i64 i,.slice a n c]):∀b off,A=some ⟨b,off,none⟩->b≠g:=by
 rintro b off e rfl;obtain ⟨b',d,x,y,e',f,hv,_,c0,c1⟩:=h.at_ (k:=0) hl;rw [e] at e';injection e' with e';injection e' with e1 e2 _;subst e1;subst e2;rw [Nat.zero_mul,jo] at c0 c1;rw [hb.cell] at c0 c1
 match off with
 | 0=>simp at c0
 | 1=>simp at c1
 | 2=>simp at c0
 | off+3=>simp at c0
theorem TabO.apart {w:World} {base:Nat} {v:Value} {ys:List LabE} {ls:List Lab} (h:TabO w base v ys ls) {g:Nat} {t:TypeId} {s:ByteArray} {i:Int} {a:Option Addr} {n c:Nat} (hb:Blk w g t #[.string s,.int .i64 i,.slice a n c]):∀y∈ys,0<y.l.ext.length->∀b off,y.A=some ⟨b,off,none⟩->¬b=g:=
 λy hy h0 b off e=>Lk (h.lab y hy).runs h0 hb b off e
theorem TabO.nlen {w:World} {base g n cap:Nat} {ys:List LabE} {ls:List Lab} (h:TabO w base (.slice (some ⟨g,0,none⟩) n cap) ys ls):ls.length=n:=by
 have h1:=h.own.len.1;rw [iY,h.len] at h1;exact h1
def gn (w:World) (T:Tab) (er:Int) (e:Ending) (w':World):Prop:=
 ∃A c xs,e=.returned (.tuple #[.agg #[.string T.name,.int .i64 T.tracks,.slice A T.labels.length c],.int .i64 er])/\TabAt w' A c xs T/\Grew w w'

theorem TabAt.turned {S:Nat->Prop} {w w':World} {A:Option Addr} {c:Nat} {xs:List LabE} {T:Tab} (h:TabAt w A c xs T) (ht:Turned S w w') (h1:0<xs.length->∀b off,A=some ⟨b,off,none⟩->¬S b) (h2:∀x∈xs,0<x.l.ext.length->∀b off,x.A=some ⟨b,off,none⟩->¬S b):TabAt w' A c xs T:=
 ⟨λx hx=>(h.lab x hx).turned ht (h2 x hx),λh0=>by
  obtain ⟨b,off,e,hb,hc⟩:=h.rows h0
  exact ⟨b,off,e,ig hb ht.size,λj cs hj i v hi=>by rw [ht.cellEq _ _ hb (h1 (by simpa using h0) b off e)];exact hc j cs hj i v hi⟩,h.len,h.cap,h.eq,h.tr0,h.tr1,h.name⟩
theorem TabAt.apart {w w':World} {A:Option Addr} {c:Nat} {xs:List LabE} {T:Tab} (h:TabAt w A c xs T) {g:Nat} {t:TypeId} {s:ByteArray} {i:Int} {a:Option Addr} {n d:Nat} (hb:Blk w g t #[.string s,.int .i64 i,.slice a n d]) (ht:Turned (λx=>x=g) w w'):TabAt w' A c xs T:=by
 refine h.turned ht (λh0 b off e=>?_) (λx hx h0 b off e=>Lk (h.lab x hx).runs h0 hb b off e);rintro rfl;obtain ⟨b',f,e',j,hc⟩:=h.rows (by simpa using h0);rw [e] at e';injection e' with e';injection e' with e1 e2 _;subst e1;subst e2;have hr:(xs.map Dt)[0]? =some (Dt xs[0]):=by rw [iZ,iV h0];rfl
 have c0:=hc 0 _ hr 0 _ rfl;have c1:=hc 0 _ hr 1 _ rfl;rw [Nat.zero_mul,jo,hb.cell] at c0 c1
 match off with
 | 0=>simp at c0
 | 1=>simp at c1
 | 2=>simp at c0
 | off+3=>simp at c0

def PX (id unit:Int) (nm nt:ByteArray) (n:Int):Prop:=1<=id/\id<=1099511627776/\1<=unit/\unit<=1099511627776/\nm.size<=31/\nt.size<=400/\1<=n
instance (id unit:Int) (nm nt:ByteArray) (n:Int):Decidable (PX id unit nm nt n):=by unfold PX;exact inferInstance
def CI (T:Tab) (id unit:Int) (nm nt:ByteArray) (n:Int):Tab × Int:=
 if Bf T=true/\PX id unit nm nt n then
  if T.labels.any (IM id)=true then (C2,5)
  else if H6 emL T.labels<0 then (C2,8)
  else if (Bg (AH (FU T)) n 16).2=0 then ({ T with labels:=T.labels.set (H6 emL T.labels).toNat ⟨id,unit,nm,nt,Cq (Bg (AH (FU T)) n 16).1⟩ },0)
  else (C2,14)
 else (C2,1)
section
variable (A:Option Addr) (c:Nat) (xs:List LabE) (T:Tab) (id unit:Int) (w:World)
theorem Uo (h:TabAt w A c xs T) (hs:SmallT T) (nm nt:ByteArray) (bs:nm.size<=9223372036854775807) (bl:nt.size<=9223372036854775807) (n:Int) (n0:-9223372036854775808<=n) (n1:n<=9223372036854775807) (T':Tab) (er:Int) (hr:CI T id unit nm nt n=(T',er)):
 Calls Tryz.prog 46 #[.agg #[.string T.name,.int .i64 T.tracks,.slice A T.labels.length c],.agg #[.int .i64 id,.int .i64 unit],.string nm,.string nt,.int .i64 n] w (gn w T' er):=by
 have al:=((((iW w).alloc (.cells #[.string T.name,.int .i64 T.tracks,.slice A T.labels.length c] 95)).alloc (.cells #[.int .i64 id,.int .i64 unit] 53))).alloc (.cells #[.string ⟨#[]⟩,.int .i64 0,.slice none 0 0] 95);have bt:=((ik w 95 #[.string T.name,.int .i64 T.tracks,.slice A T.labels.length c] rfl).alloc (.cells #[.int .i64 id,.int .i64 unit] 53)).alloc (.cells #[.string ⟨#[]⟩,.int .i64 0,.slice none 0 0] 95);have bv:=(ik (w.alloc (.cells #[.string T.name,.int .i64 T.tracks,.slice A T.labels.length c] 95)) 53 #[.int .i64 id,.int .i64 unit] (n:=w.heap.size+1) qs).alloc (.cells #[.string ⟨#[]⟩,.int .i64 0,.slice none 0 0] 95);have bx:=ik ((w.alloc (.cells #[.string T.name,.int .i64 T.tracks,.slice A T.labels.length c] 95)).alloc (.cells #[.int .i64 id,.int .i64 unit] 53)) 95 #[.string ⟨#[]⟩,.int .i64 0,.slice none 0 0] (n:=w.heap.size+1+1) qs;have HV:=zh (G8 A c xs T _ (h.hold al) hs _ rfl);have q:=zh h;have HS:=zh hs;have s:=zh al;have R:=zh bt;have t:=zh bv;have u:=zh bx;clear h hs al bt bv bx;cases hv:Bf T with
 | false=>
   have hx:CI T id unit nm nt n=(C2,1):=by unfold CI;rw [if_neg (λh=>by rw [hv] at h;cases h.1)]
   rw [hx] at hr;injection hr with e1 e2;subst e1;subst e2;have r:=zh hv;clear hv hx;go_enter Tryz.func46,Tryz.ntmps46;go_wp2_with fail;refine HV.mono ?_;rintro e w1 ⟨rfl,g1⟩;rw [r.out];have f:=t.grew g1;have r0:=f.cell 0;have r1:=f.cell 1;have m:=f.lt;have a:=u.grew g1;have o:=a.lt;have z0:=a.cell 0;have z1:=a.cell 1;have z2:=a.cell 2;have f0:=a.frozen 0;have f1:=a.frozen 1;have f2:=a.frozen 2;have C:=s.out.trans g1;clear a f g1;go_wp2_with fail;refine im (by first | (simp [*,results,Tryz.results46,go_sem];rfl) | simp [*,results,Tryz.results46,go_sem]) rfl ?_;exact ⟨none,0,[],rfl,TabAt.zero _,gG⟩
 | true=>
 have I:=zh (show ¬PX id unit nm nt n->CI T id unit nm nt n=(C2,1) from λhn=>by unfold CI;rw [if_neg (λh=>hn h.2)]);have cr:=zh (show PX id unit nm nt n->CI T id unit nm nt n=(if T.labels.any (IM id)=true then (C2,5) else if H6 emL T.labels<0 then (C2,8) else if (Bg (AH (FU T)) n 16).2=0 then ({ T with labels:=T.labels.set (H6 emL T.labels).toNat ⟨id,unit,nm,nt,Cq (Bg (AH (FU T)) n 16).1⟩ },0) else (C2,14)) from λhn=>by unfold CI;rw [if_pos ⟨hv,hn⟩]);have r:=zh hv;clear hv;by_cases a1:1<=id;rotate_left
 . have HE:=zh (I (λhc=>a1 hc.1));rw [HE.out] at hr;injection hr with e1 e2;subst e1;subst e2;go_enter Tryz.func46,Tryz.ntmps46;go_wp2_with fail;refine HV.mono ?_;rintro e w1 ⟨rfl,g1⟩;rw [r.out];have f:=t.grew g1;have r0:=f.cell 0;have r1:=f.cell 1;have m:=f.lt;have a:=u.grew g1;have o:=a.lt;have z0:=a.cell 0;have z1:=a.cell 1;have z2:=a.cell 2;have f0:=a.frozen 0;have f1:=a.frozen 1;have f2:=a.frozen 2;have C:=s.out.trans g1;clear a f g1;go_wp2_with fail;refine im (by first | (simp [*,results,Tryz.results46,go_sem];rfl) | simp [*,results,Tryz.results46,go_sem]) rfl ?_;exact ⟨none,0,[],rfl,TabAt.zero _,gG⟩
 by_cases a2:id<=1099511627776;rotate_left
 . have HE:=zh (I (λhc=>a2 hc.2.1));rw [HE.out] at hr;injection hr with e1 e2;subst e1;subst e2;go_enter Tryz.func46,Tryz.ntmps46;go_wp2_with fail;refine HV.mono ?_;rintro e w1 ⟨rfl,g1⟩;rw [r.out];have f:=t.grew g1;have r0:=f.cell 0;have r1:=f.cell 1;have m:=f.lt;have a:=u.grew g1;have o:=a.lt;have z0:=a.cell 0;have z1:=a.cell 1;have z2:=a.cell 2;have f0:=a.frozen 0;have f1:=a.frozen 1;have f2:=a.frozen 2;have C:=s.out.trans g1;clear a f g1;go_wp2_with fail;refine im (by first | (simp [*,results,Tryz.results46,go_sem];rfl) | simp [*,results,Tryz.results46,go_sem]) rfl ?_;exact ⟨none,0,[],rfl,TabAt.zero _,gG⟩
 by_cases a3:1<=unit;rotate_left
 . have HE:=zh (I (λhc=>a3 hc.2.2.1));rw [HE.out] at hr;injection hr with e1 e2;subst e1;subst e2;go_enter Tryz.func46,Tryz.ntmps46;go_wp2_with fail;refine HV.mono ?_;rintro e w1 ⟨rfl,g1⟩;rw [r.out];have f:=t.grew g1;have r0:=f.cell 0;have r1:=f.cell 1;have m:=f.lt;have a:=u.grew g1;have o:=a.lt;have z0:=a.cell 0;have z1:=a.cell 1;have z2:=a.cell 2;have f0:=a.frozen 0;have f1:=a.frozen 1;have f2:=a.frozen 2;have C:=s.out.trans g1;clear a f g1;go_wp2_with fail;refine im (by first | (simp [*,results,Tryz.results46,go_sem];rfl) | simp [*,results,Tryz.results46,go_sem]) rfl ?_;exact ⟨none,0,[],rfl,TabAt.zero _,gG⟩
 by_cases a4:unit<=1099511627776;rotate_left
 . have HE:=zh (I (λhc=>a4 hc.2.2.2.1));rw [HE.out] at hr;injection hr with e1 e2;subst e1;subst e2;go_enter Tryz.func46,Tryz.ntmps46;go_wp2_with fail;refine HV.mono ?_;rintro e w1 ⟨rfl,g1⟩;rw [r.out];have f:=t.grew g1;have r0:=f.cell 0;have r1:=f.cell 1;have m:=f.lt;have a:=u.grew g1;have o:=a.lt;have z0:=a.cell 0;have z1:=a.cell 1;have z2:=a.cell 2;have f0:=a.frozen 0;have f1:=a.frozen 1;have f2:=a.frozen 2;have C:=s.out.trans g1;clear a f g1;go_wp2_with fail;refine im (by first | (simp [*,results,Tryz.results46,go_sem];rfl) | simp [*,results,Tryz.results46,go_sem]) rfl ?_;exact ⟨none,0,[],rfl,TabAt.zero _,gG⟩
 by_cases a5:nm.size<=31;rotate_left
 . have HE:=zh (I (λhc=>a5 hc.2.2.2.2.1));have b3:¬(nm.size:Int)<=31:=oo;rw [HE.out] at hr;injection hr with e1 e2;subst e1;subst e2;go_enter Tryz.func46,Tryz.ntmps46;go_wp2_with fail;refine HV.mono ?_;rintro e w1 ⟨rfl,g1⟩;rw [r.out];have f:=t.grew g1;have r0:=f.cell 0;have r1:=f.cell 1;have m:=f.lt;have a:=u.grew g1;have o:=a.lt;have z0:=a.cell 0;have z1:=a.cell 1;have z2:=a.cell 2;have f0:=a.frozen 0;have f1:=a.frozen 1;have f2:=a.frozen 2;have C:=s.out.trans g1;clear a f g1;go_wp2_with fail;refine im (by first | (simp [*,results,Tryz.results46,go_sem];rfl) | simp [*,results,Tryz.results46,go_sem]) rfl ?_;exact ⟨none,0,[],rfl,TabAt.zero _,gG⟩
 have b3:(nm.size:Int)<=31:=oo;by_cases a6:nt.size<=400;rotate_left
 . have HE:=zh (I (λhc=>a6 hc.2.2.2.2.2.1));have b4:¬(nt.size:Int)<=400:=oo;rw [HE.out] at hr;injection hr with e1 e2;subst e1;subst e2;go_enter Tryz.func46,Tryz.ntmps46;go_wp2_with fail;refine HV.mono ?_;rintro e w1 ⟨rfl,g1⟩;rw [r.out];have f:=t.grew g1;have r0:=f.cell 0;have r1:=f.cell 1;have m:=f.lt;have a:=u.grew g1;have o:=a.lt;have z0:=a.cell 0;have z1:=a.cell 1;have z2:=a.cell 2;have f0:=a.frozen 0;have f1:=a.frozen 1;have f2:=a.frozen 2;have C:=s.out.trans g1;clear a f g1;go_wp2_with fail;refine im (by first | (simp [*,results,Tryz.results46,go_sem];rfl) | simp [*,results,Tryz.results46,go_sem]) rfl ?_;exact ⟨none,0,[],rfl,TabAt.zero _,gG⟩
 have b4:(nt.size:Int)<=400:=oo;by_cases a7:1<=n;rotate_left
 . have HE:=zh (I (λhc=>a7 hc.2.2.2.2.2.2));rw [HE.out] at hr;injection hr with e1 e2;subst e1;subst e2;go_enter Tryz.func46,Tryz.ntmps46;go_wp2_with fail;refine HV.mono ?_;rintro e w1 ⟨rfl,g1⟩;rw [r.out];have f:=t.grew g1;have r0:=f.cell 0;have r1:=f.cell 1;have m:=f.lt;have a:=u.grew g1;have o:=a.lt;have z0:=a.cell 0;have z1:=a.cell 1;have z2:=a.cell 2;have f0:=a.frozen 0;have f1:=a.frozen 1;have f2:=a.frozen 2;have C:=s.out.trans g1;clear a f g1;go_wp2_with fail;refine im (by first | (simp [*,results,Tryz.results46,go_sem];rfl) | simp [*,results,Tryz.results46,go_sem]) rfl ?_;exact ⟨none,0,[],rfl,TabAt.zero _,gG⟩
 have d1:decide (id<1)=false:=ir oo;have d2:decide (1099511627776<id)=false:=ir oo;have d3:decide (unit<1)=false:=ir oo;have d4:decide (1099511627776<unit)=false:=ir oo;have d5:decide (31<(nm.size:Int))=false:=ir oo;have d6:decide (400<(nt.size:Int))=false:=ir oo;have d7:decide (n<1)=false:=ir oo;rw [cr.out ⟨a1,a2,a3,a4,a5,a6,a7⟩] at hr;obtain ⟨te,bc⟩:∃te,T.labels.any (IM id)=te:=⟨_,rfl⟩;rw [bc] at hr;have U:=zh bc;clear bc;cases te with
 | true=>
   rw [if_pos rfl] at hr;injection hr with e1 e2;subst e1;subst e2;go_enter Tryz.func46,Tryz.ntmps46;go_wp2_with fail;refine HV.mono ?_;rintro e w1 ⟨rfl,g1⟩;rw [r.out];have f:=t.grew g1;have r0:=f.cell 0;have r1:=f.cell 1;have m:=f.lt;have a:=u.grew g1;have o:=a.lt;have x:=zh (s.out.trans g1);have p:=zh (R.grew g1);have D:=zh f;have J:=zh a;have b2:=p.cell 2;have j:=p.out.lt;clear a f g1;go_wp2_with fail;refine (GW A c xs T (w.heap.size+1) id unit w1 (q.hold x) HS D _ rfl).mono ?_;rintro e w2 ⟨rfl,g2⟩;rw [U.out];have a:=J.grew g2;have cs:=a.lt;have z0:=a.cell 0;have z1:=a.cell 1;have z2:=a.cell 2;have f0:=a.frozen 0;have f1:=a.frozen 1;have f2:=a.frozen 2;have C:=x.out.trans g2;clear a g2;go_wp2_with fail;refine im (by first | (simp [*,results,Tryz.results46,go_sem];rfl) | simp [*,results,Tryz.results46,go_sem]) rfl ?_;exact ⟨none,0,[],rfl,TabAt.zero _,gG⟩
 | false=>
 rw [if_neg qs] at hr;rcases Hh emL T.labels with ⟨k,hk,hi,-,-⟩ | ⟨hi,-⟩;rotate_left
 . rw [hi,if_pos oo] at hr;injection hr with e1 e2;subst e1;subst e2;have V:=zh hi;clear hi;go_enter Tryz.func46,Tryz.ntmps46;go_wp2_with fail;refine HV.mono ?_;rintro e w1 ⟨rfl,g1⟩;rw [r.out];have f:=t.grew g1;have r0:=f.cell 0;have r1:=f.cell 1;have m:=f.lt;have a:=u.grew g1;have o:=a.lt;have x:=zh (s.out.trans g1);have p:=zh (R.grew g1);have D:=zh f;have J:=zh a;have b2:=p.cell 2;have j:=p.out.lt;clear a f g1;go_wp2_with fail;refine (GW A c xs T (w.heap.size+1) id unit w1 (q.hold x) HS D _ rfl).mono ?_;rintro e w2 ⟨rfl,g2⟩;rw [U.out];have G:=zh (x.out.trans g2);have E:=zh (p.grew g2);have K:=zh (D.grew g2);have M:=zh (J.grew g2);clear b2 j r0 r1 m o g2;have b2:=E.cell 2;have j:=E.out.lt;go_wp2_with fail;refine (Jl A c xs T (w.heap.size+1) id unit w2 (q.hold G) HS K _ rfl).mono ?_;rintro e w3 ⟨rfl,g3⟩;rw [V.out];have a:=M.grew g3;have cs:=a.lt;have z0:=a.cell 0;have z1:=a.cell 1;have z2:=a.cell 2;have f0:=a.frozen 0;have f1:=a.frozen 1;have f2:=a.frozen 2;have C:=G.out.trans g3;clear a g3;go_wp2_with fail;refine im (by first | (simp [*,results,Tryz.results46,go_sem];rfl) | simp [*,results,Tryz.results46,go_sem]) rfl ?_;exact ⟨none,0,[],rfl,TabAt.zero _,gG⟩
 rw [hi,if_neg oo,i9] at hr;have V:=zh hi;have c8:(k:Int)<(T.labels.length:Int):=oo;obtain ⟨kf,ag⟩:∃kf,FU T=kf:=⟨_,rfl⟩;have ct:kf.length<=128:=by rw [<-ag];exact Xy T
 rw [ag] at hr;obtain ⟨ka,bf⟩:∃ka,Cq (Bg (AH kf) n 16).1=ka:=⟨_,rfl⟩;obtain ⟨Q,bk⟩:∃Q,(Bg (AH kf) n 16).2=Q:=⟨_,rfl⟩;rw [bf,bk] at hr;have b5:=zh ag;have b9:=zh bf;have ca:=zh bk;clear hi ag bf bk;by_cases h0:Q=0;rotate_left
 . rw [if_neg h0] at hr;injection hr with e1 e2;subst e1;subst e2;have c9:(Q != 0)=true:=by rw [jH];exact h0
   clear h0;go_enter Tryz.func46,Tryz.ntmps46;go_wp2_with fail;refine HV.mono ?_;rintro e w1 ⟨rfl,g1⟩;rw [r.out];have f:=t.grew g1;have r0:=f.cell 0;have r1:=f.cell 1;have m:=f.lt;have a:=u.grew g1;have o:=a.lt;have x:=zh (s.out.trans g1);have p:=zh (R.grew g1);have D:=zh f;have J:=zh a;have b2:=p.cell 2;have j:=p.out.lt;clear a f g1;go_wp2_with fail;refine (GW A c xs T (w.heap.size+1) id unit w1 (q.hold x) HS D _ rfl).mono ?_;rintro e w2 ⟨rfl,g2⟩;rw [U.out];have G:=zh (x.out.trans g2);have E:=zh (p.grew g2);have K:=zh (D.grew g2);have M:=zh (J.grew g2);clear b2 j r0 r1 m o g2;have b2:=E.cell 2;have j:=E.out.lt;go_wp2_with fail;refine (Jl A c xs T (w.heap.size+1) id unit w2 (q.hold G) HS K _ rfl).mono ?_;rintro e w3 ⟨rfl,g3⟩;rw [V.out];have N:=zh (G.out.trans g3);have z:=zh (E.grew g3);have an:=zh (K.grew g3);have ap:=zh (M.grew g3);clear b2 j g3;have b0:=z.cell 0;have b1:=z.cell 1;have b2:=z.cell 2;have j:=z.out.lt;go_wp2_with fail;refine (TE A c xs T w3 (q.hold N) HS _ rfl kf b5).mono ?_;rintro e w4 ⟨A4,c4,rfl,P,g4⟩;have av:=zh (N.out.trans g4);have cb:=zh (z.grew g4);have cc:=zh (an.grew g4);have aw:=zh (ap.grew g4);clear b0 b1 b2 j g4;go_wp2_with fail;refine (PC rfl oo P n n0 n1 16 ka Q b9 ca).mono ?_;rintro e w5 ⟨A5,c5,rfl,af,g5⟩;clear P;have a:=aw.grew g5;have da:=a.lt;have z0:=a.cell 0;have z1:=a.cell 1;have z2:=a.cell 2;have f0:=a.frozen 0;have f1:=a.frozen 1;have f2:=a.frozen 2;have C:=av.out.trans g5;clear a g5 af;go_wp2_with fail;refine im (by first | (simp [*,results,Tryz.results46,go_sem];rfl) | simp [*,results,Tryz.results46,go_sem]) rfl ?_;exact ⟨none,0,[],rfl,TabAt.zero _,gG⟩
 subst h0;rw [if_pos rfl] at hr;injection hr with e1 e2;subst e2;have ce:=zh e1;clear e1;go_enter Tryz.func46,Tryz.ntmps46;go_wp2_with fail;refine HV.mono ?_;rintro e w1 ⟨rfl,g1⟩;rw [r.out];have f:=t.grew g1;have r0:=f.cell 0;have r1:=f.cell 1;have m:=f.lt;have a:=u.grew g1;have o:=a.lt;have x:=zh (s.out.trans g1);have p:=zh (R.grew g1);have D:=zh f;have J:=zh a;have b2:=p.cell 2;have j:=p.out.lt;clear a f g1;go_wp2_with fail;refine (GW A c xs T (w.heap.size+1) id unit w1 (q.hold x) HS D _ rfl).mono ?_;rintro e w2 ⟨rfl,g2⟩;rw [U.out];have G:=zh (x.out.trans g2);have E:=zh (p.grew g2);have K:=zh (D.grew g2);have M:=zh (J.grew g2);clear b2 j r0 r1 m o g2;have b2:=E.cell 2;have j:=E.out.lt;go_wp2_with fail;refine (Jl A c xs T (w.heap.size+1) id unit w2 (q.hold G) HS K _ rfl).mono ?_;rintro e w3 ⟨rfl,g3⟩;rw [V.out];have N:=zh (G.out.trans g3);have z:=zh (E.grew g3);have an:=zh (K.grew g3);have ap:=zh (M.grew g3);clear b2 j g3;have b0:=z.cell 0;have b1:=z.cell 1;have b2:=z.cell 2;have j:=z.out.lt;go_wp2_with fail;refine (TE A c xs T w3 (q.hold N) HS _ rfl kf b5).mono ?_;rintro e w4 ⟨A4,c4,rfl,P,g4⟩;have av:=zh (N.out.trans g4);have cb:=zh (z.grew g4);have cc:=zh (an.grew g4);have aw:=zh (ap.grew g4);clear b0 b1 b2 j g4;go_wp2_with fail;refine (PC rfl oo P n n0 n1 16 ka 0 b9 ca).mono ?_;rintro e w5 ⟨A5,c5,rfl,af,g5⟩;clear P;have a0:=zh (av.out.trans g5);have X:=zh (cb.grew g5);have cu:=zh (cc.grew g5);have cf:=zh (aw.grew g5);have Y:=zh af;clear g5 af;have b0:=X.cell 0;have b1:=X.cell 1;have b2:=X.cell 2;have j:=X.out.lt;go_wp2_with fail;refine (Yc A c xs T w5 (q.hold a0) HS _ rfl).mono ?_;rintro e w6 ⟨v,ys,rfl,l,g6⟩
 obtain ⟨g,cap,rfl,c7,eb⟩:∃g cap,v=.slice (some ⟨g,0,none⟩) T.labels.length cap/\w5.heap.size<=g/\g<w6.heap.size:=by
  rcases l.own.form with ⟨_,h0⟩ | ⟨g,cap,hv,h1,h2,-⟩
  . have:=ix length h0;rw [iY,l.len,length_nil] at this;omega
  . rw [iY,l.len] at hv;exact ⟨g,cap,hv,h1,h2⟩
 have dd:k<cap:=by have:=l.own.len.2.1;omega
 obtain ⟨B,d,L,-,-,-⟩:=l.row hk;have y0:w6.cell? ⟨g,k*5,none⟩=some (.int .i64 T.labels[k].id):=l.own.cell0 L rfl;have y1:w6.cell? ⟨g,k*5+1,none⟩=some (.int .i64 T.labels[k].unit):=l.own.cell L (i:=1) rfl;have y2:w6.cell? ⟨g,k*5+2,none⟩=some (.string T.labels[k].name):=l.own.cell L (i:=2) rfl;have y3:w6.cell? ⟨g,k*5+3,none⟩=some (.string T.labels[k].note):=l.own.cell L (i:=3) rfl;have y4:w6.cell? ⟨g,k*5+4,none⟩=some (.slice B T.labels[k].ext.length d):=l.own.cell L (i:=4) rfl;have cv:=l.own.frozen (k*5);have cw:=l.own.frozen (k*5+1);have cx:=l.own.frozen (k*5+2);have cy:=l.own.frozen (k*5+3);have cz:=l.own.frozen (k*5+4);have Z:=cu.grew g6;have c0:=Z.cell 0;have c1:=Z.cell 1;have df:=Z.lt;have F:=cf.grew g6;have z0:=F.cell 0;have z1:=F.cell 1;have z2:=F.cell 2;have f0:=F.frozen 0;have f1:=F.frozen 1;have f2:=F.frozen 2;have dk:=F.lt;have ch:=cf.out.lt;have ci:LabAt w6 A5 c5 ⟨id,unit,nm,nt,ka⟩:=⟨by simp only;omega,by simp only;omega,by simp only;omega,by simp only;omega,bs,bl,(Y.hold g6).1,Y.2.1,Y.2.2.1⟩
 have cl:0<ka.length->∀b off,A5=some ⟨b,off,none⟩->b≠g:=λh0 b off e=>by
  obtain ⟨b',ee,e',eg,_⟩:=Y.1.2 (by simpa using h0);rw [e] at e';injection e' with e';injection e' with e';omega
 have ad:=(l.set5 hk ⟨A5,c5,⟨id,unit,nm,nt,ka⟩⟩ ci cl).hold ((iW _).alloc (.cells #[.string T.name,.int .i64 T.tracks,.slice (some ⟨g,0,none⟩) T.labels.length cap] 95));have a8:=Ie w6 g (k*5) (.int .i64 id) (.int .i64 unit) (.string nm) (.string nt) (.slice A5 ka.length c5);have a9:=(F.turned a8 oo).alloc (.cells #[.string T.name,.int .i64 T.tracks,.slice (some ⟨g,0,none⟩) T.labels.length cap] 95);have cn:=ik (((((w6.setCell ⟨g,k*5,none⟩ (.int .i64 id)).setCell ⟨g,k*5+1,none⟩ (.int .i64 unit)).setCell ⟨g,k*5+2,none⟩ (.string nm)).setCell ⟨g,k*5+3,none⟩ (.string nt)).setCell ⟨g,k*5+4,none⟩ (.slice A5 ka.length c5)) 95 #[.string T.name,.int .i64 T.tracks,.slice (some ⟨g,0,none⟩) T.labels.length cap] (n:=w6.heap.size) (by simp [World.setCell]);have co:=(((a0.out.trans g6)).turn a8 (λi e=>by have:=a0.size;omega)).alloc (.cells #[.string T.name,.int .i64 T.tracks,.slice (some ⟨g,0,none⟩) T.labels.length cap] 95);have c2:=zh (ad.apart a9);have cp:=zh ad;have H:=zh a9;have O:=zh cn;have c3:=zh ad.nlen;have bb:=zh (show T.name.size<=9223372036854775807/\-9223372036854775808<=T.tracks/\T.tracks<=9223372036854775807 from ⟨q.name,q.tr0,q.tr1⟩);have c6:w.heap.size+1+1<w5.heap.size:=ch;have cq:=zh co;have dn:w.heap.size+1+1<g:=oo;have ds:w.heap.size+1<g:=oo;clear co a1 a2 a3 a4 a5 a6 a7 b3 b4 ct n0 n1 bs bl c6 c7 ch l L Z F ci cl ad a8 a9 cn g6 b0 b1 b2 j
 go_upto_region 13 with fail
 obtain ⟨W,hW⟩:∃W,W=(((((w6.setCell ⟨g,k*5,none⟩ (.int .i64 id)).setCell ⟨g,k*5+1,none⟩ (.int .i64 unit)).setCell ⟨g,k*5+2,none⟩ (.string nm)).setCell ⟨g,k*5+3,none⟩ (.string nt)).setCell ⟨g,k*5+4,none⟩ (.slice A5 ka.length c5)).alloc (.cells #[.string T.name,.int .i64 T.tracks,.slice (some ⟨g,0,none⟩) T.labels.length cap] 95):=⟨_,rfl⟩;rw [<-hW];rw [<-hW] at cp H O cq;clear hW z0 z1 z2 f0 f1 f2 y0 y1 y2 y3 y4 cv cw cx cy cz c0 c1;have z0:=H.cell 0;have z1:=H.cell 1;have z2:=H.cell 2;have f0:=H.frozen 0;have f1:=H.frozen 1;have f2:=H.frozen 2;have d0:=H.out.lt;have x0:=O.cell 0;have x1:=O.cell 1;have x2:=O.cell 2;have ea:=O.out.lt;go_wp2_with fail;refine im (by first | (simp [*,results,Tryz.results46,go_sem];rfl) | simp [*,results,Tryz.results46,go_sem]) rfl ?_;refine ⟨some ⟨g,0,none⟩,cap,ys.set k ⟨A5,c5,⟨id,unit,nm,nt,ka⟩⟩,by rw [<-ce.out];simp only [c3.out],?_,by have hg:=cq.out;exact gG⟩;rw [<-ce.out];exact (cp.turned (S:=λk=>k=w.heap.size+1+1) (gT) (λg' e=>by have e':g=g':=Option.some.inj e;omega) (λy hy h0 b off e=>c2 y hy h0 b off e)).tabAt _ _ bb.1 bb.2.1 bb.2.2
end

end
section
open Go.RowKit
def D7 (s:ByteArray):List ByteArray:=(List.range (s.size / 128)).map λi=>s.extract (128*i) (128*i+128)
theorem Bu (s:ByteArray):(D7 s).length=s.size / 128:=by unfold D7;simp
theorem Fr (s:ByteArray) (i:Nat) (h:i<(D7 s).length):(D7 s)[i]=s.extract (128*i) (128*i+128):=by simp [D7]
theorem SR (a b:ByteArray) (ha:a.size % 128=0):D7 (a++b)=D7 a++D7 b:=by
 have hs:(a++b).size / 128=a.size / 128+b.size / 128:=by rw [io];omega
 refine kR (by rw [iy,Bu,Bu,Bu,hs]) (λi h1 h2=>?_);rw [Bu,hs] at h1;by_cases hi:i<a.size / 128
 . rw [List.getElem_append_left (by rw [Bu];exact hi)];rw [Fr,Fr,ByteArray.extract_append]
   have h0:b.extract (128*i - a.size) (128*i+128 - a.size)=⟨#[]⟩:=by
    have h9:128*i+128 - a.size=0:=oo;have h8:128*i - a.size=0:=oo;rw [h9,h8];apply ByteArray.ext;simp
   rw [h0];exact j3
 . rw [List.getElem_append_right (by rw [Bu];omega)];rw [Fr,Fr,ByteArray.extract_append]
   have h0:a.extract (128*i) (128*i+128)=⟨#[]⟩:=by
    apply ByteArray.ext;simp;omega
   rw [h0,Bu];have e1:128*i - a.size=128*(i - a.size / 128):=oo;have e2:128*i+128 - a.size=128*(i - a.size / 128)+128:=oo;rw [e1,e2];exact kO
def Ek (s:ByteArray) (k:Nat):ByteArray:=s.extract (128*k) s.size
theorem TM (s:ByteArray):Ek s 0=s:=by unfold Ek;simp
theorem No (s:ByteArray) (k:Nat) (h:128*k<=s.size):(Ek s k).size=s.size - 128*k:=by unfold Ek;simp
theorem Ud (s:ByteArray) (k:Nat) (h:128*k+128<=s.size):(Ek s k).extract 128 (Ek s k).size=Ek s (k+1):=by
 rw [No s k oo];unfold Ek;rw [ByteArray.extract_extract];congr 1<;>omega
theorem T6 (s:ByteArray) (k:Nat) (h:128*k+128<=s.size):(Ek s k).extract 0 128=s.extract (128*k) (128*k+128):=by
 unfold Ek;rw [ByteArray.extract_extract];congr 1;omega
theorem Pe (s:ByteArray) (k:Nat) (h:128*k+128<=s.size):(D7 s).take (k+1)=(D7 s).take k++[s.extract (128*k) (128*k+128)]:=by
 have hk:k<(D7 s).length:=by rw [Bu];omega
 rw [ic hk];rw [Fr]
def Em (T:Tab) (k:Nat):ByteArray:=((T.labels.take k).map λl=>Cz l T.tracks).foldl (·++·) (CJ T.name T.tracks)
def AQ (T:Tab):List ByteArray:=if Bf T=true then D7 (Em T T.labels.length) else []
theorem Fu (T:Tab):Em T 0=CJ T.name T.tracks:=rfl
theorem F9 (T:Tab) (k:Nat) (h:k<T.labels.length):Em T (k+1)=Em T k++Cz T.labels[k] T.tracks:=by
 unfold Em;rw [ic h,il,jc];rfl

end
section
attribute [local go_sem ↓] Go.wp_at_zero Go.wp_at_succ
open Go.RowKit
def Eu (s:ByteArray):List Value:=[.string s]
theorem R3:(Tryz.prog.info? 9).map (λi=>(i.zero,i.size,i.bytes))=some (some (.string ⟨#[]⟩),1,16):=qk

theorem OwnL.lower2 {w:World} {b b' e sz:Nat} {v:Value} {rows:List (List Value)} (h:OwnL w b e sz v rows) (hb:b'<=b):OwnL w b' e sz v rows:=by
 refine ⟨h.1,h.2.1,?_⟩;rcases h.2.2 with h0 | ⟨g,cap,a,h1,h2,h3⟩
 . exact .inl h0
 . exact .inr ⟨g,cap,a,h1,ij hb h2,h3⟩

theorem NX (t:Int) (ht:okT t=true) (l:Lab) (h:emL l=true\/BZ l t=true):(Cz l t).size=1024:=by
 rcases h with h | h
 . unfold Cz;rw [if_pos ⟨ht,h⟩];exact Fq _ _ qd
 . exact O0 l t h
theorem Pz (T:Tab) (h:Bf T=true):(CJ T.name T.tracks).size=1024:=by
 have hg:=(Af T).1 h;have hp:JQ T.name:=jC hg.nm;unfold CJ;rw [if_pos ⟨hg.nm,hg.tr⟩];refine Fq _ _ ?_;have:=hp.2.1;have z1:=BG T.name.size;have z2:=BG T.tracks.toNat;rw [io,io];omega
theorem G2 (T:Tab) (h:Bf T=true):∀k,k<=T.labels.length->(Em T k).size=1024*(k+1):=by
 intro k
 induction k with
 | zero=>intro _;rw [Fu,Pz T h]
 | succ k ih=>
   intro hk;have hg:=(Af T).1 h;rw [F9 T k oo,io,ih oo,NX T.tracks hg.tr _ (hg.ok _ (ib _))];omega
theorem Rh (T:Tab) (h:Bf T=true) (k:Nat) (hk:k<T.labels.length):D7 (Em T (k+1))=D7 (Em T k)++D7 (Cz T.labels[k] T.tracks):=by
 rw [F9 T k hk];exact SR _ _ (by rw [G2 T h k oo];omega)

def wrC (p:Int × ByteArray):List Value:=[.int .i64 p.1,.string p.2]

theorem LT (T:Tab) (h:(AQ T).length≠0):Bf T=true:=by
 cases hv:Bf T with
 | true=>rfl
 | false=>exfalso;apply h;unfold AQ;rw [if_neg (by rw [hv];simp)];rfl
theorem QV (T:Tab) (h:(AQ T).length≠0):(AQ T).length=8*(T.labels.length+1):=by
 have hv:=LT T h;unfold AQ;rw [if_pos hv,Bu,G2 T hv _ (iX _)];omega
theorem JC (T:Tab) (hs:T.labels.length<=1000):(AQ T).length<=10000:=by
 by_cases h:(AQ T).length=0
 . omega
 . rw [QV T h];omega
theorem Sk (T U:Tab) (h1:(AQ T).length≠0) (h2:(AQ U).length≠0) (ht:T.tracks=U.tracks):(AQ T).length=(AQ U).length:=by
 have g1:=((Af T).1 (LT T h1)).len;have g2:=((Af U).1 (LT U h2)).len;rw [QV T h1,QV U h2];rw [ht] at g1;omega
def Cu (X Y:List ByteArray) (k:Nat):List (Int × ByteArray):=((List.range k).filter λi=>decide (X.getD i ⟨#[]⟩≠Y.getD i ⟨#[]⟩)).map λ(i:Nat)=>((i:Int),Y.getD i ⟨#[]⟩)
def B6 (T U:Tab):List (Int × ByteArray):=if (AQ T).length=(AQ U).length/\T.tracks=U.tracks then Cu (AQ T) (AQ U) (AQ T).length else []
theorem Z2 (X Y:List ByteArray) (k:Nat) (h1:k<X.length) (h2:k<Y.length) (h:X[k]=Y[k]):Cu X Y (k+1)=Cu X Y k:=by
 unfold Cu;rw [kP,j8,il];simp [iu,iV h1,iV h2,h]
theorem bA (X Y:List ByteArray) (k:Nat) (h1:k<X.length) (h2:k<Y.length) (h:¬X[k]=Y[k]):Cu X Y (k+1)=Cu X Y k++[((k:Int),Y[k])]:=by
 unfold Cu;rw [kP,j8,il];simp [iu,iV h1,iV h2,h]
theorem XS (X Y:List ByteArray) (k:Nat):(Cu X Y k).length<=k:=by
 unfold Cu;rw [iY];have h9:=j5 (λi=>decide (X.getD i ⟨#[]⟩≠Y.getD i ⟨#[]⟩)) (List.range k);rw [jr] at h9;exact h9
theorem Ul:(Tryz.prog.info? 41).map (λi=>(i.zero,i.size,i.bytes))=some (some (.agg #[.int .i64 0,.string ⟨#[]⟩]),2,24):=qk

end
end Go.Proofs.YtmcgbdemcknkaaaGreatDoor
