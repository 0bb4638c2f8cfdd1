/- Parts of the proof (packed), 8. -/
import Derived.DeepKeys4
import Derived.Laws.EntriesVeiled
import Derived.Laws.MakeOwn
import Derived.Test.YtfklieeipokllaaGreatCyG
import Derived.Test.YtfklieeipokllaaGreatCyF
namespace Go.Proofs.YtfklieeipokllaaGreat
set_option linter.all false
set_option maxRecDepth 100000
set_option maxHeartbeats 16000000
open List
section
open Go.RowKit
structure Tab where
 name:ByteArray
 tracks:Int
 labels:List Lab
def Ca:Tab:=⟨⟨#[]⟩,0,[]⟩
instance:Inhabited Tab:=⟨Ca⟩
def emL (l:Lab):Bool:=eqL l BH
def okL (t:Int) (l:Lab):Bool:=emL l || BO l t
def GR (l:Lab):Int × Bool:=(l.id,decide (0<l.unit))
def Bz (ls:List Lab):List (Int × Bool):=(ls.filter λl=>!emL l).map GR
def Bo (ls:List Lab):List (Int × Int):=ls.flatMap (·.ext)
def Kv (t:Tab):Bool:=okT t.tracks && Cj t.name && decide ((t.labels.length:Int)=CT t.tracks)
def A0 (t:Tab):Bool:=Kv t && (t.labels.all (okL t.tracks) && decide (Bz t.labels).Nodup && decide (BP (Bo t.labels)).Nodup)
structure LabE where
 A:Option Addr
 c:Nat
 l:Lab
instance:Inhabited LabE:=⟨⟨none,0,BH⟩⟩
def DN (x:LabE):List Value:=[.int .i64 x.l.id,.int .i64 x.l.unit,.string x.l.name,.string x.l.note,.slice x.A x.l.ext.length x.c]
structure TabAt (w:World) (A:Option Addr) (c:Nat) (xs:List LabE) (T:Tab):Prop where
 lab:∀x∈xs,LabAt w x.A x.c x.l
 rows:ListAt w w.heap.size 5 A (xs.map DN)
 len:xs.length<=c
 cap:c<=9223372036854775807
 eq:xs.map (·.l)=T.labels
 tr0:-9223372036854775808<=T.tracks
 tr1:T.tracks<=9223372036854775807
 name:T.name.size<=9223372036854775807
structure SmallT (T:Tab):Prop where
 len:T.labels.length<=1000
 ext:∀l∈T.labels,l.ext.length<=1000
theorem TabAt.hold {w w':World} {A:Option Addr} {c:Nat} {xs:List LabE} {T:Tab} (h:TabAt w A c xs T) (hg:Grew w w'):TabAt w' A c xs T:=
 ⟨λx hx=>(h.lab x hx).hold hg,(h.rows.keep (fk _) hg).mono hg.size,h.len,h.cap,h.eq,h.tr0,h.tr1,h.name⟩
theorem TabAt.xlen {w:World} {A:Option Addr} {c:Nat} {xs:List LabE} {T:Tab} (h:TabAt w A c xs T):xs.length=T.labels.length:=by rw [<-h.eq,fm]
theorem TabAt.zero (w:World):TabAt w none 0 [] Ca:=⟨qs,λh=>absurd h qs,fk _,oo,rfl,qd,qd,qd⟩
theorem TabAt.get {w:World} {A:Option Addr} {c:Nat} {xs:List LabE} {T:Tab} (h:TabAt w A c xs T) {k:Nat} (hk:k<xs.length):T.labels[k]? =some xs[k].l:=by
 rw [<-h.eq,fo,fg hk];rfl
theorem TabAt.at_ {w:World} {A:Option Addr} {c:Nat} {xs:List LabE} {T:Tab} (h:TabAt w A c xs T) {k:Nat} (hk:k<T.labels.length):
 ∃b off B d l,A=some ⟨b,off,none⟩/\b<w.heap.size/\xs[k]? =some ⟨B,d,l⟩/\T.labels[k]=l/\LabAt w B d l/\
  w.cell? ⟨b,off+k*5,none⟩=some (.int .i64 l.id)/\w.cell? ⟨b,off+k*5+1,none⟩=some (.int .i64 l.unit)/\w.cell? ⟨b,off+k*5+2,none⟩=some (.string l.name)/\w.cell? ⟨b,off+k*5+3,none⟩=some (.string l.note)/\w.cell? ⟨b,off+k*5+4,none⟩=some (.slice B l.ext.length d):=by
 have hx:k<xs.length:=by rw [h.xlen];exact hk
 obtain ⟨b,off,e,hb,hc⟩:=h.rows (by rw [fm];omega);have hg:=h.get hx;rw [fg hk] at hg;injection hg with hg;have hl:=h.lab xs[k] (fq hx);have hr:(xs.map DN)[k]? =some (DN xs[k]):=by rw [fo,fg hx];rfl
 have a:=hc k _ hr;have f:=fg hx;rcases hv:xs[k] with ⟨B,d,l⟩;rw [hv] at a hg hl f;exact ⟨b,off,B,d,l,e,hb,f,hg,hl,a 0 _ rfl,a 1 _ rfl,a 2 _ rfl,a 3 _ rfl,a 4 _ rfl⟩
theorem TabAt.okruns {w:World} {A:Option Addr} {c:Nat} {xs:List LabE} {T:Tab} (h:TabAt w A c xs T):∀r∈Bo T.labels,GN r:=by
 intro r hr;unfold Bo at hr;obtain ⟨l,hl,hr⟩:=List.mem_flatMap.1 hr;rw [<-h.eq] at hl;obtain ⟨x,hx,rfl⟩:=ft.1 hl;exact (h.lab x hx).runs.1 r hr
theorem Tt (ls:List Lab) (k:Nat) (h:k<ls.length):Bz (ls.take (k+1))=Bz (ls.take k)++(if emL ls[k]=true then [] else [GR ls[k]]):=by
 unfold Bz;rw [fr h,jF,fz];congr 1;cases hm:emL ls[k]<;>simp [hm]
theorem Mk (ls:List Lab) (k:Nat) (h:k<ls.length):Bo (ls.take (k+1))=Bo (ls.take k)++ls[k].ext:=by
 unfold Bo;rw [fr h,List.flatMap_append];simp
theorem Fj (l:Lab):emL l=true↔l=BH:=I4 l BH
theorem di (l:Lab) (h:emL l=true):l.ext=[]:=by rw [(Fj l).1 h];rfl
theorem DB (l:Lab) (t:Int) (h:BO l t=true):okT t=true/\idB l=true/\txB l=true/\cnB l=true/\jnB l=true/\inB l t=true:=by
 unfold BO at h;simp only [gZ] at h;exact ⟨h.1,h.2.1,h.2.2.1,h.2.2.2.1,h.2.2.2.2.1,h.2.2.2.2.2⟩
theorem JZ (l:Lab) (t:Int) (h:BO l t=true):1<=l.id/\0<=l.unit/\1<=l.ext.length/\l.ext.length<=16:=by
 obtain ⟨_,h1,_,h2,_⟩:=DB l t h;unfold idB at h1;unfold cnB at h2;simp at h1 h2;omega
theorem dF (l:Lab) (t:Int) (h:okL t l=true):l.ext.length<=16/\0<=l.unit:=by
 unfold okL at h;rw [Bool.or_eq_true] at h;rcases h with h | h
 . rw [(Fj l).1 h];decide
 . have:=JZ l t h;omega
theorem ET (T:Tab) (h:Kv T=false):A0 T=false:=by unfold A0;rw [h];rfl
theorem LW (T:Tab) (k:Nat) (hk:k<T.labels.length) (h:okL T.tracks T.labels[k]=false):A0 T=false:=by
 unfold A0
 have:T.labels.all (okL T.tracks)=false:=by
  rw [List.all_eq_false];exact ⟨T.labels[k],fq hk,by rw [h];simp⟩
 rw [this];simp
theorem La (T:Tab) (h:¬(Bz T.labels).Nodup):A0 T=false:=by
 unfold A0;rw [gE h];simp
theorem XM (T:Tab) (h1:Kv T=true) (h2:T.labels.all (okL T.tracks)=true) (h3:(Bz T.labels).Nodup):A0 T=decide (BP (Bo T.labels)).Nodup:=by
 unfold A0;rw [h1,h2,gD h3];rfl
theorem Kz (ls:List Lab) (k:Nat) (h:(Bz ls).Nodup):(Bz (ls.take k)).Nodup:=by
 have:Bz ls=Bz (ls.take k)++Bz (ls.drop k):=by
  unfold Bz;conv=>lhs;rw [<-jR k ls]
  rw [jF,fz]
 rw [this] at h;exact (iZ.1 h).1
structure GoodT (T:Tab):Prop where
 tr:okT T.tracks=true
 nm:Cj T.name=true
 len:(T.labels.length:Int)=CT T.tracks
 ok:∀l∈T.labels,emL l=true\/BO l T.tracks=true
 keys:(Bz T.labels).Nodup
 seq:(BP (Bo T.labels)).Nodup
theorem AX (T:Tab):A0 T=true↔GoodT T:=by
 unfold A0 Kv;constructor
 . intro h;simp only [gZ,gm,iD] at h;obtain ⟨⟨⟨h1,h2⟩,h3⟩,⟨h4,h5⟩,h6⟩:=h;exact ⟨h1,h2,h3,λl hl=>by have:=h4 l hl;unfold okL at this;rwa [Bool.or_eq_true] at this,h5,h6⟩
 . intro ⟨h1,h2,h3,h4,h5,h6⟩;simp only [gZ,gm,iD];exact ⟨⟨⟨h1,h2⟩,h3⟩,⟨λl hl=>by unfold okL;rw [Bool.or_eq_true];exact h4 l hl,h5⟩,h6⟩
theorem GoodT.small {T:Tab} (h:GoodT T):T.labels.length<=31/\∀l∈T.labels,l.ext.length<=16/\0<=l.unit:=by
 constructor
 . have h1:=h.len;have h2:=DQ T.tracks;unfold CT at h1;omega
 . intro l hl;refine dF l T.tracks ?_;unfold okL;rw [Bool.or_eq_true];exact h.ok l hl
theorem WI (ls:List Lab) (m:Nat) (h:∀l∈ls,l.ext.length<=m):(Bo ls).length<=ls.length*m:=by
 induction ls with
 | nil=>simp [Bo]
 | cons x ls ih=>
   have h1:=h x (gS ..);have h2:=ih (λy hy=>h y (gM _ hy));have:Bo (x::ls)=x.ext++Bo ls:=by simp [Bo]
   rw [this,gK,iY,Nat.succ_mul];omega
theorem GoodT.exts {T:Tab} (h:GoodT T):(Bo T.labels).length<=496:=by
 have:=WI T.labels 16 (λl hl=>(h.small.2 l hl).1);have:=h.small.1;omega
def Ce (T:Tab):List (Int × Int):=if A0 T=true then Nq (ttS T.tracks) T.tracks (Bo T.labels) else []
theorem Lf (T:Tab):(Ce T).length<=128:=by
 unfold Ce;split
 . unfold Nq;rw [AZ];exact EP _
 . simp
def FY (id unit:Int) (l:Lab):Bool:=!(id==0) && (l.id==id) && (l.unit==unit)
def Hd (p:Lab->Bool) (ls:List Lab):Int:=match ls.findIdx? p with | some i=>(i:Int) | none=>-1
theorem NC (p:Lab->Bool) (ls:List Lab) (k:Nat) (hk:k<ls.length) (h:p ls[k]=true) (hn:∀j (hj:j<ls.length),j<k->p ls[j]=false):Hd p ls=(k:Int):=by
 unfold Hd;rw [List.findIdx?_eq_some_iff_getElem.2 ⟨hk,h,λj hj=>by rw [hn j oo hj];simp⟩]
theorem LQ (p:Lab->Bool) (ls:List Lab) (hn:∀j (hj:j<ls.length),p ls[j]=false):Hd p ls=-1:=by
 unfold Hd;rw [List.findIdx?_eq_none_iff.2 (λl hl=>by obtain ⟨j,hj,rfl⟩:=List.getElem_of_mem hl;exact hn j hj)]
theorem EA (p:Lab->Bool) (ls:List Lab):(∃(k:Nat) (hk:k<ls.length),Hd p ls=(k:Int)/\p ls[k]=true/\∀j (hj:j<ls.length),j<k->p ls[j]=false)\/(Hd p ls=-1/\∀l∈ls,p l=false):=by
 unfold Hd;cases h:ls.findIdx? p with
 | none=>exact .inr ⟨rfl,λl hl=>by simpa using List.findIdx?_eq_none_iff.1 h l hl⟩
 | some k=>
   obtain ⟨hk,h1,h2⟩:=List.findIdx?_eq_some_iff_getElem.1 h;exact .inl ⟨k,hk,rfl,h1,λj hj hjk=>by simpa using h2 j hjk⟩
theorem Z1 (p:Lab->Bool) (ls:List Lab):decide (0<=Hd p ls)=ls.any p:=by
 rcases EA p ls with ⟨k,hk,h,hp,_⟩ | ⟨h,hn⟩
 . rw [h,gD oo];exact (jD.2 ⟨ls[k],fq hk,hp⟩).symm
 . rw [h,gE oo];exact (iK.2 (λl hl=>by rw [hn l hl];simp)).symm
def IC (id:Int) (l:Lab):Bool:=(l.id==id) && decide (0<l.unit)
def FA (T:Tab) (id unit:Int):Int:=Hd (FY id unit) T.labels
theorem FL (id unit:Int) (l:Lab):FY id unit l=true↔id≠0/\l.id=id/\l.unit=unit:=by
 unfold FY;simp only [gZ,jT,gF,iy];constructor
 . rintro ⟨⟨h1,h2⟩,h3⟩;exact ⟨h1,h2,h3⟩
 . rintro ⟨h1,h2,h3⟩;exact ⟨⟨h1,h2⟩,h3⟩

theorem dH (a b:Int) (h:(a==b)=true):(a != b)=false:=by simp [bne,h]
theorem dG (a b:Int) (h:(a==b)=false):(a != b)=true:=by simp [bne,h]
theorem K1 (B:Option Addr) (d:Nat) (l:Lab) (w:World) (h:LabAt w B d l) (hl:l.ext.length<=1000):
 Calls Tryz.prog 42 #[.agg #[.int .i64 l.id,.int .i64 l.unit,.string l.name,.string l.note,.slice B l.ext.length d]] w λe w'=>e=.returned (.bool (emL l))/\Grew w w':=by
 have g0:=(fh w).alloc (.cells #[.int .i64 l.id,.int .i64 l.unit,.string l.name,.string l.note,.slice B l.ext.length d] 100);have HC:=zh (M7 B d l _ (h.hold g0) oo);have HG:=zh g0;have HE:=zh (show emL l=eqL l BH from rfl);clear h g0;go_enter Tryz.func42,Tryz.ntmps42;go_wp2_with fail;refine HC.mono ?_;rintro e w1 ⟨rfl,g1⟩;go_wp2_with fail;go_ret;exact ⟨AE (by rw [HE.out]),HG.out.trans g1⟩
theorem Ub (B:Option Addr) (d:Nat) (l:Lab) (id unit:Int) (g:Nat) (w:World) (hb:Blk w g 32 #[.int .i64 id,.int .i64 unit]):
 Calls Tryz.prog 202 #[.agg #[.int .i64 l.id,.int .i64 l.unit,.string l.name,.string l.note,.slice B l.ext.length d],.pointer (some ⟨g,0,none⟩)] w λe w'=>e=.returned (.bool (FY id unit l))/\Grew w w':=by
 have x0:=hb.cell 0;have x1:=hb.cell 1;have hl:=hb.lt;obtain ⟨i,u,nm,nt,ex⟩:=l;simp only;have HE:=zh (show FY id unit ⟨i,u,nm,nt,ex⟩=(!(id==0) && (i==id) && (u==unit)) from rfl);clear hb;cases b1:(id==0) with
 | true=>
   have HB:=zh b1;have c1:=dH _ _ b1;clear b1;go_enter Tryz.func202,Tryz.ntmps202;go_wp2_with fail;go_ret;exact ⟨AE (by rw [HE.out,HB.out];rfl),gG⟩
 | false=>
   have a:=zh b1;have c1:=dG _ _ b1;clear b1;cases b2:(i==id) with
   | false=>
     have HB:=zh b2;go_enter Tryz.func202,Tryz.ntmps202;go_wp2_with fail;go_ret;exact ⟨AE (by rw [HE.out,a.out,HB.out];rfl),gG⟩
   | true=>
     have b:=zh b2;cases b3:(u==unit) with
     | false=>
       have HB:=zh b3;go_enter Tryz.func202,Tryz.ntmps202;go_wp2_with fail;go_ret;exact ⟨AE (by rw [HE.out,a.out,b.out,HB.out];rfl),gG⟩
     | true=>
       have HB:=zh b3;go_enter Tryz.func202,Tryz.ntmps202;go_wp2_with fail;go_ret;exact ⟨AE (by rw [HE.out,a.out,b.out,HB.out];rfl),gG⟩
theorem Qv (B:Option Addr) (d:Nat) (l:Lab) (id unit:Int) (g:Nat) (w:World) (hb:Blk w g 32 #[.int .i64 id,.int .i64 unit]):
 Calls Tryz.prog 136 #[.agg #[.int .i64 l.id,.int .i64 l.unit,.string l.name,.string l.note,.slice B l.ext.length d],.pointer (some ⟨g,0,none⟩)] w λe w'=>e=.returned (.bool (IC id l))/\Grew w w':=by
 have x0:=hb.cell 0;have hl:=hb.lt;obtain ⟨i,u,nm,nt,ex⟩:=l;simp only;have HE:=zh (show IC id ⟨i,u,nm,nt,ex⟩=((i==id) && decide (0<u)) from rfl);clear hb;cases b1:(i==id) with
 | false=>
   have HB:=zh b1;go_enter Tryz.func136,Tryz.ntmps136;go_wp2_with fail;go_ret;exact ⟨AE (by rw [HE.out,HB.out];rfl),gG⟩
 | true=>
   have a:=zh b1;by_cases b2:0<u
   . have HB:=zh (gD b2);go_enter Tryz.func136,Tryz.ntmps136;go_wp2_with fail;go_ret;exact ⟨AE (by rw [HE.out,a.out,HB.out];rfl),gG⟩
   . have HB:=zh (gE b2);go_enter Tryz.func136,Tryz.ntmps136;go_wp2_with fail;go_ret;exact ⟨AE (by rw [HE.out,a.out,HB.out];rfl),gG⟩
section
variable (A:Option Addr) (c:Nat) (xs:List LabE) (T:Tab) (g:Nat) (id unit:Int) (w:World)
theorem T3 (h:TabAt w A c xs T) (hs:SmallT T) (hb:Blk w g 32 #[.int .i64 id,.int .i64 unit]) (n:Nat) (hn:n=T.labels.length):
 Calls Tryz.prog 137 #[.slice A n c,.func (.func 202) #[] #[.pointer (some ⟨g,0,none⟩)]] w λe w'=>e=.returned (.int .i64 (Hd (FY id unit) T.labels))/\Grew w w':=by
 subst hn;have HT:=zh h;have HS:=zh hs;have p:=zh hb;have x:=hs.len;obtain ⟨q,hq⟩:∃q,FY id unit=q:=⟨_,rfl⟩;have HQ:=zh hq;rw [hq];clear h hs hb hq;go_enter Tryz.func137,Tryz.ntmps137;go_wp2_with fail
 go_loopg [8] T.labels.length (λgk i wr=>∃k:Nat,k<=T.labels.length/\gk=T.labels.length - k/\i=.int .i64 k/\(∀j (hj:j<T.labels.length),j<k->q T.labels[j]=false)/\Grew w wr)
 case atStart=>exact ⟨0,oo,oo,rfl,λj _ h=>oo,fh _⟩
 case round=>
  obtain ⟨k,hk,m,rfl,o,hg⟩:=hrel;have r:=zh m;have HA:=zh o;have HG:=zh hg;clear m o;by_cases f:k<T.labels.length
  . obtain ⟨b,y,B,d,l,rfl,z,u,hv,v,c0,c1,c2,c3,c4⟩:=(HT.hold hg).at_ f;have s:=HS.ext T.labels[k] (fq f);rw [hv] at s;have hb:=p.out;have HC:=zh (Ub B d l id unit g wr (hb.hold hg));have HV:=zh hv;clear hv u hb v;rw [HQ.out] at HC;go_wp2_with fail;refine HC.mono ?_;rintro e w3 ⟨rfl,g3⟩;cases a:q l with
    | true=>
      have HI:=zh (NC q T.labels k f (by rw [HV.out];exact a) HA);clear a;go_wp2_with fail;go_ret;exact ⟨CL (by rw [HI.out]),HG.out.trans g3⟩
    | false=>
      have HN:=zh (show ∀j (hj:j<T.labels.length),j<k+1->q T.labels[j]=false from λj hj hjk=>by
       by_cases t:j=k
       . subst t;rw [HV.out];exact a
       . exact HA.out j hj oo)
      clear a;go_wp2_with fail
      go_roundg (T.labels.length - (k+1))
      case measure=>rw [r.out];omega
      case rel=>exact ⟨k+1,oo,oo,by go_num,HN,HG.out.trans g3⟩
  . have HN:=zh (LQ q T.labels (λj hj=>HA j hj oo));go_wp2_with fail;go_ret;exact ⟨CL (by rw [HN.out]),HG⟩
theorem YH (h:TabAt w A c xs T) (hs:SmallT T) (hb:Blk w g 32 #[.int .i64 id,.int .i64 unit]) (n:Nat) (hn:n=T.labels.length):
 Calls Tryz.prog 137 #[.slice A n c,.func (.func 136) #[] #[.pointer (some ⟨g,0,none⟩)]] w λe w'=>e=.returned (.int .i64 (Hd (IC id) T.labels))/\Grew w w':=by
 subst hn;have HT:=zh h;have HS:=zh hs;have p:=zh hb;have x:=hs.len;obtain ⟨q,hq⟩:∃q,IC id=q:=⟨_,rfl⟩;have HQ:=zh hq;rw [hq];clear h hs hb hq;go_enter Tryz.func137,Tryz.ntmps137;go_wp2_with fail
 go_loopg [8] T.labels.length (λgk i wr=>∃k:Nat,k<=T.labels.length/\gk=T.labels.length - k/\i=.int .i64 k/\(∀j (hj:j<T.labels.length),j<k->q T.labels[j]=false)/\Grew w wr)
 case atStart=>exact ⟨0,oo,oo,rfl,λj _ h=>oo,fh _⟩
 case round=>
  obtain ⟨k,hk,m,rfl,o,hg⟩:=hrel;have r:=zh m;have HA:=zh o;have HG:=zh hg;clear m o;by_cases f:k<T.labels.length
  . obtain ⟨b,y,B,d,l,rfl,z,u,hv,v,c0,c1,c2,c3,c4⟩:=(HT.hold hg).at_ f;have s:=HS.ext T.labels[k] (fq f);rw [hv] at s;have hb:=p.out;have HC:=zh (Qv B d l id unit g wr (hb.hold hg));have HV:=zh hv;clear hv u hb v;rw [HQ.out] at HC;go_wp2_with fail;refine HC.mono ?_;rintro e w3 ⟨rfl,g3⟩;cases a:q l with
    | true=>
      have HI:=zh (NC q T.labels k f (by rw [HV.out];exact a) HA);clear a;go_wp2_with fail;go_ret;exact ⟨CL (by rw [HI.out]),HG.out.trans g3⟩
    | false=>
      have HN:=zh (show ∀j (hj:j<T.labels.length),j<k+1->q T.labels[j]=false from λj hj hjk=>by
       by_cases t:j=k
       . subst t;rw [HV.out];exact a
       . exact HA.out j hj oo)
      clear a;go_wp2_with fail
      go_roundg (T.labels.length - (k+1))
      case measure=>rw [r.out];omega
      case rel=>exact ⟨k+1,oo,oo,by go_num,HN,HG.out.trans g3⟩
  . have HN:=zh (LQ q T.labels (λj hj=>HA j hj oo));go_wp2_with fail;go_ret;exact ⟨CL (by rw [HN.out]),HG⟩
theorem Jq (h:TabAt w A c xs T) (hs:SmallT T) (hb:Blk w g 32 #[.int .i64 id,.int .i64 unit]) (n:Nat) (hn:n=T.labels.length):
 Calls Tryz.prog 137 #[.slice A n c,.func (.func 42) #[] #[]] w λe w'=>e=.returned (.int .i64 (Hd (emL) T.labels))/\Grew w w':=by
 subst hn;have HT:=zh h;have HS:=zh hs;have s:=zh hb;have x:=hs.len;obtain ⟨q,hq⟩:∃q,emL=q:=⟨_,rfl⟩;have HQ:=zh hq;rw [hq];clear h hs hb hq;go_enter Tryz.func137,Tryz.ntmps137;go_wp2_with fail
 go_loopg [8] T.labels.length (λgk i wr=>∃k:Nat,k<=T.labels.length/\gk=T.labels.length - k/\i=.int .i64 k/\(∀j (hj:j<T.labels.length),j<k->q T.labels[j]=false)/\Grew w wr)
 case atStart=>exact ⟨0,oo,oo,rfl,λj _ h=>oo,fh _⟩
 case round=>
  obtain ⟨k,hk,o,rfl,p,hg⟩:=hrel;have t:=zh o;have HA:=zh p;have HG:=zh hg;clear o p;by_cases f:k<T.labels.length
  . obtain ⟨b,y,B,d,l,rfl,z,v,hv,r,c0,c1,c2,c3,c4⟩:=(HT.hold hg).at_ f;have m:=HS.ext T.labels[k] (fq f);rw [hv] at m;have hb:=s.out;have HC:=zh (K1 B d l wr r m);have HV:=zh hv;clear hv v hb r;rw [HQ.out] at HC;go_wp2_with fail;refine HC.mono ?_;rintro e w3 ⟨rfl,g3⟩;cases a:q l with
    | true=>
      have HI:=zh (NC q T.labels k f (by rw [HV.out];exact a) HA);clear a;go_wp2_with fail;go_ret;exact ⟨CL (by rw [HI.out]),HG.out.trans g3⟩
    | false=>
      have HN:=zh (show ∀j (hj:j<T.labels.length),j<k+1->q T.labels[j]=false from λj hj hjk=>by
       by_cases u:j=k
       . subst u;rw [HV.out];exact a
       . exact HA.out j hj oo)
      clear a;go_wp2_with fail
      go_roundg (T.labels.length - (k+1))
      case measure=>rw [t.out];omega
      case rel=>exact ⟨k+1,oo,oo,by go_num,HN,HG.out.trans g3⟩
  . have HN:=zh (LQ q T.labels (λj hj=>HA j hj oo));go_wp2_with fail;go_ret;exact ⟨CL (by rw [HN.out]),HG⟩
theorem Ga (h:TabAt w A c xs T) (hs:SmallT T) (hb:Blk w g 32 #[.int .i64 id,.int .i64 unit]) (n:Nat) (hn:n=T.labels.length):
 Calls Tryz.prog 135 #[.slice A n c,.func (.func 136) #[] #[.pointer (some ⟨g,0,none⟩)]] w λe w'=>e=.returned (.bool (T.labels.any (IC id)))/\Grew w w':=by
 subst hn;have HC:=zh (YH A c xs T g id unit w h hs hb _ rfl);have HE:=zh (Z1 (IC id) T.labels);generalize Hd (IC id) T.labels=i at*;clear h hs hb;go_enter Tryz.func135,Tryz.ntmps135;go_wp2_with fail;refine HC.mono ?_;rintro e w1 ⟨rfl,g1⟩;go_wp2_with fail;go_ret;exact ⟨AE (by rw [<-HE.out]),g1⟩
theorem Ji (h:TabAt w A c xs T) (hs:SmallT T) (n:Nat) (hn:n=T.labels.length) (k:Int) (hk:FA T id unit=k):
 Calls Tryz.prog 146 #[.agg #[.string T.name,.int .i64 T.tracks,.slice A n c],.agg #[.int .i64 id,.int .i64 unit]] w λe w'=>e=.returned (.int .i64 k)/\Grew w w':=by
 subst hk;subst hn;have g0:=((fh w).alloc (.cells #[.string T.name,.int .i64 T.tracks,.slice A T.labels.length c] 50)).alloc (.cells #[.int .i64 id,.int .i64 unit] 32);have a:=fy (w.alloc (.cells #[.string T.name,.int .i64 T.tracks,.slice A T.labels.length c] 50)) 32 #[.int .i64 id,.int .i64 unit] (n:=w.heap.size+1) qs;have HC:=zh (T3 A c xs T (w.heap.size+1) id unit _ (h.hold g0) hs a _ rfl);have HG:=zh g0;have HI:=zh (show FA T id unit=Hd (FY id unit) T.labels from rfl);clear h g0 hs a;go_enter Tryz.func146,Tryz.ntmps146;go_wp2_with fail;refine HC.mono ?_;rintro e w1 ⟨rfl,g1⟩;go_wp2_with fail;go_ret;exact ⟨CL (by rw [HI.out]),HG.out.trans g1⟩
end

end
section
attribute [local go_sem ↓] Go.wp_at_zero Go.wp_at_succ
open Go.RowKit
theorem M2:(Tryz.prog.info? 100).map (λi=>(i.zero,i.size,i.bytes))=some (some (.agg #[.int .i64 0,.int .i64 0,.string ⟨#[]⟩,.string ⟨#[]⟩,.slice none 0 0]),5,72):=qk
theorem Hj (A:Option Addr) (c n:Nat) (l:List (Int × Int)) (w:World) (hn:n=l.length) (hl:l.length<=1000000) (hr:ListAt w w.heap.size 2 A (l.map FW)):
 Calls Tryz.prog 95 #[.slice A n c] w λe w'=>∃v,e=.returned v/\OwnL w' w.heap.size 136 2 v (l.map FW)/\Grew w w':=by
 subst hn;cases A with
 | none=>
   have h0:l=[]:=by
    rcases Nat.eq_zero_or_pos l.length with h0 | h0
    . exact jP.1 h0
    . obtain ⟨b,i,e,_⟩:=hr (by rw [fm];exact h0);cases e
   subst h0;have a:=λ(W:World)=>Lib.run_eql_slice_nil (P:=Tryz.prog) W 33 136 none 0 c 0 0 Tryz.underlying33;go_enter Tryz.func95,Tryz.ntmps95
   go_wp2
   go_ret;exact ⟨_,rfl,OwnL.nil _ _ _ _,gG⟩
 | some ad=>
   have a:=λ(W:World)=>Lib.run_eql_slice_nil (P:=Tryz.prog) W 33 136 (some ad) l.length c 0 0 Tryz.underlying33;have d:=ListAt.mono (B':=w.heap.size+1) (hr.keep (fk _) ((fh w).alloc (.cells #[] 136))) oo;go_enter Tryz.func95,Tryz.ntmps95;go_wp2_with (at_builtin;refine CF (by rfl) _ _ 33 rfl w.heap.size 136 2 16 _ Tryz.underlying33 DG rfl qd _ [] (l.map FW) (by rfl) (OwnL.empty w _ _ _ (fk _) rfl) _ l.length _ (by rfl) qs (by intro r hr;obtain ⟨x,_,rfl⟩:=ft.1 hr;rfl) (by simpa using d) (by intro r hr;obtain ⟨x,_,rfl⟩:=ft.1 hr;rfl) (by simp;omega) (by simp;omega) qs ?_;intro v1 w3 f g h);go_ret;exact ⟨v1,rfl,f,Grew.own ((fh w).alloc _) g (by simp [Value.ownBlock]) (fk _)⟩
theorem Mf (A:Option Addr) (c n:Nat) (l:List (LabE)) (w:World) (hn:n=l.length) (hl:l.length<=1000000) (hr:ListAt w w.heap.size 5 A (l.map DN)):
 Calls Tryz.prog 94 #[.slice A n c] w λe w'=>∃v,e=.returned v/\OwnL w' w.heap.size 100 5 v (l.map DN)/\Grew w w':=by
 subst hn;cases A with
 | none=>
   have h0:l=[]:=by
    rcases Nat.eq_zero_or_pos l.length with h0 | h0
    . exact jP.1 h0
    . obtain ⟨b,i,e,_⟩:=hr (by rw [fm];exact h0);cases e
   subst h0;have a:=λ(W:World)=>Lib.run_eql_slice_nil (P:=Tryz.prog) W 48 100 none 0 c 0 0 Tryz.underlying48;go_enter Tryz.func94,Tryz.ntmps94
   go_wp2
   go_ret;exact ⟨_,rfl,OwnL.nil _ _ _ _,gG⟩
 | some ad=>
   have a:=λ(W:World)=>Lib.run_eql_slice_nil (P:=Tryz.prog) W 48 100 (some ad) l.length c 0 0 Tryz.underlying48;have d:=ListAt.mono (B':=w.heap.size+1) (hr.keep (fk _) ((fh w).alloc (.cells #[] 100))) oo;go_enter Tryz.func94,Tryz.ntmps94;go_wp2_with (at_builtin;refine CF (by rfl) _ _ 48 rfl w.heap.size 100 5 72 _ Tryz.underlying48 M2 rfl qd _ [] (l.map DN) (by rfl) (OwnL.empty w _ _ _ (fk _) rfl) _ l.length _ (by rfl) qs (by intro r hr;obtain ⟨x,_,rfl⟩:=ft.1 hr;rfl) (by simpa using d) (by intro r hr;obtain ⟨x,_,rfl⟩:=ft.1 hr;rfl) (by simp;omega) (by simp;omega) qs ?_;intro v1 w3 f g h);go_ret;exact ⟨v1,rfl,f,Grew.own ((fh w).alloc _) g (by simp [Value.ownBlock]) (fk _)⟩
structure TabO (w:World) (base:Nat) (v:Value) (ys:List LabE) (ls:List Lab):Prop where
 own:OwnL w base 100 5 v (ys.map DN)
 lab:∀y∈ys,LabAt w y.A y.c y.l
 far:∀y∈ys,0<y.l.ext.length->∀b off,y.A=some ⟨b,off,none⟩->v.ownBlock≠some b
 eq:ys.map (·.l)=ls
theorem TabO.hold {w w':World} {base:Nat} {v:Value} {ys:List LabE} {ls:List Lab} (h:TabO w base v ys ls) (hg:Grew w w'):TabO w' base v ys ls:=
 ⟨h.own.grew hg,λy hy=>(h.lab y hy).hold hg,h.far,h.eq⟩
theorem TabO.lower {w:World} {b b':Nat} {v:Value} {ys:List LabE} {ls:List Lab} (h:TabO w b v ys ls) (hb:b'<=b):TabO w b' v ys ls:=by
 refine ⟨⟨h.own.1,h.own.2.1,?_⟩,h.lab,h.far,h.eq⟩;rcases h.own.2.2 with h0 | ⟨g,cap,a,h1,h2,h3⟩
 . exact .inl h0
 . exact .inr ⟨g,cap,a,h1,fx hb h2,h3⟩
theorem TabO.len {w:World} {base:Nat} {v:Value} {ys:List LabE} {ls:List Lab} (h:TabO w base v ys ls):ys.length=ls.length:=by rw [<-h.eq,fm]
theorem TabO.form {w:World} {base:Nat} {v:Value} {ys:List LabE} {ls:List Lab} (h:TabO w base v ys ls):
 ∃A c,v=.slice A ls.length c/\∀(nm:ByteArray) (t:Int),nm.size<=9223372036854775807->-9223372036854775808<=t->t<=9223372036854775807->TabAt w A c ys ⟨nm,t,ls⟩:=by
 obtain ⟨A,c,hv,h1,h2,h3⟩:=h.own.listAt;rw [fm] at hv h1;rw [h.len] at hv;exact ⟨A,c,hv,λnm t hn ht0 ht1=>⟨h.lab,h3,h1,h2,h.eq,ht0,ht1,hn⟩⟩
theorem LabAt.turned {S:Nat->Prop} {w w':World} {A:Option Addr} {c:Nat} {l:Lab} (h:LabAt w A c l) (ht:Turned S w w') (hS:0<l.ext.length->∀b off,A=some ⟨b,off,none⟩->¬S b):LabAt w' A c l:=
 ⟨h.id0,h.id1,h.unit0,h.unit1,h.name,h.note,⟨h.runs.1,λh0=>by
  obtain ⟨b,off,e,hb,hc⟩:=h.runs.2 h0
  exact ⟨b,off,e,fw hb ht.size,λj cs hj i v hi=>by rw [ht.cellEq _ _ hb (hS (by simpa using h0) b off e)];exact hc j cs hj i v hi⟩⟩,h.len,h.cap⟩
theorem TabO.set_ {w w':World} {base g n cap:Nat} {ys:List LabE} {ls:List Lab} (h:TabO w base (.slice (some ⟨g,0,none⟩) n cap) ys ls) (i:Nat) (y:LabE) (hi:i<ls.length)
 (a:OwnL w' base 100 5 (.slice (some ⟨g,0,none⟩) n cap) ((ys.map DN).set i (DN y))) (ht:Turned (λk=>k=g) w w') (hy:LabAt w' y.A y.c y.l) (hf:0<y.l.ext.length->∀b off,y.A=some ⟨b,off,none⟩->b≠g):
 TabO w' base (.slice (some ⟨g,0,none⟩) n cap) (ys.set i y) (ls.set i y.l):=by
 have d:(ys.set i y).map DN=(ys.map DN).set i (DN y):=by rw [List.map_set]
 refine ⟨by rw [d];exact a,λz hz=>?_,λz hz hz0 b off e=>?_,by rw [List.map_set,h.eq]⟩
 . rcases gY hz with hz | rfl
   . exact (h.lab z hz).turned ht (λh0 b off e hk=>h.far z hz h0 b off e (by rw [hk];rfl))
   . exact hy
 . rcases gY hz with hz | rfl
   . exact h.far z hz hz0 b off e
   . intro e2;exact hf hz0 b off e (by simpa [Value.ownBlock] using e2.symm)
theorem TabO.turned {S:Nat->Prop} {w w':World} {base:Nat} {v:Value} {ys:List LabE} {ls:List Lab} (h:TabO w base v ys ls) (ht:Turned S w w') (h1:∀g,v.ownBlock=some g->¬S g) (h2:∀y∈ys,0<y.l.ext.length->∀b off,y.A=some ⟨b,off,none⟩->¬S b):TabO w' base v ys ls:=
 ⟨h.own.kept ht h1,λy hy=>(h.lab y hy).turned ht (h2 y hy),h.far,h.eq⟩
theorem Qg {w:World} {base e sz g:Nat} {v:Value} {rows:List (List Value)} (h:OwnL w base e sz v rows) (hg:g<base) {A:Option Addr} {n c:Nat} (hv:v=.slice A n c):∀b off,A=some ⟨b,off,none⟩->b≠g:=by
 intro b off e;subst hv;subst e;rcases h.form with ⟨h0,_⟩ | ⟨g',cap,h1,h2,_⟩
 . cases h0
 . injection h1 with h1;injection h1 with h1;injection h1 with h1;omega
theorem Fu {w:World} {base:Nat} {v:Value} {l:List (Int × Int)} (h:OwnL w base 136 2 v (l.map FW)) (a:∀r∈l,GN r):∃A c,v=.slice A l.length c/\l.length<=c/\c<=9223372036854775807/\RunsAt w w.heap.size A l:=by
 obtain ⟨A,c,hv,h1,h2,h3⟩:=h.listAt;rw [fm] at hv h1;exact ⟨A,c,hv,h1,h2,a,h3⟩
theorem Oh (A:Option Addr) (c:Nat) (xs:List LabE) (T:Tab) (w:World) (h:TabAt w A c xs T) (hs:SmallT T) (n:Nat) (hn:n=T.labels.length):
 Calls Tryz.prog 139 #[.agg #[.string T.name,.int .i64 T.tracks,.slice A n c]] w λe w'=>∃v ys,e=.returned (.agg #[.string T.name,.int .i64 T.tracks,v])/\TabO w' w.heap.size v ys T.labels/\Grew w w':=by
 subst hn;have b9:=hs.len;have g0:=((fh w).alloc (.cells #[.string T.name,.int .i64 T.tracks,.slice A T.labels.length c] 50)).alloc (.cells #[.string ⟨#[]⟩,.int .i64 0,.slice none 0 0] 50);have M:=(fy w 50 #[.string T.name,.int .i64 T.tracks,.slice A T.labels.length c] rfl).alloc (.cells #[.string ⟨#[]⟩,.int .i64 0,.slice none 0 0] 50);have N:=fy (w.alloc (.cells #[.string T.name,.int .i64 T.tracks,.slice A T.labels.length c] 50)) 50 #[.string ⟨#[]⟩,.int .i64 0,.slice none 0 0] (n:=w.heap.size+1) qs;have h0:=h.hold g0;have hx:=h.xlen;have HC:=zh (Mf A c T.labels.length xs _ hx.symm oo h0.rows);have HT:=zh h;have HS:=zh hs;have a5:=zh M;have a6:=zh N;have a7:=zh g0;clear h hs h0 M N g0;go_enter Tryz.func139,Tryz.ntmps139;go_wp2_with fail;refine HC.mono ?_;rintro e w1 ⟨v,rfl,K,g1⟩;obtain ⟨A1,c1,hv,_,_,_⟩:=K.listAt;rw [fm,hx] at hv;subst hv;have O:=a7.out.trans g1;have ca:w.heap.size+2<=w1.heap.size:=by have:=g1.size;simp at this;omega
 have q:OwnL w1 (w.heap.size+2) 100 5 (.slice A1 T.labels.length c1) (xs.map DN):=by have:=K;simp only [World.alloc,Array.size_push] at this;exact this
 have f:Grew w (w1.setCell ⟨w.heap.size,2,none⟩ (.slice A1 T.labels.length c1)):=O.setCell (fk _) _;have P:OwnL (w1.setCell ⟨w.heap.size,2,none⟩ (.slice A1 T.labels.length c1)) (w.heap.size+2) 100 5 (.slice A1 T.labels.length c1) (xs.map DN):=q.far (λhk=>by have:=(q.own_ge hk).1;simp at this;omega) _
 have a:TabO (w1.setCell ⟨w.heap.size,2,none⟩ (.slice A1 T.labels.length c1)) (w.heap.size+2) (.slice A1 T.labels.length c1) xs T.labels:=⟨P,λy hy=>(HT.lab y hy).hold f,λy hy h0 b off e hk=>by
  have h9:=(q.own_ge hk).1
  obtain ⟨b',b2,e',b3,_⟩:=(HT.lab y hy).runs.2 (by simpa using h0)
  rw [e] at e'
  injection e' with e'
  injection e' with e'
  omega,HT.eq⟩
 have hb:=a5.grew g1;have hc:=a6.grew g1;have hz:=hb.lt;have x2:=hb.cell 2;have f2:=hb.frozen 2;have j:=zh a
 have r:=zh (show ∀y∈xs,0<y.l.ext.length->∀b off,y.A=some ⟨b,off,none⟩->b<w.heap.size\/w.heap.size+2<=b from λy hy h0 b off e=>by
  obtain ⟨b',b2,e',b3,_⟩:=(HT.lab y hy).runs.2 (by simpa using h0)
  rw [e] at e'
  injection e' with e'
  injection e' with e'
  omega)
 have a8:=zh f;have a9:=zh (hb.set_ 2 (.slice A1 T.labels.length c1));have bb:=zh (hc.far (p:=⟨w.heap.size,2,none⟩) qs (.slice A1 T.labels.length c1));clear K q P a HC f hb hc O;go_wp2_with fail
 go_loopg [11] T.labels.length (λgk i wr=>∃(k:Nat) (ys:List LabE),k<=T.labels.length/\gk=T.labels.length - k/\i=.int .i64 k/\TabO wr (w.heap.size+2) (.slice A1 T.labels.length c1) ys T.labels/\Blk wr w.heap.size 50 #[.string T.name,.int .i64 T.tracks,.slice A1 T.labels.length c1]/\Blk wr (w.heap.size+1) 50 #[.string ⟨#[]⟩,.int .i64 0,.slice none 0 0]/\(∀y∈ys,0<y.l.ext.length->∀b off,y.A=some ⟨b,off,none⟩->b<w.heap.size\/w.heap.size+2<=b)/\Grew w wr)
 case atStart=>exact ⟨0,xs,oo,oo,rfl,j,a9,bb,r,a8⟩
 case round=>
  obtain ⟨k,ys,hk,an,rfl,a,hb,hc,av,hg⟩:=hrel;have r:=zh av;clear av;have bc:=zh an;clear an;have C:=a.len;have Q:=hb.lt;have bd:=hc.lt;have x2:=hb.cell 2;by_cases J:k<T.labels.length
  . obtain ⟨g,cap,hv,ci,L⟩:∃g cap,Value.slice A1 T.labels.length c1=.slice (some ⟨g,0,none⟩) T.labels.length cap/\w.heap.size+2<=g/\g<wr.heap.size:=by
     rcases a.own.form with ⟨_,h0⟩ | ⟨g,cap,hv,h1,h2,_⟩
     . have:=gJ length h0;rw [fm,C,length_nil] at this;omega
     . rw [fm,C] at hv;exact ⟨g,cap,hv,h1,h2⟩
    injection hv with hv1 _ hv2;subst hv1;subst hv2;have D:k<ys.length:=oo;have s:(ys.map DN)[k]? =some (DN ys[k]):=by rw [fo,fg D];rfl
    have E:=a.lab ys[k] (fq D)
    have t:T.labels[k]=ys[k].l:=by
     have:(ys.map (·.l))[k]? =some ys[k].l:=by rw [fo,fg D];rfl
     rw [a.eq,fg J] at this;exact Option.some.inj this
    have bf:=HS.ext T.labels[k] (fq J);obtain ⟨B,d,l,hy⟩:∃B d l,ys[k]=⟨B,d,l⟩:=⟨_,_,_,rfl⟩;rw [hy] at s E t;rw [t] at bf;have x4:wr.cell? ⟨g,k*5+4,none⟩=some (.slice B l.ext.length d):=a.own.cell s (i:=4) rfl;have f4:=a.own.frozen (k*5+4);have j:=zh a;have HB:=zh hb;have HC:=zh hc;have HG:=zh hg;have F:=zh E;have R:=zh s;have bk:=zh t
    have U:∀w1 w2:World,Grew w1 w2->(w1.cell? ⟨w.heap.size,2,none⟩=some (.slice (some ⟨g,0,none⟩) T.labels.length c1)/\w1.cell? ⟨g,k*5+4,none⟩=some (.slice B l.ext.length d)/\w.heap.size<w1.heap.size/\g<w1.heap.size)->(w2.cell? ⟨w.heap.size,2,none⟩=some (.slice (some ⟨g,0,none⟩) T.labels.length c1)/\w2.cell? ⟨g,k*5+4,none⟩=some (.slice B l.ext.length d)/\w.heap.size<w2.heap.size/\g<w2.heap.size):=λw1 w2 h9 ⟨a1,a2,a3,a4⟩=>by
     rw [h9.cellEq _ _ a3,h9.cellEq _ _ a4];exact ⟨a1,a2,fw a3 h9.size,fw a4 h9.size⟩
    have bl:=zh U;clear a hb hc hg E s t hy C U;go_wp2_with fail;refine AB [12] (λw':World=>w'.cell? ⟨w.heap.size,2,none⟩=some (.slice (some ⟨g,0,none⟩) T.labels.length c1)/\w'.cell? ⟨g,k*5+4,none⟩=some (.slice B l.ext.length d)/\w.heap.size<w'.heap.size/\g<w'.heap.size) qk ?_;have hS:(λw':World=>w'.cell? ⟨w.heap.size,2,none⟩=some (.slice (some ⟨g,0,none⟩) T.labels.length c1)/\w'.cell? ⟨g,k*5+4,none⟩=some (.slice B l.ext.length d)/\w.heap.size<w'.heap.size/\g<w'.heap.size) wr.drew:=⟨x2,x4,Q,L⟩;refine tQ 0 14 ?_;refine tT 1 (some 15) hS ?_;refine tQ 2 16 ?_;refine tQ 3 17 ?_;refine tT 4 (some 18) hS ?_;refine tQ 5 19 ?_;refine tQ 6 20 ?_;refine tQ 7 21 ?_;refine tT 8 (some 22) hS ?_;refine tO 9 λK' hK=>?_;go_wp2_with fail;refine (Hj B d l.ext.length l.ext _ rfl oo (F.hold ((fh wr).drew)).runs.2).mono ?_;rintro e w4 ⟨v4,rfl,z,g4⟩;obtain ⟨A4,c4,b4,b5,b6,a0⟩:=Fu z F.runs.1;subst b4;have m:Grew wr w4:=(fh wr).drew.trans g4;have V:=Qg z (show g<wr.drew.heap.size from L) rfl;have W:=zh V;have bn:=zh (show ∀b off,A4=some ⟨b,off,none⟩->wr.drew.heap.size<=b from λb off e=>(z.own_ge (by rw [e];rfl)).1);have bo:=zh a0;clear a0 z V;go_wp2_with fail;refine hK.out _ _ (.inr (bl _ _ g4)) ?_;clear hK hS x2 x4 f4;have cb:w.heap.size<w4.heap.size:=fw Q m.size;have cc:g<w4.heap.size:=fw L m.size;have u:=j.hold m;have x4:w4.cell? ⟨g,k*5+4,none⟩=some (.slice B l.ext.length d):=u.own.cell R (i:=4) rfl;have f4:=u.own.frozen (k*5+4);have X:=zh u;have G:=zh m;clear u m g4;refine tQ 10 24 ?_;refine tQ 11 25 ?_;refine tO 12 λK' hK=>?_;go_wp2_with fail;refine hK.out _ _ (.inl rfl) ?_;refine AA qk ?_ _;have Y:=(HB.grew G).far (p:=⟨g,k*5+4,none⟩) (by simp;omega) (.slice A4 l.ext.length c4);have Z:=(HC.grew G).far (p:=⟨g,k*5+4,none⟩) (by simp;omega) (.slice A4 l.ext.length c4);have aa:=(HG.out.trans G).setCell (p:=⟨g,k*5+4,none⟩) (by simp;omega) (.slice A4 l.ext.length c4);have ad:=R.out;have ae:=X.own.set_ ad (i:=4) (o:=k*5+4) qd rfl (.slice A4 l.ext.length c4);have H:Turned (λx=>x=g) w4 (w4.setCell ⟨g,k*5+4,none⟩ (.slice A4 l.ext.length c4)):=(gW (λx=>x=g) w4).setCell (p:=⟨g,k*5+4,none⟩) (λ_=>rfl) _
    have aj:LabAt (w4.setCell ⟨g,k*5+4,none⟩ (.slice A4 l.ext.length c4)) A4 c4 l:=by
     have hl:=F.out;have:LabAt w4 A4 c4 l:=⟨hl.id0,hl.id1,hl.unit0,hl.unit1,hl.name,hl.note,bo,b5,b6⟩;exact this.turned H (λ_ b off e hk=>W b off e hk)
    have I:=X.set_ k ⟨A4,c4,l⟩ J (by simpa [DN] using ae) H aj (λ_ b off e=>W b off e);have al:T.labels.set k l=T.labels:=by rw [<-bk.out];exact List.set_getElem_self ..
    rw [al] at I;have br:=zh I;have bs:=zh Y;have bt:=zh Z;have bv:=zh aa
    have bw:=zh (show ∀y∈ys.set k (⟨A4,c4,l⟩:LabE),0<y.l.ext.length->∀b off,y.A=some ⟨b,off,none⟩->b<w.heap.size\/w.heap.size+2<=b from λy hy h0 b off e=>by
     rcases gY hy with hy | rfl
     . exact r.out y hy h0 b off e
     . exact .inr (fx (show w.heap.size+2<=wr.drew.heap.size from bd) (bn.out b off e)))
    clear Y Z aa ad ae H aj I al x4 f4;go_wp2_with fail
    go_roundg (T.labels.length - (k+1))
    case measure=>rw [bc.out];omega
    case rel=>exact ⟨k+1,_,oo,oo,by go_num,br,bs,bt,bw,bv⟩
  . have b0:=hb.cell 0;have b1:=hb.cell 1;have j:=zh a;have HG:=zh hg;have y0:=hc.cell 0;have y1:=hc.cell 1;have y2:=hc.cell 2;have ce:=hc.frozen 0;have cf:=hc.frozen 1;have ch:=hc.frozen 2;have bx:=zh (show ∀g,(Value.slice A1 T.labels.length c1).ownBlock=some g->¬g=w.heap.size+1 from λg f=>by have:=(a.own.own_ge f).1;omega);clear a hg hb hc;go_wp2_with fail;refine f7 (by first | (simp [*,results,Tryz.results139,go_sem];rfl) | simp [*,results,Tryz.results139,go_sem]) rfl ?_;exact ⟨_,_,rfl,(j.turned (S:=λk=>k=w.heap.size+1) (gT) bx (λy hy h0 b off e hk=>by have:=r.out y hy h0 b off e;omega)).lower oo,by have hg:=HG.out;exact gG⟩

end
section
attribute [local go_sem ↓] Go.wp_at_zero Go.wp_at_succ
open Go.Maps (Keyed)
open Go.RowKit
def IP (p:Int × Bool):Value:=.agg #[.int .i64 p.1,.bool p.2]
theorem SP (a b:Int × Bool) (h:IP a=IP b):a=b:=by
 unfold IP at h;injection h with h;injection h with h;injection h with h1 h2;injection h2 with h2 _;injection h1 with _ h1;injection h2 with h2;exact Prod.ext h1 h2
theorem PF:∃m,Tryz.prog.types.size=m+1:=⟨Tryz.prog.types.size - 1,qk⟩
theorem Mp:Keyed Tryz.prog 212:=Keyed.of_law (deep_law_laid qk (m:=2) oo (gV qk) qk qk)
theorem QJ:Tryz.prog.keyType 212=true:=qk
theorem Nv:Tryz.prog.cellsOf 212=2:=qk
theorem O2:Tryz.prog.cellsOf 3=1:=qk
theorem Uj:Tryz.prog.cellsOf 4=1:=qk
theorem Zm (p:Int × Bool) (h1:-9223372036854775808<=p.1) (h2:p.1<=9223372036854775807):∃x,keyOf Tryz.prog 212 (IP p)=some x:=by
 obtain ⟨a,b⟩:=p;have wa:(Lit.int .i64 a).wf=true:=WalkArith.wf_i64 ⟨h1,h2⟩;have wb:(Lit.bool b).wf=true:=rfl;obtain ⟨m,hm⟩:=PF;refine ⟨.string (keyBytes [.int .i64 a,.bool b]),?_⟩;unfold keyOf IP;simp only [Tryz.underlying212];rw [if_pos (by simp [QJ,Value.formed,Tryz.underlying212,Nv]),hm];unfold Program.keyLits;simp only [Tryz.underlying212,Value.cells];rw [if_pos (by rw [Nv];exact ⟨rfl,qk⟩)];simp [Program.keyLits,Tryz.underlying3,Tryz.underlying4,O2,Uj,wa,wb]
theorem V5 (w:World):(zeroValue 4).run Tryz.prog w=.ok (.bool false) w:=qk
def JR (ks:List (Int × Bool)) (a:Int × Bool):Option Value:=if a∈ks then some (.bool true) else none
theorem U9 (ks:List (Int × Bool)) (a x:Int × Bool):upd (JR ks) a (some (.bool true)) x=JR (ks++[a]) x:=by
 unfold JR;by_cases h:x=a
 . subst h;rw [DI];simp
 . rw [DK _ _ h];simp [h]
theorem MH {w:World} {base e sz m:Nat} {v:Value} {rows:List (List Value)} {F:Int × Bool->Option Value} (h:OwnL w base e sz v rows) (hm:MapIs Tryz.prog 212 IP w m F):v.ownBlock≠some m:=by
 rcases h.2.2 with ⟨rfl,_⟩ | ⟨g',cap,b,rfl,_,hh,_⟩
 . simp [Value.ownBlock]
 . intro he;have:g'=m:=by simpa [Value.ownBlock] using he
   subst this;obtain ⟨es,a,l,hb,_⟩:=hm;rw [hh] at hb;cases hb
theorem R6 {w:World} {g m:Nat} {t:TypeId} {cs:Array Value} {F:Int × Bool->Option Value} (h:Blk w g t cs) (hm:MapIs Tryz.prog 212 IP w m F):¬g=m:=by
 rintro rfl;obtain ⟨es,a,l,hb,_⟩:=hm;unfold Blk at h;rw [h] at hb;cases hb
theorem L2 (l:List (Int × Int)):∀r∈l.map FW,r.length=2:=by
 intro r hr;obtain ⟨x,_,rfl⟩:=ft.1 hr;rfl
theorem Lu (l:List (Int × Int)):∀r∈l.map FW,r.all (·.oneCell')=true:=by
 intro r hr;obtain ⟨x,_,rfl⟩:=ft.1 hr;rfl
theorem Eo (A:Option Addr) (c:Nat) (xs:List LabE) (T:Tab) (w:World) (h:TabAt w A c xs T) (hs:SmallT T) (n:Nat) (hn:n=T.labels.length):
 Calls Tryz.prog 57 #[.agg #[.string T.name,.int .i64 T.tracks,.slice A n c]] w λe w'=>e=.returned (.bool (A0 T))/\Grew w w':=by
 subst hn;have U:=h.name;have cx:=hs.len;have V:=zh ((fh w).alloc (.cells #[.string T.name,.int .i64 T.tracks,.slice A T.labels.length c] 50));have f:=zh (fy w 50 #[.string T.name,.int .i64 T.tracks,.slice A T.labels.length c] rfl);have a4:=zh h;have HS:=zh hs;clear h hs;by_cases hz:okT T.tracks=true;rotate_left
 . have a5:okT T.tracks=false:=by simpa using hz
   have HE:=zh (ET T (by unfold Kv;rw [a5];rfl));have F:=zh (show ttS T.tracks=0 from by unfold ttS;rw [if_neg hz]);clear hz a5;go_enter Tryz.func57,Tryz.ntmps57;go_wp2_with fail;refine AB [] (λw':World=>w'.cell? ⟨w.heap.size,0,none⟩=some (.string T.name)/\w'.cell? ⟨w.heap.size,1,none⟩=some (.int .i64 T.tracks)/\w'.cell? ⟨w.heap.size,2,none⟩=some (.slice A T.labels.length c)) qk ?_;have hS:(λw':World=>w'.cell? ⟨w.heap.size,0,none⟩=some (.string T.name)/\w'.cell? ⟨w.heap.size,1,none⟩=some (.int .i64 T.tracks)/\w'.cell? ⟨w.heap.size,2,none⟩=some (.slice A T.labels.length c)) (w.alloc (.cells #[.string T.name,.int .i64 T.tracks,.slice A T.labels.length c] 50)).drew:=⟨f.drew.cell 0,f.drew.cell 1,f.drew.cell 2⟩;refine tQ 0 8 ?_;refine tT 1 (some 9) hS ?_;refine tO 2 λK' hK=>?_;go_wp2_with fail;refine (B6 _ _).mono ?_;rintro e w1 ⟨rfl,rfl⟩;rw [F.out];go_wp2_with fail;refine hK.out _ _ (.inr (λh=>h)) ?_;clear hK;refine tQ 3 11 ?_;refine tQ 4 12 ?_;refine tU 5 (some 13) ?_;refine tU 6 (some 14) ?_;refine tU 7 (some 15) ?_;refine tU 8 (some 16) ?_;refine tQ 9 17 ?_;refine tQ 10 18 ?_;refine tU 11 (some 19) ?_;refine tU 12 (some 20) ?_;refine tU 13 (some 21) ?_;refine tU 14 (some 22) ?_;refine tU 15 (some 23) ?_;refine tU 16 (some 24) ?_;refine tU 17 (some 25) ?_;refine tQ 18 26 ?_;refine AA qk ?_ _;go_wp2_with fail;go_ret;exact ⟨AE (by rw [HE.out]),V.drew⟩
 obtain ⟨tt,a3⟩:∃tt,ttS T.tracks=tt:=⟨_,rfl⟩;have F:=zh a3
 have HZ:=zh (show (tt==0)=false from by
  rw [gF,<-a3]
  unfold ttS
  have:=B0 hz
  rw [if_pos hz]
  omega)
 have bx:=zh hz;clear hz a3;cases hn:Cj T.name with
 | false=>
   have HN:=zh hn;have HE:=zh (ET T (by unfold Kv;rw [hn];simp));clear hn;go_enter Tryz.func57,Tryz.ntmps57;go_wp2_with fail;refine AB [] (λw':World=>w'.cell? ⟨w.heap.size,0,none⟩=some (.string T.name)/\w'.cell? ⟨w.heap.size,1,none⟩=some (.int .i64 T.tracks)/\w'.cell? ⟨w.heap.size,2,none⟩=some (.slice A T.labels.length c)) qk ?_;have hS:(λw':World=>w'.cell? ⟨w.heap.size,0,none⟩=some (.string T.name)/\w'.cell? ⟨w.heap.size,1,none⟩=some (.int .i64 T.tracks)/\w'.cell? ⟨w.heap.size,2,none⟩=some (.slice A T.labels.length c)) (w.alloc (.cells #[.string T.name,.int .i64 T.tracks,.slice A T.labels.length c] 50)).drew:=⟨f.drew.cell 0,f.drew.cell 1,f.drew.cell 2⟩;refine tQ 0 8 ?_;refine tT 1 (some 9) hS ?_;refine tO 2 λK' hK=>?_;go_wp2_with fail;refine (B6 _ _).mono ?_;rintro e w1 ⟨rfl,rfl⟩;rw [F.out];go_wp2_with fail;refine hK.out _ _ (.inr (λh=>h)) ?_;clear hK;refine tQ 3 11 ?_;refine tQ 4 12 ?_;rw [HZ.out];refine tQ 5 13 ?_;refine tT 6 (some 14) hS ?_;refine tO 7 λK' hK=>?_;go_wp2_with fail;refine (CX _ _ U).mono ?_;rintro e w1 ⟨rfl,rfl⟩;rw [HN.out];go_wp2_with fail;refine hK.out _ _ (.inr (λh=>h)) ?_;clear hK;refine tQ 8 16 ?_;refine tQ 9 17 ?_;refine tQ 10 18 ?_;refine tU 11 (some 19) ?_;refine tU 12 (some 20) ?_;refine tU 13 (some 21) ?_;refine tU 14 (some 22) ?_;refine tU 15 (some 23) ?_;refine tU 16 (some 24) ?_;refine tU 17 (some 25) ?_;refine tQ 18 26 ?_;refine AA qk ?_ _;go_wp2_with fail;go_ret;exact ⟨AE (by rw [HE.out]),V.drew⟩
 | true=>
   have HN:=zh hn;clear hn;obtain ⟨sl,E⟩:∃sl,CT T.tracks=sl:=⟨_,rfl⟩;have a6:=zh E;by_cases hl:(T.labels.length:Int)=sl;rotate_left
   . have HL:=zh (show ((T.labels.length:Int) != sl)=true from by rw [gu];exact hl);have HE:=zh (ET T (by unfold Kv;rw [E,gE hl];simp));clear hl E;go_enter Tryz.func57,Tryz.ntmps57;go_wp2_with fail;refine AB [] (λw':World=>w'.cell? ⟨w.heap.size,0,none⟩=some (.string T.name)/\w'.cell? ⟨w.heap.size,1,none⟩=some (.int .i64 T.tracks)/\w'.cell? ⟨w.heap.size,2,none⟩=some (.slice A T.labels.length c)) qk ?_;have hS:(λw':World=>w'.cell? ⟨w.heap.size,0,none⟩=some (.string T.name)/\w'.cell? ⟨w.heap.size,1,none⟩=some (.int .i64 T.tracks)/\w'.cell? ⟨w.heap.size,2,none⟩=some (.slice A T.labels.length c)) (w.alloc (.cells #[.string T.name,.int .i64 T.tracks,.slice A T.labels.length c] 50)).drew:=⟨f.drew.cell 0,f.drew.cell 1,f.drew.cell 2⟩;refine tQ 0 8 ?_;refine tT 1 (some 9) hS ?_;refine tO 2 λK' hK=>?_;go_wp2_with fail;refine (B6 _ _).mono ?_;rintro e w1 ⟨rfl,rfl⟩;rw [F.out];go_wp2_with fail;refine hK.out _ _ (.inr (λh=>h)) ?_;clear hK;refine tQ 3 11 ?_;refine tQ 4 12 ?_;rw [HZ.out];refine tQ 5 13 ?_;refine tT 6 (some 14) hS ?_;refine tO 7 λK' hK=>?_;go_wp2_with fail;refine (CX _ _ U).mono ?_;rintro e w1 ⟨rfl,rfl⟩;rw [HN.out];go_wp2_with fail;refine hK.out _ _ (.inr (λh=>h)) ?_;clear hK;refine tQ 8 16 ?_;refine tQ 9 17 ?_;refine tQ 10 18 ?_;refine tQ 11 19 ?_;refine tT 12 (some 20) hS ?_;refine tT 13 (some 21) hS ?_;refine tQ 14 22 ?_;refine tT 15 (some 23) hS ?_;refine tO 16 λK' hK=>?_;go_wp2_with fail;refine (LA _ _).mono ?_;rintro e w1 ⟨rfl,rfl⟩;rw [a6.out];go_wp2_with fail;refine hK.out _ _ (.inr (λh=>h)) ?_;clear hK;refine tQ 17 25 ?_;rw [HL.out];refine tQ 18 26 ?_;refine AA qk ?_ _;go_wp2_with fail;go_ret;exact ⟨AE (by rw [HE.out]),V.drew⟩
   have HL:=zh (show ((T.labels.length:Int) != sl)=false from by rw [jZ];exact hl)
   have cy:T.labels.length<=31:=by
    have h1:=DQ T.tracks;unfold CT at E;omega
   have b0:=zh (show Kv T=true from by unfold Kv;rw [bx.out,HN.out,E,gD hl];rfl);clear hl E;go_enter Tryz.func57,Tryz.ntmps57;go_wp2_with fail;refine AB [] (λw':World=>w'.cell? ⟨w.heap.size,0,none⟩=some (.string T.name)/\w'.cell? ⟨w.heap.size,1,none⟩=some (.int .i64 T.tracks)/\w'.cell? ⟨w.heap.size,2,none⟩=some (.slice A T.labels.length c)) qk ?_;have hS:(λw':World=>w'.cell? ⟨w.heap.size,0,none⟩=some (.string T.name)/\w'.cell? ⟨w.heap.size,1,none⟩=some (.int .i64 T.tracks)/\w'.cell? ⟨w.heap.size,2,none⟩=some (.slice A T.labels.length c)) (w.alloc (.cells #[.string T.name,.int .i64 T.tracks,.slice A T.labels.length c] 50)).drew:=⟨f.drew.cell 0,f.drew.cell 1,f.drew.cell 2⟩;refine tQ 0 8 ?_;refine tT 1 (some 9) hS ?_;refine tO 2 λK' hK=>?_;go_wp2_with fail;refine (B6 _ _).mono ?_;rintro e w1 ⟨rfl,rfl⟩;rw [F.out];go_wp2_with fail;refine hK.out _ _ (.inr (λh=>h)) ?_;clear hK;refine tQ 3 11 ?_;refine tQ 4 12 ?_;rw [HZ.out];refine tQ 5 13 ?_;refine tT 6 (some 14) hS ?_;refine tO 7 λK' hK=>?_;go_wp2_with fail;refine (CX _ _ U).mono ?_;rintro e w1 ⟨rfl,rfl⟩;rw [HN.out];go_wp2_with fail;refine hK.out _ _ (.inr (λh=>h)) ?_;clear hK;refine tQ 8 16 ?_;refine tQ 9 17 ?_;refine tQ 10 18 ?_;refine tQ 11 19 ?_;refine tT 12 (some 20) hS ?_;refine tT 13 (some 21) hS ?_;refine tQ 14 22 ?_;refine tT 15 (some 23) hS ?_;refine tO 16 λK' hK=>?_;go_wp2_with fail;refine (LA _ _).mono ?_;rintro e w1 ⟨rfl,rfl⟩;rw [a6.out];go_wp2_with fail;refine hK.out _ _ (.inr (λh=>h)) ?_;clear hK;refine tQ 17 25 ?_;rw [HL.out];refine tQ 18 26 ?_;refine AA qk ?_ _;have b1:=zh (show MapIs Tryz.prog 212 IP ((w.alloc (.cells #[.string T.name,.int .i64 T.tracks,.slice A T.labels.length c] 50)).drew.alloc (.map #[] 0)) (w.heap.size+1) (JR []) from (MapIs.made _ qs).congr (λa=>by simp [JR]));have a7:=f.drew.alloc (.map #[] 0);have x2:=a7.cell 2;have cz:=@run_makeMap Tryz.prog;go_wp2_with fail
   go_loopg [3,31] T.labels.length (λgk ov i wr=>∃k:Nat,k<=T.labels.length/\gk=T.labels.length - k/\i=.int .i64 k/\OwnL wr w.heap.size 136 2 ov ((Bo (T.labels.take k)).map FW)/\MapIs Tryz.prog 212 IP wr (w.heap.size+1) (JR (Bz (T.labels.take k)))/\Blk wr w.heap.size 50 #[.string T.name,.int .i64 T.tracks,.slice A T.labels.length c]/\(∀j (hj:j<T.labels.length),j<k->okL T.tracks T.labels[j]=true)/\(Bz (T.labels.take k)).Nodup/\(Bo (T.labels.take k)).length<=16*k/\Grew w wr)
   case atStart=>exact ⟨0,oo,oo,rfl,OwnL.nil _ _ _ _,b1,a7,λj _ h=>oo,by simp [Bz],by simp [Bo],gG⟩
   case round=>
    obtain ⟨k,hk,p,rfl,K,hm,hb,bv,R,cu,hg⟩:=hrel;have a8:=zh p;have HA:=zh bv;have W:=zh R;have a9:=zh K;have HM:=zh hm;have HB:=zh hb;have HG:=zh hg;have c5:=hb.lt;have c6:=hm.lt;clear p bv R x2;by_cases J:k<T.labels.length
    . obtain ⟨b,dd,B,d,l,rfl,df,cv,hv,L,c0,c1,c2,c3,c4⟩:=(a4.hold hg).at_ J;have bb:=HS.ext T.labels[k] (fq J);rw [hv] at bb;have X:=Tt T.labels k J;have Y:=Mk T.labels k J;rw [hv] at X Y;have Z:Grew wr (wr.alloc (.cells #[.int .i64 l.id,.int .i64 l.unit,.string l.name,.string l.note,.slice B l.ext.length d] 100)):=(fh wr).alloc _;have HE:=zh (K1 B d l _ (L.hold Z) bb);have HV:=zh hv;have bc:=zh L;have aa:=zh X;have M:=zh Y;have bd:=zh (fy wr 100 #[.int .i64 l.id,.int .i64 l.unit,.string l.name,.string l.note,.slice B l.ext.length d] rfl);have b2:=zh Z;have b3:=L.id0;have b4:=L.id1;clear hv cv L X Y Z K hm hb hg;go_wp2_with fail;refine HE.mono ?_;rintro e w3 ⟨rfl,g3⟩;have t:=b2.out.trans g3;cases z:emL l with
      | true=>
        have ad:=zh (show okL T.tracks l=true from by unfold okL;rw [z];rfl);have HX:=zh (di l z);have G:=zh z;have N:=zh t;clear z g3 t c0 c1 c2 c3 c4;go_wp2_with fail
        go_roundg (T.labels.length - (k+1))
        case measure=>rw [a8.out];omega
        case rel=>
         refine ⟨k+1,oo,oo,by go_num,?_,?_,HB.grew N,?_,?_,?_,HG.out.trans N⟩
         . rw [M.out,HX.out,append_nil];exact a9.grew N
         . rw [aa.out,if_pos G.out,append_nil];exact HM.grew N
         . intro j hj cq;by_cases a1:j=k
           . subst a1;rw [HV.out];exact ad.out
           . exact HA.out j hj oo
         . rw [aa.out,if_pos G.out,append_nil];exact W.out
         . rw [M.out,HX.out,append_nil];omega
      | false=>
        have G:=zh z;have m:=bd.grew g3;have ae:=HB.grew t;have x0:=m.cell 0;have x1:=m.cell 1;have x2:=m.cell 2;have x3:=m.cell 3;have x4:=m.cell 4;have y1:=ae.cell 1;have c7:=m.lt;have c8:=ae.lt;obtain ⟨q,hq⟩:∃q,decide (l.unit>0)=q:=⟨_,rfl⟩;have p:Grew w3 (w3.alloc (.cells #[.int .i64 l.id,.bool q] 212)):=(fh w3).alloc _;have b5:=zh (LC B d l T.tracks _ (((bc.hold t)).hold p) oo);have b6:=zh (fy w3 212 #[.int .i64 l.id,.bool q] rfl);have b9:=zh (show GR l=(l.id,q) from by unfold GR;rw [<-hq]);have ca:=zh (t.trans p);have cb:=zh p;have cc:=zh m;clear z g3 t c0 c1 c2 c3 c4 p m ae bd;go_wp2_with fail;refine b5.mono ?_;rintro e w5 ⟨rfl,g5⟩;have u:=ca.out.trans g5;have r:=b6.grew g5;have v:=(cc.grew cb).grew g5;have z0:=r.cell 0;have z1:=r.cell 1;have z4:=v.cell 4;have c9:=r.lt;have da:=v.lt;cases C:BO l T.tracks with
        | false=>
          have HF:=zh (LW T k J (by rw [HV.out];unfold okL;rw [G.out,C];rfl));have o:=zh u;clear C u r v g5;go_wp2_with fail;go_ret;exact ⟨AE (by rw [HF.out]),HG.out.trans o⟩
        | true=>
          obtain ⟨dk,_,ds,d0⟩:=JZ l T.tracks C;have ad:=zh (show okL T.tracks l=true from by unfold okL;rw [C];simp);have aj:=zh (show Bz (T.labels.take (k+1))=Bz (T.labels.take k)++[(l.id,q)] from by rw [aa.out,if_neg (by rw [G.out];simp),b9.out]);obtain ⟨kl,S⟩:=Zm (l.id,q) b3 b4;have H:=(HM.grew u).lookup_val Mp SP Tryz.underlying210 (V5 _) (l.id,q) S;have o:=zh u;have ce:=zh r;have cf:=zh v;have ch:=zh S;by_cases y:(l.id,q)∈Bz (T.labels.take k)
          . have HF:=zh (La T (λR=>by
             have h1:=Kz T.labels (k+1) R
             rw [aj.out] at h1
             exact (iZ.1 h1).2.2 _ y _ (fp.2 rfl) rfl))
            have I:(JR (Bz (T.labels.take k)) (l.id,q)).getD (.bool false)=.bool true:=by unfold JR;rw [if_pos y];rfl
            rw [I] at H;unfold IP at H;clear C u r v g5 S y I;go_wp2_with fail;go_ret;exact ⟨AE (by rw [HF.out]),HG.out.trans o⟩
          . have I:(JR (Bz (T.labels.take k)) (l.id,q)).getD (.bool false)=.bool false:=by unfold JR;rw [if_neg y];rfl
            rw [I] at H;unfold IP at H
            have ci:=zh (show (Bz (T.labels.take (k+1))).Nodup from by
             rw [aj.out,iZ]
             exact ⟨W,qs,λa ha b hb he=>y (by rw [fp.1 hb] at he;rw [<-he];exact ha)⟩)
            clear C u r v g5 S y I;go_wp2_with fail;refine AB [6] (λw':World=>w'.cell? ⟨w3.heap.size,0,none⟩=some (.int .i64 l.id)/\w'.cell? ⟨w3.heap.size,1,none⟩=some (.bool q)/\w'.cell? ⟨wr.heap.size,4,none⟩=some (.slice B l.ext.length d)) qk ?_;have hS:(λw':World=>w'.cell? ⟨w3.heap.size,0,none⟩=some (.int .i64 l.id)/\w'.cell? ⟨w3.heap.size,1,none⟩=some (.bool q)/\w'.cell? ⟨wr.heap.size,4,none⟩=some (.slice B l.ext.length d)) w5.drew:=⟨z0,z1,z4⟩;refine tQ 0 53 ?_;refine tT 1 (some 54) hS ?_;refine tQ 2 55 ?_;refine tQ 3 56 ?_;refine tT 4 (some 57) hS ?_;refine tO 5 λK' hK=>?_;have al:=ce.out;have an:=cf.out;have O:=HB.grew o;have s:=a9.grew o;have P:=HM.grew o;have n1:=s.ne_blk al qd;have n2:=s.ne_blk an qd;have n3:=s.ne_blk O qd;have n4:=MH s P;have bf:=s.row_ge;have bk:=(bc.hold o).runs.2;have bl:=R6 O P;have bn:=zh (HG.out.trans o);refine J3 (.tmp 55) (.tmp 57) 33 rfl w.heap.size 136 2 16 _ Tryz.underlying33 DG rfl qd _ _ (l.ext.map FW) rfl s.drew B l.ext.length d rfl (by rw [fm]) (L2 _) bk (Lu _) (by rw [fm];omega) (by rw [fm];omega) bn.size ?_;intro v6 w6 a2 D cs;have av:=al.drew.own D n1;have bo:=an.drew.own D n2;have br:=O.drew.own D n3;have a0:=P.drew.grown D n4;have bs:Grew w w6:=bn.drew.own D bf (fk _);refine hK.out _ _ (.inr (λ_=>⟨av.cell 0,av.cell 1,bo.cell 4⟩)) ?_;clear hK;refine tO 6 λK' hK=>?_;refine D7 (.tmp 53) (.tmp 54) (.const (.bool true)) 210 rfl 4 Mp SP Tryz.underlying210 rfl a0 (l.id,q) ch (.bool true) rfl rfl ?_;intro w7 bt Q;refine hK.out _ _ (.inl rfl) ?_;refine tQ 7 3 ?_;refine AA qk ?_ _;have cj:=zh (a2.kept Q (λg hg2 e=>MH a2 a0 (by rw [hg2,e])));have cl:=zh (br.turned Q (λe=>bl e));have cm:=zh (bs.turn Q (λi e=>oo));have co:=zh bt;clear hK al an O s P n1 n2 n3 n4 bf bk a2 D cs av bo br a0 bs bt Q H x0 x1 x2 x3 x4 y1 z0 z1 z4 hS bl;go_wp2_with fail
            go_roundg (T.labels.length - (k+1))
            case measure=>rw [a8.out];omega
            case rel=>
             refine ⟨k+1,oo,oo,by go_num,?_,?_,cl,?_,ci,?_,cm⟩
             . rw [M.out,fz];exact cj.out
             . rw [aj.out];exact co.congr (λx=>U9 _ _ _)
             . intro j hj cq;by_cases a1:j=k
               . subst a1;rw [HV.out];exact ad.out
               . exact HA.out j hj oo
             . rw [M.out,gK];omega
    . have cp:k=T.labels.length:=oo;subst cp;rw [i8] at K cu;obtain ⟨Ar,cr,cw,d1,d2,bw⟩:=Fu K (a4.okruns);subst cw;have HD:=zh (Kj (A:=Ar) (c:=cr) rfl oo bw _ rfl)
      have HF:=zh (XM T b0 (iD.2 (λl hl=>by
       obtain ⟨j,hj,rfl⟩:=List.getElem_of_mem hl
       exact HA.out j hj hj)) (by have:=W.out;rwa [i8] at this))
      clear K bw hm hb hg;go_wp2_with fail;refine HD.mono ?_;rintro e w9 ⟨rfl,g9⟩;go_wp2_with fail;go_ret;exact ⟨AE (by rw [HF.out]),HG.out.trans g9⟩

end
section
attribute [local go_sem ↓] Go.wp_at_zero Go.wp_at_succ
open Go.RowKit
theorem QD (T:Tab) (h:A0 T=true):T.labels.length<=31/\(Bo T.labels).length<=496/\(∀l∈T.labels,l.ext.length<=16/\0<=l.unit):=
 ⟨((AX T).1 h).small.1,((AX T).1 h).exts,((AX T).1 h).small.2⟩
theorem Vm (t:Int):-9223372036854775808<=ttS t/\ttS t<=9223372036854775807:=by have:=DQ t;omega
theorem Kw (A:Option Addr) (c:Nat) (xs:List LabE) (T:Tab) (w:World) (h:TabAt w A c xs T) (hs:SmallT T) (n:Nat) (hn:n=T.labels.length) (kf:List (Int × Int)) (H:Ce T=kf):
 Calls Tryz.prog 59 #[.agg #[.string T.name,.int .i64 T.tracks,.slice A n c]] w λe w'=>∃A c,e=.returned (.slice A kf.length c)/\RunsAt w' w'.heap.size A kf/\Grew w w':=by
 subst hn;subst H;have j:=(fh w).alloc (.cells #[.string T.name,.int .i64 T.tracks,.slice A T.labels.length c] 50);have I:=zh (fy w 50 #[.string T.name,.int .i64 T.tracks,.slice A T.labels.length c] rfl);have HV:=zh (Eo A c xs T _ (h.hold j) hs _ rfl);have q:=zh h;have HS:=zh hs;have r:=zh j;have J:=h.tr0;have K:=h.tr1;clear h hs j;cases hv:A0 T with
 | false=>
   have HE:=zh (show Ce T=[] from by unfold Ce;rw [hv];rfl);have m:=zh hv;clear hv;go_enter Tryz.func59,Tryz.ntmps59;go_wp2_with fail;refine HV.mono ?_;rintro e w1 ⟨rfl,g1⟩;rw [m.out];go_wp2_with fail;go_ret;exact ⟨none,0,by rw [HE.out];rfl,by rw [HE.out];exact NU _,r.out.trans g1⟩
 | true=>
   obtain ⟨an,av,D⟩:=QD T hv;have L:=zh (show Nq (ttS T.tracks) T.tracks (Bo T.labels)=Ce T from by unfold Ce;rw [if_pos hv]);have m:=zh hv;have M:=zh D;clear hv D;go_enter Tryz.func59,Tryz.ntmps59;go_wp2_with fail;refine HV.mono ?_;rintro e w1 ⟨rfl,g1⟩;rw [m.out];have f:=I.grew g1;have N:=r.out.trans g1;have x2:=f.cell 2;have ad:=f.lt;clear g1;go_wp2_with fail
   go_loopg [3,12] T.labels.length (λgk ov i wr=>∃k:Nat,k<=T.labels.length/\gk=T.labels.length - k/\i=.int .i64 k/\OwnL wr w.heap.size 136 2 ov ((Bo (T.labels.take k)).map FW)/\Blk wr w.heap.size 50 #[.string T.name,.int .i64 T.tracks,.slice A T.labels.length c]/\(Bo (T.labels.take k)).length<=16*k/\Grew w wr)
   case atStart=>exact ⟨0,oo,oo,rfl,OwnL.nil _ _ _ _,f,by simp [Bo],N⟩
   case round=>
    obtain ⟨k,hk,E,rfl,a,hb,Y,hg⟩:=hrel;have O:=zh E;have ae:=zh a;have HB:=zh hb;have HG:=zh hg;have aj:=hb.lt;have al:=hg.size;clear E x2 f;by_cases g:k<T.labels.length
    . obtain ⟨b,a0,B,d,l,rfl,a1,Z,hv,F,c0,c1,c2,c3,c4⟩:=(q.hold hg).at_ g;have P:=(M T.labels[k] (fq g)).1;rw [hv] at P;have o:=Mk T.labels k g;rw [hv] at o;have s:=zh o;have t:Grew wr (wr.alloc (.cells #[.int .i64 l.id,.int .i64 l.unit,.string l.name,.string l.note,.slice B l.ext.length d] 100)):=(fh wr).alloc _;have u:=((F.hold t).runs.2.mono (fk _));have v:=a.alloc (.cells #[.int .i64 l.id,.int .i64 l.unit,.string l.name,.string l.note,.slice B l.ext.length d] 100);have Q:=a.row_ge;have n3:=a.ne_blk hb qd;have x:=hb.alloc (.cells #[.int .i64 l.id,.int .i64 l.unit,.string l.name,.string l.note,.slice B l.ext.length d] 100);have y:=hg.alloc (.cells #[.int .i64 l.id,.int .i64 l.unit,.string l.name,.string l.note,.slice B l.ext.length d] 100);clear hv Z F o t a hb hg;go_wp2_with (at_builtin;refine CF (by rfl) _ _ 33 rfl w.heap.size 136 2 16 _ Tryz.underlying33 DG rfl qd _ _ (l.ext.map FW) (by rfl) v B l.ext.length _ (by rfl) (by rw [fm]) (L2 _) u (Lu _) (by rw [fm];omega) (by rw [fm];omega) (by simp;omega) ?_;intro v1 w3 z p X);have R:=zh z;have S:=zh (x.own p n3);have U:=zh (y.own p Q (fk _));clear z p X x y v u
      go_roundg (T.labels.length - (k+1))
      case measure=>rw [O.out];omega
      case rel=>exact ⟨k+1,oo,oo,by go_num,by rw [s.out,fz];exact R.out,S,by rw [s.out,gK];omega,U⟩
    . have V:k=T.labels.length:=oo;subst V;rw [i8] at a Y;obtain ⟨Ar,cr,aa,a2,a3,G⟩:=Fu a (q.okruns);subst aa;have HF:=zh (λw9 (g9:Grew wr w9)=>Z7 (A:=Ar) (c:=cr) (w:=w9) rfl oo (G.hold g9) (ttS T.tracks) T.tracks (Vm _).1 (Vm _).2 J K _ L);have hS:(λw':World=>w'.cell? ⟨w.heap.size,1,none⟩=some (.int .i64 T.tracks)) wr.drew:=hb.drew.cell 1;clear a G hb hg g;go_wp2_with fail;refine AB [] (λw':World=>w'.cell? ⟨w.heap.size,1,none⟩=some (.int .i64 T.tracks)) qk ?_;refine tQ 0 21 ?_;refine tT 1 (some 22) hS ?_;refine tQ 3 24 ?_;refine tT 4 (some 25) hS ?_;refine tQ 5 26 ?_;refine tO 2 λK' hK=>?_;go_wp2_with fail;refine (B6 _ _).mono ?_;rintro e w8 ⟨rfl,rfl⟩;go_wp2_with fail;refine hK.out _ _ (.inr (λh=>h)) ?_;clear hK;refine tO 6 λK' hK=>?_;go_wp2_with fail;refine (HF _ (fh wr).drew).mono ?_;rintro e w9 ⟨A9,c9,rfl,C,g9⟩;have W:=zh C;clear C;go_wp2_with fail;refine hK.out _ _ (.inr (λh=>(HB.drew.grew g9).cell 1)) ?_;clear hK;refine tQ 7 2 ?_;refine AA qk ?_ _;go_wp2_with fail;go_ret;exact ⟨A9,c9,rfl,W,HG.drew.trans g9⟩
def Ba (T:Tab) (id unit:Int):Lab × Bool:=if 0<=FA T id unit then (T.labels.getD (FA T id unit).toNat BH,true) else (BH,false)
theorem Fw (T:Tab) (id a:Int):(∃(k:Nat) (hk:k<T.labels.length),FA T id a=(k:Int)/\Ba T id a=(T.labels[k],true)/\FY id a T.labels[k]=true)\/(FA T id a=-1/\Ba T id a=(BH,false)/\∀l∈T.labels,FY id a l=false):=by
 rcases EA (FY id a) T.labels with ⟨k,hk,h1,h2,_⟩ | ⟨h1,h2⟩
 . have b:FA T id a=(k:Int):=h1;refine .inl ⟨k,hk,b,?_,h2⟩;unfold Ba;rw [b,if_pos oo,gQ,gH,fg hk];rfl
 . have b:FA T id a=-1:=h1;refine .inr ⟨b,?_,h2⟩;unfold Ba;rw [b,if_neg oo]
theorem LM (A:Option Addr) (c:Nat) (xs:List LabE) (T:Tab) (w:World) (h:TabAt w A c xs T) (hs:SmallT T) (n:Nat) (hn:n=T.labels.length) (id unit:Int) (l:Lab) (ok:Bool) (hf:Ba T id unit=(l,ok)):
 Calls Tryz.prog 74 #[.agg #[.string T.name,.int .i64 T.tracks,.slice A n c],.agg #[.int .i64 id,.int .i64 unit]] w λe w'=>∃B d,e=.returned (.tuple #[.agg #[.int .i64 l.id,.int .i64 l.unit,.string l.name,.string l.note,.slice B l.ext.length d],.bool ok])/\LabAt w' B d l/\Grew w w'/\∀b off,B=some ⟨b,off,none⟩->w.heap.size<=b:=by
 subst hn;have m:=(((fh w).alloc (.cells #[.string T.name,.int .i64 T.tracks,.slice A T.labels.length c] 50)).alloc (.cells #[.int .i64 id,.int .i64 unit] 32)).alloc (.cells #[.int .i64 0,.int .i64 0,.string ⟨#[]⟩,.string ⟨#[]⟩,.slice none 0 0] 100);have t:=((fy w 50 #[.string T.name,.int .i64 T.tracks,.slice A T.labels.length c] rfl).alloc (.cells #[.int .i64 id,.int .i64 unit] 32)).alloc (.cells #[.int .i64 0,.int .i64 0,.string ⟨#[]⟩,.string ⟨#[]⟩,.slice none 0 0] 100);have u:=fy ((w.alloc (.cells #[.string T.name,.int .i64 T.tracks,.slice A T.labels.length c] 50)).alloc (.cells #[.int .i64 id,.int .i64 unit] 32)) 100 #[.int .i64 0,.int .i64 0,.string ⟨#[]⟩,.string ⟨#[]⟩,.slice none 0 0] (n:=w.heap.size+1+1) qs;have HC:=zh (λk hk=>Ji A c xs T id unit _ (h.hold m) hs _ rfl k hk);have C:=zh h;have HS:=zh hs;have v:=zh m;have D:=zh t;have x:=zh u;clear h hs m t u;rcases Fw T id unit with ⟨k,hk,h1,h2,_⟩ | ⟨h1,h2,_⟩
 . rw [h2] at hf;injection hf with hf1 hf2;subst hf2;have HI:=zh (HC _ h1);have E:=zh hf1;have F:=HS.ext T.labels[k] (fq hk);rw [hf1] at F;clear HC h1 h2 hf1;go_enter Tryz.func74,Tryz.ntmps74;go_wp2_with fail;refine HI.mono ?_;rintro e w1 ⟨rfl,g1⟩;have o:=D.grew g1;have j:=v.out.trans g1;have p:=x.grew g1;have x2:=o.cell 2;have V:=o.lt;have G:=p.lt;have W:(k:Int)<(T.labels.length:Int):=oo;obtain ⟨b,off,B,d,l',rfl,Z,P,hv,s,c0,c1,c2,c3,c4⟩:=(C.hold j).at_ hk;rw [E.out] at hv;subst hv;have i:Grew w1 (w1.alloc (.cells #[.int .i64 l.id,.int .i64 l.unit,.string l.name,.string l.note,.slice B l.ext.length d] 100)):=(fh w1).alloc _;have H:=zh (Hj B d l.ext.length l.ext _ rfl oo (s.hold i).runs.2);have g:=zh (s.hold i);have I:=zh (fy w1 100 #[.int .i64 l.id,.int .i64 l.unit,.string l.name,.string l.note,.slice B l.ext.length d] rfl);have J:=zh (j.trans i);have K:=zh (p.grew i);clear g1 o j p s i P;go_wp2_with fail;refine H.mono ?_;rintro e w2 ⟨v2,rfl,r,g2⟩;obtain ⟨A2,Q,rfl,R,U,z⟩:=Fu r g.runs.1;have f:=I.grew g2;have a:=K.grew g2;have q:=J.out.trans g2;have y0:=f.cell 0;have y1:=f.cell 1;have y2:=f.cell 2;have y3:=f.cell 3;have y4:=f.cell 4;have yf:=f.frozen 4;have X:=f.lt;have z0:=a.cell 0;have z1:=a.cell 1;have z2:=a.cell 2;have z3:=a.cell 3;have z4:=a.cell 4;have f0:=a.frozen 0;have f1:=a.frozen 1;have f2:=a.frozen 2;have f3:=a.frozen 3;have f4:=a.frozen 4;have L:=a.lt;have Y:=q.size;have M:w.heap.size+1+1<w1.heap.size:=G;have N:=zh (show LabAt w2 A2 Q l from ⟨g.id0,g.id1,g.unit0,g.unit1,g.name,g.note,z,R,U⟩);have O:=zh q;have y:=zh (show ∀b off,A2=some ⟨b,off,none⟩->w1.heap.size+1<=b from λb off e=>by have:=(r.own_ge (by rw [e];rfl)).1;simpa using this);clear r z f a g2 q c0 c1 c2 c3 c4 x2;go_wp2_with fail;refine f7 (by first | (simp [*,results,Tryz.results74,go_sem];rfl) | simp [*,results,Tryz.results74,go_sem]) rfl ?_;exact ⟨_,_,rfl,N.turned (S:=λk=>k<w1.heap.size+1) (gT) (λ_ b off e=>by have:=y.out b off e;omega),by have hg:=O.out;exact gG,λb off e=>by have:=y.out b off e;have:w.heap.size+1+1<w1.heap.size:=M;omega⟩
 . rw [h2] at hf;injection hf with hf1 hf2;subst hf2;subst hf1;have HI:=zh (HC _ h1);clear HC h1 h2;go_enter Tryz.func74,Tryz.ntmps74;go_wp2_with fail;refine HI.mono ?_;rintro e w1 ⟨rfl,g1⟩;have a:=x.grew g1;have z0:=a.cell 0;have z1:=a.cell 1;have z2:=a.cell 2;have z3:=a.cell 3;have z4:=a.cell 4;have f0:=a.frozen 0;have f1:=a.frozen 1;have f2:=a.frozen 2;have f3:=a.frozen 3;have f4:=a.frozen 4;have L:=a.lt;have j:=v.out.trans g1;clear a g1;go_wp2_with fail;refine f7 (by first | (simp [*,results,Tryz.results74,go_sem];rfl) | simp [*,results,Tryz.results74,go_sem]) rfl ?_;exact ⟨none,0,rfl,LabAt.zero _,gG,λb off e=>by cases e⟩
theorem Zs (A:Option Addr) (c:Nat) (xs:List LabE) (T:Tab) (w:World) (h:TabAt w A c xs T) (hs:SmallT T) (n:Nat) (hn:n=T.labels.length) (id unit:Int) (l:Lab) (ok:Bool) (hf:Ba T id unit=(l,ok)):
 Calls Tryz.prog 74 #[.agg #[.string T.name,.int .i64 T.tracks,.slice A n c],.agg #[.int .i64 id,.int .i64 unit]] w λe w'=>∃B d,e=.returned (.tuple #[.agg #[.int .i64 l.id,.int .i64 l.unit,.string l.name,.string l.note,.slice B l.ext.length d],.bool ok])/\LabAt w' B d l/\Grew w w':=
 (LM A c xs T w h hs n hn id unit l ok hf).mono λ_ _ ⟨B,d,h1,h2,h3,_⟩=>⟨B,d,h1,h2,h3⟩
def Nm (s:ByteArray) (t:Int):Tab × Int:=if okT t=true/\Cj s=true then (⟨s,t,List.replicate (CT t).toNat BH⟩,0) else (Ca,1)
theorem PT (t:Int):((CT t).toNat:Int)=CT t/\(CT t).toNat<=31:=by
 have:=DQ t;unfold CT;omega
theorem WN (w:World) (n:Nat) (hn:n<=1000):(Instr.makeSlice 48 (.int .i64 (n:Int)) (.int .i64 (n:Int))).run Tryz.prog w=.ok (.slice (some ⟨w.heap.size,0,none⟩) n n) (w.alloc (.cells (madeCells #[.int .i64 0,.int .i64 0,.string ⟨#[]⟩,.string ⟨#[]⟩,.slice none 0 0] (n*5)) 100)):=by
 obtain ⟨i,hi,a,b,c⟩:∃i,Tryz.prog.info? 100=some i/\i.zero=some (.agg #[.int .i64 0,.int .i64 0,.string ⟨#[]⟩,.string ⟨#[]⟩,.slice none 0 0])/\i.size=5/\i.bytes=72:=by
  have h:=M2;cases hq:Tryz.prog.info? 100 with
  | none=>rw [hq] at h;cases h
  | some i=>rw [hq] at h;simp at h;exact ⟨i,rfl,h.1,h.2.1,h.2.2⟩
 have h:=run_make (P:=Tryz.prog) w 48 100 i _ Tryz.underlying48 hi a .i64 .i64 (n:Int) (n:Int) oo oo (by rw [c];omega) oo;rw [b] at h;simp only [gQ] at h;exact h
theorem ZW (w:World) (n:Nat) (s:ByteArray) (t:Int) (hs:s.size<=9223372036854775807) (t0:-9223372036854775808<=t) (t1:t<=9223372036854775807) (hn:n<=1000) {g:Nat} (a:g=w.heap.size) {w':World} (hw:Grew (w.alloc (.cells (madeCells #[.int .i64 0,.int .i64 0,.string ⟨#[]⟩,.string ⟨#[]⟩,.slice none 0 0] (n*5)) 100)) w'):
 TabAt w' (some ⟨g,0,none⟩) n (List.replicate n ⟨none,0,BH⟩) ⟨s,t,List.replicate n BH⟩:=by
 subst a;refine TabAt.hold ?_ hw;refine ⟨λx hx=>by rw [List.eq_of_mem_replicate hx];exact LabAt.zero _,λh0=>⟨w.heap.size,0,rfl,qs,λj cs hj i v hi=>?_⟩,qs,oo,qs,t0,t1,hs⟩;rw [List.map_replicate,jS] at hj;split at hj
 . rename_i hjn;injection hj with hj;subst hj;have b:i<5:=(gI.1 hi).1;rw [(fy w 100 _ rfl).cell];unfold madeCells;rw [jM,Array.getElem?_map,Array.getElem?_range,if_pos oo];simp only [Option.map_some];have hm:(j*5+i) % 5=i:=oo;have h5:(#[Value.int .i64 0,.int .i64 0,.string ⟨#[]⟩,.string ⟨#[]⟩,.slice none 0 0]:Array Value).size=5:=rfl;rw [h5,hm]
   match i,b with
   | 0,_=>exact hi
   | 1,_=>exact hi
   | 2,_=>exact hi
   | 3,_=>exact hi
   | 4,_=>exact hi
 . cases hj
theorem aZ (s:ByteArray) (t:Int) (w:World) (hs:s.size<=9223372036854775807) (t0:-9223372036854775808<=t) (t1:t<=9223372036854775807) (T:Tab) (er:Int) (hT:Nm s t=(T,er)):
 Calls Tryz.prog 69 #[.string s,.int .i64 t] w λe w'=>∃A c xs,e=.returned (.tuple #[.agg #[.string T.name,.int .i64 T.tracks,.slice A T.labels.length c],.int .i64 er])/\TabAt w' A c xs T/\Grew w w'/\(∀b off,A=some ⟨b,off,none⟩->w.heap.size<=b)/\∀x∈xs,x.A=none:=by
 have a:=fy w 50 #[.string ⟨#[]⟩,.int .i64 0,.slice none 0 0] rfl;have hG:=(fh w).alloc (.cells #[.string ⟨#[]⟩,.int .i64 0,.slice none 0 0] 50);have z0:=a.cell 0;have z1:=a.cell 1;have z2:=a.cell 2;have f0:=a.frozen 0;have f1:=a.frozen 1;have f2:=a.frozen 2;by_cases ho:okT t=true;rotate_left
 . unfold Nm at hT;rw [if_neg (λh=>ho h.1)] at hT;injection hT with h1 h2;subst h1;subst h2;have d:=zh (show ttS t=0 from by unfold ttS;rw [if_neg ho]);clear ho;go_enter Tryz.func69,Tryz.ntmps69;go_wp2_with fail;refine (B6 _ _).mono ?_;rintro e w1 ⟨rfl,rfl⟩;rw [d.out];go_wp2_with fail;refine f7 (by first | (simp [*,results,Tryz.results69,go_sem];rfl) | simp [*,results,Tryz.results69,go_sem]) rfl ?_;exact ⟨none,0,[],rfl,TabAt.zero _,(gG),(λb off e=>by cases e),(λx hx=>by cases hx)⟩
 obtain ⟨tt,f⟩:∃tt,ttS t=tt:=⟨_,rfl⟩;have d:=zh f
 have hz:(tt==0)=false:=by
  rw [gF,<-f];unfold ttS;have:=B0 ho;rw [if_pos ho];omega
 clear f;cases hn:Cj s with
 | false=>
   unfold Nm at hT;rw [if_neg (λh=>by rw [hn] at h;cases h.2)] at hT;injection hT with h1 h2;subst h1;subst h2;have HN:=zh hn;clear ho hn;go_enter Tryz.func69,Tryz.ntmps69;go_wp2_with fail;refine (B6 _ _).mono ?_;rintro e w1 ⟨rfl,rfl⟩;rw [d.out];go_wp2_with fail;refine (CX _ _ hs).mono ?_;rintro e w1 ⟨rfl,rfl⟩;rw [HN.out];go_wp2_with fail;refine f7 (by first | (simp [*,results,Tryz.results69,go_sem];rfl) | simp [*,results,Tryz.results69,go_sem]) rfl ?_;exact ⟨none,0,[],rfl,TabAt.zero _,(gG),(λb off e=>by cases e),(λx hx=>by cases hx)⟩
 | true=>
   unfold Nm at hT;rw [if_pos ⟨ho,hn⟩] at hT;injection hT with h1 h2;subst h1;subst h2;obtain ⟨h1,h2⟩:=PT t;have HN:=zh hn;generalize (CT t).toNat=m at*;have j:=zh h1.symm;have n:=λw=>WN w m oo;have i:(List.replicate m BH).length=m:=i0;have k:=zh (λw0 g hg=>ZW w0 m s t hs t0 t1 oo (g:=g) hg (fh _));have l:=zh i;clear ho hn h1 i;go_enter Tryz.func69,Tryz.ntmps69;go_wp2_with fail;refine (B6 _ _).mono ?_;rintro e w1 ⟨rfl,rfl⟩;rw [d.out];go_wp2_with fail;refine (CX _ _ hs).mono ?_;rintro e w1 ⟨rfl,rfl⟩;rw [HN.out];go_wp2_with fail;refine (LA _ _).mono ?_;rintro e w1 ⟨rfl,rfl⟩;rw [j.out];go_wp2_with fail;refine f7 (by first | (simp [*,results,Tryz.results69,go_sem];rfl) | simp [*,results,Tryz.results69,go_sem]) rfl ?_;exact ⟨_,_,_,by rw [l.out],k _ _ qs,(gG),(λb off e=>by (injection e with e;injection e with e _ _;rw [<-e];simp)),(λx hx=>by rw [List.eq_of_mem_replicate hx])⟩

end
section
open Go.RowKit
def NewRuns (w w':World) (A:Option Addr) (c:Nat) (k:List (Int × Int)):Prop:=RunsAt w' w'.heap.size A k/\k.length<=c/\c<=9223372036854775807/\∀b off,A=some ⟨b,off,none⟩->w.heap.size<=b
theorem NewRuns.nil (w w':World):NewRuns w w' none 0 []:=⟨NU w',fk _,oo,λb off e=>by cases e⟩
theorem NewRuns.of_own {w w':World} {v:Value} {l:List (Nat × Nat)} {k:List (Int × Int)} (h:OwnL w' w.heap.size 136 2 v (l.map BR)) (hb:∀r∈l,r.1+r.2<=128) (hk:AK l=k):∃A c,v=.slice A k.length c/\NewRuns w w' A c k:=by
 obtain ⟨A,c,hv,hr,h1,h2,h3⟩:=El h (λr hr=>fx (hb r hr) oo);subst hk;exact ⟨A,c,by rw [AZ];exact hv,hr,by rw [AZ];exact h1,h2,λb off e=>(h3 b off e).1⟩
section
variable {A:Option Addr} {c m:Nat} {l:List (Int × Int)} {w:World}
theorem Uk {A2:Option Addr} {c2 m2:Nat} {l2:List (Int × Int)} (b:m=l.length) (g:m2=l2.length) (a:l.length<=1000) (f:l2.length<=1000000) (d:RunsAt w w.heap.size A l) (h:RunsAt w w.heap.size A2 l2) (n:Int) (n0:-9223372036854775808<=n) (n1:n<=9223372036854775807) (k:List (Int × Int)) (er:Int) (hk:AK (Dw l l2 n).1=k) (he:(Dw l l2 n).2=er):
 Calls Tryz.prog 157 #[.slice A m c,.slice A2 m2 c2,.int .i64 n] w λe w'=>∃A c,e=.returned (.tuple #[.slice A k.length c,.int .i64 er])/\NewRuns w w' A c k/\Grew w w':=by
 subst b;subst g;subst he;refine (UN A A2 c c2 l l2 w w.heap.size (fk _) a f d h n n0 n1).mono ?_;rintro e w1 ⟨v,rfl,i,g1⟩;obtain ⟨A',c',hv,j⟩:=NewRuns.of_own i (Vl _ _ _) hk;exact ⟨A',c',by rw [hv],j,g1⟩
theorem PH (hn:m=l.length) (hl:l.length<=1000000) (hr:RunsAt w w.heap.size A l) (n:Int) (n0:-9223372036854775808<=n) (n1:n<=9223372036854775807) (most:Int) (k:List (Int × Int)) (er:Int) (hk:AK (BV (AG l) n most).1=k) (he:(BV (AG l) n most).2=er):
 Calls Tryz.prog 138 #[.slice A m c,.int .i64 n,.int .i64 most] w λe w'=>∃A c,e=.returned (.tuple #[.slice A k.length c,.int .i64 er])/\NewRuns w w' A c k/\Grew w w':=by
 subst hn;subst he;refine (Pi A c l w w.heap.size (fk _) hl hr n n0 n1 most).mono ?_;rintro e w1 ⟨v,rfl,a,g1⟩;obtain ⟨A',c',hv,b⟩:=NewRuns.of_own a (Mi _ _ _) hk;exact ⟨A',c',by rw [hv],b,g1⟩
theorem NewRuns.hold {w w1 w2:World} {k:List (Int × Int)} (h:NewRuns w w1 A c k) (hg:Grew w1 w2):NewRuns w w2 A c k:=⟨h.1.hold hg,h.2⟩
theorem RD (hn:m=l.length) (hl:l.length<=1000) (hr:RunsAt w w.heap.size A l) (keep:Int) (n0:-9223372036854775808<=keep) (n1:keep<=9223372036854775807) (ka:List (Int × Int)) (er:Int) (ha:UB l keep=ka) (he:T2 l keep=er):
 Calls Tryz.prog 159 #[.slice A m c,.int .i64 keep] w λe w'=>∃A1 c1 A2 n2 c2,e=.returned (.tuple #[.slice A1 ka.length c1,.slice A2 n2 c2,.int .i64 er])/\NewRuns w w' A1 c1 ka/\Grew w w':=by
 subst hn;have hG:=fh w;have t:=FH l;by_cases h1:keep<1
 . have e1:ka=[]:=by rw [<-ha];unfold UB;rw [if_pos (.inl h1)]
   have e3:er=2:=by rw [<-he];unfold T2;rw [if_pos (.inl h1)]
   clear ha he;subst e1;subst e3;go_enter Tryz.func159,Tryz.ntmps159;go_wp2_with fail
   go_returns
   exact ⟨none,0,none,0,0,rfl,NewRuns.nil _ _,hG⟩
 by_cases h2:(AW l:Int)<keep
 . have e1:ka=[]:=by rw [<-ha];unfold UB;rw [if_pos (.inr h2)]
   have e3:er=2:=by rw [<-he];unfold T2;rw [if_pos (.inr h2)]
   clear ha he;subst e1;subst e3;go_enter Tryz.func159,Tryz.ntmps159;go_wp2_with fail;refine (IY rfl oo hr (AW l) rfl).mono ?_;rintro e ws ⟨rfl,gs⟩;replace hr:=hr.hold gs;replace hG:=hG.trans gs;clear gs;go_wp2_with fail
   go_returns
   exact ⟨none,0,none,0,0,rfl,NewRuns.nil _ _,hG⟩
 have h3:¬(keep<1\/(AW l:Int)<keep):=λh=>h.elim h1 h2;have e3:er=0:=by rw [<-he];unfold T2;rw [if_neg h3]
 have d:AK (Bb (AK (EB l keep.toNat)))=ka:=by rw [<-ha];unfold UB;rw [if_neg h3]
 have u:ka.length<=l.length:=by have:=DJ (AK (EB l keep.toNat));rw [<-d,AZ];rw [AZ,No] at this;exact this
 obtain ⟨k2,f⟩:∃k,AK (Bb (AK (G2 l keep.toNat)))=k:=⟨_,rfl⟩;have v:k2.length<=l.length:=by have:=DJ (AK (G2 l keep.toNat));rw [<-f,AZ];rw [AZ,Na] at this;exact this
 have n:=zh d;have o:=zh f;clear ha he d f h3;subst e3;go_enter Tryz.func159,Tryz.ntmps159;go_wp2_with fail;refine (IY rfl oo hr (AW l) rfl).mono ?_;rintro e ws ⟨rfl,gs⟩;replace hr:=hr.hold gs;replace hG:=hG.trans gs;clear gs;have p:=zh hG.size;go_wp2_with fail;refine (cE A c l ws ws.heap.size (fk _) oo hr keep keep.toNat n0 n1 rfl).mono ?_;rintro e w3 ⟨v1,v2,rfl,g,i,g3⟩;obtain ⟨A1,c1,r,a⟩:=NewRuns.of_own g (DE _) n;obtain ⟨A2,c2,s,j⟩:=NewRuns.of_own i (DE _) o;subst r;subst s;have r1:=a.1;have r2:=j.1;have q:=zh (show NewRuns w w3 A1 c1 ka from ⟨a.1,a.2.1,a.2.2.1,λb off e=>fx p.out (a.2.2.2 b off e)⟩);replace hG:=hG.trans g3;clear g i a j g3 hr;go_wp2_with fail;refine (Lb rfl rfl oo oo r2 r1 _ rfl).mono ?_;rintro e w4 ⟨A3,c3,rfl,r3,g4⟩;go_wp2_with fail
 go_returns
 exact ⟨_,_,_,_,_,rfl,q.hold g4,hG.trans g4⟩
end

end
section
attribute [local go_sem ↓] Go.wp_at_zero Go.wp_at_succ
open Go.RowKit
def Gy (T:Tab) (n:Int) (k:Nat) (l:Lab):List Lab × Int:=(T.labels.set k { l with ext:=AK (Dw l.ext (Ce T) n).1 },(Dw l.ext (Ce T) n).2)
def Gu (T:Tab) (keep:Int) (k:Nat) (l:Lab):List Lab × Int:=(T.labels.set k { l with ext:=UB l.ext keep },T2 l.ext keep)
def GZ (T:Tab) (ex:List (Int × Int)) (k:Nat) (l:Lab):List Lab × Int:=(T.labels.set k { l with ext:=ex },if AW ex=AW l.ext/\A0 { T with labels:=T.labels.set k { l with ext:=ex } }=true then 0 else 1)
def IE (T:Tab) (id:Int) (note:ByteArray) (k:Nat) (l:Lab):List Lab × Int:=
 if l.unit=0 then (T.labels,9) else if 400<note.size then (T.labels,1)
 else ((if 0<=FA T id 0 then T.labels.set (FA T id 0).toNat BH else T.labels).set k { l with unit:=0,note:=note },0)
def Eu (T:Tab) (note:ByteArray) (k:Nat) (l:Lab):List Lab × Int:=if 400<note.size then (T.labels,1) else (T.labels.set k { l with note:=note },0)
def JU (T:Tab) (k:Nat) (_l:Lab):List Lab × Int:=(T.labels.set k BH,0)
def Bg (T:Tab) (id unit:Int) (F:Nat->Lab->List Lab × Int):Tab × Int:=
 if A0 T=true then
  if 0<=FA T id unit then
   (if (F (FA T id unit).toNat (T.labels.getD (FA T id unit).toNat BH)).2=0 then ({ T with labels:=(F (FA T id unit).toNat (T.labels.getD (FA T id unit).toNat BH)).1 },0) else (Ca,(F (FA T id unit).toNat (T.labels.getD (FA T id unit).toNat BH)).2))
  else (Ca,6)
 else (Ca,1)
structure OutAt (w w1:World) (base g cap xo:Nat) (ys:List LabE) (T:Tab):Prop where
 grew:Grew w w1
 hg:w.heap.size<=g
 hx:w.heap.size<=xo
 ne:xo≠g
 tab:TabO w1 base (.slice (some ⟨g,0,none⟩) T.labels.length cap) ys T.labels
 blk:Blk w1 xo 50 #[.string T.name,.int .i64 T.tracks,.slice (some ⟨g,0,none⟩) T.labels.length cap]
def LP (w1:World) (base g cap n:Nat) (r:List Lab × Int) (e:Ending) (w2:World):Prop:=
 e=.returned (.int .i64 r.2)/\(∃ys,TabO w2 base (.slice (some ⟨g,0,none⟩) n cap) ys r.1)/\Turned (λx=>x=g) w1 w2
theorem TabO.row {w:World} {base g n cap:Nat} {ys:List LabE} {ls:List Lab} (h:TabO w base (.slice (some ⟨g,0,none⟩) n cap) ys ls) {k:Nat} (hk:k<ls.length):
 ∃B d,(ys.map DN)[k]? =some (DN ⟨B,d,ls[k]⟩)/\LabAt w B d ls[k]/\(0<ls[k].ext.length->∀b off,B=some ⟨b,off,none⟩->b≠g)/\ys[k]? =some ⟨B,d,ls[k]⟩:=by
 have hy:k<ys.length:=by rw [h.len];exact hk
 have h1:(ys.map (·.l))[k]? =some ys[k].l:=by rw [fo,fg hy];rfl
 rw [h.eq,fg hk] at h1;have h2:=Option.some.inj h1;have h3:ys[k]=⟨ys[k].A,ys[k].c,ls[k]⟩:=by rw [h2]
 refine ⟨ys[k].A,ys[k].c,by rw [fo,fg hy,<-h3];rfl,by rw [h2];exact h.lab _ (fq hy),λh0 b off e=>?_,by rw [fg hy,<-h3]⟩;have:=h.far ys[k] (fq hy) (by rw [<-h2];exact h0) b off e;intro e2;exact this (by rw [e2];rfl)
theorem OwnL.cell0 {w:World} {base e sz g n cap:Nat} {rows:List (List Value)} (h:OwnL w base e sz (.slice (some ⟨g,0,none⟩) n cap) rows) {j:Nat} {r:List Value} {u:Value} (hj:rows[j]? =some r) (hi:r[0]? =some u):w.cell? ⟨g,j*sz,none⟩=some u:=h.cell hj hi
theorem OwnL.block_lt {w:World} {base e sz g n cap:Nat} {rows:List (List Value)} (h:OwnL w base e sz (.slice (some ⟨g,0,none⟩) n cap) rows):base<=g/\g<w.heap.size:=h.own_ge rfl
theorem BW (w:World) (g o:Nat) (u:Value):Turned (λx=>x=g) w (w.setCell ⟨g,o,none⟩ u):=(gW (λx=>x=g) w).setCell (p:=⟨g,o,none⟩) (λ_=>rfl) u
theorem TabO.field {w:World} {base g n cap:Nat} {ys:List LabE} {ls:List Lab} (h:TabO w base (.slice (some ⟨g,0,none⟩) n cap) ys ls) {k:Nat} (hk:k<ls.length) {B:Option Addr} {d:Nat} (hrow:(ys.map DN)[k]? =some (DN ⟨B,d,ls[k]⟩)) (i:Nat) (hi:i<5) (u:Value) (y:LabE) (hy:DN y=(DN ⟨B,d,ls[k]⟩).set i u)
 (hl:LabAt w y.A y.c y.l) (hf:0<y.l.ext.length->∀b off,y.A=some ⟨b,off,none⟩->b≠g):TabO (w.setCell ⟨g,k*5+i,none⟩ u) base (.slice (some ⟨g,0,none⟩) n cap) (ys.set k y) (ls.set k y.l):=
 h.set_ k y hk (by rw [hy];exact h.own.set_ hrow hi rfl u) (BW w g _ u) (hl.turned (BW w g _ u) (λh0 b off e=>hf h0 b off e)) hf
theorem OwnL.set5 {w:World} {base e g n cap:Nat} {rows:List (List Value)} (h:OwnL w base e 5 (.slice (some ⟨g,0,none⟩) n cap) rows) {j:Nat} {r:List Value} (hj:rows[j]? =some r) (a b c d f:Value):
 OwnL (((((w.setCell ⟨g,j*5,none⟩ a).setCell ⟨g,j*5+1,none⟩ b).setCell ⟨g,j*5+2,none⟩ c).setCell ⟨g,j*5+3,none⟩ d).setCell ⟨g,j*5+4,none⟩ f) base e 5 (.slice (some ⟨g,0,none⟩) n cap) (rows.set j [a,b,c,d,f]):=by
 have hl:r.length=5:=h.1 r (ip hj);have k:j<rows.length:=(gI.1 hj).1;have h0:=h.set_ (i:=0) (o:=j*5) hj oo rfl a;have h1:=h0.set_ (i:=1) (o:=j*5+1) (il k) oo rfl b;rw [List.set_set] at h1;have h2:=h1.set_ (i:=2) (o:=j*5+2) (il k) oo rfl c;rw [List.set_set] at h2;have h3:=h2.set_ (i:=3) (o:=j*5+3) (il k) oo rfl d;rw [List.set_set] at h3;have h4:=h3.set_ (i:=4) (o:=j*5+4) (il k) oo rfl f;rw [List.set_set] at h4
 match r,hl with
 | [r0,r1,r2,r3,r4],_=>exact h4
theorem FP (w:World) (g o:Nat) (a b c d f:Value):Turned (λx=>x=g) w (((((w.setCell ⟨g,o,none⟩ a).setCell ⟨g,o+1,none⟩ b).setCell ⟨g,o+2,none⟩ c).setCell ⟨g,o+3,none⟩ d).setCell ⟨g,o+4,none⟩ f):=
 ((((BW w g _ a).trans (BW _ g _ b)).trans (BW _ g _ c)).trans (BW _ g _ d)).trans (BW _ g _ f)
theorem TabO.set5 {w:World} {base g n cap:Nat} {ys:List LabE} {ls:List Lab} (h:TabO w base (.slice (some ⟨g,0,none⟩) n cap) ys ls) {k:Nat} (hk:k<ls.length) (y:LabE)
 (hl:LabAt w y.A y.c y.l) (hf:0<y.l.ext.length->∀b off,y.A=some ⟨b,off,none⟩->b≠g):
 TabO (((((w.setCell ⟨g,k*5,none⟩ (.int .i64 y.l.id)).setCell ⟨g,k*5+1,none⟩ (.int .i64 y.l.unit)).setCell ⟨g,k*5+2,none⟩ (.string y.l.name)).setCell ⟨g,k*5+3,none⟩ (.string y.l.note)).setCell ⟨g,k*5+4,none⟩ (.slice y.A y.l.ext.length y.c)) base (.slice (some ⟨g,0,none⟩) n cap) (ys.set k y) (ls.set k y.l):=by
 obtain ⟨B,d,a,_,_,_⟩:=h.row hk;exact h.set_ k y hk (h.own.set5 a _ _ _ _ _) (FP w g _ _ _ _ _ _) (hl.turned (FP w g _ _ _ _ _ _) (λh0 b off e=>hf h0 b off e)) hf
section
variable (w w1:World) (base g cap xo:Nat) (ys:List LabE) (T:Tab) (k:Nat) (hk:k<T.labels.length) (h:OutAt w w1 base g cap xo ys T)
include h
theorem Wo (note:ByteArray) (j:note.size<=9223372036854775807) (gn:Nat) (hb:Blk w gn 9 #[.string note]):
 Calls Tryz.prog 161 #[.pointer (some ⟨g,k*5,none⟩),.pointer (some ⟨xo,0,none⟩),.pointer (some ⟨gn,0,none⟩)] w1 (LP w1 base g cap T.labels.length (Eu T note k T.labels[k])):=by
 obtain ⟨B,d,b,a,e,_⟩:=h.tab.row hk;have c:=hb.grew h.grew;have n:=hb.lt;have o:=h.tab.own.block_lt;have x0:=c.cell 0;have p:=c.lt;have y3:w1.cell? ⟨g,k*5+3,none⟩=some (.string T.labels[k].note):=h.tab.own.cell b (i:=3) rfl;have y0:w1.cell? ⟨g,k*5,none⟩=some (.int .i64 T.labels[k].id):=h.tab.own.cell0 b rfl;have f3:=h.tab.own.frozen (k*5+3);by_cases hn:400<note.size
 . have HE:=zh (show Eu T note k T.labels[k]=(T.labels,1) from if_pos hn);have l:(note.size:Int)>400:=oo;have HT:=zh h.tab;clear h b a e hb c;go_enter Tryz.func161,Tryz.ntmps161;go_wp2_with fail;go_ret;rw [HE.out];exact ⟨rfl,⟨_,HT⟩,gT⟩
 . have HE:=zh (show Eu T note k T.labels[k]=(T.labels.set k { T.labels[k] with note:=note },0) from if_neg hn);have l:¬(note.size:Int)>400:=oo;have f:LabAt w1 B d { T.labels[k] with note:=note }:=⟨a.id0,a.id1,a.unit0,a.unit1,a.name,j,a.runs,a.len,a.cap⟩;have HT:=zh (h.tab.field hk b 3 qd (.string note) ⟨B,d,{ T.labels[k] with note:=note }⟩ rfl f e);have ht:=BW w1 g (k*5+3) (.string note);have m:=zh ht;clear h b a e hb c ht f;go_enter Tryz.func161,Tryz.ntmps161;go_wp2_with fail;go_ret;rw [HE.out];exact ⟨rfl,⟨_,HT⟩,m⟩
theorem Ro:Calls Tryz.prog 162 #[.pointer (some ⟨g,k*5,none⟩),.pointer (some ⟨xo,0,none⟩)] w1 (LP w1 base g cap T.labels.length (JU T k T.labels[k])):=by
 obtain ⟨B,d,a,c,e,_⟩:=h.tab.row hk;have f:=h.tab.own.block_lt;have y0:w1.cell? ⟨g,k*5,none⟩=some (.int .i64 T.labels[k].id):=h.tab.own.cell0 a rfl;have y1:w1.cell? ⟨g,k*5+1,none⟩=some (.int .i64 T.labels[k].unit):=h.tab.own.cell a (i:=1) rfl;have y2:w1.cell? ⟨g,k*5+2,none⟩=some (.string T.labels[k].name):=h.tab.own.cell a (i:=2) rfl;have y3:w1.cell? ⟨g,k*5+3,none⟩=some (.string T.labels[k].note):=h.tab.own.cell a (i:=3) rfl;have y4:w1.cell? ⟨g,k*5+4,none⟩=some (.slice B T.labels[k].ext.length d):=h.tab.own.cell a (i:=4) rfl;have f0:=h.tab.own.frozen (k*5);have f1:=h.tab.own.frozen (k*5+1);have f2:=h.tab.own.frozen (k*5+2);have f3:=h.tab.own.frozen (k*5+3);have f4:=h.tab.own.frozen (k*5+4);have HT:=zh (h.tab.set5 hk ⟨none,0,BH⟩ (LabAt.zero _) (λh0=>absurd h0 qd));have b:=zh (FP w1 g (k*5));clear h a c e;go_enter Tryz.func162,Tryz.ntmps162;go_wp2_with fail;go_ret;exact ⟨rfl,⟨_,HT⟩,b _ _ _ _ _⟩
theorem Rt (A:Option Addr) (c:Nat) (xs:List LabE) (hT:TabAt w A c xs T) (hs:SmallT T) (n:Int) (n0:-9223372036854775808<=n) (n1:n<=9223372036854775807) (gt gn:Nat) (ht:Blk w gt 50 #[.string T.name,.int .i64 T.tracks,.slice A T.labels.length c]) (hb:Blk w gn 3 #[.int .i64 n]):
 Calls Tryz.prog 156 #[.pointer (some ⟨g,k*5,none⟩),.pointer (some ⟨xo,0,none⟩),.pointer (some ⟨gt,0,none⟩),.pointer (some ⟨gn,0,none⟩)] w1 (LP w1 base g cap T.labels.length (Gy T n k T.labels[k])):=by
 obtain ⟨B,d,q,y,U,_⟩:=h.tab.row hk;have K:=hs.ext T.labels[k] (fq hk);have j:=ht.grew h.grew;have p:=hb.grew h.grew;have s:=h.tab.own.block_lt;have y0:w1.cell? ⟨g,k*5,none⟩=some (.int .i64 T.labels[k].id):=h.tab.own.cell0 q rfl;have y4:w1.cell? ⟨g,k*5+4,none⟩=some (.slice B T.labels[k].ext.length d):=h.tab.own.cell q (i:=4) rfl;obtain ⟨kf,r⟩:∃kf,Ce T=kf:=⟨_,rfl⟩;have V:kf.length<=128:=by rw [<-r];exact Lf T
 obtain ⟨ke,z⟩:∃ke,AK (Dw T.labels[k].ext kf n).1=ke:=⟨_,rfl⟩;obtain ⟨er,C⟩:∃er,(Dw T.labels[k].ext kf n).2=er:=⟨_,rfl⟩;have HE:=zh (show Gy T n k T.labels[k]=(T.labels.set k { T.labels[k] with ext:=ke },er) from by unfold Gy;rw [r,z,C]);have L:=zh (λw2 (g2:Grew w1 w2)=>Kw A c xs T w2 (hT.hold (h.grew.trans g2)) hs _ rfl kf r);have HX:=zh (λ(w2:World) (g2:Grew w1 w2) A5 c5 (hr:RunsAt w2 w2.heap.size A5 kf)=>Uk (A:=B) (c:=d) (m:=T.labels[k].ext.length) (A2:=A5) (c2:=c5) (w:=w2) rfl rfl K oo ((y.hold g2).runs) hr n n0 n1 ke er z C);have M:=zh h.tab;have t:=zh q;have N:=zh y;have W:=zh j;have X:=zh p;have hS:(λw':World=>w'.cell? ⟨g,k*5,none⟩=some (.int .i64 T.labels[k].id)/\w'.cell? ⟨g,k*5+4,none⟩=some (.slice B T.labels[k].ext.length d)/\w'.cell? ⟨gt,0,none⟩=some (.string T.name)/\w'.cell? ⟨gt,1,none⟩=some (.int .i64 T.tracks)/\w'.cell? ⟨gt,2,none⟩=some (.slice A T.labels.length c)/\w'.cell? ⟨gn,0,none⟩=some (.int .i64 n)) w1.drew:=⟨y0,y4,j.cell 0,j.cell 1,j.cell 2,p.cell 0⟩
 have D:∀w2 w3:World,Grew w2 w3->g<w2.heap.size->gt<w2.heap.size->gn<w2.heap.size->(λw':World=>w'.cell? ⟨g,k*5,none⟩=some (.int .i64 T.labels[k].id)/\w'.cell? ⟨g,k*5+4,none⟩=some (.slice B T.labels[k].ext.length d)/\w'.cell? ⟨gt,0,none⟩=some (.string T.name)/\w'.cell? ⟨gt,1,none⟩=some (.int .i64 T.tracks)/\w'.cell? ⟨gt,2,none⟩=some (.slice A T.labels.length c)/\w'.cell? ⟨gn,0,none⟩=some (.int .i64 n)) w2->(λw':World=>w'.cell? ⟨g,k*5,none⟩=some (.int .i64 T.labels[k].id)/\w'.cell? ⟨g,k*5+4,none⟩=some (.slice B T.labels[k].ext.length d)/\w'.cell? ⟨gt,0,none⟩=some (.string T.name)/\w'.cell? ⟨gt,1,none⟩=some (.int .i64 T.tracks)/\w'.cell? ⟨gt,2,none⟩=some (.slice A T.labels.length c)/\w'.cell? ⟨gn,0,none⟩=some (.int .i64 n)) w3:=λw2 w3 h9 z1 z2 z3 h8=>by
  simp only [h9.cellEq _ _ z1,h9.cellEq _ _ z2,h9.cellEq _ _ z3];exact h8
 have O:=zh D;have E:=j.lt;have F:=p.lt;clear h q y U r z C ht hb j p hT D;go_enter Tryz.func156,Tryz.ntmps156;go_wp2_with fail;refine AB [] (λw':World=>w'.cell? ⟨g,k*5,none⟩=some (.int .i64 T.labels[k].id)/\w'.cell? ⟨g,k*5+4,none⟩=some (.slice B T.labels[k].ext.length d)/\w'.cell? ⟨gt,0,none⟩=some (.string T.name)/\w'.cell? ⟨gt,1,none⟩=some (.int .i64 T.tracks)/\w'.cell? ⟨gt,2,none⟩=some (.slice A T.labels.length c)/\w'.cell? ⟨gn,0,none⟩=some (.int .i64 n)) qk ?_;refine tQ 0 10 ?_;refine tT 1 (some 11) hS ?_;refine tQ 2 12 ?_;refine tT 3 (some 13) hS ?_;refine tT 4 (some 14) hS ?_;refine tT 6 (some 16) hS ?_;refine tO 5 λK' hK=>?_;go_wp2_with fail;refine (L _ (fh w1).drew).mono ?_;rintro e w2 ⟨A5,c5,rfl,J,g2⟩;have a:Grew w1 w2:=(fh w1).drew.trans g2;have G:=O.out _ _ g2 s.2 E F hS;have P:=zh J;clear J;go_wp2_with fail;refine hK.out _ _ (.inr (λ_=>G)) ?_;clear hK;refine tO 7 λK' hK=>?_;go_wp2_with fail;refine (HX w2 a A5 c5 P).mono ?_;rintro e w3 ⟨A6,c6,rfl,v,g3⟩;have l:Grew w1 w3:=a.trans g3;have u:=zh v;have H:∀b off,A6=some ⟨b,off,none⟩->b≠g:=λb off e=>by have:=v.2.2.2 b off e;have:=a.size;omega
 have Q:=zh H;clear v H;go_wp2_with fail
 refine hK.out _ _ (.inr (λh=>by
  simp only [g3.cellEq _ _ (fw s.2 a.size),g3.cellEq _ _ (fw E a.size),g3.cellEq _ _ (fw F a.size)]
  exact h)) ?_
 clear hK;refine tQ 8 9 ?_;refine tQ 9 18 ?_;refine tQ 10 19 ?_;refine tQ 11 7 ?_;refine tQ 12 8 ?_;refine AA qk ?_ _;have o:=M.hold l;have f:=N.hold l;have I:LabAt w3 A6 c6 { T.labels[k] with ext:=ke }:=⟨f.id0,f.id1,f.unit0,f.unit1,f.name,f.note,u.1,u.2.1,u.2.2.1⟩;have R:=zh (o.field hk t 4 qd (.slice A6 ke.length c6) ⟨A6,c6,{ T.labels[k] with ext:=ke }⟩ rfl I (λ_=>Q));have S:=zh ((l.turned (λx=>x=g)).trans (BW w3 g (k*5+4) (.slice A6 ke.length c6)));have z4:w3.cell? ⟨g,k*5+4,none⟩=some (.slice B T.labels[k].ext.length d):=o.own.cell t (i:=4) rfl;have z0:w3.cell? ⟨g,k*5,none⟩=some (.int .i64 T.labels[k].id):=o.own.cell0 t rfl;have zf:=o.own.frozen (k*5+4);have Y:=fw s.2 l.size;clear o f I G hS y0 y4 g2 g3 a l;go_wp2_with fail;go_ret;rw [HE.out];exact ⟨rfl,⟨_,R⟩,S⟩
theorem QO (hs:SmallT T) (n:Int) (n0:-9223372036854775808<=n) (n1:n<=9223372036854775807) (gn:Nat) (hb:Blk w gn 3 #[.int .i64 n]):
 Calls Tryz.prog 158 #[.pointer (some ⟨g,k*5,none⟩),.pointer (some ⟨xo,0,none⟩),.pointer (some ⟨gn,0,none⟩)] w1 (LP w1 base g cap T.labels.length (Gu T n k T.labels[k])):=by
 obtain ⟨B,d,o,s,J,_⟩:=h.tab.row hk;have C:=hs.ext T.labels[k] (fq hk);have l:=hb.grew h.grew;have v:=h.tab.own.block_lt;have y0:w1.cell? ⟨g,k*5,none⟩=some (.int .i64 T.labels[k].id):=h.tab.own.cell0 o rfl;have y4:w1.cell? ⟨g,k*5+4,none⟩=some (.slice B T.labels[k].ext.length d):=h.tab.own.cell o (i:=4) rfl;obtain ⟨ke,t⟩:∃ke,UB T.labels[k].ext n=ke:=⟨_,rfl⟩;obtain ⟨er,u⟩:∃er,T2 T.labels[k].ext n=er:=⟨_,rfl⟩;have HE:=zh (show Gu T n k T.labels[k]=(T.labels.set k { T.labels[k] with ext:=ke },er) from by unfold Gu;rw [t,u]);have HX:=zh (λ(w2:World) (g2:Grew w1 w2)=>RD (A:=B) (c:=d) (m:=T.labels[k].ext.length) (w:=w2) rfl C ((s.hold g2).runs) n n0 n1 ke er t u);have D:=zh h.tab;have p:=zh o;have E:=zh s;have K:=zh l;have hS:(λw':World=>w'.cell? ⟨g,k*5,none⟩=some (.int .i64 T.labels[k].id)/\w'.cell? ⟨g,k*5+4,none⟩=some (.slice B T.labels[k].ext.length d)/\w'.cell? ⟨gn,0,none⟩=some (.int .i64 n)) w1.drew:=⟨y0,y4,l.cell 0⟩;have F:=l.lt;clear h o s J t u hb l;go_enter Tryz.func158,Tryz.ntmps158;go_wp2_with fail;refine AB [] (λw':World=>w'.cell? ⟨g,k*5,none⟩=some (.int .i64 T.labels[k].id)/\w'.cell? ⟨g,k*5+4,none⟩=some (.slice B T.labels[k].ext.length d)/\w'.cell? ⟨gn,0,none⟩=some (.int .i64 n)) qk ?_;refine tQ 0 10 ?_;refine tT 1 (some 11) hS ?_;refine tQ 2 12 ?_;refine tT 3 (some 13) hS ?_;refine tT 4 (some 14) hS ?_;refine tO 5 λK' hK=>?_;go_wp2_with fail;refine (HX _ (fh w1).drew).mono ?_;rintro e w3 ⟨A6,c6,A7,n7,c7,rfl,r,g3⟩;have a:Grew w1 w3:=(fh w1).drew.trans g3;have q:=zh r;have y:∀b off,A6=some ⟨b,off,none⟩->b≠g:=λb off e=>by have:w1.heap.size<=b:=r.2.2.2 b off e;omega
 have G:=zh y;clear r y;go_wp2_with fail
 refine hK.out _ _ (.inr (λh=>by
  simp only [a.cellEq _ _ v.2,a.cellEq _ _ F]
  exact h)) ?_
 clear hK;refine tQ 6 9 ?_;refine tQ 7 16 ?_;refine tQ 8 17 ?_;refine tQ 9 18 ?_;refine tQ 10 6 ?_;refine tQ 11 7 ?_;refine tQ 12 8 ?_;refine AA qk ?_ _;have j:=D.hold a;have f:=E.hold a;have z:LabAt w3 A6 c6 { T.labels[k] with ext:=ke }:=⟨f.id0,f.id1,f.unit0,f.unit1,f.name,f.note,q.1,q.2.1,q.2.2.1⟩;have H:=zh (j.field hk p 4 qd (.slice A6 ke.length c6) ⟨A6,c6,{ T.labels[k] with ext:=ke }⟩ rfl z (λ_=>G));have I:=zh ((a.turned (λx=>x=g)).trans (BW w3 g (k*5+4) (.slice A6 ke.length c6)));have z4:w3.cell? ⟨g,k*5+4,none⟩=some (.slice B T.labels[k].ext.length d):=j.own.cell p (i:=4) rfl;have z0:w3.cell? ⟨g,k*5,none⟩=some (.int .i64 T.labels[k].id):=j.own.cell0 p rfl;have zf:=j.own.frozen (k*5+4);have L:=fw v.2 a.size;clear j f z hS y0 y4 g3 a;go_wp2_with fail;go_ret;rw [HE.out];exact ⟨rfl,⟨_,H⟩,I⟩
end

theorem TabO.row0 {w:World} {base g n cap:Nat} {ys:List LabE} {ls:List Lab} (h:TabO w base (.slice (some ⟨g,0,none⟩) n cap) ys ls) {k:Nat} (hk:k<ls.length):w.cell? ⟨g,k*5,none⟩=some (.int .i64 ls[k].id):=by
 obtain ⟨B,d,a,_,_,_⟩:=h.row hk;exact h.own.cell0 a rfl
theorem TabO.row1 {w:World} {base g n cap:Nat} {ys:List LabE} {ls:List Lab} (h:TabO w base (.slice (some ⟨g,0,none⟩) n cap) ys ls) {k:Nat} (hk:k<ls.length):w.cell? ⟨g,k*5+1,none⟩=some (.int .i64 ls[k].unit):=by
 obtain ⟨B,d,a,_,_,_⟩:=h.row hk;exact h.own.cell a (i:=1) rfl
theorem TabO.row3 {w:World} {base g n cap:Nat} {ys:List LabE} {ls:List Lab} (h:TabO w base (.slice (some ⟨g,0,none⟩) n cap) ys ls) {k:Nat} (hk:k<ls.length):w.cell? ⟨g,k*5+3,none⟩=some (.string ls[k].note):=by
 obtain ⟨B,d,a,_,_,_⟩:=h.row hk;exact h.own.cell a (i:=3) rfl
theorem TabO.unit_ {w:World} {base g n cap:Nat} {ys:List LabE} {ls:List Lab} (h:TabO w base (.slice (some ⟨g,0,none⟩) n cap) ys ls) {k:Nat} (hk:k<ls.length) (u:Int) (hu:-9223372036854775808<=u/\u<=9223372036854775807):∃ys',TabO (w.setCell ⟨g,k*5+1,none⟩ (.int .i64 u)) base (.slice (some ⟨g,0,none⟩) n cap) ys' (ls.set k { ls[k] with unit:=u }):=by
 obtain ⟨B,d,b,a,c,_⟩:=h.row hk;exact ⟨_,h.field hk b 1 qd (.int .i64 u) ⟨B,d,{ ls[k] with unit:=u }⟩ rfl ⟨a.id0,a.id1,hu.1,hu.2,a.name,a.note,a.runs,a.len,a.cap⟩ c⟩
theorem TabO.note_ {w:World} {base g n cap:Nat} {ys:List LabE} {ls:List Lab} (h:TabO w base (.slice (some ⟨g,0,none⟩) n cap) ys ls) {k:Nat} (hk:k<ls.length) (u:ByteArray) (hu:u.size<=9223372036854775807):∃ys',TabO (w.setCell ⟨g,k*5+3,none⟩ (.string u)) base (.slice (some ⟨g,0,none⟩) n cap) ys' (ls.set k { ls[k] with note:=u }):=by
 obtain ⟨B,d,b,a,c,_⟩:=h.row hk;exact ⟨_,h.field hk b 3 qd (.string u) ⟨B,d,{ ls[k] with note:=u }⟩ rfl ⟨a.id0,a.id1,a.unit0,a.unit1,a.name,hu,a.runs,a.len,a.cap⟩ c⟩
theorem SI {S:Nat->Prop} {w w':World} {A:Option Addr} {l:List (Int × Int)} (h:RunsAt w w.heap.size A l) (ht:Turned S w w') (hS:0<l.length->∀b off,A=some ⟨b,off,none⟩->¬S b):RunsAt w' w'.heap.size A l:=
 ⟨h.1,λh0=>by
  obtain ⟨b,off,e,hb,hc⟩:=h.2 h0
  exact ⟨b,off,e,fw hb ht.size,λj cs hj i v hi=>by rw [ht.cellEq _ _ hb (hS (by simpa using h0) b off e)];exact hc j cs hj i v hi⟩⟩
theorem TabO.tabAt {w:World} {base g n cap:Nat} {ys:List LabE} {ls:List Lab} (h:TabO w base (.slice (some ⟨g,0,none⟩) n cap) ys ls) (nm:ByteArray) (t:Int) (hn:nm.size<=9223372036854775807) (t0:-9223372036854775808<=t) (t1:t<=9223372036854775807):TabAt w (some ⟨g,0,none⟩) cap ys ⟨nm,t,ls⟩:=by
 obtain ⟨A,c,hv,ht⟩:=h.form;injection hv with h1 _ h3;rw [h1,h3];exact ht nm t hn t0 t1
section
variable (w w1:World) (base g cap xo:Nat) (ys:List LabE) (T:Tab) (k:Nat) (hk:k<T.labels.length) (h:OutAt w w1 base g cap xo ys T)
include h
theorem Qr (hs:SmallT T) (O:T.name.size<=9223372036854775807) (P:-9223372036854775808<=T.tracks) (N:T.tracks<=9223372036854775807) (Ax:Option Addr) (cx:Nat) (ex:List (Int × Int)) (hx:RunsAt w w.heap.size Ax ex) (Q:ex.length<=1000) (ge:Nat) (hb:Blk w ge 33 #[.slice Ax ex.length cx]):
 Calls Tryz.prog 155 #[.pointer (some ⟨g,k*5,none⟩),.pointer (some ⟨xo,0,none⟩),.pointer (some ⟨ge,0,none⟩)] w1 (LP w1 base g cap T.labels.length (GZ T ex k T.labels[k])):=by
 obtain ⟨B,d,D,E,a2,_⟩:=h.tab.row hk;have a6:=hs.ext T.labels[k] (fq hk);have o:=hb.grew h.grew;have F:=h.tab.own.block_lt;have a7:=h.blk.lt;have R:=h.ne;have y0:w1.cell? ⟨g,k*5,none⟩=some (.int .i64 T.labels[k].id):=h.tab.row0 hk;have y4:w1.cell? ⟨g,k*5+4,none⟩=some (.slice B T.labels[k].ext.length d):=h.tab.own.cell D (i:=4) rfl;have S:=zh (IY (A:=B) (c:=d) (n:=T.labels[k].ext.length) rfl oo E.runs _ rfl);have HX:=zh (λ(w2:World) (g2:Grew w1 w2)=>Hj Ax cx ex.length ex w2 rfl oo ((hx.keep (fk _) (h.grew.trans g2)).mono2 (h.grew.trans g2).size).2);have U:=zh (λ(w2:World) (g2:Grew w1 w2)=>((hx.keep (fk _) (h.grew.trans g2)).mono2 (h.grew.trans g2).size:RunsAt w2 w2.heap.size Ax ex));have V:=zh hx.1;have W:=zh h.tab;have X:=zh h.blk;have G:=zh D;have Y:=zh E;have t:=zh o;have H:=o.lt;have a8:=hb.lt;have Z:¬ge=g:=by have:=h.hg;omega
 have aa:=zh (show ∀b off,0<ex.length->Ax=some ⟨b,off,none⟩->b≠g from λb off h0 e=>by
  obtain ⟨b',bo,e',br,_⟩:=hx.2 (by simpa using h0)
  rw [e] at e'
  injection e' with e'
  injection e' with e'
  have:=h.hg
  omega)
 have x0:=o.cell 0;obtain ⟨T',j⟩:∃T':Tab,T'={ T with labels:=T.labels.set k { T.labels[k] with ext:=ex } }:=⟨_,rfl⟩
 have ad:=zh (show SmallT T' from by
  subst j
  refine ⟨by simpa using hs.len,λl hl=>?_⟩
  rcases gY hl with hl | rfl
  . exact hs.ext l hl
  . exact Q)
 have ae:=zh (show T'.labels=T.labels.set k { T.labels[k] with ext:=ex } from by rw [j]);have aj:=zh (show T.labels.length=T'.labels.length from by rw [j];simp);have al:=zh (show T'.name=T.name from by rw [j]);have an:=zh (show T'.tracks=T.tracks from by rw [j]);have u:=zh (show GZ T ex k T.labels[k]=(T.labels.set k { T.labels[k] with ext:=ex },if AW ex=AW T.labels[k].ext/\A0 T'=true then 0 else 1) from by rw [j];rfl);have a9:=FH ex;have bb:=FH T.labels[k].ext;clear h D E a2 hb o j hx;go_enter Tryz.func155,Tryz.ntmps155;go_wp2_with fail;refine S.mono ?_;rintro e w2 ⟨rfl,g2⟩;have x0:=(t.grew g2).cell 0;have bc:=fw H g2.size;go_wp2_with fail;refine (HX w2 g2).mono ?_;rintro e w3 ⟨v3,rfl,C,g3⟩;obtain ⟨A3,c3,a3,a4,a5,M⟩:=Fu C V;subst a3;have a:Grew w1 w3:=g2.trans g3;have I:=Qg C (fw F.2 g2.size) rfl;have m:=W.hold a;have f:=Y.hold a;have J:LabAt w3 A3 c3 { T.labels[k] with ext:=ex }:=⟨f.id0,f.id1,f.unit0,f.unit1,f.name,f.note,M,a4,a5⟩;have q:=zh (m.field hk G 4 qd (.slice A3 ex.length c3) ⟨A3,c3,{ T.labels[k] with ext:=ex }⟩ rfl J (λ_=>I));have v:=zh ((a.turned (λx=>x=g)).trans (BW w3 g (k*5+4) (.slice A3 ex.length c3)));have z4:w3.cell? ⟨g,k*5+4,none⟩=some (.slice B T.labels[k].ext.length d):=m.own.cell G (i:=4) rfl;have z0:w3.cell? ⟨g,k*5,none⟩=some (.int .i64 T.labels[k].id):=m.row0 hk;have zf:=m.own.frozen (k*5+4);have bd:=fw F.2 a.size;have x3:=(t.grew a).cell 0;have bf:=fw H a.size;have b4:=(t.grew a).far (p:=⟨g,k*5+4,none⟩) Z (.slice A3 ex.length c3);have o4:=(X.grew a).far (p:=⟨g,k*5+4,none⟩) R (.slice A3 ex.length c3);have r4:=SI (U w3 a) (BW w3 g (k*5+4) (.slice A3 ex.length c3)) (λh0 b off e=>aa b off h0 e);have bk:=(BW w3 g (k*5+4) (.slice A3 ex.length c3)).size;have av:=zh o4;have K:=zh (IY (A:=Ax) (c:=cx) (n:=ex.length) rfl oo r4 _ rfl);have bl:=o4.lt;clear C M I m f J g2 g3 a b4 o4 r4 y0 y4 x0;by_cases s:AW ex=AW T.labels[k].ext;rotate_left
 . have a0:((AW ex:Int) != (AW T.labels[k].ext:Int))=true:=by rw [gu];omega
   have HE:=zh (u.out.trans (by rw [if_neg (λh=>s h.1)]));clear s;go_wp2_with fail;refine K.mono ?_;rintro e w5 ⟨rfl,g5⟩;go_wp2_with fail;go_ret;rw [HE.out];exact ⟨rfl,⟨_,q.hold g5⟩,v.out.trans (g5.turned _)⟩
 have a0:((AW ex:Int) != (AW T.labels[k].ext:Int))=false:=by rw [jZ];omega
 have a1:=zh s;clear s;go_wp2_with fail;refine K.mono ?_;rintro e w5 ⟨rfl,g5⟩;have o5:=av.grew g5;have u0:=o5.cell 0;have u1:=o5.cell 1;have u2:=o5.cell 2;have bn:=o5.lt;have y:=(q.hold g5).tabAt T.name T.tracks O P N;rw [<-ae.out] at y;have HV:=zh (Eo _ _ _ _ w5 y (by have:=ad.out;exact ⟨this.len,this.ext⟩) T.labels.length aj);have L:=zh (show A0 ⟨T.name,T.tracks,T'.labels⟩=A0 T' from by rw [<-al.out,<-an.out]);have r:=zh g5;clear o5 g5 y;cases hv:A0 T' with
 | false=>
   have HE:=zh (u.out.trans (by rw [if_neg (λh=>by rw [hv] at h;cases h.2)]));have z:=zh hv;clear hv;go_wp2_with fail;refine HV.mono ?_;rintro e w6 ⟨rfl,g6⟩;rw [L.out,z.out];go_wp2_with fail;go_ret;rw [HE.out];exact ⟨rfl,⟨_,(q.hold r).hold g6⟩,(v.out.trans (r.turned _)).trans (g6.turned _)⟩
 | true=>
   have HE:=zh (u.out.trans (by rw [if_pos ⟨a1.out,hv⟩]));have z:=zh hv;clear hv;go_wp2_with fail;refine HV.mono ?_;rintro e w6 ⟨rfl,g6⟩;rw [L.out,z.out];go_wp2_with fail;go_ret;rw [HE.out];exact ⟨rfl,⟨_,(q.hold r).hold g6⟩,(v.out.trans (r.turned _)).trans (g6.turned _)⟩
end

end
end Go.Proofs.YtfklieeipokllaaGreat
