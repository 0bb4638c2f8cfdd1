/- Parts of the proof (packed), 19. -/
import Derived.Test.YtfklieeipokllaaGreatCyQ
namespace Go.Proofs.YtfklieeipokllaaGreat
set_option linter.all false
set_option maxRecDepth 100000
set_option maxHeartbeats 16000000
open List
section
open Go.RowKit
theorem R5 (T:Tab) (h:GoodT T) (i j:Nat) (hi:i<T.labels.length) (hj:j<T.labels.length) (h1:emL T.labels[i]=false) (h2:emL T.labels[j]=false) (he:GR T.labels[i]=GR T.labels[j]):i=j:=by
 have hk:=h.keys;unfold Bz at hk;rw [Nodup,jL,pairwise_filter,jU] at hk;rcases Nat.lt_trichotomy i j with a | b | c
 . exact absurd he (hk i j hi hj a (by rw [h1];rfl) (by rw [h2];rfl))
 . exact b
 . exact absurd he.symm (hk j i hj hi c (by rw [h2];rfl) (by rw [h1];rfl))
theorem K4 (l:Lab) (h:l.id≠0):emL l=false:=by
 cases he:emL l with
 | false=>rfl
 | true=>rw [(Fj l).1 he] at h;exact absurd rfl h
theorem Zv (T:Tab) (h:GoodT T) (id unit:Int) (i j:Nat) (hi:i<T.labels.length) (hj:j<T.labels.length) (h1:T.labels[i].id=id) (h2:T.labels[j].id=id) (h0:id≠0) (hu:(decide (0<T.labels[i].unit))=decide (0<T.labels[j].unit)):i=j:=
 R5 T h i j hi hj (K4 _ (by rw [h1];exact h0)) (K4 _ (by rw [h2];exact h0)) (by unfold GR;rw [h1,h2,hu])

theorem O4 {α:Type _} (ls:List α) (k:Nat) (hk:k<ls.length) (x:α):ls.set k x=ls.take k++x::ls.drop (k+1):=by
 rw [set_eq_take_append_cons_drop,if_pos hk]
theorem Ht {α:Type _} (ls:List α) (k:Nat) (hk:k<ls.length):ls=ls.take k++ls[k]::ls.drop (k+1):=by
 rw [<-iz hk,jR]
theorem Ov (a b:List Lab):Bz (a++b)=Bz a++Bz b:=by unfold Bz;rw [jF,fz]
theorem N9 (x:Lab) (b:List Lab):Bz (x::b)=(if emL x=true then [] else [GR x])++Bz b:=by
 unfold Bz;rw [filter_cons];cases h:emL x<;>simp
theorem JL (a b:List Lab):Bo (a++b)=Bo a++Bo b:=by simp [Bo]
theorem Ex (x:Lab) (b:List Lab):Bo (x::b)=x.ext++Bo b:=rfl
theorem PK (ls:List Lab) (p:Int × Bool) (h:p∈Bz ls):∃(j:Nat) (hj:j<ls.length),emL ls[j]=false/\GR ls[j]=p:=by
 unfold Bz at h;obtain ⟨l,hl,rfl⟩:=ft.1 h;obtain ⟨hm,he⟩:=iM.1 hl;obtain ⟨j,hj,rfl⟩:=List.getElem_of_mem hm;exact ⟨j,hj,by simpa using he,rfl⟩
theorem PL {α:Type _} {A K0 K D:List α} (h:(A++(K0++D)).Nodup) (hK:K.Nodup) (hA:∀a∈A,∀b∈K,a≠b) (hD:∀a∈K,∀b∈D,a≠b):(A++(K++D)).Nodup:=by
 obtain ⟨h1,h2,h3⟩:=iZ.1 h;obtain ⟨_,h5,_⟩:=iZ.1 h2;refine iZ.2 ⟨h1,iZ.2 ⟨hK,h5,hD⟩,λa ha b hb=>?_⟩;rcases gC.1 hb with hb | hb
 . exact hA a ha b hb
 . exact h3 a ha b (gw _ hb)
theorem GJ (T:Tab) (h:GoodT T) (k:Nat) (hk:k<T.labels.length) (x:Lab) (hx:emL x=true\/BO x T.tracks=true)
 (d:emL x=true\/∀j (hj:j<T.labels.length),j≠k->emL T.labels[j]=false->GR T.labels[j]≠GR x)
 (g:(BP x.ext).Nodup) (f:∀t∈BP x.ext,t∈BP T.labels[k].ext\/t ∉ BP (Bo T.labels)):GoodT { T with labels:=T.labels.set k x }:=by
 refine ⟨h.tr,h.nm,?_,?_,?_,?_⟩
 . rw [<-h.len];simp
 . intro l hl;rcases gY hl with hl | rfl
   . exact h.ok l hl
   . exact hx
 . have h0:=h.keys;show (Bz (T.labels.set k x)).Nodup;rw [Ht T.labels k hk,Ov,N9] at h0;rw [O4 _ k hk,Ov,N9];refine PL h0 ?_ ?_ ?_
   . split<;>simp
   . intro a ha b hb;split at hb
     . cases hb
     . rename_i he;rw [fp.1 hb];obtain ⟨j,hj,e1,e2⟩:=PK _ _ ha;rw [iX] at hj;rw [getElem_take] at e1 e2;rw [<-e2];rcases d with c | c
       . exact absurd c he
       . exact c j oo oo e1
   . intro a ha b hb;split at ha
     . cases ha
     . rename_i he;rw [fp.1 ha];obtain ⟨j,hj,e1,e2⟩:=PK _ _ hb;rw [length_drop] at hj;rw [getElem_drop] at e1 e2;rw [<-e2];rcases d with c | c
       . exact absurd c he
       . exact λe=>c (k+1+j) oo oo e1 e.symm
 . have h0:=h.seq;show (BP (Bo (T.labels.set k x))).Nodup;rw [Ht T.labels k hk,JL,Ex,CY,CY] at h0;rw [O4 _ k hk,JL,Ex,CY,CY];obtain ⟨_,g2,g3⟩:=iZ.1 h0;obtain ⟨_,_,g6⟩:=iZ.1 g2;refine PL h0 g (λa ha b hb e=>?_) (λa ha b hb e=>?_)
   . subst e;rcases f a hb with hc | hc
     . exact g3 a ha a (iH _ hc) rfl
     . refine hc ?_;rw [Ht T.labels k hk,JL,Ex,CY];exact iH _ ha
   . subst e;rcases f a ha with hc | hc
     . exact g6 a hc a hb rfl
     . refine hc ?_;rw [Ht T.labels k hk,JL,Ex,CY,CY];exact gw _ (gw _ hb)
def OQ (a b:List Lab):Nat:=(a.zip b).countP λp=>!eqL p.1 p.2
theorem Gv (x y:Lab) (a b:List Lab):OQ (x::a) (y::b)=OQ a b+if eqL x y=true then 0 else 1:=by
 unfold OQ;rw [zip_cons_cons,countP_cons];cases h:eqL x y<;>simp
theorem Wy (a:List Lab):OQ a a=0:=by
 induction a with
 | nil=>rfl
 | cons x a ih=>rw [Gv,ih,if_pos ((I4 x x).2 rfl)]
theorem Q0:∀(a c:List Lab) (k:Nat) (x:Lab),OQ (a.set k x) c<=OQ a c+1
 | [],c,k,x=>by simp [OQ]
 | y::a,[],k,x=>by unfold OQ;simp
 | y::a,z::c,0,x=>by
   rw [set_cons_zero,Gv,Gv];split<;>split<;>omega
 | y::a,z::c,k+1,x=>by
   rw [set_cons_succ,Gv,Gv];have:=Q0 a c k x;omega
structure KeepT (T U:Tab) (m:Nat):Prop where
 good:GoodT U
 name:U.name=T.name
 tracks:U.tracks=T.tracks
 len:U.labels.length=T.labels.length
 diff:OQ U.labels T.labels<=m
theorem KeepT.refl (T:Tab) (h:GoodT T):KeepT T T 0:=⟨h,rfl,rfl,rfl,by rw [Wy];exact fk _⟩
theorem KeepT.set {T U:Tab} {m:Nat} (h:KeepT T U m) (k:Nat) (x:Lab) (hg:GoodT { U with labels:=U.labels.set k x }):KeepT T { U with labels:=U.labels.set k x } (m+1):=
 ⟨hg,h.name,h.tracks,by rw [<-h.len];simp,by have:=Q0 U.labels T.labels k x;have:=h.diff;show OQ (U.labels.set k x) T.labels<=_;omega⟩
theorem NJ (T:Tab) (h:GoodT T) (i:Nat):AG (Ce T) i=true->(ttS T.tracks<=(i:Int)/\(i:Int)<T.tracks)/\AG (Bo T.labels) i=false:=by
 intro hm;have a:=KC _ _ hm;unfold Ce at hm;rw [if_pos ((AX T).2 h)] at hm;unfold Nq at hm;rw [IA _ i a,gZ,jT] at hm;unfold Pc at hm;exact ⟨gV hm.1,hm.2⟩
theorem LZ (T U:Tab) (id a:Int) (F:Nat->Lab->List Lab × Int) (h:Bg T id a F=(U,0)):
 GoodT T/\∃(k:Nat) (hk:k<T.labels.length),FY id a T.labels[k]=true/\(F k T.labels[k]).2=0/\U={ T with labels:=(F k T.labels[k]).1 }:=by
 rcases Nf T id a F with ⟨_,hx⟩ | ⟨_,_,hx⟩ | ⟨hv,k,hk,_,b,hx⟩
 . rw [hx] at h;injection h with _ h;exact absurd h qd
 . rw [hx] at h;injection h with _ h;exact absurd h qd
 rcases hx with ⟨h0,hx⟩ | ⟨h0,hx⟩
 . rw [hx] at h;injection h with h _;exact ⟨(AX T).1 hv,k,hk,b,h0,h.symm⟩
 . rw [hx] at h;injection h with _ h;exact absurd h h0
theorem Gz (T:Tab) (h:GoodT T) (id a:Int) (k:Nat) (hk:k<T.labels.length) (hh:FY id a T.labels[k]=true):emL T.labels[k]=false/\BO T.labels[k] T.tracks=true:=by
 obtain ⟨h1,h2,_⟩:=(FL _ _ _).1 hh;have he:=K4 _ (by rw [h2];exact h1);refine ⟨he,?_⟩;rcases h.ok _ (fq hk) with h3 | h3
 . rw [he] at h3;cases h3
 . exact h3
theorem Me (T:Tab) (h:GoodT T) (k:Nat) (hk:k<T.labels.length) (he:emL T.labels[k]=false) (x:Lab) (hx:GR x=GR T.labels[k]):
 ∀j (hj:j<T.labels.length),j≠k->emL T.labels[j]=false->GR T.labels[j]≠GR x:=
 λj hj hne h1 e=>hne (R5 T h j k hj hk h1 he (by rw [e,hx]))
theorem Hr (Z:List (Nat × Nat)) (h:(Bx Z).length≠0):1<=Z.length:=by
 cases Z with
 | nil=>exact absurd rfl h
 | cons x Z=>simp
theorem EU (T U:Tab) (id a:Int) (nm nt:ByteArray) (n:Int) (h:Bw T id a nm nt n=(U,0)):KeepT T U 1:=by
 unfold Bw at h;by_cases h1:A0 T=true/\Oc id a nm nt n;rotate_left
 . rw [if_neg h1] at h;injection h with _ h;exact absurd h qd
 rw [if_pos h1] at h;by_cases h2:T.labels.any (IC id)=true
 . rw [if_pos h2] at h;injection h with _ h;exact absurd h qd
 rw [if_neg h2] at h;by_cases h3:Hd emL T.labels<0
 . rw [if_pos h3] at h;injection h with _ h;exact absurd h qd
 rw [if_neg h3] at h;by_cases h4:(BV (AG (Ce T)) n 16).2=0;rotate_left
 . rw [if_neg h4] at h;injection h with _ h;exact absurd h qd
 rw [if_pos h4] at h;injection h with h _;subst h;obtain ⟨hv,i1,i2,i3,i4,i5,i6,i7⟩:=h1;have hg:=(AX T).1 hv;rcases EA emL T.labels with ⟨k,hk,e,hp,_⟩ | ⟨e,_⟩;rotate_left
 . omega
 rw [e,gQ];rcases Rq (Ce T) n 16 i7 qd with ⟨x,hx,a1,a2,a3,a4,a5⟩ | ⟨hx,_⟩;rotate_left
 . rw [hx] at h4;exact absurd h4 qd
 have hj:=U8 _ _ _ h4;rw [hx] at hj ⊢;simp only [] at hj ⊢;have b:BP (AK x)=Bx x:=Bi x a5;have c:∀i∈BP (AK x),(ttS T.tracks<=(i:Int)/\(i:Int)<T.tracks)/\AG (Bo T.labels) i=false:=λi hi=>NJ T hg i (a4 i ((DH _ i).1 hi));refine (KeepT.refl T hg).set k _ (GJ T hg k hk _ (.inr ?_) (.inr ?_) a3 (λt ht=>.inr (λhm=>?_)))
 . refine NX T.tracks _ x hg.tr ?_ ?_ rfl hj a5 ?_ oo (by rw [<-b];exact a3) (λi hi=>(c i (by rw [b];exact hi)).1)
   . unfold idB;exact gD ⟨i1,i2,by show 0<=a;omega,i4⟩
   . unfold txB;exact gD ⟨i5,i6⟩
   . refine Hr x ?_;rw [<-b,EY];omega
 . intro j hj _ _ he;unfold GR at he;injection he with e1 e2;have hu:decide (0<a)=true:=gD oo;refine h2 (jD.2 ⟨_,fq hj,?_⟩);unfold IC;simp only [] at e1 e2;rw [e2,e1,hu];simp
 . have:=(c t ht).2;rw [(DH _ t).1 hm] at this;cases this
theorem Hl (T U:Tab) (id c n:Int) (h:Bg T id c (Gy T n)=(U,0)):KeepT T U 1:=by
 obtain ⟨hg,k,hk,hh,h0,rfl⟩:=LZ T U id c _ h;obtain ⟨he,j⟩:=Gz T hg id c k hk hh;obtain ⟨_,l,m,_,_,_⟩:=DB _ _ j;obtain ⟨r1,r2,r3,r4,r5,r6⟩:=GI _ _ j;unfold Gy at h0 ⊢;simp only [] at h0 ⊢;obtain ⟨M,m1,m2,m3,m4,m5,m6,m7,m8,m9⟩:=fA _ _ _ h0;have hb:=Vl T.labels[k].ext (Ce T) n;have hj:=Yi _ _ _ h0;have d:=Bi _ hb;have f:∀i∈M,(ttS T.tracks<=(i:Int)/\(i:Int)<T.tracks)/\AG (Bo T.labels) i=false:=λi hi=>NJ T hg i (m6 i hi).1
 have g:(BP (AK (Dw T.labels[k].ext (Ce T) n).1)).Nodup:=by
  rw [m1];refine iZ.2 ⟨r2,m5,λa ha b hb e=>?_⟩;subst e;have:=(m6 a hb).2;rw [(DH _ a).1 ha] at this;cases this
 refine (KeepT.refl T hg).set k _ (GJ T hg k hk _ (.inr ?_) (.inr (Me T hg k hk he _ rfl)) g (λt ht=>?_))
 . refine NX T.tracks _ _ hg.tr l m rfl hj hb ?_ oo (by rw [<-d];exact g) (λi hi=>?_)
   . refine Hr _ ?_;rw [<-d,m1,gK,EY];omega
   . rw [<-d,m1] at hi;rcases gC.1 hi with hi | hi
     . exact r3 i hi
     . exact (f i hi).1
 . simp only [] at ht;rw [m1] at ht;rcases gC.1 ht with ht | ht
   . exact .inl ht
   . refine .inr (λhm=>?_);have:=(f t ht).2;rw [(DH _ t).1 hm] at this;cases this
theorem Ge (T U:Tab) (id a n:Int) (h:Bg T id a (Gu T n)=(U,0)):KeepT T U 1:=by
 obtain ⟨hg,k,hk,hh,h0,rfl⟩:=LZ T U id a _ h;obtain ⟨he,d⟩:=Gz T hg id a k hk hh;obtain ⟨_,e,f,_,_,_⟩:=DB _ _ d;obtain ⟨r1,r2,r3,r4,r5,r6⟩:=GI _ _ d;unfold Gu at h0 ⊢;simp only [] at h0 ⊢;unfold T2 at h0;unfold UB;by_cases hc:n<1\/(AW T.labels[k].ext:Int)<n
 . rw [if_pos hc] at h0;exact absurd h0 qd
 rw [if_neg hc];have hs:BP (AK (Bb (AK (EB T.labels[k].ext n.toNat))))=(BP T.labels[k].ext).take n.toNat:=by rw [J2,Yj]
 have hb:=DE (AK (EB T.labels[k].ext n.toNat));have b:=Bi _ hb;have c:(BP (AK (Bb (AK (EB T.labels[k].ext n.toNat))))).Nodup:=by rw [hs];exact r2.sublist (take_sublist _ _)
 have g:(BP T.labels[k].ext).length=AW T.labels[k].ext:=EY _;refine (KeepT.refl T hg).set k _ (GJ T hg k hk _ (.inr ?_) (.inr (Me T hg k hk he _ rfl)) c (λt ht=>?_))
 . refine NX T.tracks _ _ hg.tr e f rfl (by rw [Fn];exact J1 _) hb ?_ ?_ (by rw [<-b];exact c) (λi hi=>?_)
   . refine Hr _ ?_;rw [<-b,hs,iX];omega
   . have h1:=DJ (AK (EB T.labels[k].ext n.toNat))
     have h2:(EB T.labels[k].ext n.toNat).length<=T.labels[k].ext.length:=by
      have:∀(l:List (Int × Int)) (n:Nat),(EB l n).length<=l.length:=by
       intro l
       induction l with
       | nil=>intro n;exact fk _
       | cons r l ih=>intro n;have:=ih (n - (Ag r).2);simp only [EB,iY];omega
      exact this _ _
     rw [AZ] at h1;omega
   . rw [<-b,hs] at hi;exact r3 i (iu hi)
 . simp only [] at ht;rw [hs] at ht;exact .inl (iu ht)
theorem Gd (T U:Tab) (id a:Int) (ex:List (Int × Int)) (h:Bg T id a (GZ T ex)=(U,0)):KeepT T U 1:=by
 obtain ⟨hg,k,hk,hh,h0,rfl⟩:=LZ T U id a _ h;unfold GZ at h0 ⊢;simp only [] at h0 ⊢;by_cases hc:AW ex=AW T.labels[k].ext/\A0 { T with labels:=T.labels.set k { T.labels[k] with ext:=ex } }=true;rotate_left
 . rw [if_neg hc] at h0;exact absurd h0 qd
 exact (KeepT.refl T hg).set k _ ((AX _).1 hc.2)
theorem Jn (T U:Tab) (id a:Int) (note:ByteArray) (h:Bg T id a (Eu T note)=(U,0)):KeepT T U 1:=by
 obtain ⟨hg,k,hk,hh,h0,rfl⟩:=LZ T U id a _ h;obtain ⟨he,b⟩:=Gz T hg id a k hk hh;obtain ⟨h1,h2,h3,h4,h5,h6⟩:=DB _ _ b;obtain ⟨_,r2,_⟩:=GI _ _ b;unfold Eu at h0 ⊢;by_cases hc:400<note.size
 . rw [if_pos hc] at h0;cases h0
 rw [if_neg hc];refine (KeepT.refl T hg).set k _ (GJ T hg k hk _ (.inr ?_) (.inr (Me T hg k hk he _ rfl)) r2 (λt ht=>.inl ht))
 have c:txB { T.labels[k] with note:=note }=true:=by
  unfold txB at h3 ⊢;have:=gV h3;exact gD ⟨this.1,by show note.size<=400;omega⟩
 unfold BO;rw [h1,c,show idB { T.labels[k] with note:=note }=true from h2,show cnB { T.labels[k] with note:=note }=true from h4,show jnB { T.labels[k] with note:=note }=true from h5,show inB { T.labels[k] with note:=note } T.tracks=true from h6];rfl
theorem Pa (T:Tab) (hg:GoodT T) (k:Nat) (hk:k<T.labels.length):GoodT { T with labels:=T.labels.set k BH }:=
 GJ T hg k hk BH (.inl ((Fj _).2 rfl)) (.inl ((Fj _).2 rfl)) qd (λt ht=>by cases ht)
theorem Hk (T U:Tab) (id a:Int) (h:Bg T id a (JU T)=(U,0)):KeepT T U 1:=by
 obtain ⟨hg,k,hk,hh,h0,rfl⟩:=LZ T U id a _ h;exact (KeepT.refl T hg).set k _ (Pa T hg k hk)
theorem Gg (T U:Tab) (id unit:Int) (note:ByteArray) (h:Bg T id unit (IE T id note)=(U,0)):KeepT T U 2:=by
 obtain ⟨hg,k,hk,hh,h0,rfl⟩:=LZ T U id unit _ h;obtain ⟨he,n⟩:=Gz T hg id unit k hk hh;obtain ⟨h1,h2,h3,h4,h5,h6⟩:=DB _ _ n;obtain ⟨_,r2,_⟩:=GI _ _ n;obtain ⟨i1,i2,i3⟩:=(FL _ _ _).1 hh;unfold IE at h0 ⊢;by_cases hu:T.labels[k].unit=0
 . rw [if_pos hu] at h0;cases h0
 rw [if_neg hu] at h0 ⊢;by_cases hc:400<note.size
 . rw [if_pos hc] at h0;cases h0
 rw [if_neg hc];simp only []
 have d:BO { T.labels[k] with unit:=0,note:=note } T.tracks=true:=by
  have o:txB { T.labels[k] with unit:=0,note:=note }=true:=by
   unfold txB at h3 ⊢;have:=gV h3;exact gD ⟨this.1,by show note.size<=400;omega⟩
  have p:idB { T.labels[k] with unit:=0,note:=note }=true:=by
   unfold idB at h2 ⊢;have:=gV h2;exact gD ⟨this.1,this.2.1,Int.le_refl 0,(by show (0:Int)<=1099511627776;omega)⟩
  unfold BO;rw [h1,o,p,show cnB { T.labels[k] with unit:=0,note:=note }=true from h4,show jnB { T.labels[k] with unit:=0,note:=note }=true from h5,show inB { T.labels[k] with unit:=0,note:=note } T.tracks=true from h6];rfl
 have f:GR { T.labels[k] with unit:=0,note:=note }=(id,false):=by unfold GR;rw [show T.labels[k].id=id from i2];rfl
 have g:∀j (hj:j<T.labels.length),emL T.labels[j]=false->GR T.labels[j]=(id,false)->FY id 0 T.labels[j]=true:=λj hj e1 e2=>by
  unfold GR at e2;injection e2 with e3 e4;rcases hg.ok _ (fq hj) with h9 | h9
  . rw [e1] at h9;cases h9
  . have:=(JZ _ _ h9).2.1;have:=of_decide_eq_false e4;exact (FL _ _ _).2 ⟨i1,e3,oo⟩
 rcases EA (FY id 0) T.labels with ⟨i,hi,ei,w,_⟩ | ⟨ei,x⟩
 . rw [show FA T id 0=(i:Int) from ei,if_pos oo,gQ];obtain ⟨_,p2,p3⟩:=(FL _ _ _).1 w;have q:i≠k:=λe=>by subst e;exact hu p3
   have hz:=Pa T hg i hi;have r:k<(T.labels.set i BH).length:=by rw [length_set];exact hk
   have s:(T.labels.set i BH)[k]=T.labels[k]:=List.getElem_set_ne q _;refine ((KeepT.refl T hg).set i BH hz).set k _ (GJ { T with labels:=T.labels.set i BH } hz k r _ (.inr d) (.inr ?_) r2 (λt ht=>.inl (by show t∈BP ((T.labels.set i BH)[k]).ext;rw [s];exact ht)));intro j hj v e1 e2;rw [f] at e2;have l:j<T.labels.length:=by simpa using hj
   by_cases c:j=i
   . subst c;have:emL (T.labels.set j BH)[j]=true:=by rw [List.getElem_set_self];exact (Fj _).2 rfl
     have b:emL (T.labels.set j BH)[j]=false:=e1;rw [this] at b;cases b
   . have u:(T.labels.set i BH)[j]=T.labels[j]:=List.getElem_set_ne (λe=>c e.symm) _;have b:emL (T.labels.set i BH)[j]=false:=e1;have m:GR (T.labels.set i BH)[j]=(id,false):=e2;rw [u] at b m;obtain ⟨_,q2,q3⟩:=(FL _ _ _).1 (g j l b m);exact c (Zv T hg id 0 j i l hi q2 p2 i1 (by rw [q3,p3]))
 . rw [show FA T id 0=-1 from ei,if_neg qd]
   have:=(KeepT.refl T hg).set k _ (GJ T hg k hk { T.labels[k] with unit:=0,note:=note } (.inr d) (.inr (λj hj v e1 e2=>by
    rw [f] at e2
    have:=x _ (fq hj)
    rw [g j hj e1 e2] at this
    cases this)) r2 (λt ht=>.inl ht))
   exact ⟨this.good,this.name,this.tracks,this.len,fx this.diff qd⟩

end
section
attribute [local go_sem ↓] Go.wp_at_zero Go.wp_at_succ
open Go.RowKit
instance:DecidableEq Lab:=λa b=>decidable_of_iff (eqL a b=true) (I4 a b)

end
section
attribute [local go_sem ↓] Go.wp_at_zero Go.wp_at_succ
open Go.ChangeShapes Go.WideShapes Go.ChangeAt Go.RowKit Go.Deep
section
variable {H:Type} {enc:TypeId × Value->H} {w:World}
theorem YI {n:Nat} {cs:List Value} {y:DataW H × List MemPlace} (c:cs.length=2) (h:DataW.trod enc Tryz.prog w 0 (λ_=>true) true n 32 cs=some y):
 ∃x:Int × Int,cs=[.int .i64 x.1,.int .i64 x.2]/\(-9223372036854775808<=x.1/\x.1<=9223372036854775807)/\(-9223372036854775808<=x.2/\x.2<=9223372036854775807):=by
 have hf:=Dv Tryz.underlying32 qk h;obtain ⟨v0,_,_,e0,f0⟩:=hf 0 _ rfl oo;obtain ⟨v1,_,_,e1,f1⟩:=hf 1 _ rfl oo;obtain ⟨n0,a,_,w0⟩:=iW Tryz.underlying3 f0;obtain ⟨n1,b,_,w1⟩:=iW Tryz.underlying3 f1;injection a with a _;injection b with b _;subst a;subst b;refine ⟨(n0,n1),?_,wf_i64 w0,wf_i64 w1⟩
 match cs,c with
 | [x0,x1],_=>
   simp at e0 e1;rw [e0,e1]
end

structure Opr where
 kind:Nat
 id:Int
 unit:Int
 name:ByteArray
 note:ByteArray
 n:Int
 ext:List (Int × Int)
structure OprAt (w:World) (B:Option Addr) (o:Opr):Prop where
 kind:o.kind<256
 name:o.name.size<=9223372036854775807
 note:o.note.size<=9223372036854775807
 n0:-9223372036854775808<=o.n
 n1:o.n<=9223372036854775807
 runs:RunsAt w w.heap.size B o.ext
 xl:o.ext.length<=9223372036854775807
theorem S0 {H:Type} {enc:TypeId × Value->H} {P:Program} {w:World} {fs:Array Field} {e n:Nat} {cs:List Value} {y:DataW H × List MemPlace} {base:Nat} {sp:Nat->Bool} {hd:Bool} (he:P.underlying e=some (.struct fs)) (h:DataW.trod enc P w base sp hd n e cs=some y):
 ∀(j:Nat) (f:Field),fs[j]? =some f->∃n' y',DataW.trod enc P w base sp hd n' f.type ((cs.drop f.offset).take (P.cellsOf f.type))=some y':=by
 intro j f hj;obtain ⟨ys,n',b,hy,c,d,hf⟩:=DataW.trod_struct he h;have a:j<fs.size:=(iC.1 hj).1;exact ⟨_,_,(hf j f hj).trans (fg oo)⟩
theorem YY {n:Int} (h:(Lit.int .u8 n).wf=true):0<=n/\n<=255:=by
 simp only [Lit.wf,IntKind.min,IntKind.max,IntKind.signed,IntKind.bits] at h;simp at h;omega
section
variable {H:Type} {enc:TypeId × Value->H} {w:World}
theorem Wf {n:Nat} {cs:List Value} {y:DataW H × List MemPlace} (g:cs.length=7) (h:DataW.trod enc Tryz.prog w 0 (λ_=>true) true n 35 cs=some y):
 ∃B d,∃o:Opr,cs=[.int .u8 (o.kind:Int),.int .i64 o.id,.int .i64 o.unit,.string o.name,.string o.note,.int .i64 o.n,.slice B o.ext.length d]/\OprAt w B o:=by
 match cs,g with
 | [x0,x1,x2,x3,x4,x5,x6],_=>
   have hf:=S0 Tryz.underlying35 h;obtain ⟨_,_,f0⟩:=hf 0 _ rfl;obtain ⟨_,_,f1⟩:=hf 1 _ rfl;obtain ⟨_,_,f2⟩:=hf 2 _ rfl;obtain ⟨_,_,f3⟩:=hf 3 _ rfl;obtain ⟨_,_,f4⟩:=hf 4 _ rfl;obtain ⟨_,_,f5⟩:=hf 5 _ rfl;simp only [ij,iT,iJ] at f0 f1 f2 f3 f4 f5;rw [show Tryz.prog.cellsOf 5=1 from qk] at f0;rw [show Tryz.prog.cellsOf 32=2 from qk] at f1;rw [show Tryz.prog.cellsOf 9=1 from qk] at f2 f3;rw [show Tryz.prog.cellsOf 3=1 from qk] at f4;rw [show Tryz.prog.cellsOf 33=1 from qk] at f5;simp only [drop_succ_cons,drop_zero,take_succ_cons,take_zero] at f0 f1 f2 f3 f4 f5;obtain ⟨x,hx,-,-⟩:=YI (by rfl) f1;obtain ⟨n0,a,_,w0⟩:=iW Tryz.underlying5 f0;obtain ⟨n3,b,_,w3⟩:=DataW.trod_string Tryz.underlying9 f2;obtain ⟨n4,e,_,w4⟩:=DataW.trod_string Tryz.underlying9 f3;obtain ⟨n5,f,_,w5⟩:=iW Tryz.underlying3 f4;obtain ⟨A,c,l,rfl,h1,h2,h3⟩:=TG f5;injection hx with hx1 hx2;injection hx2 with hx2 _;injection a with a _;injection b with b _;injection e with e _;injection f with f _;subst hx1;subst hx2;subst a;subst b;subst e;subst f;have b0:=YY w0;have b5:=wf_i64 w5;unfold maxLen at w3 w4;refine ⟨A,c,⟨n0.toNat,x.1,x.2,n3,n4,n5,l⟩,?_,⟨by show n0.toNat<256;omega,by simpa using w3,by simpa using w4,b5.1,b5.2,h3,fx h1 h2⟩⟩;simp only [jJ b0.1]
end
def Fa (o:Opr):Bool:=decide (o.name.size<=100) && (decide (o.note.size<=500) && decide (o.ext.length<=20))
theorem Xy (B:Option Addr) (d:Nat) (o:Opr) (g:Nat) (w:World) (hb:Blk w g 35 #[.int .u8 (o.kind:Int),.int .i64 o.id,.int .i64 o.unit,.string o.name,.string o.note,.int .i64 o.n,.slice B o.ext.length d]) (h1:o.name.size<=9223372036854775807) (h2:o.note.size<=9223372036854775807) (h3:o.ext.length<=9223372036854775807):
 Calls Tryz.prog 24 #[.slice (some ⟨g,0,none⟩) 1 1,.int .i64 1] w λe w'=>e=.returned (.bool (Fa o))/\Grew w w':=by
 have HB:=zh hb;have HE:=zh (show Fa o=(decide (o.name.size<=100) && (decide (o.note.size<=500) && decide (o.ext.length<=20))) from rfl);clear hb;go_enter Tryz.func24,Tryz.ntmps24;go_wp2_with fail
 go_loopg [5] 1 (λgk i wr=>∃k:Nat,k<=1/\gk=1 - k/\i=.int .i64 k/\(0<k->Fa o=true)/\Grew w wr)
 case atStart=>exact ⟨0,oo,oo,rfl,λh=>oo,fh _⟩
 case round=>
  obtain ⟨k,hk,b,rfl,c,hg⟩:=hrel;have f:=zh b;have HA:=zh c;have HG:=zh hg;have a:=HB.grew hg;have x3:=a.cell 3;have x4:=a.cell 4;have x6:=a.cell 6;have r:=a.lt;clear b c hg a;by_cases s:k<1
  . have j:k=0:=oo;subst j;by_cases s1:o.name.size<=100;rotate_left
    . have l:¬(o.name.size:Int)<=100:=oo;have HF:=zh (HE.out.trans (by rw [gE s1];rfl):Fa o=false);go_wp2_with fail;go_ret;exact ⟨AE (by rw [HF.out]),HG⟩
    have l:(o.name.size:Int)<=100:=oo;by_cases s2:o.note.size<=500;rotate_left
    . have m:¬(o.note.size:Int)<=500:=oo;have HF:=zh (HE.out.trans (by rw [gD s1,gE s2];rfl):Fa o=false);go_wp2_with fail;go_ret;exact ⟨AE (by rw [HF.out]),HG⟩
    have m:(o.note.size:Int)<=500:=oo;by_cases s3:o.ext.length<=20;rotate_left
    . have p:¬(o.ext.length:Int)<=20:=oo;have HF:=zh (HE.out.trans (by rw [gD s1,gD s2,gE s3];rfl):Fa o=false);go_wp2_with fail;go_ret;exact ⟨AE (by rw [HF.out]),HG⟩
    have p:(o.ext.length:Int)<=20:=oo;have HF:=zh (HE.out.trans (by rw [gD s1,gD s2,gD s3];rfl):Fa o=true);go_wp2_with fail
    go_roundg 0
    case measure=>rw [f.out];omega
    case rel=>exact ⟨1,oo,oo,by go_num,λ_=>HF,HG⟩
  . have q:k=1:=oo;subst q;have HF:=zh (HA oo);go_wp2_with fail;go_ret;exact ⟨AE (by rw [HF.out]),HG⟩

end
end Go.Proofs.YtfklieeipokllaaGreat
