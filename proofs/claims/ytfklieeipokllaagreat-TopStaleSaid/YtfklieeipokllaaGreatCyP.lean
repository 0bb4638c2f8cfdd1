/- Parts of the proof (packed), 16. -/
import Derived.Test.YtfklieeipokllaaGreatCyO
namespace Go.Proofs.YtfklieeipokllaaGreat
set_option linter.all false
set_option maxRecDepth 100000
set_option maxHeartbeats 16000000
open List
section
attribute [local go_sem ↓] Go.wp_at_zero Go.wp_at_succ
open Go.RowKit
def Pz (w0:World) (x:Nat) (out:Nat->Prop) (W:World) (n B:Nat) (v:Value) (f:Dev->Dev × Int):Prop:=
 ∃fn first caps,v=.func (.func fn) first caps/\C2 Tryz.prog fn/\∀D' w',Live w0 x D' out w'->Beside w0 out W w'->D'.pend.length<=B->Calls Tryz.prog fn (first++caps) w' λe w''=>
  e=.returned (.int .i64 (f D').2)/\Live w0 x (f D').1 out w''/\Beside w0 out w' w''/\(f D').1.pend.length<=D'.pend.length+n
theorem Works.toB {w0:World} {x:Nat} {out:Nat->Prop} {W:World} {n n' B:Nat} {v:Value} {f:Dev->Dev × Int} (h:Works w0 x out W n v f) (hn:n<=n') (hB:B<=990000):Pz w0 x out W n' B v f:=by
 obtain ⟨fn,first,d,h1,h2,h3⟩:=h;exact ⟨fn,first,d,h1,h2,λD' w' a b c=>(h3 D' w' a b oo).mono λe w'' h=>⟨h.1,h.2.1,h.2.2.1,oo⟩⟩
def WorksLB (w0:World) (x:Nat) (out:Nat->Prop) (W:World) (n B:Nat) (fs:List (Dev->Dev × Int)) (vs:List Value):Prop:=
 vs.length=fs.length/\∀(k:Nat) (f:Dev->Dev × Int) (v:Value),fs[k]? =some f->vs[k]? =some v->Pz w0 x out W n B v f
theorem WorksL.toB {w0:World} {x:Nat} {out:Nat->Prop} {W:World} {n n' B:Nat} {fs:List (Dev->Dev × Int)} {vs:List Value} (h:WorksL w0 x out W n fs vs) (hn:n<=n') (hB:B<=990000):WorksLB w0 x out W n' B fs vs:=
 ⟨h.1,λk f v h1 h2=>(h.2 k f v h1 h2).toB hn hB⟩
theorem WorksLB.snoc {w0:World} {x:Nat} {out:Nat->Prop} {W:World} {n B:Nat} {fs:List (Dev->Dev × Int)} {vs:List Value} {f:Dev->Dev × Int} {v:Value} (h:WorksLB w0 x out W n B fs vs) (hk:Pz w0 x out W n B v f):WorksLB w0 x out W n B (fs++[f]) (vs++[v]):=by
 refine ⟨by rw [gK,gK,h.1];rfl,λj f' v' h1 h2=>?_⟩;rcases iQ j fs.length with hj | hj
 . rw [ig hj] at h1;rw [ig (by rw [h.1];exact hj)] at h2;exact h.2 j f' v' h1 h2
 . rw [iO hj] at h1;rw [iO (by rw [h.1];exact hj),h.1] at h2;have h0:j - fs.length=0:=by have:=(gI.1 h1).1;simp at this;omega
   rw [h0] at h1 h2;obtain rfl:f=f':=by simpa using h1
   obtain rfl:v=v':=by simpa using h2
   exact hk
theorem YB {w0:World} {x:Nat} {D:Dev} {out:Nat->Prop} {W:World} (hL:Live w0 x D out W) (n B:Nat) (fs:List (Dev->Dev × Int)) (vs:List Value) (hW:WorksLB w0 x out W n B fs vs)
 (i:D.pend.length+n*vs.length<=B) (hv:vs.length<=990000) (A:Option Addr) (c:Nat) (b:ListAt W W.heap.size 1 A (vs.map λv=>[v])) (hA:ED w0 out A):
 Calls Tryz.prog 118 #[.slice A vs.length c] W λe w'=>e=.returned (.int .i64 (Dh fs D).2)/\Live w0 x (Dh fs D).1 out w'/\Beside w0 out W w':=by
 refine (Y5 (λk D' w'=>(k<=vs.length->D'.pend.length<=D.pend.length+n*k)/\Live w0 x D' out w'/\Beside w0 out W w') fs vs hW.1 oo A c (λk D' w' h=>b.beside h.2.2 hA) (λk h1 h2=>?_) D W ⟨λ_=>oo,hL,gW _ _⟩).mono ?_
 . obtain ⟨fn,first,g,hv,hE,hc⟩:=hW.2 k _ _ (fg h1) (fg h2);refine ⟨fn,first,g,hv,hE,λD' w' ⟨hp,a,hB⟩=>?_⟩;have h9:=hp oo;have h8:n*k<=n*vs.length:=Nat.mul_le_mul_left n oo;refine (hc D' w' a hB oo).mono ?_;rintro e l ⟨he,d,f,m⟩;exact ⟨he,λ_=>by rw [Nat.mul_succ];omega,d,hB.trans f⟩
 . rintro e w' ⟨he,j,hj,hp,a,hB⟩;exact ⟨he,a,hB⟩
theorem XY:C2 Tryz.prog 116:=BQ Tryz.func116 qk qk
theorem RL {w0:World} {x s m:Nat} {sy ep:Int} {out:Nat->Prop} {W:World} (hb:Blk W s 268 (Cs x sy ep m)) (hs:out s) {b2 b25 ge c:Nat} (h2:Blk W b2 110 #[ptrV s]) (o2:out b2) (L:List (Int × ByteArray)) (hl:L.length<=97) (g:∀e∈L,e.2.size<=9223372036854775807)
 (f:Blk W b25 194 #[.slice (some ⟨ge,0,none⟩) L.length c]) (h:out b25) (d:ListAt W W.heap.size 2 (some ⟨ge,0,none⟩) (L.map BB)) (og:out ge):
 Pz w0 x out W 100 980000 (.func (.func 116) #[] #[.pointer (some ⟨b2,0,none⟩),.pointer (some ⟨b25,0,none⟩)]) (λD=>Bk sy ep (CI L) D):=by
 refine ⟨_,_,_,rfl,XY,λD' w' hL hB hp=>?_⟩;have hC:=KW hL (hb.beside hB hs) hs oo L oo g (some ⟨ge,0,none⟩) c (d.beside hB (λb off e=>by injection e with e;injection e with e _ _;subst e;exact .inr og));have i:=Od sy ep (CI L) D';have j:(CI L).length=L.length+3:=by unfold CI;rw [gK,fm];rfl
 have k2:=h2.beside hB o2;have a:=f.beside hB h;have c2:=k2.cell 0;have l2:=k2.lt;have o:=a.cell 0;have p:=a.lt;have HC:=zh hC;have k:=zh (show (Bk sy ep (CI L) D').1.pend.length<=D'.pend.length+100 from oo);clear hC i j k2 a hb h2 f d g hL hB hp;show Calls Tryz.prog 116 #[.pointer (some ⟨b2,0,none⟩),.pointer (some ⟨b25,0,none⟩)] w' _;go_enter Tryz.func116,Tryz.ntmps116;go_wp2_with fail;refine HC.mono ?_;rintro e w3 ⟨rfl,l,n⟩;go_wp2_with fail;go_ret;exact ⟨rfl,l,n,k⟩
def Ve (sy ep:Int) (l:Wl) (v:U32):List (Dev->Dev × Int):=((wlI (CU l)).map (λe D=>BN D sy ep e.1 e.2)++[λD=>Ci D sy ep,λD=>BN D sy ep 33 (FS l v),λD=>Ci D sy ep])++[λD=>Bk sy ep (CI (wlI l)) D]
theorem XD (sy ep:Int) (l:Wl) (v:U32) (D:Dev):Dh (Ve sy ep l v) D=Bk sy ep (Cv l v) D:=by
 have h1:∀D,Dh ((wlI (CU l)).map (λe D=>BN D sy ep e.1 e.2)++[λD=>Ci D sy ep,λD=>BN D sy ep 33 (FS l v),λD=>Ci D sy ep]) D=Bk sy ep (puts (CU l)++[.sync]++(puts [(33,FS l v)]++[.sync])) D:=by
  intro D;rw [<-UT];congr 1;unfold wlI puts;simp only [fz,iq,map_cons,map_nil,iA,cons_append,nil_append];congr 1
 have h2:Cv l v=(puts (CU l)++[.sync]++(puts [(33,FS l v)]++[.sync]))++CI (wlI l):=by
  rw [Pg];unfold Cv;simp only [iA]
 obtain ⟨P,hP⟩:∃P,puts (CU l)++[St.sync]++(puts [(33,FS l v)]++[St.sync])=P:=⟨_,rfl⟩;rw [hP] at h1 h2;unfold Ve;rw [YQ,h1,h2,Gm];split
 . show (if (Bk sy ep (CI (wlI l)) _).2=0 then (_,0) else Bk sy ep (CI (wlI l)) _)=_;split
   . rename_i h9;exact Prod.ext rfl h9.symm
   . rfl
 . rfl
theorem YM {w0:World} {x s m:Nat} {sy ep:Int} {E:Dev} {out9:Nat->Prop} {w9:World} (hH:Held w0 x s m sy ep E out9 w9) (hp:E.pend.length<=900000) {lo base:Nat} (d:∀k,lo<=k->k<w9.heap.size->out9 k) (I:lo<=base) (l:Wl) (v:U32) (hl:l.length<=97) (i:∀e∈l,e.2.size=140)
 {b2 b25 ge c:Nat} (h2:Blk w9 b2 110 #[ptrV s]) (o2:out9 b2) (h:Blk w9 b25 194 #[.slice (some ⟨ge,0,none⟩) l.length c]) (u:lo<=b25) (z:ListAt w9 w9.heap.size 2 (some ⟨ge,0,none⟩) ((wlI l).map BB)) (o:lo<=ge/\ge<w9.heap.size)
 {vs:List Value} {F v2:Value} (f:PutsAt w9 base s (slU l l.length) vs) (w:PutAt w9 base s 33 (FS l v) F)
 (n:OwnL w9 base 196 1 v2 ((vs++[.func (.func 115) #[ptrV s] #[],F,.func (.func 115) #[ptrV s] #[],.func (.func 116) #[] #[.pointer (some ⟨b2,0,none⟩),.pointer (some ⟨b25,0,none⟩)]]).map λv=>[v])):
 ∃A2 n2 c2,v2=.slice A2 n2 c2/\Calls Tryz.prog 118 #[.slice A2 n2 c2] w9 λe w'=>e=.returned (.int .i64 (Bk sy ep (Cv l v) E).2)/\Live w0 x (Bk sy ep (Cv l v) E).1 out9 w'/\Beside w0 out9 w9 w':=by
 obtain ⟨A2,c2,a,_,_,H⟩:=n.listAt;rw [fm] at a;have p:=f.1;rw [Qq] at p;rw [bU] at f;have A:(vs++[Value.func (.func 115) #[ptrV s] #[],F,.func (.func 115) #[ptrV s] #[],.func (.func 116) #[] #[.pointer (some ⟨b2,0,none⟩),.pointer (some ⟨b25,0,none⟩)]]).length=l.length+4:=by rw [gK,p];rfl
 refine ⟨A2,_,c2,a,?_⟩;have hb:=hH.store.blk;have q:∀k,base<=k->k<w9.heap.size->out9 k:=λk h1 h2=>d k oo h2
 have C:∀e∈wlI (CU l),e.2.size<=9223372036854775807:=by
  intro e he;obtain ⟨y,hy,rfl⟩:=ft.1 he;unfold CU at hy;obtain ⟨j,hj,rfl⟩:=ft.1 hy;have r:=gU.1 hj;show (l.getD j (0,⟨#[]⟩)).2.size<=_;rw [gH,fg r];have:=i _ (fq r);show l[j].2.size<=_;omega
 have D:∀e∈wlI l,e.2.size<=9223372036854775807:=by
  intro e he;obtain ⟨y,hy,rfl⟩:=ft.1 he;have:=i y hy;show y.2.size<=_;omega
 have G:(FS l v).size<=9223372036854775807:=by have:(FS l v).size=140:=BS ..;omega
 have t:(wlI l).length=l.length:=by unfold wlI;rw [fm]
 have hC:=RL (x:=x) (m:=m) (sy:=sy) (ep:=ep) hb hH.os h2 o2 (wlI l) (by rw [t];exact hl) D (by rw [t];exact h) (d _ u h.lt) z (d _ o.1 o.2) (w0:=w0)
 have hw:WorksLB w0 x out9 w9 100 980000 (Ve sy ep l v) (vs++[.func (.func 115) #[ptrV s] #[],F,.func (.func 115) #[ptrV s] #[],.func (.func 116) #[] #[.pointer (some ⟨b2,0,none⟩),.pointer (some ⟨b25,0,none⟩)]]):=by
  have h1:=(WorksL.puts (w0:=w0) (x:=x) hb hH.os q C f).app (WorksL.cons ((F8 hb hH.os).more oo) (WorksL.cons (Ow hb hH.os q G w) (WorksL.cons ((F8 hb hH.os).more oo) (WorksL.nil ..))));have h3:=(h1.toB (n':=100) (B:=980000) oo oo).snoc hC;rw [iA vs] at h3;exact h3
 refine (YB hH.live 100 980000 (Ve sy ep l v) _ hw oo oo A2 c2 H (λb off e=>?_)).mono ?_
 . obtain ⟨g,cap,e1,h1,h9⟩:=n.some_ (λe=>by have:=gJ length e;rw [fm,A,length_nil] at this;omega);rw [e1] at a;injection a with a _ _;rw [e] at a;injection a with a;injection a with a _ _;subst a;exact .inr (d _ oo h9)
 . rintro e w' ⟨he,h1,h2⟩;rw [XD] at he h1;exact ⟨he,h1,h2⟩
theorem Yu (n:Nat) (h:n<=97):IntKind.u32.wrap (n:Int)=u32 (nv n):=by
 have h9:u32 (nv n)=(n:Int):=by unfold u32 nv;rw [ib];omega
 rw [h9];exact IntWalk.u32_in _ oo

def Kb (E:Dev) (sy ep:Int) (S:Wl) (v:U32):Dev × Int:=if Ea E (ksW S)≠0 then (E,Ea E (ksW S)) else Bk sy ep (Cv (Hm E S v) v) E
theorem I9 {E:Dev}:∀l:List Nat,(∀k∈l,Cy E k)->∀r,Ea E (l++r)=Ea E r
 | [],_,r=>rfl
 | k::l,h,r=>by
   have hk:=h k (gS ..);show (if (mapI E k).ok=false then 11 else if (mapI E k).ver≠fld (topI E).data k then 12 else Ea E (l++r))=_;rw [if_neg (by rw [hk.2.1];simp),if_neg (by rw [hk.2.2];simp)];exact I9 l (λj hj=>h j (gM _ hj)) r
theorem VI (S:Wl) (hS:S.Pairwise λa b=>a.1<b.1) (c:∀e∈S,e.1 / 32<32) (i:Nat):∀d,i+d<=S.length->∃r,ksW (S.take (i+d))=ksW (S.take i)++r
 | 0,_=>⟨[],qs⟩
 | d+1,hd=>by
   obtain ⟨r,hr⟩:=VI S hS c i d oo;have hlt:i+d<S.length:=oo;by_cases f:S[i+d].1 / 32∈ksW (S.take (i+d))
   . exact ⟨r,by rw [show i+(d+1)=i+d+1 from rfl,VX S (i+d) hlt f,hr]⟩
   . exact ⟨r++[S[i+d].1 / 32],by rw [show i+(d+1)=i+d+1 from rfl,Vh S hS (i+d) hlt (c _ (fq hlt)) f,hr,iA]⟩
theorem Xd {E:Dev} (hf:E.failed=false) (hl:132<=E.st.length) (ht:(topI E).ok=true) (k:Nat) (hk:k<32) {d:ByteArray} {v:U32} {b:Bool} {er:Int} (h:C1 E (1+(k:Int)) (fld (topI E).data k)=(⟨d,v,b⟩,er)):(Cy E k/\er=0/\(mapI E k).data=d/\d.size=128)\/(er≠0/\∀r,Ea E (k::r)=er):=by
 have hm:∀r,Ea E (k::r)=if (mapI E k).ok=false then 11 else if (mapI E k).ver≠fld (topI E).data k then 12 else Ea E r:=λ_=>rfl;rw [TT hf k hk hl] at h;by_cases h1:(mapI E k).ok=false
 . rw [if_pos h1] at h;injection h with _ h2;exact .inr ⟨by rw [<-h2];simp,λr=>by rw [hm,if_pos h1,h2]⟩
 rw [if_neg h1] at h;by_cases h3:(mapI E k).ver≠fld (topI E).data k
 . rw [if_pos h3] at h;injection h with _ h2;exact .inr ⟨by rw [<-h2];simp,λr=>by rw [hm,if_neg h1,if_pos h3,h2]⟩
 rw [if_neg h3] at h;injection h with h4 h2;have hd:(mapI E k).data=d:=by rw [h4]
 have a:(mapI E k).ok=true:=by simpa using h1
 exact .inl ⟨⟨ht,a,iL.1 h3⟩,h2.symm,hd,by rw [<-hd];exact Cr a⟩
section
variable {w0:World} {x s m:Nat} {sy ep:Int} {D:Dev} {out:Nat->Prop} {W:World}
theorem MC (i2:Z0) (h:Held w0 x s m sy ep D out W) (i3:132<=D.st.length/\D.st.length<=1155) (hp:D.pend.length<=800000) (E:Dev) (fb:Bool) (hE:finD D sy ep=(E,fb,0)) (n:Nat) (hn:D.st.length - 131=n) (ws:List (Int × ByteArray)) (ix:∀e∈ws,okI e.1) (A:Option Addr) (c:Nat) (i1:ListAt W W.heap.size 2 A (ws.map BB)) (hA:ED w0 out A) (e5:AU n ws=0) (d1:ws≠[]) (ci:(topI E).ok=true) (S:Wl) (hS:B3 n ws=S) (v:U32) (hv:(topI E).ver+1#32=v) (br:(topI E).ver≠4294967295#32):
 Calls Tryz.prog 51 #[ptrV s,.slice A ws.length c] W λe w'=>e=.returned (.int .i64 (Kb E sy ep S v).2)/\Done w0 x s m sy ep (Kb E sy ep S v).1 out W w':=by
 obtain ⟨e4,h4,pn⟩:=FM n ws e5;have d2:=IW D sy ep;rw [hE] at d2;have e6:=d2.2 rfl;have fa:E.st.length=D.st.length:=d2.1;have i4:E.pend.length<=800100:=by have:=Ot D sy ep;rw [hE] at this;show E.pend.length<=_;have h9:(E,fb,(0:Int)).1.pend.length=E.pend.length:=rfl;omega
 have i5:=h.store.lt;have i6:=h.live.base.size;have d3:Grew W (W.alloc (.cells #[ptrV s] 110)):=(fh W).alloc _;have i7:Blk (W.alloc (.cells #[ptrV s] 110)) W.heap.size 110 #[ptrV s]:=fy W _ _ rfl;have fi:Held w0 x s m sy ep D (λk=>out k\/k=W.heap.size) (W.alloc (.cells #[ptrV s] 110)):=⟨(h.live.more d3).few (λk hk=>hk.elim .inl (λh9=>.inr (by rw [h9];simp))),h.store.grew d3,.inl h.os,.inl h.om,h.m0⟩;have HF:=zh (Ho fi i3.1 oo E fb 0 hE)
 have pz:((ws.length:Int)==0)=false:=by
  have:ws.length≠0:=λe=>d1 (jP.1 e);rw [gF];omega
 have jc:0<ws.length:=length_pos_iff.2 d1;have l7:1<=n/\n<=1024:=oo;have jd:S.length=ws.length:=by rw [<-hS];exact O7 n ws (λe he=>(e4 e he).2) h4
 have je:∀e∈S,e.1<n/\e.2.size=128:=λe he=>by
  rw [<-hS] at he;obtain ⟨h1,h2⟩:=(Dg n ws e).1 he;obtain ⟨y,hy,po⟩:=jN.1 h2;exact ⟨h1,by rw [<-po];exact (e4 y (List.mem_of_find?_eq_some hy)).1⟩
 have jf:S.Pairwise λa b=>a.1<b.1:=by rw [<-hS];exact Gs n ws
 obtain ⟨⟨td,tv,tk⟩,bo⟩:∃r,topI E=r:=⟨_,rfl⟩;have l8:tk=true:=by rw [bo] at ci;exact ci
 subst l8;have jg:tv+1#32=v:=by rw [bo] at hv;exact hv
 have jh:tv≠4294967295#32:=by rw [bo] at br;exact br
 have ji:OK E=(⟨td,tv,true⟩,0):=by rw [Qm e6 (by rw [fa];omega),bo];rfl
 have ma:td.size=128:=by have:=Cr ci;have h9:(AJ (E.content 0) 0).data=td:=(by show (topI E).data=td;rw [bo]);rw [<-h9];exact this
 have jj:(topI E).data=td:=by rw [bo]
 have mb:=zh fi;have jk:=zh i7;have d4:=zh d3;have mc:=zh i1;have md:=zh hA;have me:=zh e6;have jl:=zh (show 132<=E.st.length/\E.st.length<=1155 from oo);have bs:=zh i5;have jm:=zh (show out s/\out m from ⟨h.os,h.om⟩);have mg:=zh h.store;have mh:=zh (show AU (E.st.length - 131) ws=0 from by rw [fa,hn];exact e5);have mi:=zh e4;have mj:=zh h4;have mk:=zh ix;have b5:=zh (show B3 n ws=S/\S.length=ws.length from ⟨hS,jd⟩);have cj:=zh je;have jn:=zh jf;have mm:=zh ci;have mn:=zh ji;have jo:=zh jj;have p0:=zh bo;have mo:=zh jg;have mp:=zh jh;have mq:=zh i4;have ms:=zh i2;have mt:=zh d1;have mu:=zh i6;clear i2 h i3 hp hE hn ix i1 hA e5 ci hS hv br e4 h4 d2 e6 fa i4 i5 d3 i7 fi jd je jf bo jg jh ji jj d1 i6;go_enter Tryz.func51,Tryz.ntmps51;go_wp2_with fail;refine HF.mono ?_;rintro e w1 ⟨rfl,hd⟩;have jp:¬W.heap.size=m:=by have:=bs.2;omega
 have bt:Blk w1 W.heap.size 110 #[ptrV s]:=jk.turned hd.turned (λhq=>hq.elim (λh9=>h9.2 (.inr rfl)) jp);have d5:=M1 (mb.done hd);have mw:=hd.turned.size;have p1:W.heap.size<w1.heap.size:=by have:=jk.out.lt;omega
 have fj:ListAt w1 w1.heap.size 2 A (ws.map BB):=Da (AO mc d4) hd.turned (λb off o u e hu hq=>by
  rcases hq with hq | hq
  . rcases md.out b off e with h9 | h9
    . exact absurd hq.1 (by have:=h9;omega)
    . exact hq.2 (.inl h9)
  . obtain ⟨F,h5,_⟩:=(mg.grew d4).seen
    exact Ff h5 hu hq)
 have bw:=zh (show (w0.heap.size<=w1.heap.size/\s<w1.heap.size)/\m<w1.heap.size from ⟨⟨by have:=mu.out;omega,by have:=bs.1;omega⟩,by have:=bs.2;omega⟩);have d6:=zh (λ(w':World) (ht:Turned (λq=>q=m\/w1.heap.size<=q) w1 w') (dd:StoreM w' s m x sy ep)=>d5.up bw.1 bw.2 ht dd);have HD:=zh hd;have mx:=zh bt;have jq:=zh d5;have my:=zh fj;have jr:=zh (LY d5 jl ws oo mk A c fj);rw [mh.out] at jr;have aj:=bt.cell 0;have al:=bt.lt;clear hd bt d5 fj mw HF;go_wp2_with fail;refine jr.mono ?_;rintro e w2 ⟨rfl,g2⟩;have js:=zh (P2 (d6 w2 (g2.turned _) (jq.store.grew g2)));rw [mn.out] at js;have fl:=zh g2;have aj:=BG g2 aj;have al:W.heap.size<w2.heap.size:=fw al g2.size;clear g2;go_wp2_with fail;refine js.mono ?_;rintro e w3 ⟨rfl,e2⟩;unfold LK;have d7:m<w1.heap.size:=bw.2;have fn:Hid (Turned (λq=>q=m) w1 w3):=zh ((fl.turned _).trans e2.turned);have mz:=zh e2.store
 have jt:ListAt w3 w3.heap.size 2 A (ws.map BB):=Da (AO my fl) e2.turned (λb off o u e hu hq=>by
  obtain ⟨F,h5,_⟩:=(jq.store.grew fl).seen
  exact Ff h5 hu hq)
 have m1:=zh jt;have b6:=mx.turned fn jp;have aj:=b6.cell 0;have al:=b6.lt;have m2:=zh b6;clear e2 jt b6;have p2:=BD tv;go_wp2_with fail;have ju:Hid (Blk (w3.alloc (.cells #[.string td,.int .u32 (u32 tv),.bool true] 178)) w3.heap.size 178 #[.string td,.int .u32 (u32 tv),.bool true]):=zh (fy w3 _ _ rfl);have fs:Grew w3 (w3.alloc (.cells #[.string td,.int .u32 (u32 tv),.bool true] 178)):=(fh w3).alloc _;have m3:=zh fs;refine (Zo A c ws.length ws _ rfl oo (AO m1 fs)).mono ?_;rintro e w4 ⟨v4,rfl,e3,g4⟩;have jv:ws.map BB≠[]:=λe=>mt (map_eq_nil_iff.1 e);obtain ⟨gs,cs,rfl,lk,qw⟩:=e3.some_ jv;rw [fm] at e3 ⊢;have p3:w3.heap.size<gs:=fw ju.out.lt lk;have cl:=zh (m3.out.trans g4);have m4:=zh (ms gs cs n ws ⟨jc,oo⟩ mj (λe he=>(mi e he).2) l7.2 w4 _ e3);have m5:=zh (ju.grew g4);have aj:=BG cl aj;have al:W.heap.size<w4.heap.size:=fw al cl.size;clear fs e3 g4 jv lk;go_wp2_with fail;refine m4.mono ?_;rintro e w5 ⟨rfl,c8,h3⟩;rw [b5.out.1] at h3;have p4:w1.heap.size<=w3.heap.size:=fn.size;have ea:=zh (m5.turned c8 (λe=>oo));have m6:Hid (Turned (λq=>q=m\/w1.heap.size<=q) w1 w5):=zh (((fn.mono λq _ hq=>Or.inl hq).trans (cl.turned _)).trans (c8.mono λq _ hq=>.inr (by rw [hq];omega)));have m7:Hid (StoreM w5 s m x sy ep):=zh ((mz.grew cl).kept c8 (λe=>by have:=bw.1.2;omega) (λe=>oo));have jw:=zh h3;have a5:Blk w5 W.heap.size 110 #[ptrV s]:=(m2.grew cl).turned c8 (λe=>oo);have m8:=zh a5;have aj:=a5.cell 0;have al:=a5.lt;have cm:=ea.cell 0;have fu:=ea.cell 1;have cp:=ea.out.lt;have jx:=GE;have m9:=@run_makeMap Tryz.prog;have na:=zh (Ip td ma);clear c8 h3 a5;go_wp2_with fail;refine (na _).mono ?_;rintro e w6 ⟨rfl,g6⟩;have fv:=zh g6;have aj:=BG g6 aj;have al:W.heap.size<w6.heap.size:=fw al g6.size;have cm:=BG g6 cm;have fu:=BG g6 fu;have cp:w3.heap.size<w6.heap.size:=fw cp g6.size;have eb:Hid (Blk ((w6.alloc (.cells (AC λ_=>0#32) 185)).setRow w6.heap.size (AC (fld td))) w6.heap.size 185 (AC (fld td))):=zh ((fy w6 _ _ rfl).setRow _);have jy:Hid (Grew w5 ((w6.alloc (.cells (AC λ_=>0#32) 185)).setRow w6.heap.size (AC (fld td)))):=zh ((fv.alloc _).setRow fv.size _);rw [<-b5.out.2];clear g6;go_wp2_with (refine Ae rfl 185 _ _ rfl w6.heap.size (AC (fld td)) rfl rfl 185 (AC λ_=>0#32) (fy w6 _ _ rfl) (by rw [AY,AY]) (by rw [AY];exact EX) (D8 _) ?_);have nb:S.length<=64:=by rw [b5.out.2];exact pn
 obtain ⟨wa,h6⟩:∃wa:World,wa=(w6.alloc (.cells (AC λ_=>0#32) 185)).setRow w6.heap.size (AC (fld td)):=⟨_,rfl⟩;rw [<-h6] at eb jy ⊢;obtain ⟨zT,id⟩:∃q,q=w6.heap.size:=⟨_,rfl⟩;rw [<-id] at eb ⊢;have nc:zT+1=wa.heap.size:=by rw [h6,id];simp
 rw [nc];have p5:zT<wa.heap.size:=eb.out.lt;have jz:w3.heap.size<zT/\gs<zT/\w1.heap.size<=zT:=⟨oo,by have:=jw.out;have h7:=fv.size;have h8:=(KL this (k:=0) (by rw [b5.out.2];exact jc)).1;omega,oo⟩;obtain ⟨jz,qx,qy⟩:=jz;have cq:Hid (Grew w5 (wa.alloc (.map #[] 0))):=zh (jy.alloc _);have nd:Hid (Turned (λq=>q=m\/w1.heap.size<=q) w1 (wa.alloc (.map #[] 0))):=zh (m6.out.trans (cq.turned _));have j0:=zh (m7.grew cq);have j1:=zh (m8.grew cq);have j2:=zh (ea.grew cq);have j3:=zh (eb.alloc (.map #[] 0));have j4:=zh (AO jw cq);have j5:Hid (MapsM (wa.alloc (.map #[] 0)) wa.heap.size wa.heap.size (ksW []) (λ_=>0) (λk=>fld (mapI E k).data)):=zh (MapsM.made _);have j6:W.heap.size<w3.heap.size/\m<w3.heap.size:=by have:=bw.2;omega
 obtain ⟨j6,qz⟩:=j6;clear m9 jx cm fu aj cp al h6 id
 go_loopg [13,72] S.length (λgk u i' wr=>∃(i:Nat) (bk:Nat->Nat),i<=S.length/\gk=S.length - i/\i'=.int .i64 i/\MapsM wr wa.heap.size wa.heap.size (ksW (S.take i)) bk (λk=>fld (mapI E k).data)/\OwnL wr (wa.heap.size+1) 3 1 u ((ksW (S.take i)).map λk:Nat=>[.int .i64 (k:Int)])/\StoreM wr s m x sy ep/\Turned (λq=>q=m\/wa.heap.size<=q) (wa.alloc (.map #[] 0)) wr/\∀j∈ksW (S.take i),Cy E j)
 case atStart=>exact ⟨0,λ_=>0,oo,oo,rfl,j5,by rw [take_zero,QW];exact OwnL.nil ..,j0,gW _ _,λj hj=>by rw [take_zero,QW] at hj;cases hj⟩
 case round=>
  obtain ⟨i,bk,hi,ll,rfl,lm,ln,dd,ht,lp⟩:=hrel;have f3:=zh ll;have cr:=zh lp;have f4:=zh lm;have cu:=zh ln;have f5:=zh dd;have HT:=zh ht;have f6:=zh (j1.turned ht (λe=>oo));have ga:=zh (j3.turned ht (λe=>oo));have gb:=zh (j2.turned ht (λe=>oo));have gc:Turned (λq=>q=m\/w1.heap.size<=q) w1 wr:=nd.out.trans (ht.mono λq _ hq=>by rcases hq with hq | hq;exact .inl hq;exact .inr oo);have ec:=zh gc;have gd:=zh (d6 wr gc dd)
  have ee:Hid (ListAt wr wr.heap.size 2 (some ⟨gs,0,none⟩) ((wlI S).map BB)):=zh (Da j4 ht (λb off o u9 e hu hq=>by
   injection e with e
   injection e with e1 _ _
   rcases hq with hq | hq<;>omega))
  clear ll lm ln dd ht gc lp;by_cases c6:i<S.length
  . have nf:(i:Int)<(S.length:Int):=oo;obtain ⟨pp,c0,c1⟩:=KL ee c6;obtain ⟨a,ha⟩:∃a,S[i].1=a:=⟨_,rfl⟩;have ng:a<n:=by rw [<-ha];exact (cj _ (fq c6)).1
    obtain ⟨k,hk⟩:∃k:Nat,a / 32=k:=⟨_,rfl⟩;have a6:k<32:=oo;have gi:(a:Int) / 32=(k:Int):=oo;have nh:Int.tdiv (a:Int) 32=(k:Int):=by rw [Int.tdiv_eq_ediv_of_nonneg oo];exact gi
    rw [ha] at c0;obtain ⟨kl,a4⟩:=E8 (k:Int) (CN _ oo);have ni:=zh a4;have cv:=zh (show S[i].1 / 32=k from by rw [ha];exact hk);have d7:=f4.grew ((fh wr).alloc (.cells #[.int .i64 (a:Int),.string S[i].2] 65));have an:=d7.map.lookup_val Al Bc Tryz.underlying187 (F4 _) (k:Int) a4;rw [Ma] at an;have gj:=zh d7;clear a4 d7 ha hk;by_cases b2:k∈ksW (S.take i)
    . rw [if_pos b2,it] at an;have gl:=zh (VX S i c6 (by rw [cv.out];exact b2));clear b2;go_wp2_with fail
      go_roundg (S.length - (i+1))
      case measure=>rw [f3.out];omega
      case rel=>exact ⟨i+1,bk,oo,oo,by go_num,by rw [gl.out];exact gj.out,by rw [gl.out];exact cu.alloc _,f5.grew ((fh wr).alloc _),HT.alloc _,by rw [gl.out];exact cr.out⟩
    . rw [if_neg b2,Option.getD_none] at an;obtain ⟨ver,br⟩:∃ver,fld td k=ver:=⟨_,rfl⟩;obtain ⟨⟨⟨bd,bv,bb⟩,er⟩,ih⟩:∃r,C1 E (1+(k:Int)) ver=r:=⟨_,rfl⟩;have nj:=zh (Xd me jl.1 mm k a6 (d:=bd) (v:=bv) (b:=bb) (er:=er) (by rw [jo.out,br];exact ih));obtain ⟨out',lq⟩:∃o,o=up (λk=>out k\/k=W.heap.size) w1.heap.size wr:=⟨_,rfl⟩;rw [<-lq] at gd;obtain ⟨wx,H⟩:∃wx:World,wx=wr.alloc (.cells #[.int .i64 (a:Int),.string S[i].2] 65):=⟨_,rfl⟩;have C:Grew wr wx:=by rw [H];exact (fh wr).alloc _
      have cw:=zh (gd.grew C);rw [<-H] at gj;have N:=zh C;have av:=f6.grew C;have gn:=ga.grew C;have bx:=av.cell 0;have bl:=av.lt;have tc:=gn.cell k;rw [Cf _ _ a6,br] at tc;have tl:=gn.lt;have B:=zh (λ(w1:World) (hh:Held w0 x s m sy ep E out' w1)=>Iv hh (1+(k:Int)) (CN _ oo) ver);rw [ih] at B;have ca:IntKind.i64.wrap (1+(k:Int))=1+(k:Int):=gy _ oo;have p6:(0:Int)<=(k:Int)/\(k:Int)<32:=oo;have nk:=zh b2;have j7:=zh (Vh S jn i c6 (by rw [cv.out];exact a6) (by rw [cv.out];exact b2));have p7:(ksW (S.take i)).length<=32:=by unfold ksW;exact fx (jC _ _) (by rw [io];exact fk _)
      have cb:m<wx.heap.size:=by have:=N.size;have:=ec.size;omega
      have p8:wa.heap.size<=wx.heap.size:=by have:=N.size;have:=HT.size;simp at this;omega
      clear ih C av gn b2 br lq;go_wp2_with fail;rw [<-H];clear H an;refine AB [6,11] (λw':World=>w'.cell? ⟨W.heap.size,0,none⟩=some (ptrV s)/\W.heap.size<w'.heap.size/\w'.cell? ⟨zT,k,none⟩=some (.int .u32 (u32 ver))/\zT<w'.heap.size) qk ?_;have hS:=(show (λw':World=>w'.cell? ⟨W.heap.size,0,none⟩=some (ptrV s)/\W.heap.size<w'.heap.size/\w'.cell? ⟨zT,k,none⟩=some (.int .u32 (u32 ver))/\zT<w'.heap.size) wx.drew from ⟨bx,bl,tc,tl⟩);refine tT 0 (some 84) hS ?_;refine tQ 1 85 ?_;refine tQ 2 86 ?_;refine tQ 3 87 ?_;refine tQ 4 88 ?_;refine tT 5 (some 89) hS ?_;refine E5 (i:=6) (j:=10) rfl rfl qk ?faa ?fab
      case' faa=>
       intro K' hK;rw [if_pos (by rfl)];simp only [ij,iJ,iT];go_wp2_with fail;refine (B _ (cw.grew (fh wx).drew)).mono ?_;rintro e wb ⟨rfl,b3⟩;unfold LK;have a0:Looked w0 x s m sy ep E out' wx (wb.alloc (.cells #[.string bd,.int .u32 (u32 bv),.bool bb] 178)):=((cw.same (fh wx).drew).trans b3).grew ((fh wb).alloc _);have b1:Blk (wb.alloc (.cells #[.string bd,.int .u32 (u32 bv),.bool bb] 178)) wb.heap.size 178 #[.string bd,.int .u32 (u32 bv),.bool bb]:=fy wb _ _ rfl;have j8:wx.heap.size<=wb.heap.size:=b3.turned.size;have nl:Blk (wb.alloc (.cells #[.string ⟨#[]⟩,.int .u32 0,.bool false] 178)) wb.heap.size 178 #[.string ⟨#[]⟩,.int .u32 0,.bool false]:=fy wb _ _ rfl;clear b3;go_wp2_with fail;refine hK.out _ _ (.inl (by rfl)) ?_;clear hK;refine tQ 7 83 ?_;refine tQ 8 91 ?_;refine tQ 9 92 ?_;refine tO 10 λK' hK=>?_;go_wp2_with fail;refine hK.out _ _ (.inr (λhS=>d8 ((fh wb).alloc _) hS)) ?_;clear hK;refine tO 11 λK' hK=>?_;go_wp2_with fail;refine hK.out _ _ (.inl (by rfl)) ?_;clear hK nl;refine tQ 12 18 ?_;refine AA qk ?_ _;generalize hwz:wb.alloc (.cells #[.string bd,.int .u32 (u32 bv),.bool bb] 178)=wz at*;generalize hgz:wb.heap.size=gx at*;clear hwz hgz
      case' fab=>
       intro K' hK;rw [if_pos (by rfl)];simp only [ij,iJ,iT];go_wp2_with fail;have gp:Grew wx (wx.alloc (.cells #[.string ⟨#[]⟩,.int .u32 0,.bool false] 178)).drew:=((fh wx).alloc _).drew;have j9:Blk (wx.alloc (.cells #[.string ⟨#[]⟩,.int .u32 0,.bool false] 178)).drew wx.heap.size 178 #[.string ⟨#[]⟩,.int .u32 0,.bool false]:=(fy wx _ _ rfl).drew;refine hK.out _ _ (.inr (λhS=>d8 ((fh wx.drew).alloc _) hS)) ?_;clear hK;refine tO 6 λK' hK=>?_;go_wp2_with fail;refine (B _ (cw.grew gp)).mono ?_;rintro e wb ⟨rfl,b3⟩;unfold LK;have a7:=j9.looked b3 oo;have z0:=a7.cell 0;have z1:=a7.cell 1;have z2:=a7.cell 2;have f0:=a7.frozen 0;have f1:=a7.frozen 1;have f2:=a7.frozen 2;have zl:=a7.lt;have j8:wx.heap.size<=wx.heap.size:=fk _;have a0:Looked w0 x s m sy ep E out' wx (((wb.setCell ⟨wx.heap.size,0,none⟩ (.string bd)).setCell ⟨wx.heap.size,1,none⟩ (.int .u32 (u32 bv))).setCell ⟨wx.heap.size,2,none⟩ (.bool bb)):=CP cw ((cw.same gp).trans b3) (gT);have b1:Blk (((wb.setCell ⟨wx.heap.size,0,none⟩ (.string bd)).setCell ⟨wx.heap.size,1,none⟩ (.int .u32 (u32 bv))).setCell ⟨wx.heap.size,2,none⟩ (.bool bb)) wx.heap.size 178 #[.string bd,.int .u32 (u32 bv),.bool bb]:=gB;clear b3 a7 gp j9;go_wp2_with fail;refine hK.out _ _ (.inl (by rfl)) ?_;clear hK;refine tQ 7 83 ?_;refine tQ 8 91 ?_;refine tQ 9 92 ?_;refine tO 11 λK' hK=>?_;go_wp2_with fail;refine hK.out _ _ (.inl (by rfl)) ?_;clear hK z0 z1 z2 f0 f1 f2 zl;refine tQ 12 18 ?_;refine AA qk ?_ _;generalize hwz:((wb.setCell ⟨wx.heap.size,0,none⟩ (.string bd)).setCell ⟨wx.heap.size,1,none⟩ (.int .u32 (u32 bv))).setCell ⟨wx.heap.size,2,none⟩ (.bool bb)=wz at a0 b1 ⊢;obtain ⟨gx,hgz⟩:∃gx,gx=wx.heap.size:=⟨_,rfl⟩;rw [<-hgz] at b1 j8 ⊢;clear hwz hgz
      all_goals
       have nn:Grew wr wx:=N.out;have cx:Hid (Turned (λq=>q=m) wx wz):=zh a0.turned;have ka:=zh a0.store;have x0:=b1.cell 0;have xl:=b1.lt;have kb:Hid (Turned (λq=>q=m\/w1.heap.size<=q) w1 wz):=zh ((ec.out.trans (nn.turned _)).trans (cx.mono λq _ hq=>.inl hq));rcases nj.out with ⟨l3,rfl,l4,c5⟩ | ⟨l5,l6⟩;rotate_left
       . have p9:(er != 0)=true:=by rw [gu];exact l5
         have np:Hid (Kb E sy ep S v=(E,er)):=zh (by
          obtain ⟨r,hr⟩:=VI S jn (λe he=>by have:=(cj e he).1;omega) (i+1) (S.length - (i+1)) oo
          rw [show i+1+(S.length - (i+1))=S.length from oo,gP (fk _),j7.out,cv.out,iA] at hr
          have he:Ea E (ksW S)=er:=by rw [hr,I9 _ cr.out];exact l6 _
          unfold Kb
          rw [he,if_pos l5])
         clear a0 b1 bx bl tc tl l6;go_wp2_with fail;go_ret;rw [np.out];exact ⟨rfl,FF (bG HD (d6 wz kb ka) kb) d4 (λk hk=>.inl hk)⟩
       have nq:=zh l3;have nr:=zh l4;clear l3 l4;have jx:=GE;have ns:=zh (Ip bd c5);have kc:=zh (gj.lookd cx oo);have nu:=zh ((cu.grew N).kept cx (λg hg e=>by have:=cu.row_ge g hg;omega));have qa:wx.heap.size<=wz.heap.size:=cx.size;have nw:Hid (Turned (λq=>q=m\/wa.heap.size<=q) (wa.alloc (.map #[] 0)) wz):=zh ((HT.out.trans (N.turned _)).trans (cx.mono λq _ hq=>.inl hq));clear a0 b1 bx bl tc tl;go_wp2_with fail;refine (ns _).mono ?_;rintro e J ⟨rfl,c9⟩;have a5:Blk ((J.alloc (.cells (AC λ_=>0#32) 185)).setRow J.heap.size (AC (fld bd))) J.heap.size 185 (AC (fld bd)):=(fy J _ _ rfl).setRow _;have cy:Grew wz ((J.alloc (.cells (AC λ_=>0#32) 185)).setRow J.heap.size (AC (fld bd))):=(c9.alloc _).setRow c9.size _;have nx:Hid (∀j∈ksW (S.take i),¬bk j=J.heap.size):=zh (λj hj e=>by have:=((kc.grew c9).blk j hj).lt;omega);have ny:wa.heap.size<=J.heap.size:=by have:=c9.size;omega
       have kd:=zh (kc.grew cy);have gq:=zh a5;have cz:=zh (nu.grew cy);have ke:=zh (ka.grew cy);have gr:=zh (nw.out.trans (cy.turned _));have kf:=a5.lt;have kg:=gr.size;clear a5 cy c9 x0 xl;have nz:=cz;obtain ⟨wv,ii⟩:∃wv:World,wv=(J.alloc (.cells (AC λ_=>0#32) 185)).setRow J.heap.size (AC (fld bd)):=⟨_,rfl⟩;rw [<-ii] at kd gq cz ke gr kf kg;have qb:wa.heap.size+1<=wv.heap.size:=by have:(wa.alloc (.map #[] 0)).heap.size=wa.heap.size+1:=qs;omega
       go_wp2_with (first | (refine Ae rfl 185 _ _ rfl J.heap.size (AC (fld bd)) rfl rfl 185 (AC λ_=>0#32) (fy J _ _ rfl) (by rw [AY,AY]) (by rw [AY];exact EX) (D8 _) ?_) | (at_builtin;refine BZ rfl _ _ 38 rfl (wa.heap.size+1) 3 1 8 (.int .i64 0) Tryz.underlying38 Md rfl qd (((J.alloc (.cells (AC λ_=>0#32) 185)).setRow J.heap.size (AC (fld bd))).alloc (.cells #[.int .i64 (k:Int)] 3)) u13 ((ksW (S.take i)).map λk:Nat=>[.int .i64 (k:Int)]) [.int .i64 (k:Int)] rfl rfl (nz.alloc _) (J.heap.size+1) (by rfl) (fy _ _ _ qs) rfl (by rw [fm];omega) (by rw [fm];omega) (by rw [<-ii];simp;omega) (ksW (S.take i)).length (by rw [fm]) ?_));intro g9 a3 w9 L f _ _;rw [<-ii] at f;have eg:Grew wv (wv.alloc (.cells #[.int .i64 (k:Int)] 3)):=(fh wv).alloc _;have kh:=(cz.alloc (.cells #[.int .i64 (k:Int)] 3)).row_ge;have gt:Turned (λq=>wa.heap.size+1<=q) (wv.alloc (.cells #[.int .i64 (k:Int)] 3)) w9:=⟨f.os,f.tape,f.output,f.size,λq hq hn=>f.block q hq (λe9=>hn (kh q e9.symm))⟩;have n0:=zh ((ke.grew eg).kept gt (by have:=bs.1;omega) (by have:=bs.2;omega));have n1:=zh ((gr.out.trans (eg.turned _)).trans (gt.mono λq _ hq=>Or.inr oo));have gv:=zh ((kd.grew eg).own (cz.alloc (.cells #[.int .i64 (k:Int)] 3)) qd f);have c3:=zh ((gq.alloc (.cells #[.int .i64 (k:Int)] 3)).own f ((cz.alloc (.cells #[.int .i64 (k:Int)] 3)).ne_blk (gq.alloc _) qd));have Z:=zh L;clear L f kh gt eg kg kf;go_wp2_with (refine Bs rfl _ _ _ 187 rfl 188 Al Bc Tryz.underlying187 rfl gv.map (k:Int) ni (ptrV J.heap.size) rfl rfl ?_;intro pi la lb;have n3:=zh la;have ei:=zh lb;clear la lb)
       go_roundg (S.length - (i+1))
       case measure=>rw [f3.out];omega
       case rel=>
        have gz:ksW (S.take (i+1))=ksW (S.take i)++[k]:=by rw [j7.out,cv.out]
        refine ⟨i+1,(λj=>if j=k then J.heap.size else bk j),oo,oo,by go_num,by rw [gz];exact (gv.snoc (X:=fld bd) nk ny c3 nx n3 ei).conv (λj hj q hq=>by (by_cases h0:j=k;(· rw [if_pos h0,h0,nr.out]);(· rw [if_neg h0]))),?_,n0.kept ei (by have:=bs.1;omega) (by have:=bs.2;omega),n1.out.trans (ei.mono λq _ hq=>Or.inr oo),λj hj=>by rw [gz] at hj;rcases gC.1 hj with h9 | h9;exact cr.out j h9;rw [fp.1 h9];exact nq.out⟩
        . rw [gz,fz];exact Z.kept ei (λg hg e=>DX Z gv.map (by rw [hg,e]))
  . obtain rfl:i=S.length:=oo;have g0:=f4;have cc:=cu;have g1:=cr;rw [gP (fk _)] at g0 cc g1;have n4:Hid (Kb E sy ep S v=Bk sy ep (Cv (Hm E S v) v) E):=zh (by unfold Kb;rw [if_neg];have:=I9 (E:=E) (ksW S) g1 [];rw [append_nil] at this;rw [this];exact λh9=>h9 rfl);obtain ⟨wb,pq⟩:∃wb:World,wb=wr:=⟨_,rfl⟩;subst pq;have n5:S≠[]:=λe=>by rw [e] at b5;have:=b5.2;simp at this;omega
    obtain ⟨pr,q0,ps,pt⟩:=eF mo mp;have qc:=BD v;have cm:=gb.cell 1;have cp:=gb.out.lt
    have n6:0<(ksW S).length/\(ksW S).length<=32:=by
     refine ⟨?_,by unfold ksW;exact fx (jC _ _) (by rw [io];exact fk _)⟩;obtain ⟨e,S',rfl⟩:=exists_cons_of_ne_nil n5;have ki:e.1 / 32∈ksW (e::S'):=(Br _ _).2 ⟨by have:=(cj e (gS ..)).1;omega,e,gS ..,rfl⟩;exact length_pos_iff.2 (λh9=>by rw [h9] at ki;cases ki)
    obtain ⟨lr,q1⟩:=n6;obtain ⟨go,co,rfl,q2,q3⟩:=cc.some_ (λe=>by have:=map_eq_nil_iff.1 e;rw [this] at lr;simp at lr);rw [fm] at cc ⊢;have qe:(wa.alloc (.map #[] 0)).heap.size=wa.heap.size+1:=qs;have qf:wa.heap.size+1<=wb.heap.size:=by have:=HT.size;omega
    clear f4 cu j5 j0 j1 j2 j3 j4 c6 hi f3 cr g1;go_wp2_with fail
    go_loopg [114] S.length (λgk i' wr=>∃j:Nat,j<=S.length/\gk=S.length - j/\i'=.int .i64 j/\MapsM wr wa.heap.size wa.heap.size (ksW S) bk (λk q=>nm E S v j k q)/\Turned (λq=>wa.heap.size<=q/\q≠go) wb wr)
    case atStart=>exact ⟨0,oo,oo,rfl,g0.conv (λk hk q hq=>(bR E S v k q).symm),gW _ _⟩
    case round=>
     obtain ⟨j,hj,ls,rfl,lu,lv⟩:=hrel;have kj:=zh ls;have ek:=zh lu;have R:=zh lv;clear ls lu lv;by_cases c7:j<S.length
     . have qg:(j:Int)<(S.length:Int):=oo
       have kk:ListAt wr wr.heap.size 2 (some ⟨gs,0,none⟩) ((wlI S).map BB):=Da ee R (λb off o u9 e hu hq=>by
        injection e with e
        injection e with e1 _ _
        omega)
       obtain ⟨pp,c0,c1⟩:=KL kk c7;obtain ⟨a,ha⟩:∃a,S[j].1=a:=⟨_,rfl⟩;have ng:a<n:=by rw [<-ha];exact (cj _ (fq c7)).1
       obtain ⟨k,hk⟩:∃k:Nat,a / 32=k:=⟨_,rfl⟩;obtain ⟨r,hr⟩:∃r:Nat,a % 32=r:=⟨_,rfl⟩;have a6:k<32:=oo;have n7:r<32:=oo;have qh:(0:Int)<=(r:Int)/\(r:Int)<32:=oo;have gi:(a:Int) / 32=(k:Int):=oo;have nh:Int.tdiv (a:Int) 32=(k:Int):=by rw [Int.tdiv_eq_ediv_of_nonneg oo];exact gi
       have n8:(a:Int) % 32=(r:Int):=oo;have qi:Int.tmod (a:Int) 32=(r:Int):=by rw [jI oo];exact n8
       have aa:k∈ksW S:=(Br S k).2 ⟨a6,S[j],fq c7,by rw [ha];exact hk⟩;rw [ha] at c0;have ca:IntKind.i64.wrap (k:Int)=(k:Int):=gy _ oo;have qj:IntKind.i64.wrap (r:Int)=(r:Int):=gy _ oo;obtain ⟨kl,a4⟩:=E8 (k:Int) (CN _ oo);obtain ⟨wx,H⟩:∃wx:World,wx=(wr.alloc (.cells #[.int .i64 (a:Int),.string S[j].2] 65)).drew:=⟨_,rfl⟩;have C:Grew wr wx:=by rw [H];exact ((fh wr).alloc _).drew
       have cb:=ek.grew C;have an:=cb.map.lookup_val Al Bc Tryz.underlying187 (F4 _) (k:Int) a4;rw [Ma,if_pos aa,it] at an;have O:Blk wx wr.heap.size 65 #[.int .i64 (a:Int),.string S[j].2]:=by rw [H];exact (fy wr _ _ rfl).drew
       have cf:=cb.blk k aa;have x0:=O.cell 0;have xl:=O.lt;have m0:=cf.cell 0;rw [Cf _ _ oo] at m0;have mr:=cf.cell r;rw [Cf _ _ n7] at mr;have mf:=cf.frozen r;have ml:=cf.lt;have n9:=zh ((cb.store aa (j:=r) v).conv (V':=λk q=>nm E S v (j+1) k q) (λk' hk' q hq=>by rw [dh E S v j c7 k' q hq,ha,hk,hr]))
       have km:¬bk k=go:=λe=>by
        have h9:Blk wx go 3 _:=(((show Blk wb go 3 _ from (cc.block).choose_spec.2.1)).turned R.out (λh9=>h9.2 rfl)).grew C;exact Blk.ne_ cf h9 qd e
       have oa:Hid (Turned (λq=>wa.heap.size<=q/\q≠go) wb (wx.setCell ⟨bk k,r,none⟩ (.int .u32 (u32 v)))):=zh ((R.out.trans (C.turned _)).setCell (p:=⟨bk k,r,none⟩) (λ_=>⟨cb.low k aa,km⟩) _);clear kk a4 C cb O cf aa km ha hk hr;go_wp2_with fail;refine wp_region_still_tail 10 qk qk ?_;simp only [take_succ_cons,take_zero,drop_succ_cons,drop_zero];change wpStill _ _ (World.drew (wr.alloc (.cells #[.int .i64 (a:Int),.string S[j].2] 65))) (λa'=>wpList _ _ _ _ a' (World.drew (wr.alloc (.cells #[.int .i64 (a:Int),.string S[j].2] 65)))) _ _;obtain ⟨q4,iv⟩:∃w',w'=World.drew (wr.alloc (.cells #[.int .i64 (a:Int),.string S[j].2] 65)):=⟨_,rfl⟩;rw [<-iv];rw [<-H] at iv;subst iv;clear H c0 c1
       repeat still_step
       refine wpStill_nil ?_;go_wp2_with fail
       go_roundg (S.length - (j+1))
       case measure=>rw [kj.out];omega
       case rel=>exact ⟨j+1,oo,oo,by go_num,n9,oa⟩
     . obtain rfl:j=S.length:=oo;obtain ⟨wc,pu⟩:∃wc:World,wc=wr:=⟨_,rfl⟩;subst pu;have ql:wb.heap.size<=wc.heap.size:=R.size;have g3:=zh (cc.kept R (λg hg h9=>h9.2 (Nh hg)));have kn:=zh (ga.turned R (λh9=>oo));have ko:=zh (f6.turned R (λh9=>oo))
       have kp:Hid (ListAt wc wc.heap.size 2 (some ⟨gs,0,none⟩) ((wlI S).map BB)):=zh (Da ee R (λb off o u9 e hu hq=>by
        injection e with e
        injection e with e1 _ _
        omega))
       have kq:Hid (Turned (λq=>q=m\/w1.heap.size<=q) w1 wc):=zh (ec.out.trans (R.mono λq _ hq=>.inr oo));have kr:=zh (f5.kept R (by have:=bw.1.2;omega) oo);clear c7 hj kj R f6 ga gb ee ec gd g0 cc f5 HT cm cp pr ps pt;go_wp2_with fail
       go_loopg [132] (ksW S).length (λgk i' wr=>∃q:Nat,q<=(ksW S).length/\gk=(ksW S).length - q/\i'=.int .i64 q/\Blk wr zT 185 (AC (nt td S v q))/\Turned (λz=>z=zT) wc wr)
       case atStart=>exact ⟨0,oo,oo,rfl,kn.conv (BJ λp _=>(cX td S v p).symm),gW _ _⟩
       case round=>
        obtain ⟨q,hq,Y,rfl,lw,lx⟩:=hrel;have T:=zh Y;have c4:=zh lw;have ad:=zh lx;clear Y lw lx;by_cases G:q<(ksW S).length
        . have g5:(q:Int)<((ksW S).length:Int):=oo;have ks:=g3.kept ad (λg hg h9=>by have:=Nh hg;omega);obtain ⟨o0,ol⟩:=VQ ks G;have el:=zh (dK td S v q G);obtain ⟨k,hk⟩:∃k,(ksW S)[q]=k:=⟨_,rfl⟩;have a6:k<32:=by rw [<-hk];exact ((Br S _).1 (fq G)).1
          have nf:(0:Int)<=(k:Int)/\(k:Int)<32:=oo;rw [hk] at o0 el;have b0:=c4.cell k;rw [Cf _ _ a6] at b0;have bf:=c4.frozen k;have bl:=c4.out.lt;have ob:=zh (((c4.set_ k (.int .u32 (u32 v))).conv (by rw [Hc])).conv (BJ λp _=>el p));have oc:=zh (ad.setCell (p:=⟨zT,k,none⟩) (λ_=>rfl) (.int .u32 (u32 v)));clear ks hk;go_wp2_with fail
          go_roundg ((ksW S).length - (q+1))
          case measure=>rw [T.out];omega
          case rel=>exact ⟨q+1,oo,oo,by go_num,ob,oc⟩
        . obtain rfl:q=(ksW S).length:=oo;obtain ⟨wd,pw⟩:∃wd:World,wd=wr:=⟨_,rfl⟩;subst pw;have qm:wc.heap.size<=wd.heap.size:=ad.size;have od:=zh (g3.kept ad (λg hg h9=>by have:=Nh hg;omega));have oe:=zh (ko.turned ad (λh9=>oo))
          have og:Hid (ListAt wd wd.heap.size 2 (some ⟨gs,0,none⟩) ((wlI S).map BB)):=zh (Da kp ad (λb off o u9 e hu hq=>by
           injection e with e
           injection e with e1 _ _
           omega))
          have kt:=zh (ek.kept ad oo (λk hk h9=>by have:=ek.low k hk;omega));have oh:Hid (Turned (λq=>q=m\/w1.heap.size<=q) w1 wd):=zh (kq.out.trans (ad.mono λq _ hq=>.inr oo));have oi:=zh (kr.kept ad (by have:=bw.1.2;omega) oo);have el:=zh (e7 E td S v jo);have oj:=zh (λk=>ed E S v k);clear G hq T ad g3 ko kp ek kq kr kn;have ku:=zh (JB _ _ _ c4);rw [el.out] at ku;go_wp2_with fail;refine ku.mono ?_;rintro e we ⟨rfl,ge⟩;have op:=zh ge;have oq:=zh (Il (AI (GM E S v)) v 0 we (by rw [EH];unfold GM;rw [fm,io];omega) (CN 0 oo));clear ge;go_wp2_with fail;refine oq.mono ?_;rintro e wf ⟨rfl,gf⟩;have g7:=zh (op.out.trans gf);have ot:Hid (Grew wd ((wf.alloc (.cells #[.int .i64 0,.string (Ao (AI (GM E S v)) v 0)] 193)).alloc (.cells #[.slice (some ⟨wf.heap.size,0,none⟩) 1 1] 194))):=zh ((g7.alloc _).alloc _);have ou:Hid (OwnL ((wf.alloc (.cells #[.int .i64 0,.string (Ao (AI (GM E S v)) v 0)] 193)).alloc (.cells #[.slice (some ⟨wf.heap.size,0,none⟩) 1 1] 194)) wd.heap.size 193 2 (.slice (some ⟨wf.heap.size,0,none⟩) 1 1) ([en0 E S v].map BB)):=zh ((OwnL.lit wf wd.heap.size 193 2 (BB (en0 E S v)) rfl g7.size rfl).alloc _);have ov:Hid (Blk ((wf.alloc (.cells #[.int .i64 0,.string (Ao (AI (GM E S v)) v 0)] 193)).alloc (.cells #[.slice (some ⟨wf.heap.size,0,none⟩) 1 1] 194)) (wf.heap.size+1) 194 #[.slice (some ⟨wf.heap.size,0,none⟩) 1 1]):=zh (fy _ _ _ qs);have qn:wd.heap.size<=wf.heap.size:=g7.size;clear gf;go_wp2_with fail
          go_loopg [147] (ksW S).length (λgk i' wr=>∃(q:Nat) (u:Value),q<=(ksW S).length/\gk=(ksW S).length - q/\i'=.int .i64 q/\Blk wr (wf.heap.size+1) 194 #[u]/\OwnL wr wd.heap.size 193 2 u ((en0 E S v::enM E S v q).map BB)/\Grew wd wr)
          case atStart=>exact ⟨0,_,oo,oo,rfl,ov,by rw [show enM E S v 0=[] from rfl];exact ou.out,ot⟩
          case round=>
           obtain ⟨q,u,hq,Y,rfl,df,dk,d0⟩:=hrel;have T:=zh Y;have B:=zh df;have P:=zh dk;have M:=zh d0;clear Y df dk d0;by_cases G:q<(ksW S).length
           . have g5:(q:Int)<((ksW S).length:Int):=oo;obtain ⟨o0,ol⟩:=VQ (od.grew M) G;have kv:=zh (am E S v q G);obtain ⟨k,hk⟩:∃k,(ksW S)[q]=k:=⟨_,rfl⟩;have aa:k∈ksW S:=by rw [<-hk];exact fq G
             have a6:k<32:=((Br S _).1 aa).1;rw [hk] at o0 kv;obtain ⟨kl,a4⟩:=E8 (k:Int) (CN _ oo)
             have ow:Hid (∀w',Grew wr w'->(Instr.lookup 187 (.map (some wa.heap.size)) (.int .i64 (k:Int)) false).run Tryz.prog w'=.ok (ptrV (bk k)) w'):=zh (λw' hg=>by
              have an:=((kt.grew M).grew hg).map.lookup_val Al Bc Tryz.underlying187 (F4 _) (k:Int) a4
              rw [Ma,if_pos aa,it] at an
              exact an)
             have t:Hid (∀w',Grew wr w'->(λw':World=>w'.cell? ⟨wf.heap.size+1,0,none⟩=some u/\wf.heap.size+1<w'.heap.size/\(Instr.lookup 187 (.map (some wa.heap.size)) (.int .i64 (k:Int)) false).run Tryz.prog w'=.ok (ptrV (bk k)) w') w'):=zh (λw' hg=>⟨(B.grew hg).cell 0,(B.grew hg).lt,ow w' hg⟩);have ox:=zh ((kt.grew M).blk k aa);have ca:IntKind.i64.wrap (1+(k:Int))=1+(k:Int):=gy _ oo;have qo:IntKind.i64.wrap (k:Int)=(k:Int):=gy _ oo;have g8:=zh (λw=>Il (AI (E6 E S v k)) v (1+(k:Int)) w (by rw [EH];unfold E6;rw [fm,io];omega) (CN _ oo));have oy:(en0 E S v::enM E S v q).length<=33:=by rw [iY];have:=Vp E S v q;omega
             have oz:wf.heap.size+1<wr.heap.size:=B.out.lt;clear a4 aa hk;go_wp2_with fail;refine AB [13,14] (λw':World=>w'.cell? ⟨wf.heap.size+1,0,none⟩=some u/\wf.heap.size+1<w'.heap.size/\(Instr.lookup 187 (.map (some wa.heap.size)) (.int .i64 (k:Int)) false).run Tryz.prog w'=.ok (ptrV (bk k)) w') qk ?_;have hS:=t.out wr.drew (fh wr).drew;refine tT 0 (some 151) hS ?_;refine tQ 1 152 ?_;refine tQ 2 153 ?_;refine tQ 3 154 ?_;refine tQ 4 155 ?_;refine tT 5 (some 156) hS ?_;refine tQ 7 158 ?_;refine tQ 8 159 ?_;refine tQ 9 160 ?_;refine tO 6 λK' hK=>?_;go_wp2_with fail;refine (JB _ _ _ (ox.drew)).mono ?_;rintro e wg ⟨rfl,gg⟩;have kw:Hid (Grew wr wg):=zh ((fh wr).drew.trans gg);rw [oj.out];clear gg;go_wp2_with fail;refine hK.out _ _ (.inr (λ_=>t wg kw)) ?_;clear hK hS;refine tO 10 λK' hK=>?_;go_wp2_with fail;refine (g8 wg).mono ?_;rintro e wh ⟨rfl,gh⟩;have I:=zh (kw.out.trans gh);clear gh;go_wp2_with fail;refine hK.out _ _ (.inr (λ_=>t wh I)) ?_;clear hK;refine tQ 11 162 ?_;refine tO 12 λK' hK=>?_;go_wp2_with fail;refine hK.out _ _ (.inr (λ_=>t _ (I.alloc _))) ?_;clear hK;have o1:wd.heap.size<=wh.heap.size:=(M.out.trans I).size;refine tO 13 λK' hK=>?_;refine Hg (.tmp 151) (.tmp 163) 194 rfl wd.heap.size 193 2 24 _ Tryz.underlying194 KU rfl qd _ u ((en0 E S v::enM E S v q).map BB) (BB (1+(k:Int),Ao (AI (E6 E S v k)) v (1+(k:Int)))) rfl rfl ((P.grew I).alloc _) wh.heap.size rfl (fy wh _ _ rfl) rfl (by rw [fm];omega) (by rw [fm];omega) (by simp;omega) (en0 E S v::enM E S v q).length (by rw [fm]) ?_;intro g9 a3 w9 L f _ _;have Q:=((B.grew I).alloc (.cells #[.int .i64 (1+(k:Int)),.string (Ao (AI (E6 E S v k)) v (1+(k:Int)))] 193)).own f (P.ne_blk B qd);have a8:=((M.out.trans I).alloc (.cells #[.int .i64 (1+(k:Int)),.string (Ao (AI (E6 E S v k)) v (1+(k:Int)))] 193)).own f P.row_ge (fk _);have c3:=zh (Q.set_ 0 (.slice (some ⟨g9,0,none⟩) ((en0 E S v::enM E S v q).length+1) a3));have Z:=zh (L.far (p:=⟨wf.heap.size+1,0,none⟩) (L.ne_blk Q qd) (.slice (some ⟨g9,0,none⟩) ((en0 E S v::enM E S v q).length+1) a3));have a1:=zh (a8.setCell (p:=⟨wf.heap.size+1,0,none⟩) (by show wd.heap.size<=wf.heap.size+1;omega) (.slice (some ⟨g9,0,none⟩) ((en0 E S v::enM E S v q).length+1) a3));have b9:=Q.cell 0;have f9:=Q.frozen 0;have l9:=Q.lt;refine hK.out _ _ (.inl (by rfl)) ?_;clear hK L f Q a8
             try simp only [Act.put,zA,zB,zC]
             refine tO 14 λK' hK=>?_;go_wp2_with fail;refine hK.out _ _ (.inl (by rfl)) ?_;clear hK b9 f9 l9;refine AA qk ?_ _;go_wp2_with fail
             go_roundg ((ksW S).length - (q+1))
             case measure=>rw [T.out];omega
             case rel=>exact ⟨q+1,_,oo,oo,by go_num,c3,by rw [kv.out,<-cons_append,fz];exact Z.out,a1⟩
           . obtain rfl:q=(ksW S).length:=oo;clear G hq T;go_wp2_with fail
             go_loopg [168] S.length (λgk i' wr=>∃(q:Nat) (u:Value),q<=S.length/\gk=S.length - q/\i'=.int .i64 q/\Blk wr (wf.heap.size+1) 194 #[u]/\OwnL wr wd.heap.size 193 2 u ((en0 E S v::(enM E S v (ksW S).length++enD S v q)).map BB)/\Grew wd wr)
             case atStart=>exact ⟨0,_,oo,oo,rfl,B,by rw [show enD S v 0=[] from rfl,append_nil];exact P.out,M⟩
             case round=>
              clear B P M;obtain ⟨q,u,hq,Y,rfl,df,dk,d0⟩:=hrel;have T:=zh Y;have B:=zh df;have P:=zh dk;have M:=zh d0;clear Y df dk d0;by_cases G:q<S.length
              . have g5:(q:Int)<(S.length:Int):=oo;obtain ⟨ol,c0,c1⟩:=KL (AO og M) G;have hb:=zh (aq S v q G);have hc:=cj.out _ (fq G);obtain ⟨⟨a,ds⟩,ha⟩:∃e,S[q]=e:=⟨_,rfl⟩;rw [ha] at hb c0 c1 hc;simp only at hb c0 c1 hc;obtain ⟨q5,q6⟩:=hc;have O:Blk (wr.alloc (.cells #[.int .i64 (a:Int),.string ds] 65)) wr.heap.size 65 #[.int .i64 (a:Int),.string ds]:=fy wr _ _ rfl;have C:Grew wr (wr.alloc (.cells #[.int .i64 (a:Int),.string ds] 65)):=(fh wr).alloc _;have t:Hid (∀w',Grew (wr.alloc (.cells #[.int .i64 (a:Int),.string ds] 65)) w'->(λw':World=>w'.cell? ⟨wf.heap.size+1,0,none⟩=some u/\wf.heap.size+1<w'.heap.size/\w'.cell? ⟨wr.heap.size,0,none⟩=some (.int .i64 (a:Int))/\w'.cell? ⟨wr.heap.size,1,none⟩=some (.string ds)/\wr.heap.size<w'.heap.size) w'):=zh (λw' hg=>⟨(B.grew (C.trans hg)).cell 0,(B.grew (C.trans hg)).lt,(O.grew hg).cell 0,(O.grew hg).cell 1,(O.grew hg).lt⟩);have N:=zh C;have ca:IntKind.i64.wrap (131+(a:Int))=131+(a:Int):=gy _ oo;have g8:=zh (λw=>Il ds v (131+(a:Int)) w oo (CN _ oo));have oy:(en0 E S v::(enM E S v (ksW S).length++enD S v q)).length<=97:=by rw [iY,gK];have:=Vp E S v (ksW S).length;have:=b7 S v q;omega
                obtain ⟨rl,px⟩:∃rl,(en0 E S v::(enM E S v (ksW S).length++enD S v q)).length=rl:=⟨_,rfl⟩;have oz:wf.heap.size+1<wr.heap.size:=B.out.lt;obtain ⟨wx,H⟩:∃wx:World,wx=wr.alloc (.cells #[.int .i64 (a:Int),.string ds] 65):=⟨_,rfl⟩;rw [<-H] at t N;clear O C ha;go_wp2_with fail;rw [<-H];clear H c0 c1;refine AB [13,14] (λw':World=>w'.cell? ⟨wf.heap.size+1,0,none⟩=some u/\wf.heap.size+1<w'.heap.size/\w'.cell? ⟨wr.heap.size,0,none⟩=some (.int .i64 (a:Int))/\w'.cell? ⟨wr.heap.size,1,none⟩=some (.string ds)/\wr.heap.size<w'.heap.size) qk ?_;have hS:=t.out wx.drew (fh wx).drew;refine tT 0 (some 172) hS ?_;refine tQ 1 173 ?_;refine tT 2 (some 174) hS ?_;refine tQ 3 175 ?_;refine tQ 4 176 ?_;refine tT 5 (some 177) hS ?_;refine tQ 6 178 ?_;refine tQ 7 179 ?_;refine tT 8 (some 180) hS ?_;refine tQ 9 181 ?_;refine tO 10 λK' hK=>?_;go_wp2_with fail;refine (g8 wx.drew).mono ?_;rintro e wh ⟨rfl,gh⟩;have a2:=zh ((fh wx).drew.trans gh);have I:=zh (N.out.trans a2);clear gh;go_wp2_with fail;refine hK.out _ _ (.inr (λ_=>t wh a2)) ?_;clear hK hS;refine tQ 11 183 ?_;refine tO 12 λK' hK=>?_;go_wp2_with fail;refine hK.out _ _ (.inr (λ_=>t _ (a2.alloc _))) ?_;clear hK;have o1:wd.heap.size<=wh.heap.size:=(M.out.trans I).size;refine tO 13 λK' hK=>?_;refine Hg (.tmp 172) (.tmp 184) 194 rfl wd.heap.size 193 2 24 _ Tryz.underlying194 KU rfl qd _ u ((en0 E S v::(enM E S v (ksW S).length++enD S v q)).map BB) (BB (131+(a:Int),Ao ds v (131+(a:Int)))) rfl rfl ((P.grew I).alloc _) wh.heap.size rfl (fy wh _ _ rfl) rfl (by rw [fm];omega) (by rw [fm];omega) (by simp;omega) rl (by rw [fm];exact px) ?_;intro g9 a3 w9 L f _ _;have Q:=((B.grew I).alloc (.cells #[.int .i64 (131+(a:Int)),.string (Ao ds v (131+(a:Int)))] 193)).own f (P.ne_blk B qd);have a8:=((M.out.trans I).alloc (.cells #[.int .i64 (131+(a:Int)),.string (Ao ds v (131+(a:Int)))] 193)).own f P.row_ge (fk _);have c3:=zh (Q.set_ 0 (.slice (some ⟨g9,0,none⟩) (rl+1) a3));have Z:=zh (L.far (p:=⟨wf.heap.size+1,0,none⟩) (L.ne_blk Q qd) (.slice (some ⟨g9,0,none⟩) (rl+1) a3));have a1:=zh (a8.setCell (p:=⟨wf.heap.size+1,0,none⟩) (by show wd.heap.size<=wf.heap.size+1;omega) (.slice (some ⟨g9,0,none⟩) (rl+1) a3));have b9:=Q.cell 0;have f9:=Q.frozen 0;have l9:=Q.lt;refine hK.out _ _ (.inl (by rfl)) ?_;clear hK L f Q a8
                try simp only [Act.put,zA,zB,zC]
                refine tO 14 λK' hK=>?_;go_wp2_with fail;refine hK.out _ _ (.inl (by rfl)) ?_;clear hK b9 f9 l9;refine AA qk ?_ _;go_wp2_with fail
                go_roundg (S.length - (q+1))
                case measure=>rw [T.out];omega
                case rel=>exact ⟨q+1,_,oo,oo,by go_num,c3,by rw [hb.out,<-iA,<-cons_append,fz];exact Z.out,a1⟩
              . obtain rfl:q=S.length:=oo;rw [eQ] at P;have a0:=Ye E S v nb;have c5:=YO E S v;obtain ⟨l,hl⟩:∃l,Hm E S v=l:=⟨_,rfl⟩;rw [hl] at P a0 c5;have o2:=zh hl;obtain ⟨q7,ly⟩:=a0;have em:=zh c5;obtain ⟨ge,ce,rfl,q8,q9⟩:=P.some_ (λe=>by have h9:=K9 l;rw [e] at h9;simp at h9;omega);rw [K9] at B;have kx:=P;rw [K9] at kx;obtain ⟨wg,py⟩:∃wg:World,wg=wr:=⟨_,rfl⟩;subst py;have o3:=B.cell 0;have o4:=B.out.lt;have ky:=zh kx.listA;have eq:=zh (oe.grew M);have qp:W.heap.size<wg.heap.size:=eq.out.lt;clear G hq T hl c5;go_wp2_with fail;clear o3 o4
                go_loopg [30,31,189] l.length (λgk a30 a31 i' wr=>∃(q:Nat) (vs:List Value),q<=l.length/\gk=l.length - q/\i'=.int .i64 q/\a31=.string (Dp (DT (l.take q)))/\OwnL wr wg.heap.size 196 1 a30 (vs.map λv=>[v])/\PutsAt wr wg.heap.size s (slU l q) vs/\Grew wg wr)
                case atStart=>exact ⟨0,[],oo,oo,rfl,rfl,OwnL.nil ..,PutsAt.nil ..,fh _⟩
                case round=>
                 obtain ⟨q,vs,hq,Y,rfl,rfl,lz,l0,l1⟩:=hrel;have T:=zh Y;have a9:=zh lz;have es:=zh l0;have U:=zh l1;clear Y lz l0 l1;by_cases G:q<l.length
                 . have g5:(q:Int)<(l.length:Int):=oo;obtain ⟨ol,c0,c1⟩:=KL (AO ky U) G;have hf:=zh (Zy l q G);have hm:=zh (VD l q G);obtain ⟨⟨a,ae⟩,ha⟩:∃e,l[q]=e:=⟨_,rfl⟩;have qq:ae.size=140:=by have:=em.out _ (fq G);rw [ha] at this;exact this
                   have kz:(Dp (DT (l.take q))).size<=14000:=by
                    rw [Lc _ (λr hr=>by
                     unfold DT at hr
                     obtain ⟨e,he,rfl⟩:=ft.1 hr
                     exact em.out _ (iu he))]
                    unfold DT;rw [fm,iX];omega
                   rw [ha] at hf hm c0 c1;simp only at hf hm c0 c1;have O:Blk (wr.alloc (.cells #[.int .i64 (a:Int),.string ae] 193)) wr.heap.size 193 #[.int .i64 (a:Int),.string ae]:=fy wr _ _ rfl;have C:Grew wr (wr.alloc (.cells #[.int .i64 (a:Int),.string ae] 193)):=(fh wr).alloc _;have av:=eq.grew U;have qr:W.heap.size<wr.heap.size:=av.lt;have t:Hid (∀w',Grew (wr.alloc (.cells #[.int .i64 (a:Int),.string ae] 193)) w'->(λw':World=>w'.cell? ⟨W.heap.size,0,none⟩=some (ptrV s)/\W.heap.size<w'.heap.size/\w'.cell? ⟨wr.heap.size,1,none⟩=some (.string ae)/\wr.heap.size<w'.heap.size) w'):=zh (λw' hg=>⟨(av.grew (C.trans hg)).cell 0,(av.grew (C.trans hg)).lt,(O.grew hg).cell 1,(O.grew hg).lt⟩);have N:=zh C;have ca:IntKind.i64.wrap (34+(q:Int))=34+(q:Int):=gy _ oo;have et:=es.1;rw [Qq] at et;obtain ⟨wx,H⟩:∃wx:World,wx=wr.alloc (.cells #[.int .i64 (a:Int),.string ae] 193):=⟨_,rfl⟩;have ho:=zh O;have k0:=zh av;rw [<-H] at t N ho;have qt:wr.heap.size<wx.heap.size:=by rw [H];simp
                   clear O C ha av;go_wp2_with fail;rw [<-H];clear H c0 c1;refine AB [] (λw':World=>w'.cell? ⟨W.heap.size,0,none⟩=some (ptrV s)/\W.heap.size<w'.heap.size/\w'.cell? ⟨wr.heap.size,1,none⟩=some (.string ae)/\wr.heap.size<w'.heap.size) qk ?_;have hS:=t.out wx.drew (fh wx).drew;refine tQ 0 194 ?_;refine tT 1 (some 195) hS ?_;refine tQ 2 196 ?_;refine tQ 3 197 ?_;refine tQ 4 198 ?_;refine tT 5 (some 199) hS ?_;refine tQ 9 203 ?_;refine tQ 10 204 ?_;refine tT 11 (some 205) hS ?_;refine tQ 12 206 ?_;refine tO 6 λK' hK=>?_;go_wp2_with fail;refine (JD _ _ _ _).mono ?_;rintro e wh ⟨pv,rfl,b4,gh⟩;obtain ⟨K,rfl⟩:=b4.form;have a2:=zh ((fh wx).drew.trans gh);have I:=zh (N.out.trans a2);have qu:wg.heap.size<=wh.heap.size:=(U.out.trans I).size;have k1:PutAt wh wg.heap.size s (34+(q:Int)) ae (.func (.func 182) #[] K):=b4.low (by show wg.heap.size<=wx.drew.heap.size;have h8:=U.size;have:wx.drew.heap.size=wx.heap.size:=rfl;omega);have o5:=zh ((es.grew I).snoc (e:=(34+(q:Int),ae)) k1);clear gh b4 k1;go_wp2_with fail;refine hK.out _ _ (.inr (λ_=>t wh a2)) ?_;clear hK hS;refine tO 7 λK' hK=>?_;go_wp2_with fail;refine hK.out _ _ (.inr (λ_=>t _ (a2.alloc _))) ?_;clear hK;refine tO 8 λK' hK=>?_;refine Hg (.tmp 194) (.tmp 201) 195 rfl wg.heap.size 196 1 8 .nilFunc Tryz.underlying195 F9 rfl qd _ u30 (vs.map λv=>[v]) [.func (.func 182) #[] K] rfl rfl ((a9.grew I).alloc _) wh.heap.size rfl (fy wh _ _ rfl) rfl (by rw [fm];omega) (by rw [fm];omega) (by simp;omega) q (by rw [fm];exact et) ?_;intro g9 a3 w9 L f _ _;have a8:=((U.out.trans I).alloc (.cells #[.func (.func 182) #[] K] 196)).own f a9.row_ge (fk _);have k2:=(o5.grew ((fh wh).alloc (.cells #[.func (.func 182) #[] K] 196))).own ((a9.grew I).alloc (.cells #[.func (.func 182) #[] K] 196)) f;have Z:=zh L;have a1:=zh a8;have o6:=zh k2;have bc:=((k0.grew (N.out.trans a2)).alloc (.cells #[.func (.func 182) #[] K] 196)).own f (a9.ne_blk k0 qd);have hs:=((ho.grew a2).alloc (.cells #[.func (.func 182) #[] K] 196)).own f ((a9.grew N).ne_blk ho qd);refine hK.out _ _ (.inr (λ_=>⟨bc.cell 0,bc.lt,hs.cell 1,hs.lt⟩)) ?_;clear hK L f a8 k2 bc hs;refine tQ 13 30 ?_;refine tQ 14 31 ?_;refine AA qk ?_ _;go_wp2_with fail
                   go_roundg (l.length - (q+1))
                   case measure=>rw [T.out];omega
                   case rel=>exact ⟨q+1,vs++[.func (.func 182) #[] K],oo,oo,by go_num,by rw [hm.out],by rw [fz];exact Z.out,by rw [hf.out];exact o6.out,a1⟩
                 . obtain rfl:q=l.length:=oo;rw [gP (fk _)];obtain ⟨wk,ca⟩:∃wk:World,wk=wr:=⟨_,rfl⟩;subst ca;have eu:=zh (B.grew U);have hw:=zh (eq.grew U)
                   have kz:(Dp (DT l)).size<=14000:=by
                    rw [Lc _ (λr hr=>by
                     unfold DT at hr
                     obtain ⟨e,he,rfl⟩:=ft.1 hr
                     exact em.out _ he)]
                    unfold DT;rw [fm];omega
                   have o7:=Yu l.length ly;have bt:(BK v).size=4:=Ah v;have k3:(BK (nv l.length)).size=4:=Ah _;have b6:(BK (Eg (Dp (DT l)))).size=4:=Ah _;have o8:(BK v++BK (nv l.length)).size=8:=by rw [f8,bt,k3]
                   have o9:Hid (BK v++BK (nv l.length)++BK (Eg (Dp (DT l)))=Bm l v):=zh (by unfold Bm;rw [im]);have t:Hid (∀w',Grew wk w'->(λw':World=>w'.cell? ⟨wf.heap.size+1,0,none⟩=some (.slice (some ⟨ge,0,none⟩) l.length ce)/\wf.heap.size+1<w'.heap.size) w'):=zh (λw' hg=>⟨(eu.grew hg).cell 0,(eu.grew hg).lt⟩);clear G hq T;go_wp2_with fail;refine AB [] (λw':World=>w'.cell? ⟨wf.heap.size+1,0,none⟩=some (.slice (some ⟨ge,0,none⟩) l.length ce)/\wf.heap.size+1<w'.heap.size) qk ?_;have hS:=t.out wk.drew (fh wk).drew;refine tQ 0 208 ?_;refine tT 2 (some 210) hS ?_;refine tT 3 (some 211) hS ?_;refine tT 4 (some 212) hS ?_;refine tQ 7 215 ?_;refine tO 1 λK' hK=>?_;go_wp2_with fail;refine (E0 v _).mono ?_;rintro e pj ⟨rfl,lc⟩;have k4:=zh ((fh wk).drew.trans lc);clear lc;go_wp2_with fail;refine hK.out _ _ (.inr (λ_=>t pj k4)) ?_;clear hK hS;refine tO 5 λK' hK=>?_;go_wp2_with fail;refine (E0 (nv l.length) _).mono ?_;rintro e ld ⟨rfl,le⟩;have hx:=zh (k4.out.trans le);clear le;go_wp2_with fail;refine hK.out _ _ (.inr (λ_=>t ld hx)) ?_;clear hK;have hS:=t.out ld hx;refine tQ 6 214 ?_;refine tO 8 λK' hK=>?_;go_wp2_with fail;refine (MP (Dp (DT l)) oo _).mono ?_;rintro e pk ⟨rfl,lf⟩;have k5:=zh (hx.out.trans lf);clear lf;go_wp2_with fail;refine hK.out _ _ (.inr (λ_=>t pk k5)) ?_;clear hK hS;refine tO 9 λK' hK=>?_;go_wp2_with fail;refine (E0 (Eg (Dp (DT l))) _).mono ?_;rintro e ch ⟨rfl,lg⟩;have V:=zh (k5.out.trans lg);clear lg;go_wp2_with fail;refine hK.out _ _ (.inr (λ_=>t ch V)) ?_;clear hK;have hS:=t.out ch V;refine tQ 10 218 ?_;refine tQ 11 34 ?_;refine AA qk ?_ _;rw [o9.out];clear hS o7 bt k3 b6 o8 kz;have ex:Hid (∀w',Grew ch w'->(λw':World=>w'.cell? ⟨W.heap.size,0,none⟩=some (ptrV s)/\W.heap.size<w'.heap.size) w'):=zh (λw' hg=>⟨((hw.grew V).grew hg).cell 0,((hw.grew V).grew hg).lt⟩);have pa:=zh (λw=>Il (Bm l v) v 33 w (by rw [Kg];omega) (CN 33 oo));go_wp2_with fail;refine AB [] (λw':World=>w'.cell? ⟨W.heap.size,0,none⟩=some (ptrV s)/\W.heap.size<w'.heap.size) qk ?_;have hS:=ex.out ch.drew (fh ch).drew;refine tQ 0 219 ?_;refine tT 1 (some 220) hS ?_;refine tQ 2 221 ?_;refine tT 3 (some 222) hS ?_;refine tQ 4 223 ?_;refine tQ 5 224 ?_;refine tT 8 (some 227) hS ?_;refine tQ 9 228 ?_;refine tQ 10 229 ?_;refine tO 6 λK' hK=>?_;go_wp2_with fail;refine (pa _).mono ?_;rintro e lh ⟨rfl,li⟩;have hz:=zh ((fh ch).drew.trans li);clear li;go_wp2_with fail;refine hK.out _ _ (.inr (λ_=>ex lh hz)) ?_;clear hK hS;refine tO 7 λK' hK=>?_;go_wp2_with fail;refine (JD _ _ _ _).mono ?_;rintro e da ⟨pv,rfl,b4,lj⟩;obtain ⟨K,rfl⟩:=b4.form;have bn:=zh (hz.out.trans lj);have pb:wg.heap.size<=lh.heap.size:=(U.out.trans (V.out.trans hz)).size;have pc:=zh (b4.low pb);clear lj b4;go_wp2_with fail;refine hK.out _ _ (.inr (λ_=>ex da bn)) ?_;clear hK;refine tO 11 λK' hK=>?_;go_wp2_with fail;refine hK.out _ _ (.inr (λ_=>ex _ (bn.alloc _))) ?_;clear hK;have et:=es.1;rw [Qq] at et;have e0:=zh (a9.grew (V.out.trans bn));have qv:wg.heap.size<=da.heap.size:=(U.out.trans (V.out.trans bn)).size;refine tO 12 λK' hK=>?_;refine J3 (.tmp 219) (.tmp 230) 195 rfl wg.heap.size 196 1 8 .nilFunc Tryz.underlying195 F9 rfl qd u30 (vs.map λv=>[v]) (([.func (.func 115) #[ptrV s] #[],.func (.func 182) #[] K,.func (.func 115) #[ptrV s] #[],.func (.func 116) #[] #[.pointer (some ⟨W.heap.size,0,none⟩),.pointer (some ⟨wf.heap.size+1,0,none⟩)]]:List Value).map λv=>[v]) rfl (e0.alloc _) (some ⟨da.heap.size,0,none⟩) 4 4 rfl rfl (OA _) (KT (fy _ _ _ rfl) qs) (Nr (by rfl)) (by rw [fm];omega) (by rw [fm];omega) (by simp;omega) ?_;intro v9 w9 L f _;have bc:=((hw.grew (V.out.trans bn)).alloc (.cells #[.func (.func 115) #[ptrV s] #[],.func (.func 182) #[] K,.func (.func 115) #[ptrV s] #[],.func (.func 116) #[] #[.pointer (some ⟨W.heap.size,0,none⟩),.pointer (some ⟨wf.heap.size+1,0,none⟩)]] 196)).own f (a9.ne_blk (eq.grew U) qd);have pd:=zh bc;have Z:=zh L;have pe:=zh (((eu.grew (V.out.trans bn)).alloc (.cells #[.func (.func 115) #[ptrV s] #[],.func (.func 182) #[] K,.func (.func 115) #[ptrV s] #[],.func (.func 116) #[] #[.pointer (some ⟨W.heap.size,0,none⟩),.pointer (some ⟨wf.heap.size+1,0,none⟩)]] 196)).own f (a9.ne_blk eu qd));have pf:=zh (((es.grew (V.out.trans bn)).grew ((fh da).alloc (.cells #[.func (.func 115) #[ptrV s] #[],.func (.func 182) #[] K,.func (.func 115) #[ptrV s] #[],.func (.func 116) #[] #[.pointer (some ⟨W.heap.size,0,none⟩),.pointer (some ⟨wf.heap.size+1,0,none⟩)]] 196))).own (e0.alloc (.cells #[.func (.func 115) #[ptrV s] #[],.func (.func 182) #[] K,.func (.func 115) #[ptrV s] #[],.func (.func 116) #[] #[.pointer (some ⟨W.heap.size,0,none⟩),.pointer (some ⟨wf.heap.size+1,0,none⟩)]] 196)) f);have pg:=zh ((pc.grew ((fh da).alloc (.cells #[.func (.func 115) #[ptrV s] #[],.func (.func 182) #[] K,.func (.func 115) #[ptrV s] #[],.func (.func 116) #[] #[.pointer (some ⟨W.heap.size,0,none⟩),.pointer (some ⟨wf.heap.size+1,0,none⟩)]] 196))).own (e0.alloc (.cells #[.func (.func 115) #[ptrV s] #[],.func (.func 182) #[] K,.func (.func 115) #[ptrV s] #[],.func (.func 116) #[] #[.pointer (some ⟨W.heap.size,0,none⟩),.pointer (some ⟨wf.heap.size+1,0,none⟩)]] 196)) f);have a1:Hid (Grew wg w9):=zh (((U.out.trans (V.out.trans bn)).alloc (.cells #[.func (.func 115) #[ptrV s] #[],.func (.func 182) #[] K,.func (.func 115) #[ptrV s] #[],.func (.func 116) #[] #[.pointer (some ⟨W.heap.size,0,none⟩),.pointer (some ⟨wf.heap.size+1,0,none⟩)]] 196)).own f e0.row_ge (fk _));refine hK.out _ _ (.inr (λ_=>⟨bc.cell 0,bc.lt⟩)) ?_;clear hK L f bc;have k6:=zh (M.out.trans a1);have k7:Hid (Turned (λq=>q=m\/w1.heap.size<=q) w1 w9):=zh (oh.out.trans (k6.turned _));have k8:=zh (oi.grew k6);have k9:=zh (YM (d6 w9 k7 k8) (by have:=mq.out;omega) (lo:=w1.heap.size) (base:=wg.heap.size) (λk h1 h2=>.inr ⟨h1,h2⟩) (by have:=M.size;omega) l v ly em pd (.inl (.inr rfl)) pe oo (AO ky a1) ⟨oo,by have:=a1.size;omega⟩ pf pg (by rw [fz];exact Z.out));obtain ⟨A2,n2,c2,rfl,l2⟩:=k9.out;have ph:=zh l2;clear l2 k9;refine tQ 13 30 ?_;refine AA qk ?_ _;go_wp2_with fail;refine ph.mono ?_;rintro e pi ⟨rfl,pl,pm⟩;go_wp2_with fail;go_ret;rw [n4.out,o2.out];exact ⟨rfl,US d4 HD k8 k7 pl pm jm.1 jm.2⟩
end

theorem Ud {w0:World} {x s m:Nat} {sy ep:Int} {D:Dev} {out:Nat->Prop} {W:World} (h:Held w0 x s m sy ep D out W) (hlen:132<=D.st.length/\D.st.length<=1155) (hp:D.pend.length<=800000) (E:Dev) (fb:Bool) (hE:finD D sy ep=(E,fb,0)) (n:Nat) (hn:D.st.length - 131=n) (ws:List (Int × ByteArray)) (hok:∀e∈ws,okI e.1) (A:Option Addr) (c:Nat) (hat:ListAt W W.heap.size 2 A (ws.map BB)) (hA:ED w0 out A) (hck:AU n ws=0) (hne:ws≠[]) (htop:(topI E).ok=true) (S:Wl) (hS:B3 n ws=S) (hmaps:∀k∈ksW S,Cy E k) (v:U32) (hv:(topI E).ver+1#32=v) (hver:(topI E).ver≠4294967295#32):
 Calls Tryz.prog 51 #[ptrV s,.slice A ws.length c] W λe w'=>e=.returned (.int .i64 (Bk sy ep (Cv (Hm E S v) v) E).2)/\Done w0 x s m sy ep (Bk sy ep (Cv (Hm E S v) v) E).1 out W w':=
 (MC Vq h hlen hp E fb hE n hn ws hok A c hat hA hck hne htop S hS v hv hver).mono (λe w' hq=>by
   have hz:=I9 (E:=E) (ksW S) hmaps []
   rw [append_nil] at hz
   unfold Kb at hq
   rwa [if_neg (by rw [hz];exact λh9=>h9 rfl)] at hq)
section
variable {w0:World} {x s m:Nat} {sy ep:Int} {D:Dev} {out:Nat->Prop} {W:World}
theorem Lz (h:Held w0 x s m sy ep D out W) (r:132<=D.st.length/\D.st.length<=1155) (hp:D.pend.length<=800000) (E:Dev) (fb:Bool) (hE:finD D sy ep=(E,fb,0)) (ws:List (Int × ByteArray)) (hl:ws.length<=1000000) (t:∀e∈ws,okI e.1) (A:Option Addr) (c:Nat) (q:ListAt W W.heap.size 2 A (ws.map BB)) (hA:ws≠[]->ED w0 out A) (g:AU (D.st.length - 131) ws≠0\/ws=[]):
 Calls Tryz.prog 51 #[ptrV s,.slice A ws.length c] W λe w'=>e=.returned (.int .i64 (AU (D.st.length - 131) ws))/\Done w0 x s m sy ep E out W w':=by
 have l:=IW D sy ep;rw [hE] at l;have v:E.st.length=D.st.length:=l.1;have K:=h.store.lt;have S:=h.live.base.size;have d:Grew W (W.alloc (.cells #[ptrV s] 110)):=(fh W).alloc _;have L:Held w0 x s m sy ep D out (W.alloc (.cells #[ptrV s] 110)):=h.grew d;have n:Held w0 x s m sy ep D (λk=>out k\/k=W.heap.size) (W.alloc (.cells #[ptrV s] 110)):=⟨(h.live.more d).few (λk hk=>hk.elim .inl (λh9=>.inr (by rw [h9];simp))),h.store.grew d,.inl h.os,.inl h.om,h.m0⟩;have w:Blk (W.alloc (.cells #[ptrV s] 110)) W.heap.size 110 #[ptrV s]:=fy W _ _ rfl;have HF:=zh (Ho n r.1 oo E fb 0 hE);obtain ⟨er,j⟩:∃er,AU (D.st.length - 131) ws=er:=⟨_,rfl⟩;rw [j] at g ⊢;have y:=zh (show AU (E.st.length - 131) ws=er from by rw [v];exact j);have z:=zh (show 132<=E.st.length/\E.st.length<=1155 from oo);have B:=zh n;have C:=zh w;have i:=zh d;have M:=zh q;have G:ws=[]->er=0:=λh9=>by rw [<-j,h9];unfold AU;simp
 have N:=zh (λ(h9:er≠0)=>hA (λh8=>h9 (G h8)));have O:=zh h.store;have H:=zh t;have I:=zh K;clear G h r hp hE t q hA l v d L n w j;by_cases h0:er=0
 . subst h0;have hw:ws=[]:=g.elim (λh9=>absurd rfl h9) id;subst hw;clear g;go_enter Tryz.func51,Tryz.ntmps51;go_wp2_with fail;refine HF.mono ?_;rintro e w1 ⟨rfl,hd⟩;have a:Blk w1 W.heap.size 110 #[ptrV s]:=C.turned hd.turned (λhq=>hq.elim (λh9=>h9.2 (.inr rfl)) (by have:=I.2;omega));have f:=zh (LY (B.done hd) z [] qs H A c (ListAt.none A));rw [y.out] at f;have P:=a.cell 0;have Q:=a.lt;have HD:=zh hd;clear hd a;go_wp2_with fail;refine f.mono ?_;rintro e w2 ⟨rfl,g2⟩;have p:=zh g2;clear g2;go_wp2_with fail;go_ret;exact ⟨rfl,FF (HD.grew p) i (λk hk=>.inl hk)⟩
 . have T:(er != 0)=true:=by rw [gu];exact h0
   clear g;go_enter Tryz.func51,Tryz.ntmps51;go_wp2_with fail;refine HF.mono ?_;rintro e w1 ⟨rfl,hd⟩;have a:Blk w1 W.heap.size 110 #[ptrV s]:=C.turned hd.turned (λhq=>hq.elim (λh9=>h9.2 (.inr rfl)) (by have:=I.2;omega))
   have J:ListAt w1 w1.heap.size 2 A (ws.map BB):=Da (AO M i) hd.turned (λb off o u e hu hq=>by
    rcases hq with hq | hq
    . rcases N.out h0 b off e with h9 | h9
      . exact absurd hq.1 (by have:=h9;omega)
      . exact hq.2 (.inl h9)
    . obtain ⟨F,R,_⟩:=(O.grew i).seen
      exact Ff R hu hq)
   have f:=zh (LY (B.done hd) z ws hl H A c J);rw [y.out] at f;have P:=a.cell 0;have Q:=a.lt;have HD:=zh hd;clear hd a J h0;go_wp2_with fail;refine f.mono ?_;rintro e w2 ⟨rfl,g2⟩;have p:=zh g2;clear g2;go_wp2_with fail;go_ret;exact ⟨rfl,FF (HD.grew p) i (λk hk=>.inl hk)⟩
end

def Ha (k:Nat):Int:=1+((k % 3:Nat):Int)
theorem Vw (k:Nat):1<=Ha k/\Ha k<=4:=by unfold Ha;omega

theorem VH {w:World} {B:Nat} {A:Option Addr} {l:List ByteArray} (h:ListAt w B 1 A (l.map λs=>[.string s])) {k:Nat} (hk:k<l.length):
 ∃b off,A=some ⟨b,off,none⟩/\b<B/\w.cell? ⟨b,off+k,none⟩=some (.string l[k]):=by
 obtain ⟨b,off,e,hb,hc⟩:=h (by rw [fm];omega);have hj:(l.map λs=>[Value.string s])[k]? =some [.string l[k]]:=by rw [fo,fg hk];rfl
 exact ⟨b,off,e,hb,by have:=hc k _ hj 0 _ rfl;simpa using this⟩

end
section
open Go.RowKit
theorem Ri {D:Dev} {I:Img} (h:Clean D I) (sy ep:Int) (hl:D.st.length=131+I.n) (i:Nat) (hi:i<I.n):Lt D sy ep (i:Int)=(D,I.cs i,0):=by
 unfold Lt;rw [Eq h,if_neg qs,if_neg oo,gQ,h.toHolds.look i hi];rfl
theorem Lq {D:Dev} {I:Img} (h:Clean D I) (sy ep:Int) (hf:IG D sy ep=true):Qy D sy ep=(D,0):=by
 unfold Qy;rw [Eq h,if_neg (by rw [hf];simp),if_neg qs,if_neg (by rw [h.toHolds.topI];simp)]

def U2 (a:Int) (n:Nat):Int:=a % (n:Int)
def Kd (n most:Nat) (out:List (Int × ByteArray)) (e:Int × ByteArray):List (Int × ByteArray):=
 if out.length<most/\(out.any λx=>x.1==U2 e.1 n)=false then out++[(U2 e.1 n,BE e.2)] else out
def Dn (n most:Nat) (ws:List (Int × ByteArray)):List (Int × ByteArray):=ws.foldl (Kd n most) []
theorem Uy (n most:Nat) (ws:List (Int × ByteArray)) (k:Nat) (hk:k<ws.length):Dn n most (ws.take (k+1))=Kd n most (Dn n most (ws.take k)) ws[k]:=by
 unfold Dn;rw [fr hk,iV];rfl
structure FairOK (n most:Nat) (l:List (Int × ByteArray)):Prop where
 len:l.length<=most
 nodup:(l.map (·.1)).Nodup
 all:∀e∈l,e.2.size=128/\0<=e.1/\e.1<(n:Int)
theorem ar {n most:Nat} (hn:0<n) {l:List (Int × ByteArray)} (h:FairOK n most l) (e:Int × ByteArray):FairOK n most (Kd n most l e):=by
 unfold Kd;split
 . rename_i hc;refine ⟨by rw [gK,ir];omega,?_,λx hx=>?_⟩
   . rw [fz,iZ];refine ⟨h.nodup,qs,?_⟩;intro a ha b hb c;obtain ⟨x,hx,rfl⟩:=ft.1 ha;have h2:=hc.2;rw [iK] at h2;have h3:=h2 x hx;simp only [map_cons,map_nil,fp] at hb;rw [hb] at c;exact h3 (by rw [iy];exact c)
   . rcases gC.1 hx with hx | hx
     . exact h.all x hx
     . rw [fp.1 hx];refine ⟨DU _,?_,?_⟩
       . exact Int.emod_nonneg _ oo
       . exact Int.emod_lt_of_pos _ oo
 . exact h
theorem P8 {n most:Nat} (hn:0<n) (ws:List (Int × ByteArray)):FairOK n most (Dn n most ws):=by
 unfold Dn
 have a:∀(ws l:List (Int × ByteArray)),FairOK n most l->FairOK n most (ws.foldl (Kd n most) l):=by
  intro ws
  induction ws with
  | nil=>intro l h;exact h
  | cons e ws ih=>intro l h;exact ih _ (ar hn h e)
 exact a ws [] ⟨iB _,qs,qs⟩
theorem XC {n most:Nat} {l:List (Int × ByteArray)} (h:most<=l.length):∀(ws:List (Int × ByteArray)),ws.foldl (Kd n most) l=l:=by
 intro ws
 induction ws with
 | nil=>rfl
 | cons e ws ih=>
   rw [foldl_cons];have:Kd n most l e=l:=by unfold Kd;rw [if_neg oo]
   rw [this,ih]
theorem XF {n most:Nat} (ws:List (Int × ByteArray)) (k:Nat) (h:most<=(Dn n most (ws.take k)).length):Dn n most ws=Dn n most (ws.take k):=by
 conv=>lhs;rw [<-jR k ws]
 unfold Dn at h ⊢;rw [iV];exact XC h _
def Img.next (I:Img) (l:List (Int × ByteArray)):Img:=if l=[] then I else I.upd (B3 I.n l)
theorem Tn (I:Img) (l:List (Int × ByteArray)):(I.next l).n=I.n:=by unfold Img.next;split<;>rfl
theorem LX (I:Img) (l:List (Int × ByteArray)):(I.next l).N=if l=[] then I.N else I.N+1:=by
 unfold Img.next;split<;>rfl

end
section
attribute [local go_sem ↓] Go.wp_at_zero Go.wp_at_succ
open Go.RowKit
theorem eY (s:ByteArray):Gf 128 (if 128<s.size then s.extract 0 128 else s)=BE s:=by
 unfold Gf BE;split
 . rw [gO,show 128 - (min 128 s.size - 0)=0 from oo,show 128 - s.size=0 from oo];rfl
 . rw [show s.extract 0 128=s from by apply ByteArray.ext;rw [ByteArray.data_extract];exact Array.extract_eq_self_of_le (by show s.size<=128;omega)];rfl
theorem Sf (s:ByteArray) (w:World) (hs:s.size<=1000000):Calls Tryz.prog 22 #[.string s] w λe w'=>e=.returned (.string (BE s))/\w=w':=by
 have hp:=eY s;by_cases h:128<s.size
 . rw [if_pos h] at hp;have HP:=zh (Kt (s.extract 0 128) 128 w oo (by rw [gO];omega));rw [hp] at HP;have hi:(s.size:Int)>128:=oo;clear hp;go_enter Tryz.func22,Tryz.ntmps22;go_wp2_with fail;refine HP.mono ?_;rintro e w1 ⟨rfl,rfl⟩;go_wp2_with fail;go_ret;exact ⟨rfl,rfl⟩
 . rw [if_neg h] at hp;have HP:=zh (Kt s 128 w oo hs);rw [hp] at HP;have hi:¬(s.size:Int)>128:=oo;clear hp;go_enter Tryz.func22,Tryz.ntmps22;go_wp2_with fail;refine HP.mono ?_;rintro e w1 ⟨rfl,rfl⟩;go_wp2_with fail;go_ret;exact ⟨rfl,rfl⟩

def Du (ws:List (Int × ByteArray)) (most:Nat):Bool:=ws.all (λe=>decide (e.2.size<=200)) && decide (ws.length<=most)
theorem O8 (ws:List (Int × ByteArray)) (A:Option Addr) (c most:Nat) (hm:most<=1000) (w:World) (h:ListAt w w.heap.size 2 A (ws.map BB)) (hl:ws.length<=9223372036854775807):
 Calls Tryz.prog 7 #[.slice A ws.length c,.int .i64 (most:Int)] w λe w'=>e=.returned (.bool (Du ws most))/\Grew w w':=by
 have l:=zh h;clear h;go_enter Tryz.func7,Tryz.ntmps7;go_wp2_with fail
 go_loopg [5] ws.length (λgk i' wr=>∃i:Nat,i<=ws.length/\gk=ws.length - i/\i'=.int .i64 i/\Grew w wr/\(ws.take i).all (λe=>decide (e.2.size<=200))=true)
 case atStart=>exact ⟨0,oo,oo,rfl,fh _,rfl⟩
 case round=>
  obtain ⟨i,hi,k,rfl,hg,ht⟩:=hrel;have m:=zh k;have HG:=zh hg;have HT:=zh ht;clear k hg ht;by_cases f:i<ws.length
  . have p:(i:Int)<(ws.length:Int):=oo;obtain ⟨b,r,rfl,s,c0,c1⟩:=Hq (l.keep (fk _) HG) f;have q:w.heap.size<=wr.heap.size:=HG.size;obtain ⟨⟨a,d⟩,he⟩:∃e,ws[i]=e:=⟨_,rfl⟩;rw [he] at c0 c1;simp only at c0 c1;have HE:=zh he;clear he;by_cases g:200<d.size
    . have n:(d.size:Int)>200:=oo
      have HF:Hid (Du ws most=false):=zh (by
       unfold Du
       rw [Bool.and_eq_false_iff]
       left
       rw [List.all_eq_false]
       exact ⟨ws[i],fq f,by rw [HE.out];simp;exact g⟩)
      clear g;go_wp2_with fail;go_ret;exact ⟨by rw [HF.out];rfl,HG⟩
    . have n:¬(d.size:Int)>200:=oo;have j:d.size<=200:=oo;have o:=zh j;clear g j;go_wp2_with fail
      go_roundg (ws.length - (i+1))
      case measure=>rw [m.out];omega
      case rel=>exact ⟨i+1,oo,oo,by go_num,HG,by rw [fr f,List.all_append,HT.out,HE.out];simp [o.out]⟩
  . obtain rfl:i=ws.length:=oo
    have HE:Hid (Du ws most=decide (ws.length<=most)):=zh (by
     have:=HT.out
     rw [gP (fk _)] at this
     unfold Du
     rw [this,Bool.true_and])
    go_wp2_with fail;go_ret;exact ⟨by rw [HE.out];rfl,HG⟩
theorem T4 (a:Int) (n:Nat) (hn:0<n):(Int.tmod a n<0/\Int.tmod a n+(n:Int)=U2 a n)\/(0<=Int.tmod a n/\Int.tmod a n=U2 a n):=by
 have h1:0<=a % (n:Int):=Int.emod_nonneg _ oo;have h2:a % (n:Int)<(n:Int):=Int.emod_lt_of_pos _ oo;have h3:=Int.tmod_eq_emod (a:=a) (b:=(n:Int));unfold U2;by_cases hc:0<=a\/(n:Int) ∣ a
 . rw [if_pos hc] at h3;right;omega
 . rw [if_neg hc] at h3;left;simp only [Int.natAbs_natCast] at h3;omega
theorem Yz (l:List (Int × ByteArray)) (e:Int × ByteArray):(l++[e]).map BB=l.map BB++[[.int .i64 e.1,.string e.2]]:=by
 rw [fz];rfl
theorem Sh (ws:List (Int × ByteArray)) (A:Option Addr) (c n most:Nat) (hn:0<n/\n<=1024) (hm:most<=64) (w:World) (I:ListAt w w.heap.size 2 A (ws.map BB)) (hl:ws.length<=1000000) (K:∀e∈ws,okI e.1) (J:∀e∈ws,e.2.size<=1000000):
 Calls Tryz.prog 13 #[.slice A ws.length c,.int .i64 (n:Int),.int .i64 (most:Int)] w λe w'=>∃v,e=.returned v/\OwnL w' w.heap.size 65 2 v ((Dn n most ws).map BB)/\Grew w w':=by
 have ad:=zh I;have ae:=zh K;have aj:=zh J;have bn:(n:Int)≠0:=oo;have bo:((n:Int)>0)=True:=by simp;omega
 have al:=zh (λ(k:Nat)=>P8 (most:=most) hn.1 (ws.take k));clear I K J;go_enter Tryz.func13,Tryz.ntmps13;go_wp2_with fail;have an:=OwnL.empty w w.heap.size 65 2 (fk _) rfl
 go_loopg [7,8] ws.length (λgk u i' wr=>∃i:Nat,i<=ws.length/\gk=ws.length - i/\i'=.int .i64 i/\OwnL wr w.heap.size 65 2 u ((Dn n most (ws.take i)).map BB)/\Grew w wr)
 case atStart=>exact ⟨0,oo,oo,rfl,an,(fh w).alloc _⟩
 case round=>
  obtain ⟨i,hi,X,rfl,l,hg⟩:=hrel;have L:=zh X;have av:=zh l;have HG:=zh hg;obtain ⟨o,ho⟩:∃o,Dn n most (ws.take i)=o:=⟨_,rfl⟩;have p:=al.out i;rw [ho] at l p;obtain ⟨B,cb,rfl,bl,b5,Y⟩:=l.listAt;rw [fm] at bl l ⊢;have m:=zh l;have HB:=zh Y;have HO:=zh ho;have br:=p.len;have HF:=zh p;clear X l hg ho Y p av;by_cases y:i<ws.length
  . have M:(i:Int)<(ws.length:Int):=oo;by_cases bd:o.length<most
    . have N:(o.length:Int)<(most:Int):=oo;obtain ⟨b,b6,rfl,b9,c0,c1⟩:=Hq (ad.keep (fk _) HG) y;have bs:w.heap.size<=wr.heap.size:=HG.size;have O:=ae.out _ (fq y);have s:=aj.out _ (fq y);have g:=Uy n most ws i y;rw [HO.out] at g;obtain ⟨⟨a,d⟩,he⟩:∃e,ws[i]=e:=⟨_,rfl⟩;rw [he] at c0 c1 O s g;simp only at c0 c1 O s;unfold Kd at g;simp only at g;have HE:=zh he;clear he;obtain ⟨r,hr⟩:∃r,Int.tmod a (n:Int)=r:=⟨_,rfl⟩;obtain ⟨q,hq⟩:∃q,U2 a n=q:=⟨_,rfl⟩;have P:=T4 a n hn.1;rw [hr,hq] at P;rw [hq] at g;have a0:0<=q/\q<(n:Int):=by rw [<-hq];unfold U2;exact ⟨Int.emod_nonneg _ oo,Int.emod_lt_of_pos _ oo⟩
      have Q:IntKind.i64.wrap q=q:=gy _ oo;have a1:decide ((0:Int)<(n:Int))=true:=gD oo;have a3:(n:Int)>0:=oo;have bt:decide ((o.length:Int)<(most:Int))=true:=gD N;have a4:decide ((i:Int)<(ws.length:Int))=true:=gD M;have R:=zh g;have bv:=zh a0;have a5:=zh s;have bw:IntKind.i64.wrap r=r:=gy _ oo;clear g hq s;obtain ⟨wo,G⟩:∃wo:World,wo=wr:=⟨_,rfl⟩;subst G;rcases P with ⟨aa,C⟩ | ⟨aa,C⟩
      case' inl=>
       have a6:decide (r<0)=true:=gD aa;have bx:IntKind.i64.wrap (r+(n:Int))=q:=by rw [C];exact Q
       clear C Q;go_wp2_with fail
      case' inr=>
       have a7:=C.symm;subst a7;have a6:decide (q<0)=false:=gE oo;have b0:¬q<0:=oo;go_wp2_with fail
      all_goals
       go_loopg [10,11] o.length (λg2 u2 j' wr=>wo=wr/\∃j:Nat,j<=o.length/\g2=o.length - j/\j'=.int .i64 j/\u2=.bool ((o.take j).any λx=>x.1==q))
       case atStart=>exact ⟨rfl,0,oo,oo,rfl,rfl⟩
       case round=>
        obtain ⟨G,j,hj,Z,rfl,rfl⟩:=hrel;subst G;have D:=zh Z;clear Z;by_cases z:j<o.length
        . have b1:(j:Int)<(o.length:Int):=oo;obtain ⟨b2,ca,rfl,cc,d0,d1⟩:=Hq HB z;obtain ⟨⟨a2,e2⟩,H⟩:∃e,o[j]=e:=⟨_,rfl⟩;rw [H] at d0 d1;simp only at d0 d1;have S:=zh H;clear H;cases f:(o.take j).any λx=>x.1==q with
          | true=>
            have t:=zh f;clear f;go_wp2_with fail
            go_roundg (o.length - (j+1))
            case measure=>rw [D.out];omega
            case rel=>exact ⟨rfl,j+1,oo,oo,by go_num,by rw [fr z,List.any_append,t.out,Bool.true_or]⟩
          | false=>
            have t:=zh f;clear f;by_cases h:a2=q
            . have a8:(a2==q)=true:=by rw [iy];exact h
              have HQ:=zh h;clear h;go_wp2_with fail
              go_roundg (o.length - (j+1))
              case measure=>rw [D.out];omega
              case rel=>exact ⟨rfl,j+1,oo,oo,by go_num,by rw [fr z,List.any_append,t.out,S.out];simp [HQ.out]⟩
            . have a8:(a2==q)=false:=by rw [gF];exact h
              have HQ:=zh h;clear h;go_wp2_with fail
              go_roundg (o.length - (j+1))
              case measure=>rw [D.out];omega
              case rel=>exact ⟨rfl,j+1,oo,oo,by go_num,by rw [fr z,List.any_append,t.out,S.out];simp [HQ.out]⟩
        . obtain rfl:j=o.length:=oo;rw [gP (fk _)];cases f:o.any λx=>x.1==q with
          | true=>
            have E:Hid (Dn n most (ws.take (i+1))=o):=zh (by rw [R.out,if_neg (by rw [f];simp)]);clear f;go_wp2_with fail
            go_roundg (ws.length - (i+1))
            case measure=>rw [L.out];omega
            case rel=>exact ⟨i+1,oo,oo,by go_num,by rw [E.out];exact m.out,HG⟩
          | false=>
            have E:Hid (Dn n most (ws.take (i+1))=o++[(q,BE d)]):=zh (by rw [R.out,if_pos ⟨bd,f⟩]);have a9:=zh (Sf d wo a5);clear f;go_wp2_with fail;refine a9.mono ?_;rintro e w2 ⟨rfl,rfl⟩;have T:(o.map BB).length=o.length:=fm ..;have F:=zh T;clear T;go_wp2_with (at_builtin;refine BZ rfl _ _ 24 rfl w.heap.size 65 2 24 (.agg #[.int .i64 0,.string ⟨#[]⟩]) Tryz.underlying24 KF rfl qd (wo.alloc (.cells #[.int .i64 q,.string (BE d)] 65)) _ (o.map BB) [.int .i64 q,.string (BE d)] rfl rfl (m.alloc _) wo.heap.size (by rfl) (fy _ _ _ rfl) rfl (by rw [F.out];omega) (by rw [F.out];omega) (by simp;omega) o.length F ?_);intro g9 b4 w9 V W bf bk;have U:Grew w w9:=Grew.own (HG.alloc _) W (λk hk=>m.row_ge k hk) (fk _);have bb:=zh V;have bc:=zh U;clear V W bf bk U;go_wp2_with fail
            go_roundg (ws.length - (i+1))
            case measure=>rw [L.out];omega
            case rel=>exact ⟨i+1,oo,oo,by go_num,by rw [E.out,Yz];exact bb.out,bc⟩
    . have N:decide ((o.length:Int)<(most:Int))=false:=gE oo;have b3:¬(o.length:Int)<(most:Int):=oo;have HE:Hid (Dn n most ws=o):=zh (by rw [XF ws i (by rw [HO.out];omega),HO.out]);have a4:decide ((i:Int)<(ws.length:Int))=true:=gD M;have a1:decide ((0:Int)<(n:Int))=true:=gD oo;have a3:(n:Int)>0:=oo;go_wp2_with fail;go_ret;exact ⟨_,rfl,by rw [HE.out];exact m.out,HG⟩
  . obtain rfl:i=ws.length:=oo;have HE:=HO;rw [gP (fk _)] at HE;go_wp2_with fail;go_ret;exact ⟨_,rfl,by rw [HE.out];exact m.out,HG⟩

structure Neat (D:Dev) (I:Img):Prop where
 clean:Clean D I
 fen:D.fen=λ_=>0
 fuse:D.fuse=none
theorem Neat.calm {D:Dev} {I:Img} (h:Neat D I) {sy:Int} (hs:1<=sy/\sy<=4):Calm D sy 0:=⟨h.clean.ok,h.clean.live,by unfold DA;exact gD ⟨hs.1,hs.2,oo,oo⟩,by rw [h.fen];show ¬(0:Int)<0;omega⟩
theorem Neat.len {D:Dev} {I:Img} (h:Neat D I):132<=D.st.length/\D.st.length<=1155:=by
 have:=h.clean.len;have:=h.clean.img.n0;have:=h.clean.img.n1;omega
def PM (I:Img) (ws:List (Int × ByteArray)):Img:=if AU I.n ws=0 then I.next ws else I
theorem Nw {D:Dev} {I:Img} {sy ep:Int} (h:Clean D I) (ws:List (Int × ByteArray)) (hr:I.N+1<4294967295) (h0:AU I.n ws=0) (c:ws≠[]):
 Ak D sy ep ws=Bk sy ep (Cv (Hm D (B3 I.n ws) (nv (I.N+1))) (nv (I.N+1))) D/\(topI D).ok=true/\(∀k∈ksW (B3 I.n ws),Cy D k)/\(topI D).ver+1#32=nv (I.N+1)/\(topI D).ver≠4294967295#32:=by
 have hn:D.st.length - 131=I.n:=by rw [h.len];omega
 have d:=Eq h sy ep
 have hv:(topI D).ver≠4294967295#32:=by
  rw [h.topI];intro hq;have:=gJ BitVec.toNat hq;rw [show (Raw.mk (AI I.tops) (nv I.N) true).ver=nv I.N from rfl,C0 _ oo] at this;simp at this;omega
 have a:(topI D).ver+1#32=nv (I.N+1):=by rw [h.topI];exact QH I.N
 have hm:∀k∈ksW (B3 I.n ws),Cy D k:=λk hk=>by
  have b:=((Br _ k).1 hk).1;unfold Cy;rw [h.topI,h.mapI k b];refine ⟨rfl,rfl,?_⟩;show nv (I.ms k)=fld (AI I.tops) k;unfold Img.tops;rw [ME _ _ b]
 refine ⟨?_,by rw [h.topI],hm,a,hv⟩;unfold Ak;rw [d,hn,if_neg qs,if_neg (by simp [h0,c]),a,if_neg (by rw [h.topI];simp),if_neg (by rw [RM h.toHolds _ (λk hk=>((Br _ k).1 hk).1)];simp),if_neg hv]
section
variable {w0:World} {x s m:Nat} {sy:Int} {D:Dev} {I:Img} {out:Nat->Prop} {W:World}
theorem Sg {ep:Int} (h:Held w0 x s m sy ep D out W) (a:Clean D I) (i:Calm D sy ep) (f:D.fuse=none) (hN:I.N<1000) (ws:List (Int × ByteArray)) (hl:ws.length<=1000000) (k:∀e∈ws,okI e.1) (A:Option Addr) (c:Nat) (j:ListAt W W.heap.size 2 A (ws.map BB)) (hA:ws≠[]->ED w0 out A):
 Calls Tryz.prog 51 #[ptrV s,.slice A ws.length c] W λe w'=>e=.returned (.int .i64 (AU I.n ws))/\∃D',Done w0 x s m sy ep D' out W w'/\Clean D' (PM I ws)/\D'.fen=D.fen/\D'.fuse=none/\D'=(Ak D sy ep ws).1:=by
 have l:132<=D.st.length/\D.st.length<=1155:=by have:=a.len;have:=a.img.n0;have:=a.img.n1;omega
 have g:D.st.length - 131=I.n:=by rw [a.len];omega
 have hp:D.pend.length<=800000:=by rw [a.pend];simp
 have o:=Eq a sy ep;by_cases d:AU I.n ws≠0\/ws=[]
 . refine (Lz h l hp D false o ws hl k A c j hA (by rw [g];exact d)).mono ?_;rintro e w' ⟨rfl,hd⟩;rw [g];refine ⟨rfl,D,hd,?_,rfl,f,?_⟩
   . have:PM I ws=I:=by
      unfold PM;split
      . rename_i h0;unfold Img.next;rw [if_pos (d.elim (λh9=>absurd h0 h9) id)]
      . rfl
     rw [this];exact a
   . rw [(Dy a i f ws oo).1 d]
 . have h0:AU I.n ws=0:=iL.1 (λh9=>d (.inl h9));have b:ws≠[]:=λh9=>d (.inr h9);obtain ⟨q1,q2,q3,q4,q5⟩:=Nw (sy:=sy) (ep:=ep) a ws oo h0 b;obtain ⟨E,r1,r2,r3,r4⟩:=(Dy a i f ws oo).2 h0 b;refine (Ud h l hp D false o I.n g ws k A c j (hA b) h0 b q2 _ rfl q3 _ q4 q5).mono ?_;rintro e w' ⟨rfl,hd⟩;rw [<-q1,r1] at hd ⊢;refine ⟨by rw [h0],E,hd,?_,r3,r4,rfl⟩
   have:PM I ws=I.upd (B3 I.n ws):=by
    unfold PM Img.next;rw [if_pos h0,if_neg b]
   rw [this];exact r2
theorem TB (h:Held w0 x s m sy 0 D out W) (hs:1<=sy/\sy<=4) (hn:Neat D I) (hN:I.N<1000) (ws:List (Int × ByteArray)) (hl:ws.length<=1000000) (b:∀e∈ws,okI e.1) (A:Option Addr) (c:Nat) (a:ListAt W W.heap.size 2 A (ws.map BB)) (hA:ws≠[]->ED w0 out A):
 Calls Tryz.prog 51 #[ptrV s,.slice A ws.length c] W λe w'=>e=.returned (.int .i64 (AU I.n ws))/\∃D',Done w0 x s m sy 0 D' out W w'/\Neat D' (PM I ws)/\D'=(Ak D sy 0 ws).1:=by
 refine (Sg h hn.clean (hn.calm hs) hn.fuse hN ws hl b A c a hA).mono ?_;rintro e w' ⟨he,D',h1,h2,h3,h4,h5⟩;exact ⟨he,D',h1,⟨h2,h3.trans hn.fen,h4⟩,h5⟩
end

theorem R1 {w:World} {g t sz:Nat} {rows:List (List Value)} {cs:Array Value} (h:Blk w g t cs) (hc:cs=rows.flatten.toArray) (hr:∀r∈rows,r.length=sz):ListAt w w.heap.size sz (some ⟨g,0,none⟩) rows:=λ_=>⟨g,0,rfl,h.lt,λj cs' hj i u hi=>by
 subst hc
 rw [h.cell,jM,getElem?_toArray]
 exact Jk hr j i cs' u hj hi⟩

structure WsOk (w:World) (B:Nat) (A:Option Addr) (l:List (Int × ByteArray)):Prop where
 at_:ListAt w B 2 A (l.map BB)
 len:l.length<=9223372036854775807
 ok:∀e∈l,okI e.1
theorem RB {l:List (Int × ByteArray)} {n:Nat} (h:Du l n=true):(∀e∈l,e.2.size<=200)/\l.length<=n:=by
 unfold Du at h;simp only [gZ,iD,gm] at h;exact h
theorem OwnL.low {w:World} {base base' e sz:Nat} {v:Value} {rows:List (List Value)} (h:OwnL w base e sz v rows) (hb:base'<=base):OwnL w base' e sz v rows:=by
 refine ⟨h.1,h.2.1,?_⟩;rcases h.2.2 with h0 | ⟨g,cap,a,hv,hg,hr⟩
 . exact .inl h0
 . exact .inr ⟨g,cap,a,hv,fx hb hg,hr⟩
theorem Beside.andThen {w0 W w1 w2:World} {out out':Nat->Prop} (hT:Beside w0 out W w1) (hb:Beside w0 out' w1 w2) (ho:∀k,out k->out' k):Beside w0 out W w2:=
 hT.trans (hb.mono λi _ h9=>⟨h9.1,λh7=>h9.2 (ho i h7)⟩)

end
section
open Go.RowKit
def GF (s:ByteArray):Nat:=(C9 (s.extract 128 132)).toNat
theorem Ez (d:ByteArray) (v:Nat) (i:Int) (hv:v<4294967296):GF (Ao d (nv v) i)=v:=by
 obtain ⟨_,_,_,h4,_⟩:=Hs d (nv v) i;unfold GF;rw [h4,Cx,C0 v hv]
theorem Mv:GF blankR=0:=by
 unfold GF;rw [N3 128 oo];rfl
theorem S6 (D:Dev) (hl:D.old.length=D.st.length) (i:Nat) (s:ByteArray) (hi:i<D.st.length) (j:Nat):(AR D i s).olds j=if j=i/\D.at i≠s then (D.at i::D.olds i).take 8 else D.olds j:=by
 unfold AR;by_cases h:D.at i=s
 . rw [if_pos h,if_neg (λh9=>h9.2 h)]
 . rw [if_neg h];unfold Dev.olds;show (D.old.set i ((D.at i::D.old.getD i []).take 8)).getD j []=_;rw [gH,jK];by_cases hj:j=i
   . subst hj;rw [if_pos rfl,if_pos oo,if_pos ⟨rfl,h⟩];rfl
   . rw [if_neg (λe=>hj e.symm),if_neg (λe=>hj e.1),gH]
theorem dQ (D:Dev) (i:Nat) (s:ByteArray):(AR D i s).old.length=D.old.length:=by unfold AR;split<;>simp
theorem FO (l:Wl):∀D:Dev,D.old.length=D.st.length->okW D l->(l.map (·.1)).Nodup->∀i,∀t∈(BL D l).olds i,t∈D.olds i\/(t=D.at i/\∃s,Ad l i=some s):=by
 induction l with
 | nil=>intro D _ _ _ i t ht;exact .inl ht
 | cons e l ih=>
   intro D hl a hn i t ht;rw [map_cons,nodup_cons] at hn;have h1:=(a e (gS ..)).1;have hE:Ad (e::l) i=match Ad l i with
    | some s=>some s
    | none=>if i=e.1 then some e.2 else none:=rfl
   rcases ih (AR D e.1 e.2) (by rw [dQ,C6];exact hl) (λx hx=>by rw [C6];exact a x (gM _ hx)) hn.2 i t ht with h9 | ⟨h9,s,h8⟩
   . rw [S6 D hl e.1 e.2 h1] at h9;by_cases hi:i=e.1/\D.at e.1≠e.2
     . rw [if_pos hi] at h9;rcases ia.1 (iu h9) with h7 | h7
       . refine .inr ⟨by rw [h7,hi.1],?_⟩;rw [hE,if_pos hi.1];cases Ad l i with
         | some s=>exact ⟨s,rfl⟩
         | none=>exact ⟨_,rfl⟩
       . exact .inl (by rw [hi.1];exact h7)
     . rw [if_neg hi] at h9;exact .inl h9
   . have b:i≠e.1:=λh7=>by
      rw [B7 l i (λx hx hq=>hn.1 (by rw [<-h7,<-hq];exact List.mem_map_of_mem hx))] at h8;cases h8
     rw [N4 D e.1 e.2 h1,if_neg b] at h9;exact .inr ⟨h9,s,by rw [hE,h8]⟩
structure Hist (D:Dev) (I:Img):Prop where
 clean:Clean D I
 N1:1<=I.N
 olds:∀i,i≠33->∀s∈D.olds i,GF s<GF (D.at i)
 slot:∀j,j<97->GF (D.at (34+j))<=I.N
 head:∀s∈D.olds 33,s=blankR\/∃(l:Wl) (v:Nat),s=FS l (nv v)/\Entries D.st.length l (nv v)/\v<=I.N/\(v=I.N->(∀j (hj:j<l.length),D.at (34+j)=l[j].2)/\∀e∈l,D.at e.1=e.2)
theorem ZI {D:Dev} {I:Img} (h:Holds D I):GF (D.at 0)=I.N:=by rw [h.top];exact Ez _ _ _ h.img.N
theorem M6 {D:Dev} {I:Img} (h:Holds D I) (k:Nat) (hk:k<32):GF (D.at (1+k))=I.ms k:=by rw [h.map k hk];exact Ez _ _ _ (by have:=h.img.ms k;have:=h.img.N;omega)
theorem Ms {D:Dev} {I:Img} (h:Holds D I) (i:Nat) (hi:i<I.n):GF (D.at (131+i))=I.vs i:=by rw [h.dat i hi];exact Ez _ _ _ (by have:=h.img.vs i;have:=h.img.N;omega)
theorem cC {D:Dev} {I:Img} (h:Hist D I) (i:Nat) (hi:i≠33) (hl:i<D.st.length):GF (D.at i)<=I.N:=by
 have a:=h.clean.len;by_cases h0:i=0
 . subst h0;rw [ZI h.clean.toHolds];omega
 by_cases h1:i<=32
 . have:=M6 h.clean.toHolds (i - 1) oo;rw [show 1+(i - 1)=i from oo] at this;rw [this];exact h.clean.img.ms _
 by_cases h2:i<131
 . have:=h.slot (i - 34) oo;rwa [show 34+(i - 34)=i from oo] at this
 . have:=Ms h.clean.toHolds (i - 131) oo;rw [show 131+(i - 131)=i from oo] at this;rw [this];exact h.clean.img.vs _
theorem Ey:∀(l:Wl) (i:Nat) (s:ByteArray),Ad l i=some s->(i,s)∈l:=by
 intro l
 induction l with
 | nil=>intro i s h;cases h
 | cons x l ih=>
   intro i s h;have hE:Ad (x::l) i=match Ad l i with
    | some s=>some s
    | none=>if i=x.1 then some x.2 else none:=rfl
   rw [hE] at h;cases h2:Ad l i with
   | some t=>
     rw [h2] at h;injection h with h;exact gM _ (ih i s (by rw [h2,h]))
   | none=>
     rw [h2] at h;simp only [] at h;split at h
     . rename_i hi;injection h with h;rw [hi,<-h];exact gS ..
     . cases h
theorem PE {n:Nat} {l:Wl} {v:Nat} (h:Entries n l (nv v)) (hv:v<4294967296) (e:Nat × ByteArray) (he:e∈l):GF e.2=v:=by
 obtain ⟨d,hd⟩:=h.pack e he;rw [hd];exact Ez _ _ _ hv
theorem XW (V:ByteArray->Nat) {D D1 D2 D3 D4:Dev} {l:Wl} {N n:Nat} {hd bl:ByteArray} (hn:131<=n) (m:l.length<=97)
 (d:∀i,D1.at i=if h:34<=i/\i<34+l.length then (l[i - 34]'oo).2 else D.at i) (b:∀i,D2.at i=if i=33 then hd else D1.at i) (f:∀i,D3.at i=(Ad l i).getD (D2.at i)) (g:∀i,D4.at i=if i=33 then bl else D3.at i)
 (o1:∀i t,t∈D1.olds i->t∈D.olds i\/(t=D.at i/\34<=i/\i<34+l.length)) (o2:∀i t,t∈D2.olds i->t∈D1.olds i\/(t=D1.at i/\i=33)) (o3:∀i t,t∈D3.olds i->t∈D2.olds i\/(t=D2.at i/\∃s,Ad l i=some s)) (o4:∀i t,t∈D4.olds i->t∈D3.olds i\/(t=D3.at i/\i=33))
 (c:∀i s,Ad l i=some s->V s=N+1/\(i<=32\/(131<=i/\i<n))) (e:∀j (hj:j<l.length),V l[j].2=N+1) (a:∀i,i≠33->i<n->V (D.at i)<=N) (hO:∀i,i≠33->∀t∈D.olds i,V t<V (D.at i)):
 (∀i,i≠33->∀t∈D4.olds i,V t<V (D4.at i))/\(∀j,j<97->V (D4.at (34+j))<=N+1):=by
 constructor
 . intro i hi t ht;have h4:=(o4 i t ht).resolve_right (λh9=>hi h9.2);rw [g,if_neg hi,f];rcases o3 i t h4 with h3 | ⟨h3,s,hs⟩
   . have h2:=(o2 i t h3).resolve_right (λh9=>hi h9.2);rcases o1 i t h2 with h1 | ⟨h1,c1,c2⟩
     . have hb:=hO i hi t h1;cases hq:Ad l i with
       | some s=>
         obtain ⟨hx,k⟩:=c i s hq;show V t<V s;have:=a i hi oo;omega
       | none=>
         show V t<V (D2.at i);rw [b,if_neg hi,d];split
         . rename_i hc;have:=e (i - 34) oo;have:=a i hi oo;omega
         . exact hb
     . cases hq:Ad l i with
       | some s=>
         obtain ⟨hx,k⟩:=c i s hq;omega
       | none=>
         show V t<V (D2.at i);rw [b,if_neg hi,d,dif_pos ⟨c1,c2⟩];have:=e (i - 34) oo;have:=a i hi oo;rw [h1];omega
   . rw [hs];obtain ⟨hx,k⟩:=c i s hs;show V t<V s;have hb:=a i hi oo;rw [h3,b,if_neg hi,d,dif_neg oo];omega
 . intro j hj;rw [g,if_neg oo,f];cases hq:Ad l (34+j) with
   | some s=>
     obtain ⟨hx,_⟩:=c _ s hq;show V s<=N+1;omega
   | none=>
     show V (D2.at (34+j))<=_;rw [b,if_neg oo,d];split
     . rename_i hc;have:=e (34+j - 34) oo;omega
     . have:=a (34+j) oo oo;omega
theorem Q7 {D:Dev} {I:Img} {l:Wl} (h:Hist D I) (he:Entries D.st.length l (nv (I.N+1))) (hN:I.N+1<4294967296) {J:Img} (hJ:Clean (ph4 D l (nv (I.N+1))) J) (b:J.N=I.N+1):Hist (ph4 D l (nv (I.N+1))) J:=by
 have a:=h.clean.ok;obtain ⟨k1,k2,k3,k4⟩:=KZ (v:=nv (I.N+1)) a he;obtain ⟨l1,l2,l3,l4⟩:=JX (v:=nv (I.N+1)) a he;have p:=he.low;have q:=he.lim;have m:∀e∈l,GF e.2=I.N+1:=λe hm=>PE he hN e hm;obtain ⟨v,hv⟩:∃v,nv (I.N+1)=v:=⟨_,rfl⟩;have d:∀i,(ph1 D l).at i=if h:34<=i/\i<34+l.length then (l[i - 34]'oo).2 else D.at i:=λi=>Ys he i;have f:∀i,(ph2 D l (nv (I.N+1))).at i=if i=33 then FS l (nv (I.N+1)) else (ph1 D l).at i:=λi=>Zx a he i;have c:∀i,(ph3 D l (nv (I.N+1))).at i=(Ad l i).getD ((ph2 D l (nv (I.N+1))).at i):=λi=>Ym a he i;have g:∀i,(ph4 D l (nv (I.N+1))).at i=if i=33 then blankR else (ph3 D l (nv (I.N+1))).at i:=λi=>Px a he i
 have one:∀(s:ByteArray) i,(∃t,Ad [(33,s)] i=some t)->i=33:=λs i ⟨t,ht⟩=>by
  have:=Ey _ _ _ ht;rw [fp] at this;injection this with h1 _
 have o1:∀i t,t∈(ph1 D l).olds i->t∈D.olds i\/(t=D.at i/\34<=i/\i<34+l.length):=λi t ht=>by
  rcases FO _ D a.len (I1 he) (KE l) i t ht with h9 | ⟨h9,s,hs⟩
  . exact .inl h9
  . obtain ⟨j,hj,x⟩:=JY l _ (Ey _ _ _ hs);injection x with hj1 hj2;exact .inr ⟨h9,oo,oo⟩
 have o2:∀i t,t∈(ph2 D l (nv (I.N+1))).olds i->t∈(ph1 D l).olds i\/(t=(ph1 D l).at i/\i=33):=λi t ht=>
  (FO _ (ph1 D l) k1.ok.len (Fd oo _ (BS ..)) qs i t ht).imp id (λh9=>⟨h9.1,one _ i h9.2⟩)
 have o3:∀i t,t∈(ph3 D l (nv (I.N+1))).olds i->t∈(ph2 D l (nv (I.N+1))).olds i\/(t=(ph2 D l (nv (I.N+1))).at i/\∃s,Ad l i=some s):=λi t ht=>FO _ (ph2 D l (nv (I.N+1))) k2.ok.len (λe hm=>by rw [l2];exact he.lt e hm) he.nodup i t ht;have o4:∀i t,t∈(ph4 D l (nv (I.N+1))).olds i->t∈(ph3 D l (nv (I.N+1))).olds i\/(t=(ph3 D l (nv (I.N+1))).at i/\i=33):=λi t ht=>
  (FO _ (ph3 D l (nv (I.N+1))) k3.ok.len (Fd oo _ DW) qs i t ht).imp id (λh9=>⟨h9.1,one _ i h9.2⟩)
 have r:∀i s,Ad l i=some s->GF s=I.N+1:=λi s hs=>m (i,s) (Ey l i s hs);have o:=XW GF (N:=I.N) (n:=D.st.length) p q d f c g o1 o2 o3 o4 (λi s hs=>⟨r i s hs,he.place (i,s) (Ey l i s hs)⟩) (λj hj=>m _ (fq hj)) (λi h1 h2=>cC h i h1 h2) h.olds;have k:∀i,33<=i->i<131->Ad l i=none:=λi h1 h2=>B7 _ _ (λe hm hq=>by rcases he.place e hm with h9 | h9<;>omega);refine ⟨hJ,by rw [b];exact Nat.le_add_left _ _,o.1,λj hj=>by rw [b];exact o.2 j hj,λt ht=>?_⟩
 have u:∀j (hj:j<l.length),(ph4 D l (nv (I.N+1))).at (34+j)=l[j].2:=λj hj=>by
  rw [g,if_neg oo,c,k _ oo oo];show (ph2 D l (nv (I.N+1))).at (34+j)=_;rw [f,if_neg oo,d,dif_pos ⟨Nat.le_add_right _ _,Nat.add_lt_add_left hj _⟩];simp only [Nat.add_sub_cancel_left]
 have w:∀e∈l,(ph4 D l (nv (I.N+1))).at e.1=e.2:=λe hm=>by
  have hp:=he.place e hm;rw [g,if_neg oo,c,Et l he.nodup e hm];rfl
 rcases o4 33 t ht with h4 | ⟨h4,_⟩
 . rcases o3 33 t h4 with h3 | ⟨_,s,hs⟩
   . rcases o2 33 t h3 with h2 | ⟨h2,_⟩
     . rcases o1 33 t h2 with h1 | ⟨_,h9,_⟩
       . rcases h.head t h1 with h9 | ⟨l',v',h1,h2,h3,_⟩
         . exact .inl h9
         . exact .inr ⟨l',v',h1,by rw [l4];exact h2,by rw [b];exact Nat.le_succ_of_le h3,λh9=>by rw [b] at h9;rw [h9] at h3;exact absurd h3 (Nat.not_succ_le_self _)⟩
       . exact absurd h9 qd
     . left;rw [h2,d,dif_neg (λh9=>absurd h9.1 qd)];exact h.clean.head
   . rw [k 33 qd qd] at hs;cases hs
 . right;refine ⟨l,I.N+1,?_,by rw [l4];exact he,by rw [b];exact fk _,λ_=>⟨u,w⟩⟩;rw [h4,c,k 33 qd qd];show (ph2 D l (nv (I.N+1))).at 33=_;rw [f,if_pos rfl]

theorem Vz (n i:Nat) (hi:i<n):(ES n).at i=blankR:=by
 unfold Dev.at ES;rw [gH,jS,if_pos hi];rfl
theorem X1 (n i:Nat):(ES n).olds i=[]:=by
 unfold Dev.olds ES;rw [gH,jS];split<;>rfl
theorem dN (n:Nat) (e:Nat × ByteArray) (he:e∈FX n) (a:e.1≠33):GF e.2=1:=by
 unfold FX at he;rcases gC.1 he with he | he
 . obtain ⟨i,_,rfl⟩:=ft.1 he;exact Ez _ 1 _ qd
 rcases gC.1 he with he | he
 . obtain ⟨i,_,rfl⟩:=ft.1 he;exact Ez _ 1 _ qd
 . simp only [ia,not_mem_nil,or_false] at he;rcases he with rfl | rfl
   . exact Ez _ 1 _ qd
   . exact absurd rfl a
theorem WA (n:Nat) (e:Nat × ByteArray) (he:e∈FX n):e.1<=33\/131<=e.1:=by
 unfold FX at he;rcases gC.1 he with he | he
 . obtain ⟨i,_,rfl⟩:=ft.1 he;right;show 131<=131+i;omega
 rcases gC.1 he with he | he
 . obtain ⟨k,hk,rfl⟩:=ft.1 he;have:=gU.1 hk;left;show 1+k<=33;omega
 . simp only [ia,not_mem_nil,or_false] at he;rcases he with rfl | rfl
   . left;show 0<=33;omega
   . left;show 33<=33;omega
theorem ZX {n:Nat} (h1:1<=n) (h2:n<=1024) {E:Dev} (hE:GW (ES (131+n)) 1 0=(E,0)) (hc:Clean E (Ke n)):Hist E (Ke n):=by
 have a:(ES (131+n)).st.length=131+n:=by unfold ES;simp
 have b:Calm (ES (131+n)) 1 0:=⟨P9 _ oo oo,rfl,by unfold DA;decide,by show ¬(0:Int)<0;omega⟩;have hw:=ZY a;have f:=EM 1 0 (FX n) (ES (131+n)) b rfl rfl hw;unfold GW IG at hE;rw [b.plain,gD (show 132<=(ES (131+n)).st.length/\(ES (131+n)).st.length<=1155 from oo),if_neg qs,a,show 131+n - 131=n from oo,f] at hE;injection hE with hE _;subst hE;have c:∀i,(BL (ES (131+n)) (FX n)).at i=(Ad (FX n) i).getD ((ES (131+n)).at i):=Ft _ _ hw;have g:=FO (FX n) (ES (131+n)) b.ok.len hw (Rn n)
 have hb:∀i,∀t∈(BL (ES (131+n)) (FX n)).olds i,t=blankR/\∃s,Ad (FX n) i=some s:=λi t ht=>by
  rcases g i t ht with h9 | ⟨h9,s,hs⟩
  . rw [X1] at h9;cases h9
  . have d:=(hw _ (Ey _ _ _ hs)).1;rw [a] at d;exact ⟨by rw [h9,Vz _ _ d],s,hs⟩
 refine ⟨hc,fk 1,λi hi t ht=>?_,λj hj=>?_,λt ht=>.inl (hb 33 t ht).1⟩
 . obtain ⟨h9,s,hs⟩:=hb i t ht;have hv:GF s=1:=dN n (i,s) (Ey _ _ _ hs) hi;rw [c,hs,h9,Mv];show 0<GF s;rw [hv];exact Nat.zero_lt_one
 . have h:Ad (FX n) (34+j)=none:=B7 _ _ (λe he hq=>by rcases WA n e he with h9 | h9<;>omega);rw [c,h];show GF ((ES (131+n)).at (34+j))<=1;rw [Vz _ _ oo,Mv];exact iB _
theorem X7 {D:Dev} {I:Img} (h:Hist D I) (hn:Neat D I) {sy:Int} (hs:1<=sy/\sy<=4) (fl:List (Int × ByteArray)) (c:AU I.n fl=0) (hN:I.N<1000):Hist (Ak D sy 0 fl).1 (I.next fl)/\Neat (Ak D sy 0 fl).1 (I.next fl):=by
 have a:=hn.clean;by_cases b:fl=[]
 . have hx:I.next fl=I:=if_pos b;rw [hx,(Dy a (hn.calm hs) hn.fuse fl oo).1 (.inr b)];exact ⟨h,hn⟩
 . have hx:I.next fl=I.upd (B3 I.n fl):=if_neg b;obtain ⟨q1,q2,q3,q4,q5⟩:=Nw (sy:=sy) (ep:=0) a fl oo c b;have ht:=Mu I fl c b oo;obtain ⟨r1,r2,r3,r4⟩:=J6 a ht (hn.calm hs) hn.fuse;have he:=Qp a.img ht;rw [<-a.len] at he;rw [q1,Vx a.toHolds ht,r1,hx];exact ⟨Q7 h he oo r2 rfl,r2,r3.trans hn.fen,r4⟩
structure HarmD where
 raw:Nat
 at_:Nat
 mask:Nat
 back:Nat
def HarmD.ok (h:HarmD):Prop:=h.raw<65536/\h.at_<65536/\h.mask<256/\h.back<256
def HarmD.sec (h:HarmD) (first last:Nat):Nat:=first+h.raw % (last - first+1)
def HarmD.bits (h:HarmD):UInt8:=UInt8.ofNat (h.mask ||| 1)
def Ls (first last:Nat) (dmg:Bool) (p:Dev × List Nat) (h:HarmD):Dev × List Nat:=
 if h.sec first last∈p.2 then p
 else if dmg=false/\h.mask % 2=0/\0<Bj p.1 (h.sec first last:Nat) then ((Cg p.1 (h.sec first last:Nat) (1+((h.back % Bj p.1 (h.sec first last:Nat):Nat):Int))).1,h.sec first last::p.2)
 else ((CK p.1 (h.sec first last:Nat) ((h.at_ % 140:Nat):Int) h.bits).1,h.sec first last::p.2)
def RH (first last:Nat) (dmg:Bool) (D:Dev) (l:List HarmD):Dev × List Nat:=l.foldl (Ls first last dmg) (D,[])
theorem UC (first b:Nat) (a:Bool) (D:Dev) (l:List HarmD) (k:Nat) (hk:k<l.length):RH first b a D (l.take (k+1))=Ls first b a (RH first b a D (l.take k)) l[k]:=by
 unfold RH;rw [fr hk,iV];rfl
structure Harmed (first last:Nat) (dmg:Bool) (D D':Dev) (H:List Nat):Prop where
 out:∀i,i ∉ H->D'.at i=D.at i
 inn:∀i∈H,(∃(k:Nat) (m:UInt8),k<140/\m≠0/\D'.at i=Ee (D.at i) k m)\/(dmg=false/\D'.at i∈D.olds i)
 rng:∀i∈H,first<=i/\i<=last
 nodup:H.Nodup
 ok:D'.Ok
 len:D'.st.length=D.st.length
 old:D'.old=D.old
 pend:D'.pend=D.pend
 fen:D'.fen=D.fen
 fuse:D'.fuse=D.fuse
 failed:D'.failed=D.failed
theorem Harmed.refl (first last:Nat) (dmg:Bool) {D:Dev} (h:D.Ok):Harmed first last dmg D D []:=⟨λ_ _=>rfl,λi hi=>(by cases hi),λi hi=>(by cases hi),nodup_nil,h,rfl,rfl,rfl,rfl,rfl,rfl⟩
theorem P1 (h:HarmD) (a:h.ok):h.bits≠0:=by
 have b:∀m:Fin 256,UInt8.ofNat (m.1 ||| 1)≠0:=by decide+kernel
 exact b ⟨h.mask,a.2.2.1⟩
theorem eW (D:Dev) (i:Nat) (s:ByteArray) (hi:i<D.st.length) (j:Nat):({ D with st:=D.st.set i s }:Dev).at j=if j=i then s else D.at j:=by
 unfold Dev.at;show (D.st.set i s).getD j emp=_;rw [gH,jK];by_cases hj:j=i
 . subst hj;rw [if_pos rfl,if_pos hi,if_pos rfl];rfl
 . rw [if_neg (λh=>hj h.symm),if_neg hj,gH]
theorem eO {D:Dev} (h:D.Ok) (i:Nat) (s:ByteArray) (hs:s.size=140):({ D with st:=D.st.set i s }:Dev).Ok:=by
 refine ⟨by simp [h.len],by simp [h.pos],by simpa using h.lim,λt ht=>?_,h.old,λr hr=>by simpa using h.pend r hr,h.fen⟩;rcases gY ht with h9 | h9
 . exact h.st t h9
 . rw [h9];exact hs
theorem Harmed.more {first last:Nat} {dmg:Bool} {D D':Dev} {H:List Nat} (h:Harmed first last dmg D D' H) {i:Nat} (hi:i ∉ H) (hr:first<=i/\i<=last) (hl:i<D.st.length) {s:ByteArray} (hs:s.size=140) (b:(∃(k:Nat) (m:UInt8),k<140/\m≠0/\s=Ee (D.at i) k m)\/(dmg=false/\s∈D.olds i)):Harmed first last dmg D { D' with st:=D'.st.set i s } (i::H):=by
 have a:=eW D' i s (by rw [h.len];exact hl);refine ⟨λj hj=>?_,λj hj=>?_,λj hj=>?_,nodup_cons.2 ⟨hi,h.nodup⟩,eO h.ok i s hs,(length_set ..).trans h.len,h.old,h.pend,h.fen,h.fuse,h.failed⟩
 . rw [a,if_neg (λe=>hj (by rw [e];exact gS ..)),h.out j (λh9=>hj (gM _ h9))]
 . rw [a];rcases ia.1 hj with h9 | h9
   . rw [if_pos h9,h9];exact b
   . rw [if_neg (λe=>hi (by rw [<-e];exact h9))];exact h.inn j h9
 . rcases ia.1 hj with h9 | h9
   . rw [h9];exact hr
   . exact h.rng j h9
theorem Yf {first last:Nat} {dmg:Bool} {D:Dev} (hD:D.Ok) (hr:first<=last) (hl:last<D.st.length) {p:Dev × List Nat} (hp:Harmed first last dmg D p.1 p.2) (h:HarmD) (d:h.ok):Harmed first last dmg D (Ls first last dmg p h).1 (Ls first last dmg p h).2/\
 ((h.sec first last∈p.2/\Ls first last dmg p h=p)\/(h.sec first last ∉ p.2/\(Ls first last dmg p h).2=h.sec first last::p.2)):=by
 have hb:first<=h.sec first last/\h.sec first last<=last:=by
  unfold HarmD.sec;have:=ja h.raw (show last - first+1>0 by omega);omega
 have c:Cl p.1 (h.sec first last:Nat)=true:=by
  unfold Cl;exact gD ⟨oo,by rw [hp.len];omega⟩
 unfold Ls;by_cases h1:h.sec first last∈p.2
 . rw [if_pos h1];exact ⟨hp,.inl ⟨h1,rfl⟩⟩
 rw [if_neg h1];by_cases h2:dmg=false/\h.mask % 2=0/\0<Bj p.1 (h.sec first last:Nat)
 . rw [if_pos h2];refine ⟨?_,.inr ⟨h1,rfl⟩⟩;have he:Bj p.1 (h.sec first last:Nat)=(p.1.olds (h.sec first last)).length:=by unfold Bj;rw [if_pos c,gQ]
   have a:p.1.olds (h.sec first last)=D.olds (h.sec first last):=by unfold Dev.olds;rw [hp.old]
   have hm:h.back % Bj p.1 (h.sec first last:Nat)<(D.olds (h.sec first last)).length:=by rw [he,a];exact ja _ (by rw [<-a,<-he];exact h2.2.2)
   obtain ⟨b,g⟩:∃b,h.back % Bj p.1 (h.sec first last:Nat)=b:=⟨_,rfl⟩;rw [g] at hm ⊢
   have e:(Cg p.1 (h.sec first last:Nat) (1+(b:Int))).1={ p.1 with st:=p.1.st.set (h.sec first last) ((D.olds (h.sec first last)).getD b emp) }:=by
    unfold Cg
    rw [if_neg (by
     rw [c,gQ,a]
     intro h9
     rcases h9 with h9 | h9 | h9
     . cases h9
     . omega
     . omega),gQ,a,show (1+(b:Int)).toNat - 1=b from oo]
   rw [e]
   have hg:(D.olds (h.sec first last)).getD b emp∈D.olds (h.sec first last):=by
    rw [gH,fg hm];exact fq hm
   exact hp.more h1 hb oo (JE hD _ _ hg) (.inr ⟨h2.1,hg⟩)
 . rw [if_neg h2];refine ⟨?_,.inr ⟨h1,rfl⟩⟩;have hk:h.at_ % 140<140:=ja _ oo
   have f:(CK p.1 (h.sec first last:Nat) ((h.at_ % 140:Nat):Int) h.bits).1={ p.1 with st:=p.1.st.set (h.sec first last) (Ee (D.at (h.sec first last)) (h.at_ % 140) h.bits) }:=by
    unfold CK
    rw [if_neg (by
     rw [c]
     intro h9
     rcases h9 with h9 | h9 | h9
     . cases h9
     . omega
     . omega),if_neg (P1 h d),gQ,gQ,hp.out _ h1]
   rw [f];exact hp.more h1 hb oo (by rw [OE];exact Fh hD oo) (.inl ⟨_,_,hk,P1 h d,rfl⟩)

end
end Go.Proofs.YtfklieeipokllaaGreat
