/- Parts of the proof (packed), 6. -/
import Derived.Shelf.SlSortCmp.WholeK
import Derived.Shelf.SlSortCmp.NoneTotal
import Derived.Test.YtfklieeipokllaaGreatCzD
namespace Go.Proofs.YtfklieeipokllaaGreat
set_option linter.all false
set_option maxRecDepth 100000
set_option maxHeartbeats 16000000
open List
section
open Go.RowKit
def FZ (n:Int) (b r:Nat × Nat):Nat × Nat:=if n<=(r.2:Int)/\(b.2=0\/r.2<b.2) then r else b
def Bv (n:Int) (l:List (Nat × Nat)):Nat × Nat:=l.foldl (FZ n) (0,0)
theorem T1 (n:Int) (l:List (Nat × Nat)) (k:Nat) (h:k<l.length):Bv n (l.take (k+1))=FZ n (Bv n (l.take k)) l[k]:=by
 unfold Bv;rw [gU h,iz];rfl
theorem Ym {n:Int} (P:Nat × Nat->Prop):∀(l:List (Nat × Nat)) (b:Nat × Nat),P b->(∀r∈l,n<=(r.2:Int)->P r)->P (l.foldl (FZ n) b):=by
 intro l
 induction l with
 | nil=>intro b hb _;exact hb
 | cons r l ih=>
   intro b hb h;refine ih _ ?_ (λx hx=>h x (iJ _ hx));unfold FZ;split
   . rename_i hc;exact h r (iO ..) hc.1
   . exact hb
theorem Pe {n:Int} (P:Nat × Nat->Prop) (l:List (Nat × Nat)) (h0:P (0,0)) (h:∀r∈l,n<=(r.2:Int)->P r):P (Bv n l):=Ym P l _ h0 h
theorem Ri (n:Int) (l:List (Nat × Nat)) (m:Nat) (h:∀r∈l,r.1+r.2<=m):(Bv n l).1+(Bv n l).2<=m:=
 Pe (λb=>b.1+b.2<=m) l (ia _) (λr hr _=>h r hr)
theorem JY (n:Int) (l:List (Nat × Nat)):Bv n l=(0,0)\/Bv n l∈l/\n<=((Bv n l).2:Int):=
 Pe (λb=>b=(0,0)\/b∈l/\n<=(b.2:Int)) l (.inl rfl) (λr hr h=>.inr ⟨hr,h⟩)
def Id (S:Nat->Bool) (n:Int):(Int × Int) × Bool:=
 if n<1\/(Bv n (AH S)).2=0 then ((0,0),false) else ((((Bv n (AH S)).1:Int),n),true)
def Ca (l:List (Nat × Nat)):Nat:=(l.map (·.2)).sum
theorem JR (a b:List (Nat × Nat)):Ca (a++b)=Ca a+Ca b:=by simp [Ca]
theorem Rf (x:Nat × Nat):Ca [x]=x.2:=by simp [Ca]
theorem YB (l:List (Nat × Nat)) (k:Nat) (h:k<l.length):Ca (l.take (k+1))=Ca (l.take k)+l[k].2:=by
 rw [gU h,JR,Rf]
def BO:List (Nat × Nat)->Nat->List (Nat × Nat)
 | [],_=>[]
 | r::l,n=>if n=0 then [] else (r.1,min r.2 n)::BO l (n - min r.2 n)
theorem Wg (x:Nat × Nat):∀(l:List (Nat × Nat)) (n:Nat),BO (l++[x]) n=BO l n++(if n - Ca l=0 then [] else [(x.1,min x.2 (n - Ca l))]):=by
 intro l
 induction l with
 | nil=>intro n;show BO [x] n=_;unfold BO;by_cases h:n=0<;>simp [h,Ca,BO]
 | cons r l ih=>
   intro n;have e:Ca (r::l)=r.2+Ca l:=by simp [Ca]
   show BO (r::(l++[x])) n=BO (r::l) n++_;rw [BO,BO];by_cases h:n=0
   . rw [if_pos h,if_pos h,if_pos oo];rfl
   . rw [if_neg h,if_neg h,ih,e,show n - min r.2 n - Ca l=n - (r.2+Ca l) from oo];rfl
theorem UZ (l:List (Nat × Nat)) (k n:Nat) (h:k<l.length):BO (l.take (k+1)) n=BO (l.take k) n++(if n - Ca (l.take k)=0 then [] else [(l[k].1,min l[k].2 (n - Ca (l.take k)))]):=by
 rw [gU h,Wg]
theorem M7 (b:List (Nat × Nat)):∀(a:List (Nat × Nat)) (n:Nat),n - Ca a=0->BO (a++b) n=BO a n:=by
 intro a
 induction a with
 | nil=>
   intro n h;have hn:n=0:=by simpa [Ca] using h
   subst hn;cases b<;>simp [BO]
 | cons r l ih=>
   intro n h;have e:Ca (r::l)=r.2+Ca l:=by simp [Ca]
   show BO (r::(l++b)) n=BO (r::l) n;rw [BO,BO];by_cases h0:n=0
   . rw [if_pos h0,if_pos h0]
   . rw [if_neg h0,if_neg h0,ih _ oo]
theorem Yu (m:Nat):∀(l:List (Nat × Nat)) (n:Nat),(∀r∈l,r.1+r.2<=m)->∀r∈BO l n,r.1+r.2<=m:=by
 intro l
 induction l with
 | nil=>intro n _ r hr;cases hr
 | cons x l ih=>
   intro n h r hr;rw [BO] at hr;split at hr
   . cases hr
   . rcases jB.1 hr with rfl | hr
     . have:=h x (iO ..);show x.1+min x.2 n<=m;omega
     . exact ih _ (λy hy=>h y (iJ _ hy)) r hr
theorem LT:∀(l:List (Nat × Nat)) (n:Nat),(BO l n).length<=l.length:=by
 intro l
 induction l with
 | nil=>intro n;exact ia _
 | cons x l ih=>
   intro n;rw [BO];split
   . exact ia _
   . rw [i9,i9];have:=ih (n - min x.2 n);omega
theorem KL (S:Nat->Bool) (k:Nat):(BE S k).Pairwise (λa b=>a.1+a.2<b.1)/\∀r∈BE S k,1<=r.2:=by
 induction k with
 | zero=>exact ⟨Pairwise.nil,λr hr=>by cases hr⟩
 | succ k ih=>
   show (Ek S (BE S k) k).Pairwise _/\∀r∈Ek S (BE S k) k,_;have f:=Ft S k;unfold Ek;split
   . exact ih
   . split
     . rename_i h1 h2;rcases KE S k with ⟨_,h⟩ | ⟨i,x,hx,_⟩
       . rw [h h2.1] at h2;cases h2.2
       . rw [hx] at ih ⊢;have hb:Qj (i++[x])=i++[(x.1,x.2+1)]:=by unfold Qj;rw [JX,Ka]
         rw [hb];obtain ⟨c,d⟩:=ih;rw [pairwise_append] at c ⊢;refine ⟨⟨c.1,pairwise_singleton _ _,λa ha b hb=>?_⟩,λr hr=>?_⟩
         . rw [gQ.1 hb];exact c.2.2 a ha x (gQ.2 rfl)
         . rcases iA.1 hr with hr | hr
           . exact d r (ij _ hr)
           . rw [gQ.1 hr];show 1<=x.2+1;omega
     . rename_i h1 h2;rcases KE S k with ⟨h0,_⟩ | ⟨i,x,hx,g⟩
       . rw [h0];refine ⟨by rw [nil_append];exact pairwise_singleton _ _,λr hr=>?_⟩;rw [nil_append] at hr;rw [gQ.1 hr];exact gM _
       . rw [hx] at ih f ⊢;obtain ⟨c,d⟩:=ih;have j:=f x (iX _ (gQ.2 rfl));have l:x.1+x.2≠k:=λe=>h2 (g.1 e);refine ⟨pairwise_append.2 ⟨c,pairwise_singleton _ _,λa ha b hb=>?_⟩,λr hr=>?_⟩
         . rw [gQ.1 hb];show a.1+a.2<k;rcases iA.1 ha with ha | ha
           . have:=(pairwise_append.1 c).2.2 a ha x (gQ.2 rfl);omega
           . rw [gQ.1 ha];omega
         . rcases iA.1 hr with hr | hr
           . exact d r hr
           . rw [gQ.1 hr];exact gM _
def Bx (l:List (Nat × Nat)):List (Nat × Nat):=(List.range 128).flatMap λi=>l.filter λr=>r.2==128 - i
theorem Hi (l:List (Nat × Nat)) (h:∀r∈l,1<=r.2/\r.2<=128) (r:Nat × Nat):r∈Bx l↔r∈l:=by
 unfold Bx;rw [List.mem_flatMap];constructor
 . rintro ⟨i,_,hr⟩;exact (ip.1 hr).1
 . intro hr;have:=h r hr;exact ⟨128 - r.2,iP.2 oo,ip.2 ⟨hr,by rw [jR];omega⟩⟩
def ltR (a b:Nat × Nat):Prop:=b.2<a.2\/a.2=b.2/\a.1<b.1
theorem KY (l:List (Nat × Nat)) (h:l.Pairwise (λa b=>a.1<b.1)):(Bx l).Pairwise ltR:=by
 unfold Bx;rw [List.flatMap_def,pairwise_flatten];refine ⟨λx hx=>?_,?_⟩
 . obtain ⟨i,_,rfl⟩:=gV.1 hx;refine (Pairwise.imp_of_mem ?_ (h.filter _));intro a b ha hb c;have h1:=(ip.1 ha).2;have h2:=(ip.1 hb).2;rw [jR] at h1 h2;exact .inr ⟨oo,c⟩
 . rw [jh];refine Pairwise.imp_of_mem ?_ (pairwise_lt_range (n:=128));intro i j hi hj d a ha b hb;have h1:=(ip.1 ha).2;have h2:=(ip.1 hb).2;rw [jR] at h1 h2;have:=iP.1 hi;have:=iP.1 hj;exact .inl oo
theorem L5 {a b:Nat × Nat} (h:ltR a b) (h':ltR b a):False:=by
 unfold ltR at h h';omega
theorem Tu:∀(a b:List (Nat × Nat)),a.Perm b->a.Pairwise ltR->b.Pairwise ltR->a=b:=by
 intro a
 induction a with
 | nil=>intro b hp _ _;exact hp.nil_eq
 | cons x a ih=>
   intro b hp ha hb;cases b with
   | nil=>exact absurd hp.length_eq qs
   | cons y b=>
     have c:x=y:=by
      have h1:x∈y::b:=hp.subset (iO ..);have h2:y∈x::a:=hp.symm.subset (iO ..);rcases jB.1 h1 with h1 | h1
      . exact h1
      . rcases jB.1 h2 with h2 | h2
        . exact h2.symm
        . exact (L5 ((jQ.1 ha).1 y h2) ((jQ.1 hb).1 x h1)).elim
     subst c;rw [ih b ((perm_cons x).1 hp) (jQ.1 ha).2 (jQ.1 hb).2]
theorem PM {l:List (Nat × Nat)} (h:l.Pairwise (λa b=>a.1<b.1)):l.Nodup:=
 Pairwise.imp (λhab e=>by rw [e] at hab;omega) h
theorem QC {l:List (Nat × Nat)} (h:l.Pairwise ltR):l.Nodup:=
 Pairwise.imp (λhab e=>by rw [e] at hab;exact L5 hab hab) h
theorem E5 (l:List (Nat × Nat)) (h:∀r∈l,1<=r.2/\r.2<=128) (ha:l.Pairwise (λa b=>a.1<b.1)):l.Perm (Bx l):=
 (perm_ext_iff_of_nodup (PM ha) (QC (KY l ha))).2 (λr=>(Hi l h r).symm)
theorem DY (S:Nat->Bool):(AH S).Pairwise (λa b=>a.1<b.1):=
 Pairwise.imp (λh=>oo) (KL S 128).1
theorem Cv (S:Nat->Bool):∀r∈AH S,1<=r.2/\r.2<=128:=λr hr=>⟨(KL S 128).2 r hr,by have:=C0 S r hr;omega⟩
theorem bu (S:Nat->Bool) (d:List (Nat × Nat)) (hp:d.Perm (AH S)) (hs:∀i j (hi:i<d.length) (hj:j<d.length),i<j->¬ltR d[j] d[i]):d=Bx (AH S):=by
 refine Tu _ _ (hp.trans (E5 _ (Cv S) (DY S))) ?_ (KY _ (DY S));have hn:d.Nodup:=(hp.nodup_iff).2 (PM (DY S))
 have hd:d.Pairwise (λa b=>a.1≠b.1):=by
  have h1:(AH S).Pairwise (λa b=>a.1≠b.1):=Pairwise.imp (λh=>oo) (DY S);exact (hp.pairwise_iff (λ{a b} h e=>h e.symm)).2 h1
 rw [jr] at hd ⊢;intro i j hi hj c;have h1:=hd i j hi hj c;have h2:=hs i j hi hj c;unfold ltR at h2 ⊢;omega

theorem SX {w:World} {B:Nat} {A:Option Addr} {N:List (Nat × Nat)} (h:RunsAt w B A (AP N)) {k:Nat} (hk:k<N.length):
 ∃b off,A=some ⟨b,off,none⟩/\b<B/\w.cell? ⟨b,off+k*2,none⟩=some (.int .i64 (N[k].1:Int))/\w.cell? ⟨b,off+k*2+1,none⟩=some (.int .i64 (N[k].2:Int)):=by
 obtain ⟨b,off,f,c,e,hb,a,_,x0,x1⟩:=h.at_ (k:=k) (by rw [Ag];exact hk);have d:(AP N)[k]'(by rw [Ag];exact hk)=((N[k].1:Int),(N[k].2:Int)):=by simp [AP]
 rw [d] at a;injection a with h1 h2;exact ⟨b,off,e,hb,by rw [h1];exact x0,by rw [h2];exact x1⟩
theorem FB {w:World} {base:Nat} {v:Value} {l:List (Nat × Nat)} (h:OwnL w base 136 2 v (l.map BU)) (hb:∀r∈l,r.1+r.2<=1000000):
 ∃A c,v=.slice A l.length c/\RunsAt w w.heap.size A (AP l)/\l.length<=c/\c<=9223372036854775807/\∀b off,A=some ⟨b,off,none⟩->base<=b/\b<w.heap.size:=by
 obtain ⟨A,c,hv,h1,h2,hl⟩:=h.listAt;rw [gO] at hv h1;refine ⟨A,c,hv,⟨?_,by rw [Lu];exact hl⟩,h1,h2,?_⟩
 . intro r hr;obtain ⟨x,hx,rfl⟩:=gV.1 hr;have:=hb x hx;unfold FX;simp only [];omega
 . intro b off hA;rcases h.form with ⟨a,_⟩ | ⟨g,cap,a,hg,d,_⟩
   . rw [hv] at a;injection a with a;rw [hA] at a;cases a
   . rw [hv] at a;injection a with a;rw [hA] at a;injection a with a;injection a with a;omega
theorem RunsAt.turned {S:Nat->Prop} {w w':World} {B:Nat} {A:Option Addr} {l:List (Int × Int)} (h:RunsAt w B A l) (hB:B<=w.heap.size) (ht:Turned S w w') (hS:∀b off,A=some ⟨b,off,none⟩->¬S b):RunsAt w' B A l:=
 ⟨h.1,λhp=>by
  obtain ⟨b,off,e,hb,hc⟩:=h.2 hp
  exact ⟨b,off,e,hb,λj cs hj i v hi=>by rw [ht.cellEq _ _ oo (hS b off e)];exact hc j cs hj i v hi⟩⟩
def fh (w:World) (d:(Int × Int) × Bool) (e:Ending) (w':World):Prop:=e=.returned (.tuple #[.agg #[.int .i64 d.1.1,.int .i64 d.1.2],.bool d.2])/\Grew w w'
section
variable (A:Option Addr) (c:Nat) (l:List (Int × Int)) (w:World) (B:Nat) (hB:B<=w.heap.size) (hl:l.length<=1000000) (hr:RunsAt w B A l) (n:Int) (n0:-9223372036854775808<=n) (n1:n<=9223372036854775807)
include hB hl hr n0 n1
theorem SQ:Calls Tryz.prog 148 #[.slice A l.length c,.int .i64 n] w (fh w (Id (AG l) n)):=by
 by_cases hn:n<1
 . have HE:=zh (show Id (AG l) n=((0,0),false) from by unfold Id;rw [if_pos (.inl hn)]);go_enter Tryz.func148,Tryz.ntmps148;go_wp2_with fail;refine gw (by first | (simp [*,results,Tryz.results148,go_sem];rfl) | simp [*,results,Tryz.results148,go_sem]) rfl ?_;rw [HE.out];exact ⟨rfl,gG⟩
 have HS:=zh (show Id (AG l) n=if n<1\/(Bv n (AH (AG l))).2=0 then ((0,0),false) else ((((Bv n (AH (AG l))).1:Int),n),true) from rfl);have hC:=λw' (g:Grew w w')=>IV A c l w' B (gY hB g.size) hl (hr.keep hB g);have p:=C0 (AG l);have L:=EP (AG l);generalize AH (AG l)=N at*
 have HC:=zh hC;have u:=zh p;have G:=zh (λk=>Ri n (N.take k) 128 (λr hr=>p r (jP hr)));clear hr hC p;go_enter Tryz.func148,Tryz.ntmps148;go_wp2_with fail;refine (HC _ (gG)).mono ?_;rintro e w1 ⟨v,rfl,C,g1⟩;have x:=((gZ w 136 #[.int .i64 0,.int .i64 0] rfl).alloc (.cells #[.int .i64 0,.int .i64 0] 136)).grew g1;have H:=(gZ (w.alloc (.cells #[.int .i64 0,.int .i64 0] 136)) 136 #[.int .i64 0,.int .i64 0] (n:=w.heap.size+1) qs).grew g1;have hG:Grew w w1:=(((gK w).alloc _).alloc _).trans g1;obtain ⟨A',c',hv,D,_,_,E⟩:=FB C (λr hr=>gY (u r hr) oo);subst hv;have HR:=zh D;have HA:=zh (show ∀b f,A'=some ⟨b,f,none⟩->¬b=w.heap.size+1 from λb f e=>by have:=(E b f e).1;simp at this;omega);have I:=zh x;clear C D HC g1 E x;go_wp2_with fail
 go_loopg [16] N.length (λgk i wr=>∃k:Nat,k<=N.length/\gk=N.length - k/\i=.int .i64 k/\Blk wr (w.heap.size+1) 136 #[.int .i64 ((Bv n (N.take k)).1:Int),.int .i64 ((Bv n (N.take k)).2:Int)]/\Turned (λi=>i=w.heap.size+1) w1 wr)
 case atStart=>exact ⟨0,oo,oo,rfl,H,iR _ _⟩
 case round=>
  obtain ⟨k,hk,F,rfl,a,ht⟩:=hrel;have j:=zh F;have HT:=zh ht;have d:=I.turned ht oo;clear F;have q:=G.out k;by_cases t:k<N.length
  . obtain ⟨b,f,rfl,hb,x0,x1⟩:=SX (HR.turned (gM _) ht HA) t;have M:b<wr.heap.size:=by have:=ht.size;omega
    have O:¬b=w.heap.size+1:=HA.out b f rfl;have J:=u.out _ (gS t);have m:=zh (T1 n N k t);have y0:=a.cell 0;have y1:=a.cell 1;have P:=a.frozen 0;have Q:=a.frozen 1;have K:=a.lt;have R:=hG.size;generalize N[k]=r at*
    obtain ⟨rf,rc⟩:=r;generalize Bv n (N.take k)=bb at*
    obtain ⟨bf,bc⟩:=bb;simp only at x0 x1 y0 y1 J q;clear ht;have o:=zh a;by_cases h1:n<=(rc:Int)
    . by_cases h2:bc=0
      . have s:(((bc:Nat):Int)==0)=true:=jR.2 oo;have HN:=zh (show Bv n (N.take (k+1))=(rf,rc) from by rw [m.out];unfold FZ;rw [if_pos ⟨h1,.inl h2⟩]);clear h2;go_wp2_with fail
        go_roundg (N.length - (k+1))
        case measure=>rw [j.out];omega
        case rel=>exact ⟨k+1,oo,oo,by go_num,by rw [HN.out];have:=o.out;exact gB,by have:=HT.out;exact gT⟩
      . have s:(((bc:Nat):Int)==0)=false:=iD.2 oo;by_cases h3:rc<bc
        . have HN:=zh (show Bv n (N.take (k+1))=(rf,rc) from by rw [m.out];unfold FZ;rw [if_pos ⟨h1,.inr h3⟩]);clear h2;go_wp2_with fail
          go_roundg (N.length - (k+1))
          case measure=>rw [j.out];omega
          case rel=>exact ⟨k+1,oo,oo,by go_num,by rw [HN.out];have:=o.out;exact gB,by have:=HT.out;exact gT⟩
        . have HN:=zh (show Bv n (N.take (k+1))=(bf,bc) from by rw [m.out];unfold FZ;rw [if_neg (λh=>h.2.elim h2 h3)]);clear h2;go_wp2_with fail
          go_roundg (N.length - (k+1))
          case measure=>rw [j.out];omega
          case rel=>exact ⟨k+1,oo,oo,by go_num,by rw [HN.out];have:=o.out;exact gB,by have:=HT.out;exact gT⟩
    . have HN:=zh (show Bv n (N.take (k+1))=(bf,bc) from by rw [m.out];unfold FZ;rw [if_neg (λh=>h1 h.1)]);go_wp2_with fail
      go_roundg (N.length - (k+1))
      case measure=>rw [j.out];omega
      case rel=>exact ⟨k+1,oo,oo,by go_num,by rw [HN.out];have:=o.out;exact gB,by have:=HT.out;exact gT⟩
  . obtain rfl:k=N.length:=oo;rw [jU] at a q;have y:Grew w wr:=hG.turn ht (λi hi=>oo);have z:=zh y;have y0:=a.cell 0;have y1:=a.cell 1;have K:=a.lt;have z0:=d.cell 0;have z1:=d.cell 1;have S:=d.frozen 0;have T:=d.frozen 1;have U:=d.lt;clear ht y;generalize Bv n N=bb at*
    obtain ⟨bf,bc⟩:=bb;simp only at y0 y1 q;by_cases h2:bc=0
    . have s:(((bc:Nat):Int)==0)=true:=jR.2 oo;have HE:=zh (show Id (AG l) n=((0,0),false) from by rw [HS.out];exact if_pos (.inr h2));clear h2;go_wp2_with fail;refine gw (by first | (simp [*,results,Tryz.results148,go_sem];rfl) | simp [*,results,Tryz.results148,go_sem]) rfl ?_;rw [HE.out];exact ⟨rfl,by have:=z.out;exact gG⟩
    . have s:(((bc:Nat):Int)==0)=false:=iD.2 oo;have HE:=zh (show Id (AG l) n=(((bf:Int),n),true) from by rw [HS.out];exact if_neg (λh=>h.elim (λh=>oo) h2));clear h2;go_wp2_with fail;refine gw (by first | (simp [*,results,Tryz.results148,go_sem];rfl) | simp [*,results,Tryz.results148,go_sem]) rfl ?_;rw [HE.out];exact ⟨rfl,by have:=z.out;exact gG⟩
end

end
section
open Go.Shelf Go.RowKit Go.Lib
def VH:Go.Shelf.Ren:=⟨fun | 6=>198 | 15=>99 | 14=>232 | 28=>174 | 29=>175 | 20=>243 | 21=>244 | 22=>245 | 23=>246 | 24=>247 | 25=>248 | 26=>249 | 27=>250 | 46=>255 | 47=>212 | 48=>213 | 49=>256 | 50=>257 | 57=>258 | n=>n,fun | 22=>33 | 24=>136 | 25=>279 | 3=>3 | 39=>173 | 0=>0 | 53=>176 | 55=>260 | 4=>4 | 46=>253 | 45=>252 | 50=>108 | 5=>5 | 9=>9 | 66=>298 | 70=>302 | 76=>326 | 77=>327 | n=>n,fun | n=>n⟩
theorem aZ:Go.Proofs.SlLaysF0.n6 Tryz.prog VH:={
 mixed:=qk
 f6:=⟨Tryz.f198.name,qd,Tryz.func198.trans (iH some qk)⟩
 f14:=⟨Tryz.f232.name,qd,Tryz.func232.trans (iH some qk)⟩
 f15:=Tryz.func99.trans (iH some qk)
 f20:=⟨Tryz.f243.name,qd,Tryz.func243.trans (iH some qk)⟩
 f21:=⟨Tryz.f244.name,qd,Tryz.func244.trans (iH some qk)⟩
 f22:=⟨Tryz.f245.name,qd,Tryz.func245.trans (iH some qk)⟩
 f23:=⟨Tryz.f246.name,qd,Tryz.func246.trans (iH some qk)⟩
 f24:=⟨Tryz.f247.name,qd,Tryz.func247.trans (iH some qk)⟩
 f25:=⟨Tryz.f248.name,qd,Tryz.func248.trans (iH some qk)⟩
 f26:=⟨Tryz.f249.name,qd,Tryz.func249.trans (iH some qk)⟩
 f27:=⟨Tryz.f250.name,qd,Tryz.func250.trans (iH some qk)⟩
 f28:=Tryz.func174.trans (iH some qk)
 f29:=Tryz.func175.trans (iH some qk)
 f46:=⟨Tryz.f255.name,qd,Tryz.func255.trans (iH some qk)⟩
 f47:=Tryz.func212.trans (iH some qk)
 f48:=Tryz.func213.trans (iH some qk)
 f49:=⟨Tryz.f256.name,qd,Tryz.func256.trans (iH some qk)⟩
 f50:=⟨Tryz.f257.name,qd,Tryz.func257.trans (iH some qk)⟩
 f57:=⟨Tryz.f258.name,qd,Tryz.func258.trans (iH some qk)⟩
 t0:=Tryz.underlying0
 a0:=Tryz.isAgg0
 z0:=Tryz.sizeOf0
 v0:=Tryz.zeroValue0
 t3:=Tryz.underlying3
 a3:=Tryz.isAgg3
 z3:=Tryz.sizeOf3
 v3:=Tryz.zeroValue3
 t4:=Tryz.underlying4
 a4:=Tryz.isAgg4
 z4:=Tryz.sizeOf4
 v4:=Tryz.zeroValue4
 t5:=Tryz.underlying5
 a5:=Tryz.isAgg5
 z5:=Tryz.sizeOf5
 v5:=Tryz.zeroValue5
 t9:=Tryz.underlying9
 a9:=Tryz.isAgg9
 z9:=Tryz.sizeOf9
 v9:=Tryz.zeroValue9
 t22:=Tryz.underlying33
 a22:=Tryz.isAgg33
 z22:=Tryz.sizeOf33
 v22:=Tryz.zeroValue33
 t25:=Tryz.underlying279
 a25:=Tryz.isAgg279
 z25:=Tryz.sizeOf279
 v25:=Tryz.zeroValue279
 t39:=Tryz.underlying173
 a39:=Tryz.isAgg173
 z39:=Tryz.sizeOf173
 v39:=Tryz.zeroValue173
 t45:=Tryz.underlying252
 a45:=Tryz.isAgg252
 z45:=Tryz.sizeOf252
 v45:=Tryz.zeroValue252
 t46:=Tryz.underlying253
 a46:=Tryz.isAgg253
 z46:=Tryz.sizeOf253
 v46:=Tryz.zeroValue253
 t50:=Tryz.underlying108
 a50:=Tryz.isAgg108
 z50:=Tryz.sizeOf108
 v50:=Tryz.zeroValue108
 t53:=Tryz.underlying176
 a53:=Tryz.isAgg176
 z53:=Tryz.sizeOf176
 v53:=Tryz.zeroValue176
 t55:=Tryz.underlying260
 a55:=Tryz.isAgg260
 z55:=Tryz.sizeOf260
 v55:=Tryz.zeroValue260
 t66:=Tryz.underlying298
 a66:=Tryz.isAgg298
 z66:=Tryz.sizeOf298
 v66:=Tryz.zeroValue298
 t70:=Tryz.underlying302
 a70:=Tryz.isAgg302
 z70:=Tryz.sizeOf302
 v70:=Tryz.zeroValue302
 t76:=Tryz.underlying326
 a76:=Tryz.isAgg326
 z76:=Tryz.sizeOf326
 v76:=Tryz.zeroValue326
 t77:=Tryz.underlying327
 a77:=Tryz.isAgg327
 z77:=Tryz.sizeOf327
 v77:=Tryz.zeroValue327
 }

end
section
attribute [local go_sem ↓] Go.wp_at_zero Go.wp_at_succ
open Go.RowKit Go.Shelf Go.Lib
def FR:Type:=Fin 256 × Fin 256
instance:Inhabited FR:=⟨(⟨0,qd⟩,⟨0,qd⟩)⟩
def toF (r:Nat × Nat):FR:=(⟨r.1 % 256,jx _ qd⟩,⟨r.2 % 256,jx _ qd⟩)
def ofF (x:FR):Nat × Nat:=(x.1.val,x.2.val)
theorem V3 (r:Nat × Nat) (h:r.1+r.2<=128):ofF (toF r)=r:=by
 obtain ⟨a,b⟩:=r;simp only at h;show (a % 256,b % 256)=(a,b);rw [iu oo,iu oo]
def Hc (x:FR):List Value:=BU (ofF x)
def QL (x y:FR):Int:=if (ofF x).2=(ofF y).2 then ((ofF x).1:Int) - ((ofF y).1:Int) else ((ofF y).2:Int) - ((ofF x).2:Int)
theorem ltF (x y:FR):Go.Proofs.ltOf QL x y=true↔ltR (ofF x) (ofF y):=by
 unfold Go.Proofs.ltOf QL ltR;rw [iV];split<;>omega
theorem dj:Go.Sort.SWO (Go.Proofs.ltOf QL) where
 irrefl x:=by
  cases h:Go.Proofs.ltOf QL x x with
  | false=>rfl
  | true=>exact (L5 ((ltF x x).1 h) ((ltF x x).1 h)).elim
 trans x y z h1 h2:=by
  rw [ltF] at h1 h2 ⊢;unfold ltR at*
  omega
 ntrans x y z h1 h2:=by
  rw [<-jE] at h1 h2 ⊢;rw [ltF] at h1 h2 ⊢;unfold ltR at*
  omega
theorem U8 (x y:FR) (W:World):Calls Tryz.prog 197 #[.agg (Hc x).toArray,.agg (Hc y).toArray] W λe w'=>e=.returned (.int .i64 (QL x y))/\∃q os',w'=Go.Sort.grow (W.drewN q) os':=by
 have f:=x.1.isLt;have g:=x.2.isLt;have i:=y.1.isLt;have j:=y.2.isLt;show Calls Tryz.prog 197 #[.agg #[.int .i64 (x.1.val:Int),.int .i64 (x.2.val:Int)],.agg #[.int .i64 (y.1.val:Int),.int .i64 (y.2.val:Int)]] W _;have HC:=zh (show QL x y=if x.2.val=y.2.val then ((x.1.val:Int)) - (y.1.val:Int) else (y.2.val:Int) - (x.2.val:Int) from rfl);generalize x.1.val=a at*
 generalize x.2.val=b at*
 generalize y.1.val=c at*
 generalize y.2.val=d at*
 by_cases h:b=d
 . have hb:((b:Int) != (d:Int))=false:=by rw [jw];omega
   have HE:=zh (show QL x y=(a:Int) - (c:Int) from by rw [HC.out,if_pos h]);clear h;go_enter Tryz.func197,Tryz.ntmps197;go_wp2_with fail;go_ret;exact ⟨CH (by rw [HE.out]),0,_,by rw [Go.Sort.alloc_eq_grow,Go.Sort.alloc_eq_grow,Go.Sort.grow_grow];rfl⟩
 . have hb:((b:Int) != (d:Int))=true:=by rw [iW];omega
   have HE:=zh (show QL x y=(d:Int) - (b:Int) from by rw [HC.out,if_neg h]);clear h;go_enter Tryz.func197,Tryz.ntmps197;go_wp2_with fail;go_ret;exact ⟨CH (by rw [HE.out]),0,_,by rw [Go.Sort.alloc_eq_grow,Go.Sort.alloc_eq_grow,Go.Sort.grow_grow];rfl⟩
theorem Ou (w:World) (g m:Nat) (d:Array FR) (os:Array Obj):Turned (λi=>i=g) w (Go.Proofs.sortWorldK Hc 2 w g 0 m d os):=by
 refine ⟨rfl,rfl,rfl,?_,λk hk hs=>?_⟩
 . exact Go.Proofs.size_sortWorldK_c Hc 2 w g 0 m d os
 . unfold Go.Proofs.sortWorldK Go.Sort.grow Go.Sort.putRowK Go.Sort.putRow Go.Sort.mapBlock Go.Sort.ahead;show (w.heap.modify g _++os)[k]? =w.heap[k]?;rw [Array.getElem?_append_left (by rw [Array.size_modify];exact hk),jd,if_neg (λe=>hs e.symm)]
theorem J1 (d:Array FR):(d.extract 0 d.size).toList=d.toList:=by rw [Array.extract_size]
theorem U6 (d:Array FR) (i:Nat) (h:i<d.size):d[i]! =d.toList[i]'(by rw [ig];exact h):=by
 rw [getElem!_pos d i h,Array.getElem_toList]
theorem YV {w:World} {base g cap:Nat} {N:List (Nat × Nat)} (h:OwnL w base 136 2 (.slice (some ⟨g,0,none⟩) N.length cap) (N.map BU)) (hb:∀r∈N,r.1+r.2<=128):Go.Sort.HoldsK Hc 2 w g 0 (N.map toF).toArray:=by
 intro t ht;have a:t<N.length*2:=by simpa using ht
 have hj:t / 2<N.length:=oo;rw [Go.Sort.get_flatK _ _ _ _ (by simpa using a),ji]
 have b:((N.map toF).toArray)[t / 2]! =toF N[t / 2]:=by
  rw [getElem!_pos _ _ (by simpa using hj)];simp
 have c:(N.map BU)[t / 2]? =some (BU N[t / 2]):=by rw [gP,gJ hj];rfl
 have he:Hc (toF N[t / 2])=BU N[t / 2]:=by unfold Hc;rw [V3 _ (hb _ (gS hj))]
 rw [b,he];refine ⟨?_,h.frozen t⟩;have hm:t=t / 2*2+t % 2:=oo;have d:t % 2<2:=jx _ qd
 have hu:(BU N[t / 2])[t % 2]? =some ((BU N[t / 2])[t % 2]!):=by
  have e:(BU N[t / 2]).length=2:=rfl;rw [gJ oo,getElem!_pos _ _ oo]
 have:=h.cell (j:=t / 2) (i:=t % 2) c hu;rwa [<-hm] at this
theorem WQ {w:World} {g:Nat} {d:Array FR} {M:List (Nat × Nat)} (h:Go.Sort.HoldsK Hc 2 w g 0 d) (hd:d.toList.map ofF=M) (hg:g<w.heap.size):RunsAt w w.heap.size (some ⟨g,0,none⟩) (AP M):=by
 subst hd;refine ⟨?_,λ_=>⟨g,0,rfl,hg,λj cs hj i v hi=>?_⟩⟩
 . intro r hr;obtain ⟨x,hx,rfl⟩:=gV.1 hr;obtain ⟨y,hy,rfl⟩:=gV.1 hx;have h1:=y.1.isLt;have h2:=y.2.isLt;show FX ((y.1.val:Int),(y.2.val:Int));unfold FX;simp only;omega
 . rw [Lu,jM] at hj;rw [gP] at hj;cases hx:d.toList[j]? with
   | none=>rw [hx] at hj;cases hj
   | some x=>
     rw [hx] at hj;have f:j<d.toList.length:=(iG.1 hx).1;have b:j<d.size:=by rw [<-ig];exact f
     injection hj with hj;have e:cs=Hc x:=hj.symm;have a:i<cs.length:=(iG.1 hi).1;have k:i<2:=by rw [e] at a;exact a
     have hc:=(h.cell (i:=j) (c:=i) b k).1
     have l:d[j]! =x:=by
      rw [U6 d j b];exact (iG.1 hx).2
     rw [l,<-e,getElem!_pos cs i a] at hc;rw [hc,(iG.1 hi).2]
theorem Z9 (g cap:Nat) (S:Nat->Bool) (w:World) (base:Nat) (c:OwnL w base 136 2 (.slice (some ⟨g,0,none⟩) (AH S).length cap) ((AH S).map BU)):
 Calls Tryz.prog 198 #[.slice (some ⟨g,0,none⟩) (AH S).length cap,.func (.func 197) #[] #[]] w λe w'=>e=.returned (.tuple #[])/\Turned (λi=>i=g) w w'/\RunsAt w' w'.heap.size (some ⟨g,0,none⟩) (AP (Bx (AH S))):=by
 have hg:g<w.heap.size:=by
  rcases c.form with ⟨h,_⟩ | ⟨g',_,h,_,h2,_⟩
  . cases h
  . injection h with h;injection h with h;injection h with h;omega
 have f:=C0 S;have q:=EP S;have hH:=YV c f;have a:((AH S).map toF).toArray.size=(AH S).length:=qs
 have k:(((AH S).map toF).toArray.toList).map ofF=AH S:=by
  show ((AH S).map toF).map ofF=AH S;rw [jM];conv=>rhs;rw [<-List.map_id (AH S)]
  exact ie (λr hr=>V3 r (f r hr))
 obtain ⟨d,hd⟩:∃d,((AH S).map toF).toArray=d:=⟨_,rfl⟩;rw [hd] at hH a k;have eg:∀args w,(callFunc 197 args).run Tryz.prog w=.ok (.enter 197 args) w:=BV Tryz.func197 qk rfl;have b:=Go.Proofs.AnyQ.slices_SortFunc aZ 2 Tryz.isAgg136 Tryz.sizeOf136 Hc (λ_=>rfl) (λx v hv=>by simp [Hc,BU] at hv;rcases hv with rfl | rfl<;>rfl) QL dj 197 #[] g 0 cap d w eg (λm os dk hs x y=>U8 x y _) hH hg (by rw [a];omega);change Calls Tryz.prog 198 _ _ _ at b;rw [a] at b;refine b.mono ?_;rintro e w' ⟨rfl,d',n,os,hp,hs,rfl⟩;refine ⟨rfl,Ou w g n d' os,?_⟩;have l:d'.size=d.size:=hp.1;refine WQ (d:=d') (Go.Proofs.holdsK_sortWorldK_c Hc 2 w g 0 d d' n os hH hg l) ?_ (gW hg (Go.Proofs.size_sortWorldK_c Hc 2 w g 0 n d' os));refine bu S _ ?_ ?_
 . have h3:=hp.2.2;rw [<-a,J1 d,<-l,J1 d'] at h3;rw [<-k];exact h3.map _
 . intro i j hi hj p o;rw [gO,ig] at hi hj;have h4:=hs i j (ia _) p oo;rw [U6 d' j hj,U6 d' i hi] at h4;rw [ju,ju] at o;rw [(ltF _ _).2 o] at h4;cases h4
theorem Zf (S:Nat->Bool) (w:World) (base:Nat) (v:Value) (a:OwnL w base 136 2 v ((AH S).map BU)):
 ∃A c,v=.slice A (Bx (AH S)).length c/\Calls Tryz.prog 198 #[.slice A (Bx (AH S)).length c,.func (.func 197) #[] #[]] w λe w'=>e=.returned (.tuple #[])/\Turned (λi=>base<=i) w w'/\RunsAt w' w'.heap.size A (AP (Bx (AH S))):=by
 have d:(Bx (AH S)).length=(AH S).length:=(E5 _ (Cv S) (DY S)).length_eq.symm;rcases a.form with ⟨rfl,h0⟩ | ⟨g,cap,rfl,hg,l,_⟩
 . have j:(AH S).length=0:=by have:=iH length h0;simpa using this
   have b:(Bx (AH S)).length=0:=oo;refine ⟨none,0,by rw [b],?_⟩;rw [b];have f:=Go.Proofs.AnyF.slices_SortFunc_none aZ none 0 (.func (.func 197) #[] #[]) w;change Calls Tryz.prog 198 _ _ _ at f;refine f.mono ?_;rintro e w' ⟨rfl,rfl⟩;refine ⟨rfl,iR _ _,?_⟩;rw [eq_nil_of_length_eq_zero b];exact ⟨λr hr=>(not_mem_nil hr).elim,λh=>absurd h qd⟩
 . rw [gO] at a ⊢;refine ⟨some ⟨g,0,none⟩,cap,by rw [d],?_⟩;rw [d];refine (Z9 g cap S w base a).mono ?_;rintro e w' ⟨rfl,ht,hr⟩;exact ⟨rfl,ht.mono (λk _ hk=>by subst hk;exact hg),hr⟩

end
section
open Go.RowKit
def Bb (S:Nat->Bool) (n most:Int):List (Nat × Nat) × Int:=
 if n<1\/most<1 then ([],1)
 else if (Bv n (AH S)).2≠0 then ([((Bv n (AH S)).1,n.toNat)],0)
 else if n.toNat - Ca (Bx (AH S))≠0\/most<((BO (Bx (AH S)) n.toNat).length:Int) then ([],14)
 else (BO (Bx (AH S)) n.toNat,0)
def aN (w:World) (d:List (Nat × Nat) × Int) (e:Ending) (w':World):Prop:=∃v,e=.returned (.tuple #[v,.int .i64 d.2])/\OwnL w' w.heap.size 136 2 v (d.1.map BU)/\Grew w w'
theorem OwnL.one {w:World} {base n:Nat} {r:Nat × Nat} (hb:base<=w.heap.size) (hn:n=w.heap.size):OwnL (w.alloc (.cells #[.int .i64 (r.1:Int),.int .i64 (r.2:Int)] 136)) base 136 2 (.slice (some ⟨n,0,none⟩) 1 1) ([r].map BU):=by
 subst hn;exact ⟨by simp [BU],World.ownsRow_lit w _ 1 hb qd qs⟩
section
variable (A:Option Addr) (c:Nat) (l:List (Int × Int)) (w:World) (B:Nat) (hB:B<=w.heap.size) (hl:l.length<=1000000) (hr:RunsAt w B A l) (n:Int) (n0:-9223372036854775808<=n) (n1:n<=9223372036854775807) (most:Int)
include hB hl hr n0 n1
theorem PD:Calls Tryz.prog 138 #[.slice A l.length c,.int .i64 n,.int .i64 most] w (aN w (Bb (AG l) n most)):=by
 by_cases h1:n<1
 . have HE:=zh (show Bb (AG l) n most=([],1) from by unfold Bb;rw [if_pos (.inl h1)]);go_enter Tryz.func138,Tryz.ntmps138;go_wp2_with fail
   go_returns
   rw [HE.out];exact ⟨_,rfl,OwnL.nil _ _ _ _,gG⟩
 by_cases h2:most<1
 . have HE:=zh (show Bb (AG l) n most=([],1) from by unfold Bb;rw [if_pos (.inr h2)]);go_enter Tryz.func138,Tryz.ntmps138;go_wp2_with fail
   go_returns
   rw [HE.out];exact ⟨_,rfl,OwnL.nil _ _ _ _,gG⟩
 obtain ⟨nn,rfl⟩:∃nn:Nat,n=(nn:Int):=⟨n.toNat,oo⟩;have HS:=zh (show Bb (AG l) (nn:Int) most=if (Bv (nn:Int) (AH (AG l))).2≠0 then ([((Bv (nn:Int) (AH (AG l))).1,nn)],0) else if nn - Ca (Bx (AH (AG l)))≠0\/most<((BO (Bx (AH (AG l))) nn).length:Int) then ([],14) else (BO (Bx (AH (AG l))) nn,0) from by unfold Bb;rw [if_neg (λh=>h.elim h1 h2)];rfl);have d:=SQ A c l w B hB hl hr (nn:Int) n0 n1
 have x:Id (AG l) (nn:Int)=if (Bv (nn:Int) (AH (AG l))).2=0 then ((0,0),false) else ((((Bv (nn:Int) (AH (AG l))).1:Int),(nn:Int)),true):=by
  unfold Id;by_cases hz:(Bv (nn:Int) (AH (AG l))).2=0
  . rw [if_pos (.inr hz),if_pos hz]
  . rw [if_neg (λh=>h.elim h1 hz),if_neg hz]
 rw [x] at d;have y:=C0 (AG l);have E:=Ri (nn:Int) (AH (AG l)) 128 y;have z:=JY (nn:Int) (AH (AG l));by_cases hz:(Bv (nn:Int) (AH (AG l))).2=0;rotate_left
 . rw [if_neg hz] at d
   have av:nn<=128:=by
    rcases z with h | ⟨_,h⟩
    . rw [h] at hz;exact absurd rfl hz
    . omega
   have HE:=zh (show Bb (AG l) (nn:Int) most=([((Bv (nn:Int) (AH (AG l))).1,nn)],0) from by rw [HS.out,if_pos hz]);generalize Bv (nn:Int) (AH (AG l))=bb at*
   obtain ⟨bf,bc⟩:=bb;simp only at d HE E;have s:=zh d;clear x d HS hz z;go_enter Tryz.func138,Tryz.ntmps138;go_wp2_with fail;refine s.mono ?_;rintro e w1 ⟨rfl,g1⟩;have T:=g1.size;go_wp2_with fail
   go_returns
   rw [HE.out];refine ⟨_,rfl,OwnL.one (r:=(bf,nn)) ?_ ?_,gG⟩
   . simp;omega
   . simp
 rw [if_pos hz] at d;have j:=zh (show Bb (AG l) (nn:Int) most=if nn - Ca (Bx (AH (AG l)))≠0\/most<((BO (Bx (AH (AG l))) nn).length:Int) then ([],14) else (BO (Bx (AH (AG l))) nn,0) from by rw [HS.out,if_neg (λh=>h hz)]);have s:=zh d;have HC:=zh (λw' (g:Grew w w')=>IV A c l w' B (gY hB g.size) hl (hr.keep hB g));have F:=zh (λw base v h=>Zf (AG l) w base v h);have a0:(Bx (AH (AG l))).length<=128:=by rw [<-(E5 _ (Cv (AG l)) (DY (AG l))).length_eq];exact EP _
 have G:∀r∈Bx (AH (AG l)),r.1+r.2<=128:=λr hr=>y r ((Hi _ (Cv (AG l)) r).1 hr);generalize Bx (AH (AG l))=M at*
 have U:=zh G;clear x d HS hz z E hr y G;go_enter Tryz.func138,Tryz.ntmps138;go_wp2_with fail;refine s.mono ?_;rintro e w1 ⟨rfl,g1⟩;have T:=g1.size;go_wp2_with fail;refine (HC _ (gG)).mono ?_;rintro e w2 ⟨v,rfl,a,g2⟩;have hG:Grew w w2:=gG;obtain ⟨A',c',hv,R⟩:=F.out _ _ _ a;subst hv;have a1:w.heap.size<=w1.heap.size+1:=oo;clear a HC s g1 g2 F;go_wp2_with fail;refine R.mono ?_;rintro e w3 ⟨rfl,ht,Q⟩;replace hG:=hG.turn ht (λi hi=>by simp at hi;omega);have HR:=zh Q;have H:=hG.size;clear R ht Q;go_wp2_with fail
 go_loopg [1,12,37] M.length (λgk nv ov i wr=>∃k:Nat,k<=M.length/\gk=M.length - k/\i=.int .i64 k/\nv=.int .i64 ((nn - Ca (M.take k):Nat):Int)/\OwnL wr w3.heap.size 136 2 ov ((BO (M.take k) nn).map BU)/\Grew w3 wr)
 case atStart=>exact ⟨0,oo,oo,rfl,by simp [Ca],OwnL.nil _ _ _ _,gK _⟩
 case round=>
  obtain ⟨k,hk,S,rfl,rfl,a,hg⟩:=hrel;have V:=zh S;clear S;have I:=LT (M.take k) nn;have a2:(M.take k).length<=128:=gY (length_take_le _ _) oo;have a3:=hg.size;obtain ⟨Av,cv,hv,an,bl,-⟩:=a.listAt;rw [gO] at hv an;subst hv;by_cases u:k<M.length
  . obtain ⟨b,bn,rfl,hb,x0,x1⟩:=SX (HR.keep (gM _) hg) u;have a4:b<wr.heap.size:=oo;have W:=U.out _ (gS u);have J:=zh (UZ M k nn u);have K:=zh (YB M k u);have L:=zh (λh=>M7 (M.drop k) (M.take k) nn h);generalize M[k]=r at*
    obtain ⟨rf,rc⟩:=r;simp only at x0 x1 W;obtain ⟨m,hm⟩:∃m,nn - Ca (M.take k)=m:=⟨_,rfl⟩;rw [hm] at J;rw [hm];by_cases D:m=0
    . have t:=L.out oo;rw [jo] at t
      have o:nn - Ca M=0:=by
       have h9:=JR (M.take k) (M.drop k);rw [jo] at h9;omega
      rw [<-t] at a I;have C:=a.alloc (.cells #[.int .i64 (rf:Int),.int .i64 (rc:Int)] 136);have f:=hg.alloc (.cells #[.int .i64 (rf:Int),.int .i64 (rc:Int)] 136);have X:((m:Int)==0)=true:=jR.2 oo;rw [<-t];subst D;clear t hm;by_cases p:most<((BO M nn).length:Int)
      . have HE:=zh (show Bb (AG l) (nn:Int) most=([],14) from by rw [j.out];exact if_pos (.inr p));go_wp2_with fail
        go_returns
        rw [HE.out];exact ⟨_,rfl,OwnL.nil _ _ _ _,hG.trans f⟩
      . have HE:=zh (show Bb (AG l) (nn:Int) most=(BO M nn,0) from by rw [j.out];exact if_neg (λh=>h.elim (λh=>h o) p));go_wp2_with fail
        go_returns
        rw [HE.out];exact ⟨_,rfl,C.mono H,hG.trans f⟩
    . have X:((m:Int)==0)=false:=iD.2 oo;have N:=zh (J.out.trans (by rw [if_neg D]));obtain ⟨q,hq⟩:∃q,min rc m=q:=⟨_,rfl⟩;have Y:min (rc:Int) (m:Int)=(q:Int):=oo;have a5:q<=m:=oo;have a6:q<=rc:=oo;have a7:m<=nn:=oo;have a8:0<m:=oo;rw [hq] at N;have Z:=a.alloc (.cells #[.int .i64 (rf:Int),.int .i64 (q:Int)] 136);have O:=hg.alloc (.cells #[.int .i64 (rf:Int),.int .i64 (q:Int)] 136);have P:nn - Ca (M.take (k+1))=m - q:=by rw [K.out];show nn - (Ca (M.take k)+rc)=_;omega
      have ad:=zh P;clear P D hm L K hq;go_wp2_with (at_builtin;(try rw [Y]);refine C2 rfl _ _ 33 rfl w3.heap.size 136 2 16 _ Tryz.underlying33 Cz rfl qd (wr.alloc (.cells #[.int .i64 (rf:Int),.int .i64 (q:Int)] 136)) _ ((BO (M.take k) nn).map BU) (BU (rf,q)) (by rfl) rfl rfl Z (by first | rfl | (simp;done)) rfl rfl (by rw [gO];omega) (by rw [gO];omega) O.size ?_;intro v' w5 ae al bd bk)
      go_roundg (M.length - (k+1))
      case measure=>rw [V.out];omega
      case rel=>exact ⟨k+1,oo,oo,by go_num,by rw [ad.out];go_num,by rw [N.out,gm];exact ae,al _ O (gM _)⟩
  . obtain rfl:k=M.length:=oo;rw [jU] at a I ⊢;have C:=a;have f:=hg;by_cases o:nn - Ca M=0
    . rw [o];by_cases p:most<((BO M nn).length:Int)
      . have HE:=zh (show Bb (AG l) (nn:Int) most=([],14) from by rw [j.out];exact if_pos (.inr p));go_wp2_with fail
        go_returns
        rw [HE.out];exact ⟨_,rfl,OwnL.nil _ _ _ _,hG.trans f⟩
      . have HE:=zh (show Bb (AG l) (nn:Int) most=(BO M nn,0) from by rw [j.out];exact if_neg (λh=>h.elim (λh=>h o) p));go_wp2_with fail
        go_returns
        rw [HE.out];exact ⟨_,rfl,C.mono H,hG.trans f⟩
    . have HE:=zh (show Bb (AG l) (nn:Int) most=([],14) from by rw [j.out];exact if_pos (.inl o));generalize nn - Ca M=m at*
      have a9:0<m:=oo;go_wp2_with fail
      go_returns
      rw [HE.out];exact ⟨_,rfl,OwnL.nil _ _ _ _,hG.trans f⟩
end

theorem RunsAt.wide {w:World} {B B':Nat} {A:Option Addr} {l:List (Int × Int)} (h:RunsAt w B A l) (hB:B<=B'):RunsAt w B' A l:=⟨h.1,h.2.mono hB⟩
def WA (S:Nat->Bool):Nat->Nat->Nat
 | _,0=>0
 | p,n+1=>if S p=true then WA S (p+1) n+1 else 0
theorem ZL (S:Nat->Bool):∀(n p k:Nat),k<=n->(∀j,j<k->S (p+j)=true)->(k=n\/S (p+k)=false)->WA S p n=k:=by
 intro n
 induction n with
 | zero=>
   intro p k hk _ _;have:k=0:=oo;subst this;rfl
 | succ n ih=>
   intro p k hk a b;rw [WA];cases k with
   | zero=>
     rcases b with h | h
     . omega
     . rw [jH] at h;rw [if_neg (by rw [h];simp)]
   | succ k=>
     rw [if_pos (by have:=a 0 oo;simpa using this)];rw [ih (p+1) k oo (λj hj=>by have:=a (j+1) oo;rwa [show p+(j+1)=p+1+j by omega] at this) (b.imp (λh=>oo) (λh=>by rwa [show p+(k+1)=p+1+k by omega] at h))]
def Eh (L:List (Nat × Nat)) (f:List (Int × Int)):List (Nat × Nat):=AH λi=>AG f i && !AG (AP L) i
def Eg (I:List (Nat × Nat)) (x:Nat × Nat) (k:Nat):List (Nat × Nat):=I++[(x.1,x.2+k)]
def Mc (I:List (Nat × Nat)) (x:Nat × Nat) (f:List (Int × Int)) (nn k:Nat):List (Nat × Nat) × Int:=
 Bb (AG (AP (Eh (Eg I x k) (AP (Eh (I++[x]) f))))) ((nn - k:Nat):Int) (16 - ((I.length:Int)+1))
def Oq (I:List (Nat × Nat)) (x:Nat × Nat) (f:List (Int × Int)) (nn k:Nat):List (Nat × Nat) × Int:=
 if nn - k=0 then (Eg I x k,0)
 else if 16 - ((I.length:Int)+1)<1 then ([],14)
 else if (Mc I x f nn k).2≠0 then ([],(Mc I x f nn k).2)
 else (Bk (AP (Eg I x k++(Mc I x f nn k).1)),0)
def fe (L:List (Nat × Nat)) (f:List (Int × Int)) (nn:Nat):Nat:=WA (AG (AP (Eh L f))) ((L.getLastD (0,0)).1+(L.getLastD (0,0)).2) nn
def Ds (e f:List (Int × Int)) (n:Int):List (Nat × Nat) × Int:=
 if n<1\/Bk e=[] then ([],1) else Oq (Bk e).dropLast ((Bk e).getLastD (0,0)) f n.toNat (fe (Bk e) f n.toNat)
theorem Vr (e f:List (Int × Int)) (nn:Nat) (I:List (Nat × Nat)) (x:Nat × Nat) (k:Nat) (h:Bk e=I++[x]) (hn:1<=nn) (hk:k<=nn) (a:∀j,j<k->AG (AP (Eh (I++[x]) f)) (x.1+x.2+j)=true) (b:k=nn\/AG (AP (Eh (I++[x]) f)) (x.1+x.2+k)=false):
 Ds e f (nn:Int)=Oq I x f nn k:=by
 unfold Ds fe;rw [h,if_neg (λhh=>hh.elim (λhh=>oo) (λhh=>by simp at hh)),dropLast_concat,show (I++[x]).getLastD (0,0)=x from qs,iM,ZL _ nn _ k hk a b]
theorem bP (k:List (Nat × Nat)):∀r∈k.map BU,r.length=2:=by
 intro r hr;obtain ⟨x,_,rfl⟩:=gV.1 hr;rfl
theorem ZR (k:List (Nat × Nat)):∀r∈k.map BU,r.all (·.oneCell')=true:=by
 intro r hr;obtain ⟨x,_,rfl⟩:=gV.1 hr;rfl
theorem Vb (S:Nat->Bool):∀r∈Bx (AH S),r.1+r.2<=128:=λr hr=>C0 S r ((Hi _ (Cv S) r).1 hr)
theorem Z7 (S:Nat->Bool):(Bx (AH S)).length<=128:=by rw [<-(E5 _ (Cv S) (DY S)).length_eq];exact EP _
theorem Nw (S:Nat->Bool) (n most:Int):∀r∈(Bb S n most).1,r.1+r.2<=128:=by
 unfold Bb;split
 . intro r hr;cases hr
 . rename_i h0;split
   . rename_i h1;intro r hr;rw [gQ.1 hr];rcases JY n (AH S) with h | ⟨hm,h⟩
     . rw [h] at h1;exact absurd rfl h1
     . have:=C0 S _ hm;show (Bv n (AH S)).1+n.toNat<=128;omega
   . split
     . intro r hr;cases hr
     . exact Yu 128 _ _ (Vb S)
theorem Xm (S:Nat->Bool) (n most:Int):(Bb S n most).1.length<=128:=by
 unfold Bb;split
 . exact ia _
 . split
   . show 1<=128;omega
   . split
     . exact ia _
     . exact gY (LT _ _) (Z7 S)
theorem T2 (I:List (Nat × Nat)) (x:Nat × Nat) (F:List (Int × Int)) (k:Nat) (hb:∀r∈I++[x],r.1+r.2<=128) (a:∀j,j<k->AG F (x.1+x.2+j)=true):∀r∈Eg I x k,r.1+r.2<=128:=by
 intro r hr;unfold Eg at hr;rcases iA.1 hr with hr | hr
 . exact hb r (ij _ hr)
 . rw [gQ.1 hr];have hx:=hb x (iX _ (gQ.2 rfl));show x.1+(x.2+k)<=128;cases k with
   | zero=>omega
   | succ k=>have:=JU _ _ (a k oo);omega
section
variable (A1 A2:Option Addr) (c1 c2:Nat) (l1 l2:List (Int × Int)) (w:World) (B:Nat) (hB:B<=w.heap.size) (hl1:l1.length<=1000) (hl2:l2.length<=1000000) (hr1:RunsAt w B A1 l1) (hr2:RunsAt w B A2 l2) (n:Int) (n0:-9223372036854775808<=n) (n1:n<=9223372036854775807)
include hB hl1 hl2 hr1 hr2 n0 n1
theorem UH:Calls Tryz.prog 157 #[.slice A1 l1.length c1,.slice A2 l2.length c2,.int .i64 n] w (aN w (Ds l1 l2 n)):=by
 have HJ:=zh (JN A1 c1 l1 w B hB oo hr1);have N:=DL l1;have G:=DJ l1;by_cases h1:n<1
 . have HE:=zh (show Ds l1 l2 n=([],1) from by unfold Ds;rw [if_pos (.inl h1)]);go_enter Tryz.func157,Tryz.ntmps157;go_wp2_with fail;refine HJ.mono ?_;rintro e w1 ⟨v,rfl,f,g1⟩;go_wp2_with fail
   go_returns
   rw [HE.out];exact ⟨_,rfl,OwnL.nil _ _ _ _,g1⟩
 obtain ⟨nn,rfl⟩:∃nn:Nat,n=(nn:Int):=⟨n.toNat,oo⟩;rcases Ex (Bk l1) with h0 | ⟨I,x,hL⟩
 . have HE:=zh (show Ds l1 l2 (nn:Int)=([],1) from by unfold Ds;rw [if_pos (.inr h0)]);go_enter Tryz.func157,Tryz.ntmps157;go_wp2_with fail;refine HJ.mono ?_;rintro e w1 ⟨v,rfl,f,g1⟩;rw [h0] at f;obtain ⟨A',c',hv,-⟩:=f.listAt;subst hv;go_wp2_with fail
   go_returns
   rw [HE.out];exact ⟨_,rfl,OwnL.nil _ _ _ _,g1⟩
 have O:=zh (λk h2 h3 h4=>Vr l1 l2 nn I x k hL oo h2 h3 h4);have P:=zh (λk h=>T2 I x (AP (Eh (I++[x]) l2)) k (by rw [<-hL];exact G) h);rw [hL] at N G HJ;have b3:=zh G;have c0:I.length+1<=1000:=by simp at N;omega
 have a2:=zh (λ(w1:World) (g1:Grew w w1) A c (h:RunsAt w1 w1.heap.size A (AP (I++[x])))=>Ly A2 A c2 c l2 (AP (I++[x])) w1 w1.heap.size (gM _) hl2 (by rw [Ag];simp;omega) (RunsAt.wide (hr2.keep hB g1) (gY hB g1.size)) h);clear hr1 hr2 N G hL;go_enter Tryz.func157,Tryz.ntmps157;go_wp2_with fail;refine HJ.mono ?_;rintro e w1 ⟨v,rfl,f,g1⟩;obtain ⟨A',c',bs,D,_,_,cv⟩:=FB f (λr hr=>gY (b3 r hr) oo);rcases f.form with ⟨_,cz⟩ | ⟨g,cap,hv,d2,d3,_,_⟩
 . exfalso;have:=iH length cz;simp at this
 rw [gO,iI,jN] at hv;rw [iI,jN,hv] at bs;injection bs with e1 e2 e3;subst e1;subst e3;subst hv;have Q:=zh (a2 w1 g1 _ cap D);rw [Ag,iI,jN] at Q;clear a2 HJ cv e2;have c7:((I.length:Int)+1==0)=false:=iD.2 oo;have c8:decide ((nn:Int)<1)=false:=iC oo;have c9:1<=nn:=oo;go_wp2_with fail;refine Q.mono ?_;rintro e w2 ⟨v2,rfl,M,g2⟩;rw [show (AH λi=>AG l2 i && !AG (AP (I++[x])) i)=Eh (I++[x]) l2 from rfl] at M;obtain ⟨F,hF⟩:∃F,Eh (I++[x]) l2=F:=⟨_,rfl⟩;have a3:∀r∈Eh (I++[x]) l2,r.1+r.2<=128:=C0 _;have b4:(Eh (I++[x]) l2).length<=128:=EP _;rw [hF] at M a3 b4;rw [hF] at P O;have HF:=zh hF;obtain ⟨AF,cF,cw,s,_,_,bt⟩:=FB M (λr hr=>gY (a3 r hr) oo);subst cw;have b5:=zh s;have b6:=zh (show ∀b off,AF=some ⟨b,off,none⟩->¬b=g from λb off e=>by have:=(bt b off e).1;omega);have b9:=f.grew g2;have hG:=g1.trans g2;have dd:g<w2.heap.size:=by have:=g2.size;omega
 obtain ⟨xf,xc⟩:=x;clear Q hF M s bt f D g1 g2;go_wp2_with fail
 go_loopg [2] nn (λgk nv wr=>∃k:Nat,k<=nn/\gk=nn - k/\nv=.int .i64 ((nn - k:Nat):Int)/\(∀j,j<k->AG (AP F) (xf+xc+j)=true)/\OwnL wr w.heap.size 136 2 (.slice (some ⟨g,0,none⟩) (I.length+1) cap) ((I++[(xf,xc+k)]).map BU)/\Turned (λi=>i=g) w2 wr)
 case atStart=>exact ⟨0,oo,oo,qs,λj hj=>oo,b9,iR _ _⟩
 case round=>
  obtain ⟨k,hk,bv,rfl,a0,E,ht⟩:=hrel;have ca:=zh bv;clear bv;have H:((I++[(xf,xc+k)]).map BU)[I.length]? =some (BU (xf,xc+k)):=qs;have y0:wr.cell? ⟨g,I.length*2,none⟩=some (.int .i64 (xf:Int)):=E.cell (i:=0) H rfl;have y1:wr.cell? ⟨g,I.length*2+1,none⟩=some (.int .i64 ((xc:Int)+(k:Int))):=by have:=E.cell (i:=1) H rfl;rw [this];rfl
  have J:=E.frozen (I.length*2+1);have df:xf+(xc+k)<=128:=P.out k a0 (xf,xc+k) (by simp [Eg]);have cb:=ht.size;have d:g<wr.heap.size:=oo;have s:RunsAt wr wr.heap.size AF (AP F):=RunsAt.wide (b5.turned (gM _) ht b6) cb;have a4:inT (AP F) ((xf:Int)+((xc:Int)+(k:Int)))=AG (AP F) (xf+xc+k):=by rw [show (xf:Int)+((xc:Int)+(k:Int))=((xf+xc+k:Nat):Int) by omega,VX]
  have hw:IntKind.i64.wrap ((xf:Int)+((xc:Int)+(k:Int)))=(xf:Int)+((xc:Int)+(k:Int)):=by rw [IntKind.wrap_i64];omega
  obtain ⟨m,hm⟩:∃m,nn - k=m:=⟨_,rfl⟩;rw [hm];have K:=zh a0;have R:=zh E;have HT:=zh ht;have S:=zh s;have ce:=zh H;have a5:=zh a4;clear a0 E ht s H a4;by_cases cq:m=0
  . have T:k=nn:=oo;subst cq;have HE:=zh (show Ds l1 l2 (nn:Int)=(Eg I (xf,xc) k,0) from by rw [O.out k hk K.out (.inl T)];unfold Oq;rw [if_pos hm]);have a6:Grew w wr:=hG.turn HT (λi hi=>oo);have t:=zh a6;clear hm T a6;go_wp2_with fail;refine AB [] (λw':World=>w'.cell? ⟨g,I.length*2,none⟩=some (.int .i64 (xf:Int))/\w'.cell? ⟨g,I.length*2+1,none⟩=some (.int .i64 ((xc:Int)+(k:Int)))) qk ?_;have hS:=(show (λw':World=>w'.cell? ⟨g,I.length*2,none⟩=some (.int .i64 (xf:Int))/\w'.cell? ⟨g,I.length*2+1,none⟩=some (.int .i64 ((xc:Int)+(k:Int)))) wr.drew from ⟨y0,y1⟩);refine tQ 0 33 ?_;refine tQ 1 34 ?_;refine tQ 2 35 ?_;refine tU 3 (some 36) ?_;refine tU 4 (some 37) ?_;refine tU 5 (some 38) ?_;refine tU 6 (some 39) ?_;refine tU 7 (some 40) ?_;refine tU 8 (some 41) ?_;refine tU 9 (some 42) ?_;refine tU 10 (some 43) ?_;refine tU 11 (some 44) ?_;refine tU 12 (some 45) ?_;refine tU 13 (some 46) ?_;refine tQ 14 47 ?_;refine AA qk ?_ _;go_wp2_with fail
    go_returns
    rw [HE.out];exact ⟨_,rfl,R.drew,t.drew⟩
  have dk:0<m:=oo;cases q:AG (AP F) (xf+xc+k) with
  | true=>
    go_wp2_with fail;refine AB [] (λw':World=>w'.cell? ⟨g,I.length*2,none⟩=some (.int .i64 (xf:Int))/\w'.cell? ⟨g,I.length*2+1,none⟩=some (.int .i64 ((xc:Int)+(k:Int)))) qk ?_;have hS:=(show (λw':World=>w'.cell? ⟨g,I.length*2,none⟩=some (.int .i64 (xf:Int))/\w'.cell? ⟨g,I.length*2+1,none⟩=some (.int .i64 ((xc:Int)+(k:Int)))) wr.drew from ⟨y0,y1⟩);refine tQ 0 33 ?_;refine tQ 1 34 ?_;refine tQ 2 35 ?_
    try rw [show decide ((m:Int)>0)=true from iB oo]
    refine tQ 3 36 ?_;refine tQ 4 37 ?_;refine tT 5 (some 38) hS ?_;refine tQ 6 39 ?_;refine tT 7 (some 40) hS ?_;refine tQ 8 41 ?_;refine tT 9 (some 42) hS ?_;refine tQ 10 43 ?_;refine tT 11 (some 44) hS ?_;refine tQ 12 45 ?_
    try rw [hw]
    refine tO 13 λK' hK=>?_;go_wp2_with fail;refine (KZ (w:=wr.drew) (l:=AP F) (Ag F).symm (by rw [Ag];omega) S _ oo oo true (by rw [a5.out,q])).mono ?_;rintro e wb ⟨rfl,gb⟩;go_wp2_with fail;have q0:=(gb.cellEq _ _ d).trans y0;have q1:=(gb.cellEq _ _ d).trans y1;have qf:=(gb.frozenEq _ _ d).trans J;have cf:g<wb.heap.size:=gW d gb.size;have p:Grew wr wb:=(gK wr).drew.trans gb;have u:=R.grew p;have U:=HT.andGrew p;refine hK.out _ _ (.inr (λ_=>⟨q0,q1⟩)) ?_;clear hK hS;refine tQ 14 47 ?_;refine AA qk ?_ _;clear y0 y1 J;have ch:=zh q;have V:=u.set_ (i:=1) (o:=I.length*2+1) ce oo rfl (.int .i64 ((xc+(k+1):Nat):Int));rw [PH,show (I++[(xf,xc+k)]).set I.length (xf,xc+(k+1))=I++[(xf,xc+(k+1))] from by rw [List.set_append_right _ _ (gM _)];simp] at V;have ci:=zh V;have cj:(xc:Int)+(k:Int)+1=((xc+(k+1):Nat):Int):=oo;clear V q;go_wp2_with fail
    go_roundg (nn - (k+1))
    case measure=>rw [ca.out];omega
    case rel=>exact ⟨k+1,oo,oo,by go_num,λj hj=>by (by_cases cr:j=k);(· subst cr;exact ch.out);(· exact K.out j oo),by have:=ci.out;(first | exact this | (rw [cj] at*;exact this)),by have:=U;exact gT⟩
  | false=>
    go_wp2_with fail;refine AB [] (λw':World=>w'.cell? ⟨g,I.length*2,none⟩=some (.int .i64 (xf:Int))/\w'.cell? ⟨g,I.length*2+1,none⟩=some (.int .i64 ((xc:Int)+(k:Int)))) qk ?_;have hS:=(show (λw':World=>w'.cell? ⟨g,I.length*2,none⟩=some (.int .i64 (xf:Int))/\w'.cell? ⟨g,I.length*2+1,none⟩=some (.int .i64 ((xc:Int)+(k:Int)))) wr.drew from ⟨y0,y1⟩);refine tQ 0 33 ?_;refine tQ 1 34 ?_;refine tQ 2 35 ?_
    try rw [show decide ((m:Int)>0)=true from iB oo]
    refine tQ 3 36 ?_;refine tQ 4 37 ?_;refine tT 5 (some 38) hS ?_;refine tQ 6 39 ?_;refine tT 7 (some 40) hS ?_;refine tQ 8 41 ?_;refine tT 9 (some 42) hS ?_;refine tQ 10 43 ?_;refine tT 11 (some 44) hS ?_;refine tQ 12 45 ?_
    try rw [hw]
    refine tO 13 λK' hK=>?_;go_wp2_with fail;refine (KZ (w:=wr.drew) (l:=AP F) (Ag F).symm (by rw [Ag];omega) S _ oo oo false (by rw [a5.out,q])).mono ?_;rintro e wb ⟨rfl,gb⟩;go_wp2_with fail;have q0:=(gb.cellEq _ _ d).trans y0;have q1:=(gb.cellEq _ _ d).trans y1;have qf:=(gb.frozenEq _ _ d).trans J;have cf:g<wb.heap.size:=gW d gb.size;have p:Grew wr wb:=(gK wr).drew.trans gb;have u:=R.grew p;have U:=HT.andGrew p;refine hK.out _ _ (.inr (λ_=>⟨q0,q1⟩)) ?_;clear hK hS;refine tQ 14 47 ?_;refine AA qk ?_ _;clear y0 y1 J;have T:k<nn:=oo;have a7:=zh (O k hk K (.inr q));have L:Grew w wb:=hG.turn U (λi hi=>oo);have ds:((m:Int)==0)=false:=iD.2 oo;clear q q0 q1 qf;by_cases bk:16 - ((I.length:Int)+1)<1
    . have HE:=zh (show Ds l1 l2 (nn:Int)=([],14) from by rw [a7.out];unfold Oq;rw [if_neg oo,if_pos bk]);have t:=zh L;clear L;go_wp2_with fail
      go_returns
      rw [HE.out];exact ⟨_,rfl,OwnL.nil _ _ _ _,t⟩
    have a8:=zh (show Ds l1 l2 (nn:Int)=if (Mc I (xf,xc) l2 nn k).2≠0 then ([],(Mc I (xf,xc) l2 nn k).2) else (Bk (AP (Eg I (xf,xc) k++(Mc I (xf,xc) l2 nn k).1)),0) from by rw [a7.out];unfold Oq;rw [if_neg oo,if_neg bk]);have a9:∀r∈I++[(xf,xc+k)],r.1+r.2<=128:=P.out k K;obtain ⟨A5,c5,bx,D,_,_,_⟩:=FB u (λr hr=>gY (a9 r hr) oo);rw [iI,jN] at bx;injection bx with e1 e2 e3;subst e1;subst e3;have y:(I++[(xf,xc+k)]).length=I.length+1:=qs;have hM:=Ly AF (some ⟨g,0,none⟩) cF cap (AP F) (AP (I++[(xf,xc+k)])) wb wb.heap.size (gM _) (by rw [Ag];omega) (by rw [Ag];omega) (RunsAt.wide (RunsAt.keep S (gM _) p) p.size) D;rw [Ag,Ag,y,show (AH λi=>AG (AP F) i && !AG (AP (I++[(xf,xc+k)])) i)=Eh (Eg I (xf,xc) k) (AP F) from rfl] at hM;have W:Mc I (xf,xc) l2 nn k=Bb (AG (AP (Eh (Eg I (xf,xc) k) (AP F)))) (m:Int) (16 - ((I.length:Int)+1)):=by unfold Mc;rw [HF.out,hm]
    have cl:∀r∈Eh (Eg I (xf,xc) k) (AP F),r.1+r.2<=128:=C0 _;have d0:(Eh (Eg I (xf,xc) k) (AP F)).length<=128:=EP _;generalize Eh (Eg I (xf,xc) k) (AP F)=F2 at*
    have X:=Nw (AG (AP F2)) (m:Int) (16 - ((I.length:Int)+1));have bb:=Xm (AG (AP F2)) (m:Int) (16 - ((I.length:Int)+1));rw [<-W] at X bb;have Y:=zh (λA c w (h:RunsAt w w.heap.size A (AP F2))=>PD A c (AP F2) w w.heap.size (gM _) (by rw [Ag];omega) h (m:Int) oo oo (16 - ((I.length:Int)+1)));rw [<-W] at Y;have HM:=zh hM;have bc:=zh X;clear hM W X e2 y D;go_wp2_with fail;refine HM.mono ?_;rintro e wc ⟨v3,rfl,bl,gc⟩;obtain ⟨A3,c3,cx,b0,_,_,_⟩:=FB bl (λr hr=>gY (cl r hr) oo);subst cx;have Z:=Y.out A3 c3 wc b0;rw [Ag] at Z;have bd:=u.grew gc;have bf:=L.trans gc;clear HM Y bl b0 gc L u;go_wp2_with fail;refine Z.mono ?_;rintro e wd ⟨v4,rfl,bn,gd⟩;have ad:=bd.grew gd;have z:=bf.trans gd;have cm:=z.size;obtain ⟨A4,c4,b1,_,_,a1⟩:=bn.listAt;rw [gO] at b1;subst b1;clear Z bd bf gd;generalize Mc I (xf,xc) l2 nn k=a at*
    obtain ⟨al,ae⟩:=a;simp only at bb bc a1;by_cases C:ae=0;rotate_left
    . have HE:=zh (show Ds l1 l2 (nn:Int)=([],ae) from by rw [a8.out];exact if_pos C);have d1:(ae != 0)=true:=iW.2 C;have t:=zh z;clear z C;go_wp2_with fail
      go_returns
      rw [HE.out];exact ⟨_,rfl,OwnL.nil _ _ _ _,t⟩
    . have HE:=zh (show Ds l1 l2 (nn:Int)=(Bk (AP (I++[(xf,xc+k)]++al)),0) from by rw [a8.out];exact if_neg (λh=>h C));subst C;have y:((I++[(xf,xc+k)]).map BU).length=I.length+1:=qs;go_wp2_with (at_builtin;refine Be (by rfl) _ _ 33 rfl w.heap.size 136 2 16 _ Tryz.underlying33 Cz rfl qd _ ((I++[(xf,xc+k)]).map BU) (al.map BU) (by rfl) ad _ al.length _ (by rfl) (by rw [gO]) (bP al) a1 (ZR al) (by rw [y];omega) (by rw [y];omega) cm ?_;intro v5 w5 av br cs);have g5:Grew w w5:=Grew.own z br ad.row_ge (gM _);rw [<-gm] at av;have co:∀r∈I++[(xf,xc+k)]++al,r.1+r.2<=128:=λr hr=>(iA.1 hr).elim (a9 r) (bc r);obtain ⟨A6,c6,cy,b2,_,_,_⟩:=FB av (λr hr=>gY (co r hr) oo);subst cy;have an:=JN A6 c6 (AP (I++[(xf,xc+k)]++al)) w5 w5.heap.size (gM _) (by rw [Ag,iI,iI,jN];omega) b2;rw [Ag] at an;have cp:=zh an;clear an br cs av ad z a1 bn b2;go_wp2_with fail;refine cp.mono ?_;rintro e w6 ⟨v6,rfl,cu,g6⟩;go_wp2_with fail
      go_returns
      rw [HE.out];exact ⟨_,rfl,cu.mono g5.size,g5.trans g6⟩
end

theorem Y0 {w:World} {g:Nat} {cs:Array Value} {l:List (Int × Int)} (hb:Blk w g 136 cs) (hc:cs.toList=(l.map EC).flatten) (a:∀r∈l,FX r):RunsAt w w.heap.size (some ⟨g,0,none⟩) l:=by
 refine ⟨a,λ_=>⟨g,0,rfl,hb.lt,λj c hj i v hi=>?_⟩⟩;have h:=J2 (sz:=2) (rows:=l.map EC) (λr hr=>by obtain ⟨x,_,rfl⟩:=gV.1 hr;rfl) j i c v hj hi;rw [<-hc] at h;rw [hb.cell,ji,<-jc];exact h
section
variable {A:Option Addr} {c m:Nat} {l:List (Int × Int)} {w:World}
theorem Zz (hn:m=l.length) (hl:l.length<=1000000) (hr:RunsAt w w.heap.size A l) (n:Int) (n0:-9223372036854775808<=n) (n1:n<=9223372036854775807) (a b:Int) (ok:Bool) (h:Id (AG l) n=((a,b),ok)):
 Calls Tryz.prog 148 #[.slice A m c,.int .i64 n] w λe w'=>e=.returned (.tuple #[.agg #[.int .i64 a,.int .i64 b],.bool ok])/\Grew w w':=by
 subst hn;have:=SQ A c l w w.heap.size (gM _) hl hr n n0 n1;rw [h] at this;exact this
end
theorem cT (I:List (Nat × Nat)) (x:Nat × Nat) (f:List (Int × Int)) (nn k:Nat) (hb:∀r∈Eg I x k,r.1+r.2<=128):∀r∈(Oq I x f nn k).1,r.1+r.2<=128:=by
 unfold Oq;split
 . exact hb
 . split
   . intro r hr;cases hr
   . split
     . intro r hr;cases hr
     . exact DJ _
theorem J5 (e f:List (Int × Int)) (n:Int):(Ds e f n=([],1))\/∃I x k,Bk e=I++[x]/\1<=n/\k<=n.toNat/\(∀j,j<k->AG (AP (Eh (I++[x]) f)) (x.1+x.2+j)=true)/\(k=n.toNat\/AG (AP (Eh (I++[x]) f)) (x.1+x.2+k)=false)/\Ds e f n=Oq I x f n.toNat k:=by
 by_cases h1:n<1
 . exact .inl (by unfold Ds;rw [if_pos (.inl h1)])
 . rcases Ex (Bk e) with h0 | ⟨I,x,hL⟩
   . exact .inl (by unfold Ds;rw [if_pos (.inr h0)])
   . obtain ⟨nn,rfl⟩:∃nn:Nat,n=(nn:Int):=⟨n.toNat,oo⟩
     obtain ⟨k,hk,a,b⟩:∃k,k<=nn/\(∀j,j<k->AG (AP (Eh (I++[x]) f)) (x.1+x.2+j)=true)/\(k=nn\/AG (AP (Eh (I++[x]) f)) (x.1+x.2+k)=false):=by
      generalize AG (AP (Eh (I++[x]) f))=S;clear h1
      induction nn with
      | zero=>exact ⟨0,gM _,λj hj=>oo,.inl rfl⟩
      | succ nn ih=>
        obtain ⟨k,hk,a,b⟩:=ih;rcases b with rfl | b
        . cases hs:S (x.1+x.2+k) with
          | false=>exact ⟨k,oo,a,.inr hs⟩
          | true=>
            refine ⟨k+1,gM _,λj hj=>?_,.inl rfl⟩;by_cases c:j=k
            . subst c;exact hs
            . exact a j oo
        . exact ⟨k,oo,a,.inr b⟩
     exact .inr ⟨I,x,k,hL,oo,hk,a,b,Vr e f nn I x k hL oo hk a b⟩
theorem Vp (e f:List (Int × Int)) (n:Int):∀r∈(Ds e f n).1,r.1+r.2<=128:=by
 rcases J5 e f n with h | ⟨I,x,k,hL,_,_,a,_,h⟩
 . rw [h];intro r hr;cases hr
 . rw [h];exact cT I x f _ k (T2 I x _ k (by rw [<-hL];exact DJ e) a)

theorem Blk.hold {w w':World} {g:Nat} {t:TypeId} {cs:Array Value} (h:Blk w g t cs) (hg:Grew w w'):Blk w' g t cs:=h.grew hg

theorem QO (l:List (Nat × Nat)) (k:Nat):Ca (l.take k)<=Ca l:=by
 have:=JR (l.take k) (l.drop k);rw [jo] at this;omega

theorem XS:∀(l:List (Nat × Nat)) (n:Nat),n<=Ca l->Ca (BO l n)=n:=by
 intro l
 induction l with
 | nil=>intro n h;have h0:n=0:=by simpa [Ca] using h
        subst h0;rfl
 | cons r l ih=>
   intro n h;have e:Ca (r::l)=r.2+Ca l:=by simp [Ca]
   rw [BO];split
   . rename_i h0;subst h0;rfl
   . have e2:Ca ((r.1,min r.2 n)::BO l (n - min r.2 n))=min r.2 n+Ca (BO l (n - min r.2 n)):=by simp [Ca]
     rw [e2,ih _ oo];omega
theorem Xf:∀(l:List (Nat × Nat)) (n:Nat),(∀r∈l,1<=r.2)->∀r∈BO l n,1<=r.2:=by
 intro l
 induction l with
 | nil=>intro n _ r hr;cases hr
 | cons x l ih=>
   intro n h r hr;rw [BO] at hr;split at hr
   . cases hr
   . rcases jB.1 hr with rfl | hr
     . have:=h x (iO ..);show 1<=min x.2 n;omega
     . exact ih _ (λy hy=>h y (iJ _ hy)) r hr
theorem Sj (a b m:Nat) (h:m<=b):(Ch (a,m)).Sublist (Ch (a,b)):=by
 have:Ch (a,m)=(Ch (a,b)).take m:=by rw [Lb,Nat.min_eq_left h]
 rw [this];exact take_sublist _ _
theorem Fy (r:Nat × Nat) (l:List (Nat × Nat)):CJ (r::l)=Ch r++CJ l:=rfl
theorem Wn:∀(l:List (Nat × Nat)) (n:Nat),(CJ (BO l n)).Sublist (CJ l):=by
 intro l
 induction l with
 | nil=>intro n;exact Sublist.refl _
 | cons r l ih=>
   intro n;rw [BO];split
   . exact nil_sublist _
   . rw [Fy,Fy];exact (Sj r.1 r.2 _ (Nat.min_le_left _ _)).append (ih _)
theorem Jb (S:Nat->Bool):CJ (AH S)=(List.range 128).filter S:=by rw [<-Bu _ (C0 S),Ia]
theorem Wf {a b:List (Nat × Nat)} (h:a.Perm b):(CJ a).Perm (CJ b):=by unfold CJ;exact h.flatMap_right _
theorem OJ (l:List (Nat × Nat)) (h:∀r∈l,r.1+r.2<=128):Ao (AP l)=Ca l:=by
 rw [<-FW,Bu l h];clear h
 induction l with
 | nil=>rfl
 | cons r l ih=>rw [Fy,iI,ih,FT];simp [Ca]
theorem R0 {S:Nat->Bool} (h:∀i,i<128->S i=false):AH S=[]:=by
 have e:CJ (AH S)=[]:=by
  rw [Jb,filter_eq_nil_iff];intro i hi;rw [h i (iP.1 hi)];simp
 cases hN:AH S with
 | nil=>rfl
 | cons r l=>
   rw [hN,Fy] at e;have h1:=(Cv S r (by rw [hN];exact iO ..)).1;have h2:=iH length e;rw [iI,FT] at h2;simp at h2;omega
theorem V0 (S:Nat->Bool) (x:List (Nat × Nat)) (hb:∀r∈x,r.1+r.2<=128) (hs:(CJ x).Sublist (CJ (Bx (AH S)))):
 (BL (AP x)).Nodup/\∀i,AG (AP x) i=true->S i=true:=by
 have hp:=Wf (E5 _ (Cv S) (DY S));rw [Bu x hb];have a:(CJ (AH S)).Nodup:=by rw [Jb];exact nodup_range.filter _
 refine ⟨((hp.nodup_iff).1 a).sublist hs,λi hi=>?_⟩;have h1:i∈CJ x:=by rw [<-Bu x hb];exact (CT _ i).2 hi
 have h2:=hp.symm.subset (hs.subset h1);rw [Jb] at h2;exact (ip.1 h2).2
theorem RU (l:List (Int × Int)) (n most:Int) (h1:1<=n) (h2:1<=most):
 (∃x,Bb (AG l) n most=(x,0)/\((x.length:Nat):Int)<=most/\((Ao (AP x):Nat):Int)=n/\(BL (AP x)).Nodup/\(∀i,AG (AP x) i=true->AG l i=true)/\∀r∈x,r.1+r.2<=128)\/
 (Bb (AG l) n most=([],14)/\((Ca ((Bx (AH (AG l))).take most.toNat):Nat):Int)<n):=by
 have a:=Nw (AG l) n most;have c:=Vb (AG l);unfold Bb at a ⊢;rw [if_neg (show ¬(n<1\/most<1) by omega)] at a ⊢;split
 . rename_i hb;rw [if_pos hb] at a;left;rcases JY n (AH (AG l)) with h | ⟨hm,h⟩
   . rw [h] at hb;exact absurd rfl hb
   . have d:=C0 _ _ hm;have hx:∀r∈[((Bv n (AH (AG l))).1,n.toNat)],r.1+r.2<=128:=a;obtain ⟨i1,i2⟩:=List.append_of_mem ((Hi _ (Cv (AG l)) _).2 hm)
     have b:(CJ [((Bv n (AH (AG l))).1,n.toNat)]).Sublist (CJ (Bx (AH (AG l)))):=by
      obtain ⟨i2,e⟩:=i2;rw [e,EG,Ip,Fy];exact ((show (Ch ((Bv n (AH (AG l))).1,n.toNat)).Sublist (Ch (Bv n (AH (AG l)))) from Sj (Bv n (AH (AG l))).1 (Bv n (AH (AG l))).2 n.toNat oo).trans (sublist_append_left _ _)).trans (sublist_append_right _ _)
     obtain ⟨p1,p2⟩:=V0 (AG l) _ hx b;refine ⟨_,rfl,by simpa using h2,?_,p1,p2,hx⟩;rw [OJ _ hx,Rf];omega
 . split
   . rename_i hc;right;refine ⟨rfl,?_⟩;rcases hc with hc | hc
     . have:=QO (Bx (AH (AG l))) most.toNat;omega
     . by_cases h0:n.toNat - Ca ((Bx (AH (AG l))).take most.toNat)=0
       . have e:=M7 ((Bx (AH (AG l))).drop most.toNat) _ _ h0;rw [jo] at e;rw [e] at hc;have h3:=LT ((Bx (AH (AG l))).take most.toNat) n.toNat;have h4:=length_take_le most.toNat (Bx (AH (AG l)));omega
       . omega
   . rename_i hb hc;rw [if_neg hb,if_neg hc] at a;left;have f:n.toNat - Ca (Bx (AH (AG l)))=0:=io.1 (λh=>hc (.inl h));have g:¬most<((BO (Bx (AH (AG l))) n.toNat).length:Int):=λh=>hc (.inr h);obtain ⟨p1,p2⟩:=V0 (AG l) _ a (Wn _ _);refine ⟨_,rfl,oo,?_,p1,p2,a⟩;have h6:=XS (Bx (AH (AG l))) n.toNat oo;have h7:=OJ _ a;rw [h7];show ((Ca (BO _ _):Nat):Int)=n;rw [h6];omega

def Uj (l:List (Int × Int)) (keep:Int):List (Int × Int):=if keep<1\/(Ao l:Int)<keep then [] else AP (Bk (AP (D9 l keep.toNat)))
def Tw (l:List (Int × Int)) (keep:Int):Int:=if keep<1\/(Ao l:Int)<keep then 2 else 0
def Ki (e f:List (Int × Int)):(Int × Int) × Bool:=
 if (Bk e).length<2 then ((0,0),false) else Id (AG (AP (AH λi=>AG f i && !AG e i))) (Ao e:Int)
theorem N4 (w:World):RunsAt w w.heap.size none []:=⟨λr hr=>(not_mem_nil hr).elim,λh=>absurd h qd⟩
section
variable {A1 A2:Option Addr} {c1 c2 m1 m2:Nat} {l1 l2:List (Int × Int)} {w:World}
theorem KD (m:m1=l1.length) (n:m2=l2.length) (r:l1.length<=1000) (s:l2.length<=1000) (d:RunsAt w w.heap.size A1 l1) (f:RunsAt w w.heap.size A2 l2) (a b:Int) (ok:Bool) (h:Ki l1 l2=((a,b),ok)):
 Calls Tryz.prog 75 #[.slice A1 m1 c1,.slice A2 m2 c2] w λe w'=>e=.returned (.tuple #[.agg #[.int .i64 a,.int .i64 b],.bool ok])/\Grew w w':=by
 subst m;subst n;have t:=Hj l1;obtain ⟨kj,j⟩:∃k,AP (Bk l1)=k:=⟨_,rfl⟩;obtain ⟨km,g⟩:∃k,AP (AH λi=>AG l2 i && !AG l1 i)=k:=⟨_,rfl⟩;have o:(Bk l1).length=kj.length:=by rw [<-j,Ag]
 have u:=DL l1;have v:km.length<=128:=by rw [<-g,Ag];exact EP _
 unfold Ki at h;rw [o,g] at h;have l:=zh j;have p:=zh g;have c:=gZ w 136 #[.int .i64 0,.int .i64 0] rfl;have hG:=(gK w).alloc (.cells #[.int .i64 0,.int .i64 0] 136);replace d:=d.hold hG;replace f:=f.hold hG;by_cases h2:kj.length<2
 . rw [if_pos h2] at h;injection h with h h3;injection h with h4 h5;subst h3;subst h4;subst h5;clear j g;go_enter Tryz.func75,Tryz.ntmps75;go_wp2_with fail;refine (LH _ _ _ _ _ rfl oo d kj l).mono ?_;rintro e ws ⟨Aj,cj,rfl,rj,gs⟩;replace c:=c.hold gs;replace hG:=hG.trans gs;clear gs;have z0:=c.cell 0;have z1:=c.cell 1;have f0:=c.frozen 0;have f1:=c.frozen 1;have q:=c.lt;go_wp2_with fail;refine gw (by first | (simp [*,results,Tryz.results75,go_sem];rfl) | simp [*,results,Tryz.results75,go_sem]) rfl ?_;exact ⟨rfl,gG⟩
 . rw [if_neg h2] at h;have H:=zh h;clear h j g;go_enter Tryz.func75,Tryz.ntmps75;go_wp2_with fail;refine (LH _ _ _ _ _ rfl oo d kj l).mono ?_;rintro e ws ⟨Aj,cj,rfl,rj,gs⟩;replace c:=c.hold gs;replace d:=d.hold gs;replace f:=f.hold gs;replace hG:=hG.trans gs;clear gs;go_wp2_with fail;refine (Lo rfl rfl oo oo f d km p).mono ?_;rintro e ws ⟨Am,cm,rfl,rm,gs⟩;replace c:=c.hold gs;replace d:=d.hold gs;replace hG:=hG.trans gs;clear gs;go_wp2_with fail;refine (G6 rfl oo d (Ao l1) rfl).mono ?_;rintro e ws ⟨rfl,gs⟩;replace c:=c.hold gs;replace rm:=rm.hold gs;replace hG:=hG.trans gs;clear gs;go_wp2_with fail;refine (Zz rfl oo rm (Ao l1:Int) oo oo a b ok H.out).mono ?_;rintro e ws ⟨rfl,gs⟩;replace c:=c.hold gs;replace hG:=hG.trans gs;clear gs;have z0:=c.cell 0;have z1:=c.cell 1;have f0:=c.frozen 0;have f1:=c.frozen 1;have q:=c.lt;go_wp2_with fail;refine gw (by first | (simp [*,results,Tryz.results75,go_sem];rfl) | simp [*,results,Tryz.results75,go_sem]) rfl ?_;exact ⟨rfl,gG⟩
end

def M8 (first last:Int) (i:Nat):Bool:=decide (first<=(i:Int)/\(i:Int)<last)
def J0 (first last:Int) (l:List (Int × Int)):List (Int × Int):=AP (AH λi=>M8 first last i && !AG l i)
theorem eD (a c:Nat) (h:a+c<=128) (hc:0<c) (i:Nat):AG [((a:Int),(c:Int))] i=decide (a<=i/\i<a+c):=by
 show (inS (AV ((a:Int),(c:Int))) i || false)=_;rw [PJ a c h hc,Bool.or_false];rfl
section
variable {A:Option Addr} {c m:Nat} {l:List (Int × Int)} {w:World}
theorem ZH (hn:m=l.length) (hl:l.length<=1000) (hr:RunsAt w w.heap.size A l) (first f:Int) (f0:-9223372036854775808<=first) (f1:first<=9223372036854775807) (t0:-9223372036854775808<=f) (t1:f<=9223372036854775807) (k:List (Int × Int)) (hk:J0 first f l=k):
 Calls Tryz.prog 128 #[.int .i64 first,.int .i64 f,.slice A m c] w λe w'=>∃A c,e=.returned (.slice A k.length c)/\RunsAt w' w'.heap.size A k/\Grew w w':=by
 subst hn;have hG:=gK w;obtain ⟨a,ha⟩:∃a:Nat,max (0:Int) first=(a:Int):=⟨first.toNat,oo⟩;obtain ⟨b,hb⟩:∃b:Int,min (128:Int) f=b:=⟨_,rfl⟩;by_cases h1:b<=(a:Int)
 . have h:k=[]:=by
    rw [<-hk];unfold J0
    rw [R0 (λi hi=>by
     show (M8 first f i && !AG l i)=false
     unfold M8
     rw [iC oo,Bool.false_and])]
    rfl
   subst h;clear hk;go_enter Tryz.func128,Tryz.ntmps128;go_wp2_with fail;go_ret;exact ⟨none,0,rfl,N4 _,hG⟩
 . obtain ⟨d,hd⟩:∃d:Nat,b - (a:Int)=(d:Int):=⟨(b - a).toNat,oo⟩;have j:0<d:=oo;have n:a+d<=128:=oo
   have HK:=zh (show AP (AH λi=>AG [((a:Int),(d:Int))] i && !AG l i)=k from by
    rw [<-hk]
    unfold J0
    congr 1
    refine MC (λi hi=>?_)
    show (AG [((a:Int),(d:Int))] i && !AG l i)=(M8 first f i && !AG l i)
    rw [eD a d n j]
    unfold M8
    congr 1
    rw [decide_eq_decide]
    omega)
   have r8:RunsAt (w.alloc (.cells #[.int .i64 (a:Int),.int .i64 (d:Int)] 136)) (w.alloc (.cells #[.int .i64 (a:Int),.int .i64 (d:Int)] 136)).heap.size (some ⟨w.heap.size,0,none⟩) [((a:Int),(d:Int))]:=Y0 (gZ w _ _ rfl) rfl (by intro r hr;rw [gQ.1 hr];unfold FX;simp only;omega);have g:=(gK w).alloc (.cells #[.int .i64 (a:Int),.int .i64 (d:Int)] 136);replace hr:=hr.hold g;have hG:=g;have hw:=(show IntKind.i64.wrap (b - (a:Int))=(d:Int) from by rw [IntKind.wrap_i64];omega);clear g hk;go_enter Tryz.func128,Tryz.ntmps128;go_wp2_with fail;refine (Lo rfl rfl qs oo r8 hr k HK).mono ?_;rintro e ws ⟨A3,c3,rfl,r3,gs⟩;go_wp2_with fail;go_ret;exact ⟨_,_,rfl,r3,hG.trans gs⟩
end

theorem eC (S:Nat->Bool) (n:Int) (a b:Int) (h:Id S n=((a,b),true)):
 b=n/\1<=n/\∃f d:Nat,a=(f:Int)/\n=(d:Int)/\f+d<=128/\∀i,f<=i->i<f+d->S i=true:=by
 unfold Id at h;split at h
 . injection h with _ h;cases h
 . rename_i hc;injection h with h _;injection h with h1 h2;have hn:1<=n:=oo;have hb:(Bv n (AH S)).2≠0:=λe=>hc (.inr e);rcases JY n (AH S) with h0 | ⟨hm,g⟩
   . rw [h0] at hb;exact absurd rfl hb
   . have c:=C0 S _ hm;refine ⟨h2.symm,hn,(Bv n (AH S)).1,n.toNat,h1.symm,oo,oo,λi hi1 hi2=>?_⟩
     have hi:i∈CJ (AH S):=by
      unfold CJ;exact List.mem_flatMap.2 ⟨_,hm,(G7 _ i).2 ⟨hi1,oo⟩⟩
     rw [Jb] at hi;exact (ip.1 hi).2

theorem Uq (e f:List (Int × Int)) (a b:Int) (h:Ki e f=((a,b),true)):
 2<=(Bk e).length/\b=(Ao e:Int)/\∃x d:Nat,a=(x:Int)/\b=(d:Int)/\0<d/\x+d<=128/\∀i,x<=i->i<x+d->AG f i=true/\AG e i=false:=by
 unfold Ki at h;split at h
 . injection h with _ h;cases h
 . rename_i hj;obtain ⟨h1,h2,x,d,h3,h4,h5,h6⟩:=eC _ _ _ _ h;refine ⟨oo,h1,x,d,h3,oo,oo,h5,λi hi1 hi2=>?_⟩;have:=h6 i hi1 hi2;rw [GI _ i oo] at this;rw [iU,jq] at this;exact this

theorem U5 (a b k:Nat):Ch (a,b+k)=Ch (a,b)++Ch (a+b,k):=by
 have h1:=Lb a (b+k) b;have h2:=X5 a (b+k) b;have h3:=jo b (Ch (a,b+k));rw [h1,h2,Nat.min_eq_left oo,show b+k - b=k by omega] at h3;exact h3.symm
theorem KV (r:Nat × Nat):(Ch r).Nodup:=by
 unfold Ch;exact Pairwise.map _ (λa b h=>oo) nodup_range
theorem K6 (I:List (Nat × Nat)) (x:Nat × Nat) (k:Nat):CJ (Eg I x k)=CJ (I++[x])++Ch (x.1+x.2,k):=by
 unfold Eg;rw [EG,EG,Ip,Ip,U5,iZ]
theorem fR (l:List (Nat × Nat)) (h:∀r∈l,r.1+r.2<=128) (t:Nat):AG (AP l) t=true↔t∈CJ l:=by
 rw [<-CT,Bu l h]
theorem el (e f:List (Int × Int)) (n:Int) (h:(Ds e f n).2=0):
 ∃M:List Nat,BL (AP (Ds e f n).1)=BL e++M/\((M.length:Nat):Int)=n/\1<=n/\n<=128/\M.Nodup/\(∀t∈M,AG f t=true/\AG e t=false)/\1<=Ao e/\((Ds e f n).1.length<=(Bk e).length\/(Ds e f n).1.length<=16)/\(Ds e f n).1.length<=1000+e.length:=by
 rcases J5 e f n with h0 | ⟨I,x,k,hL,v,hk,w,H,h0⟩
 . rw [h0] at h;exact absurd h qd
 . have hJ:CJ (I++[x])=BL e:=by rw [<-hL,<-KU e,Bu _ (DJ e)]
   have l:∀r∈I++[x],r.1+r.2<=128:=by rw [<-hL];exact DJ e
   have g:=T2 I x _ k l w
   have z:∀t,AG (AP (I++[x])) t=AG e t:=λt=>by
    rw [Bool.eq_iff_iff,fR _ l,hJ,CT]
   have hF:∀t,AG (AP (Eh (I++[x]) f)) t=true->AG f t=true/\AG e t=false:=λt ht=>by
    have j:=JU _ _ ht;unfold Eh at ht;rw [GI _ t j,z,iU,jq] at ht;exact ht
   have hN:∀t∈Ch (x.1+x.2,k),AG f t=true/\AG e t=false:=λt ht=>by
    obtain ⟨h1,h2⟩:=(G7 _ t).1 ht;simp only at h1 h2;have:=w (t - (x.1+x.2)) oo;rw [show x.1+x.2+(t - (x.1+x.2))=t by omega] at this;exact hF t this
   have m:1<=Ao e:=by
    have o:0<(BL e).length:=by
     rw [Fr] at hL;cases hs:BL e with
     | nil=>rw [hs] at hL;simp [Ej] at hL
     | cons a b=>simp
    rw [FW] at o;exact o
   have C:=DL e;have hl:(Bk e).length=I.length+1:=by rw [hL,iI,jN]
   have p:∀M:List Nat,M.Nodup->(∀t∈M,AG f t=true/\AG e t=false)->M.length<=128:=λM h1 h2=>by
    have h3:=(MO M 128 (λt ht=>JU _ _ (h2 t ht).1)).2 h1;have:=jY (λi=>decide (i∈M)) (List.range 128);rw [jK,h3] at this;exact this
   rw [h0] at h ⊢;unfold Oq at h ⊢;split
   . rename_i hc;have D:k=n.toNat:=oo;have c:=KV (x.1+x.2,k);have hM:=p _ c hN;rw [FT] at hM;refine ⟨Ch (x.1+x.2,k),?_,by rw [FT];show ((k:Nat):Int)=n;omega,v,by simp only at hM;omega,c,hN,m,?_,?_⟩
     . show BL (AP (Eg I x k))=_;rw [Bu _ g,K6,hJ]
     . left;unfold Eg;rw [iI,jN,hl];exact gM _
     . unfold Eg;rw [iI,jN];omega
   . rename_i hc;rw [if_neg hc] at h;split
     . rename_i hd;rw [if_pos hd] at h;exact absurd h qd
     . rename_i hd;rw [if_neg hd] at h;split
       . rename_i hz;rw [if_pos hz] at h;exact absurd h hz
       . rename_i hz
         obtain ⟨y,hy,F,G,c,B,d⟩:∃y,Mc I x f n.toNat k=(y,0)/\((y.length:Nat):Int)<=16 - ((I.length:Int)+1)/\((Ao (AP y):Nat):Int)=((n.toNat - k:Nat):Int)/\(BL (AP y)).Nodup/\(∀i,AG (AP y) i=true->AG (AP (Eh (Eg I x k) (AP (Eh (I++[x]) f)))) i=true)/\∀r∈y,r.1+r.2<=128:=by
          rcases RU (AP (Eh (Eg I x k) (AP (Eh (I++[x]) f)))) ((n.toNat - k:Nat):Int) (16 - ((I.length:Int)+1)) oo oo with hy | ⟨hy,_⟩
          . exact hy
          . exfalso;apply hz;intro h9;unfold Mc at h9;rw [hy] at h9;exact absurd h9 qd
         have q:∀t,t∈CJ y->AG (AP (Eh (I++[x]) f)) t=true/\AG (AP (Eg I x k)) t=false:=λt ht=>by
          have h1:=B t ((fR y d t).2 ht);have j:=JU _ _ h1;unfold Eh at h1;rw [GI _ t j,iU,jq] at h1;exact h1
         rw [hy]
         have s:∀t∈Ch (x.1+x.2,k)++CJ y,AG f t=true/\AG e t=false:=λt ht=>by
          rcases iA.1 ht with ht | ht
          . exact hN t ht
          . exact hF t (q t ht).1
         have u:(Ch (x.1+x.2,k)++CJ y).Nodup:=by
          rw [jA];refine ⟨KV _,by rw [<-Bu y d];exact c,λa ha b hb hab=>?_⟩;subst hab;have h2:=(q a hb).2
          have h3:AG (AP (Eg I x k)) a=true:=by
           rw [fR _ g,K6];exact iX _ ha
          rw [h2] at h3;cases h3
         have A:(Ch (x.1+x.2,k)++CJ y).length=n.toNat:=by
          rw [iI,FT,<-Bu y d,FW];show k+_=_;omega
         have E:=p _ u s;refine ⟨Ch (x.1+x.2,k)++CJ y,?_,by rw [A];omega,v,oo,u,s,m,?_,?_⟩
         . show BL (AP (Bk (AP (Eg I x k++y))))=_;rw [KU,TN,CU,Bu _ g,Bu y d,K6,hJ,iZ]
         . right;refine gY (DL _) ?_;rw [Ag,iI];unfold Eg;rw [iI,jN];show _+y.length<=_;omega
         . refine gY (DL _) ?_;rw [Ag,iI];unfold Eg;rw [iI,jN];show _+y.length<=_;omega

end
end Go.Proofs.YtfklieeipokllaaGreat
