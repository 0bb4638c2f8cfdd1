/- Parts of the proof (packed), 8. -/
import Derived.Shelf.SlSortCmp.WholeK
import Derived.Shelf.SlSortCmp.NoneTotal
import Derived.Test.YtmcgbdemcknkaaaGreatDoorCwC
namespace Go.Proofs.YtmcgbdemcknkaaaGreatDoor
set_option linter.all false
set_option maxRecDepth 100000
set_option maxHeartbeats 16000000
open List
section
open Go.RowKit
def E9 (n:Int) (b r:Nat × Nat):Nat × Nat:=if n<=(r.2:Int)/\(b.2=0\/r.2<b.2) then r else b
def Bw (n:Int) (l:List (Nat × Nat)):Nat × Nat:=l.foldl (E9 n) (0,0)
theorem U6 (n:Int) (l:List (Nat × Nat)) (k:Nat) (h:k<l.length):Bw n (l.take (k+1))=E9 n (Bw n (l.take k)) l[k]:=by
 unfold Bw;rw [ic h,jc];rfl
theorem ak {n:Int} (P:Nat × Nat->Prop):∀(l:List (Nat × Nat)) (b:Nat × Nat),P b->(∀r∈l,n<=(r.2:Int)->P r)->P (l.foldl (E9 n) b):=by
 intro l
 induction l with
 | nil=>intro b hb _;exact hb
 | cons r l ih=>
   intro b hb h;refine ih _ ?_ (λx hx=>h x (iz _ hx));unfold E9;split
   . rename_i hc;exact h r (jA ..) hc.1
   . exact hb
theorem Ot {n:Int} (P:Nat × Nat->Prop) (l:List (Nat × Nat)) (h0:P (0,0)) (h:∀r∈l,n<=(r.2:Int)->P r):P (Bw n l):=ak P l _ h0 h
theorem Rp (n:Int) (l:List (Nat × Nat)) (m:Nat) (h:∀r∈l,r.1+r.2<=m):(Bw n l).1+(Bw n l).2<=m:=
 Ot (λb=>b.1+b.2<=m) l (jL _) (λr hr _=>h r hr)
theorem Kz (n:Int) (l:List (Nat × Nat)):Bw n l=(0,0)\/Bw n l∈l/\n<=((Bw n l).2:Int):=
 Ot (λb=>b=(0,0)\/b∈l/\n<=(b.2:Int)) l (.inl rfl) (λr hr h=>.inr ⟨hr,h⟩)
def Ln (S:Nat->Bool) (n:Int):(Int × Int) × Bool:=
 if n<1\/(Bw n (AK S)).2=0 then ((0,0),false) else ((((Bw n (AK S)).1:Int),n),true)
def CM (l:List (Nat × Nat)):Nat:=(l.map (·.2)).sum
theorem IX (a b:List (Nat × Nat)):CM (a++b)=CM a+CM b:=by simp [CM]
theorem TB (x:Nat × Nat):CM [x]=x.2:=by simp [CM]
theorem Wq (l:List (Nat × Nat)) (k:Nat) (h:k<l.length):CM (l.take (k+1))=CM (l.take k)+l[k].2:=by
 rw [ic h,IX,TB]
def BA:List (Nat × Nat)->Nat->List (Nat × Nat)
 | [],_=>[]
 | r::l,n=>if n=0 then [] else (r.1,min r.2 n)::BA l (n - min r.2 n)
theorem Xf (x:Nat × Nat):∀(l:List (Nat × Nat)) (n:Nat),BA (l++[x]) n=BA l n++(if n - CM l=0 then [] else [(x.1,min x.2 (n - CM l))]):=by
 intro l
 induction l with
 | nil=>intro n;show BA [x] n=_;unfold BA;by_cases h:n=0<;>simp [h,CM,BA]
 | cons r l ih=>
   intro n;have e:CM (r::l)=r.2+CM l:=by simp [CM]
   show BA (r::(l++[x])) n=BA (r::l) n++_;rw [BA,BA];by_cases h:n=0
   . rw [if_pos h,if_pos h,if_pos oo];rfl
   . rw [if_neg h,if_neg h,ih,e,show n - min r.2 n - CM l=n - (r.2+CM l) from oo];rfl
theorem Tg (l:List (Nat × Nat)) (k n:Nat) (h:k<l.length):BA (l.take (k+1)) n=BA (l.take k) n++(if n - CM (l.take k)=0 then [] else [(l[k].1,min l[k].2 (n - CM (l.take k)))]):=by
 rw [ic h,Xf]
theorem NM (b:List (Nat × Nat)):∀(a:List (Nat × Nat)) (n:Nat),n - CM a=0->BA (a++b) n=BA a n:=by
 intro a
 induction a with
 | nil=>
   intro n h;have hn:n=0:=by simpa [CM] using h
   subst hn;cases b<;>simp [BA]
 | cons r l ih=>
   intro n h;have e:CM (r::l)=r.2+CM l:=by simp [CM]
   show BA (r::(l++b)) n=BA (r::l) n;rw [BA,BA];by_cases h0:n=0
   . rw [if_pos h0,if_pos h0]
   . rw [if_neg h0,if_neg h0,ih _ oo]
theorem aF (m:Nat):∀(l:List (Nat × Nat)) (n:Nat),(∀r∈l,r.1+r.2<=m)->∀r∈BA l n,r.1+r.2<=m:=by
 intro l
 induction l with
 | nil=>intro n _ r hr;cases hr
 | cons x l ih=>
   intro n h r hr;rw [BA] at hr;split at hr
   . cases hr
   . rcases jh.1 hr with rfl | hr
     . have:=h x (jA ..);show x.1+min x.2 n<=m;omega
     . exact ih _ (λy hy=>h y (iz _ hy)) r hr
theorem O3:∀(l:List (Nat × Nat)) (n:Nat),(BA l n).length<=l.length:=by
 intro l
 induction l with
 | nil=>intro n;exact jL _
 | cons x l ih=>
   intro n;rw [BA];split
   . exact jL _
   . rw [jf,jf];have:=ih (n - min x.2 n);omega
theorem Jq (S:Nat->Bool) (k:Nat):(A0 S k).Pairwise (λa b=>a.1+a.2<b.1)/\∀r∈A0 S k,1<=r.2:=by
 induction k with
 | zero=>exact ⟨Pairwise.nil,λr hr=>by cases hr⟩
 | succ k ih=>
   show (FM S (A0 S k) k).Pairwise _/\∀r∈FM S (A0 S k) k,_;have f:=Gu S k;unfold FM;split
   . exact ih
   . split
     . rename_i h1 h2;rcases Jo S k with ⟨_,h⟩ | ⟨i,x,hx,_⟩
       . rw [h h2.1] at h2;cases h2.2
       . rw [hx] at ih ⊢;have hb:P7 (i++[x])=i++[(x.1,x.2+1)]:=by unfold P7;rw [JA,Kb]
         rw [hb];obtain ⟨c,d⟩:=ih;rw [pairwise_append] at c ⊢;refine ⟨⟨c.1,pairwise_singleton _ _,λa ha b hb=>?_⟩,λr hr=>?_⟩
         . rw [ia.1 hb];exact c.2.2 a ha x (ia.2 rfl)
         . rcases ip.1 hr with hr | hr
           . exact d r (jQ _ hr)
           . rw [ia.1 hr];show 1<=x.2+1;omega
     . rename_i h1 h2;rcases Jo S k with ⟨h0,_⟩ | ⟨i,x,hx,g⟩
       . rw [h0];refine ⟨by rw [nil_append];exact pairwise_singleton _ _,λr hr=>?_⟩;rw [nil_append] at hr;rw [ia.1 hr];exact iX _
       . rw [hx] at ih f ⊢;obtain ⟨c,d⟩:=ih;have j:=f x (jI _ (ia.2 rfl));have l:x.1+x.2≠k:=λe=>h2 (g.1 e);refine ⟨pairwise_append.2 ⟨c,pairwise_singleton _ _,λa ha b hb=>?_⟩,λr hr=>?_⟩
         . rw [ia.1 hb];show a.1+a.2<k;rcases ip.1 ha with ha | ha
           . have:=(pairwise_append.1 c).2.2 a ha x (ia.2 rfl);omega
           . rw [ia.1 ha];omega
         . rcases ip.1 hr with hr | hr
           . exact d r hr
           . rw [ia.1 hr];exact iX _
def Bv (l:List (Nat × Nat)):List (Nat × Nat):=(List.range 128).flatMap λi=>l.filter λr=>r.2==128 - i
theorem Gi (l:List (Nat × Nat)) (h:∀r∈l,1<=r.2/\r.2<=128) (r:Nat × Nat):r∈Bv l↔r∈l:=by
 unfold Bv;rw [List.mem_flatMap];constructor
 . rintro ⟨i,_,hr⟩;exact (jV.1 hr).1
 . intro hr;have:=h r hr;exact ⟨128 - r.2,jB.2 oo,jV.2 ⟨hr,by rw [jy];omega⟩⟩
def ltR (a b:Nat × Nat):Prop:=b.2<a.2\/a.2=b.2/\a.1<b.1
theorem KR (l:List (Nat × Nat)) (h:l.Pairwise (λa b=>a.1<b.1)):(Bv l).Pairwise ltR:=by
 unfold Bv;rw [List.flatMap_def,pairwise_flatten];refine ⟨λx hx=>?_,?_⟩
 . obtain ⟨i,_,rfl⟩:=ie.1 hx;refine (Pairwise.imp_of_mem ?_ (h.filter _));intro a b ha hb c;have h1:=(jV.1 ha).2;have h2:=(jV.1 hb).2;rw [jy] at h1 h2;exact .inr ⟨oo,c⟩
 . rw [kE];refine Pairwise.imp_of_mem ?_ (pairwise_lt_range (n:=128));intro i j hi hj d a ha b hb;have h1:=(jV.1 ha).2;have h2:=(jV.1 hb).2;rw [jy] at h1 h2;have:=jB.1 hi;have:=jB.1 hj;exact .inl oo
theorem LY {a b:Nat × Nat} (h:ltR a b) (h':ltR b a):False:=by
 unfold ltR at h h';omega
theorem Tc:∀(a b:List (Nat × Nat)),a.Perm b->a.Pairwise ltR->b.Pairwise ltR->a=b:=by
 intro a
 induction a with
 | nil=>intro b hp _ _;exact hp.nil_eq
 | cons x a ih=>
   intro b hp ha hb;cases b with
   | nil=>exact absurd hp.length_eq qs
   | cons y b=>
     have c:x=y:=by
      have h1:x∈y::b:=hp.subset (jA ..);have h2:y∈x::a:=hp.symm.subset (jA ..);rcases jh.1 h1 with h1 | h1
      . exact h1
      . rcases jh.1 h2 with h2 | h2
        . exact h2.symm
        . exact (LY ((jx.1 ha).1 y h2) ((jx.1 hb).1 x h1)).elim
     subst c;rw [ih b ((perm_cons x).1 hp) (jx.1 ha).2 (jx.1 hb).2]
theorem O9 {l:List (Nat × Nat)} (h:l.Pairwise (λa b=>a.1<b.1)):l.Nodup:=
 Pairwise.imp (λhab e=>by rw [e] at hab;omega) h
theorem QR {l:List (Nat × Nat)} (h:l.Pairwise ltR):l.Nodup:=
 Pairwise.imp (λhab e=>by rw [e] at hab;exact LY hab hab) h
theorem F3 (l:List (Nat × Nat)) (h:∀r∈l,1<=r.2/\r.2<=128) (ha:l.Pairwise (λa b=>a.1<b.1)):l.Perm (Bv l):=
 (perm_ext_iff_of_nodup (O9 ha) (QR (KR l ha))).2 (λr=>(Gi l h r).symm)
theorem EN (S:Nat->Bool):(AK S).Pairwise (λa b=>a.1<b.1):=
 Pairwise.imp (λh=>oo) (Jq S 128).1
theorem Cy (S:Nat->Bool):∀r∈AK S,1<=r.2/\r.2<=128:=λr hr=>⟨(Jq S 128).2 r hr,by have:=Du S r hr;omega⟩
theorem eS (S:Nat->Bool) (d:List (Nat × Nat)) (hp:d.Perm (AK S)) (hs:∀i j (hi:i<d.length) (hj:j<d.length),i<j->¬ltR d[j] d[i]):d=Bv (AK S):=by
 refine Tc _ _ (hp.trans (F3 _ (Cy S) (EN S))) ?_ (KR _ (EN S));have hn:d.Nodup:=(hp.nodup_iff).2 (O9 (EN S))
 have hd:d.Pairwise (λa b=>a.1≠b.1):=by
  have h1:(AK S).Pairwise (λa b=>a.1≠b.1):=Pairwise.imp (λh=>oo) (EN S);exact (hp.pairwise_iff (λ{a b} h e=>h e.symm)).2 h1
 rw [kN] at hd ⊢;intro i j hi hj c;have h1:=hd i j hi hj c;have h2:=hs i j hi hj c;unfold ltR at h2 ⊢;omega

theorem Re {w:World} {B:Nat} {A:Option Addr} {N:List (Nat × Nat)} (h:RunsAt w B A (Cq N)) {k:Nat} (hk:k<N.length):
 ∃b off,A=some ⟨b,off,none⟩/\b<B/\w.cell? ⟨b,off+k*2,none⟩=some (.int .i64 (N[k].1:Int))/\w.cell? ⟨b,off+k*2+1,none⟩=some (.int .i64 (N[k].2:Int)):=by
 obtain ⟨b,off,f,c,e,hb,a,_,x0,x1⟩:=h.at_ (k:=k) (by rw [Dw];exact hk);have d:(Cq N)[k]'(by rw [Dw];exact hk)=((N[k].1:Int),(N[k].2:Int)):=by simp [Cq]
 rw [d] at a;injection a with h1 h2;exact ⟨b,off,e,hb,by rw [h1];exact x0,by rw [h2];exact x1⟩
theorem PO {w:World} {base:Nat} {v:Value} {l:List (Nat × Nat)} (h:OwnL w base 229 2 v (l.map Cf)) (hb:∀r∈l,r.1+r.2<=1000000):
 ∃A c,v=.slice A l.length c/\RunsAt w w.heap.size A (Cq l)/\l.length<=c/\c<=9223372036854775807/\∀b off,A=some ⟨b,off,none⟩->base<=b/\b<w.heap.size:=by
 obtain ⟨A,c,hv,h1,h2,hl⟩:=h.listAt;rw [iY] at hv h1;refine ⟨A,c,hv,⟨?_,by rw [K1];exact hl⟩,h1,h2,?_⟩
 . intro r hr;obtain ⟨x,hx,rfl⟩:=ie.1 hr;have:=hb x hx;unfold GR;simp only [];omega
 . intro b off hA;rcases h.form with ⟨a,_⟩ | ⟨g,cap,a,hg,d,_⟩
   . rw [hv] at a;injection a with a;rw [hA] at a;cases a
   . rw [hv] at a;injection a with a;rw [hA] at a;injection a with a;injection a with a;omega
theorem RunsAt.turned {S:Nat->Prop} {w w':World} {B:Nat} {A:Option Addr} {l:List (Int × Int)} (h:RunsAt w B A l) (hB:B<=w.heap.size) (ht:Turned S w w') (hS:∀b off,A=some ⟨b,off,none⟩->¬S b):RunsAt w' B A l:=
 ⟨h.1,λhp=>by
  obtain ⟨b,off,e,hb,hc⟩:=h.2 hp
  exact ⟨b,off,e,hb,λj cs hj i v hi=>by rw [ht.cellEq _ _ oo (hS b off e)];exact hc j cs hj i v hi⟩⟩
def gW (w:World) (d:(Int × Int) × Bool) (e:Ending) (w':World):Prop:=e=.returned (.tuple #[.agg #[.int .i64 d.1.1,.int .i64 d.1.2],.bool d.2])/\Grew w w'
section
variable (A:Option Addr) (c:Nat) (l:List (Int × Int)) (w:World) (B:Nat) (hB:B<=w.heap.size) (hl:l.length<=1000000) (hr:RunsAt w B A l) (n:Int) (n0:-9223372036854775808<=n) (n1:n<=9223372036854775807)
include hB hl hr n0 n1
theorem Y5:Calls Tryz.prog 145 #[.slice A l.length c,.int .i64 n] w (gW w (Ln (AH l) n)):=by
 by_cases hn:n<1
 . have HE:=zh (show Ln (AH l) n=((0,0),false) from by unfold Ln;rw [if_pos (.inl hn)]);go_enter Tryz.func145,Tryz.ntmps145;go_wp2_with fail;refine im (by first | (simp [*,results,Tryz.results145,go_sem];rfl) | simp [*,results,Tryz.results145,go_sem]) rfl ?_;rw [HE.out];exact ⟨rfl,gG⟩
 have HS:=zh (show Ln (AH l) n=if n<1\/(Bw n (AK (AH l))).2=0 then ((0,0),false) else ((((Bw n (AK (AH l))).1:Int),n),true) from rfl);have hC:=λw' (g:Grew w w')=>Jg A c l w' B (ij hB g.size) hl (hr.keep hB g);have p:=Du (AH l);have L:=I5 (AH l);generalize AK (AH l)=N at*
 have HC:=zh hC;have u:=zh p;have G:=zh (λk=>Rp n (N.take k) 128 (λr hr=>p r (jw hr)));clear hr hC p;go_enter Tryz.func145,Tryz.ntmps145;go_wp2_with fail;refine (HC _ (gG)).mono ?_;rintro e w1 ⟨v,rfl,C,g1⟩;have x:=((ik w 229 #[.int .i64 0,.int .i64 0] rfl).alloc (.cells #[.int .i64 0,.int .i64 0] 229)).grew g1;have H:=(ik (w.alloc (.cells #[.int .i64 0,.int .i64 0] 229)) 229 #[.int .i64 0,.int .i64 0] (n:=w.heap.size+1) qs).grew g1;have hG:Grew w w1:=(((iW w).alloc _).alloc _).trans g1;obtain ⟨A',c',hv,D,_,_,E⟩:=PO C (λr hr=>ij (u r hr) oo);subst hv;have HR:=zh D;have HA:=zh (show ∀b f,A'=some ⟨b,f,none⟩->¬b=w.heap.size+1 from λb f e=>by have:=(E b f e).1;simp at this;omega);have I:=zh x;clear C D HC g1 E x;go_wp2_with fail
 go_loopg [16] N.length (λgk i wr=>∃k:Nat,k<=N.length/\gk=N.length - k/\i=.int .i64 k/\Blk wr (w.heap.size+1) 229 #[.int .i64 ((Bw n (N.take k)).1:Int),.int .i64 ((Bw n (N.take k)).2:Int)]/\Turned (λi=>i=w.heap.size+1) w1 wr)
 case atStart=>exact ⟨0,oo,oo,rfl,H,jD _ _⟩
 case round=>
  obtain ⟨k,hk,F,rfl,a,ht⟩:=hrel;have j:=zh F;have HT:=zh ht;have d:=I.turned ht oo;clear F;have q:=G.out k;by_cases t:k<N.length
  . obtain ⟨b,f,rfl,hb,x0,x1⟩:=Re (HR.turned (iX _) ht HA) t;have M:b<wr.heap.size:=by have:=ht.size;omega
    have O:¬b=w.heap.size+1:=HA.out b f rfl;have J:=u.out _ (ib t);have m:=zh (U6 n N k t);have y0:=a.cell 0;have y1:=a.cell 1;have P:=a.frozen 0;have Q:=a.frozen 1;have K:=a.lt;have R:=hG.size;generalize N[k]=r at*
    obtain ⟨rf,rc⟩:=r;generalize Bw n (N.take k)=bb at*
    obtain ⟨bf,bc⟩:=bb;simp only at x0 x1 y0 y1 J q;clear ht;have o:=zh a;by_cases h1:n<=(rc:Int)
    . by_cases h2:bc=0
      . have s:(((bc:Nat):Int)==0)=true:=jy.2 oo;have HN:=zh (show Bw n (N.take (k+1))=(rf,rc) from by rw [m.out];unfold E9;rw [if_pos ⟨h1,.inl h2⟩]);clear h2;go_wp2_with fail
        go_roundg (N.length - (k+1))
        case measure=>rw [j.out];omega
        case rel=>exact ⟨k+1,oo,oo,by go_num,by rw [HN.out];have:=o.out;exact gB,by have:=HT.out;exact gT⟩
      . have s:(((bc:Nat):Int)==0)=false:=it.2 oo;by_cases h3:rc<bc
        . have HN:=zh (show Bw n (N.take (k+1))=(rf,rc) from by rw [m.out];unfold E9;rw [if_pos ⟨h1,.inr h3⟩]);clear h2;go_wp2_with fail
          go_roundg (N.length - (k+1))
          case measure=>rw [j.out];omega
          case rel=>exact ⟨k+1,oo,oo,by go_num,by rw [HN.out];have:=o.out;exact gB,by have:=HT.out;exact gT⟩
        . have HN:=zh (show Bw n (N.take (k+1))=(bf,bc) from by rw [m.out];unfold E9;rw [if_neg (λh=>h.2.elim h2 h3)]);clear h2;go_wp2_with fail
          go_roundg (N.length - (k+1))
          case measure=>rw [j.out];omega
          case rel=>exact ⟨k+1,oo,oo,by go_num,by rw [HN.out];have:=o.out;exact gB,by have:=HT.out;exact gT⟩
    . have HN:=zh (show Bw n (N.take (k+1))=(bf,bc) from by rw [m.out];unfold E9;rw [if_neg (λh=>h1 h.1)]);go_wp2_with fail
      go_roundg (N.length - (k+1))
      case measure=>rw [j.out];omega
      case rel=>exact ⟨k+1,oo,oo,by go_num,by rw [HN.out];have:=o.out;exact gB,by have:=HT.out;exact gT⟩
  . obtain rfl:k=N.length:=oo;rw [j1] at a q;have y:Grew w wr:=hG.turn ht (λi hi=>oo);have z:=zh y;have y0:=a.cell 0;have y1:=a.cell 1;have K:=a.lt;have z0:=d.cell 0;have z1:=d.cell 1;have S:=d.frozen 0;have T:=d.frozen 1;have U:=d.lt;clear ht y;generalize Bw n N=bb at*
    obtain ⟨bf,bc⟩:=bb;simp only at y0 y1 q;by_cases h2:bc=0
    . have s:(((bc:Nat):Int)==0)=true:=jy.2 oo;have HE:=zh (show Ln (AH l) n=((0,0),false) from by rw [HS.out];exact if_pos (.inr h2));clear h2;go_wp2_with fail;refine im (by first | (simp [*,results,Tryz.results145,go_sem];rfl) | simp [*,results,Tryz.results145,go_sem]) rfl ?_;rw [HE.out];exact ⟨rfl,by have:=z.out;exact gG⟩
    . have s:(((bc:Nat):Int)==0)=false:=it.2 oo;have HE:=zh (show Ln (AH l) n=(((bf:Int),n),true) from by rw [HS.out];exact if_neg (λh=>h.elim (λh=>oo) h2));clear h2;go_wp2_with fail;refine im (by first | (simp [*,results,Tryz.results145,go_sem];rfl) | simp [*,results,Tryz.results145,go_sem]) rfl ?_;rw [HE.out];exact ⟨rfl,by have:=z.out;exact gG⟩
end

end
section
open Go.Shelf Go.RowKit Go.Lib
def Ta:Go.Shelf.Ren:=⟨fun | 6=>148 | 15=>166 | 14=>187 | 28=>208 | 29=>209 | 20=>214 | 21=>215 | 22=>216 | 23=>217 | 24=>218 | 25=>219 | 26=>220 | 27=>221 | 46=>234 | 47=>229 | 48=>230 | 49=>235 | 50=>236 | 57=>240 | n=>n,fun | 22=>99 | 24=>229 | 25=>241 | 3=>3 | 39=>134 | 0=>0 | 53=>199 | 55=>128 | 4=>4 | 46=>297 | 45=>296 | 50=>104 | 5=>5 | 9=>9 | 66=>319 | 70=>322 | 76=>329 | 77=>330 | n=>n,fun | n=>n⟩
theorem aB:Go.Proofs.SlLaysF0.n6 Tryz.prog Ta:={
 mixed:=qk
 f6:=⟨Tryz.f148.name,qd,Tryz.func148.trans (ix some qk)⟩
 f14:=⟨Tryz.f187.name,qd,Tryz.func187.trans (ix some qk)⟩
 f15:=Tryz.func166.trans (ix some qk)
 f20:=⟨Tryz.f214.name,qd,Tryz.func214.trans (ix some qk)⟩
 f21:=⟨Tryz.f215.name,qd,Tryz.func215.trans (ix some qk)⟩
 f22:=⟨Tryz.f216.name,qd,Tryz.func216.trans (ix some qk)⟩
 f23:=⟨Tryz.f217.name,qd,Tryz.func217.trans (ix some qk)⟩
 f24:=⟨Tryz.f218.name,qd,Tryz.func218.trans (ix some qk)⟩
 f25:=⟨Tryz.f219.name,qd,Tryz.func219.trans (ix some qk)⟩
 f26:=⟨Tryz.f220.name,qd,Tryz.func220.trans (ix some qk)⟩
 f27:=⟨Tryz.f221.name,qd,Tryz.func221.trans (ix some qk)⟩
 f28:=Tryz.func208.trans (ix some qk)
 f29:=Tryz.func209.trans (ix some qk)
 f46:=⟨Tryz.f234.name,qd,Tryz.func234.trans (ix some qk)⟩
 f47:=Tryz.func229.trans (ix some qk)
 f48:=Tryz.func230.trans (ix some qk)
 f49:=⟨Tryz.f235.name,qd,Tryz.func235.trans (ix some qk)⟩
 f50:=⟨Tryz.f236.name,qd,Tryz.func236.trans (ix some qk)⟩
 f57:=⟨Tryz.f240.name,qd,Tryz.func240.trans (ix some qk)⟩
 t0:=Tryz.underlying0
 a0:=Tryz.isAgg0
 z0:=Tryz.sizeOf0
 v0:=Tryz.zeroValue0
 t3:=Tryz.underlying3
 a3:=Tryz.isAgg3
 z3:=Tryz.sizeOf3
 v3:=Tryz.zeroValue3
 t4:=Tryz.underlying4
 a4:=Tryz.isAgg4
 z4:=Tryz.sizeOf4
 v4:=Tryz.zeroValue4
 t5:=Tryz.underlying5
 a5:=Tryz.isAgg5
 z5:=Tryz.sizeOf5
 v5:=Tryz.zeroValue5
 t9:=Tryz.underlying9
 a9:=Tryz.isAgg9
 z9:=Tryz.sizeOf9
 v9:=Tryz.zeroValue9
 t22:=Tryz.underlying99
 a22:=Tryz.isAgg99
 z22:=Tryz.sizeOf99
 v22:=Tryz.zeroValue99
 t25:=Tryz.underlying241
 a25:=Tryz.isAgg241
 z25:=Tryz.sizeOf241
 v25:=Tryz.zeroValue241
 t39:=Tryz.underlying134
 a39:=Tryz.isAgg134
 z39:=Tryz.sizeOf134
 v39:=Tryz.zeroValue134
 t45:=Tryz.underlying296
 a45:=Tryz.isAgg296
 z45:=Tryz.sizeOf296
 v45:=Tryz.zeroValue296
 t46:=Tryz.underlying297
 a46:=Tryz.isAgg297
 z46:=Tryz.sizeOf297
 v46:=Tryz.zeroValue297
 t50:=Tryz.underlying104
 a50:=Tryz.isAgg104
 z50:=Tryz.sizeOf104
 v50:=Tryz.zeroValue104
 t53:=Tryz.underlying199
 a53:=Tryz.isAgg199
 z53:=Tryz.sizeOf199
 v53:=Tryz.zeroValue199
 t55:=Tryz.underlying128
 a55:=Tryz.isAgg128
 z55:=Tryz.sizeOf128
 v55:=Tryz.zeroValue128
 t66:=Tryz.underlying319
 a66:=Tryz.isAgg319
 z66:=Tryz.sizeOf319
 v66:=Tryz.zeroValue319
 t70:=Tryz.underlying322
 a70:=Tryz.isAgg322
 z70:=Tryz.sizeOf322
 v70:=Tryz.zeroValue322
 t76:=Tryz.underlying329
 a76:=Tryz.isAgg329
 z76:=Tryz.sizeOf329
 v76:=Tryz.zeroValue329
 t77:=Tryz.underlying330
 a77:=Tryz.isAgg330
 z77:=Tryz.sizeOf330
 v77:=Tryz.zeroValue330
 }

end
section
attribute [local go_sem ↓] Go.wp_at_zero Go.wp_at_succ
open Go.RowKit Go.Shelf Go.Lib
def FR:Type:=Fin 256 × Fin 256
instance:Inhabited FR:=⟨(⟨0,qd⟩,⟨0,qd⟩)⟩
def toF (r:Nat × Nat):FR:=(⟨r.1 % 256,kT _ qd⟩,⟨r.2 % 256,kT _ qd⟩)
def ofF (x:FR):Nat × Nat:=(x.1.val,x.2.val)
theorem VN (r:Nat × Nat) (h:r.1+r.2<=128):ofF (toF r)=r:=by
 obtain ⟨a,b⟩:=r;simp only at h;show (a % 256,b % 256)=(a,b);rw [jZ oo,jZ oo]
def G0 (x:FR):List Value:=Cf (ofF x)
def QO (x y:FR):Int:=if (ofF x).2=(ofF y).2 then ((ofF x).1:Int) - ((ofF y).1:Int) else ((ofF y).2:Int) - ((ofF x).2:Int)
theorem ltF (x y:FR):Go.Proofs.ltOf QO x y=true↔ltR (ofF x) (ofF y):=by
 unfold Go.Proofs.ltOf QO ltR;rw [jG];split<;>omega
theorem eG:Go.Sort.SWO (Go.Proofs.ltOf QO) where
 irrefl x:=by
  cases h:Go.Proofs.ltOf QO x x with
  | false=>rfl
  | true=>exact (LY ((ltF x x).1 h) ((ltF x x).1 h)).elim
 trans x y z h1 h2:=by
  rw [ltF] at h1 h2 ⊢;unfold ltR at*
  omega
 ntrans x y z h1 h2:=by
  rw [<-jl] at h1 h2 ⊢;rw [ltF] at h1 h2 ⊢;unfold ltR at*
  omega
theorem VD (x y:FR) (W:World):Calls Tryz.prog 147 #[.agg (G0 x).toArray,.agg (G0 y).toArray] W λe w'=>e=.returned (.int .i64 (QO x y))/\∃q os',w'=Go.Sort.grow (W.drewN q) os':=by
 have f:=x.1.isLt;have g:=x.2.isLt;have i:=y.1.isLt;have j:=y.2.isLt;show Calls Tryz.prog 147 #[.agg #[.int .i64 (x.1.val:Int),.int .i64 (x.2.val:Int)],.agg #[.int .i64 (y.1.val:Int),.int .i64 (y.2.val:Int)]] W _;have HC:=zh (show QO x y=if x.2.val=y.2.val then ((x.1.val:Int)) - (y.1.val:Int) else (y.2.val:Int) - (x.2.val:Int) from rfl);generalize x.1.val=a at*
 generalize x.2.val=b at*
 generalize y.1.val=c at*
 generalize y.2.val=d at*
 by_cases h:b=d
 . have hb:((b:Int) != (d:Int))=false:=by rw [kS];omega
   have HE:=zh (show QO x y=(a:Int) - (c:Int) from by rw [HC.out,if_pos h]);clear h;go_enter Tryz.func147,Tryz.ntmps147;go_wp2_with fail;go_ret;exact ⟨DK (by rw [HE.out]),0,_,by rw [Go.Sort.alloc_eq_grow,Go.Sort.alloc_eq_grow,Go.Sort.grow_grow];rfl⟩
 . have hb:((b:Int) != (d:Int))=true:=by rw [jH];omega
   have HE:=zh (show QO x y=(d:Int) - (b:Int) from by rw [HC.out,if_neg h]);clear h;go_enter Tryz.func147,Tryz.ntmps147;go_wp2_with fail;go_ret;exact ⟨DK (by rw [HE.out]),0,_,by rw [Go.Sort.alloc_eq_grow,Go.Sort.alloc_eq_grow,Go.Sort.grow_grow];rfl⟩
theorem Oj (w:World) (g m:Nat) (d:Array FR) (os:Array Obj):Turned (λi=>i=g) w (Go.Proofs.sortWorldK G0 2 w g 0 m d os):=by
 refine ⟨rfl,rfl,rfl,?_,λk hk hs=>?_⟩
 . exact Go.Proofs.size_sortWorldK_c G0 2 w g 0 m d os
 . unfold Go.Proofs.sortWorldK Go.Sort.grow Go.Sort.putRowK Go.Sort.putRow Go.Sort.mapBlock Go.Sort.ahead;show (w.heap.modify g _++os)[k]? =w.heap[k]?;rw [Array.getElem?_append_left (by rw [Array.size_modify];exact hk),kA,if_neg (λe=>hs e.symm)]
theorem JR (d:Array FR):(d.extract 0 d.size).toList=d.toList:=by rw [Array.extract_size]
theorem Tl (d:Array FR) (i:Nat) (h:i<d.size):d[i]! =d.toList[i]'(by rw [jP];exact h):=by
 rw [getElem!_pos d i h,Array.getElem_toList]
theorem X4 {w:World} {base g cap:Nat} {N:List (Nat × Nat)} (h:OwnL w base 229 2 (.slice (some ⟨g,0,none⟩) N.length cap) (N.map Cf)) (hb:∀r∈N,r.1+r.2<=128):Go.Sort.HoldsK G0 2 w g 0 (N.map toF).toArray:=by
 intro t ht;have a:t<N.length*2:=by simpa using ht
 have hj:t / 2<N.length:=oo;rw [Go.Sort.get_flatK _ _ _ _ (by simpa using a),kF]
 have b:((N.map toF).toArray)[t / 2]! =toF N[t / 2]:=by
  rw [getElem!_pos _ _ (by simpa using hj)];simp
 have c:(N.map Cf)[t / 2]? =some (Cf N[t / 2]):=by rw [iZ,iV hj];rfl
 have he:G0 (toF N[t / 2])=Cf N[t / 2]:=by unfold G0;rw [VN _ (hb _ (ib hj))]
 rw [b,he];refine ⟨?_,h.frozen t⟩;have hm:t=t / 2*2+t % 2:=oo;have d:t % 2<2:=kT _ qd
 have hu:(Cf N[t / 2])[t % 2]? =some ((Cf N[t / 2])[t % 2]!):=by
  have e:(Cf N[t / 2]).length=2:=rfl;rw [iV oo,getElem!_pos _ _ oo]
 have:=h.cell (j:=t / 2) (i:=t % 2) c hu;rwa [<-hm] at this
theorem Xr {w:World} {g:Nat} {d:Array FR} {M:List (Nat × Nat)} (h:Go.Sort.HoldsK G0 2 w g 0 d) (hd:d.toList.map ofF=M) (hg:g<w.heap.size):RunsAt w w.heap.size (some ⟨g,0,none⟩) (Cq M):=by
 subst hd;refine ⟨?_,λ_=>⟨g,0,rfl,hg,λj cs hj i v hi=>?_⟩⟩
 . intro r hr;obtain ⟨x,hx,rfl⟩:=ie.1 hr;obtain ⟨y,hy,rfl⟩:=ie.1 hx;have h1:=y.1.isLt;have h2:=y.2.isLt;show GR ((y.1.val:Int),(y.2.val:Int));unfold GR;simp only;omega
 . rw [K1,jt] at hj;rw [iZ] at hj;cases hx:d.toList[j]? with
   | none=>rw [hx] at hj;cases hj
   | some x=>
     rw [hx] at hj;have f:j<d.toList.length:=(iw.1 hx).1;have b:j<d.size:=by rw [<-jP];exact f
     injection hj with hj;have e:cs=G0 x:=hj.symm;have a:i<cs.length:=(iw.1 hi).1;have k:i<2:=by rw [e] at a;exact a
     have hc:=(h.cell (i:=j) (c:=i) b k).1
     have l:d[j]! =x:=by
      rw [Tl d j b];exact (iw.1 hx).2
     rw [l,<-e,getElem!_pos cs i a] at hc;rw [hc,(iw.1 hi).2]
theorem Y3 (g cap:Nat) (S:Nat->Bool) (w:World) (base:Nat) (c:OwnL w base 229 2 (.slice (some ⟨g,0,none⟩) (AK S).length cap) ((AK S).map Cf)):
 Calls Tryz.prog 148 #[.slice (some ⟨g,0,none⟩) (AK S).length cap,.func (.func 147) #[] #[]] w λe w'=>e=.returned (.tuple #[])/\Turned (λi=>i=g) w w'/\RunsAt w' w'.heap.size (some ⟨g,0,none⟩) (Cq (Bv (AK S))):=by
 have hg:g<w.heap.size:=by
  rcases c.form with ⟨h,_⟩ | ⟨g',_,h,_,h2,_⟩
  . cases h
  . injection h with h;injection h with h;injection h with h;omega
 have f:=Du S;have q:=I5 S;have hH:=X4 c f;have a:((AK S).map toF).toArray.size=(AK S).length:=qs
 have k:(((AK S).map toF).toArray.toList).map ofF=AK S:=by
  show ((AK S).map toF).map ofF=AK S;rw [jt];conv=>rhs;rw [<-List.map_id (AK S)]
  exact jO (λr hr=>VN r (f r hr))
 obtain ⟨d,hd⟩:∃d,((AK S).map toF).toArray=d:=⟨_,rfl⟩;rw [hd] at hH a k;have eg:∀args w,(callFunc 147 args).run Tryz.prog w=.ok (.enter 147 args) w:=BD Tryz.func147 qk rfl;have b:=Go.Proofs.AnyQ.slices_SortFunc aB 2 Tryz.isAgg229 Tryz.sizeOf229 G0 (λ_=>rfl) (λx v hv=>by simp [G0,Cf] at hv;rcases hv with rfl | rfl<;>rfl) QO eG 147 #[] g 0 cap d w eg (λm os dk hs x y=>VD x y _) hH hg (by rw [a];omega);change Calls Tryz.prog 148 _ _ _ at b;rw [a] at b;refine b.mono ?_;rintro e w' ⟨rfl,d',n,os,hp,hs,rfl⟩;refine ⟨rfl,Oj w g n d' os,?_⟩;have l:d'.size=d.size:=hp.1;refine Xr (d:=d') (Go.Proofs.holdsK_sortWorldK_c G0 2 w g 0 d d' n os hH hg l) ?_ (ig hg (Go.Proofs.size_sortWorldK_c G0 2 w g 0 n d' os));refine eS S _ ?_ ?_
 . have h3:=hp.2.2;rw [<-a,JR d,<-l,JR d'] at h3;rw [<-k];exact h3.map _
 . intro i j hi hj p o;rw [iY,jP] at hi hj;have h4:=hs i j (jL _) p oo;rw [Tl d' j hj,Tl d' i hi] at h4;rw [kQ,kQ] at o;rw [(ltF _ _).2 o] at h4;cases h4
theorem ab (S:Nat->Bool) (w:World) (base:Nat) (v:Value) (a:OwnL w base 229 2 v ((AK S).map Cf)):
 ∃A c,v=.slice A (Bv (AK S)).length c/\Calls Tryz.prog 148 #[.slice A (Bv (AK S)).length c,.func (.func 147) #[] #[]] w λe w'=>e=.returned (.tuple #[])/\Turned (λi=>base<=i) w w'/\RunsAt w' w'.heap.size A (Cq (Bv (AK S))):=by
 have d:(Bv (AK S)).length=(AK S).length:=(F3 _ (Cy S) (EN S)).length_eq.symm;rcases a.form with ⟨rfl,h0⟩ | ⟨g,cap,rfl,hg,l,_⟩
 . have j:(AK S).length=0:=by have:=ix length h0;simpa using this
   have b:(Bv (AK S)).length=0:=oo;refine ⟨none,0,by rw [b],?_⟩;rw [b];have f:=Go.Proofs.AnyF.slices_SortFunc_none aB none 0 (.func (.func 147) #[] #[]) w;change Calls Tryz.prog 148 _ _ _ at f;refine f.mono ?_;rintro e w' ⟨rfl,rfl⟩;refine ⟨rfl,jD _ _,?_⟩;rw [eq_nil_of_length_eq_zero b];exact ⟨λr hr=>(not_mem_nil hr).elim,λh=>absurd h qd⟩
 . rw [iY] at a ⊢;refine ⟨some ⟨g,0,none⟩,cap,by rw [d],?_⟩;rw [d];refine (Y3 g cap S w base a).mono ?_;rintro e w' ⟨rfl,ht,hr⟩;exact ⟨rfl,ht.mono (λk _ hk=>by subst hk;exact hg),hr⟩

end
section
open Go.RowKit
def Bg (S:Nat->Bool) (n most:Int):List (Nat × Nat) × Int:=
 if n<1\/most<1 then ([],1)
 else if (Bw n (AK S)).2≠0 then ([((Bw n (AK S)).1,n.toNat)],0)
 else if n.toNat - CM (Bv (AK S))≠0\/most<((BA (Bv (AK S)) n.toNat).length:Int) then ([],14)
 else (BA (Bv (AK S)) n.toNat,0)
def f7 (w:World) (d:List (Nat × Nat) × Int) (e:Ending) (w':World):Prop:=∃v,e=.returned (.tuple #[v,.int .i64 d.2])/\OwnL w' w.heap.size 229 2 v (d.1.map Cf)/\Grew w w'
theorem OwnL.one {w:World} {base n:Nat} {r:Nat × Nat} (hb:base<=w.heap.size) (hn:n=w.heap.size):OwnL (w.alloc (.cells #[.int .i64 (r.1:Int),.int .i64 (r.2:Int)] 229)) base 229 2 (.slice (some ⟨n,0,none⟩) 1 1) ([r].map Cf):=by
 subst hn;exact ⟨by simp [Cf],World.ownsRow_lit w _ 1 hb qd qs⟩
section
variable (A:Option Addr) (c:Nat) (l:List (Int × Int)) (w:World) (B:Nat) (hB:B<=w.heap.size) (hl:l.length<=1000000) (hr:RunsAt w B A l) (n:Int) (n0:-9223372036854775808<=n) (n1:n<=9223372036854775807) (most:Int)
include hB hl hr n0 n1
theorem WJ:Calls Tryz.prog 91 #[.slice A l.length c,.int .i64 n,.int .i64 most] w (f7 w (Bg (AH l) n most)):=by
 by_cases h1:n<1
 . have HE:=zh (show Bg (AH l) n most=([],1) from by unfold Bg;rw [if_pos (.inl h1)]);go_enter Tryz.func91,Tryz.ntmps91;go_wp2_with fail
   go_returns
   rw [HE.out];exact ⟨_,rfl,OwnL.nil _ _ _ _,gG⟩
 by_cases h2:most<1
 . have HE:=zh (show Bg (AH l) n most=([],1) from by unfold Bg;rw [if_pos (.inr h2)]);go_enter Tryz.func91,Tryz.ntmps91;go_wp2_with fail
   go_returns
   rw [HE.out];exact ⟨_,rfl,OwnL.nil _ _ _ _,gG⟩
 obtain ⟨nn,rfl⟩:∃nn:Nat,n=(nn:Int):=⟨n.toNat,oo⟩;have HS:=zh (show Bg (AH l) (nn:Int) most=if (Bw (nn:Int) (AK (AH l))).2≠0 then ([((Bw (nn:Int) (AK (AH l))).1,nn)],0) else if nn - CM (Bv (AK (AH l)))≠0\/most<((BA (Bv (AK (AH l))) nn).length:Int) then ([],14) else (BA (Bv (AK (AH l))) nn,0) from by unfold Bg;rw [if_neg (λh=>h.elim h1 h2)];rfl);have d:=Y5 A c l w B hB hl hr (nn:Int) n0 n1
 have x:Ln (AH l) (nn:Int)=if (Bw (nn:Int) (AK (AH l))).2=0 then ((0,0),false) else ((((Bw (nn:Int) (AK (AH l))).1:Int),(nn:Int)),true):=by
  unfold Ln;by_cases hz:(Bw (nn:Int) (AK (AH l))).2=0
  . rw [if_pos (.inr hz),if_pos hz]
  . rw [if_neg (λh=>h.elim h1 hz),if_neg hz]
 rw [x] at d;have y:=Du (AH l);have E:=Rp (nn:Int) (AK (AH l)) 128 y;have z:=Kz (nn:Int) (AK (AH l));by_cases hz:(Bw (nn:Int) (AK (AH l))).2=0;rotate_left
 . rw [if_neg hz] at d
   have an:nn<=128:=by
    rcases z with h | ⟨_,h⟩
    . rw [h] at hz;exact absurd rfl hz
    . omega
   have HE:=zh (show Bg (AH l) (nn:Int) most=([((Bw (nn:Int) (AK (AH l))).1,nn)],0) from by rw [HS.out,if_pos hz]);generalize Bw (nn:Int) (AK (AH l))=bb at*
   obtain ⟨bf,bc⟩:=bb;simp only at d HE E;have s:=zh d;clear x d HS hz z;go_enter Tryz.func91,Tryz.ntmps91;go_wp2_with fail;refine s.mono ?_;rintro e w1 ⟨rfl,g1⟩;have T:=g1.size;go_wp2_with fail
   go_returns
   rw [HE.out];refine ⟨_,rfl,OwnL.one (r:=(bf,nn)) ?_ ?_,gG⟩
   . simp;omega
   . simp
 rw [if_pos hz] at d;have j:=zh (show Bg (AH l) (nn:Int) most=if nn - CM (Bv (AK (AH l)))≠0\/most<((BA (Bv (AK (AH l))) nn).length:Int) then ([],14) else (BA (Bv (AK (AH l))) nn,0) from by rw [HS.out,if_neg (λh=>h hz)]);have s:=zh d;have HC:=zh (λw' (g:Grew w w')=>Jg A c l w' B (ij hB g.size) hl (hr.keep hB g));have F:=zh (λw base v h=>ab (AH l) w base v h);have ap:(Bv (AK (AH l))).length<=128:=by rw [<-(F3 _ (Cy (AH l)) (EN (AH l))).length_eq];exact I5 _
 have G:∀r∈Bv (AK (AH l)),r.1+r.2<=128:=λr hr=>y r ((Gi _ (Cy (AH l)) r).1 hr);generalize Bv (AK (AH l))=M at*
 have U:=zh G;clear x d HS hz z E hr y G;go_enter Tryz.func91,Tryz.ntmps91;go_wp2_with fail;refine s.mono ?_;rintro e w1 ⟨rfl,g1⟩;have T:=g1.size;go_wp2_with fail;refine (HC _ (gG)).mono ?_;rintro e w2 ⟨v,rfl,a,g2⟩;have hG:Grew w w2:=gG;obtain ⟨A',c',hv,R⟩:=F.out _ _ _ a;subst hv;have av:w.heap.size<=w1.heap.size+1:=oo;clear a HC s g1 g2 F;go_wp2_with fail;refine R.mono ?_;rintro e w3 ⟨rfl,ht,Q⟩;replace hG:=hG.turn ht (λi hi=>by simp at hi;omega);have HR:=zh Q;have H:=hG.size;clear R ht Q;go_wp2_with fail
 go_loopg [1,12,37] M.length (λgk nv ov i wr=>∃k:Nat,k<=M.length/\gk=M.length - k/\i=.int .i64 k/\nv=.int .i64 ((nn - CM (M.take k):Nat):Int)/\OwnL wr w3.heap.size 229 2 ov ((BA (M.take k) nn).map Cf)/\Grew w3 wr)
 case atStart=>exact ⟨0,oo,oo,rfl,by simp [CM],OwnL.nil _ _ _ _,iW _⟩
 case round=>
  obtain ⟨k,hk,S,rfl,rfl,a,hg⟩:=hrel;have V:=zh S;clear S;have I:=O3 (M.take k) nn;have aw:(M.take k).length<=128:=ij (length_take_le _ _) oo;have a0:=hg.size;obtain ⟨Av,cv,hv,al,a9,-⟩:=a.listAt;rw [iY] at hv al;subst hv;by_cases u:k<M.length
  . obtain ⟨b,bk,rfl,hb,x0,x1⟩:=Re (HR.keep (iX _) hg) u;have a1:b<wr.heap.size:=oo;have W:=U.out _ (ib u);have J:=zh (Tg M k nn u);have K:=zh (Wq M k u);have L:=zh (λh=>NM (M.drop k) (M.take k) nn h);generalize M[k]=r at*
    obtain ⟨rf,rc⟩:=r;simp only at x0 x1 W;obtain ⟨m,hm⟩:∃m,nn - CM (M.take k)=m:=⟨_,rfl⟩;rw [hm] at J;rw [hm];by_cases D:m=0
    . have t:=L.out oo;rw [kK] at t
      have o:nn - CM M=0:=by
       have h9:=IX (M.take k) (M.drop k);rw [kK] at h9;omega
      rw [<-t] at a I;have C:=a.alloc (.cells #[.int .i64 (rf:Int),.int .i64 (rc:Int)] 229);have f:=hg.alloc (.cells #[.int .i64 (rf:Int),.int .i64 (rc:Int)] 229);have X:((m:Int)==0)=true:=jy.2 oo;rw [<-t];subst D;clear t hm;by_cases p:most<((BA M nn).length:Int)
      . have HE:=zh (show Bg (AH l) (nn:Int) most=([],14) from by rw [j.out];exact if_pos (.inr p));go_wp2_with fail
        go_returns
        rw [HE.out];exact ⟨_,rfl,OwnL.nil _ _ _ _,hG.trans f⟩
      . have HE:=zh (show Bg (AH l) (nn:Int) most=(BA M nn,0) from by rw [j.out];exact if_neg (λh=>h.elim (λh=>h o) p));go_wp2_with fail
        go_returns
        rw [HE.out];exact ⟨_,rfl,C.mono H,hG.trans f⟩
    . have X:((m:Int)==0)=false:=it.2 oo;have N:=zh (J.out.trans (by rw [if_neg D]));obtain ⟨q,hq⟩:∃q,min rc m=q:=⟨_,rfl⟩;have Y:min (rc:Int) (m:Int)=(q:Int):=oo;have a2:q<=m:=oo;have a3:q<=rc:=oo;have a4:m<=nn:=oo;have a5:0<m:=oo;rw [hq] at N;have Z:=a.alloc (.cells #[.int .i64 (rf:Int),.int .i64 (q:Int)] 229);have O:=hg.alloc (.cells #[.int .i64 (rf:Int),.int .i64 (q:Int)] 229);have P:nn - CM (M.take (k+1))=m - q:=by rw [K.out];show nn - (CM (M.take k)+rc)=_;omega
      have ad:=zh P;clear P D hm L K hq;go_wp2_with (at_builtin;(try rw [Y]);refine AY rfl _ _ 99 rfl w3.heap.size 229 2 16 _ Tryz.underlying99 Ec rfl qd (wr.alloc (.cells #[.int .i64 (rf:Int),.int .i64 (q:Int)] 229)) _ ((BA (M.take k) nn).map Cf) (Cf (rf,q)) (by rfl) rfl rfl Z (by first | rfl | (simp;done)) rfl rfl (by rw [iY];omega) (by rw [iY];omega) O.size ?_;intro v' w5 af ag a7 a8)
      go_roundg (M.length - (k+1))
      case measure=>rw [V.out];omega
      case rel=>exact ⟨k+1,oo,oo,by go_num,by rw [ad.out];go_num,by rw [N.out,il];exact af,ag _ O (iX _)⟩
  . obtain rfl:k=M.length:=oo;rw [j1] at a I ⊢;have C:=a;have f:=hg;by_cases o:nn - CM M=0
    . rw [o];by_cases p:most<((BA M nn).length:Int)
      . have HE:=zh (show Bg (AH l) (nn:Int) most=([],14) from by rw [j.out];exact if_pos (.inr p));go_wp2_with fail
        go_returns
        rw [HE.out];exact ⟨_,rfl,OwnL.nil _ _ _ _,hG.trans f⟩
      . have HE:=zh (show Bg (AH l) (nn:Int) most=(BA M nn,0) from by rw [j.out];exact if_neg (λh=>h.elim (λh=>h o) p));go_wp2_with fail
        go_returns
        rw [HE.out];exact ⟨_,rfl,C.mono H,hG.trans f⟩
    . have HE:=zh (show Bg (AH l) (nn:Int) most=([],14) from by rw [j.out];exact if_pos (.inl o));generalize nn - CM M=m at*
      have a6:0<m:=oo;go_wp2_with fail
      go_returns
      rw [HE.out];exact ⟨_,rfl,OwnL.nil _ _ _ _,hG.trans f⟩
end

theorem Va (S:Nat->Bool):∀r∈Bv (AK S),r.1+r.2<=128:=λr hr=>Du S r ((Gi _ (Cy S) r).1 hr)
theorem RR (S:Nat->Bool) (n a:Int):∀r∈(Bg S n a).1,r.1+r.2<=128:=by
 unfold Bg;split
 . intro r hr;cases hr
 . rename_i h0;split
   . rename_i h1;intro r hr;rw [ia.1 hr];rcases Kz n (AK S) with h | ⟨hm,h⟩
     . rw [h] at h1;exact absurd rfl h1
     . have:=Du S _ hm;show (Bw n (AK S)).1+n.toNat<=128;omega
   . split
     . intro r hr;cases hr
     . exact aF 128 _ _ (Va S)

theorem bM {w:World} {g:Nat} {cs:Array Value} {l:List (Int × Int)} (hb:Blk w g 229 cs) (hc:cs.toList=(l.map G1).flatten) (a:∀r∈l,GR r):RunsAt w w.heap.size (some ⟨g,0,none⟩) l:=by
 refine ⟨a,λ_=>⟨g,0,rfl,hb.lt,λj c hj i v hi=>?_⟩⟩;have h:=Jr (sz:=2) (rows:=l.map G1) (λr hr=>by obtain ⟨x,_,rfl⟩:=ie.1 hr;rfl) j i c v hj hi;rw [<-hc] at h;rw [hb.cell,kF,<-j9];exact h

theorem Blk.hold {w w':World} {g:Nat} {t:TypeId} {cs:Array Value} (h:Blk w g t cs) (hg:Grew w w'):Blk w' g t cs:=h.grew hg

theorem QQ (l:List (Nat × Nat)) (k:Nat):CM (l.take k)<=CM l:=by
 have:=IX (l.take k) (l.drop k);rw [kK] at this;omega

theorem WK:∀(l:List (Nat × Nat)) (n:Nat),n<=CM l->CM (BA l n)=n:=by
 intro l
 induction l with
 | nil=>intro n h;have h0:n=0:=by simpa [CM] using h
        subst h0;rfl
 | cons r l ih=>
   intro n h;have e:CM (r::l)=r.2+CM l:=by simp [CM]
   rw [BA];split
   . rename_i h0;subst h0;rfl
   . have e2:CM ((r.1,min r.2 n)::BA l (n - min r.2 n))=min r.2 n+CM (BA l (n - min r.2 n)):=by simp [CM]
     rw [e2,ih _ oo];omega
theorem WW:∀(l:List (Nat × Nat)) (n:Nat),(∀r∈l,1<=r.2)->∀r∈BA l n,1<=r.2:=by
 intro l
 induction l with
 | nil=>intro n _ r hr;cases hr
 | cons x l ih=>
   intro n h r hr;rw [BA] at hr;split at hr
   . cases hr
   . rcases jh.1 hr with rfl | hr
     . have:=h x (jA ..);show 1<=min x.2 n;omega
     . exact ih _ (λy hy=>h y (iz _ hy)) r hr
theorem RC (a b m:Nat) (h:m<=b):(Ei (a,m)).Sublist (Ei (a,b)):=by
 have:Ei (a,m)=(Ei (a,b)).take m:=by rw [Yd,Nat.min_eq_left h]
 rw [this];exact take_sublist _ _
theorem Fi (r:Nat × Nat) (l:List (Nat × Nat)):C7 (r::l)=Ei r++C7 l:=rfl
theorem Xa:∀(l:List (Nat × Nat)) (n:Nat),(C7 (BA l n)).Sublist (C7 l):=by
 intro l
 induction l with
 | nil=>intro n;exact Sublist.refl _
 | cons r l ih=>
   intro n;rw [BA];split
   . exact nil_sublist _
   . rw [Fi,Fi];exact (RC r.1 r.2 _ (Nat.min_le_left _ _)).append (ih _)
theorem K5 (S:Nat->Bool):C7 (AK S)=(List.range 128).filter S:=by rw [<-Er _ (Du S),JW]
theorem YH {a b:List (Nat × Nat)} (h:a.Perm b):(C7 a).Perm (C7 b):=by unfold C7;exact h.flatMap_right _
theorem Nr (l:List (Nat × Nat)) (h:∀r∈l,r.1+r.2<=128):El (Cq l)=CM l:=by
 rw [<-KX,Er l h];clear h
 induction l with
 | nil=>rfl
 | cons r l ih=>rw [Fi,iy,ih,Ke];simp [CM]
theorem SC {S:Nat->Bool} (h:∀i,i<128->S i=false):AK S=[]:=by
 have e:C7 (AK S)=[]:=by
  rw [K5,filter_eq_nil_iff];intro i hi;rw [h i (jB.1 hi)];simp
 cases hN:AK S with
 | nil=>rfl
 | cons r l=>
   rw [hN,Fi] at e;have h1:=(Cy S r (by rw [hN];exact jA ..)).1;have h2:=ix length e;rw [iy,Ke] at h2;simp at h2;omega
theorem Vr (S:Nat->Bool) (x:List (Nat × Nat)) (hb:∀r∈x,r.1+r.2<=128) (hs:(C7 x).Sublist (C7 (Bv (AK S)))):
 (CZ (Cq x)).Nodup/\∀i,AH (Cq x) i=true->S i=true:=by
 have hp:=YH (F3 _ (Cy S) (EN S));rw [Er x hb];have a:(C7 (AK S)).Nodup:=by rw [K5];exact nodup_range.filter _
 refine ⟨((hp.nodup_iff).1 a).sublist hs,λi hi=>?_⟩;have h1:i∈C7 x:=by rw [<-Er x hb];exact (FG _ i).2 hi
 have h2:=hp.symm.subset (hs.subset h1);rw [K5] at h2;exact (jV.1 h2).2
theorem ZO (l:List (Int × Int)) (n a:Int) (h1:1<=n) (h2:1<=a):
 (∃x,Bg (AH l) n a=(x,0)/\((x.length:Nat):Int)<=a/\((El (Cq x):Nat):Int)=n/\(CZ (Cq x)).Nodup/\(∀i,AH (Cq x) i=true->AH l i=true)/\∀r∈x,r.1+r.2<=128)\/
 (Bg (AH l) n a=([],14)/\((CM ((Bv (AK (AH l))).take a.toNat):Nat):Int)<n):=by
 have b:=RR (AH l) n a;have d:=Va (AH l);unfold Bg at b ⊢;rw [if_neg (show ¬(n<1\/a<1) by omega)] at b ⊢;split
 . rename_i hb;rw [if_pos hb] at b;left;rcases Kz n (AK (AH l)) with h | ⟨hm,h⟩
   . rw [h] at hb;exact absurd rfl hb
   . have f:=Du _ _ hm;have hx:∀r∈[((Bw n (AK (AH l))).1,n.toNat)],r.1+r.2<=128:=b;obtain ⟨i1,i2⟩:=List.append_of_mem ((Gi _ (Cy (AH l)) _).2 hm)
     have c:(C7 [((Bw n (AK (AH l))).1,n.toNat)]).Sublist (C7 (Bv (AK (AH l)))):=by
      obtain ⟨i2,e⟩:=i2;rw [e,GO,NS,Fi];exact ((show (Ei ((Bw n (AK (AH l))).1,n.toNat)).Sublist (Ei (Bw n (AK (AH l)))) from RC (Bw n (AK (AH l))).1 (Bw n (AK (AH l))).2 n.toNat oo).trans (sublist_append_left _ _)).trans (sublist_append_right _ _)
     obtain ⟨p1,p2⟩:=Vr (AH l) _ hx c;refine ⟨_,rfl,by simpa using h2,?_,p1,p2,hx⟩;rw [Nr _ hx,TB];omega
 . split
   . rename_i hc;right;refine ⟨rfl,?_⟩;rcases hc with hc | hc
     . have:=QQ (Bv (AK (AH l))) a.toNat;omega
     . by_cases h0:n.toNat - CM ((Bv (AK (AH l))).take a.toNat)=0
       . have e:=NM ((Bv (AK (AH l))).drop a.toNat) _ _ h0;rw [kK] at e;rw [e] at hc;have h3:=O3 ((Bv (AK (AH l))).take a.toNat) n.toNat;have h4:=length_take_le a.toNat (Bv (AK (AH l)));omega
       . omega
   . rename_i hb hc;rw [if_neg hb,if_neg hc] at b;left;have g:n.toNat - CM (Bv (AK (AH l)))=0:=jU.1 (λh=>hc (.inl h));have j:¬a<((BA (Bv (AK (AH l))) n.toNat).length:Int):=λh=>hc (.inr h);obtain ⟨p1,p2⟩:=Vr (AH l) _ b (Xa _ _);refine ⟨_,rfl,oo,?_,p1,p2,b⟩;have h6:=WK (Bv (AK (AH l))) n.toNat oo;have h7:=Nr _ b;rw [h7];show ((CM (BA _ _):Nat):Int)=n;rw [h6];omega

theorem SP (w:World):RunsAt w w.heap.size none []:=⟨λr hr=>(not_mem_nil hr).elim,λh=>absurd h qd⟩

def PH (first last:Int) (i:Nat):Bool:=decide (first<=(i:Int)/\(i:Int)<last)
def OU (first last:Int) (l:List (Int × Int)):List (Int × Int):=Cq (AK λi=>PH first last i && !AH l i)
theorem cd (a c:Nat) (h:a+c<=128) (hc:0<c) (i:Nat):AH [((a:Int),(c:Int))] i=decide (a<=i/\i<a+c):=by
 show (inS (Be ((a:Int),(c:Int))) i || false)=_;rw [PB a c h hc,Bool.or_false];rfl
section
variable {A:Option Addr} {c m:Nat} {l:List (Int × Int)} {w:World}
theorem Zz (hn:m=l.length) (hl:l.length<=1000) (hr:RunsAt w w.heap.size A l) (first last:Int) (f0:-9223372036854775808<=first) (f1:first<=9223372036854775807) (t0:-9223372036854775808<=last) (t1:last<=9223372036854775807) (k:List (Int × Int)) (hk:OU first last l=k):
 Calls Tryz.prog 149 #[.int .i64 first,.int .i64 last,.slice A m c] w λe w'=>∃A c,e=.returned (.slice A k.length c)/\RunsAt w' w'.heap.size A k/\Grew w w':=by
 subst hn;have hG:=iW w;obtain ⟨a,ha⟩:∃a:Nat,max (0:Int) first=(a:Int):=⟨first.toNat,oo⟩;obtain ⟨b,hb⟩:∃b:Int,min (128:Int) last=b:=⟨_,rfl⟩;by_cases h1:b<=(a:Int)
 . have g:k=[]:=by
    rw [<-hk];unfold OU
    rw [SC (λi hi=>by
     show (PH first last i && !AH l i)=false
     unfold PH
     rw [ir oo,Bool.false_and])]
    rfl
   subst g;clear hk;go_enter Tryz.func149,Tryz.ntmps149;go_wp2_with fail;go_ret;exact ⟨none,0,rfl,SP _,hG⟩
 . obtain ⟨d,hd⟩:∃d:Nat,b - (a:Int)=(d:Int):=⟨(b - a).toNat,oo⟩;have h:0<d:=oo;have j:a+d<=128:=oo
   have HK:=zh (show Cq (AK λi=>AH [((a:Int),(d:Int))] i && !AH l i)=k from by
    rw [<-hk]
    unfold OU
    congr 1
    refine S7 (λi hi=>?_)
    show (AH [((a:Int),(d:Int))] i && !AH l i)=(PH first last i && !AH l i)
    rw [cd a d j h]
    unfold PH
    congr 1
    rw [decide_eq_decide]
    omega)
   have r8:RunsAt (w.alloc (.cells #[.int .i64 (a:Int),.int .i64 (d:Int)] 229)) (w.alloc (.cells #[.int .i64 (a:Int),.int .i64 (d:Int)] 229)).heap.size (some ⟨w.heap.size,0,none⟩) [((a:Int),(d:Int))]:=bM (ik w _ _ rfl) rfl (by intro r hr;rw [ia.1 hr];unfold GR;simp only;omega);have f:=(iW w).alloc (.cells #[.int .i64 (a:Int),.int .i64 (d:Int)] 229);replace hr:=hr.hold f;have hG:=f;have hw:=(show IntKind.i64.wrap (b - (a:Int))=(d:Int) from by rw [IntKind.wrap_i64];omega);clear f hk;go_enter Tryz.func149,Tryz.ntmps149;go_wp2_with fail;refine (XB rfl rfl qs oo r8 hr k HK).mono ?_;rintro e ws ⟨A3,c3,rfl,r3,gs⟩;go_wp2_with fail;go_ret;exact ⟨_,_,rfl,r3,hG.trans gs⟩
end

end
end Go.Proofs.YtmcgbdemcknkaaaGreatDoor
