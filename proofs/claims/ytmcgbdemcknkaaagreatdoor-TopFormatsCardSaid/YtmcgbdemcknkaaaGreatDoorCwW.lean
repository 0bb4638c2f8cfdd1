/- Parts of the proof (packed), 23. -/
import Derived.Test.YtmcgbdemcknkaaaGreatDoorCwU
namespace Go.Proofs.YtmcgbdemcknkaaaGreatDoor
set_option linter.all false
set_option maxRecDepth 100000
set_option maxHeartbeats 16000000
open List
section
attribute [local go_sem ↓] Go.wp_at_zero Go.wp_at_succ
open Go.RowKit
section
variable (u:ByteArray->List ByteArray × Int)
theorem XT (b:ByteArray):(BC u [b]).2=(u b).2/\((u b).2=0->(BC u [b]).1=(u b).1):=by
 have e:BC u [b]=if (u b).2≠0 then ([],(u b).2) else ((u b).1++[],0):=by
  show (if (u b).2≠0 then ([],(u b).2) else if (BC u []).2≠0 then ([],(BC u []).2) else ((u b).1++(BC u []).1,0))=_;rw [show BC u []=([],0) from rfl,if_neg (show ¬((([],0):List ByteArray × Int).2≠0) by simp)]
 rw [e];by_cases h:(u b).2=0
 . rw [if_neg (by rw [h];simp)];exact ⟨h.symm,λ_=>append_nil _⟩
 . rw [if_pos h];exact ⟨rfl,λh9=>absurd h9 h⟩
theorem EF (x:ByteArray) (a:List ByteArray):BC u (x::a)=if (u x).2≠0 then ([],(u x).2) else if (BC u a).2≠0 then ([],(BC u a).2) else ((u x).1++(BC u a).1,0):=rfl
theorem LD:∀(a b:List ByteArray),(BC u a).2=0->BC u (a++b)=if (BC u b).2≠0 then ([],(BC u b).2) else ((BC u a).1++(BC u b).1,0)
 | [],b,_=>by
   rw [nil_append];by_cases h:(BC u b).2=0
   . rw [if_neg (by rw [h];simp)];show BC u b=([]++(BC u b).1,0);rw [nil_append,<-h]
   . rw [if_pos h];cases b with
     | nil=>exact absurd rfl h
     | cons y b=>
       rw [EF] at h ⊢;split
       . rfl
       . rename_i h1;rw [if_neg h1] at h;split
         . rfl
         . rename_i h2;rw [if_neg h2] at h;exact absurd rfl h
 | x::a,b,h1=>by
   rw [EF] at h1;split at h1
   . rename_i h;exact absurd h1 h
   . rename_i h;split at h1
     . rename_i h3;exact absurd h1 h3
     . rename_i h3;have ih:=LD a b (by simpa using h3);rw [cons_append,EF,if_neg h,ih,EF,if_neg h,if_neg h3];by_cases h4:(BC u b).2=0
       . have hn:¬((BC u b).2≠0):=λh9=>h9 h4;rw [if_neg hn,if_neg hn,if_neg (show ¬(((BC u a).1++(BC u b).1,(0:Int)).2≠0) by simp),jK]
       . rw [if_pos h4,if_pos h4,if_pos (show (([],(BC u b).2):List ByteArray × Int).2≠0 from h4)]
theorem Ui {bs:List ByteArray} {k:Nat} (hk:k<bs.length) (h:(BC u (bs.take k)).2=0):
 ((u bs[k]).2≠0->BC u bs=([],(u bs[k]).2))/\((u bs[k]).2=0->(BC u (bs.take (k+1))).2=0/\(BC u (bs.take (k+1))).1=(BC u (bs.take k)).1++(u bs[k]).1):=by
 obtain ⟨o1,o2⟩:=XT u bs[k];constructor
 . intro hb
   have e:bs=bs.take k++([bs[k]]++bs.drop (k+1)):=by
    rw [singleton_append,<-jz hk,kK]
   have e2:(BC u ([bs[k]]++bs.drop (k+1))).2=(u bs[k]).2:=by
    rw [singleton_append,EF,if_pos hb]
   have e3:=LD u (bs.take k) ([bs[k]]++bs.drop (k+1)) h;rw [<-e,e2,if_pos hb] at e3;exact e3
 . intro hb;rw [ic hk,LD u _ _ h,if_neg (by rw [o1,hb];simp)];exact ⟨rfl,by rw [o2 hb]⟩
theorem Ou (hu:∀s,(u s).1.length<=s.size):∀bs:List ByteArray,(BC u bs).1.length<=(AP bs).size
 | []=>iX _
 | b::bs=>by
   have h1:=hu b;have h2:=Ou hu bs;rw [EF,show (AP (b::bs)).size=b.size+(AP bs).size from io];split
   . exact jL _
   . split
     . exact jL _
     . show ((u b).1++(BC u bs).1).length<=_;rw [iy];omega
theorem Si (L B:Int) (fi:FuncId) (gu:Nat) (A:Option Addr) (c:Nat) (bs:List ByteArray) (w:World) (hE:CF Tryz.prog fi) (hb:Blk w gu 59 #[.func (.func fi) #[] #[]])
 (hu:∀s,(u s).1.length<=s.size) (HU:∀s w',s.size<=1000000->Calls Tryz.prog fi #[.int .i64 L,.int .i64 B,.string s] w' λe w''=>∃v,e=.returned (.tuple #[v,.int .i64 (u s).2])/\OwnL w'' w'.heap.size 9 1 v ((u s).1.map AI)/\Grew w' w'')
 (hA:ListAt w w.heap.size 1 A (bs.map AI)) (hn:bs.length<=1000000) (hT:(AP bs).size<=900000):
 Calls Tryz.prog 158 #[.int .i64 L,.int .i64 B,.slice A bs.length c,.pointer (some ⟨gu,0,none⟩)] w λe w'=>∃v,e=.returned (.tuple #[v,.int .i64 (BC u bs).2])/\OwnL w' w.heap.size 9 1 v ((BC u bs).1.map AI)/\Grew w w':=by
 have HA:=zh hA;have HB:=zh hb;have HU:=zh HU;have i:=zh hu;unfold CF at hE;have HE:=zh hE;clear hA hb hu hE;go_enter Tryz.func158,Tryz.ntmps158;go_wp2_with fail
 go_loopg [9,16] bs.length (λgk ov iv wr=>∃k:Nat,k<=bs.length/\gk=bs.length - k/\iv=.int .i64 k/\(BC u (bs.take k)).2=0/\OwnL wr w.heap.size 9 1 ov ((BC u (bs.take k)).1.map AI)/\Grew w wr)
 case atStart=>exact ⟨0,oo,oo,rfl,by rw [take_zero];rfl,by rw [take_zero];exact OwnL.nil _ _ _ _,iW _⟩
 case round=>
  obtain ⟨k,hk,p,rfl,h1,h2,h3⟩:=hrel;have y:=zh p;have HG:=zh h3;have M:=h3.size;have f:=HB.grew h3;have x0:=f.cell 0;have xl:=f.lt;clear p h3 f;by_cases h:k<bs.length
  . obtain ⟨b,R,rfl,S,J⟩:=Cx (AG HA HG) h;obtain ⟨s1,s2⟩:=Ui u h h1;have j:=NR (ib h);have d:=i.out bs[k];have l:=Ou u i (bs.take k)
    have C:(AP (bs.take k)).size<=(AP bs).size:=by
     have e:=ix ByteArray.size (ix AP (kK k bs));rw [Gm,io] at e;omega
    have a:=λw2=>HU bs[k] w2 oo;obtain ⟨al,q⟩:∃z,(BC u (bs.take k)).1=z:=⟨_,rfl⟩;rw [q] at h2 s2 l;obtain ⟨x,hx⟩:∃x,bs[k]=x:=⟨_,rfl⟩;rw [hx] at J s1 s2 j d a;obtain ⟨⟨sl,er⟩,hr⟩:∃z,u x=z:=⟨_,rfl⟩;rw [hr] at s1 s2 d a;dsimp only at s1 s2 d a;have N:al.length<=900000:=oo;have O:sl.length<=900000:=oo;have D:=zh a;have HO:=zh h2;have E:=zh s1;have m:=zh s2;have hE:=HE.out;clear q hx hr a h1 h2 s1 s2 j d l C;go_wp2_with fail;refine (D _).mono ?_;rintro e w2 ⟨v9,rfl,o,g2⟩;have g:=zh (HG.out.trans g2);clear hE;by_cases he:er=0
    . subst he;obtain ⟨A9,c9,r,K,T,t⟩:=o.listAt;rw [iY] at r K;subst r;have n:=zh (HO.grew g2);have F:=zh t;have G:w.heap.size<=w2.heap.size:=g.size;clear o t g2;go_wp2_with (at_builtin;refine Ab (by rfl) _ _ 24 rfl w.heap.size 9 1 16 _ Tryz.underlying24 BQ rfl qd _ (al.map AI) (sl.map AI) (by rfl) n A9 sl.length c9 (by rfl) (by rw [iY]) (Eg _) F (Ef _) (by rw [iY];omega) (by rw [iY];omega) G ?_;intro v6 w6 H I Q)
      go_roundg (bs.length - (k+1))
      case measure=>rw [y.out];omega
      case rel=>exact ⟨k+1,oo,rfl,by go_num,(m (by trivial)).1,by rw [(m.out (by trivial)).2,il];exact H,Grew.own g I n.row_ge (iX _)⟩
    . have P:(er != 0)=true:=by rw [jH];exact he
      have HE:=zh (show BC u bs=([],er) from E.out he);clear he;go_wp2_with fail;refine im (by first | (simp [*,results,Tryz.results158,go_sem];rfl) | simp [*,results,Tryz.results158,go_sem]) rfl ?_;exact ⟨_,by rw [HE.out],by rw [HE.out];exact OwnL.nil _ _ _ _,g⟩
  . obtain rfl:k=bs.length:=oo;rw [j1] at h1 h2;have HE:=zh (show BC u bs=((BC u bs).1,0) from by rw [<-h1]);have HO:=zh h2;clear h1 h2;go_wp2_with fail;refine im (by first | (simp [*,results,Tryz.results158,go_sem];rfl) | simp [*,results,Tryz.results158,go_sem]) rfl ?_;exact ⟨_,by rw [HE.out],HO,HG⟩
end
theorem Qy {L B:Int} (s:ByteArray):(BM L B s).1.length<=s.size:=by
 unfold BM;split
 . exact jL _
 . split
   . exact jL _
   . show (Eo L.toNat s (s.size / L.toNat)).length<=_;rw [Fn];exact Nat.div_le_self _ _
theorem Nk (L:Int):∀(f:Nat) (s:ByteArray),(BX L f s).1.length<=f
 | 0,s=>iX _
 | f+1,s=>by
   unfold BX;split
   . exact jL _
   . split
     . exact jL _
     . have:=Nk L f (Ao L s).2.1;show (BX L f (Ao L s).2.1).1.length+1<=_;omega
theorem ST {L B:Int} (s:ByteArray):(Bd L B s).1.length<=s.size:=by
 unfold Bd;split
 . exact jL _
 . split
   . exact jL _
   . split
     . exact jL _
     . split
       . exact Nk L s.size _
       . exact jL _

abbrev dsC (id org F L B:Int):Array Value:=#[.int .i64 id,.int .i64 org,.int .i64 F,.int .i64 L,.int .i64 B,.int .i64 0,.int .i64 0,.int .i64 0,.int .i64 0,.int .i64 0,.int .i64 0,.int .i64 0,.int .i64 0,.int .i64 0,.bool false,.int .i64 0,.string ⟨#[]⟩,.string ⟨#[]⟩,.int .i64 0,.int .i64 0,.bool false]
abbrev dsV (id org F L B:Int):Value:=.agg (dsC id org F L B)
def bd (L B:Int):Prop:=-9223372036854775808<=L/\L<=9223372036854775807/\-9223372036854775808<=B/\B<=9223372036854775807
abbrev fn0 (f:FuncId):Value:=.func (.func f) #[] #[]
def FW (F:Int):Int:=if F=0\/F=1 then 0 else 32
abbrev fmtV (F:Int) (fv fp fu:FuncId) (uc:Array Value) (fa:FuncId):Value:=.agg #[fn0 fv,fn0 fp,.func (.func fu) #[] uc,.int .i64 (FW F),fn0 fa]
def OkM (F:Int) (fv:FuncId):Prop:=CF Tryz.prog fv/\∀(L B:Int) (w:World),bd L B->Calls Tryz.prog fv #[.int .i64 L,.int .i64 B] w λe w'=>e=.returned (.bool (fOk F L B))/\w'=w
def Sr (w0:World) (F:Int) (fp:FuncId):Prop:=CF Tryz.prog fp/\∀(L B:Int) (A:Option Addr) (c:Nat) (rs:List ByteArray) (w:World),Grew w0 w->bd L B->ListAt w w.heap.size 1 A (rs.map AI)->rs.length<=c->c<=9223372036854775807->rs.length<=1000000->(∀r∈rs,r.size<=1000000)->
 Calls Tryz.prog fp #[.int .i64 L,.int .i64 B,.slice A rs.length c] w λe w'=>∃v er,e=.returned (.tuple #[v,.int .i64 er])/\OwnL w' w.heap.size 9 1 v ((BI F L B rs).map AI)/\Grew w w'
def ZD (w0:World) (F:Int) (fu:FuncId) (uc:Array Value):Prop:=CF Tryz.prog fu/\∀(L B:Int) (A:Option Addr) (c:Nat) (bs:List ByteArray) (w:World),Grew w0 w->bd L B->ListAt w w.heap.size 1 A (bs.map AI)->bs.length<=c->c<=9223372036854775807->bs.length<=1000000->(AP bs).size<=900000->
 Calls Tryz.prog fu (#[]++#[.int .i64 L,.int .i64 B,.slice A bs.length c]++uc) w λe w'=>∃v,e=.returned (.tuple #[v,.int .i64 (EP F L B bs).2])/\OwnL w' w.heap.size 9 1 v ((EP F L B bs).1.map AI)/\Grew w w'
def Zf (F:Int) (fa:FuncId):Prop:=CF Tryz.prog fa/\∀(n:Nat) (L:Int) (w:World),Calls Tryz.prog fa #[.int .i64 (n:Int),.int .i64 L] w λe w'=>e=.returned (.bool (Di F L n))/\w'=w
theorem U7 (n L:Int) (w:World):Calls Tryz.prog 110 #[.int .i64 n,.int .i64 L] w λe w'=>e=.returned (.bool (decide (n<=L)))/\w'=w:=by
 go_enter Tryz.func110,Tryz.ntmps110;go_wp2_with fail;go_ret;exact ⟨rfl,rfl⟩
theorem bG (n L:Int) (w:World):Calls Tryz.prog 109 #[.int .i64 n,.int .i64 L] w λe w'=>e=.returned (.bool (decide (n=L)))/\w'=w:=by
 have hd:(n==L)=decide (n=L):=by apply Bool.eq_iff_iff.2;simp
 have HD:=zh hd;clear hd;go_enter Tryz.func109,Tryz.ntmps109;go_wp2_with fail;go_ret;exact ⟨AC (by rw [HD.out]),rfl⟩
theorem gZ:OkM 0 50:=⟨BD Tryz.func50 qk qk,λL B w h=>Hs L B w h.1 h.2.1 h.2.2.1 h.2.2.2⟩
theorem iU:OkM 1 53:=⟨BD Tryz.func53 qk qk,λL B w h=>Jk L B w h.1 h.2.1 h.2.2.1 h.2.2.2⟩
theorem iR {F:Int} (h0:F≠0) (h1:F≠1):OkM F 59:=⟨BD Tryz.func59 qk qk,λL B w h=>by
 have:=IC L B w h.1 h.2.1 h.2.2.1 h.2.2.2
 rw [show fOk F L B=sOk L B from by unfold fOk;rw [if_neg h0,if_neg h1]]
 exact this⟩
theorem dF (w0:World):Sr w0 0 21:=⟨BD Tryz.func21 qk qk,λL B A c rs w _ h hA hc hc2 hn hs=>(PI L B A c rs w h.1 h.2.1 h.2.2.1 h.2.2.2 hA hc hc2 hn hs).mono λe w' ⟨v,h1,h2,h3⟩=>⟨v,_,h1,h2,h3⟩⟩
theorem fX (w0:World):Sr w0 1 23:=⟨BD Tryz.func23 qk qk,λL B A c rs w _ h hA hc hc2 hn hs=>(LA L B A c rs w h.1 h.2.1 h.2.2.1 h.2.2.2 hA hc hc2 hn hs).mono λe w' ⟨v,h1,h2,h3⟩=>⟨v,_,h1,h2,h3⟩⟩
theorem f8 {w0:World} (hcd:CodesAt w0) {F:Int} (h0:F≠0) (h1:F≠1):Sr w0 F 25:=⟨BD Tryz.func25 qk qk,λL B A c rs w g h hA hc hc2 hn hs=>(Fm L B A c rs w (hcd.grew g) h.1 h.2.1 h.2.2.1 h.2.2.2 hA hc hc2 hn).mono λe w' ⟨v,k1,k2,k3⟩=>⟨v,_,k1,by
 rw [show BI F L B rs=(C3 L B rs).1 from by unfold BI;rw [if_neg h0,if_neg h1]]
 exact k2,k3⟩⟩
theorem gM {w0:World} {g:Nat} (hb:Blk w0 g 59 #[fn0 20]):ZD w0 0 158 #[.pointer (some ⟨g,0,none⟩)]:=⟨BD Tryz.func158 qk qk,λL B A c bs w gr h hA hc hc2 hn hT=>
 Si (BM L B) L B 20 g A c bs w (BD Tryz.func20 qk qk) (hb.grew gr) Qy (λs w' hs=>Ly L B s w' h.1 h.2.1 h.2.2.1 h.2.2.2 hs) hA hn hT⟩
theorem gq {w0:World} {g:Nat} (hb:Blk w0 g 59 #[fn0 22]):ZD w0 1 158 #[.pointer (some ⟨g,0,none⟩)]:=⟨BD Tryz.func158 qk qk,λL B A c bs w gr h hA hc hc2 hn hT=>
 Si (Bd L B) L B 22 g A c bs w (BD Tryz.func22 qk qk) (hb.grew gr) ST (λs w' hs=>It L B s w' h.1 h.2.1 h.2.2.1 h.2.2.2 hs) hA hn hT⟩
theorem gY {w0:World} (hcd:CodesAt w0) {F:Int} (h0:F≠0) (h1:F≠1):ZD w0 F 24 #[]:=⟨BD Tryz.func24 qk qk,λL B A c bs w gr h hA hc hc2 hn hT=>by
 rw [show EP F L B bs=Bi L B bs from by unfold EP;rw [if_neg h0,if_neg h1]]
 exact FB L B A c bs w (hcd.grew gr) h.1 h.2.1 h.2.2.1 h.2.2.2 hA hc hc2 hn hT⟩
theorem fz:Zf 0 109:=⟨BD Tryz.func109 qk qk,λn L w=>bG (n:Int) L w⟩
theorem Zw {F:Int} (h0:F≠0):Zf F 110:=⟨BD Tryz.func110 qk qk,λn L w=>by
 rw [show Di F L n=decide ((n:Int)<=L) from by unfold Di;rw [if_neg h0]]
 exact U7 (n:Int) L w⟩
theorem M1 (f:FuncId) (w:World):Calls Tryz.prog 108 #[fn0 f] w λe w'=>e=.returned (.func (.func 158) #[] #[.pointer (some ⟨w.heap.size,0,none⟩)])/\w'=w.alloc (.cells #[fn0 f] 59):=by
 go_enter Tryz.func108,Tryz.ntmps108;go_wp2_with fail;go_ret;exact ⟨rfl,rfl⟩
theorem iH {w w':World} {F:Int} (a:CodesAt w) (h0:F≠0) (h1:F≠1) (hg:Grew w w'):∃fv fp fu uc fa,Ending.returned (.agg #[fn0 59,fn0 25,.func (.func 24) #[] #[],.int .i64 32,fn0 110])=.returned (fmtV F fv fp fu uc fa)/\OkM F fv/\Sr w' F fp/\ZD w' F fu uc/\Zf F fa/\Grew w w':=by
 refine ⟨_,_,_,_,_,?_,iR h0 h1,f8 (a.grew hg) h0 h1,gY (a.grew hg) h0 h1,Zw h0,hg⟩;have:FW F=32:=by unfold FW;rw [if_neg (by rintro (h | h);exact h0 h;exact h1 h)]
 unfold fmtV;rw [this]
theorem Fe (id b F L B:Int) (w:World) (a:CodesAt w):Calls Tryz.prog 69 #[dsV id b F L B] w λe w'=>∃fv fp fu uc fa,e=.returned (fmtV F fv fp fu uc fa)/\OkM F fv/\Sr w' F fp/\ZD w' F fu uc/\Zf F fa/\Grew w w':=by
 have c:=zh a;clear a;by_cases h0:F=0
 . subst h0;go_enter Tryz.func69,Tryz.ntmps69;go_wp2_with fail;refine (M1 _ _).mono ?_;rintro e w1 ⟨rfl,rfl⟩;go_wp2_with fail;refine im (by first | (simp [*,results,Tryz.results69,go_sem];rfl) | simp [*,results,Tryz.results69,go_sem]) rfl ?_;refine ⟨_,_,_,_,_,rfl,gZ,dF _,gM ?_,fz,?_⟩
   . exact gB
   . exact gG
 . have d:(F==0)=false:=by rw [it];exact h0
   by_cases h1:F=1
   . subst h1;go_enter Tryz.func69,Tryz.ntmps69;go_wp2_with fail;refine (M1 _ _).mono ?_;rintro e w1 ⟨rfl,rfl⟩;go_wp2_with fail;refine im (by first | (simp [*,results,Tryz.results69,go_sem];rfl) | simp [*,results,Tryz.results69,go_sem]) rfl ?_;refine ⟨_,_,_,_,_,rfl,iU,fX _,gq ?_,Zw h0,?_⟩
     . exact gB
     . exact gG
   . have f:(F==1)=false:=by rw [it];exact h1
     have H0:=zh h0;have H1:=zh h1;clear h0 h1;go_enter Tryz.func69,Tryz.ntmps69;go_wp2_with fail;refine im (by first | (simp [*,results,Tryz.results69,go_sem];rfl) | simp [*,results,Tryz.results69,go_sem]) rfl ?_;exact iH c H0 H1 (gG)

theorem L6 (n:Int) (w:World):Calls Tryz.prog 33 #[.int .i64 n] w λe w'=>e=.returned (.bool (decide (0<=n) && decide (n<=mxN)))/\w'=w:=by
 have HM:=zh (show mxN=1099511627776 from rfl);by_cases h0:0<=n
 . have HE:=zh (show (decide (0<=n) && decide (n<=mxN))=decide (n<=1099511627776) from by rw [HM.out];simp [h0]);go_enter Tryz.func33,Tryz.ntmps33;go_wp2_with fail;go_ret;exact ⟨AC (by rw [HE.out]),rfl⟩
 . have HE:=zh (show (decide (0<=n) && decide (n<=mxN))=false from by simp [h0]);go_enter Tryz.func33,Tryz.ntmps33;go_wp2_with fail;go_ret;exact ⟨AC (by rw [HE.out]),rfl⟩
theorem Bj:(Tryz.prog.info? 29).map (·.size)=some 21:=qk
theorem Rt (a F L B:Int):(a≠0/\FX a F L B=false)\/(a=0/\¬0<=F/\FX a F L B=false)\/(a=0/\0<=F/\¬F<=2/\FX a F L B=false)\/(a=0/\0<=F/\F<=2/\fOk F L B=false/\FX a F L B=false)\/
 (a=0/\0<=F/\F<=2/\fOk F L B=true/\¬FW F<=B/\FX a F L B=false)\/(a=0/\0<=F/\F<=2/\fOk F L B=true/\FW F<=B/\FX a F L B=true):=by
 have hl:0<=F->F<=2->FW F=if F=2 then 32 else 0:=λh1 h2=>by
  unfold FW;by_cases h:F=2
  . rw [if_pos h,if_neg oo]
  . rw [if_neg h,if_pos oo]
 unfold FX;by_cases h1:a=0
 . by_cases h2:0<=F
   . by_cases h3:F<=2
     . rw [<-hl h2 h3];cases h4:fOk F L B with
       | false=>exact .inr (.inr (.inr (.inl ⟨h1,h2,h3,rfl,qs⟩)))
       | true=>
         by_cases h5:FW F<=B
         . exact .inr (.inr (.inr (.inr (.inr ⟨h1,h2,h3,rfl,h5,by simp [h1,h2,h3,h5]⟩))))
         . exact .inr (.inr (.inr (.inr (.inl ⟨h1,h2,h3,rfl,h5,by simp [h5]⟩))))
     . exact .inr (.inr (.inl ⟨h1,h2,h3,by simp [h3]⟩))
   . exact .inr (.inl ⟨h1,h2,by simp [h2]⟩)
 . exact .inl ⟨h1,by simp [h1]⟩
theorem Hi (id c F L B:Int) (w:World) (k:CodesAt w) (j:bd L B):Calls Tryz.prog 32 #[dsV id c F L B] w λe w'=>e=.returned (.bool (FX c F L B))/\Grew w w':=by
 have g:=(iW w).alloc (.cells (dsC id c F L B) 29);have l:=ik w 29 (dsC id c F L B) rfl;have HF:=zh (Fe id c F L B _ (k.grew g));have f:=zh l;have m:=zh g;have o:=zh j;clear k g l j;rcases Rt c F L B with ⟨c1,hE⟩ | ⟨c1,c2,hE⟩ | ⟨c1,c2,c3,hE⟩ | ⟨c1,c2,c3,c4,hE⟩ | ⟨c1,c2,c3,c4,c5,hE⟩ | ⟨c1,c2,c3,c4,c5,hE⟩
 case' inr.inl=>subst c1
 case' inr.inr.inl=>subst c1
 iterate 3
  have HE:=zh hE;clear hE;go_enter Tryz.func32,Tryz.ntmps32;go_wp2_with (refine AJ rfl 29 _ rfl w.heap.size rfl 29 _ _ f Tryz.underlying29 rfl Bj ?_);refine HF.mono ?_;rintro e w1 ⟨fv,fp,fu,uc,fa,rfl,d,-,-,-,g1⟩;have h:=zh d;have i:=zh (m.out.trans g1);have a:=(f.grew g1).alloc (.cells #[fn0 fv,fn0 fp,.func (.func fu) #[] uc,.int .i64 (FW F),fn0 fa] 132);have b:=ik w1 132 #[fn0 fv,fn0 fp,.func (.func fu) #[] uc,.int .i64 (FW F),fn0 fa] rfl;have x1:=a.cell 1;have x2:=a.cell 2;have x3:=a.cell 3;have x4:=a.cell 4;have xl:=a.lt;have y0:=b.cell 0;have y3:=b.cell 3;have yl:=b.lt;clear d g1 a b;go_wp2_with fail;go_ret;exact ⟨AC (by first | rfl | rw [HE.out]),i.alloc _⟩
 all_goals
  subst c1;have HE:=zh hE;clear hE;go_enter Tryz.func32,Tryz.ntmps32;go_wp2_with (refine AJ rfl 29 _ rfl w.heap.size rfl 29 _ _ f Tryz.underlying29 rfl Bj ?_);refine HF.mono ?_;rintro e w1 ⟨fv,fp,fu,uc,fa,rfl,d,-,-,-,g1⟩;have h:=zh d;have i:=zh (m.out.trans g1);have a:=(f.grew g1).alloc (.cells #[fn0 fv,fn0 fp,.func (.func fu) #[] uc,.int .i64 (FW F),fn0 fa] 132);have b:=ik w1 132 #[fn0 fv,fn0 fp,.func (.func fu) #[] uc,.int .i64 (FW F),fn0 fa] rfl;have x1:=a.cell 1;have x2:=a.cell 2;have x3:=a.cell 3;have x4:=a.cell 4;have xl:=a.lt;have y0:=b.cell 0;have y3:=b.cell 3;have yl:=b.lt;clear d g1 a b;have n:=h.1;unfold CF at n;have HV:=zh (h.2 L B (w1.alloc (.cells #[fn0 fv,fn0 fp,.func (.func fu) #[] uc,.int .i64 (FW F),fn0 fa] 132)) o);rw [c4] at HV;clear c4;go_wp2_with fail;refine HV.mono ?_;rintro e w2 ⟨rfl,rfl⟩;clear n;go_wp2_with fail;go_ret;exact ⟨AC (by first | rfl | (rw [HE.out];done) | (rw [HE.out];exact ir oo) | (rw [HE.out];exact iq oo)),i.alloc _⟩

theorem fk (W:World) (a b c:Value) (n:Int) (d:Value):(Instr.field 132 (.agg #[a,b,c,.int .i64 n,d]) 4).run Tryz.prog W=.ok d W:=qk
theorem fj (W:World) (a b c:Value) (n:Int) (d:Value):(Instr.field 132 (.agg #[a,b,c,.int .i64 n,d]) 1).run Tryz.prog W=.ok b W:=qk
theorem fS (W:World) (a b c:Value) (n:Int) (d:Value):(Instr.field 132 (.agg #[a,b,c,.int .i64 n,d]) 2).run Tryz.prog W=.ok c W:=qk
theorem Tt (id a F L B:Int) (fa:FuncId) (gk gx:Nat) (r:ByteArray) (w:World) (hk:Blk w gk 110 #[fn0 fa]) (hx:Blk w gx 29 (dsC id a F L B)) (ha:Zf F fa):
 Calls Tryz.prog 70 (#[]++#[.string r]++#[.pointer (some ⟨gk,0,none⟩),.pointer (some ⟨gx,0,none⟩)]) w λe w'=>e=.returned (.bool (!Di F L r.size))/\w'=w:=by
 have x0:=hk.cell 0;have xl:=hk.lt;have y3:=hx.cell 3;have yl:=hx.lt;have HA:=zh (ha.2 r.size L w);have hE:=ha.1;unfold CF at hE;obtain ⟨b,hb⟩:∃b,Di F L r.size=b:=⟨_,rfl⟩;rw [hb] at HA ⊢;clear hk hx ha hb;go_enter Tryz.func70,Tryz.ntmps70;go_wp2_with fail;refine HA.mono ?_;rintro e w1 ⟨rfl,rfl⟩;clear hE;go_wp2_with fail;go_ret;exact ⟨rfl,rfl⟩
theorem OX:CF Tryz.prog 70:=BD Tryz.func70 qk qk
theorem en (rs:List ByteArray) (p:ByteArray->Bool):(!rs.any λr=>!p r)=rs.all p:=by
 induction rs with
 | nil=>rfl
 | cons r rs ih=>rw [any_cons,all_cons,<-ih,Bool.not_or,Bool.not_not]
theorem M5 (id a F L B:Int) (A:Option Addr) (c:Nat) (rs:List ByteArray) (w:World) (f:CodesAt w) (hA:ListAt w w.heap.size 1 A (rs.map AI)) (hn:rs.length<=1000000):
 Calls Tryz.prog 34 #[dsV id a F L B,.slice A rs.length c] w λe w'=>e=.returned (.bool (rs.all λr=>Di F L r.size))/\Grew w w':=by
 have d:=(iW w).alloc (.cells (dsC id a F L B) 29);have g:=ik w 29 (dsC id a F L B) rfl;have HF:=zh (Fe id a F L B _ (f.grew d));have h:=zh g;have m:=zh d;have HA:=zh hA;have HE:=zh (en rs λr=>Di F L r.size);clear f d g hA;go_enter Tryz.func34,Tryz.ntmps34;go_wp2_with (refine AJ rfl 29 _ rfl w.heap.size rfl 29 _ _ h Tryz.underlying29 rfl Bj ?_);refine HF.mono ?_;rintro e w1 ⟨fv,fp,fu,uc,fa,rfl,-,-,-,l,g1⟩;have i:=zh ((m.out.trans g1).alloc (.cells #[fn0 fa] 110));have j:=(h.grew g1).alloc (.cells #[fn0 fa] 110);have k:=ik w1 110 #[fn0 fa] rfl;have HC:=zh (Sg A c rs (λr=>!Di F L r.size) 70 #[.pointer (some ⟨w1.heap.size,0,none⟩),.pointer (some ⟨w.heap.size,0,none⟩)] _ OX (AG HA i) hn (λr _=>Tt id a F L B fa w1.heap.size w.heap.size r _ k j l));obtain ⟨b,hb⟩:∃b,(rs.any λr=>!Di F L r.size)=b:=⟨_,rfl⟩;rw [hb] at HC HE;clear l g1 j k hb;have n:=fk w1 (fn0 fv) (fn0 fp) (.func (.func fu) #[] uc) (FW F) (fn0 fa);go_wp2_with fail;refine HC.mono ?_;rintro e w2 ⟨rfl,rfl⟩;go_wp2_with fail;go_ret;exact ⟨AC (by rw [<-HE.out]),i⟩
theorem JV (W:World) (g n:Nat) (hb:Blk W g 5 (Array.replicate n (.int .u8 0))):(convert 74 9 (.slice (some ⟨g,0,none⟩) n n)).run Tryz.prog W=.ok (.string (AO n)) W:=by
 refine I1 W g n n (AO n) (BS n) (λj hj=>?_)
 have hz:(AO n)[j]'hj=0:=by
  show (List.replicate n (0:UInt8)).toArray[j]'_=0;simp
 rw [hz];rw [BS] at hj;rw [hb.cell j,Array.getElem?_replicate,if_pos hj];rfl
theorem Ps (s:ByteArray) (w:World) (hs:s.size<=128):Calls Tryz.prog 72 #[.string s] w λe w'=>e=.returned (.string (En s))/\Grew w w':=by
 obtain ⟨m,hm⟩:∃m,128 - s.size=m:=⟨_,rfl⟩;have c:128 - (s.size:Int)=(m:Int):=oo;have HE:=zh (show En s=s++AO m from by unfold En;rw [hm]);have d:(Instr.makeSlice 74 (.int .i64 (m:Int)) (.int .i64 (m:Int))).run Tryz.prog w=.ok (.slice (some ⟨w.heap.size,0,none⟩) m m) (w.alloc (.cells (Array.replicate m (.int .u8 0)) 5)):=ET w m Tryz.underlying74 MR rfl oo oo;have b:=JV (w.alloc (.cells (Array.replicate m (.int .u8 0)) 5)) w.heap.size m (ik w 5 _ rfl);have hz:(AO m).size=m:=BS m;obtain ⟨z,a⟩:∃z,AO m=z:=⟨_,rfl⟩;rw [a] at b HE hz;clear hm a;go_enter Tryz.func72,Tryz.ntmps72;go_wp2_with fail;go_ret;exact ⟨DL (by rw [HE.out]),gG⟩

theorem Iq {P:Program} {o:Oper} {a:Act} {w:World} {K:Act->World->Prop} {Q:Exit->Act->World->Prop} (ty:TypeId) (x:Operand) (ho:o.op=.load ty x)
 (g:Nat) (hx:a.eval x=.pointer (some ⟨g,0,none⟩)) (t:TypeId) (cs:Array Value) (d:TypeDesc) (hb:Blk w g t cs)
 (hu:P.underlying ty=some d) (hd:(match d with | .struct _ | .array _ _=>true | _=>false)=true) (hi:(P.info? ty).map (·.size)=some cs.size)
 (h:K (a.put o.dst (.agg cs)) w):o.wp P a w K Q:=by
 unfold Oper.wp execOp;simp only [ho,hx,Instr.loadAt,Instr.sureAddr,Sem.run_bind,Sem.run_pure,Result.andThen_ok,run_loadVar_row w g t ty cs (0,0) d hb hu hd hi];exact h
theorem AZ:(Tryz.prog.info? 64).map (·.size)=some 4:=qk
abbrev cntV (app:Int) (rv bv:Value) (s:ByteArray):Value:=.agg #[.int .i64 app,rv,bv,.string s]
theorem cC (W:World) (n:Nat) (hn:n<=65535):(convert 74 9 (.slice (some ⟨W.heap.size,0,none⟩) 2 2)).run Tryz.prog (W.alloc (.cells #[.int .u8 ((n:Int) % 256),.int .u8 ((n:Int) / 256)] 5))=.ok (.string ⟨#[b8 n,b8 (n / 256)]⟩) (W.alloc (.cells #[.int .u8 ((n:Int) % 256),.int .u8 ((n:Int) / 256)] 5)):=by
 refine I1 _ _ 2 2 ⟨#[b8 n,b8 (n / 256)]⟩ rfl (λj hj=>?_);have hb:=ik W 5 #[.int .u8 ((n:Int) % 256),.int .u8 ((n:Int) / 256)] rfl;have a:j<2:=hj;rw [hb.cell j];rcases (show j=0\/j=1 by omega) with rfl | rfl
 . show some (Value.int .u8 ((n:Int) % 256))=some (.int .u8 (((b8 n).toNat:Nat):Int));rw [show (b8 n).toNat=n % 256 from by unfold b8;simp];rfl
 . show some (Value.int .u8 ((n:Int) / 256))=some (.int .u8 (((b8 (n / 256)).toNat:Nat):Int));rw [show (b8 (n / 256)).toNat=n / 256 from by unfold b8;simp;omega];rfl
theorem W9 {bs:List ByteArray} {k:Nat} (hk:k<bs.length):BB (bs.take (k+1))=BB (bs.take k)++Ir bs[k]:=by
 rw [ic hk,Gw];congr 1;exact j3
theorem QA (id a F L B app:Int) (A:Option Addr) (c:Nat) (rs:List ByteArray) (w:World) (E:CodesAt w) (C:bd L B) (hA:ListAt w w.heap.size 1 A (rs.map AI)) (hc:rs.length<=c) (X:c<=9223372036854775807) (hn:rs.length<=1000000) (G:∀r∈rs,r.size<=1000000)
 (D:∀b∈BI F L B rs,b.size<=65535) (Y:(BB (BI F L B rs)).size<=1000000000) (Z:(BI F L B rs).length<=1000000000):
 Calls Tryz.prog 35 #[dsV id a F L B,.int .i64 app,.slice A rs.length c] w λe w'=>∃v,e=.returned (cntV app (.slice A rs.length c) v (BB (BI F L B rs)))/\OwnL w' w.heap.size 9 1 v ((BI F L B rs).map AI)/\Grew w w':=by
 have H:=((iW w).alloc (.cells (dsC id a F L B) 29)).alloc (.cells #[.int .i64 0,.slice none 0 0,.slice none 0 0,.string ⟨#[]⟩] 64);have I:=(ik w 29 (dsC id a F L B) rfl).alloc (.cells #[.int .i64 0,.slice none 0 0,.slice none 0 0,.string ⟨#[]⟩] 64);have J:=ik (w.alloc (.cells (dsC id a F L B) 29)) 64 #[.int .i64 0,.slice none 0 0,.slice none 0 0,.string ⟨#[]⟩] (n:=w.heap.size+1) qs;have HF:=zh (λw1 (g:Grew w w1)=>Fe id a F L B w1 (E.grew g));have ad:=zh C;have HA:=zh hA;have m:=zh (And.intro G D);have o:=zh H;have K:=zh J;have d:=zh I;obtain ⟨bl,y⟩:∃z,BI F L B rs=z:=⟨_,rfl⟩;have af:=zh y;rw [y] at Y Z m ⊢;clear E C hA G D H I J y;go_enter Tryz.func35,Tryz.ntmps35;go_wp2_with fail;obtain ⟨W0,R⟩:∃W,W=(w.alloc (.cells (dsC id a F L B) 29)).alloc (.cells #[.int .i64 0,.slice none 0 0,.slice none 0 0,.string ⟨#[]⟩] 64):=⟨_,rfl⟩;rw [<-R] at d o K ⊢;clear R;have hSw:∀w',Blk w' w.heap.size 29 (dsC id a F L B)->(λw':World=>Blk w' w.heap.size 29 (dsC id a F L B)/\w'.cell? ⟨w.heap.size,3,none⟩=some (.int .i64 L)/\w'.cell? ⟨w.heap.size,4,none⟩=some (.int .i64 B)/\w.heap.size<w'.heap.size) w':=λw' h=>⟨h,h.cell 3,h.cell 4,h.lt⟩;have q:=zh hSw;clear hSw;refine AB [] (λw':World=>Blk w' w.heap.size 29 (dsC id a F L B)/\w'.cell? ⟨w.heap.size,3,none⟩=some (.int .i64 L)/\w'.cell? ⟨w.heap.size,4,none⟩=some (.int .i64 B)/\w.heap.size<w'.heap.size) qk ?_;have hS:=q.out W0.drew d.drew;refine tQ 3 16 ?_;refine tT 4 (some 17) hS ?_;refine tQ 5 18 ?_;refine tT 6 (some 19) hS ?_;refine tQ 7 20 ?_;refine tO 0 λK' hK=>?_;refine Iq 29 _ rfl w.heap.size rfl 29 _ _ d.drew Tryz.underlying29 rfl Bj ?_;refine hK.out _ _ (.inr (λh=>h)) ?_;clear hK;refine tO 1 λK' hK=>?_;go_wp2_with fail;refine (HF _ o.drew).mono ?_;rintro e w1 ⟨fv,fp,fu,uc,fa,rfl,-,u,-,-,g1⟩;have s:=zh (o.drew.trans g1);have M:=zh (d.drew.grew g1);have ag:=zh (K.drew.grew g1);have al:=zh u.2;have an:=λW=>fj W (fn0 fv) (fn0 fp) (.func (.func fu) #[] uc) (FW F) (fn0 fa);have hE:=u.1;unfold CF at hE;clear g1 u;go_wp2_with fail;refine hK.out _ _ (.inr (λ_=>q w1 M)) ?_;clear hK;refine tO 2 λK' hK=>?_;go_wp2_with fail;refine hK.out _ _ (.inr (λh=>h)) ?_;clear hK;refine tO 8 λK' hK=>?_;go_wp2_with fail;refine (al L B A c rs w1 (iW _) ad (AG HA s) hc X hn m.1).mono ?_;rintro e w2 ⟨v,er,rfl,j,g2⟩;have ap:=zh (s.out.trans g2);have N:=zh (ag.grew g2);rw [af.out] at j;obtain ⟨A7,c7,S,a7,bf,a8⟩:=j.listAt;rw [iY] at S a7;subst S;have av:=zh (j.mono (base':=w.heap.size) s.size);have O:=M.grew g2;clear g2 j a8 hE an;go_wp2_with fail;refine hK.out _ _ (.inr (λ_=>q w2 O)) ?_;clear hK O;refine tQ 9 12 ?_;refine tQ 10 22 ?_;refine tQ 11 23 ?_;refine tQ 12 7 ?_;refine tQ 13 8 ?_;refine AA qk ?_ _;clear hS;have aw:=zh (ap.alloc (.cells #[.int .i64 app,.slice A rs.length c,.slice A7 bl.length c7,.string ⟨#[]⟩] 64));have P:=zh (ik w2 64 #[.int .i64 app,.slice A rs.length c,.slice A7 bl.length c7,.string ⟨#[]⟩] rfl);have a0:=zh (N.alloc (.cells #[.int .i64 app,.slice A rs.length c,.slice A7 bl.length c7,.string ⟨#[]⟩] 64));have a1:=zh (av.alloc (.cells #[.int .i64 app,.slice A rs.length c,.slice A7 bl.length c7,.string ⟨#[]⟩] 64));have a2:w.heap.size+2<=w2.heap.size:=by have:=N.out.lt;omega
 obtain ⟨gc,T⟩:∃z,w2.heap.size=z:=⟨_,rfl⟩;go_wp2_with fail;rw [T] at P a2;clear T
 go_loopg [30] bl.length (λgk iv wr=>∃k:Nat,k<=bl.length/\gk=bl.length - k/\iv=.int .i64 k/\Blk wr gc 64 #[.int .i64 app,.slice A rs.length c,.slice A7 bl.length c7,.string (BB (bl.take k))]/\Blk wr (w.heap.size+1) 64 #[.int .i64 0,.slice none 0 0,.slice none 0 0,.string ⟨#[]⟩]/\OwnL wr w.heap.size 9 1 (.slice A7 bl.length c7) (bl.map AI)/\Grew w wr)
 case atStart=>exact ⟨0,oo,oo,rfl,by rw [take_zero];exact P.out,a0,a1,aw⟩
 case round=>
  obtain ⟨k,hk,U,rfl,h1,h2,h3,h4⟩:=hrel;have a3:=zh U;have HG:=zh h4;have HO:=zh h3;have HR:=zh h2;have HC:=zh h1;clear U h1 h2 h3 h4;by_cases i:k<bl.length
  . obtain ⟨b,bk,a9,bs,bb⟩:=Cx (by have:=HO.listA;exact this) i;subst a9;have Q:=m.2 bl[k] (ib i);have a4:=NR (List.mem_map_of_mem (f:=Ir) (ib i))
    have a5:(BB (bl.take k)).size<=(BB bl).size:=by
     have e:=ix ByteArray.size (ix BB (kK k bl));rw [Gw,io] at e;omega
    have t:=zh (W9 i);obtain ⟨x,hx⟩:∃x,bl[k]=x:=⟨_,rfl⟩;rw [hx] at bb Q t;obtain ⟨st,V⟩:∃z,BB (bl.take k)=z:=⟨_,rfl⟩;rw [V] at HC a5 t;have c3:=HC.cell 3;have cf:=HC.frozen 3;have cl:=HC.out.lt;clear a4 hx V;have a6:=λW=>cC W x.size Q;obtain ⟨hd,l⟩:∃z:ByteArray,(⟨#[b8 x.size,b8 (x.size / 256)]⟩:ByteArray)=z:=⟨_,rfl⟩;have HL:=zh (show Ir x=hd++x from by rw [<-l];rfl);have bc:hd.size=2:=by rw [<-l];rfl
    rw [l] at a6;clear l;go_wp2_with fail
    go_roundg (bl.length - (k+1))
    case measure=>rw [a3.out];omega
    case rel=>exact ⟨k+1,oo,rfl,by go_num,by rw [t.out,HL.out];exact (HC.set_ 3 _).alloc _,(HR.far (p:=⟨gc,3,none⟩) (by show w.heap.size+1≠gc;omega) _).alloc _,(HO.far (p:=⟨gc,3,none⟩) (HO.ne_blk HC qd) _).alloc _,(HG.setCell (p:=⟨gc,3,none⟩) (by show w.heap.size<=gc;omega) _).alloc _⟩
  . obtain rfl:k=bl.length:=oo;rw [j1] at HC;have c0:=HC.cell 0;have c1:=HC.cell 1;have c2:=HC.cell 2;have c3:=HC.cell 3;have cl:=HC.out.lt;go_wp2_with (refine AF rfl 64 _ _ rfl (w.heap.size+1) #[.int .i64 app,.slice A rs.length c,.slice A7 bl.length c7,.string (BB bl)] rfl rfl 64 _ HR rfl AZ (by simp [Value.oneCell']) ?_);refine im (results_cell_row rfl _ _ (w.heap.size+1) 64 _ (0,0) _ rfl (HR.setRow _) Tryz.underlying64 rfl AZ) rfl ?_;exact ⟨_,rfl,HO.farRow (HO.ne_blk HR qd) _,HG.setRow oo _⟩

theorem RL:(Tryz.prog.info? 41).map (·.size)=some 2:=qk
def IL (a c b:Nat):Nat->ByteArray
 | 0=>⟨#[]⟩
 | 1=>eB a
 | 2=>eB a++eB c
 | _=>(eB a++eB c)++eB b
theorem Ny (a c b i:Nat):(IL a c b i).size<=30:=by
 have h1:=BG a;have h2:=BG c;have h3:=BG b
 match i with
 | 0=>exact jL _
 | 1=>show (eB a).size<=30;omega
 | 2=>show (eB a++eB c).size<=30;rw [io];omega
 | k+3=>show ((eB a++eB c)++eB b).size<=30;rw [io,io];omega
theorem P0 (app n:Nat) (A:Option Addr) (c:Nat) (bv:Value) (s:ByteArray) (w:World) (ha:app<=9223372036854775807) (hn:n<=9223372036854775807) (hs:s.size<=9223372036854775807):
 Calls Tryz.prog 36 #[cntV (app:Int) (.slice A n c) bv s] w λe w'=>e=.returned (.agg #[.int .i64 0,.string (BV app n s.size)])/\Grew w w':=by
 have HP:=zh (λ(k i:Nat) w' (h:k<=9223372036854775807)=>Br (IL app n s.size i) k w' oo (by have:=Ny app n s.size i;omega));have HE:=zh (show BV app n s.size=En (IL app n s.size 3) from by show En (eB app++(eB n++eB s.size))=En ((eB app++eB n)++eB s.size);rw [jq]);have d:=zh (λw'=>Ps (IL app n s.size 3) w' (by have:=Ny app n s.size 3;omega));have j:=zh ((((iW w).alloc (.cells #[.int .i64 (app:Int),.slice A n c,bv,.string s] 64)).alloc (.cells #[.int .i64 0,.string ⟨#[]⟩] 41)).alloc (.cells #[.int .i64 (app:Int),.int .i64 (n:Int),.int .i64 (s.size:Int)] 3));have l:=zh ((ik (w.alloc (.cells #[.int .i64 (app:Int),.slice A n c,bv,.string s] 64)) 41 #[.int .i64 0,.string ⟨#[]⟩] (n:=w.heap.size+1) qs).alloc (.cells #[.int .i64 (app:Int),.int .i64 (n:Int),.int .i64 (s.size:Int)] 3));have m:=zh (ik ((w.alloc (.cells #[.int .i64 (app:Int),.slice A n c,bv,.string s] 64)).alloc (.cells #[.int .i64 0,.string ⟨#[]⟩] 41)) 3 #[.int .i64 (app:Int),.int .i64 (n:Int),.int .i64 (s.size:Int)] (n:=w.heap.size+1+1) qs);go_enter Tryz.func36,Tryz.ntmps36;go_wp2_with fail
 go_loopg [3,16] 3 (λgk sv iv wr=>∃i:Nat,i<=3/\gk=3 - i/\iv=.int .i64 (i:Int)/\sv=.string (IL app n s.size i)/\Blk wr (w.heap.size+1+1) 3 #[.int .i64 (app:Int),.int .i64 (n:Int),.int .i64 (s.size:Int)]/\Blk wr (w.heap.size+1) 41 #[.int .i64 0,.string ⟨#[]⟩]/\Grew w wr)
 case atStart=>exact ⟨0,oo,rfl,rfl,rfl,m,l,j⟩
 case round=>
  obtain ⟨i,hi,g,rfl,rfl,h1,h2,h3⟩:=hrel;have b:=zh g;have HN:=zh h1;have HR:=zh h2;have HG:=zh h3;have x0:=h1.cell 0;have x1:=h1.cell 1;have x2:=h1.cell 2;have xl:=h1.lt;clear g h1 h2 h3;rcases (show i=0\/i=1\/i=2\/i=3 by omega) with rfl | rfl | rfl | rfl
  . have HC:=zh (HP app 0 wr ha);obtain ⟨t0,a⟩:∃z,IL app n s.size 0=z:=⟨_,rfl⟩;have HT:=zh (show t0++⟨(enc app).toArray⟩=IL app n s.size (0+1) from by rw [<-a];exact show _=eB app from Hc _);rw [a] at HC ⊢;clear a hi;go_wp2_with fail;refine HC.mono ?_;rintro e w1 ⟨rfl,g1⟩;rw [HT.out];go_wp2_with fail
    go_roundg (3 - (0+1))
    case measure=>rw [b.out];decide
    case rel=>exact ⟨0+1,qd,rfl,by go_num,rfl,HN.grew g1,HR.grew g1,HG.out.trans g1⟩
  . have HC:=zh (HP n 1 wr hn);obtain ⟨t0,a⟩:∃z,IL app n s.size 1=z:=⟨_,rfl⟩;have HT:=zh (show t0++⟨(enc n).toArray⟩=IL app n s.size (1+1) from by rw [<-a];exact rfl);rw [a] at HC ⊢;clear a hi;go_wp2_with fail;refine HC.mono ?_;rintro e w1 ⟨rfl,g1⟩;rw [HT.out];go_wp2_with fail
    go_roundg (3 - (1+1))
    case measure=>rw [b.out];decide
    case rel=>exact ⟨1+1,qd,rfl,by go_num,rfl,HN.grew g1,HR.grew g1,HG.out.trans g1⟩
  . have HC:=zh (HP s.size 2 wr hs);obtain ⟨t0,a⟩:∃z,IL app n s.size 2=z:=⟨_,rfl⟩;have HT:=zh (show t0++⟨(enc s.size).toArray⟩=IL app n s.size (2+1) from by rw [<-a];exact rfl);rw [a] at HC ⊢;clear a hi;go_wp2_with fail;refine HC.mono ?_;rintro e w1 ⟨rfl,g1⟩;rw [HT.out];go_wp2_with fail
    go_roundg (3 - (2+1))
    case measure=>rw [b.out];decide
    case rel=>exact ⟨2+1,qd,rfl,by go_num,rfl,HN.grew g1,HR.grew g1,HG.out.trans g1⟩
  . clear hi;obtain ⟨t0,a⟩:∃z,IL app n s.size 3=z:=⟨_,rfl⟩;rw [a] at d HE ⊢;clear a;go_wp2_with fail;refine (d wr).mono ?_;rintro e w1 ⟨rfl,g1⟩;have f:=HR.grew g1;have o:=zh (HG.out.trans g1);go_wp2_with (refine AF rfl 41 _ _ rfl (w.heap.size+1) #[.int .i64 0,.string (En t0)] rfl rfl 41 _ f rfl RL (by simp [Value.oneCell']) ?_);refine im (results_cell_row rfl _ _ (w.heap.size+1) 41 _ (0,0) _ rfl (f.setRow _) Tryz.underlying41 rfl RL) rfl ?_;exact ⟨by rw [HE.out],o.setRow oo _⟩
theorem Xm (s:ByteArray) (k:Nat) (hk:128*k<s.size):k<(BK s).length/\(BK s)[k]? =some (En ((s.extract (128*k) s.size).extract 0 (min (s.extract (128*k) s.size).size 128))):=by
 have hl:k<Dp s.size:=by unfold Dp;omega
 refine ⟨by rw [Ee];exact hl,?_⟩
 have e:s.extract (128*k) (min s.size (128*k+128))=(s.extract (128*k) s.size).extract 0 (min (s.extract (128*k) s.size).size 128):=by
  rw [ByteArray.extract_extract,i0];congr 1;omega
 unfold BK;rw [iZ,jk hl,Option.map_some,e]
theorem Q8 (s:ByteArray) (k:Nat) (hk:s.size<=128*k):(BK s).length<=k:=by rw [Ee];unfold Dp;omega
theorem Hw (app:Int) (rv bv:Value) (s:ByteArray) (w:World) (hs:s.size<=100000000):
 Calls Tryz.prog 37 #[cntV app rv bv s] w λe w'=>∃v,e=.returned v/\OwnL w' w.heap.size 9 1 v ((BK s).map AI)/\Grew w w':=by
 have i:=zh (λ(x:ByteArray) w' (h:x.size<=128)=>Ps x w' h);have j:=zh ((iW w).alloc (.cells #[.int .i64 app,rv,bv,.string s] 64));go_enter Tryz.func37,Tryz.ntmps37;go_wp2_with fail
 go_loopg [3,4] s.size (λgk ov sv wr=>∃(k:Nat) (t:ByteArray),gk=t.size/\sv=.string t/\t=s.extract (128*k) s.size/\k<=(BK s).length/\OwnL wr w.heap.size 9 1 ov (((BK s).take k).map AI)/\Grew w wr)
 case atStart=>exact ⟨0,s,rfl,rfl,by rw [Nat.mul_zero,ByteArray.extract_zero_size],jL _,by rw [take_zero];exact OwnL.nil _ _ _ _,j⟩
 case round=>
  obtain ⟨k,t,d,rfl,ht,hk,h1,h2⟩:=hrel;have l:=zh d;have HG:=zh h2;have HO:=zh h1;have E:=h2.size;have b:t.size=s.size - 128*k:=by rw [ht,i0];omega
  clear d h1 h2;by_cases h0:t.size=0
  . have n:=Q8 s k oo;have HE:=zh (show (BK s).take k=BK s from i8 n);obtain rfl:=DX h0;clear ht b;go_wp2_with fail;go_ret;exact ⟨_,rfl,by rw [<-HE.out];exact HO.out,HG⟩
  . have F:=Cp h0;obtain ⟨D,a⟩:=Xm s k oo;rw [<-ht] at a;have HT:=zh (show (BK s).take (k+1)=(BK s).take k++[En (t.extract 0 (min t.size 128))] from by rw [List.take_add_one,a];rfl);have o:min (t.size:Int) 128=((min t.size 128:Nat):Int):=oo;obtain ⟨m,hm⟩:∃m,min t.size 128=m:=⟨_,rfl⟩;rw [hm] at HT o;have G:m<=t.size/\m<=128/\1<=m:=oo;have H:(m:Int)<=(t.size:Int):=oo;have I:(t.extract 0 m).size=m:=by rw [i0];omega
    have p:=zh (show t.extract m t.size=s.extract (128*(k+1)) s.size from by
     rw [ht,ByteArray.extract_extract]
     rw [ht,i0] at hm
     rw [i0]
     by_cases hb:128<=s.size - 128*k
     . congr 1<;>omega
     . rw [show 128*k+m=s.size from oo]
       rw [ByteArray.extract_eq_empty_iff.2 oo,ByteArray.extract_eq_empty_iff.2 oo])
    have q:(t.extract m t.size).size=t.size - m:=by rw [i0];omega
    have HC:=zh (i (t.extract 0 m) wr oo);have r:(En (t.extract 0 m)).size=128:=Je oo
    have u:((BK s).take k).length<=1000000:=by
     rw [je,Ee];unfold Dp;omega
    obtain ⟨fx,f⟩:∃z,En (t.extract 0 m)=z:=⟨_,rfl⟩;rw [f] at HC HT r;obtain ⟨dn,g⟩:∃z,(BK s).take k=z:=⟨_,rfl⟩;rw [g] at HO HT u;clear hm f ht a g b;go_wp2_with fail;refine HC.mono ?_;rintro e w1 ⟨rfl,g1⟩;have y:=HO.grew g1;have c:=zh (HG.out.trans g1);have A:w.heap.size<=w1.heap.size:=c.size;clear g1;go_wp2_with (at_builtin;refine AY rfl _ _ 24 rfl _ 9 1 16 _ Tryz.underlying24 BQ rfl qd w1 _ (dn.map AI) (AI fx) (by rfl) rfl rfl y (by first | rfl | (simp;done)) rfl rfl (by rw [iY];omega) (by rw [iY];omega) A ?_;intro v' w8 B C J K)
    go_roundg (t.extract m t.size).size
    case measure=>rw [l.out,q];omega
    case rel=>exact ⟨k+1,t.extract m t.size,rfl,rfl,p,D,by rw [HT.out,il];exact B,C _ c (iX _)⟩

theorem gt (a b:Nat) (ha:a<256) (hb:b<256):bits .or .i64 (b:Int) ((a:Int)*256)=((b+256*a:Nat):Int):=by
 have h1:(b ||| a*2 ^ 8:Nat)=b+a*2 ^ 8:=Nj b a 8 hb;show IntKind.i64.wrap ((BitVec.ofInt 64 (b:Int) ||| BitVec.ofInt 64 ((a:Int)*256)).toNat:Int)=_;rw [show ((a:Int)*256)=((a*256:Nat):Int) from oo,BitVec.ofInt_natCast,BitVec.ofInt_natCast,BitVec.toNat_or,ji,ji,jZ oo,jZ oo,show a*256=a*2 ^ 8 from rfl,h1,IntKind.wrap_i64];omega
theorem ZP (c0 c1:UInt8):bits .or .i64 (wrap64 (c0.toNat:Int)) (wrap64 (wrap64 (c1.toNat:Int)*256))=((c0.toNat+256*c1.toNat:Nat):Int):=by
 have m0:=c0.toNat_lt;have m1:=c1.toNat_lt;rw [Ko (c1.toNat:Int) oo,Ko ((c1.toNat:Int)*256) oo,Ko (c0.toNat:Int) oo];exact gt c1.toNat c0.toNat m1 m0
theorem bI (f:Nat) {s:ByteArray} (h:s.size=0):DR f s=([],true):=by
 cases f with
 | zero=>unfold DR;rw [iq h]
 | succ f=>unfold DR;rw [if_pos h]
theorem UX {f:Nat} {s:ByteArray} (hf:1<=f) (h:s.size≠0) (hb:s.size<2\/s.size<FS s+2):DR f s=([],false):=by
 cases f with
 | zero=>omega
 | succ f=>
   unfold DR;rw [if_neg h];by_cases h1:s.size<2
   . rw [if_pos h1]
   . rw [if_neg h1,if_pos (hb.resolve_left h1)]
theorem Yo {f:Nat} {s:ByteArray} (hf:1<=f) (h:s.size≠0) (h1:¬s.size<2) (h2:¬s.size<FS s+2):DR f s=(s.extract 2 (2+FS s)::(DR (f - 1) (s.extract (2+FS s) s.size)).1,(DR (f - 1) (s.extract (2+FS s) s.size)).2):=by
 cases f with
 | zero=>omega
 | succ f=>
   rw [Nat.add_sub_cancel];show (if s.size=0 then ([],true) else _)=_;rw [if_neg h,if_neg h1,if_neg h2]
def fR (r:List ByteArray × Bool):List ByteArray:=if r.2=true then r.1 else []
theorem bL (s:ByteArray) (w:World) (hs:s.size<=1000000):
 Calls Tryz.prog 104 #[.string s] w λe w'=>∃v,e=.returned (.tuple #[v,.bool (DR s.size s).2])/\OwnL w' w.heap.size 9 1 v ((fR (DR s.size s)).map AI)/\Grew w w':=by
 obtain ⟨a,h⟩:∃z,DR s.size s=z:=⟨_,rfl⟩;have q:=zh h;rw [h];clear h;go_enter Tryz.func104,Tryz.ntmps104;go_wp2_with fail
 go_loopg [0,4] s.size (λgk sv ov wr=>∃(t:ByteArray) (done:List ByteArray) (f:Nat),sv=.string t/\gk=t.size/\t.size<=f/\done.length+t.size<=s.size/\a=(done++(DR f t).1,(DR f t).2)/\OwnL wr w.heap.size 9 1 ov (done.map AI)/\Grew w wr)
 case atStart=>exact ⟨s,[],s.size,rfl,rfl,iX _,qs,q.out.symm,OwnL.nil _ _ _ _,iW _⟩
 case round=>
  obtain ⟨t,done,f,rfl,p,h1,h2,h3,h4,h5⟩:=hrel;have HX:=zh (And.intro h3 (And.intro h4 h5));have r:=zh p;have I:=h5.size;clear p h3 h4 h5;by_cases ht:t.size=0
  . obtain rfl:=DX ht;have HE:=zh (show a=(done,true) from by rw [HX.out.1,bI f (s:=⟨#[]⟩) rfl,append_nil]);go_wp2_with fail;refine im (by first | (simp [*,results,Tryz.results104,go_sem];rfl) | simp [*,results,Tryz.results104,go_sem]) rfl ?_;exact ⟨_,by rw [HE.out],by rw [HE.out];exact HX.2.1,HX.2.2⟩
  . have J:=Cp ht;have HB:=zh (λhb=>(show a.2=false from by rw [HX.out.1,UX (f:=f) oo ht hb]));by_cases o:t.size<2
    . have HE:=zh (HB (.inl o));have u:(t.size:Int)<2:=oo;clear HB;go_wp2_with fail;refine im (by first | (simp [*,results,Tryz.results104,go_sem];rfl) | simp [*,results,Tryz.results104,go_sem]) rfl ?_;exact ⟨_,by rw [HE.out],by unfold fR;rw [HE.out];exact OwnL.nil _ _ _ _,HX.2.2⟩
    . have u:¬(t.size:Int)<2:=oo;have k0:0<t.size:=oo;have k1:1<t.size:=oo;obtain ⟨c0,G⟩:∃c,t[0]'k0=c:=⟨_,rfl⟩;obtain ⟨c1,H⟩:∃c,t[1]'k1=c:=⟨_,rfl⟩;have d:FS t=c0.toNat+256*c1.toNat:=by unfold FS;rw [E4 k0,E4 k1,G,H]
      have x:c0.toNat+256*c1.toNat<=65535:=by
       have m0:=c0.toNat_lt;have m1:=c1.toNat_lt;omega
      have g:=zh (ZP c0 c1);rw [d] at HB;have HM:=zh (λh9=>Yo (f:=f) (s:=t) oo ht o h9);rw [d] at HM;obtain ⟨n,hn⟩:∃n,c0.toNat+256*c1.toNat=n:=⟨_,rfl⟩;rw [hn] at g HB HM x;clear d hn;by_cases hb:t.size<n+2
      . have HE:=zh (HB (.inr hb));have y:(t.size:Int) - 2<(n:Int):=oo;clear HB HM hb;go_wp2_with fail
        go_quiet (fail)
        rw [g.out];go_wp2_with fail;refine im (by first | (simp [*,results,Tryz.results104,go_sem];rfl) | simp [*,results,Tryz.results104,go_sem]) rfl ?_;exact ⟨_,by rw [HE.out],by unfold fR;rw [HE.out];exact OwnL.nil _ _ _ _,HX.2.2.drewN _⟩
      . have y:¬(t.size:Int) - 2<(n:Int):=oo;have q1:(2:Int)<=2+(n:Int):=oo;have q2:2+(n:Int)<=(t.size:Int):=oo;have k:=zh (show a=((done++[t.extract 2 (2+n)])++(DR (f - 1) (t.extract (2+n) t.size)).1,(DR (f - 1) (t.extract (2+n) t.size)).2) from by rw [HX.out.1,HM.out hb,jK];rfl);have A:(t.extract (2+n) t.size).size=t.size - (2+n):=by rw [i0];omega
        obtain ⟨b,i⟩:∃z,t.extract 2 (2+n)=z:=⟨_,rfl⟩;rw [i] at k;have B:=zh i;clear HB HM hb i;go_wp2_with fail
        go_quiet (fail)
        rw [g.out];obtain ⟨wq,j⟩:∃W,W=wr.drewN nq:=⟨_,rfl⟩;have l:=zh (show Grew wr wq from by rw [j];exact (iW _).drewN _);rw [<-j];clear j;have C:=zh (HX.2.1.grew l);have m:=zh (HX.2.2.trans l);have D:w.heap.size<=wq.heap.size:=m.size;go_wp2_with (at_builtin;refine AY rfl _ _ 24 rfl _ 9 1 16 _ Tryz.underlying24 BQ rfl qd wq _ (done.map AI) (AI (t.extract 2 (2+n))) (by rfl) rfl rfl C (by first | rfl | (simp;done)) rfl rfl (by rw [iY];omega) (by rw [iY];omega) D ?_;intro v' w8 E F K L)
        go_roundg (t.extract (2+n) t.size).size
        case measure=>rw [r.out,A];omega
        case rel=>exact ⟨t.extract (2+n) t.size,done++[b],f - 1,rfl,rfl,oo,by rw [iy,ju];omega,k,by rw [il,<-B.out];exact E,F _ m (iX _)⟩
abbrev pgV (A:Option Addr) (n c:Nat):Value:=.iface 25 (.slice A n c)
theorem VC (A:Option Addr) (c:Nat) (l:List ByteArray) (n:Nat) (w:World) (hA:ListAt w w.heap.size 1 A (l.map AI)) (hl:l.length<=1000000):
 Calls Tryz.prog 256 #[.slice A l.length c,.int .i64 (n:Int)] w λe w'=>e=.returned (.tuple #[.string (l[n]?.getD nilB),.int .i64 (if n<l.length then 0 else 2)])/\w'=w:=by
 by_cases a:n<l.length
 . obtain ⟨b,f,rfl,g,d⟩:=Cx hA a;have hi:¬(l.length:Int)<=(n:Int):=oo;rw [iV a,if_pos a];obtain ⟨x,hx⟩:∃x,l[n]=x:=⟨_,rfl⟩;rw [hx] at d ⊢;clear hx hA;go_enter Tryz.func256,Tryz.ntmps256;go_wp2_with fail;refine im (by first | (simp [*,results,Tryz.results256,go_sem];rfl) | simp [*,results,Tryz.results256,go_sem]) rfl ?_;exact ⟨rfl,rfl⟩
 . have hi:(l.length:Int)<=(n:Int):=oo;have HE:=zh (show l[n]?.getD nilB=nilB from by rw [jb oo];rfl);rw [if_neg a];clear hA;go_enter Tryz.func256,Tryz.ntmps256;go_wp2_with fail;refine im (by first | (simp [*,results,Tryz.results256,go_sem];rfl) | simp [*,results,Tryz.results256,go_sem]) rfl ?_;exact ⟨by first | (rw [HE.out];done) | (rw [HE.out];rfl),rfl⟩
theorem Nf (A:Option Addr) (n c:Nat) (w:World):(method (Tryz.prog.types.size+Made.depth) 25 (.slice A n c) "Page").run Tryz.prog w=.ok (256,.slice A n c) w:=qk
theorem Rm (A:Option Addr) (c:Nat) (l:List ByteArray) (n:Nat) (w:World) (hA:ListAt w w.heap.size 1 A (l.map AI)) (hl:l.length<=1000000) (hs:∀s∈l,s.size<=1000000):
 Calls Tryz.prog 27 #[pgV A l.length c,.int .i64 (n:Int)] w λe w'=>e=.returned (.tuple #[.string (pgP l n).1,.int .i64 (pgP l n).2])/\w'=w:=by
 have HP:=zh (VC A c l n w hA hl);have hm:=Nf A l.length c;by_cases a:n<l.length
 . have b:=hs l[n] (ib a);have HG:=zh (show pgP l n=if l[n].size=128 then (l[n],0) else (nilB,11) from by unfold pgP;rw [iV a]);rw [iV a,if_pos a] at HP;obtain ⟨x,hx⟩:∃x,l[n]=x:=⟨_,rfl⟩;rw [hx] at b HG HP;clear hx hA hs a;by_cases h8:x.size=128
   . have HE:=zh (show pgP l n=(x,0) from by rw [HG.out,if_pos h8]);have d:((x.size:Int) != 128)=false:=by rw [h8];rfl
     have f:(x.size:Int)=128:=oo;clear HG;go_enter Tryz.func27,Tryz.ntmps27;go_wp2_with fail;refine HP.mono ?_;rintro e w1 ⟨rfl,rfl⟩;go_wp2_with fail;refine im (by first | (simp [*,results,Tryz.results27,go_sem];rfl) | simp [*,results,Tryz.results27,go_sem]) rfl ?_;exact ⟨by first | (rw [HE.out];done) | (rw [HE.out];rfl),rfl⟩
   . have HE:=zh (show pgP l n=(nilB,11) from by rw [HG.out,if_neg h8]);have d:((x.size:Int) != 128)=true:=by rw [jH];omega
     have f:¬(x.size:Int)=128:=oo;clear HG;go_enter Tryz.func27,Tryz.ntmps27;go_wp2_with fail;refine HP.mono ?_;rintro e w1 ⟨rfl,rfl⟩;go_wp2_with fail;refine im (by first | (simp [*,results,Tryz.results27,go_sem];rfl) | simp [*,results,Tryz.results27,go_sem]) rfl ?_;exact ⟨by first | (rw [HE.out];done) | (rw [HE.out];rfl),rfl⟩
 . have HE:=zh (show pgP l n=(nilB,2) from by unfold pgP;rw [jb oo]);rw [jb oo,if_neg a] at HP;clear hA hs a;go_enter Tryz.func27,Tryz.ntmps27;go_wp2_with fail;refine HP.mono ?_;rintro e w1 ⟨rfl,rfl⟩;go_wp2_with fail;refine im (by first | (simp [*,results,Tryz.results27,go_sem];rfl) | simp [*,results,Tryz.results27,go_sem]) rfl ?_;exact ⟨by first | (rw [HE.out];done) | (rw [HE.out];rfl),rfl⟩

def hdS (s:ByteArray):Nat->ByteArray × Int
 | 0=>(s,0)
 | 1=>(FH s).2
 | 2=>(Eq s).2
 | _=>(Ej s).2
def U2 (s:ByteArray):Nat->Nat
 | 0=>(FH s).1
 | 1=>(Eq s).1
 | _=>(Ej s).1
def hdA (s:ByteArray):Nat->Array Value
 | 0=>#[.int .i64 0,.int .i64 0,.int .i64 0]
 | 1=>#[.int .i64 ((FH s).1:Int),.int .i64 0,.int .i64 0]
 | 2=>#[.int .i64 ((FH s).1:Int),.int .i64 ((Eq s).1:Int),.int .i64 0]
 | _=>#[.int .i64 ((FH s).1:Int),.int .i64 ((Eq s).1:Int),.int .i64 ((Ej s).1:Int)]
theorem aW (s:ByteArray):∀i,(hdS s i).1.size<=s.size
 | 0=>iX _
 | 1=>Bz s 0 mxN
 | 2=>ij (Bz _ _ mxN) (Bz s 0 mxN)
 | i+3=>ij (Bz _ _ mxN) (ij (Bz _ _ mxN) (Bz s 0 mxN))
theorem QC (s:ByteArray) {i:Nat} (hi:i<3):BR (hdS s i).1 (hdS s i).2 mxN=(U2 s i,hdS s (i+1)):=by
 rcases (show i=0\/i=1\/i=2 by omega) with rfl | rfl | rfl<;>rfl
theorem Lq (A:Option Addr) (c:Nat) (l:List ByteArray) (w:World) (hA:ListAt w w.heap.size 1 A (l.map AI)) (hl:l.length<=1000000) (hs:∀s∈l,s.size<=1000000):
 Calls Tryz.prog 9 #[pgV A l.length c] w λe w'=>e=.returned (.tuple #[.int .i64 ((DM l).1:Int),.int .i64 ((DM l).2.1:Int),.int .i64 ((DM l).2.2.1:Int),.int .i64 (DM l).2.2.2])/\Grew w w':=by
 have HP:=zh (Rm A c l 0 w hA hl hs)
 have D:(pgP l 0).1.size<=1000000:=by
  unfold pgP;split
  . exact jL _
  . rename_i s h;split
    . exact hs s (js h)
    . exact jL _
 have HU:=zh (show DM l=if (pgP l 0).2≠0 then (0,0,0,(pgP l 0).2) else if Q1 (pgP l 0).1=true then ((FH (pgP l 0).1).1,(Eq (pgP l 0).1).1,(Ej (pgP l 0).1).1,0) else (0,0,0,11) from rfl);obtain ⟨⟨s,er⟩,hr⟩:∃z,pgP l 0=z:=⟨_,rfl⟩;rw [hr] at HP HU D;dsimp only at D;clear hA hs hr;rw [show ((0:Nat):Int)=0 from rfl] at HP;by_cases he:er=0
 . subst he;have t:=zh (show DM l=if Q1 s=true then ((FH s).1,(Eq s).1,(Ej s).1,0) else (0,0,0,11) from by rw [HU.out];exact if_neg qs);have d:=zh (show Q1 s=(decide ((hdS s 3).1.size≠0) && decide ((hdS s 3).1=AO (hdS s 3).1.size)) from rfl);clear HU;go_enter Tryz.func9,Tryz.ntmps9;go_wp2_with fail;refine HP.mono ?_;rintro e w1 ⟨rfl,rfl⟩;go_wp2_with fail;refine (GZ s w1).mono ?_;rintro e w2 ⟨g,rfl,Y,g2,B⟩;have P:=zh (g2.alloc (.cells #[.int .i64 0,.int .i64 0,.int .i64 0] 70));have Q:=zh (show Rd _ g s 0 from Blk.alloc B (.cells #[.int .i64 0,.int .i64 0,.int .i64 0] 70));have E:=zh (ik w2 70 #[.int .i64 0,.int .i64 0,.int .i64 0] rfl);have R:g<w2.heap.size:=Blk.lt B;have S:w1.heap.size<=w2.heap.size:=g2.size;obtain ⟨gl,M⟩:∃z,w2.heap.size=z:=⟨_,rfl⟩;rw [M] at E R S;clear g2 B;go_wp2_with fail;clear M
   go_loopg [22] 3 (λgk iv wr=>∃i:Nat,i<=3/\gk=3 - i/\iv=.int .i64 (i:Int)/\Rd wr g (hdS s i).1 (hdS s i).2/\Blk wr gl 70 (hdA s i)/\Grew w1 wr)
   case atStart=>exact ⟨0,oo,rfl,rfl,Q,E,P⟩
   case round=>
    obtain ⟨i,hi,N,rfl,h1,h2,h3⟩:=hrel;have u:=zh N;have HG:=zh h3;have HB:=zh h2;have HR:=zh h1;have F:=aW s i;clear N h1 h2 h3;rcases (show i=0\/i=1\/i=2\/i=3 by omega) with rfl | rfl | rfl | rfl
    . have HC:=zh (CU g (hdS s 0).1 (hdS s 0).2 1099511627776 wr HR oo oo oo);rw [show BR (hdS s 0).1 (hdS s 0).2 1099511627776=(U2 s 0,hdS s (0+1)) from QC s qd] at HC;obtain ⟨n,hn⟩:∃z,U2 s 0=z:=⟨_,rfl⟩;have HN:=zh hn;rw [hn] at HC;clear hi hn;go_wp2_with fail;refine HC.mono ?_;rintro e w3 ⟨rfl,t3,b⟩;have a:=HB.turned t3 (by show ¬gl=g;omega);have f:=zh a;have k:=zh b;have o:=zh (HG.turn t3 (λi hi=>by have:i=g:=hi;omega));have y0:=a.cell 0;have yf:=a.frozen 0;have yl:=a.lt;clear t3 b a;go_wp2_with fail
      go_roundg (3 - (0+1))
      case measure=>rw [u.out];decide
      case rel=>exact ⟨0+1,qd,rfl,by go_num,Blk.far k (by show g≠gl;omega) _,by rw [<-HN.out];exact f.set_ 0 _,o.setCell (p:=⟨gl,0,none⟩) (by show w1.heap.size<=gl;omega) _⟩
    . have HC:=zh (CU g (hdS s 1).1 (hdS s 1).2 1099511627776 wr HR oo oo oo);rw [show BR (hdS s 1).1 (hdS s 1).2 1099511627776=(U2 s 1,hdS s (1+1)) from QC s qd] at HC;obtain ⟨n,hn⟩:∃z,U2 s 1=z:=⟨_,rfl⟩;have HN:=zh hn;rw [hn] at HC;clear hi hn;go_wp2_with fail;refine HC.mono ?_;rintro e w3 ⟨rfl,t3,b⟩;have a:=HB.turned t3 (by show ¬gl=g;omega);have f:=zh a;have k:=zh b;have o:=zh (HG.turn t3 (λi hi=>by have:i=g:=hi;omega));have y0:=a.cell 1;have yf:=a.frozen 1;have yl:=a.lt;clear t3 b a;go_wp2_with fail
      go_roundg (3 - (1+1))
      case measure=>rw [u.out];decide
      case rel=>exact ⟨1+1,qd,rfl,by go_num,Blk.far k (by show g≠gl;omega) _,by rw [<-HN.out];exact f.set_ 1 _,o.setCell (p:=⟨gl,1,none⟩) (by show w1.heap.size<=gl;omega) _⟩
    . have HC:=zh (CU g (hdS s 2).1 (hdS s 2).2 1099511627776 wr HR oo oo oo);rw [show BR (hdS s 2).1 (hdS s 2).2 1099511627776=(U2 s 2,hdS s (2+1)) from QC s qd] at HC;obtain ⟨n,hn⟩:∃z,U2 s 2=z:=⟨_,rfl⟩;have HN:=zh hn;rw [hn] at HC;clear hi hn;go_wp2_with fail;refine HC.mono ?_;rintro e w3 ⟨rfl,t3,b⟩;have a:=HB.turned t3 (by show ¬gl=g;omega);have f:=zh a;have k:=zh b;have o:=zh (HG.turn t3 (λi hi=>by have:i=g:=hi;omega));have y0:=a.cell 2;have yf:=a.frozen 2;have yl:=a.lt;clear t3 b a;go_wp2_with fail
      go_roundg (3 - (2+1))
      case measure=>rw [u.out];decide
      case rel=>exact ⟨2+1,qd,rfl,by go_num,Blk.far k (by show g≠gl;omega) _,by rw [<-HN.out];exact f.set_ 2 _,o.setCell (p:=⟨gl,2,none⟩) (by show w1.heap.size<=gl;omega) _⟩
    . have r:=zh (XG g (hdS s 3).1 (hdS s 3).2 wr HR oo);obtain ⟨s3,C⟩:∃z,(hdS s 3).1=z:=⟨_,rfl⟩;rw [C] at r d HR F;by_cases h0:s3.size=0
      . have HE:=zh (show DM l=(0,0,0,11) from by rw [t.out,if_neg (by rw [d.out];simp [h0])]);have G:((s3.size:Int)==0)=true:=by rw [h0];rfl
        have H:(s3.size:Int)=0:=oo;clear C hi;go_wp2_with fail;refine r.mono ?_;rintro e w3 ⟨rfl,rfl⟩;go_wp2_with fail;refine AB [] (λ_:World=>True) qk ?_;have hS:=(trivial:(λ_:World=>True) wr.drew);refine tQ 0 32 ?_;refine tQ 1 33 ?_;refine tQ 2 34 ?_;refine tU 3 (some 35) ?_;refine tU 4 (some 36) ?_;refine tU 5 (some 37) ?_;refine tU 6 (some 38) ?_;refine tU 7 (some 39) ?_;refine tU 8 (some 40) ?_;refine tQ 9 41 ?_;refine AA qk ?_ _;go_wp2_with fail;refine im (by first | (simp [*,results,Tryz.results9,go_sem];rfl) | simp [*,results,Tryz.results9,go_sem]) rfl ?_;exact ⟨by rw [HE.out];rfl,HG.drew⟩
      . have G:((s3.size:Int)==0)=false:=by rw [it];omega
        have H:¬(s3.size:Int)=0:=oo;have v:=zh (λW (h:Rd W g s3 (hdS s 3).2)=>XC g s3 (hdS s 3).2 W h);obtain ⟨m,hm⟩:∃m,s3.size=m:=⟨_,rfl⟩;have U:m<=1000000:=oo;rw [hm] at r d G H;have T:∀W:World,(Instr.makeSlice 74 (.int .i64 (m:Int)) (.int .i64 (m:Int))).run Tryz.prog W=.ok (.slice (some ⟨W.heap.size,0,none⟩) m m) (W.alloc (.cells (Array.replicate m (.int .u8 0)) 5)):=λW=>ET W m Tryz.underlying74 MR rfl oo oo;have I:=JV (wr.alloc (.cells (Array.replicate m (.int .u8 0)) 5)).drew wr.heap.size m (ik wr 5 _ rfl).drew;have x:=zh (show Rd (wr.alloc (.cells (Array.replicate m (.int .u8 0)) 5)).drew g s3 (hdS s 3).2 from (Blk.alloc HR.out _).drew);have J:=zh (show Rd wr.drew g s3 (hdS s 3).2 from Blk.drew HR.out);have y:=zh (HG.alloc (.cells (Array.replicate m (.int .u8 0)) 5)).drew;have K:=zh (HB.alloc (.cells (Array.replicate m (.int .u8 0)) 5)).drew;have HM:=zh hm;obtain ⟨z,hz⟩:∃z,AO m=z:=⟨_,rfl⟩;have V:z.size=m:=by rw [<-hz];exact BS m
        rw [hz] at I d;clear C hi hm hz F;go_wp2_with fail;refine r.mono ?_;rintro e w3 ⟨rfl,rfl⟩;go_wp2_with fail;refine AB [] (λ_:World=>True) qk ?_;have hS:=(trivial:(λ_:World=>True) wr.drew);refine tQ 0 32 ?_;refine tQ 1 33 ?_;refine tQ 2 34 ?_;refine tQ 3 35 ?_;refine tQ 5 37 ?_;refine Dk (i:=4) (j:=6) rfl rfl qk ?faa ?fab
        case' faa=>
         intro K' hK;rw [if_pos (by rfl)];simp only [jn,jS,ja];go_wp2_with fail;refine (v _ J).mono ?_;rintro e w4 ⟨rfl,rfl⟩;go_wp2_with fail;refine hK.out _ _ (.inr (λh=>h)) ?_;clear hK;refine tO 6 λK' hK=>?_;go_wp2_with fail;refine hK.out _ _ (.inr (λh=>h)) ?_;clear hK;refine tO 7 λK' hK=>?_;go_wp2_with fail;refine hK.out _ _ (.inr (λh=>h)) ?_;clear hK;refine tQ 8 40 ?_;refine tQ 9 41 ?_;refine AA qk ?_ _
        case' fab=>
         intro K' hK;rw [if_pos (by rfl)];simp only [jn,jS,ja];go_wp2_with fail;refine hK.out _ _ (.inr (λh=>h)) ?_;clear hK;refine Dk (i:=4) (j:=7) rfl rfl qk ?fba ?fbb
         case' fba=>
          intro K' hK;rw [if_pos (by rfl)];simp only [jn,jS,ja];go_wp2_with fail;refine (v _ x).mono ?_;rintro e w4 ⟨rfl,rfl⟩;go_wp2_with fail;refine hK.out _ _ (.inr (λh=>h)) ?_;clear hK;refine tO 7 λK' hK=>?_;go_wp2_with fail;refine hK.out _ _ (.inr (λh=>h)) ?_;clear hK;refine tQ 8 40 ?_;refine tQ 9 41 ?_;refine AA qk ?_ _
         case' fbb=>
          intro K' hK;rw [if_pos (by rfl)];simp only [jn,jS,ja];go_wp2_with fail;refine hK.out _ _ (.inr (λh=>h)) ?_;clear hK;refine tO 4 λK' hK=>?_;go_wp2_with fail;refine (v _ x).mono ?_;rintro e w4 ⟨rfl,rfl⟩;go_wp2_with fail;refine hK.out _ _ (.inr (λh=>h)) ?_;clear hK;refine tQ 8 40 ?_;refine tQ 9 41 ?_;refine AA qk ?_ _
        all_goals
         clear hS T I;obtain ⟨W4,O⟩:∃W,W=(wr.alloc (.cells (Array.replicate m (.int .u8 0)) 5)).drew:=⟨_,rfl⟩;rw [<-O] at K y ⊢;clear O x J;by_cases hq:s3=z
         case' neg=>
          have HE:=zh (show DM l=(0,0,0,11) from by
           rw [t.out,if_neg]
           rw [d.out,jF,jG,jG]
           rintro ⟨-,h9⟩
           exact hq h9)
          have L:(s3.toList==z.toList)=false:=by rw [it];exact λh9=>hq (IE h9)
          simp only [L,Bool.not_false];clear hq L;go_wp2_with fail;refine im (by first | (simp [*,results,Tryz.results9,go_sem];rfl) | simp [*,results,Tryz.results9,go_sem]) rfl ?_;exact ⟨by rw [HE.out];rfl,y⟩
         case' pos=>
          have HE:=zh (show DM l=((FH s).1,(Eq s).1,(Ej s).1,0) from by
           rw [t.out,if_pos]
           rw [d.out,jF,jG,jG]
           exact ⟨λh9=>h0 (by rw [HM.out];exact h9),hq⟩)
          subst hq;simp only [beq_self_eq_true,Bool.not_true];have q:=K.out;have b0:=q.cell 0;have b1:=q.cell 1;have b2:=q.cell 2;have bl:=q.lt;clear q;go_wp2_with fail;refine AB [] (λw':World=>w'.cell? ⟨gl,0,none⟩=some (.int .i64 ((FH s).1:Int))/\w'.cell? ⟨gl,1,none⟩=some (.int .i64 ((Eq s).1:Int))/\w'.cell? ⟨gl,2,none⟩=some (.int .i64 ((Ej s).1:Int))/\gl<w'.heap.size) qk ?_;have hS:=(show (λw':World=>w'.cell? ⟨gl,0,none⟩=some (.int .i64 ((FH s).1:Int))/\w'.cell? ⟨gl,1,none⟩=some (.int .i64 ((Eq s).1:Int))/\w'.cell? ⟨gl,2,none⟩=some (.int .i64 ((Ej s).1:Int))/\gl<w'.heap.size) W4.drew from ⟨b0,b1,b2,bl⟩);refine tQ 0 42 ?_;refine tT 1 (some 43) hS ?_;refine tQ 2 44 ?_;refine tT 3 (some 45) hS ?_;refine tQ 4 46 ?_;refine tT 5 (some 47) hS ?_;refine tQ 6 2 ?_;refine tQ 7 3 ?_;refine tQ 8 4 ?_;refine tQ 9 5 ?_;refine AA qk ?_ _;go_wp2_with fail;refine im (by first | (simp [*,results,Tryz.results9,go_sem];rfl) | simp [*,results,Tryz.results9,go_sem]) rfl ?_;exact ⟨by rw [HE.out],y.drew⟩
 . have X:(er != 0)=true:=by rw [jH];exact he
   have HE:=zh (show DM l=(0,0,0,er) from by rw [HU.out];exact if_pos he);clear HU he;go_enter Tryz.func9,Tryz.ntmps9;go_wp2_with fail;refine HP.mono ?_;rintro e w1 ⟨rfl,rfl⟩;go_wp2_with fail;refine im (by first | (simp [*,results,Tryz.results9,go_sem];rfl) | simp [*,results,Tryz.results9,go_sem]) rfl ?_;exact ⟨by rw [HE.out];rfl,iW _⟩

theorem Le {L B:Int} (s:ByteArray):wtS (BM L B s).1<=2*s.size:=by
 unfold BM;split
 . exact jL _
 . split
   . exact jL _
   . rename_i h1 h2;simp only [not_or,Nat.not_lt,jU] at h2;have hm:=Nat.div_add_mod s.size L.toNat;have a:s.size=s.size / L.toNat*L.toNat:=by rw [h2.2.2,jo,Nat.mul_comm] at hm;exact hm.symm
     show wtS (Eo L.toNat s (s.size / L.toNat))<=_;rw [NC L.toNat _ (Mz a),Fn,Nat.mul_add,Nat.mul_one,<-a];have:=Nat.div_le_self s.size L.toNat;omega
theorem P1 (L:Int):∀(f:Nat) (s:ByteArray),wtS (BX L f s).1<=s.size
 | 0,s=>jL _
 | f+1,s=>by
   unfold BX;split
   . exact jL _
   . split
     . exact jL _
     . rename_i h0 h;have ih:=P1 L f (Ao L s).2.1;show (Ao L s).1.size+1+wtS (BX L f (Ao L s).2.1).1<=s.size;unfold Ao at h ih ⊢;split at h
       . exact absurd rfl h
       . rename_i h4;split at h
         . exact absurd rfl h
         . rename_i h5;rw [if_neg h4,if_neg h5] at ih ⊢;simp only [not_or,Nat.not_lt] at h5;simp only at ih ⊢;rw [i0] at ih ⊢;omega
theorem Jj {L B:Int} (s:ByteArray):wtS (Bd L B s).1<=2*s.size:=by
 unfold Bd;split
 . exact jL _
 . split
   . exact jL _
   . split
     . exact jL _
     . split
       . have:=P1 L s.size (s.extract 4 s.size);rw [i0] at this;show wtS (BX L s.size (s.extract 4 s.size)).1<=_;omega
       . exact jL _
theorem N6 (u:ByteArray->List ByteArray × Int) (hu:∀s,wtS (u s).1<=2*s.size):∀bs:List ByteArray,wtS (BC u bs).1<=2*(AP bs).size
 | []=>jL _
 | b::bs=>by
   have h1:=hu b;have h2:=N6 u hu bs;rw [EF,show (AP (b::bs)).size=b.size+(AP bs).size from io];split
   . exact jL _
   . split
     . exact jL _
     . show wtS ((u b).1++(BC u bs).1)<=_;rw [Fg];omega
theorem GD {L B:Int} (bs:List ByteArray):wtS (Bi L B bs).1<=(AP bs).size:=by
 have h1:=MG L B bs;have h2:=N2 L (BT L B bs).1 [] false;rw [show wtS []=0 from rfl] at h2;unfold Bi;split
 . exact jL _
 . split
   . exact jL _
   . split
     . exact jL _
     . split
       . exact jL _
       . show wtS (Bo L [] false (BT L B bs).1).1<=_;omega
theorem eV (F L B:Int) (bs:List ByteArray):wtS (EP F L B bs).1<=2*(AP bs).size:=by
 unfold EP;split
 . exact N6 _ Le bs
 . split
   . exact N6 _ Jj bs
   . exact ij (GD bs) oo
theorem JF {r:ByteArray} {rs:List ByteArray} (h:r∈rs):r.size+1<=wtS rs:=by
 induction rs with
 | nil=>cases h
 | cons x xs ih=>
   show _<=x.size+1+wtS xs;rcases jh.1 h with rfl | h
   . omega
   . have:=ih h;omega
theorem Zs (bs:List ByteArray):bs.length<=(BB bs).size/\(AP bs).size<=(BB bs).size:=by
 induction bs with
 | nil=>exact ⟨iX _,iX _⟩
 | cons b bs ih=>
   rw [Ey,io,EG,show (AP (b::bs)).size=b.size+(AP bs).size from io,jf];omega
theorem KB (m:Nat):∀(f:Nat) (rs:List ByteArray),(BU m f rs).length<=f
 | 0,rs=>iX _
 | f+1,rs=>by
   unfold BU;split
   . exact jL _
   . rw [jf];have:=KB m f (rs.drop m);omega
theorem QB (B:Nat):∀(rs:List ByteArray) (acc:ByteArray),(vGo B acc rs).length<=(if acc.size=0 then 0 else 1)+rs.length
 | [],acc=>by
   unfold vGo;split<;>simp
 | r::rs,acc=>by
   unfold vGo;split
   . rename_i h;have ih:=QB B rs (CH r);rw [if_neg h.1,jf,jf];split at ih<;>omega
   . have ih:=QB B rs (acc++CH r);rw [jf];split at ih<;>split<;>omega
theorem XZ (F L B:Int) (rs:List ByteArray):(BI F L B rs).length<=wtS rs:=by
 have hl:=DC rs;unfold BI;split
 . unfold Ds;split
   . exact jL _
   . split
     . exact jL _
     . exact ij (KB _ _ _) hl
 . split
   . unfold FT;split
     . exact jL _
     . split
       . exact jL _
       . have:=QB B.toNat rs nilB;rw [if_pos (show nilB.size=0 from rfl)] at this;exact ij (by simpa using this) hl
   . exact Oy rs
theorem EY {F L B:Int} (h1:fOk F L B=true) (rs:List ByteArray):(∀b∈BI F L B rs,b.size<=65535)/\(BB (BI F L B rs)).size<=20*wtS rs/\(BI F L B rs).length<=wtS rs:=by
 rcases Classical.em (∀r∈rs,Di F L r.size=true) with h | h
 . have h2:=(Vi h1 h).2;exact ⟨Vw h1 (QZ h1 h),h2,XZ F L B rs⟩
 . rw [cG h];exact ⟨λb hb=>(by cases hb),jL _,jL _⟩
theorem V4 (ps:List ByteArray) {b:Nat} {acc:ByteArray} (h:¬acc.size<b):Da ps b acc=(acc,0):=by
 cases ps with
 | nil=>unfold Da;rw [if_neg h]
 | cons p ps=>unfold Da;rw [if_neg h]
theorem V7 (l:List ByteArray) (n b:Nat) (a:ByteArray) (h:a.size<b):
 ((pgP l n).2=0->Da (l.drop n) b a=Da (l.drop (n+1)) b (a++(pgP l n).1)/\(pgP l n).1.size=128/\n<l.length)/\((pgP l n).2≠0->Da (l.drop n) b a=(nilB,(pgP l n).2)):=by
 by_cases c:n<l.length
 . have e:pgP l n=if l[n].size=128 then (l[n],0) else (nilB,11):=by unfold pgP;rw [iV c]
   rw [jz c,e]
   have e2:Da (l[n]::l.drop (n+1)) b a=if l[n].size=128 then Da (l.drop (n+1)) b (a++l[n]) else (nilB,11):=by
    show (if a.size<b then (if l[n].size=128 then Da (l.drop (n+1)) b (a++l[n]) else (nilB,11)) else (a,0))=_;rw [if_pos h]
   rw [e2];by_cases h8:l[n].size=128
   . rw [if_pos h8,if_pos h8];exact ⟨λ_=>⟨rfl,h8,c⟩,λh9=>absurd rfl h9⟩
   . rw [if_neg h8,if_neg h8];exact ⟨λh9=>(by simp at h9),λ_=>rfl⟩
 . have e:pgP l n=(nilB,2):=by unfold pgP;rw [jb oo]
   rw [e,drop_of_length_le oo];refine ⟨λh9=>(by simp at h9),λ_=>?_⟩;unfold Da;rw [if_pos h]
theorem Km {P:Program} {ops:Array Oper} {rest:List Oper} {op:Oper} {a:Act} {w:World} {Q:Exit->Act->World->Prop} (hwt:Region.wanted op (yielded ops a.tmps)=true) (ty:TypeId) (x:Operand) (ho:op.op=.load ty x)
 (g:Nat) (hx:a.eval x=.pointer (some ⟨g,0,none⟩)) (t:TypeId) (cs:Array Value) (d:TypeDesc) (hb:Blk w g t cs)
 (hu:P.underlying ty=some d) (hd:(match d with | .struct _ | .array _ _=>true | _=>false)=true) (hi:(P.info? ty).map (·.size)=some cs.size)
 (h:wpList P ops Q rest (a.put op.dst (.agg cs)) w):wpList P ops Q (op::rest) a w:=
 wpList_step λK hK=>by
  simp only [hwt,if_true];exact Iq ty x ho g hx t cs d hb hu hd hi (hK _ _ h)
theorem Cs {P:Program} {fn:Func} {p u:Tmp} {ty:TypeId} (h:fn.results=#[.cell p ty,.tmp u]) (a:Array Value) (w:World) (g:Nat) (t:TypeId) (cs:Array Value) (d:TypeDesc) (v:Value)
 (hp:a.getD p undef=.pointer (some ⟨g,0,none⟩)) (hv:a.getD u undef=v) (hg:Blk w g t cs)
 (hu:P.underlying ty=some d) (hd:(match d with | .struct _ | .array _ _=>true | _=>false)=true) (hi:(P.info? ty).map (·.size)=some cs.size):
 (results fn a).run P w=.ok (.tuple #[.agg cs,v]) w:=by
 rw [results_cell_tmp h,hp,hv];simp [asAddr,run_loadVar_row w g t ty cs (0,0) d hg hu hd hi,Result.andThen,Sem.run_pure]

abbrev cnt0:Array Value:=#[.int .i64 0,.slice none 0 0,.slice none 0 0,.string ⟨#[]⟩]
theorem fU (W:World) (a:Int) (b c:Value) (s:ByteArray):(Instr.field 64 (.agg #[.int .i64 a,b,c,.string s]) 2).run Tryz.prog W=.ok c W:=qk
def ReadR (w:World) (r:Cnt × Int) (e:Ending) (w':World):Prop:=
 ∃A1 c1 A2 n2 c2,e=.returned (.tuple #[cntV (r.1.app:Int) (.slice A1 r.1.recs.length c1) (.slice A2 n2 c2) r.1.str,.int .i64 r.2])/\r.1.recs.length<=c1/\c1<=9223372036854775807/\OwnL w' w.heap.size 9 1 (.slice A1 r.1.recs.length c1) (r.1.recs.map AI)/\Grew w w'
theorem ReadR.bad {w w':World} {er:Int} (g:Grew w w'):ReadR w (FZ,er) (.returned (.tuple #[cntV 0 (.slice none 0 0) (.slice none 0 0) ⟨#[]⟩,.int .i64 er])) w':=⟨none,0,none,0,0,rfl,iX _,oo,OwnL.nil _ _ _ _,g⟩
section
variable (id org F L B:Int) (A:Option Addr) (c:Nat) (l:List ByteArray) (w:World)
theorem Pd (H:CodesAt w) (G:bd L B) (al:fOk F L B=true) (hA:ListAt w w.heap.size 1 A (l.map AI)) (hl:l.length<=2600) (hs:∀s∈l,s.size<=1000):
 Calls Tryz.prog 66 #[dsV id org F L B,pgV A l.length c] w (ReadR w (Hr F L B l)):=by
 have C:=((iW w).alloc (.cells (dsC id org F L B) 29)).alloc (.cells cnt0 64);have I:=(ik w 29 (dsC id org F L B) rfl).alloc (.cells cnt0 64);have J:=ik (w.alloc (.cells (dsC id org F L B) 29)) 64 cnt0 (n:=w.heap.size+1) qs;obtain ⟨W0,y⟩:∃W,W=(w.alloc (.cells (dsC id org F L B) 29)).alloc (.cells cnt0 64):=⟨_,rfl⟩;rw [<-y] at C I J;have HH:=zh (Lq A c l W0 (AG hA C) oo (λs h=>by have:=hs s h;omega));have HP:=zh (λn w1 (g:Grew w w1)=>Rm A c l n w1 (AG hA g) oo (λs h=>by have:=hs s h;omega));have HF:=zh (λw1 (g:Grew w w1)=>Fe id org F L B w1 (H.grew g));have cl:=zh (λA c rs w1 (g:Grew w w1)=>QA id org F L B 0 A c rs w1 (H.grew g) G);have co:=zh G;have cp:=zh al;have an:=zh C;have av:=zh J;have cq:=zh I;have HU:=zh (show Hr F L B l=if (DM l).2.2.2≠0 then (FZ,(DM l).2.2.2) else if (Da (l.drop 1) (DM l).2.2.1 nilB).2≠0 then (FZ,(Da (l.drop 1) (DM l).2.2.1 nilB).2) else rdQ F L B (DM l).1 (DM l).2.1 (DM l).2.2.1 (Da (l.drop 1) (DM l).2.2.1 nilB).1 from rfl);obtain ⟨⟨ap,cn,b,er⟩,hh⟩:∃z,DM l=z:=⟨_,rfl⟩;rw [hh] at HH HU;obtain ⟨d,bx⟩:∃z,Hr F L B l=z:=⟨_,rfl⟩;rw [bx] at HU ⊢;clear H G hA hs C I J hh bx al;by_cases he:er=0
 case neg=>
  have K:(er != 0)=true:=by rw [jH];exact he
  have HE:=zh (show d=(FZ,er) from by rw [HU.out];exact if_pos he);clear HU he;go_enter Tryz.func66,Tryz.ntmps66;go_wp2_with fail;rw [<-y];clear y;refine HH.mono ?_;rintro e w1 ⟨rfl,g1⟩;have aw:=av.grew g1;have M:=zh (an.out.trans g1);clear g1;go_wp2_with (refine AF rfl 64 _ _ rfl (w.heap.size+1) cnt0 rfl rfl 64 _ aw rfl AZ (by simp [Value.oneCell']) ?_);refine im (Cs rfl _ _ (w.heap.size+1) 64 _ _ _ rfl rfl (aw.setRow _) Tryz.underlying64 rfl AZ) rfl ?_;rw [HE.out];exact ReadR.bad (M.setRow oo _)
 case pos=>
  subst he;have a0:=zh (show d=if (Da (l.drop 1) b nilB).2≠0 then (FZ,(Da (l.drop 1) b nilB).2) else rdQ F L B ap cn b (Da (l.drop 1) b nilB).1 from by rw [HU.out];exact if_neg qs);clear HU;go_enter Tryz.func66,Tryz.ntmps66;go_wp2_with fail;rw [<-y];clear y;refine HH.mono ?_;rintro e w1 ⟨rfl,g1⟩;have cr:=zh (av.grew g1);have cs:=zh (cq.grew g1);have M:=zh (an.out.trans g1);clear g1;go_wp2_with fail
  go_loopg [10,11] 2600 (λgk sv nv wr=>∃(n:Nat) (a:ByteArray),sv=.string a/\nv=.int .i64 (n:Int)/\1<=n/\n<=2601/\gk=2601 - n/\a.size=128*(n - 1)/\Da (l.drop 1) b nilB=Da (l.drop n) b a/\Blk wr w.heap.size 29 (dsC id org F L B)/\Blk wr (w.heap.size+1) 64 cnt0/\Grew w wr)
  case atStart=>exact ⟨1,⟨#[]⟩,rfl,rfl,oo,oo,rfl,rfl,rfl,cs,cr,M⟩
  case round=>
   obtain ⟨n,a,rfl,rfl,ej,ek,b0,dk,h1,h2,h3,h4⟩:=hrel;have ct:=zh b0;have HX:=zh h1;have HB:=zh h2;have HR:=zh h3;have HG:=zh h4;clear b0 h1 h2 h3 h4;by_cases hc:a.size<b
   . have cu:(a.size:Int)<(b:Int):=oo;obtain ⟨q1,q2⟩:=V7 l n b a hc;rw [<-HX.out] at q1 q2;have HC:=zh (HP n wr HG);obtain ⟨⟨s,ep⟩,hp⟩:∃z,pgP l n=z:=⟨_,rfl⟩;rw [hp] at q1 q2 HC;dsimp only at q1 q2;have N:=zh q1;have f:=zh q2;clear hp q1 q2 hc;by_cases v:ep=0
     . subst v;obtain ⟨z1,z2,z3⟩:=N.out (by trivial);have cv:=zh z1;clear z1 N f;go_wp2_with fail;refine HC.mono ?_;rintro e w2 ⟨rfl,rfl⟩;go_wp2_with fail
       go_roundg (2601 - (n+1))
       case measure=>rw [ct.out];omega
       case rel=>exact ⟨n+1,a++s,rfl,by go_num,oo,oo,rfl,by rw [io];omega,cv,HB,HR,HG⟩
     . have K:(ep != 0)=true:=by rw [jH];exact v
       have HE:=zh (show d=(FZ,ep) from by rw [a0.out,f.out v];exact if_pos v);clear N f v;go_wp2_with fail;refine HC.mono ?_;rintro e w2 ⟨rfl,rfl⟩;go_wp2_with (refine AF rfl 64 _ _ rfl (w.heap.size+1) cnt0 rfl rfl 64 _ HR rfl AZ (by simp [Value.oneCell']) ?_);refine im (Cs rfl _ _ (w.heap.size+1) 64 _ _ _ rfl rfl (HR.setRow _) Tryz.underlying64 rfl AZ) rfl ?_;rw [HE.out];exact ReadR.bad (HG.setRow oo _)
   . have cu:¬(a.size:Int)<(b:Int):=oo;have d3:(b:Int)<=(a.size:Int):=oo;have HQ:=zh (show d=rdQ F L B ap cn b a from by rw [a0.out,HX.out,V4 _ hc];exact if_neg qs);unfold rdQ at HQ;have a1:(a.extract b a.size).size=a.size - b:=by rw [i0];omega
     have cw:(a.extract 0 b).size=b:=by rw [i0];omega
     obtain ⟨m,hm⟩:∃m,a.size - b=m:=⟨_,rfl⟩;rw [hm] at HQ a1;have d4:m<=1000000:=oo;obtain ⟨b1,b2⟩:∃z,a.extract b a.size=z:=⟨_,rfl⟩;obtain ⟨st,V⟩:∃z,a.extract 0 b=z:=⟨_,rfl⟩;rw [b2,V] at HQ;rw [b2] at a1;rw [V] at cw;have cx:∀W:World,(Instr.makeSlice 74 (.int .i64 (m:Int)) (.int .i64 (m:Int))).run Tryz.prog W=.ok (.slice (some ⟨W.heap.size,0,none⟩) m m) (W.alloc (.cells (Array.replicate m (.int .u8 0)) 5)):=λW=>ET W m Tryz.underlying74 MR rfl oo oo;have a2:=JV (wr.alloc (.cells (Array.replicate m (.int .u8 0)) 5)) wr.heap.size m (ik wr 5 _ rfl);have a3:=zh (HB.alloc (.cells (Array.replicate m (.int .u8 0)) 5));have k:=zh (HR.alloc (.cells (Array.replicate m (.int .u8 0)) 5));have o:=zh (HG.alloc (.cells (Array.replicate m (.int .u8 0)) 5));have O:=zh (λW=>bL st W oo);obtain ⟨z,hz⟩:∃z,AO m=z:=⟨_,rfl⟩;rw [hz] at a2 HQ;have d5:=zh V;obtain ⟨⟨bl,b3⟩,X⟩:∃r,DR st.size st=r:=⟨_,rfl⟩;have cy:=zh X;rw [X] at HQ O;have d6:b<=332800:=oo;clear hm hz hc X dk;by_cases hq:b1=z
     case neg=>
      have HE:=zh (show d=(FZ,11) from by rw [HQ.out];exact if_pos hq);have d7:(b1.toList==z.toList)=false:=by rw [it];exact λh9=>hq (IE h9)
      clear hq HQ;go_wp2_with (refine AF rfl 64 _ _ rfl (w.heap.size+1) cnt0 rfl rfl 64 _ k rfl AZ (by simp [Value.oneCell']) ?_);refine im (Cs rfl _ _ (w.heap.size+1) 64 _ _ _ rfl rfl (k.setRow _) Tryz.underlying64 rfl AZ) rfl ?_;rw [HE.out];exact ReadR.bad (o.setRow oo _)
     case pos=>
      subst hq;have f:=zh (show d=if b3=false then (FZ,11) else if (EP F L B bl).2≠0\/(EP F L B bl).1.length≠cn\/BI F L B (EP F L B bl).1≠bl then (FZ,11) else (⟨ap,(EP F L B bl).1,bl,st⟩,0) from by rw [HQ.out];exact if_neg qs);clear HQ;cases b3 with
      | false=>
        have HE:=zh (show d=(FZ,11) from by rw [f.out];exact if_pos rfl);clear f;go_wp2_with fail;refine (O _).mono ?_;rintro e w2 ⟨bt,rfl,-,g2⟩;have a4:=k.grew g2;have D:=zh (o.out.trans g2);clear g2;go_wp2_with (refine AF rfl 64 _ _ rfl (w.heap.size+1) cnt0 rfl rfl 64 _ a4 rfl AZ (by simp [Value.oneCell']) ?_);refine im (Cs rfl _ _ (w.heap.size+1) 64 _ _ _ rfl rfl (a4.setRow _) Tryz.underlying64 rfl AZ) rfl ?_;rw [HE.out];exact ReadR.bad (D.setRow oo _)
      | true=>
        have P:=zh (show d=if (EP F L B bl).2≠0\/(EP F L B bl).1.length≠cn\/BI F L B (EP F L B bl).1≠bl then (FZ,11) else (⟨ap,(EP F L B bl).1,bl,st⟩,0) from by rw [f.out];exact if_neg qs);clear f;go_wp2_with fail;refine (O _).mono ?_;rintro e w2 ⟨bt,rfl,p,g2⟩;have p:OwnL w2 _ 9 1 bt (bl.map AI):=p;obtain ⟨Y,Z,b4,b5,dn,b9⟩:=p.listAt;rw [iY] at b4 b5;subst b4;have cz:=Zs bl;rw [VL _ _ _ cy.out] at cz;have ea:=zh b9;have c0:=zh (p.mono (base':=w.heap.size) o.size);have Q:=zh (a3.grew g2);have c1:=zh (k.grew g2);have D:=zh (o.out.trans g2);have a5:∀w',Blk w' w.heap.size 29 (dsC id org F L B)->(λw':World=>Blk w' w.heap.size 29 (dsC id org F L B)/\w'.cell? ⟨w.heap.size,3,none⟩=some (.int .i64 L)/\w'.cell? ⟨w.heap.size,4,none⟩=some (.int .i64 B)/\w.heap.size<w'.heap.size) w':=λw' h=>⟨h,h.cell 3,h.cell 4,h.lt⟩;have R:=zh a5;clear a5 p g2 b9 a3 k o HB HR HG cx a2;go_wp2_with fail;refine AB [] (λw':World=>Blk w' w.heap.size 29 (dsC id org F L B)/\w'.cell? ⟨w.heap.size,3,none⟩=some (.int .i64 L)/\w'.cell? ⟨w.heap.size,4,none⟩=some (.int .i64 B)/\w.heap.size<w'.heap.size) qk ?_;have hS:=R.out w2.drew Q.drew;refine tQ 3 73 ?_;refine tT 4 (some 74) hS ?_;refine tQ 5 75 ?_;refine tT 6 (some 76) hS ?_;refine tQ 7 77 ?_;refine tO 0 λK' hK=>?_;refine Iq 29 _ rfl w.heap.size rfl 29 _ _ Q.drew Tryz.underlying29 rfl Bj ?_;refine hK.out _ _ (.inr (λh=>h)) ?_;clear hK;refine tO 1 λK' hK=>?_;go_wp2_with fail;refine (HF _ D.drew).mono ?_;rintro e w3 ⟨fv,fp,fu,uc,fa,rfl,-,-,U,-,g3⟩;have a6:=zh (Q.drew.grew g3);have c2:=zh (c1.drew.grew g3);have a7:=zh (D.drew.trans g3);have a8:=zh (c0.drew.grew g3);have c3:=zh U.2;have c4:=λW=>fS W (fn0 fv) (fn0 fp) (.func (.func fu) #[] uc) (FW F) (fn0 fa);have hE:=U.1;unfold CF at hE;clear g3 U;go_wp2_with fail;refine hK.out _ _ (.inr (λ_=>R w3 a6)) ?_;clear hK;refine tO 2 λK' hK=>?_;go_wp2_with fail;refine hK.out _ _ (.inr (λh=>h)) ?_;clear hK;refine tO 8 λK' hK=>?_;go_wp2_with fail;refine (c3 L B Y Z bl w3 (iW _) co a8.listA b5 dn oo oo).mono ?_;rintro e w4 ⟨eh,rfl,x,g4⟩;have a9:=zh (a6.grew g4);have q:=zh (c2.grew g4);have E:=zh (a7.out.trans g4);have c5:=zh (a8.grew g4);have bb:=eV F L B bl;obtain ⟨⟨rs,eu⟩,ca⟩:∃r,EP F L B bl=r:=⟨_,rfl⟩;rw [ca] at x bb P ⊢;dsimp only at x bb ⊢;obtain ⟨ad,af,cb,ag,cc,ds⟩:=x.listAt;rw [iY] at cb ag;subst cb;have bc:=zh (x.mono (base':=w.heap.size) a7.size);have i:=zh (show d=if eu≠0\/rs.length≠cn\/BI F L B rs≠bl then (FZ,11) else (⟨ap,rs,bl,st⟩,0) from P.out);have eb:=DC rs;clear g4 x ds hE c4 ca P;go_wp2_with fail;refine hK.out _ _ (.inr (λ_=>R w4 a9)) ?_;clear hK;refine tQ 9 69 ?_;refine tQ 10 79 ?_;refine tQ 11 80 ?_;refine tQ 12 17 ?_;refine tQ 13 9 ?_;refine AA qk ?_ _;clear hS;by_cases T:eu=0
        case neg=>
         have K:(eu != 0)=true:=by rw [jH];exact T
         have HE:=zh (show d=(FZ,11) from by rw [i.out];exact if_pos (.inl T));clear i
         go_upto_region 21 with fail
         go_wp2_with (refine AF rfl 64 _ _ rfl (w.heap.size+1) cnt0 rfl rfl 64 _ q rfl AZ (by simp [Value.oneCell']) ?_);refine im (Cs rfl _ _ (w.heap.size+1) 64 _ _ _ rfl rfl (q.setRow _) Tryz.underlying64 rfl AZ) rfl ?_;rw [HE.out];exact ReadR.bad (E.setRow oo _)
        case pos=>
         subst T;by_cases bs:rs.length=cn
         case neg=>
          have K:((rs.length:Int) != (cn:Int))=true:=by rw [jH];omega
          have ee:¬(rs.length:Int)=(cn:Int):=oo;have HE:=zh (show d=(FZ,11) from by rw [i.out];exact if_pos (.inr (.inl bs)));clear i
          go_upto_region 21 with fail
          go_wp2_with (refine AF rfl 64 _ _ rfl (w.heap.size+1) cnt0 rfl rfl 64 _ q rfl AZ (by simp [Value.oneCell']) ?_);refine im (Cs rfl _ _ (w.heap.size+1) 64 _ _ _ rfl rfl (q.setRow _) Tryz.underlying64 rfl AZ) rfl ?_;rw [HE.out];exact ReadR.bad (E.setRow oo _)
         case pos=>
          subst bs;obtain ⟨ce,d0,d1⟩:=EY cp rs;have S:=cl.out ad af rs w4 E bc.listA ag cc oo (λr h=>by have:=JF h;omega) ce oo oo;obtain ⟨pk,cf⟩:∃z,BI F L B rs=z:=⟨_,rfl⟩;rw [cf] at S d1 i;have c6:=zh S;clear ce d0 S cf;go_wp2_with (refine Km (by rfl) 29 _ rfl w.heap.size rfl 29 _ _ a9 Tryz.underlying29 rfl Bj ?_);refine c6.mono ?_;rintro e w5 ⟨vb,rfl,bv,g5⟩;obtain ⟨A9,c9,ch,d2,em,ci⟩:=bv.listAt;rw [iY] at ch d2;subst ch;have eg:=λW=>fU W 0 (.slice ad rs.length af) (.slice A9 pk.length c9) (BB pk);have c7:=zh (q.grew g5);have c8:=zh (E.out.trans g5);have da:=zh (c5.grew g5);have dd:=zh (bc.grew g5);have df:=zh (Js pk bl A9 Y c9 Z w5 ci da.listA oo oo);clear bv g5 ci;go_wp2_with fail;refine df.mono ?_;rintro e w6 ⟨rfl,g6⟩;have t:=zh (c7.grew g6);have bf:=zh (c8.out.trans g6);have bk:=zh (dd.grew g6);clear g6;by_cases j:pk=bl
          case neg=>
           have u:decide (pk=bl)=false:=ir j;have HE:=zh (show d=(FZ,11) from by rw [i.out];exact if_pos (.inr (.inr j)));rw [u];clear j u
           go_upto_region 21 with fail
           go_wp2_with (refine AF rfl 64 _ _ rfl (w.heap.size+1) cnt0 rfl rfl 64 _ t rfl AZ (by simp [Value.oneCell']) ?_);refine im (Cs rfl _ _ (w.heap.size+1) 64 _ _ _ rfl rfl (t.setRow _) Tryz.underlying64 rfl AZ) rfl ?_;rw [HE.out];exact ReadR.bad (bf.setRow oo _)
          case pos=>
           have u:decide (pk=bl)=true:=iq j;have HE:=zh (show d=(⟨ap,rs,bl,st⟩,0) from by rw [i.out];exact if_neg (by simp [j]));rw [u];clear j u
           go_upto_region 22 with fail
           go_wp2_with (refine AF rfl 64 _ _ rfl (w.heap.size+1) #[.int .i64 (ap:Int),.slice ad rs.length af,.slice Y bl.length Z,.string st] rfl rfl 64 _ t rfl AZ (by simp [Value.oneCell']) ?_);refine im (Cs rfl _ _ (w.heap.size+1) 64 _ _ _ rfl rfl (t.setRow _) Tryz.underlying64 rfl AZ) rfl ?_;rw [HE.out];exact ⟨_,_,_,_,_,rfl,ag,cc,bk.farRow (bk.ne_blk t qd) _,bf.setRow oo _⟩
end

def EZ (org F L B:Int) (l:List ByteArray):Cnt × Int:=if FX org F L B=true then Hr F L B l else (FZ,1)
theorem Fk {org F L B:Int} (h:FX org F L B=true):fOk F L B=true:=by
 unfold FX at h;simp only [jF] at h;exact h.2.2.1
theorem Wv (id a F L B:Int) (A:Option Addr) (c:Nat) (l:List ByteArray) (w:World) (k:CodesAt w) (j:bd L B) (hA:ListAt w w.heap.size 1 A (l.map AI)) (hl:l.length<=2600) (hs:∀s∈l,s.size<=1000):
 Calls Tryz.prog 26 #[dsV id a F L B,pgV A l.length c] w (ReadR w (EZ a F L B l)):=by
 have f:=((iW w).alloc (.cells (dsC id a F L B) 29)).alloc (.cells cnt0 64);have h:=(ik w 29 (dsC id a F L B) rfl).alloc (.cells cnt0 64);have m:=ik (w.alloc (.cells (dsC id a F L B) 29)) 64 cnt0 (n:=w.heap.size+1) qs;have p:=zh h;obtain ⟨W0,d⟩:∃W,W=(w.alloc (.cells (dsC id a F L B) 29)).alloc (.cells cnt0 64):=⟨_,rfl⟩;rw [<-d] at f h m;have HV:=zh (Hi id a F L B W0 (k.grew f) j);have v:=zh (λ(hok:fOk F L B=true) w1 (g:Grew w w1)=>Pd id a F L B A c l w1 (k.grew g) j hok (AG hA g) hl hs);have q:=zh f;have r:=zh m;have x:=zh h;clear k j hA hs f h m;cases hv:FX a F L B with
 | false=>
   have HE:=zh (show EZ a F L B l=(FZ,1) from by unfold EZ;rw [if_neg (by rw [hv];simp)]);rw [hv] at HV;clear hv;go_enter Tryz.func26,Tryz.ntmps26;go_wp2_with (refine AJ rfl 29 _ rfl w.heap.size rfl 29 _ _ p Tryz.underlying29 rfl Bj ?_);rw [<-d];clear d;refine HV.mono ?_;rintro e w1 ⟨rfl,g1⟩;have t:=r.grew g1;have b:=zh (q.out.trans g1);clear g1;go_wp2_with (refine AF rfl 64 _ _ rfl (w.heap.size+1) cnt0 rfl rfl 64 _ t rfl AZ (by simp [Value.oneCell']) ?_);refine im (Cs rfl _ _ (w.heap.size+1) 64 _ _ _ rfl rfl (t.setRow _) Tryz.underlying64 rfl AZ) rfl ?_;rw [HE.out];exact ReadR.bad (b.setRow oo _)
 | true=>
   have HE:=zh (show EZ a F L B l=Hr F L B l from by unfold EZ;rw [if_pos hv]);have y:=zh (Fk hv);rw [hv] at HV;clear hv;go_enter Tryz.func26,Tryz.ntmps26;go_wp2_with (refine AJ rfl 29 _ rfl w.heap.size rfl 29 _ _ p Tryz.underlying29 rfl Bj ?_);rw [<-d];clear d;refine HV.mono ?_;rintro e w1 ⟨rfl,g1⟩;have C:=zh (r.grew g1);have D:=zh (x.grew g1);have b:=zh (q.out.trans g1);clear g1;go_wp2_with (refine AJ rfl 29 _ rfl w.heap.size rfl 29 _ _ D Tryz.underlying29 rfl Bj ?_);refine (v y w1 b).mono ?_;rintro e w2 ⟨A1,c1,A2,n2,c2,rfl,k1,k2,i,g2⟩;obtain ⟨⟨ct,er⟩,hq⟩:∃z,Hr F L B l=z:=⟨_,rfl⟩;rw [hq] at i HE k1 ⊢;dsimp only at i k1 ⊢;have o:=C.grew g2;have E:=zh (b.out.trans g2);have u:=zh (i.mono (base':=w.heap.size) b.size);clear g2 hq i;go_wp2_with (refine AF rfl 64 _ _ rfl (w.heap.size+1) #[.int .i64 (ct.app:Int),.slice A1 ct.recs.length c1,.slice A2 n2 c2,.string ct.str] rfl rfl 64 _ o rfl AZ (by simp [Value.oneCell']) ?_);refine im (Cs rfl _ _ (w.heap.size+1) 64 _ _ _ rfl rfl (o.setRow _) Tryz.underlying64 rfl AZ) rfl ?_;rw [HE.out];exact ⟨_,_,_,_,_,rfl,k1,k2,u.farRow (u.ne_blk o qd) _,E.setRow oo _⟩

theorem Kl (id a F L B:Int) (A:Option Addr) (c:Nat) (l:List ByteArray) (w:World) (f:CodesAt w) (d:bd L B) (hA:ListAt w w.heap.size 1 A (l.map AI)) (hl:l.length<=2600) (hs:∀s∈l,s.size<=1000):
 Calls Tryz.prog 8 #[dsV id a F L B,pgV A l.length c] w λe w'=>∃A1 c1,e=.returned (.tuple #[.slice A1 (EZ a F L B l).1.recs.length c1,.int .i64 (EZ a F L B l).2])/\(EZ a F L B l).1.recs.length<=c1/\c1<=9223372036854775807/\OwnL w' w.heap.size 9 1 (.slice A1 (EZ a F L B l).1.recs.length c1) ((EZ a F L B l).1.recs.map AI)/\Grew w w':=by
 have b:=(iW w).alloc (.cells (dsC id a F L B) 29);have i:=zh (ik w 29 (dsC id a F L B) rfl);have HO:=zh (Wv id a F L B A c l _ (f.grew b) d (AG hA b) hl hs);have g:=zh b;clear f d hA hs b;obtain ⟨⟨ct,er⟩,hq⟩:∃z,EZ a F L B l=z:=⟨_,rfl⟩;rw [hq] at HO ⊢;clear hq;dsimp only;go_enter Tryz.func8,Tryz.ntmps8;go_wp2_with (refine AJ rfl 29 _ rfl w.heap.size rfl 29 _ _ i Tryz.underlying29 rfl Bj ?_);refine HO.mono ?_;rintro e w1 ⟨A1,c1,A2,n2,c2,rfl,k1,k2,h,g1⟩;have j:=zh ((g.out.trans g1).alloc (.cells #[.int .i64 (ct.app:Int),.slice A1 ct.recs.length c1,.slice A2 n2 c2,.string ct.str] 64));have k:=zh ((h.mono (base':=w.heap.size) g.size).alloc (.cells #[.int .i64 (ct.app:Int),.slice A1 ct.recs.length c1,.slice A2 n2 c2,.string ct.str] 64));clear g1 h;go_wp2_with fail;refine im (by first | (simp [*,results,Tryz.results8,go_sem];rfl) | simp [*,results,Tryz.results8,go_sem]) rfl ?_;exact ⟨_,_,rfl,k1,k2,k,j⟩
theorem LE {w:World} {b1 b2 e1 e2 s1 s2:Nat} {v1 v2:Value} {r1 r2:List (List Value)} (h1:OwnL w b1 e1 s1 v1 r1) (h2:OwnL w b2 e2 s2 v2 r2) (a:e1≠e2):∀g,v1.ownBlock=some g->v2.ownBlock≠some g:=by
 intro g hg;rcases h1.2.2 with ⟨rfl,_⟩ | ⟨g',cap,b,rfl,_,hh,_⟩
 . cases hg
 . have:g'=g:=by simpa [Value.ownBlock] using hg
   subst this;exact h2.ne_blk (t:=e1) (cs:=b) hh (λh=>a h.symm)
def wrF (e:Int × ByteArray):List Value:=[.int .i64 e.1,.string e.2]
def IA:Nat->List ByteArray->List (Int × ByteArray)
 | _,[]=>[]
 | k,s::ss=>((k:Int),s)::IA (k+1) ss
theorem aU (a b:List ByteArray) (k:Nat):IA k (a++b)=IA k a++IA (k+a.length) b:=by
 induction a generalizing k with
 | nil=>rfl
 | cons x a ih=>
   show ((k:Int),x)::IA (k+1) (a++b)=(((k:Int),x)::IA (k+1) a)++IA (k+(a.length+1)) b;rw [ih,show k+1+a.length=k+(a.length+1) by omega];rfl
theorem Wb {l:List ByteArray} {i:Nat} (hi:i<l.length) (k:Nat):IA k (l.take (i+1))=IA k (l.take i)++[(((k+i:Nat):Int),l[i])]:=by
 rw [ic hi,aU,je,Nat.min_eq_left oo];rfl
theorem Mo (l:List ByteArray) (k:Nat):(IA k l).length=l.length:=by
 induction l generalizing k with
 | nil=>rfl
 | cons x l ih=>show (IA (k+1) l).length+1=l.length+1;rw [ih]
theorem NH:(Tryz.prog.info? 41).map (λi=>(i.zero,i.size,i.bytes))=some (some (.agg #[.int .i64 0,.string ⟨#[]⟩]),2,24):=qk
theorem cD {n:Nat} (h:(n:Int)<=mxN):n<=1099511627776:=by unfold mxN at h;omega
theorem VK (id a F L B:Int) (n:Nat) (A:Option Addr) (c:Nat) (rs:List ByteArray) (w:World) (j:CodesAt w) (m:bd L B) (hv:FX a F L B=true) (hn:(n:Int)<=mxN) (hA:ListAt w w.heap.size 1 A (rs.map AI)) (hc:rs.length<=c) (ad:c<=9223372036854775807) (u:∀r∈rs,Di F L r.size=true) (hw:wtS rs<=100000):
 Calls Tryz.prog 10 #[dsV id a F L B,.int .i64 (n:Int),.slice A rs.length c] w λe w'=>∃v,e=.returned (.tuple #[v,.int .i64 0])/\OwnL w' w.heap.size 41 2 v ((IA 0 (DY (Dz F L B n rs))).map wrF)/\Grew w w':=by
 have o:=(iW w).alloc (.cells (dsC id a F L B) 29);have y:=ik w 29 (dsC id a F L B) rfl;have bf:=DC rs;have C:∀r∈rs,r.size<=1000000:=λr h=>by have:=JF h;omega
 obtain ⟨U,a6,a7⟩:=EY (Fk hv) rs;have HV:=zh (Hi id a F L B _ (j.grew o) m);have HN:=zh (λw1=>L6 (n:Int) w1);have D:=zh (λw1 (g:Grew w w1)=>M5 id a F L B A c rs w1 (j.grew g) (AG hA g) oo);have E:=zh (λw1 (g:Grew w w1)=>QA id a F L B (n:Int) A c rs w1 (j.grew g) m (AG hA g) hc ad oo C U oo oo);have af:=zh o;have G:=zh y;have H:(decide (0<=(n:Int)) && decide ((n:Int)<=mxN))=true:=by rw [iq hn];simp
 have I:(rs.all λr=>Di F L r.size)=true:=jN.2 u;rw [hv] at HV;rw [H] at HN;rw [I] at D;have p:=zh (show DY (Dz F L B n rs)=BV n rs.length (BB (BI F L B rs)).size::BK (BB (BI F L B rs)) from rfl);have ag:(BB (BI F L B rs)).size<=2000000:=oo;obtain ⟨st,V⟩:∃z,BB (BI F L B rs)=z:=⟨_,rfl⟩;rw [V] at E p ag;have bk:=cD hn;have J:=Ee st;have bl:(BK st).length<=100000:=by rw [J];unfold Dp;omega
 clear j m hv hA u hw o y C U a6 a7 H I V hn J;go_enter Tryz.func10,Tryz.ntmps10;go_wp2_with (refine AJ rfl 29 _ rfl w.heap.size rfl 29 _ _ G Tryz.underlying29 rfl Bj ?_);refine HV.mono ?_;rintro e w1 ⟨rfl,g1⟩;have K:=zh (G.grew g1);have M:=zh (af.out.trans g1);clear g1;go_wp2_with fail;refine (HN w1).mono ?_;rintro e bt ⟨rfl,rfl⟩;go_wp2_with (refine AJ rfl 29 _ rfl w.heap.size rfl 29 _ _ K Tryz.underlying29 rfl Bj ?_);refine (D _ M).mono ?_;rintro e w2 ⟨rfl,g2⟩;have al:=zh (K.grew g2);have N:=zh (M.out.trans g2);clear g2;go_wp2_with (refine AJ rfl 29 _ rfl w.heap.size rfl 29 _ _ al Tryz.underlying29 rfl Bj ?_);refine (E _ N).mono ?_;rintro e w3 ⟨vb,rfl,S,g3⟩;obtain ⟨A9,c9,t,a8,b0,-⟩:=S.listAt;rw [iY] at t;obtain ⟨n9,W⟩:∃n,(BI F L B rs).length=n:=⟨_,rfl⟩;rw [W] at t;subst t;have O:=zh ((N.out.trans g3).alloc (.cells #[.int .i64 (n:Int),.slice A rs.length c,.slice A9 n9 c9,.string st] 64));have d:=ik w3 64 #[.int .i64 (n:Int),.slice A rs.length c,.slice A9 n9 c9,.string st] rfl;have x0:=d.cell 0;have x1:=d.cell 1;have x2:=d.cell 2;have x3:=d.cell 3;have xl:=d.lt;have an:=zh d;clear g3 S d W a8;go_wp2_with fail;refine (P0 n rs.length A c _ st _ oo oo oo).mono ?_;rintro e w4 ⟨rfl,g4⟩;have P:=zh ((O.out.trans g4).alloc (.cells #[.int .i64 0,.string (BV n rs.length st.size)] 41));have f:=(an.grew g4).alloc (.cells #[.int .i64 0,.string (BV n rs.length st.size)] 41);have ap:=zh (OwnL.lit w4 w.heap.size 41 2 (wrF (0,BV n rs.length st.size)) rfl (O.out.trans g4).size rfl);clear x0 x1 x2 x3 xl;have x0:=f.cell 0;have x1:=f.cell 1;have x2:=f.cell 2;have x3:=f.cell 3;have xl:=f.lt;clear f g4;go_wp2_with fail;refine (Hw (n:Int) _ _ st _ oo).mono ?_;rintro e w5 ⟨vs,rfl,s,g5⟩;obtain ⟨A5,c5,X,a9,b1,-⟩:=s.listAt;rw [iY] at X a9;subst X;have av:=zh (P.out.trans g5);have Q:=zh (ap.grew g5);have aw:=zh (s.mono (base':=w.heap.size) P.size);clear x0 x1 x2 x3 xl s g5;go_wp2_with fail;obtain ⟨hd,Y⟩:∃z,BV n rs.length st.size=z:=⟨_,rfl⟩;rw [Y] at Q p;clear Y
 go_loopg [9,34] (BK st).length (λgk ov iv wr=>∃k:Nat,k<=(BK st).length/\gk=(BK st).length - k/\iv=.int .i64 (k:Int)/\OwnL wr w.heap.size 41 2 ov ((IA 0 ((hd::BK st).take (k+1))).map wrF)/\OwnL wr w.heap.size 9 1 (.slice A5 (BK st).length c5) ((BK st).map AI)/\Grew w wr)
 case atStart=>exact ⟨0,oo,oo,rfl,Q,aw,av⟩
 case round=>
  obtain ⟨k,hk,Z,rfl,h1,h2,h3⟩:=hrel;have a0:=zh Z;have HO:=zh h1;have HL:=zh h2;have HG:=zh h3;have bs:=h3.size;clear Z h1 h2 h3;by_cases a4:k<(BK st).length
  . obtain ⟨b,b2,bb,b3,bc⟩:=Cx HL.listA a4;subst bb;have HT:=zh (Wb (l:=hd::BK st) (i:=k+1) (by rw [jf];omega) 0);rw [show (hd::BK st)[k+1]'(by rw [jf];omega)=(BK st)[k] from rfl] at HT;obtain ⟨x,hx⟩:∃z,(BK st)[k]=z:=⟨_,rfl⟩;rw [hx] at bc HT;have q:((IA 0 ((hd::BK st).take (k+1))).map wrF).length=k+1:=by rw [iY,Mo,je,jf];omega
    have R:(1:Int)+(k:Int)=((0+(k+1):Nat):Int):=oo;have a1:=zh R;have a2:=zh (LE HO HL qd);clear hx R;go_wp2_with (at_builtin;refine Bh rfl _ _ 37 rfl w.heap.size 41 2 24 (.agg #[.int .i64 0,.string ⟨#[]⟩]) Tryz.underlying37 NH rfl qd (wr.alloc (.cells #[.int .i64 (1+(k:Int)),.string x] 41)) _ ((IA 0 ((hd::BK st).take (k+1))).map wrF) [.int .i64 (1+(k:Int)),.string x] rfl (by first | rfl | (simp;done)) (HO.alloc _) wr.heap.size (by first | rfl | (simp;done)) (ik _ _ _ rfl) rfl (by rw [q];omega) (by rw [q];omega) (by simp;omega) (k+1) q ?_;intro g cap w6 a5 T bv bx)
    go_roundg ((BK st).length - (k+1))
    case measure=>rw [a0.out];omega
    case rel=>exact ⟨k+1,oo,rfl,by go_num,by rw [HT.out,il,<-a1.out];exact a5,(HL.alloc _).own T (λg h1 h2=>a2 g h2 h1),Grew.own (HG.alloc _) T HO.row_ge (iX _)⟩
  . obtain rfl:k=(BK st).length:=oo;have a3:=zh (show (hd::BK st).take ((BK st).length+1)=hd::BK st from i8 qs);go_wp2_with fail;refine im (by first | (simp [*,results,Tryz.results10,go_sem];rfl) | simp [*,results,Tryz.results10,go_sem]) rfl ?_;exact ⟨_,rfl,by rw [p.out,<-a3.out];exact HO.out,HG⟩

theorem Ti (A:Option Addr) (c:Nat) (l:List ByteArray) (w:World) (hl:l.length<=1000000) (hr:ListAt w w.heap.size 1 A (l.map AI)):
 Calls Tryz.prog 73 #[.slice A l.length c] w λe w'=>∃v,e=.returned v/\OwnL w' w.heap.size 9 1 v (l.map AI)/\Grew w w':=by
 cases A with
 | none=>
   have h0:l=[]:=by
    rcases Nat.eq_zero_or_pos l.length with h0 | h0
    . exact kI.1 h0
    . obtain ⟨b,i,e,_⟩:=hr (by rw [iY];exact h0);cases e
   subst h0;have a:=λ(W:World)=>Lib.run_eql_slice_nil (P:=Tryz.prog) W 24 9 none 0 c 0 0 Tryz.underlying24;go_enter Tryz.func73,Tryz.ntmps73
   go_wp2
   go_ret;exact ⟨_,rfl,OwnL.nil _ _ _ _,gG⟩
 | some ad=>
   have a:=λ(W:World)=>Lib.run_eql_slice_nil (P:=Tryz.prog) W 24 9 (some ad) l.length c 0 0 Tryz.underlying24;have d:=ListAt.mono (B':=w.heap.size+1) (hr.keep (iX _) ((iW w).alloc (.cells #[] 9))) oo;go_enter Tryz.func73,Tryz.ntmps73;go_wp2_with (at_builtin;refine Ab (by rfl) _ _ 24 rfl w.heap.size 9 1 16 _ Tryz.underlying24 BQ rfl qd _ [] (l.map AI) (by rfl) (OwnL.empty w _ _ _ (iX _) rfl) _ l.length _ (by rfl) qs (Eg _) (by simpa using d) (Ef _) (by simp;omega) (by simp;omega) qs ?_;intro v1 w3 f g h);go_ret;exact ⟨v1,rfl,f,Grew.own ((iW w).alloc _) g (by simp [Value.ownBlock]) (iX _)⟩
theorem Lv {P:Program} {fn:Func} {p q u:Tmp} {ty:TypeId} (h:fn.results=#[.cell p ty,.cell q ty,.tmp u]) (a:Array Value) (w:World) (g g':Nat) (t:TypeId) (cs b:Array Value) (d:TypeDesc) (v:Value)
 (hp:a.getD p undef=.pointer (some ⟨g,0,none⟩)) (hq:a.getD q undef=.pointer (some ⟨g',0,none⟩)) (hv:a.getD u undef=v) (hg:Blk w g t cs) (e:Blk w g' t b)
 (hu:P.underlying ty=some d) (hd:(match d with | .struct _ | .array _ _=>true | _=>false)=true) (hi:(P.info? ty).map (·.size)=some cs.size) (c:(P.info? ty).map (·.size)=some b.size):
 (results fn a).run P w=.ok (.tuple #[.agg cs,.agg b,v]) w:=by
 have f:a[p]?.getD undef=.pointer (some ⟨g,0,none⟩):=by simpa using hp
 have i:a[q]?.getD undef=.pointer (some ⟨g',0,none⟩):=by simpa using hq
 have j:a[u]?.getD undef=v:=by simpa using hv
 simp [results,h,f,i,j,asAddr,run_loadVar_row w g t ty cs (0,0) d hg hu hd hi,run_loadVar_row w g' t ty b (0,0) d e hu hd c,Result.andThen,Sem.run_pure]
theorem KJ {P:Program} {o:Oper} {a:Act} {w:World} (ty:TypeId) (x:Operand) (ho:o.op=.load ty x)
 (g:Nat) (hx:a.eval x=.pointer (some ⟨g,0,none⟩)) (t:TypeId) (cs:Array Value) (d:TypeDesc) (hb:Blk w g t cs)
 (hu:P.underlying ty=some d) (hd:(match d with | .struct _ | .array _ _=>true | _=>false)=true) (hi:(P.info? ty).map (·.size)=some cs.size):(execOp a.eval o).run P w=.ok (.value (.agg cs)) w:=by
 unfold execOp;simp only [ho,hx,Instr.loadAt,Instr.sureAddr,Sem.run_bind,Sem.run_pure,Result.andThen_ok,run_loadVar_row w g t ty cs (0,0) d hb hu hd hi]
theorem JS {P:Program} {o:Oper} {a:Act} {w:World} {K:Act->World->Prop} {Q:Exit->Act->World->Prop} (ty:TypeId) (x y:Operand) (ho:o.op=.store ty x y)
 (g:Nat) (b:Array Value) (hx:a.eval x=.pointer (some ⟨g,0,none⟩)) (hy:a.eval y=.agg b) (t:TypeId) (old:Array Value) (hb:Blk w g t old) (hs:old.size=b.size)
 (hi:(P.info? ty).map (·.size)=some b.size) (h1:b.all (·.oneCell')=true)
 (h:K (a.put o.dst undef) (w.setRow g b)):o.wp P a w K Q:=by
 unfold Oper.wp execOp;simp only [ho,hx,hy,Instr.storeAt,Instr.sureAddr,Sem.run_bind,Sem.run_pure,Result.andThen_ok,run_storeVar_row w g t ty old b hb hi hs h1];exact h
def iG (w:World) (F L B:Int) (n:Nat) (old:Cnt) (ls:List ByteArray) (e:Ending) (w':World):Prop:=
 ∃A1 n1 c1 A2 n2 c2 A3 c3 A4 n4 c4,e=.returned (.tuple #[cntV (old.app:Int) (.slice A1 n1 c1) (.slice A2 n2 c2) old.str,cntV (n:Int) (.slice A3 ls.length c3) (.slice A4 n4 c4) (BB (BI F L B ls)),.int .i64 0])/\Grew w w'
def gp (w:World) (F L B:Int) (n:Nat) (old:Cnt) (ls:List ByteArray) (al:Bool) (e:Ending) (w':World):Prop:=
 (al=true->iG w F L B n old ls e w')/\(al=false->e=.returned (.tuple #[.agg cnt0,.agg cnt0,.int .i64 2])/\Grew w w')
theorem XX (id a F L B:Int) (n:Nat) (A:Option Addr) (c:Nat) (l:List ByteArray) (Ar:Option Addr) (cr:Nat) (rs:List ByteArray) (old:Cnt) (w:World) (f:CodesAt w) (i:bd L B) (hv:FX a F L B=true) (hn:(n:Int)<=mxN) (hA:ListAt w w.heap.size 1 A (l.map AI)) (hl:l.length<=60) (hs:∀s∈l,s.size<=1000)
 (p:ListAt w w.heap.size 1 Ar (rs.map AI)) (ch:rs.length<=1000) (hold:Hr F L B l=(old,0)) (ls:List ByteArray) (o:old.recs++rs=ls) (hw:wtS ls<=100000):
 Calls Tryz.prog 38 #[dsV id a F L B,pgV A l.length c,.int .i64 (n:Int),.slice Ar rs.length cr] w (gp w F L B n old ls (rs.all λr=>Di F L r.size)):=by
 have q:=(((iW w).alloc (.cells (dsC id a F L B) 29)).alloc (.cells cnt0 64)).alloc (.cells cnt0 64);have J:=((ik w 29 (dsC id a F L B) rfl).alloc (.cells cnt0 64)).alloc (.cells cnt0 64);have K:=(ik (w.alloc (.cells (dsC id a F L B) 29)) 64 cnt0 (n:=w.heap.size+1) qs).alloc (.cells cnt0 64);have M:=ik ((w.alloc (.cells (dsC id a F L B) 29)).alloc (.cells cnt0 64)) 64 cnt0 (n:=w.heap.size+1+1) qs;have ci:=DC ls;have N:∀r∈ls,r.size<=1000000:=λr h=>by have:=JF h;omega
 obtain ⟨a3,cc,ce⟩:=EY (Fk hv) ls;have HV:=zh (Hi id a F L B _ (f.grew q) i);have HN:=zh (λw1=>L6 (n:Int) w1);have O:=zh (λw1 (g:Grew w w1)=>M5 id a F L B Ar cr rs w1 (f.grew g) (AG p g) oo);have P:=zh (λw1 (g:Grew w w1)=>Pd id a F L B A c l w1 (f.grew g) i (Fk hv) (AG hA g) oo hs);have bc:=zh (λA3 c3 w1 (g:Grew w w1) (hl3:ListAt w1 w1.heap.size 1 A3 (ls.map AI)) h1 h2=>QA id a F L B (n:Int) A3 c3 ls w1 (f.grew g) i hl3 h1 h2 oo N a3 oo oo);have bf:=zh p;have bk:=zh q;have Q:=zh J;have bl:=zh K;have bs:=zh M;have R:(decide (0<=(n:Int)) && decide ((n:Int)<=mxN))=true:=by rw [iq hn];simp
 rw [hv] at HV;rw [R] at HN;rw [hold] at P;have cl:old.recs.length+rs.length<=100000:=by rw [<-iy,o];omega
 have bt:=zh o;clear o;clear f i hv hA p hs hw q J K M N a3 cc ce R hn hold;obtain ⟨al,a4⟩:∃z,(rs.all λr=>Di F L r.size)=z:=⟨_,rfl⟩;rw [a4] at O ⊢;clear a4;go_enter Tryz.func38,Tryz.ntmps38;go_wp2_with (refine AJ rfl 29 _ rfl w.heap.size rfl 29 _ _ Q Tryz.underlying29 rfl Bj ?_);refine HV.mono ?_;rintro e w1 ⟨rfl,g1⟩;have S:=zh (Q.grew g1);have bv:=zh (bl.grew g1);have bx:=zh (bs.grew g1);have T:=zh (bk.out.trans g1);clear g1;go_wp2_with fail;refine (HN w1).mono ?_;rintro e cn ⟨rfl,rfl⟩;go_wp2_with (refine AJ rfl 29 _ rfl w.heap.size rfl 29 _ _ S Tryz.underlying29 rfl Bj ?_);refine (O _ T).mono ?_;rintro e w2 ⟨rfl,g2⟩;have U:=zh (S.grew g2);have t:=zh (bv.grew g2);have u:=zh (bx.grew g2);have j:=zh (T.out.trans g2);clear g2;cases al with
 | false=>
   have V:=u.farRow (g':=w.heap.size+1) oo cnt0;go_wp2_with (first | (refine AF rfl 64 _ _ rfl (w.heap.size+1) cnt0 rfl rfl 64 _ t rfl AZ (by simp [Value.oneCell']) ?_) | (refine AF rfl 64 _ _ rfl (w.heap.size+1+1) cnt0 rfl rfl 64 _ V rfl AZ (by simp [Value.oneCell']) ?_));refine im (Lv rfl _ _ (w.heap.size+1) (w.heap.size+1+1) 64 _ _ _ _ rfl rfl rfl ((t.setRow _).farRow oo _) (V.setRow _) Tryz.underlying64 rfl AZ AZ) rfl ?_;exact ⟨λh=>(by cases h),λ_=>⟨rfl,(j.setRow oo _).setRow oo _⟩⟩
 | true=>
   go_wp2_with (refine AJ rfl 29 _ rfl w.heap.size rfl 29 _ _ U Tryz.underlying29 rfl Bj ?_);refine (P _ j).mono ?_;rintro e w3 ⟨A1,c1,A2,n2,c2,rfl,k1,k2,G,g3⟩;dsimp only at k1 G ⊢;have k:=zh (ik w3 64 #[.int .i64 (old.app:Int),.slice A1 old.recs.length c1,.slice A2 n2 c2,.string old.str] rfl);have x:=zh ((j.out.trans g3).alloc (.cells #[.int .i64 (old.app:Int),.slice A1 old.recs.length c1,.slice A2 n2 c2,.string old.str] 64));have y:=zh ((U.grew g3).alloc (.cells #[.int .i64 (old.app:Int),.slice A1 old.recs.length c1,.slice A2 n2 c2,.string old.str] 64));have X:=zh ((t.grew g3).alloc (.cells #[.int .i64 (old.app:Int),.slice A1 old.recs.length c1,.slice A2 n2 c2,.string old.str] 64));have Y:=zh ((u.grew g3).alloc (.cells #[.int .i64 (old.app:Int),.slice A1 old.recs.length c1,.slice A2 n2 c2,.string old.str] 64));have Z:=zh ((G.mono (base':=w.heap.size) j.size).alloc (.cells #[.int .i64 (old.app:Int),.slice A1 old.recs.length c1,.slice A2 n2 c2,.string old.str] 64));have b0:w.heap.size+3<=w3.heap.size:=by have:=(u.grew g3).lt;omega
   obtain ⟨W3,I⟩:∃W,W=w3.alloc (.cells #[.int .i64 (old.app:Int),.slice A1 old.recs.length c1,.slice A2 n2 c2,.string old.str] 64):=⟨_,rfl⟩;rw [<-I] at k x y X Y Z;clear g3 G;go_wp2_with fail;rw [<-I];clear I;obtain ⟨gc,a5⟩:∃g,w3.heap.size=g:=⟨_,rfl⟩;rw [a5] at k b0 ⊢;clear a5;have ad:∀w',Blk w' w.heap.size 29 (dsC id a F L B)->Blk w' gc 64 #[.int .i64 (old.app:Int),.slice A1 old.recs.length c1,.slice A2 n2 c2,.string old.str]->(λw':World=>Blk w' w.heap.size 29 (dsC id a F L B)/\w'.cell? ⟨gc,0,none⟩=some (.int .i64 (old.app:Int))/\w'.cell? ⟨gc,1,none⟩=some (.slice A1 old.recs.length c1)/\w'.cell? ⟨gc,2,none⟩=some (.slice A2 n2 c2)/\w'.cell? ⟨gc,3,none⟩=some (.string old.str)/\gc<w'.heap.size) w':=λw' h h2=>⟨h,h2.cell 0,h2.cell 1,h2.cell 2,h2.cell 3,h2.lt⟩;have m:=zh ad;clear ad;refine AB [9,10] (λw':World=>Blk w' w.heap.size 29 (dsC id a F L B)/\w'.cell? ⟨gc,0,none⟩=some (.int .i64 (old.app:Int))/\w'.cell? ⟨gc,1,none⟩=some (.slice A1 old.recs.length c1)/\w'.cell? ⟨gc,2,none⟩=some (.slice A2 n2 c2)/\w'.cell? ⟨gc,3,none⟩=some (.string old.str)/\gc<w'.heap.size) qk ?_;have hS:=m.out W3.drew y.drew k.drew;refine tT 0 (some 40) hS ?_;refine tQ 2 42 ?_;refine tQ 3 43 ?_;refine tT 4 (some 44) hS ?_;refine tQ 6 46 ?_;refine tT 1 (some 41) hS ?_ (v:=dsV id a F L B) (hy:=Or.inl ⟨by rfl,λwS hSw=>KJ 29 _ rfl w.heap.size rfl 29 _ _ hSw.1 Tryz.underlying29 rfl Bj⟩);refine tO 5 λK' hK=>?_;go_wp2_with fail;refine (Ti A1 c1 old.recs W3.drew oo Z.drew.listA).mono ?_;rintro e w4 ⟨v5,rfl,a1,g4⟩;have C:=zh (y.drew.grew g4);have D:=zh (k.drew.grew g4);have af:=zh (X.drew.grew g4);have ag:=zh (Y.drew.grew g4);have E:=zh (x.drew.trans g4);have b:=zh (a1.mono (base':=w.heap.size) x.drew.size);have b1:w.heap.size<=w4.heap.size:=E.size;clear g4 a1;go_wp2_with fail;refine hK.out _ _ (.inr (λ_=>m w4 C D)) ?_;clear hK;refine tO 7 λK' hK=>?_;refine Hj _ _ 24 rfl w.heap.size 9 1 16 _ Tryz.underlying24 BQ rfl qd _ (old.recs.map AI) (rs.map AI) (by rfl) b Ar rs.length cr (by rfl) (by rw [iY]) (Eg _) (AG bf E) (Ef _) (by rw [iY];omega) (by rw [iY];omega) b1 ?_;intro v6 w5 H d cb;rw [<-il,bt.out] at H;have an:=zh (C.own d (b.ne_blk C qd));have ap:=zh (D.own d (b.ne_blk D qd));have b2:=zh (af.own d (b.ne_blk af qd));have b3:=zh (ag.own d (b.ne_blk ag qd));have av:=zh (Grew.own E d b.row_ge (iX _));obtain ⟨A6,c6,a6,a7,cf,a8⟩:=H.listAt;rw [iY] at a6 a7;subst a6;have b4:=zh a8;clear H d cb a8;refine hK.out _ _ (.inr (λ_=>m w5 an ap)) ?_;clear hK;refine tO 8 λK' hK=>?_;go_wp2_with fail;refine (bc A6 c6 w5 av b4 a7 cf).mono ?_;rintro e w6 ⟨vb,rfl,a2,g6⟩;obtain ⟨A9,c9,a9,-,-,-⟩:=a2.listAt;obtain ⟨n9,bb⟩:∃n,(List.map AI (BI F L B ls)).length=n:=⟨_,rfl⟩;rw [bb] at a9;subst a9;have b5:=zh (an.grew g6);have b9:=zh (ap.grew g6);have aw:=b2.grew g6;have a0:=(b3.grew g6).farRow (g':=w.heap.size+1) oo #[.int .i64 (old.app:Int),.slice A1 old.recs.length c1,.slice A2 n2 c2,.string old.str];have ca:=zh (av.out.trans g6);clear g6 a2 bb;go_wp2_with fail;refine hK.out _ _ (.inr (λ_=>m w6 b5 b9)) ?_;clear hK;refine tO 9 λK' hK=>?_;refine JS 64 _ _ rfl (w.heap.size+1) #[.int .i64 (old.app:Int),.slice A1 old.recs.length c1,.slice A2 n2 c2,.string old.str] rfl rfl 64 _ aw rfl AZ (by simp [Value.oneCell']) ?_;refine hK.out _ _ (.inl rfl) ?_;clear hK;refine tO 10 λK' hK=>?_;refine JS 64 _ _ rfl (w.heap.size+1+1) #[.int .i64 (n:Int),.slice A6 ls.length c6,.slice A9 n9 c9,.string (BB (BI F L B ls))] rfl rfl 64 _ a0 rfl AZ (by simp [Value.oneCell']) ?_;refine hK.out _ _ (.inl rfl) ?_;clear hK;refine tQ 11 10 ?_;refine AA qk ?_ _;go_wp2_with fail;refine im (Lv rfl _ _ (w.heap.size+1) (w.heap.size+1+1) 64 _ _ _ _ rfl rfl rfl ((aw.setRow _).farRow oo _) (a0.setRow _) Tryz.underlying64 rfl AZ AZ) rfl ?_;exact ⟨λ_=>⟨_,_,_,_,_,_,_,_,_,_,_,rfl,(ca.setRow oo _).setRow oo _⟩,λh=>(by cases h)⟩

end
end Go.Proofs.YtmcgbdemcknkaaaGreatDoor
