/- Parts of the proof (packed), 22. -/
import Derived.Test.YtfklieeipokllaaGreatCzU
namespace Go.Proofs.YtfklieeipokllaaGreat
set_option linter.all false
set_option maxRecDepth 100000
set_option maxHeartbeats 16000000
open List
section
attribute [local go_sem ↓] Go.wp_at_zero Go.wp_at_succ
open Go.RowKit
section
variable (A:Option Addr) (c:Nat) (xs:List LabE) (T:Tab) (w:World)
theorem P9 (h:TabAt w A c xs T) (hs:SmallT T) (t:Int) (t0:-9223372036854775808<=t) (t1:t<=9223372036854775807):
 Calls Tryz.prog 133 #[.agg #[.string T.name,.int .i64 T.tracks,.slice A T.labels.length c],.int .i64 t] w λe w'=>∃(i:Nat) (j:Int) (b:Bool),e=.returned (.tuple #[.int .i64 i,.int .i64 j,.bool b])/\(b=true->i<T.labels.length)/\Grew w w':=by
 have E:=hs.len;have u:=zh ((gK w).alloc (.cells #[.string T.name,.int .i64 T.tracks,.slice A T.labels.length c] 50));have g:=gZ w 50 #[.string T.name,.int .i64 T.tracks,.slice A T.labels.length c] rfl;have x2:=g.cell 2;have v:=zh h;have HS:=zh hs;clear h hs g;go_enter Tryz.func133,Tryz.ntmps133;go_wp2_with fail
 go_loopg [14] T.labels.length (λgk i wr=>∃k:Nat,k<=T.labels.length/\gk=T.labels.length - k/\i=.int .i64 k/\Grew w wr)
 case atStart=>exact ⟨0,oo,oo,rfl,u⟩
 case round=>
  obtain ⟨k,hk,n,rfl,hg⟩:=hrel;have x:=zh n;have HG:=zh hg;clear n x2;by_cases f:k<T.labels.length
  . obtain ⟨b,G,B,d,l,rfl,H,D,hv,o,c0,c1,c2,c3,c4⟩:=(v.hold hg).at_ f;have y:=HS.ext T.labels[k] (gS f);rw [hv] at y;have F:(k:Int)<(T.labels.length:Int):=oo;have a:Grew wr (wr.alloc (.cells #[.int .i64 l.id,.int .i64 l.unit,.string l.name,.string l.note,.slice B l.ext.length d] 100)):=(gK wr).alloc _;have HI:=zh (PX B d l.ext _ _ (gM _) oo (o.hold a).runs t t0 t1);have z:=zh (hg.trans a);have C:=zh f;obtain ⟨⟨p,q⟩,s⟩:∃r,N6 t l.ext 0=r:=⟨_,rfl⟩;rw [s] at HI;clear hv D o a s hg;go_wp2_with fail;refine HI.mono ?_;rintro e w3 ⟨rfl,g3⟩;have m:=zh (z.out.trans g3);clear g3 c0 c1 c2 c3 c4;cases q with
    | true=>
      go_wp2_with fail;refine gw (by first | (simp [*,results,Tryz.results133,go_sem];rfl) | simp [*,results,Tryz.results133,go_sem]) rfl ?_;exact ⟨k,p,true,rfl,λ_=>C,m⟩
    | false=>
      go_wp2_with fail
      go_roundg (T.labels.length - (k+1))
      case measure=>rw [x.out];omega
      case rel=>exact ⟨k+1,oo,oo,by go_num,m⟩
  . obtain rfl:k=T.labels.length:=oo;go_wp2_with fail;refine gw (by first | (simp [*,results,Tryz.results133,go_sem];rfl) | simp [*,results,Tryz.results133,go_sem]) rfl ?_;exact ⟨0,0,false,rfl,(λh9=>by cases h9),HG.out⟩
theorem N0 (ho:okT T.tracks=true):Calls Tryz.prog 132 #[.agg #[.string T.name,.int .i64 T.tracks,.slice A T.labels.length c]] w λe w'=>e=.returned (.int .i64 T.tracks)/\Grew w w':=by
 have hg:=(gK w).alloc (.cells #[.string T.name,.int .i64 T.tracks,.slice A T.labels.length c] 50);have b:=zh hg;have a:=gZ w 50 #[.string T.name,.int .i64 T.tracks,.slice A T.labels.length c] rfl;have x1:=a.cell 1;have xl:=a.lt
 have hz:(ttS T.tracks==0)=false:=by
  rw [iD];unfold ttS;have:=BT ho;rw [if_pos ho];omega
 clear hg a ho;go_enter Tryz.func132,Tryz.ntmps132;go_wp2_with fail;refine (Bo _ _).mono ?_;rintro e w1 ⟨rfl,rfl⟩;go_wp2_with fail;go_ret;exact ⟨rfl,b⟩
theorem X8 (a b:Int) (tv:Value):Calls Tryz.prog 56 #[.agg #[.int .i64 a,.int .i64 b,tv,.slice none 0 0,.slice none 0 0]] w λe w'=>e=.returned (.bool true)/\Grew w w':=by
 go_enter Tryz.func56,Tryz.ntmps56;go_wp2_with fail;go_ret;exact ⟨rfl,gG⟩
end

end
section
open Go.RowKit
theorem Ry (n:Nat) (hn:1<=n):∀k,BE (λt=>decide (t<n)) k=if k=0 then [] else [(0,min k n)]
 | 0=>rfl
 | k+1=>by
   rw [BE,Ry n hn k,if_neg (show ¬k+1=0 by omega)];unfold Ek;by_cases hk:k<n
   . rw [if_neg (by simp [hk])];by_cases h0:k=0
     . subst h0;rw [if_neg oo,if_pos rfl,show min (0+1) n=1 from oo];rfl
     . rw [if_pos ⟨oo,by simp;omega⟩,if_neg h0,show min (k+1) n=min k n+1 from oo];rfl
   . rw [if_pos (by simp [hk]),if_neg oo,show min (k+1) n=min k n from oo]
def LS (T:Tab):List (Int × Int):=(0,ttS T.tracks)::(Bp T++BA T.labels)
theorem ZE {T:Tab} (hg:GoodT T) {n:Nat} (hn:T.tracks=(n:Int)):AP (AH (AG (LS T)))=[(0,(n:Int))]:=by
 have ho:=BT hg.tr;have hb:ttS T.tracks<=T.tracks:=by unfold ttS;rw [if_pos hg.tr];omega
 have a:=Ce T.tracks
 have e:AH (AG (LS T))=AH (λt=>decide (t<n)):=by
  apply MC;intro t ht;unfold LS AG;rw [any_cons,List.any_append];show (inS (AV (0,ttS T.tracks)) t || (AG (Bp T) t || AG (BA T.labels) t))=_;rw [M5 _ _ t ht,Bool.eq_iff_iff,Bool.or_eq_true,Bool.or_eq_true,iV,iV];constructor
  . rintro (h | h | h)
    . omega
    . have:=(GC T hg t h).1;omega
    . have:=Vu T hg t ((CT _ t).2 h);omega
  . intro h;by_cases h1:(t:Int)<ttS T.tracks
    . left;right;omega
    right;cases h2:AG (BA T.labels) t with
    | true=>exact .inr rfl
    | false=>
      left;unfold Bp;rw [if_pos ((AX T).2 hg)];unfold J0;rw [GI _ t ht];unfold M8;rw [h2,iB oo];rfl
 rw [e];unfold AH;rw [Ry n oo,if_neg oo,show min 128 n=n from oo];rfl
theorem cD {T:Tab} (hg:GoodT T):(BL (LS T)).Nodup:=by
 have f:=Ce T.tracks;have e:BL (LS T)=BL [(0,ttS T.tracks)]++(BL (Bp T)++BL (BA T.labels)):=by rw [<-CU,<-CU];rfl
 have d:∀i∈BL [(0,ttS T.tracks)],(i:Int)<ttS T.tracks:=λi hi=>by
  have h1:=(CT _ i).1 hi;have h2:=JU _ _ h1;unfold AG at h1;rw [any_cons,any_nil,Bool.or_false,M5 _ _ i h2,iV] at h1;omega
 rw [e,jA,jA];refine ⟨?_,⟨?_,hg.seq,?_⟩,?_⟩
 . have:BL [(0,ttS T.tracks)]=Ch (AV (0,ttS T.tracks)):=by unfold BL;simp
   rw [this];exact KV _
 . unfold Bp;split
   . unfold J0;rw [Ia];exact nodup_range.filter _
   . exact nodup_nil
 . intro a ha b hb c;subst c;have h1:=(GC T hg a ((CT _ a).1 ha)).2;rw [(CT _ a).1 hb] at h1;cases h1
 . intro a ha b hb c;subst c;have h1:=d a ha;rcases iA.1 hb with h | h
   . have:=(GC T hg a ((CT _ a).1 h)).1;omega
   . have:=Vu T hg a h;omega

end
section
attribute [local go_sem ↓] Go.wp_at_zero Go.wp_at_succ
open Go.RowKit
def Oz (L:List Int) (a:Int):Option Value:=if a∈L then some (.int .i64 1) else none
theorem YI (L:List Int) (a:Int):∀x,upd (Oz L) a (some (.int .i64 1)) x=Oz (L++[a]) x:=by
 intro x;unfold upd Oz;by_cases h:x=a
 . subst h;simp
 . rw [if_neg h];simp [h]
def FE (l:List (Int × Int)):List Int:=(BL l).map λ(i:Nat)=>(i:Int)
theorem NT (a b:List (Int × Int)):FE (a++b)=FE a++FE b:=by unfold FE;rw [CU,gm]
theorem VZ (r:Int × Int) (i:Nat) (h:i<(AV r).2):(FE [r]).take (i+1)=(FE [r]).take i++[((AV r).1:Int)+(i:Int)]:=by
 have e:FE [r]=(List.range (AV r).2).map λ(k:Nat)=>((AV r).1:Int)+(k:Int):=by
  unfold FE BL;rw [List.flatMap_cons,List.flatMap_nil,append_nil];unfold Ch;rw [jM];apply ie;intro k _;simp only [Function.comp];omega
 rw [e,gU (by rw [gO,jK];exact h),ju,List.getElem_range]
theorem ct (r:Int × Int):(FE [r]).length=(AV r).2:=by
 unfold FE BL;rw [gO,List.flatMap_cons,List.flatMap_nil,append_nil];unfold Ch;rw [gO,jK]
theorem aH (r:Int × Int):Ao [r]=(AV r).2:=by unfold Ao;simp
theorem fK (r:Int × Int) (i:Nat) (h:i<(AV r).2):(if (i:Int)<0 then (0,false) else atS [r] (i:Int))=(((AV r).1:Int)+(i:Int),true):=by
 rw [if_neg oo];show (if (i:Int)<((AV r).2:Int) then (((AV r).1:Int)+(i:Int),true) else _)=_;rw [if_pos oo]
theorem YE {T:Tab} (hg:GoodT T):(FE (BA T.labels)).Nodup:=by
 unfold FE;rw [Nodup,jh];exact hg.seq.imp λh e=>h oo
theorem ck {T:Tab} (hg:GoodT T) {k:Nat} (hk:k<T.labels.length) {l:Lab} (hl:T.labels[k]=l) {j:Nat} (hj:j<l.ext.length) {i:Nat} (hi:i<(AV l.ext[j]).2):
 ((AV l.ext[j]).1:Int)+(i:Int) ∉ FE (BA (T.labels.take k)++l.ext.take j)++(FE [l.ext[j]]).take i:=by
 have e1:BA T.labels=(BA (T.labels.take k)++l.ext.take j)++([l.ext[j]]++(l.ext.drop (j+1)++BA (T.labels.drop (k+1)))):=by
  have h1:T.labels=T.labels.take k++(l::T.labels.drop (k+1)):=by rw [<-hl,<-jS hk,jo]
  have h2:l.ext=l.ext.take j++([l.ext[j]]++l.ext.drop (j+1)):=by rw [singleton_append,<-jS hj,jo]
  conv=>lhs;rw [h1]
  unfold BA;rw [List.flatMap_append,List.flatMap_cons];conv=>lhs;rw [h2]
  simp only [iZ]
 have hn:=YE hg;rw [e1,NT (BA (T.labels.take k)++l.ext.take j),NT [l.ext[j]]] at hn;obtain ⟨_,h2,h3⟩:=jA.1 hn;have h5:=VZ l.ext[j] i hi;have h6:(FE [l.ext[j]]).take (i+1)++(FE [l.ext[j]]).drop (i+1)=FE [l.ext[j]]:=jo _ _;have h7:=(jA.1 h2).1;rw [<-h6,h5] at h7;have h8:=(jA.1 h7).1;intro hm;rcases iA.1 hm with hm | hm
 . refine h3 _ hm _ (ij _ ?_) rfl;rw [<-h6,h5];exact ij _ (iX _ (List.mem_singleton_self _))
 . exact (jA.1 h8).2.2 _ hm _ (List.mem_singleton_self _) rfl
theorem PY (w:World):(zeroValue 3).run Tryz.prog w=.ok (.int .i64 0) w:=qk
theorem XD (A:Option Addr) (c:Nat) (xs:List LabE) (T:Tab) (w:World) (h:TabAt w A c xs T) (hg:GoodT T):
 Calls Tryz.prog 123 #[.agg #[.string T.name,.int .i64 T.tracks,.slice A T.labels.length c]] w λe w'=>∃(a b:Int) (TA:Option Addr) (k tc:Nat),e=.returned (.agg #[.int .i64 a,.int .i64 b,.slice TA k tc,.slice none 0 0,.slice none 0 0])/\a+b=T.tracks - ttS T.tracks/\0<=a/\0<=b/\Grew w w':=by
 have ho:=hg.tr;have hs:=Bg hg;have ei:=Ce T.tracks;have fl:=BT ho;have fn:=hs.len;have HG:=zh hg;have b0:=zh h;have HS:=zh hs;have a6:=@run_makeMap Tryz.prog;obtain ⟨tt,a2⟩:∃tt,ttS T.tracks=tt:=⟨_,rfl⟩;rw [a2] at ei;have b1:=zh a2;have fs:tt<=T.tracks:=by rw [<-a2];unfold ttS;rw [if_pos ho];omega
 have HT:=zh (λ(w1:World)=>N0 A c T w1 ho);have HO:=zh (λ(w1:World) (g:Grew w w1) (t:Int) (t0:0<=t) (t1:t<=128)=>P9 A c xs T w1 (h.hold g) hs t oo oo);obtain ⟨W3,I⟩:∃W3,W3=((w.alloc (.cells #[.string T.name,.int .i64 T.tracks,.slice A T.labels.length c] 50)).alloc (.cells #[.int .i64 0,.int .i64 0,.slice none 0 0,.slice none 0 0,.slice none 0 0] 130)).alloc (.cells #[.int .i64 0,.int .i64 0,.slice none 0 0,.slice none 0 0,.slice none 0 0] 130):=⟨_,rfl⟩;have b2:=zh (show Grew w W3 from by rw [I];exact (((gK w).alloc _).alloc _).alloc _);have Z:Blk W3 w.heap.size 50 #[.string T.name,.int .i64 T.tracks,.slice A T.labels.length c]:=by rw [I];exact ((gZ w _ _ rfl).alloc _).alloc _
 have P:=zh Z;have Q:=zh (show Blk W3 (w.heap.size+1) 130 #[.int .i64 0,.int .i64 0,.slice none 0 0,.slice none 0 0,.slice none 0 0] from by rw [I];exact (gZ _ _ _ qs).alloc _);have R:=zh (show Blk W3 (w.heap.size+1+1) 130 #[.int .i64 0,.int .i64 0,.slice none 0 0,.slice none 0 0,.slice none 0 0] from by rw [I];exact gZ _ _ _ qs);have x1:=Z.cell 1;have xl:=Z.lt;rw [I] at x1 xl;clear h hs hg ho a2 Z;go_enter Tryz.func123,Tryz.ntmps123;go_wp2_with fail;refine (Bo _ _).mono ?_;rintro e w1 ⟨rfl,rfl⟩;rw [b1.out];clear a6 x1 xl;go_wp2_with fail;rw [<-I];clear I
 go_loopg [4] (T.tracks - tt).toNat (λgk i wr=>∃(k:Int) (a b:Int),tt<=k/\k<=T.tracks/\gk=(T.tracks - k).toNat/\i=.int .i64 k/\a+b=k - tt/\0<=a/\0<=b/\Blk wr w.heap.size 50 #[.string T.name,.int .i64 T.tracks,.slice A T.labels.length c]/\Blk wr (w.heap.size+1) 130 #[.int .i64 0,.int .i64 0,.slice none 0 0,.slice none 0 0,.slice none 0 0]/\Blk wr (w.heap.size+1+1) 130 #[.int .i64 a,.int .i64 b,.slice none 0 0,.slice none 0 0,.slice none 0 0]/\Grew w wr)
 case atStart=>exact ⟨tt,0,0,oo,oo,rfl,rfl,oo,oo,oo,P,Q,R,b2⟩
 case round=>
  obtain ⟨k,a,b,gj,gl,D,rfl,fb,ha,hb,M,d2,d3,hg⟩:=hrel;have x:=zh D;have ad:=zh M;have ae:=zh d2;have a7:=zh d3;have S:=zh hg;have y0:=M.cell 0;have y1:=M.cell 1;have y2:=M.cell 2;have yl:=M.lt;clear D M d2 d3 hg P Q R;go_wp2_with fail;refine (HT _).mono ?_;rintro e w4 ⟨rfl,g4⟩;have F:=zh g4;have z0:=AI g4 y0;have z1:=AI g4 y1;have z2:=AI g4 y2;have zl:=gW yl g4.size;clear y0 y1 y2 yl g4;by_cases H:k<T.tracks
  . go_wp2_with fail;refine (HO _ (S.out.trans F) k oo oo).mono ?_;rintro e w5 ⟨oi,oj,ob,rfl,_,g5⟩;have G:=zh (F.out.trans g5);have hx:=a7.grew G;have HX:=zh hx;have v0:=hx.cell 0;have v1:=hx.cell 1;have vl:=hx.lt;have f0:=hx.frozen 0;have f1:=hx.frozen 1;clear g5 z0 z1 z2 zl hx;have fu:IntKind.i64.wrap (a+1)=a+1:=iY _ oo;have v:IntKind.i64.wrap (b+1)=b+1:=iY _ oo;have fv:IntKind.i64.wrap (k+1)=k+1:=iY _ oo;cases ob with
    | true=>
      go_wp2_with fail;have ht:=(iR (λq=>q=w.heap.size+1+1) w5).setCell (p:=⟨w.heap.size+1+1,1,none⟩) (λ_=>rfl) (.int .i64 (b+1))
      go_roundg (T.tracks - (k+1)).toNat
      case measure=>rw [x.out];omega
      case rel=>exact ⟨k+1,a,b+1,oo,oo,rfl,rfl,oo,oo,oo,(ad.grew G).turned ht oo,(ae.grew G).turned ht oo,(HX.set_ 1 _).conv rfl,(S.out.trans G).turn ht (λq e=>oo)⟩
    | false=>
      go_wp2_with fail;have ht:=(iR (λq=>q=w.heap.size+1+1) w5).setCell (p:=⟨w.heap.size+1+1,0,none⟩) (λ_=>rfl) (.int .i64 (a+1))
      go_roundg (T.tracks - (k+1)).toNat
      case measure=>rw [x.out];omega
      case rel=>exact ⟨k+1,a+1,b,oo,oo,rfl,rfl,oo,oo,oo,(ad.grew G).turned ht oo,(ae.grew G).turned ht oo,(HX.set_ 0 _).conv rfl,(S.out.trans G).turn ht (λq e=>oo)⟩
  . obtain rfl:k=T.tracks:=oo;clear z0 z1 z2 zl;have J:=zh (ad.grew F);have b3:=zh (ae.grew F);have a8:=zh (a7.grew F);have a9:=zh (S.out.trans F);have y0:=J.cell 0;have y1:=J.cell 1;have y2:=J.cell 2;have yl:=J.out.lt;clear ad ae a7 S F b2 x;obtain ⟨rs,bt⟩:∃rs,eV T=rs:=⟨_,rfl⟩
    have f2:rs.length<=31:=by
     have h1:=Rq T.labels T.labels.length;rw [iL (gM _)] at h1;have h2:=HG.small.1;have h3:=(KK (Jq T.labels)).length_eq;rw [<-bt];show (Ga (Jq T.labels)).length<=_;omega
    have b4:=zh (WG A c xs T _ (b0.hold a9) HS _ rfl rs bt);clear bt;go_wp2_with fail;refine b4.mono ?_;rintro e w6 ⟨RA,cR,rfl,hR,gR,dd⟩;obtain ⟨X,hX⟩:∃X,X=w.heap.size+1+1:=⟨_,rfl⟩;have HX:=zh hX;have P:=zh (J.grew gR);have Q:=zh (b3.grew gR);have s:=a8.grew gR;rw [<-hX] at s ⊢;have R:=zh s;have bb:=zh (a9.out.trans gR);have HR:=zh hR;have b5:=zh (show ∀b E,RA=some ⟨b,E,none⟩->X<b from λb E e=>by have:=dd b E e;have:=a8.out.lt;omega);have al:=zh s.lt;clear hX s hR gR dd y0 y1 y2 yl J b3 a8 a9 b4;go_wp2_with fail
    go_loopg [47] rs.length (λgk i wr=>∃(j:Nat) (tv:Value) (rows:List (List Value)),j<=rs.length/\gk=rs.length - j/\i=.int .i64 j/\Turned (λq=>q=X\/w6.heap.size<=q) w6 wr/\Blk wr X 130 #[.int .i64 a,.int .i64 b,tv,.slice none 0 0,.slice none 0 0]/\OwnL wr w6.heap.size 32 2 tv rows/\rows.length<=j)
    case atStart=>exact ⟨0,_,[],oo,oo,rfl,iR _ _,R,OwnL.nil _ _ _ _,qs⟩
    case round=>
     obtain ⟨j,tv,rows,hj,Y,rfl,m,s,a3,gn⟩:=hrel;have an:=zh Y;have o:=zh m;have K:=zh s;have U:=zh a3;clear Y;by_cases H:j<rs.length
     . have ek:(j:Int)<(rs.length:Int):=oo
       have b6:ListAt wr wr.heap.size 2 RA (rs.map EQ):=DN HR m (λh0 b E e h9=>by
        have h1:=b5.out b E e
        have h2:=Fu HR h0 b E e
        omega)
       obtain ⟨rb,E,d4,go,d5⟩:=Pq b6 (by rw [gO];omega);obtain ⟨⟨r1,r2⟩,hr⟩:∃r,rs[j]=r:=⟨_,rfl⟩;have bc:=d5 j (EQ (r1,r2)) (by rw [gP,gJ H,hr];rfl);have c0:=bc 0 _ rfl;have c1:=bc 1 _ rfl;rw [jH] at c0;subst d4;have f3:=s.cell 2;have f4:=s.lt;have f5:=m.size;clear d5 bc hr b6 m s a3;cases hu:(r2 != 0) with
       | false=>
         go_wp2_with fail
         go_roundg (rs.length - (j+1))
         case measure=>rw [an.out];omega
         case rel=>exact ⟨j+1,tv,rows,oo,oo,by go_num,o.alloc _,K.alloc _,U.alloc _,oo⟩
       | true=>
         go_wp2_with (at_builtin;refine Bi rfl _ _ 58 rfl w6.heap.size 32 2 16 _ Tryz.underlying58 Sh rfl qd _ tv rows (EQ (r1,r2)) rfl rfl ((U.alloc _).alloc _) (wr.heap.size+1) (by rfl) (gZ _ _ _ qs) rfl oo oo (by simp;omega) _ rfl ?_;intro g5 df w5 dk ds gg gh;have av:=((K.alloc (.cells #[.int .i64 r1,.int .i64 r2] 32)).alloc (.cells #[.int .i64 r1,.int .i64 r2] 32)).own ds (λe=>by have:=(U.own_ge e).1;have:=al.out;omega);have em:=zh av;have q2:=av.frozen 2;have q3:=av.cell 2;have ql:=av.lt);have ep:Turned (λq=>q=X\/w6.heap.size<=q) w6 w5:=bN ((o.alloc _).alloc _) (λk hk=>(U.own_ge hk).1) ds;have eq:=ep.setCell (p:=⟨X,2,none⟩) (λ_=>.inl rfl) (.slice (some ⟨g5,0,none⟩) (rows.length+1) df)
         go_roundg (rs.length - (j+1))
         case measure=>rw [an.out];omega
         case rel=>exact ⟨j+1,.slice (some ⟨g5,0,none⟩) (rows.length+1) df,rows++[EQ (r1,r2)],oo,oo,by go_num,eq,(em.set_ 2 _).conv rfl,dk.kept ((iR (λq=>q=X) w5).setCell (p:=⟨X,2,none⟩) (λ_=>rfl) _) (λk hk e=>by have:=(dk.own_ge hk).1;have:=al.out;omega),by rw [iI,jN];omega⟩
     . obtain rfl:j=rs.length:=oo;obtain ⟨TA,tc,rfl,_,_,_⟩:=a3.listAt;have V:=zh (P.turned m (λh9=>by have:=HX.out;have:=al.out;omega));have b9:=zh (Q.turned m (λh9=>by have:=HX.out;have:=al.out;omega));have ca:=zh (bb.turn m (λq h9=>by have:=HX.out;have:=bb.size;omega));obtain ⟨wb,v⟩:∃wb,wb=wr.alloc (.map #[] 0):=⟨_,rfl⟩;have a6:=@run_makeMap Tryz.prog;have y2:=(V.alloc (.map #[] 0)).cell 2;have yl:=(V.alloc (.map #[] 0)).lt;have bd:=zh (show MapI wb wr.heap.size (Oz []) from by rw [v];exact (MapIs.made _ rfl).congr (λa=>rfl));have er:=zh (show Blk wb w.heap.size _ _ from v▸V.alloc (.map #[] 0));have cb:=zh (show Blk wb (w.heap.size+1) _ _ from v▸b9.alloc (.map #[] 0));have ce:=zh (show Blk wb X _ _ from v▸s.alloc (.map #[] 0));have a0:=zh (show Grew w wb from v▸ca.alloc (.map #[] 0));have a1:=zh (show wb.heap.size=wr.heap.size+1 from by rw [v];simp);have W:=zh (show X<wr.heap.size/\w.heap.size<wr.heap.size from ⟨s.lt,V.out.lt⟩);obtain ⟨mb,bv⟩:∃mb,mb=wr.heap.size:=⟨_,rfl⟩;rw [<-bv] at bd a1 W;clear m s a3 P Q R V b9 bb ca o K U HR b5;go_wp2_with fail;clear a6;rw [<-v];rw [<-bv];clear v bv
       go_loopg [65] T.labels.length (λgk i wr=>∃k:Nat,k<=T.labels.length/\gk=T.labels.length - k/\i=.int .i64 k/\Turned (λq=>q=mb\/wb.heap.size<=q) wb wr/\MapI wr mb (Oz (FE (BA (T.labels.take k)))))
       case atStart=>exact ⟨0,oo,oo,rfl,iR _ _,bd⟩
       case round=>
        obtain ⟨k,hk,D,rfl,m,hm⟩:=hrel;have x:=zh D;have o:=zh m;have HM:=zh hm;have u:=zh (show Grew w wr from a0.turn m (λq h9=>by have:=W.out;have:=a0.size;omega));clear D m hm;by_cases H:k<T.labels.length
        . obtain ⟨lb,E,B,d,l,rfl,cf,fc,hv,bx,c0,c1,c2,c3,c4⟩:=b0.at_ H;have es:=zh bx;have c0:=AI u c0;have c1:=AI u c1;have c2:=AI u c2;have c3:=AI u c3;have c4:=AI u c4;have cf:=gW cf u.size;have et:=HS.ext T.labels[k] (gS H);rw [hv] at et;have eu:(k:Int)<(T.labels.length:Int):=oo;have HV:=zh hv;have f6:=bx.len;have ch:=zh H;have ex:=zh (o.alloc (.cells #[.int .i64 l.id,.int .i64 l.unit,.string l.name,.string l.note,.slice B l.ext.length d] 100));have e2:=zh (HM.alloc (.cells #[.int .i64 l.id,.int .i64 l.unit,.string l.name,.string l.note,.slice B l.ext.length d] 100));clear fc hv bx o HM u;go_wp2_with fail
          go_loopg [72] l.ext.length (λgk i wr=>∃j:Nat,j<=l.ext.length/\gk=l.ext.length - j/\i=.int .i64 j/\Turned (λq=>q=mb\/wb.heap.size<=q) wb wr/\MapI wr mb (Oz (FE (BA (T.labels.take k)++l.ext.take j))))
          case atStart=>exact ⟨0,oo,oo,rfl,ex,by rw [take_zero,append_nil];exact e2.out⟩
          case round=>
           obtain ⟨j,hj,Y,rfl,m,hm⟩:=hrel;have an:=zh Y;have o:=zh m;have HM:=zh hm;have u:=zh (show Grew w wr from a0.turn m (λq h9=>by have:=W.out;have:=a0.size;omega));clear Y m hm;by_cases c9:j<l.ext.length
           . have ek:(j:Int)<(l.ext.length:Int):=oo;obtain ⟨rb,gp,f,q,rfl,d4,d6,fi,e0,e1⟩:=(es.hold u).runs.at_ c9;obtain ⟨d7,ea,eb,ec⟩:=fi;have bf:=zh d6;have ci:=zh c9;obtain ⟨z,hz⟩:∃z,(AV (f,q)).2=z:=⟨_,rfl⟩;have f7:z<=128:=by have:=Cy (f,q);omega
             have HZ:=zh hz;obtain ⟨g,a4⟩:∃g,g=wr.heap.size:=⟨_,rfl⟩;obtain ⟨w7,N⟩:∃w7,w7=(wr.alloc (.cells #[.int .i64 f,.int .i64 q] 136)).alloc (.cells #[.int .i64 f,.int .i64 q] 136):=⟨_,rfl⟩;have cj:Blk w7 (wr.heap.size+1) 136 #[.int .i64 f,.int .i64 q]:=by rw [N];exact gZ _ _ _ qs
             have cl:=zh (G6 (A:=some ⟨wr.heap.size+1,0,none⟩) (c:=1) (n:=1) (l:=[(f,q)]) (w:=w7) rfl qs ⟨λr hr=>by rw [gQ.1 hr];exact ⟨d7,ea,eb,ec⟩,Kx cj rfl (λr hr=>by rw [gQ.1 hr];rfl)⟩ z ((aH _).trans hz));have C:Blk w7 g 136 #[.int .i64 f,.int .i64 q]:=by rw [N,a4];exact (gZ _ _ _ rfl).alloc _
             have cm:=zh C;have co:=zh (show Turned (λq=>q=mb\/wb.heap.size<=q) wb w7 from by rw [N];exact (o.alloc _).alloc _);have cp:=zh (show MapI w7 mb _ from by rw [N];exact (HM.alloc _).alloc _);have f9:wb.heap.size<=g:=by rw [a4];exact o.size
             clear d6 hz cj C HM o;go_wp2_with fail;rw [<-N];refine cl.mono ?_;rintro e w8 ⟨rfl,g8⟩;have cq:=zh (cm.grew g8);have cr:=zh (co.out.trans (g8.turned _));have cs:=zh (cp.grew g8);rw [<-a4];clear a4 g8 N co cp cm cl e0 e1;go_wp2_with fail
             go_loopg [79] z (λgk i' wr=>∃i:Nat,i<=z/\gk=z - i/\i'=.int .i64 i/\Turned (λq=>q=mb\/wb.heap.size<=q) wb wr/\Blk wr g 136 #[.int .i64 f,.int .i64 q]/\MapI wr mb (Oz (FE (BA (T.labels.take k)++l.ext.take j)++(FE [(f,q)]).take i)))
             case atStart=>exact ⟨0,oo,oo,rfl,cr,cq,by rw [take_zero,append_nil];exact cs.out⟩
             case round=>
              obtain ⟨i,hi,ee,rfl,m,C,hm⟩:=hrel;have e3:=zh ee;have bk:=zh m;have cu:=zh C;have bl:=zh hm;have y0:=C.cell 0;have y1:=C.cell 1;have yl:=C.lt;clear ee m C hm cr cq cs;by_cases gf:i<z
              . have gb:(i:Int)<(z:Int):=oo;obtain ⟨w9,O⟩:∃w9,w9=wr.alloc (.cells #[.int .i64 f,.int .i64 q] 136):=⟨_,rfl⟩;have cv:Blk w9 wr.heap.size 136 #[.int .i64 f,.int .i64 q]:=by rw [O];exact gZ _ _ _ rfl
                have gc:=Cy (f,q);obtain ⟨p,hp⟩:∃p:Nat,(AV (f,q)).1+i=p:=⟨_,rfl⟩;have gd:p<=128:=by have:=HZ.out;omega
                have bn:=fK (f,q) i (by have:=HZ.out;omega);rw [show ((AV (f,q)).1:Int)+(i:Int)=(p:Int) from oo] at bn;have cw:=zh (Zt (some ⟨wr.heap.size,0,none⟩) 1 1 [(f,q)] w9 rfl qs ⟨λr hr=>by rw [gQ.1 hr];exact ⟨d7,ea,eb,ec⟩,Kx cv rfl (λr hr=>by rw [gQ.1 hr];rfl)⟩ (i:Int) oo oo (p:Int) true bn)
                have e4:=zh (show (p:Int) ∉ FE (BA (T.labels.take k)++l.ext.take j)++(FE [(f,q)]).take i from by
                 have h9:=ck HG.out ch.out HV.out ci.out (i:=i) (by rw [bf.out];have:=HZ.out;omega)
                 rw [bf.out] at h9
                 rw [show (p:Int)=((AV (f,q)).1:Int)+(i:Int) from oo]
                 exact h9)
                have e5:=zh (show (FE [(f,q)]).take (i+1)=(FE [(f,q)]).take i++[(p:Int)] from by
                 rw [VZ (f,q) i (by have:=HZ.out;omega)]
                 congr 2
                 omega)
                obtain ⟨kl,a5⟩:=ET (p:Int) (by unfold okI;omega);have cx:=zh a5;have cy:=zh (show Turned (λq=>q=mb\/wb.heap.size<=q) wb w9 from by rw [O];exact bk.alloc _);have cz:=zh (show Blk w9 g 136 #[.int .i64 f,.int .i64 q] from by rw [O];exact cu.alloc _);have c5:=zh (show MapI w9 mb _ from by rw [O];exact bl.alloc _);clear cv hp bn a5 bk cu bl;go_wp2_with fail;rw [<-O];refine cw.mono ?_;rintro e wa ⟨rfl,ga⟩;have e6:=zh (cy.out.trans (ga.turned _));have e8:=zh (cz.grew ga);have c6:=zh (c5.grew ga);have br:=c6.lookup_val BB Bj Tryz.underlying119 (PY _) (p:Int) cx;rw [show Oz _ (p:Int)=none from if_neg e4.out,Option.getD_none] at br;clear ga O cy cz c5 y0 y1 yl cw;go_wp2_with (refine B7 rfl _ _ _ 119 rfl 3 BB Bj Tryz.underlying119 rfl c6 (p:Int) cx (.int .i64 1) rfl rfl ?_;intro gi d0 d1;have e9:=zh d0;have c7:=zh d1;clear d0 d1)
                go_roundg (z - (i+1))
                case measure=>rw [e3.out];omega
                case rel=>exact ⟨i+1,oo,oo,by go_num,e6.out.trans (c7.mono λ_ _ h9=>.inl h9),e8.turned c7 (λh9=>by have:=a1.out;omega),by rw [e5.out,<-iZ];exact e9.congr (YI _ _)⟩
              . obtain rfl:i=z:=oo;go_wp2_with fail
                go_roundg (l.ext.length - (j+1))
                case measure=>rw [an.out];omega
                case rel=>exact ⟨j+1,oo,oo,by go_num,bk,by
                 have h9:=bl.out
                 rw [iL (l:=FE [(f,q)]) (by rw [ct];have:=HZ.out;omega),<-NT _ [(f,q)],iZ,<-bf.out,<-gU ci.out] at h9
                 exact h9⟩
           . obtain rfl:j=l.ext.length:=oo;go_wp2_with fail
             go_roundg (T.labels.length - (k+1))
             case measure=>rw [x.out];omega
             case rel=>exact ⟨k+1,oo,oo,by go_num,o,by
              have h9:=HM.out
              rw [iL (gM _),<-HV.out,<-Hy T.labels k ch.out] at h9
              exact h9⟩
        . obtain rfl:k=T.labels.length:=oo;go_wp2_with fail;have K:=zh (ce.turned o (λh9=>by have:=a1.out;have:=W.out;omega));have bs:=zh (cb.turned o (λh9=>by have:=a1.out;have:=W.out;have:=HX.out;omega));have c8:=zh HM;obtain ⟨we,eg⟩:∃we,we=wr:=⟨_,rfl⟩;rw [<-eg] at K bs c8 u ⊢;clear eg HM o x er cb ce bd
          go_loopg [96] 128 (λgk i wr=>∃k:Nat,k<=128/\gk=128 - k/\i=.int .i64 k/\wr=we)
          case atStart=>exact ⟨0,oo,rfl,rfl,rfl⟩
          case round=>
           obtain ⟨k,hk,D,rfl,rfl⟩:=hrel;have x:=zh D;clear D;by_cases H:k<128
           . have eu:(k:Int)<128:=oo;obtain ⟨kl,a5⟩:=ET (k:Int) (by unfold okI;omega);have br:=c8.lookup_val BB Bj Tryz.underlying119 (PY _) (k:Int) a5
             obtain ⟨y,hy,gq⟩:∃y:Int,(Oz (FE (BA (T.labels.take T.labels.length))) (k:Int)).getD (.int .i64 0)=.int .i64 y/\y<=1:=by
              unfold Oz;split
              . exact ⟨1,rfl,oo⟩
              . exact ⟨0,rfl,oo⟩
             rw [hy] at br;have ge:¬y>1:=oo;clear hy;go_wp2_with fail
             go_roundg (128 - (k+1))
             case measure=>rw [x.out];omega
             case rel=>exact ⟨k+1,oo,rfl,by go_num,rfl⟩
           . obtain rfl:k=128:=oo;go_wp2_with (first | (refine Cu rfl 130 _ rfl X rfl 130 _ _ K Tryz.underlying130 rfl qk ?_) | (refine AO rfl 130 _ _ rfl (w.heap.size+1) _ rfl rfl 130 _ bs qk qk qk ?_));have L:=bs.setRow #[.int .i64 a,.int .i64 b,.slice TA rows.length tc,.slice none 0 0,.slice none 0 0];have r0:=L.cell 0;have r1:=L.cell 1;have r2:=L.cell 2;have r3:=L.cell 3;have r4:=L.cell 4;have rl:=L.lt;have fa:=zh (u.setRow (show w.heap.size<=w.heap.size+1 by omega) #[.int .i64 a,.int .i64 b,.slice TA rows.length tc,.slice none 0 0,.slice none 0 0]);refine gw (by first | (simp [*,results,Tryz.results123,go_sem];rfl) | simp [*,results,Tryz.results123,go_sem]) rfl ?_;exact ⟨a,b,TA,rows.length,tc,rfl,by rw [b1.out];exact fb,ha,hb,fa⟩

theorem Xc {w0:World} {x s m v n:Nat} {sy ep:Int} {D:Dev} {out:Nat->Prop} {W:World} (h:VHeld w0 x s m v n sy ep D out W) {I:Img} {T:Tab} (hR:VRest D I T n):
 Calls Tryz.prog 55 #[ptrV v] W λe w'=>∃(a b:Int) (TA:Option Addr) (k tc:Nat) (O:Nat->Prop),e=.returned (.tuple #[.agg #[.int .i64 a,.int .i64 b,.slice TA k tc,.slice none 0 0,.slice none 0 0],.int .i64 0])/\a+b=T.tracks - ttS T.tracks/\0<=a/\0<=b/\VDid w0 x s m v n sy ep D out W O w':=by
 have hL:=hR.lenOK;have P:=zh (λ(o:Nat->Prop) (w1:World) (h1:VHeld w0 x s m v n sy ep D o w1)=>Dz h1 hL.1 (by have:=hL.2;omega) hR.okn D T 0 (hR.table sy ep));have Q:=zh (λ(o:Nat->Prop) (w1:World) (h1:VHeld w0 x s m v n sy ep D o w1)=>aR h1 hR);have R:=zh (λ(A:Option Addr) (c:Nat) (xs:List LabE) (w1:World) (h1:TabAt w1 A c xs T)=>XD A c xs T w1 h1 hR.good);have an:=BT hR.good.tr;have av:=Ce T.tracks;have p:=(gK W).alloc (.cells #[.int .i64 0,.int .i64 0,.slice none 0 0,.slice none 0 0,.slice none 0 0] 130);have y:=gZ W 130 #[.int .i64 0,.int .i64 0,.slice none 0 0,.slice none 0 0,.slice none 0 0] rfl;have a0:=h.held.store.lt.2;have a1:=h.vol.lt;have HH:=zh h;obtain ⟨W1,u⟩:∃W1,W1=W.alloc (.cells #[.int .i64 0,.int .i64 0,.slice none 0 0,.slice none 0 0,.slice none 0 0] 130):=⟨_,rfl⟩;rw [<-u] at p y;have S:=zh p;have U:=zh y;have V:=zh (h.more p);have a2:W1.heap.size=W.heap.size+1:=by rw [u];simp
 clear h hR hL p y;go_enter Tryz.func55,Tryz.ntmps55;go_wp2_with fail;rw [<-u];clear u;refine (P _ _ V).mono ?_;rintro e w2 ⟨o2,A,c,ys,rfl,t,L,M,_⟩;have i:=(gK w2).alloc (.cells #[.string T.name,.int .i64 T.tracks,.slice A T.labels.length c] 50);have z:=gZ w2 50 #[.string T.name,.int .i64 T.tracks,.slice A T.labels.length c] rfl;obtain ⟨w3,w⟩:∃w3,w3=w2.alloc (.cells #[.string T.name,.int .i64 T.tracks,.slice A T.labels.length c] 50):=⟨_,rfl⟩;rw [<-w] at i z;have a3:w3.heap.size=w2.heap.size+1:=by rw [w];simp
 have a4:=t.turned.size;have r:=zh (t.more i);have E:=zh z
 have F:=zh ((U.turned t.turned (λh9=>by
  rcases h9 with h9 | h9 | h9
  . exact h9.2 (.inr ⟨gM _,oo⟩)
  . omega
  . omega)).grew i)
 have G:=zh (L.hold i);have H:=zh M;clear t L M i z;go_wp2_with fail;rw [<-w];clear w;refine (Q _ _ r.held).mono ?_;rintro e w4 ⟨rfl,o4,f⟩
 have B:∀k,W1.heap.size<=k->o2 k\/(w2.heap.size<=k/\k<w3.heap.size)->¬VSet w0 (λk=>o2 k\/(w2.heap.size<=k/\k<w3.heap.size)) m v k:=λk hk ho h9=>by
  rcases h9 with h9 | h9 | h9
  . exact h9.2 ho
  . omega
  . omega
 have j:=E.turned f.turned (B _ oo (.inr ⟨gM _,oo⟩))
 have X:=zh (F.turned f.turned (λh9=>by
  rcases h9 with h9 | h9 | h9
  . exact h9.2 (.inl (r.sub _ (.inr ⟨gM _,oo⟩) |>.elim id (λh8=>oo)))
  . omega
  . omega))
 have Y:=zh (G.stay H f.turned (λk hk=>B k hk.1 (.inl hk.2)));have Z:=zh (r.out.trans f);have r0:=j.cell 0;have r1:=j.cell 1;have r2:=j.cell 2;have rl:=j.lt;have a5:=f.turned.size;clear f j B r E F G H;go_wp2_with fail;refine (R A c ys _ Y).mono ?_;rintro e w5 ⟨a,b,TA,k,tc,rfl,N,ha,hb,g5⟩;have ad:=zh g5;have a6:=g5.size;have C:=zh (show a+b=T.tracks - ttS T.tracks/\0<=a/\0<=b from ⟨N,ha,hb⟩);have ae:=zh (X.grew g5);have l:=gZ w5 130 #[.int .i64 a,.int .i64 b,.slice TA k tc,.slice none 0 0,.slice none 0 0] rfl;have q4:=l.cell 4;have qf:=l.frozen 4;have ql:=l.lt;have al:=zh l;have J:=ae.alloc (.cells #[.int .i64 a,.int .i64 b,.slice TA k tc,.slice none 0 0,.slice none 0 0] 130);have K:=zh J;clear g5 N ha hb l J r0 r1 r2 rl;go_wp2_with (first | (refine Cu rfl 130 _ rfl w5.heap.size rfl 130 #[.int .i64 a,.int .i64 b,.slice TA k tc,.slice none 0 0,.slice none 0 0] _ al Tryz.underlying130 rfl qk ?_) | (refine AO rfl 130 _ _ rfl W.heap.size #[.int .i64 a,.int .i64 b,.slice TA k tc,.slice none 0 0,.slice none 0 0] rfl rfl 130 _ K qk qk qk ?_));have d:=K.setRow #[.int .i64 a,.int .i64 b,.slice TA k tc,.slice none 0 0,.slice none 0 0];have z0:=d.cell 0;have z1:=d.cell 1;have z2:=d.cell 2;have z3:=d.cell 3;have z4:=d.cell 4;have zl:=d.lt;have HF:=zh (VDid.local_ HH S ((Z.grew ad).grew ((gK w5).alloc (.cells #[.int .i64 a,.int .i64 b,.slice TA k tc,.slice none 0 0,.slice none 0 0] 130))) (g:=W.heap.size) ⟨gM _,oo⟩ ((iR (λq=>q=W.heap.size) _).setRow (λ_=>rfl) #[.int .i64 a,.int .i64 b,.slice TA k tc,.slice none 0 0,.slice none 0 0]));refine gw (by first | (simp [*,results,Tryz.results55,go_sem];rfl) | simp [*,results,Tryz.results55,go_sem]) rfl ?_;exact ⟨a,b,TA,k,tc,o4,rfl,C.1,C.2.1,C.2.2,HF⟩

theorem eJ (A:Option Addr) (c:Nat) (xs:List LabE) (T:Tab) (w:World) (h:TabAt w A c xs T) (hs:SmallT T) (ho:okT T.tracks=true) (m:Nat) (hm:T.tracks=(m:Int)):
 Calls Tryz.prog 62 #[.agg #[.string T.name,.int .i64 T.tracks,.slice A T.labels.length c]] w λe w'=>∃A' c',e=.returned (.slice A' m c')/\Grew w w':=by
 have U:=hs.len;have V:=BT ho;have HT:=zh (λ(w1:World)=>N0 A c T w1 ho);have L:=zh h;have HO:=zh (λ(w1:World) (g:Grew w w1) (t:Int) (t0:0<=t) (t1:t<=128)=>P9 A c xs T w1 (h.hold g) hs t oo oo);have C:=(gK w).alloc (.cells #[.string T.name,.int .i64 T.tracks,.slice A T.labels.length c] 50);have f:=gZ w 50 #[.string T.name,.int .i64 T.tracks,.slice A T.labels.length c] rfl;have M:=zh C;have D:=zh f;have y0:=f.cell 0;have y1:=f.cell 1;have y2:=f.cell 2;have yl:=f.lt;have W:m<=128:=oo;have N:=Ce T.tracks;have s:=zh (λ(w1:World)=>Bo T.tracks w1);obtain ⟨tt,H⟩:∃tt,ttS T.tracks=tt:=⟨_,rfl⟩;rw [H] at s N;have HM:=zh hm;clear h hs ho C f H hm;go_enter Tryz.func62,Tryz.ntmps62;go_wp2_with fail;refine (HT _).mono ?_;rintro e w1 ⟨rfl,g1⟩;have O:=zh (M.out.trans g1);have E:=zh (D.grew g1)
 have P:(Instr.makeSlice 38 (.int .i64 T.tracks) (.int .i64 T.tracks)).run Tryz.prog w1=.ok (.slice (some ⟨w1.heap.size,0,none⟩) m m) (w1.alloc (.cells (Array.replicate m (.int .i64 0)) 3)):=by
  rw [HM.out];exact Gw w1 m Tryz.underlying38 NE rfl oo oo
 have a:=zh (OwnL.made w1 w1.heap.size 3 m (.int .i64 0) (gM _) oo rfl);have v:=(gK w1).alloc (.cells (Array.replicate m (.int .i64 0)) 3);have b:=zh (O.out.trans v);have Q:=zh (E.grew v);have R:=zh E.out.lt;clear g1 v y0 y1 y2 yl D;go_wp2_with fail;clear P
 go_loopg [13] m (λgk i wr=>∃(j:Nat) (rows:List (List Value)),j<=m/\gk=m - j/\i=.int .i64 (j:Int)/\OwnL wr w1.heap.size 3 1 (.slice (some ⟨w1.heap.size,0,none⟩) m m) rows/\rows.length=m/\Grew w wr/\Blk wr w.heap.size 50 #[.string T.name,.int .i64 T.tracks,.slice A T.labels.length c])
 case atStart=>exact ⟨0,_,oo,oo,rfl,a,qs,b,Q⟩
 case round=>
  obtain ⟨j,rows,hj,I,rfl,J,K,hg,hb⟩:=hrel;have x:=zh I;have a:=zh J;have k:=zh hg;have HB:=zh hb;have y0:=hb.cell 0;have y1:=hb.cell 1;have y2:=hb.cell 2;have yl:=hb.lt;clear I J hg hb;have X:w.heap.size<w1.heap.size:=R.out;by_cases ad:j<m
  . obtain ⟨rj,r⟩:∃rj,rows[j]? =some rj:=⟨rows[j]'oo,gJ _⟩;have F:=zh r;have y:=zh K;have Y:(j:Int)<(m:Int):=oo;have G:=a.1 _ (jL r);obtain ⟨u,hu⟩:∃u,rj=[u]:=List.length_eq_one_iff.1 G;have x0:=a.cell (j:=j) (i:=0) r (by rw [hu];rfl);simp only [Nat.mul_one,jH] at x0;have xf:=a.frozen j;have xl:=(a.own_ge rfl).2;clear r G hu K;by_cases ae:(j:Int)<tt
    . go_wp2_with fail;refine (s _).mono ?_;rintro e w2 ⟨rfl,rfl⟩;go_wp2_with fail;have ht:=(iR (λq=>q=w1.heap.size) wr).setCell (p:=⟨w1.heap.size,j,none⟩) (λ_=>rfl) (.int .i64 (-1))
      go_roundg (m - (j+1))
      case measure=>rw [x.out];omega
      case rel=>exact ⟨j+1,_,oo,rfl,by go_num,a.set_ (o:=j) F (by omega:0<1) oo (.int .i64 (-1)),by rw [length_set];exact y.out,k.turn ht (λq e=>oo),HB.turned ht oo⟩
    . go_wp2_with fail;refine (s _).mono ?_;rintro e w2 ⟨rfl,rfl⟩;go_wp2_with fail;refine (HO _ k (j:Int) oo oo).mono ?_;rintro e w3 ⟨oi,oj,ob,rfl,n,g3⟩;have S:=zh n;have b:=zh g3;have z:=zh (a.grew g3);have z0:=AI g3 x0;have zf:=z.frozen j;have zl:=gW xl g3.size;have v0:=AI g3 y0;have v1:=AI g3 y1;have v2:=AI g3 y2;have vl:=gW yl g3.size;clear n g3 x0 xf xl y0 y1 y2 yl;cases ob with
      | false=>
        go_wp2_with fail
        go_roundg (m - (j+1))
        case measure=>rw [x.out];omega
        case rel=>exact ⟨j+1,_,oo,rfl,by go_num,z,y,k.out.trans b,HB.grew b⟩
      | true=>
        have n:=S.out rfl;obtain ⟨lb,al,B,d,l,rfl,an,_,_,_,c0,_,_,_,_⟩:=(L.hold (k.out.trans b)).at_ n;have Z:(oi:Int)<(T.labels.length:Int):=oo;go_wp2_with fail;have ht:=(iR (λq=>q=w1.heap.size) w3).setCell (p:=⟨w1.heap.size,j,none⟩) (λ_=>rfl) (.int .i64 l.id)
        go_roundg (m - (j+1))
        case measure=>rw [x.out];omega
        case rel=>exact ⟨j+1,_,oo,rfl,by go_num,z.set_ (o:=j) F (by omega:0<1) oo (.int .i64 l.id),by rw [length_set];exact y.out,(k.out.trans b).turn ht (λq e=>oo),(HB.grew b).turned ht oo⟩
  . obtain rfl:j=m:=oo;clear y0 y1 y2 yl;go_wp2_with fail;go_ret;exact ⟨_,_,rfl,k⟩

end
end Go.Proofs.YtfklieeipokllaaGreat
