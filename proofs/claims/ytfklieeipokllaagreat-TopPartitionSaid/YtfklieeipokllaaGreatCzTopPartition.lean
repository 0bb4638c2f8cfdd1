/- TopPartition returns true for all numbers of tracks and operations, and nothing that was there is changed. No condition. -/
import Derived.Test.YtfklieeipokllaaGreatCzW
namespace Go.Proofs.YtfklieeipokllaaGreat
set_option linter.all false
set_option maxRecDepth 100000
set_option maxHeartbeats 16000000
open List
section
open Go.ChangeShapes Go.WideShapes Go.ChangeAt Go.RowKit Go.ChangeMaps
theorem Jp (os:Os) (f:os.Started) (H:Type) (enc:TypeId × Value->H):
 ReturnsInHanded {} Tryz.checked os 4 .any (Rows.topPartitionSpec.pre6 enc Tryz.prog Tryz.f4 Rows.topPartitionRow.domain false) (Rows.topPartitionSpec.post enc Tryz.prog Tryz.f4 false true false false):=by
 refine returnsInHanded_of_change (C:=Tryz.checked) qk f qk Tryz.func4
  (ChangeSpec.witness6 (enc:=enc) (C:=Tryz.checked) false ⟨#[],#[.int .u8 0,.slice none 0 0],[]⟩ 8 qk qk qk qk) ?_
 intro W base args ds gs k c hW l _;have a:∀(j:Nat) t v,Tryz.f4.params[j]? =some t->args[j]? =some v->Value.okWide Tryz.prog W .any base t v:=c;have g:=hW;obtain ⟨p,q,d,hV,rfl,m,o⟩:=hW;have hA:DataW.TrodAll enc Tryz.prog W 0 (λ_=>true) true Tryz.f4.params.toList args.toList ds p:=d;rw [Tryz.params4] at hA a;obtain ⟨v0,v1,d0,d1,p0,p1,rfl,rfl,rfl,h0,h1⟩:=trodAll_two hA;obtain ⟨rfl,rfl⟩:=trodVars_none hV;obtain ⟨b0,rfl,rfl,rfl,b⟩:=open_int Tryz.underlying5 (a 0 5 v0 rfl rfl) h0;simp only [Lit.wf,IntKind.min,IntKind.max,IntKind.signed,IntKind.bits] at b;obtain ⟨a0,rfl,s0⟩:∃n:Nat,b0=n/\n<256:=⟨b0.toNat,by simp at b;omega,by simp at b;omega⟩;obtain ⟨A1,c1,l1,rfl,h,i,k1⟩:=Xt (a 1 22 v1 rfl rfl) h1;clear d c;refine (Lm a0 s0 A1 c1 l1 W k1.1 k1.2 (gY h i)).mono λe W' ⟨he,hg⟩=>?_;subst he;exact ⟨_,rfl,Yp qk qk (by rfl) Tryz.underlying4 rfl g rfl hg⟩
theorem topPartition_holds:Rows.TopPartitionSaid:=
 OpenClaim.holds_of_wide 4 Tryz.f4 rfl rfl rfl rfl rfl rfl rfl ⟨rfl,rfl,rfl,rfl,rfl⟩ rfl rfl rfl rfl rfl qk Tryz.func4 qk
  (iQ qk) (by unfold Func.isWrapper;first | (rw [if_pos (by decide+kernel)];kernel_rfl) | (rw [if_neg (by decide+kernel)];exact ⟨rfl,rfl⟩))
  (λos started H enc _=>Jp os started H enc)

end
end Go.Proofs.YtfklieeipokllaaGreat
