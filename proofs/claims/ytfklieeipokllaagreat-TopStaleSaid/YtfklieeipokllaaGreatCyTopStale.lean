/- TopStale returns true for all numbers of tracks, operations, harms and writes, and nothing that was there is changed. No condition. -/
import Derived.Test.YtfklieeipokllaaGreatCyX
namespace Go.Proofs.YtfklieeipokllaaGreat
set_option linter.all false
set_option maxRecDepth 100000
set_option maxHeartbeats 16000000
open List
section
open Go.ChangeShapes Go.WideShapes Go.ChangeAt Go.RowKit Go.ChangeMaps
theorem MK (os:Os) (f:os.Started) (H:Type) (enc:TypeId × Value->H):
 ReturnsInHanded {} Tryz.checked os 3 .any (Rows.topStaleSpec.pre6 enc Tryz.prog Tryz.f3 Rows.topStaleRow.domain false) (Rows.topStaleSpec.post enc Tryz.prog Tryz.f3 false true false false):=by
 refine returnsInHanded_of_change (C:=Tryz.checked) qk f qk Tryz.func3
  (ChangeSpec.witness6 (enc:=enc) (C:=Tryz.checked) false ⟨#[],#[.int .u8 0,.slice none 0 0,.slice none 0 0,.slice none 0 0],[]⟩ 8 qk qk qk qk) ?_
 intro W base args ds gs m c hW o _;have a:∀(j:Nat) t v,Tryz.f3.params[j]? =some t->args[j]? =some v->Value.okWide Tryz.prog W .any base t v:=c;have g:=hW;obtain ⟨p,q,d,hV,rfl,r,s⟩:=hW;have hA:DataW.TrodAll enc Tryz.prog W 0 (λ_=>true) true Tryz.f3.params.toList args.toList ds p:=d;rw [Tryz.params3] at hA a;obtain ⟨al⟩:=args;simp only [] at hA;obtain ⟨v0,u,d0,w,p0,q0,rfl,rfl,rfl,h0,r0⟩:=trodAll_cons hA;obtain ⟨v1,x,d1,y,p1,q1,rfl,rfl,rfl,h1,r1⟩:=trodAll_cons r0;obtain ⟨v2,z,d2,A,p2,q2,rfl,rfl,rfl,h2,r2⟩:=trodAll_cons r1;obtain ⟨v3,B,d3,D,p3,q3,rfl,rfl,rfl,h3,r3⟩:=trodAll_cons r2;obtain ⟨rfl,rfl,rfl⟩:=trodAll_nil r3;obtain ⟨rfl,rfl⟩:=trodVars_none hV;obtain ⟨b0,rfl,rfl,rfl,b⟩:=open_int Tryz.underlying5 (a 0 5 v0 rfl rfl) h0;simp only [Lit.wf,IntKind.min,IntKind.max,IntKind.signed,IntKind.bits] at b;obtain ⟨a0,rfl,s0⟩:∃n:Nat,b0=n/\n<256:=⟨b0.toNat,by simp at b;omega,by simp at b;omega⟩;obtain ⟨A1,c1,l1,rfl,h,i,k1⟩:=WU (a 1 22 v1 rfl rfl) h1;obtain ⟨A2,c2,l2,rfl,k,l,k2⟩:=Uv (a 2 23 v2 rfl rfl) h2;obtain ⟨A3,c3,l3,rfl,E,F,k3⟩:=dt (a 3 24 v3 rfl rfl) h3;clear d c;refine (Qn a0 s0 A1 c1 l1 A2 c2 l2 A3 c3 l3 W k1.1 k1.2 (fx h i) k2 (fx k l) k3).mono λe W' ⟨he,hg⟩=>?_;subst he;exact ⟨_,rfl,Y3 qk qk (by rfl) Tryz.underlying4 rfl g rfl hg⟩
theorem topStale_holds:Rows.TopStaleSaid:=
 OpenClaim.holds_of_wide 3 Tryz.f3 rfl rfl rfl rfl rfl rfl rfl ⟨rfl,rfl,rfl,rfl,rfl⟩ rfl rfl rfl rfl rfl qk Tryz.func3 qk
  (gV qk) (by unfold Func.isWrapper;first | (rw [if_pos (by decide+kernel)];kernel_rfl) | (rw [if_neg (by decide+kernel)];exact ⟨rfl,rfl⟩))
  (λos started H enc _=>MK os started H enc)

end
end Go.Proofs.YtfklieeipokllaaGreat
