/- TopFormats returns true for all shapes, blocks, lists of sectors and records, and nothing that was there is changed; the variable spanned.codes is tied to the program's text by the given tie. No condition. -/
import Derived.Test.YtmcgbdemcknkaaaGreatDoorCards
import Derived.Test.YtmcgbdemcknkaaaGreatDoorTie
import Derived.SevenTiedAt
import Derived.ProofKit
import Derived.LaidMore
import Derived.Stop.Joined
import Derived.Test.YtmcgbdemcknkaaaGreatDoorCwY
namespace Go.Proofs.YtmcgbdemcknkaaaGreatDoor
set_option linter.all false
set_option maxRecDepth 100000
set_option maxHeartbeats 16000000
open List
section
open Go.ChangeShapes Go.WideShapes Go.ChangeAt Go.RowKit Go.ChangeMaps
theorem fW:ownKnob Tryz.prog.godebug=none:=qk
theorem dL (os:Os) (args:Array Value):laidMetH Tryz.prog Rows.topFormatsRow.laid ((World.doorLaid Tryz.prog 400 os).forCall (λ_ _=>0) ⟨#[],args,[]⟩).memory:=
 laidMetH_of_parts3 (fuel:=8) (laidMet_of_run' 8 qk qk) qk qk
theorem KT (os:Os) (f:os.Started) (H:Type) (enc:TypeId × Value->H):
 ReturnsInHanded {} Tryz.checked os 3 .any (λw args=>(Rows.topFormatsSpec.pre enc Tryz.prog Tryz.f3 [] false w args/\laidMetH Tryz.prog Rows.topFormatsRow.laid w)/\sizedMet enc Tryz.prog Tryz.f3 (OpenSpec.ofChange Rows.topFormatsSpec) false w args)
  (Rows.topFormatsSpec.post enc Tryz.prog Tryz.f3 false true false false):=by
 refine returnsInHanded_of_change_and (C:=Tryz.checked) (X:=λw _=>laidMetH Tryz.prog Rows.topFormatsRow.laid w) (λ_ _ _ hh h=>h.of_heap hh) fW f qk Tryz.func3
  (ChangeSpec.witness_shaped (enc:=enc) (C:=Tryz.checked) (os:=os) (X:=λw _=>laidMetH Tryz.prog Rows.topFormatsRow.laid w) false (World.doorLaid Tryz.prog 400 os) #[.agg #[.int .i64 0,.int .i64 0,.int .i64 0,.int .i64 0],.string ⟨#[]⟩,.slice none 0 0,.string ⟨#[]⟩] 8 rfl (World.shaped_of_RefB qk qk) qk qk qk (dL os _)) ?_
 intro W base args ds gs k b hW _ _ hL _;have a:∀(j:Nat) t v,Tryz.f3.params[j]? =some t->args[j]? =some v->Value.okWide Tryz.prog W .any base t v:=b;have g:=hW;obtain ⟨p,q,d,hV,rfl,m,n⟩:=hW;have hA:DataW.TrodAll enc Tryz.prog W 0 (λ_=>true) true Tryz.f3.params.toList args.toList ds p:=d;rw [Tryz.params3] at hA a;obtain ⟨al⟩:=args;simp only [] at hA;obtain ⟨v0,u,d0,x,p0,q0,rfl,rfl,rfl,h0,r0⟩:=trodAll_cons hA;obtain ⟨v1,y,d1,z,p1,q1,rfl,rfl,rfl,h1,r1⟩:=trodAll_cons r0;obtain ⟨v2,D,d2,E,p2,q2,rfl,rfl,rfl,h2,r2⟩:=trodAll_cons r1;obtain ⟨v3,G,d3,I,p3,q3,rfl,rfl,rfl,h3,r3⟩:=trodAll_cons r2;obtain ⟨rfl,rfl,rfl⟩:=trodAll_nil r3;obtain ⟨rfl,rfl⟩:=trodVars_none hV;obtain ⟨o,F,L,B,rfl,i⟩:=Uw (a 0 23 v0 rfl rfl) h0;obtain ⟨s,rfl,rfl,rfl,ws⟩:=open_string Tryz.underlying9 (a 1 9 v1 rfl rfl) h1;obtain ⟨A,c,l,rfl,lc,cc,hs,hl⟩:=Rg (a 2 25 v2 rfl rfl) h2;obtain ⟨r,rfl,rfl,rfl,wr⟩:=open_string Tryz.underlying9 (a 3 9 v3 rfl rfl) h3;clear d b;refine (N8 o F L B s A c l r W (bZ hL) i hl (ij lc cc) hs (by unfold maxLen at ws;omega) (by unfold maxLen at wr;omega)).mono λe W' ⟨he,hg⟩=>?_;subst he;exact ⟨_,rfl,Za qk qk (by rfl) Tryz.underlying4 rfl g rfl hg⟩
theorem JI:Rows.TopFormatsSaid:=
 OpenClaim.holds_of_wide 3 Tryz.f3 rfl rfl rfl rfl rfl rfl rfl ⟨rfl,rfl,rfl,rfl,rfl⟩ rfl rfl rfl rfl rfl qk Tryz.func3 qk
  (jC qk) (by unfold Func.isWrapper;first | (rw [if_pos (by decide+kernel)];kernel_rfl) | (rw [if_neg (by decide+kernel)];exact ⟨rfl,rfl⟩))
  (λos started H enc _=>KT os started H enc)
theorem topFormats_holds:Rows.TopFormatsCardSaid:=
 Claim7.holds_tied_plain_at .later [] [.widerDeep] true (true,"2b5e08f3636cd705392cadae00186fd1fdd7fd90495daa5643f86d6b762c72a1") false
  JI (λ_ h=>by cases h) qk (λ_ h=>by cases h) topFormats_row_tie rfl ⟨rfl,rfl⟩ qk rfl
  (λf fn hf hfn=>by
    obtain rfl:f=3:=Option.some.inj ((show Tryz.prog.funcNamed "dasd/dasdtop.TopFormats"=some 3 by kernel_rfl).symm.trans hf) |>.symm
    obtain rfl:fn=Tryz.f3:=(Option.some.inj (Tryz.func3.symm.trans hfn)).symm
    exact ⟨qk,λj t ht=>by
     rw [Tryz.params3] at ht
     have hm:t∈[23,9,25,9]:=by simpa using Array.mem_of_getElem? ht
     have a:([23,9,25,9].all λu=>!Tryz.prog.wantsStandIn u)=true:=qk
     exact (show Tryz.prog.wantsStandIn t=false by simpa using jN.1 a t hm)⟩)
  qk

end
end Go.Proofs.YtmcgbdemcknkaaaGreatDoor
