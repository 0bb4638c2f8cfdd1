/- Parts of the proof (packed), 9. -/
import Derived.Test.YtfklieeipokllaaGreatCzG
namespace Go.Proofs.YtfklieeipokllaaGreat
set_option linter.all false
set_option maxRecDepth 100000
set_option maxHeartbeats 16000000
open List
section
open Go.ChangeShapes Go.WideShapes Go.ChangeAt Go.RowKit Go.Deep
section
variable {H:Type} {enc:TypeId × Value->H} {P:Program} {w:World}
theorem Mf {fs:Array Field} {e n:Nat} {cs:List Value} {y:DataW H × List MemPlace} {base:Nat} {sp:Nat->Bool} {hd:Bool} (he:P.underlying e=some (.struct fs)) (h:DataW.trod enc P w base sp hd n e cs=some y):
 ∀(j:Nat) (f:Field),fs[j]? =some f->∃n' y',DataW.trod enc P w base sp hd n' f.type ((cs.drop f.offset).take (P.cellsOf f.type))=some y':=by
 intro j f hj;obtain ⟨ys,n',b,hy,c,d,hf⟩:=DataW.trod_struct he h;have a:j<fs.size:=(ib.1 hj).1;exact ⟨_,_,(hf j f hj).trans (gJ oo)⟩
theorem K4 {n:Int} (h:(Lit.int .i64 n).wf=true):-9223372036854775808<=n/\n<=9223372036854775807:=by
 simp only [Lit.wf,IntKind.min,IntKind.max,IntKind.signed,IntKind.bits] at h;simp at h;omega
theorem Yz {n:Int} (h:(Lit.int .u8 n).wf=true):0<=n/\n<=255:=by
 simp only [Lit.wf,IntKind.min,IntKind.max,IntKind.signed,IntKind.bits] at h;simp at h;omega
end

end
end Go.Proofs.YtfklieeipokllaaGreat
