/- Parts of the proof (packed), 20. -/
import Derived.Test.YtfklieeipokllaaGreatCzS
namespace Go.Proofs.YtfklieeipokllaaGreat
set_option linter.all false
set_option maxRecDepth 100000
set_option maxHeartbeats 16000000
open List
section
open Go.RowKit
theorem cc {l:List OpT} {most:Nat} (h:Ow l most=true) {w:World} (hv:∀o∈l,OpTIn w o):l.length<=most/\∀o∈l,OpTOk w o:=by
 unfold Ow at h;rw [iU] at h;refine ⟨iQ h.2,λo ho=>?_⟩;have h1:=ic.1 h.1 o ho;rw [iU,iU] at h1;have h2:=h1.2.1;unfold GJ at h2;rw [iU] at h2;have h3:=iQ h2.2;have hi:=hv o ho;exact ⟨hi.kind,hi.on,hi.at_,oo,hi.ok,λe he=>by have:=iQ (ic.1 h2.1 e he);omega⟩

end
end Go.Proofs.YtfklieeipokllaaGreat
