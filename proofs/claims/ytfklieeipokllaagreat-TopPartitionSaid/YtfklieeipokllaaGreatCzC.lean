/- Parts of the proof (packed), 3. -/
import Derived.Shelf.SlSortCmp.WholeK
import Derived.Test.YtfklieeipokllaaGreatCzA
namespace Go.Proofs.YtfklieeipokllaaGreat
set_option linter.all false
set_option maxRecDepth 100000
set_option maxHeartbeats 16000000
open List
section
open Go.Shelf Go.RowKit Go.Lib
def Tt:Go.Shelf.Ren:=⟨fun | 6=>106 | 15=>99 | 14=>179 | 28=>174 | 29=>175 | 20=>219 | 21=>220 | 22=>221 | 23=>222 | 24=>223 | 25=>224 | 26=>225 | 27=>226 | 46=>238 | 47=>212 | 48=>213 | 49=>239 | 50=>240 | 57=>254 | n=>n,fun | 22=>24 | 24=>65 | 25=>183 | 3=>3 | 39=>173 | 0=>0 | 53=>176 | 55=>260 | 4=>4 | 46=>253 | 45=>252 | 50=>108 | 5=>5 | 9=>9 | 66=>298 | 70=>302 | 76=>326 | 77=>327 | n=>n,fun | n=>n⟩
theorem ey:Go.Proofs.SlLaysF0.n6 Tryz.prog Tt:={
 mixed:=qk
 f6:=⟨Tryz.f106.name,qd,Tryz.func106.trans (iH some qk)⟩
 f14:=⟨Tryz.f179.name,qd,Tryz.func179.trans (iH some qk)⟩
 f15:=Tryz.func99.trans (iH some qk)
 f20:=⟨Tryz.f219.name,qd,Tryz.func219.trans (iH some qk)⟩
 f21:=⟨Tryz.f220.name,qd,Tryz.func220.trans (iH some qk)⟩
 f22:=⟨Tryz.f221.name,qd,Tryz.func221.trans (iH some qk)⟩
 f23:=⟨Tryz.f222.name,qd,Tryz.func222.trans (iH some qk)⟩
 f24:=⟨Tryz.f223.name,qd,Tryz.func223.trans (iH some qk)⟩
 f25:=⟨Tryz.f224.name,qd,Tryz.func224.trans (iH some qk)⟩
 f26:=⟨Tryz.f225.name,qd,Tryz.func225.trans (iH some qk)⟩
 f27:=⟨Tryz.f226.name,qd,Tryz.func226.trans (iH some qk)⟩
 f28:=Tryz.func174.trans (iH some qk)
 f29:=Tryz.func175.trans (iH some qk)
 f46:=⟨Tryz.f238.name,qd,Tryz.func238.trans (iH some qk)⟩
 f47:=Tryz.func212.trans (iH some qk)
 f48:=Tryz.func213.trans (iH some qk)
 f49:=⟨Tryz.f239.name,qd,Tryz.func239.trans (iH some qk)⟩
 f50:=⟨Tryz.f240.name,qd,Tryz.func240.trans (iH some qk)⟩
 f57:=⟨Tryz.f254.name,qd,Tryz.func254.trans (iH some qk)⟩
 t0:=Tryz.underlying0
 a0:=Tryz.isAgg0
 z0:=Tryz.sizeOf0
 v0:=Tryz.zeroValue0
 t3:=Tryz.underlying3
 a3:=Tryz.isAgg3
 z3:=Tryz.sizeOf3
 v3:=Tryz.zeroValue3
 t4:=Tryz.underlying4
 a4:=Tryz.isAgg4
 z4:=Tryz.sizeOf4
 v4:=Tryz.zeroValue4
 t5:=Tryz.underlying5
 a5:=Tryz.isAgg5
 z5:=Tryz.sizeOf5
 v5:=Tryz.zeroValue5
 t9:=Tryz.underlying9
 a9:=Tryz.isAgg9
 z9:=Tryz.sizeOf9
 v9:=Tryz.zeroValue9
 t22:=Tryz.underlying24
 a22:=Tryz.isAgg24
 z22:=Tryz.sizeOf24
 v22:=Tryz.zeroValue24
 t25:=Tryz.underlying183
 a25:=Tryz.isAgg183
 z25:=Tryz.sizeOf183
 v25:=Tryz.zeroValue183
 t39:=Tryz.underlying173
 a39:=Tryz.isAgg173
 z39:=Tryz.sizeOf173
 v39:=Tryz.zeroValue173
 t45:=Tryz.underlying252
 a45:=Tryz.isAgg252
 z45:=Tryz.sizeOf252
 v45:=Tryz.zeroValue252
 t46:=Tryz.underlying253
 a46:=Tryz.isAgg253
 z46:=Tryz.sizeOf253
 v46:=Tryz.zeroValue253
 t50:=Tryz.underlying108
 a50:=Tryz.isAgg108
 z50:=Tryz.sizeOf108
 v50:=Tryz.zeroValue108
 t53:=Tryz.underlying176
 a53:=Tryz.isAgg176
 z53:=Tryz.sizeOf176
 v53:=Tryz.zeroValue176
 t55:=Tryz.underlying260
 a55:=Tryz.isAgg260
 z55:=Tryz.sizeOf260
 v55:=Tryz.zeroValue260
 t66:=Tryz.underlying298
 a66:=Tryz.isAgg298
 z66:=Tryz.sizeOf298
 v66:=Tryz.zeroValue298
 t70:=Tryz.underlying302
 a70:=Tryz.isAgg302
 z70:=Tryz.sizeOf302
 v70:=Tryz.zeroValue302
 t76:=Tryz.underlying326
 a76:=Tryz.isAgg326
 z76:=Tryz.sizeOf326
 v76:=Tryz.zeroValue326
 t77:=Tryz.underlying327
 a77:=Tryz.isAgg327
 z77:=Tryz.sizeOf327
 v77:=Tryz.zeroValue327
 }

end
end Go.Proofs.YtfklieeipokllaaGreat
