/- Parts of the proof (packed), 5. -/
import Derived.Shelf.Strings.OnBuilder
import Derived.Test.YtmcgbdemcknkaaaGreatDoorCwA
namespace Go.Proofs.YtmcgbdemcknkaaaGreatDoor
set_option linter.all false
set_option maxRecDepth 100000
set_option maxHeartbeats 16000000
open List
section
open Go.Shelf Go.RowKit Go.Lib
def PQ:Go.Shelf.Ren:=⟨fun | 156=>52 | 165=>96 | 166=>97 | 169=>98 | 240=>154 | 241=>155 | 276=>190 | 277=>191 | n=>n,fun | 31=>24 | 9=>9 | 3=>3 | 4=>4 | 0=>0 | 20=>20 | 72=>162 | 76=>166 | 70=>160 | 37=>74 | 75=>165 | 127=>247 | 164=>280 | 5=>5 | 80=>73 | n=>n,fun | n=>n⟩
theorem fB:Go.Proofs.Lays.n156 Tryz.prog PQ:={
 mixed:=qk
 f156:=Tryz.func52.trans (ix some qk)
 f165:=Tryz.func96.trans (ix some qk)
 f166:=Tryz.func97.trans (ix some qk)
 f169:=Tryz.func98.trans (ix some qk)
 f240:=Tryz.func154.trans (ix some qk)
 f241:=Tryz.func155.trans (ix some qk)
 f276:=Tryz.func190.trans (ix some qk)
 f277:=Tryz.func191.trans (ix some qk)
 t0:=Tryz.underlying0
 a0:=Tryz.isAgg0
 z0:=Tryz.sizeOf0
 v0:=Tryz.zeroValue0
 t3:=Tryz.underlying3
 a3:=Tryz.isAgg3
 z3:=Tryz.sizeOf3
 v3:=Tryz.zeroValue3
 t4:=Tryz.underlying4
 a4:=Tryz.isAgg4
 z4:=Tryz.sizeOf4
 v4:=Tryz.zeroValue4
 t9:=Tryz.underlying9
 a9:=Tryz.isAgg9
 z9:=Tryz.sizeOf9
 v9:=Tryz.zeroValue9
 t20:=Tryz.underlying20
 a20:=Tryz.isAgg20
 z20:=Tryz.sizeOf20
 v20:=Tryz.zeroValue20
 t31:=Tryz.underlying24
 a31:=Tryz.isAgg24
 z31:=Tryz.sizeOf24
 v31:=Tryz.zeroValue24
 t37:=Tryz.underlying74
 a37:=Tryz.isAgg74
 z37:=Tryz.sizeOf74
 v37:=Tryz.zeroValue74
 t70:=Tryz.underlying160
 a70:=Tryz.isAgg160
 z70:=Tryz.sizeOf160
 v70:=Tryz.zeroValue160
 t72:=Tryz.underlying162
 a72:=Tryz.isAgg162
 z72:=Tryz.sizeOf162
 v72:=Tryz.zeroValue162
 t75:=Tryz.underlying165
 a75:=Tryz.isAgg165
 z75:=Tryz.sizeOf165
 v75:=Tryz.zeroValue165
 t76:=Tryz.underlying166
 a76:=Tryz.isAgg166
 z76:=Tryz.sizeOf166
 v76:=Tryz.zeroValue166
 t127:=Tryz.underlying247
 a127:=Tryz.isAgg247
 z127:=Tryz.sizeOf247
 v127:=Tryz.zeroValue247
 t164:=Tryz.underlying280
 a164:=Tryz.isAgg280
 z164:=Tryz.sizeOf280
 v164:=Tryz.zeroValue280
 }

end
end Go.Proofs.YtmcgbdemcknkaaaGreatDoor
