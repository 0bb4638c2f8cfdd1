/- Parts of the proof (packed), 4. -/
import Derived.Shelf.SlSortCmp.WholeK
import Derived.Test.YtmcgbdemcknkaaaGreatDoorCwA
namespace Go.Proofs.YtmcgbdemcknkaaaGreatDoor
set_option linter.all false
set_option maxRecDepth 100000
set_option maxHeartbeats 16000000
open List
section
open Go.Shelf Go.RowKit Go.Lib
def TZ:Go.Shelf.Ren:=⟨fun | 6=>127 | 15=>166 | 14=>165 | 28=>208 | 29=>209 | 20=>200 | 21=>201 | 22=>202 | 23=>203 | 24=>204 | 25=>205 | 26=>206 | 27=>207 | 46=>228 | 47=>229 | 48=>230 | 49=>231 | 50=>232 | 57=>239 | n=>n,fun | 22=>37 | 24=>41 | 25=>212 | 3=>3 | 39=>134 | 0=>0 | 53=>199 | 55=>128 | 4=>4 | 46=>297 | 45=>296 | 50=>104 | 5=>5 | 9=>9 | 66=>319 | 70=>322 | 76=>329 | 77=>330 | n=>n,fun | n=>n⟩
theorem gQ:Go.Proofs.SlLaysF0.n6 Tryz.prog TZ:={
 mixed:=qk
 f6:=⟨Tryz.f127.name,qd,Tryz.func127.trans (ix some qk)⟩
 f14:=⟨Tryz.f165.name,qd,Tryz.func165.trans (ix some qk)⟩
 f15:=Tryz.func166.trans (ix some qk)
 f20:=⟨Tryz.f200.name,qd,Tryz.func200.trans (ix some qk)⟩
 f21:=⟨Tryz.f201.name,qd,Tryz.func201.trans (ix some qk)⟩
 f22:=⟨Tryz.f202.name,qd,Tryz.func202.trans (ix some qk)⟩
 f23:=⟨Tryz.f203.name,qd,Tryz.func203.trans (ix some qk)⟩
 f24:=⟨Tryz.f204.name,qd,Tryz.func204.trans (ix some qk)⟩
 f25:=⟨Tryz.f205.name,qd,Tryz.func205.trans (ix some qk)⟩
 f26:=⟨Tryz.f206.name,qd,Tryz.func206.trans (ix some qk)⟩
 f27:=⟨Tryz.f207.name,qd,Tryz.func207.trans (ix some qk)⟩
 f28:=Tryz.func208.trans (ix some qk)
 f29:=Tryz.func209.trans (ix some qk)
 f46:=⟨Tryz.f228.name,qd,Tryz.func228.trans (ix some qk)⟩
 f47:=Tryz.func229.trans (ix some qk)
 f48:=Tryz.func230.trans (ix some qk)
 f49:=⟨Tryz.f231.name,qd,Tryz.func231.trans (ix some qk)⟩
 f50:=⟨Tryz.f232.name,qd,Tryz.func232.trans (ix some qk)⟩
 f57:=⟨Tryz.f239.name,qd,Tryz.func239.trans (ix some qk)⟩
 t0:=Tryz.underlying0
 a0:=Tryz.isAgg0
 z0:=Tryz.sizeOf0
 v0:=Tryz.zeroValue0
 t3:=Tryz.underlying3
 a3:=Tryz.isAgg3
 z3:=Tryz.sizeOf3
 v3:=Tryz.zeroValue3
 t4:=Tryz.underlying4
 a4:=Tryz.isAgg4
 z4:=Tryz.sizeOf4
 v4:=Tryz.zeroValue4
 t5:=Tryz.underlying5
 a5:=Tryz.isAgg5
 z5:=Tryz.sizeOf5
 v5:=Tryz.zeroValue5
 t9:=Tryz.underlying9
 a9:=Tryz.isAgg9
 z9:=Tryz.sizeOf9
 v9:=Tryz.zeroValue9
 t22:=Tryz.underlying37
 a22:=Tryz.isAgg37
 z22:=Tryz.sizeOf37
 v22:=Tryz.zeroValue37
 t25:=Tryz.underlying212
 a25:=Tryz.isAgg212
 z25:=Tryz.sizeOf212
 v25:=Tryz.zeroValue212
 t39:=Tryz.underlying134
 a39:=Tryz.isAgg134
 z39:=Tryz.sizeOf134
 v39:=Tryz.zeroValue134
 t45:=Tryz.underlying296
 a45:=Tryz.isAgg296
 z45:=Tryz.sizeOf296
 v45:=Tryz.zeroValue296
 t46:=Tryz.underlying297
 a46:=Tryz.isAgg297
 z46:=Tryz.sizeOf297
 v46:=Tryz.zeroValue297
 t50:=Tryz.underlying104
 a50:=Tryz.isAgg104
 z50:=Tryz.sizeOf104
 v50:=Tryz.zeroValue104
 t53:=Tryz.underlying199
 a53:=Tryz.isAgg199
 z53:=Tryz.sizeOf199
 v53:=Tryz.zeroValue199
 t55:=Tryz.underlying128
 a55:=Tryz.isAgg128
 z55:=Tryz.sizeOf128
 v55:=Tryz.zeroValue128
 t66:=Tryz.underlying319
 a66:=Tryz.isAgg319
 z66:=Tryz.sizeOf319
 v66:=Tryz.zeroValue319
 t70:=Tryz.underlying322
 a70:=Tryz.isAgg322
 z70:=Tryz.sizeOf322
 v70:=Tryz.zeroValue322
 t76:=Tryz.underlying329
 a76:=Tryz.isAgg329
 z76:=Tryz.sizeOf329
 v76:=Tryz.zeroValue329
 t77:=Tryz.underlying330
 a77:=Tryz.isAgg330
 z77:=Tryz.sizeOf330
 v77:=Tryz.zeroValue330
 }

end
end Go.Proofs.YtmcgbdemcknkaaaGreatDoor
