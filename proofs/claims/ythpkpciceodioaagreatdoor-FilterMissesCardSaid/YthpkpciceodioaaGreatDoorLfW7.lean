import Derived.Test.YthpkpciceodioaaGreatDoorLfK
import Derived.Test.YthpkpciceodioaaGreatDoorCode
import Derived.Test.YthpkpciceodioaaGreatDoorBl
namespace Go.Proofs.YthpkpciceodioaaGreatDoor
open Go.RowKit
open Go.Av
open Go.Lc
set_option maxRecDepth 100000
set_option linter.unusedSimpArgs false
set_option linter.unusedVariables false
set_option maxHeartbeats 4000000
theorem w176:Walk tt G [(51,K51.G),(72,K72.G),(114,K114.G)] (fun _=>[]) Tryz.f176 K176:=by
 refine .ak [] false Tryz.ntmps176 fun T hO hT a0 x=>?_
 simp only[Zh] at hT; simp only[kS,nfs,ZeN];exact au
end Go.Proofs.YthpkpciceodioaaGreatDoor
