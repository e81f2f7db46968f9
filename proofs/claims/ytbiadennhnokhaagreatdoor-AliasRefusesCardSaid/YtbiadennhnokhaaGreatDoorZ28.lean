import Derived.Test.YtbiadennhnokhaaGreatDoorZ25
import Derived.Test.YtbiadennhnokhaaGreatDoorZ26
set_option maxRecDepth 100000
set_option maxHeartbeats 16000000
namespace Go.Proofs.YtbiadennhnokhaaGreatDoor
set_option linter.unusedSimpArgs false
open Go.RowKit
theorem zon {k n:Int} {l:List Ch} (h:sv k n l=true):Fit l∧l.length≤4096:=by
 have h1:=(zoh.1 h).2.1;exact⟨⟨by omega,fun c hc=>by have:=zqA (zoi h c hc).2.2;omega⟩,h1⟩
open Go.RowKit Go.Sort
end Go.Proofs.YtbiadennhnokhaaGreatDoor
