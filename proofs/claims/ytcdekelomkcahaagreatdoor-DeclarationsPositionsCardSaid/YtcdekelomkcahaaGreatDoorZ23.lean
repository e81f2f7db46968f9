import Derived.Test.YtcdekelomkcahaaGreatDoorZ14
import Derived.Test.YtcdekelomkcahaaGreatDoorZ15
set_option maxRecDepth 100000
set_option maxHeartbeats 16000000
namespace Go.Proofs.YtcdekelomkcahaaGreatDoor
open Go.RowKit
set_option linter.unusedSimpArgs false
theorem SMap.more {P:Program} {K:TypeId} {w:World} {b n n':Nat} {f:BsM→Option Value} (h:SMap P K w b n f) (hn:n≤n'):SMap P K w b n' f:=by
 obtain⟨D,ho,hf⟩:=h;exact⟨D,ho.mono hn,hf⟩
end Go.Proofs.YtcdekelomkcahaaGreatDoor
