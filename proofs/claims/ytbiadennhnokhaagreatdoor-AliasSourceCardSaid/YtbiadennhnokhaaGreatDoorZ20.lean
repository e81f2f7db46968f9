import Derived.Deep.AppendLies
import Derived.Laws.AppendOwnNone
import Derived.Lib.AppendZeros
import Derived.Lib.LazyBuf
import Derived.Test.YtbiadennhnokhaaGreatDoorZ15
set_option maxRecDepth 100000
set_option maxHeartbeats 16000000
namespace Go.Proofs.YtbiadennhnokhaaGreatDoor
open Go.RowKit
end Go.Proofs.YtbiadennhnokhaaGreatDoor
