import Derived.Ground.SlsfProg
import Derived.Shelf.SlSortCmp.Insertion
import Derived.Sort.LotA
import Derived.Test.YtbiadennhnokhaaGreatDoorZ28
set_option maxRecDepth 100000
set_option maxHeartbeats 16000000
namespace Go.Proofs.YtbiadennhnokhaaGreatDoor
open Go.RowKit
open Go.RowKit Go.Sort
end Go.Proofs.YtbiadennhnokhaaGreatDoor
