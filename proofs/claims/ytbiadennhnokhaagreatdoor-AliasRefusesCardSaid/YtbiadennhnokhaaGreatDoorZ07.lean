import Derived.BigQuiet
import Derived.BigRegion
import Derived.ChangeSame
import Derived.Deep.Cut
import Derived.Deep.CutRange
import Derived.Deep.DeepCutAuto
import Derived.Deep.Fields
import Derived.Deep.LoopGhost
import Derived.Deep.QuietTactic
import Derived.Deep.Slices
import Derived.Laws.AppendOwnNone
import Derived.Laws.EntriesVeiled
import Derived.Lib.AppendIntMem
import Derived.Lib.AppendStr
import Derived.Lib.AppendZeros
import Derived.Lib.IndexAny
import Derived.Lib.IndexBytes
import Derived.Lib.ItoaLen
import Derived.Lib.Join
import Derived.Lib.LazyBuf
import Derived.Lib.SmallJoins
import Derived.Lib.SplitLaws
import Derived.Lib.Strings
import Derived.Maps.AppendAt
import Derived.Maps.OwnIn
import Derived.SizedLaws
import Derived.Test.YtbiadennhnokhaaGreatDoorZ01
import Derived.Test.YtbiadennhnokhaaGreatDoorZ02
import Derived.Test.YtbiadennhnokhaaGreatDoorZ03
import Derived.Test.YtbiadennhnokhaaGreatDoorZ04
set_option maxRecDepth 100000
set_option maxHeartbeats 16000000
namespace Go.Proofs.YtbiadennhnokhaaGreatDoor
open Go.RowKit Go.Maps Go.Sort Go.Shelf
open Go.Joins Go.ChangeShapes Go.WideShapes Go.RowKit Go.Deep
set_option linter.unusedSimpArgs false
section
variable {H : Type} {enc : TypeId × Value → H} {P : Program} {w : World} {base : Nat} {spare : Nat → Bool} {held : Bool}
end
section
variable {H : Type} {enc : TypeId × Value → H} {w : World} {base : Nat} {spare : Nat → Bool} {held : Bool} {n : Nat} {v : Value} {z : DataW H × List MemPlace}
end
end Go.Proofs.YtbiadennhnokhaaGreatDoor
