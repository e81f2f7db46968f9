/- The law AliasSource of package wavestorelaw29 returns true for every input, and its arguments read afterwards as before. Condition: the listed library tables read as the program's text lays them (tied by the given tie; over the pruned copy of the repository). -/
import Derived.Test.YtbiadennhnokhaaGreatDoorZLasE
import Derived.Test.YtbiadennhnokhaaGreatDoorLasK
namespace Go.Proofs.YtbiadennhnokhaaGreatDoor
open Go.Joins Go.ChangeShapes Go.WideShapes Go.ChangeAt Go.RowKit Go.Deep
theorem aliasSource_holds : Rows.AliasSourceCardSaid := card_of (row_of fun os started H enc => lifted os started H enc)
#print axioms aliasSource_holds
end Go.Proofs.YtbiadennhnokhaaGreatDoor
