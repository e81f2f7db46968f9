/- The law AliasRefuses of package wavestorelaw29 returns true for every input, and its arguments read afterwards as before. Condition: the listed library tables read as the program's text lays them (tied by the given tie; over the pruned copy of the repository). -/
import Derived.Test.YtbiadennhnokhaaGreatDoorZLreE
import Derived.Test.YtbiadennhnokhaaGreatDoorLreK
namespace Go.Proofs.YtbiadennhnokhaaGreatDoor
open Go.Joins Go.ChangeShapes Go.WideShapes Go.ChangeAt Go.RowKit Go.Deep
theorem aliasRefuses_holds : Rows.AliasRefusesCardSaid := card_of (row_of fun os started H enc => lifted os started H enc)
#print axioms aliasRefuses_holds
end Go.Proofs.YtbiadennhnokhaaGreatDoor
