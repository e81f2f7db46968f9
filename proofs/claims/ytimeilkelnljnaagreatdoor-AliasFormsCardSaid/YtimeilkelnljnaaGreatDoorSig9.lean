import Derived.Test.YtimeilkelnljnaaGreatDoorSig8
namespace Go.Proofs.YtimeilkelnljnaaGreatDoor
open Go.RowKit

def nzGo (k n : Int) (at_ : Int) : List Ch → Int
  | [] => 0
  | c :: l => if c.1 < at_ ∨ 1099511627776 < c.1 then 2 else if vv k n c.2 = false then 1 else nzGo k n c.1 l
def normalizeR (k n : Int) (l : List Ch) : SigR := if vt k n = false then ((0, 0, []), 7) else if nzGo k n 0 l ≠ 0 then ((0, 0, []), nzGo k n 0 l) else madeR k n l

end Go.Proofs.YtimeilkelnljnaaGreatDoor
