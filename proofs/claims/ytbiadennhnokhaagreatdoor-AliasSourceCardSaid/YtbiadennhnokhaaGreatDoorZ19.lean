import Derived.ChangeSame
import Derived.Deep.AppendLies
import Derived.Deep.Fields
import Derived.Deep.Slices
import Derived.Laws.AppendOwnNone
import Derived.Lib.AppendZeros
import Derived.Lib.LazyBuf
import Derived.Lib.SmallJoins
import Derived.Sort.OwnSortedInts
import Derived.Test.YtbiadennhnokhaaGreatDoorZ15
set_option maxRecDepth 100000
set_option maxHeartbeats 16000000
namespace Go.Proofs.YtbiadennhnokhaaGreatDoor
open Go.Joins Go.ChangeShapes Go.WideShapes Go.RowKit Go.Deep
section
variable {H : Type} {enc : TypeId × Value → H} {P : Program} {w : World} {base : Nat} {spare : Nat → Bool} {held : Bool}
end
open Go.RowKit Go.Sort
def zgD (l:List Int):List Value:=l.map (Value.int .i64)
theorem zgC:(Tryz.prog.info? 3).map (fun i=>(i.zero,i.size,i.bytes))=some (some (.int .i64 0),1,8):=by kernel_rfl
def zam (w:World) (vs:List (Value×List Ch)):Prop:=∀x∈vs,SlR w x.1 x.2.length (chs x.2)∧x.2.length≤5000∧∀c∈x.2,0≤c.1∧c.1≤1099511627776
theorem zam.below {w w':World} {vs:List (Value×List Ch)} (h:zam w vs) (hb:Below w.heap.size w w'):zam w' vs:=fun x hx=>⟨(h x hx).1.below hb,(h x hx).2⟩
end Go.Proofs.YtbiadennhnokhaaGreatDoor
