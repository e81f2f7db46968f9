import Derived.Test.YtcdekelomkcahaaGreatDoorZ08
set_option maxRecDepth 100000
set_option maxHeartbeats 16000000
namespace Go.Proofs.YtcdekelomkcahaaGreatDoor
open Go.RowKit
def zcQ (s:ByteArray):Bool:=match zl0 s with|none=>false|some n=>decide (zij n=(s.data.toList,0))
def zab (s:ByteArray) (w:World) (e:Ending) (w':World):Prop:=
 ∃(b:Bool) (a:Option Addr) (n c:Nat) (x:Int),e=.returned (.tuple #[.agg #[.bool b,.slice a n c,.int .i64 x],.bool (zcQ s)])∧Below w.heap.size w w'
theorem zab.mk {s:ByteArray} {w w':World} {b ok:Bool} {a:Option Addr} {n c:Nat} {x:Int} (h:ok=zcQ s) (hb:Below w.heap.size w w'):
 zab s w (.returned (.tuple #[.agg #[.bool b,.slice a n c,.int .i64 x],.bool ok])) w':=by
 subst h;exact⟨b,a,n,c,x,rfl,hb⟩
end Go.Proofs.YtcdekelomkcahaaGreatDoor
