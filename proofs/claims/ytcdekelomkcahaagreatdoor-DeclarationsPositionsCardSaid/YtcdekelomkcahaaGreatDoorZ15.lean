import Derived.Test.YtcdekelomkcahaaGreatDoorZ13
set_option maxRecDepth 100000
set_option maxHeartbeats 16000000
namespace Go.Proofs.YtcdekelomkcahaaGreatDoor
open Go.RowKit
def cmdB (k n:Int) (s id:ByteArray):ByteArray:=bsB (cmdL cv k n s.data.toList id.data.toList)
theorem zbU {k n:Int} {s id:ByteArray} (h:(vt k n&&vv k n s&&zb1 id.data.toList)=false):cmdB k n s id=⟨#[]⟩:=by
 unfold cmdB cmdL;rw[if_neg (by show ¬(vt k n&&vv k n (bsB s.data.toList)&&zb1 id.data.toList)=true;rw[zbj,h];simp)];rfl
theorem zbV {k n:Int} {s id:ByteArray} (h:(vt k n&&vv k n s&&zb1 id.data.toList)=true) (h2:zmG k n=true):cmdB k n s id=bsB (fmtV k s.data.toList)++id:=by
 unfold cmdB cmdL;rw[if_pos (by show(vt k n&&vv k n (bsB s.data.toList)&&zb1 id.data.toList)=true;rw[zbj,h]),if_pos h2];show bsB (fmtV k s.data.toList++id.data.toList)=_;apply ByteArray.ext;simp[bsB]
end Go.Proofs.YtcdekelomkcahaaGreatDoor
