import Derived.Ground.SlsfProg
import Derived.Shelf.SlIterI.Nil
import Derived.Shelf.SlIterI.Sorted
import Derived.Shelf.SlSortCmp.Insertion
import Derived.Test.YtbiadennhnokhaaGreatDoorProg
set_option maxRecDepth 100000
set_option maxHeartbeats 16000000
namespace Go.Proofs
open Go.Shelf
def Tryz.laysSlF20_ins_ren:Go.Shelf.Ren:=⟨fun|20=>187|n=>n,fun|24=>3|22=>38|3=>3|25=>165|4=>4|0=>0|n=>n,fun|n=>n⟩
theorem Tryz.laysSlF20_ins:Go.Proofs.SlLaysF.n20 Tryz.prog Tryz.laysSlF20_ins_ren:={
 mixed:=by kernel_rfl
 f20:=⟨Tryz.f187.name,by decide,Tryz.func187.trans (congrArg some (by kernel_rfl))⟩
 t0:=Tryz.underlying0
 a0:=Tryz.isAgg0
 z0:=Tryz.sizeOf0
 v0:=Tryz.zeroValue0
 t3:=Tryz.underlying3
 a3:=Tryz.isAgg3
 z3:=Tryz.sizeOf3
 v3:=Tryz.zeroValue3
 t4:=Tryz.underlying4
 a4:=Tryz.isAgg4
 z4:=Tryz.sizeOf4
 v4:=Tryz.zeroValue4
 t22:=Tryz.underlying38
 a22:=Tryz.isAgg38
 z22:=Tryz.sizeOf38
 v22:=Tryz.zeroValue38
 a24:=Tryz.isAgg3
 z24:=Tryz.sizeOf3
 t25:=Tryz.underlying165
 a25:=Tryz.isAgg165
 z25:=Tryz.sizeOf165
 v25:=Tryz.zeroValue165}
open Go.RowKit Go.Lib Go.Sort in
theorem Tryz.insertionSortCmpFunc_one {α:Type} [Inhabited α] (enc:α→Value) (hO:OneCell enc) (cf:α→α→Int) (g:Nat) (cb:Array Value) (blk off cap a b:Nat) (d:Array α) (w:World) (eg:∀args w,(callFunc g args).run Tryz.prog w=.ok (.enter g args) w) (hcmp:CmpReads Tryz.prog g cb enc cf blk off d.size w) (hH:Holds enc w blk off d) (hab:a≤b) (hb:b≤d.size) (hsz:d.size<4611686018427387904):
 Calls Tryz.prog 187 #[.slice (some ⟨blk,off,none⟩) d.size cap,.int .i64 a,.int .i64 b,.func (.func g) #[] cb] w fun e w'=>
  e=.returned (.tuple #[])∧∃n,w'=(putRow enc w blk off (Sort.insertionSort (ltOf cf) d a b)).drewN n:=Any.insertionSortCmpFunc_one Tryz.laysSlF20_ins enc hO cf g cb blk off cap a b d w eg hcmp hH hab hb hsz
end Go.Proofs
