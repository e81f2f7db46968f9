/- maps.Keys and slices.Sorted: the layings at this dump, in plain words. -/
import Derived.Shelf.SlIterI.Nil
import Derived.Shelf.SlIterI.Sorted
import Derived.Test.YtbiadennhnokhaaGreatDoorProg
namespace Go.Proofs
def Tryz.keysA_ren : Go.Shelf.Ren := ⟨fun | 7 => 78 | 10 => 140 | n => n, fun | 23 => 118 | 26 => 3 | 3 => 4 | 28 => 121 | 0 => 0 | 27 => 120 | 33 => 103 | 4 => 4 | n => n, fun | n => n⟩
theorem Tryz.keysA : Go.Proofs.SlLaysZI.n7 Tryz.prog Tryz.keysA_ren := {
  mixed := by kernel_rfl
  f7 := ⟨Tryz.f78.name, by decide, Tryz.func78.trans (congrArg some (by kernel_rfl))⟩
  f10 := ⟨Tryz.f140.name, by decide, Tryz.func140.trans (congrArg some (by kernel_rfl))⟩
  t0 := Tryz.underlying0
  a0 := Tryz.isAgg0
  z0 := Tryz.sizeOf0
  v0 := Tryz.zeroValue0
  t4 := Tryz.underlying4
  a4 := Tryz.isAgg4
  z4 := Tryz.sizeOf4
  v4 := Tryz.zeroValue4
  t23 := Tryz.underlying118
  a23 := Tryz.isAgg118
  z23 := Tryz.sizeOf118
  v23 := Tryz.zeroValue118
  t26 := Tryz.underlying3
  a26 := Tryz.isAgg3
  z26 := Tryz.sizeOf3
  v26 := Tryz.zeroValue3
  t27 := Tryz.underlying120
  a27 := Tryz.isAgg120
  z27 := Tryz.sizeOf120
  v27 := Tryz.zeroValue120
  t28 := Tryz.underlying121
  a28 := Tryz.isAgg121
  z28 := Tryz.sizeOf121
  v28 := Tryz.zeroValue121
  t33 := Tryz.underlying103
  a33 := Tryz.isAgg103
  z33 := Tryz.sizeOf103
  v33 := Tryz.zeroValue103 }
def Tryz.sortedA_ren : Go.Shelf.Ren := ⟨fun | 6 => 77 | 8 => 139 | 9 => 117 | 11 => 178 | 13 => 160 | 12 => 159 | 23 => 198 | 24 => 199 | 14 => 189 | 15 => 190 | 16 => 191 | 17 => 192 | 18 => 193 | 19 => 194 | 20 => 195 | 21 => 196 | 22 => 197 | 25 => 251 | 26 => 252 | 27 => 253 | 28 => 254 | 29 => 255 | 30 => 158 | 31 => 281 | n => n, fun | 26 => 3 | 28 => 121 | 24 => 38 | 0 => 0 | 3 => 3 | 37 => 129 | 48 => 189 | 50 => 192 | 4 => 4 | 40 => 226 | 39 => 225 | 45 => 196 | 5 => 5 | 9 => 9 | 51 => 259 | 55 => 263 | 57 => 287 | 58 => 288 | 33 => 103 | n => n, fun | n => n⟩
theorem Tryz.sortedA : Go.Proofs.SlLaysZI.n6 Tryz.prog Tryz.sortedA_ren := {
  mixed := by kernel_rfl
  f6 := ⟨Tryz.f77.name, by decide, Tryz.func77.trans (congrArg some (by kernel_rfl))⟩
  f8 := ⟨Tryz.f139.name, by decide, Tryz.func139.trans (congrArg some (by kernel_rfl))⟩
  f11 := ⟨Tryz.f178.name, by decide, Tryz.func178.trans (congrArg some (by kernel_rfl))⟩
  t0 := Tryz.underlying0
  a0 := Tryz.isAgg0
  z0 := Tryz.sizeOf0
  v0 := Tryz.zeroValue0
  t24 := Tryz.underlying38
  a24 := Tryz.isAgg38
  z24 := Tryz.sizeOf38
  v24 := Tryz.zeroValue38
  t26 := Tryz.underlying3
  a26 := Tryz.isAgg3
  z26 := Tryz.sizeOf3
  v26 := Tryz.zeroValue3
  t28 := Tryz.underlying121
  a28 := Tryz.isAgg121
  z28 := Tryz.sizeOf121
  v28 := Tryz.zeroValue121
  i26 := by kernel_rfl }
end Go.Proofs
