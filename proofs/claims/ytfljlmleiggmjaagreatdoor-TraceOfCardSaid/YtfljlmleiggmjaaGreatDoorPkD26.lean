/- Laid -/
import Derived.Shelf.Small.Bits
import Derived.Test.YtfljlmleiggmjaaGreatDoorProg
namespace Go.Proofs
open Go.Shelf
def Tryz.lays125_ren : Go.Shelf.Ren := ⟨fun | 125 => 162 | 128 => 196 | 129 => 197 | n => n, fun | 46 => 112 | 3 => 3 | 51 => 234 | 53 => 124 | 4 => 4 | 5 => 5 | 9 => 9 | n => n, fun | n => n⟩
theorem Tryz.lays125 : Go.Proofs.Lays.n125 Tryz.prog Tryz.lays125_ren := {
  mixed := by kernel_rfl
  f125 := Tryz.func162.trans (congrArg some (by kernel_rfl))
  f128 := Tryz.func196.trans (congrArg some (by kernel_rfl))
  f129 := Tryz.func197.trans (congrArg some (by kernel_rfl))
  t3 := Tryz.underlying3
  a3 := Tryz.isAgg3
  z3 := Tryz.sizeOf3
  v3 := Tryz.zeroValue3
  t4 := Tryz.underlying4
  a4 := Tryz.isAgg4
  z4 := Tryz.sizeOf4
  v4 := Tryz.zeroValue4
  t5 := Tryz.underlying5
  a5 := Tryz.isAgg5
  z5 := Tryz.sizeOf5
  v5 := Tryz.zeroValue5
  t9 := Tryz.underlying9
  a9 := Tryz.isAgg9
  z9 := Tryz.sizeOf9
  v9 := Tryz.zeroValue9
  t46 := Tryz.underlying112
  a46 := Tryz.isAgg112
  z46 := Tryz.sizeOf112
  v46 := Tryz.zeroValue112
  t51 := Tryz.underlying234
  a51 := Tryz.isAgg234
  z51 := Tryz.sizeOf234
  v51 := Tryz.zeroValue234
  t53 := Tryz.underlying124
  a53 := Tryz.isAgg124
  z53 := Tryz.sizeOf124
  v53 := Tryz.zeroValue124 }
end Go.Proofs
