/- Laid6 -/
import Derived.Shelf.Strings.Prefix
import Derived.Test.YthnenedoblncjaaGreatDoorProg
namespace Go.Proofs
open Go.Shelf
def Tryz.lays102_ren : Go.Shelf.Ren := ⟨fun | 102 => 45 | 209 => 88 | 207 => 63 | n => n, fun | 9 => 9 | 4 => 4 | 3 => 3 | n => n, fun | n => n⟩
theorem Tryz.lays102 : Go.Proofs.Lays.n102 Tryz.prog Tryz.lays102_ren := {
  mixed := by kernel_rfl
  f102 := Tryz.func45.trans (congrArg some (by kernel_rfl))
  f207 := Tryz.func63.trans (congrArg some (by kernel_rfl))
  f209 := Tryz.func88.trans (congrArg some (by kernel_rfl))
  t3 := Tryz.underlying3
  a3 := Tryz.isAgg3
  z3 := Tryz.sizeOf3
  v3 := Tryz.zeroValue3
  t4 := Tryz.underlying4
  a4 := Tryz.isAgg4
  z4 := Tryz.sizeOf4
  v4 := Tryz.zeroValue4
  t9 := Tryz.underlying9
  a9 := Tryz.isAgg9
  z9 := Tryz.sizeOf9
  v9 := Tryz.zeroValue9 }
end Go.Proofs
