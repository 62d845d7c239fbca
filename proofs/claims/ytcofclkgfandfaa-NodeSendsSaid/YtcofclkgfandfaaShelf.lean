/- The contract of slices.Sort at this program: the shelf's, its numbers renamed. -/
import Derived.Shelf.SlGeneric
import Derived.Shelf.SortG.Plain
import Derived.Shelf.SlicesG.Turned
import Derived.Ground.SlgnProg
import Derived.Test.YtcofclkgfandfaaProg
namespace Go.Proofs
open Go.Shelf
def Try.sortLays_ren : Go.Shelf.Ren := ⟨fun | 53 => 73 | 64 => 77 | 63 => 76 | 78 => 87 | 79 => 71 | 70 => 78 | 71 => 79 | 72 => 80 | 73 => 81 | 74 => 82 | 75 => 83 | 59 => 84 | 76 => 85 | 77 => 86 | 88 => 88 | 89 => 89 | 90 => 90 | 91 => 91 | 92 => 92 | 68 => 93 | 96 => 94 | n => n, fun | 22 => 31 | 23 => 2 | 3 => 3 | 51 => 106 | 0 => 0 | 67 => 131 | 69 => 27 | 4 => 4 | 61 => 123 | 60 => 122 | 44 => 128 | 5 => 5 | 9 => 9 | 75 => 132 | 79 => 136 | 83 => 138 | 84 => 139 | n => n, fun | n => n⟩
theorem Try.sortLays : Go.Proofs.SlLaysN.n53 Try.prog Try.sortLays_ren := {
  mixed := by kernel_rfl
  f53 := ⟨Try.f73.name, by decide, Try.func73.trans (congrArg some (by kernel_rfl))⟩
  f59 := ⟨Try.f84.name, by decide, Try.func84.trans (congrArg some (by kernel_rfl))⟩
  f63 := ⟨Try.f76.name, by decide, Try.func76.trans (congrArg some (by kernel_rfl))⟩
  f64 := Try.func77.trans (congrArg some (by kernel_rfl))
  f68 := ⟨Try.f93.name, by decide, Try.func93.trans (congrArg some (by kernel_rfl))⟩
  f70 := ⟨Try.f78.name, by decide, Try.func78.trans (congrArg some (by kernel_rfl))⟩
  f71 := ⟨Try.f79.name, by decide, Try.func79.trans (congrArg some (by kernel_rfl))⟩
  f72 := ⟨Try.f80.name, by decide, Try.func80.trans (congrArg some (by kernel_rfl))⟩
  f73 := ⟨Try.f81.name, by decide, Try.func81.trans (congrArg some (by kernel_rfl))⟩
  f74 := ⟨Try.f82.name, by decide, Try.func82.trans (congrArg some (by kernel_rfl))⟩
  f75 := ⟨Try.f83.name, by decide, Try.func83.trans (congrArg some (by kernel_rfl))⟩
  f76 := ⟨Try.f85.name, by decide, Try.func85.trans (congrArg some (by kernel_rfl))⟩
  f77 := ⟨Try.f86.name, by decide, Try.func86.trans (congrArg some (by kernel_rfl))⟩
  f78 := Try.func87.trans (congrArg some (by kernel_rfl))
  f79 := Try.func71.trans (congrArg some (by kernel_rfl))
  f88 := ⟨Try.f88.name, by decide, Try.func88.trans (congrArg some (by kernel_rfl))⟩
  f89 := Try.func89.trans (congrArg some (by kernel_rfl))
  f90 := Try.func90.trans (congrArg some (by kernel_rfl))
  f91 := ⟨Try.f91.name, by decide, Try.func91.trans (congrArg some (by kernel_rfl))⟩
  f92 := ⟨Try.f92.name, by decide, Try.func92.trans (congrArg some (by kernel_rfl))⟩
  f96 := ⟨Try.f94.name, by decide, Try.func94.trans (congrArg some (by kernel_rfl))⟩
  t0 := Try.underlying0
  a0 := Try.isAgg0
  z0 := Try.sizeOf0
  v0 := Try.zeroValue0
  t3 := Try.underlying3
  a3 := Try.isAgg3
  z3 := Try.sizeOf3
  v3 := Try.zeroValue3
  t4 := Try.underlying4
  a4 := Try.isAgg4
  z4 := Try.sizeOf4
  v4 := Try.zeroValue4
  t5 := Try.underlying5
  a5 := Try.isAgg5
  z5 := Try.sizeOf5
  v5 := Try.zeroValue5
  t9 := Try.underlying9
  a9 := Try.isAgg9
  z9 := Try.sizeOf9
  v9 := Try.zeroValue9
  t22 := Try.underlying31
  a22 := Try.isAgg31
  z22 := Try.sizeOf31
  v22 := Try.zeroValue31
  t23 := Try.underlying2
  a23 := Try.isAgg2
  z23 := Try.sizeOf2
  v23 := Try.zeroValue2
  t44 := Try.underlying128
  a44 := Try.isAgg128
  z44 := Try.sizeOf128
  v44 := Try.zeroValue128
  t51 := Try.underlying106
  a51 := Try.isAgg106
  z51 := Try.sizeOf106
  v51 := Try.zeroValue106
  t60 := Try.underlying122
  a60 := Try.isAgg122
  z60 := Try.sizeOf122
  v60 := Try.zeroValue122
  t61 := Try.underlying123
  a61 := Try.isAgg123
  z61 := Try.sizeOf123
  v61 := Try.zeroValue123
  t67 := Try.underlying131
  a67 := Try.isAgg131
  z67 := Try.sizeOf131
  v67 := Try.zeroValue131
  t69 := Try.underlying27
  a69 := Try.isAgg27
  z69 := Try.sizeOf27
  v69 := Try.zeroValue27
  t75 := Try.underlying132
  a75 := Try.isAgg132
  z75 := Try.sizeOf132
  v75 := Try.zeroValue132
  t79 := Try.underlying136
  a79 := Try.isAgg136
  z79 := Try.sizeOf136
  v79 := Try.zeroValue136
  t83 := Try.underlying138
  a83 := Try.isAgg138
  z83 := Try.sizeOf138
  v83 := Try.zeroValue138
  t84 := Try.underlying139
  a84 := Try.isAgg139
  z84 := Try.sizeOf139
  v84 := Try.zeroValue139 }
end Go.Proofs
