/- The contract of slices.Sort at this program: the shelf's, its numbers renamed. -/
import Derived.Shelf.SlGeneric
import Derived.Shelf.SortG.Plain
import Derived.Shelf.SlicesG.Turned
import Derived.Ground.SlgnProg
import Derived.Test.YtcofclkgfandfaaGreatProg
namespace Go.Proofs
open Go.Shelf
def Tryz.sortLays_ren : Go.Shelf.Ren := ⟨fun | 53 => 169 | 64 => 173 | 63 => 172 | 78 => 183 | 79 => 92 | 70 => 174 | 71 => 175 | 72 => 176 | 73 => 177 | 74 => 178 | 75 => 179 | 59 => 180 | 76 => 181 | 77 => 182 | 88 => 184 | 89 => 185 | 90 => 186 | 91 => 187 | 92 => 188 | 68 => 189 | 96 => 190 | n => n, fun | 22 => 30 | 23 => 2 | 3 => 3 | 51 => 124 | 0 => 0 | 67 => 152 | 69 => 24 | 4 => 4 | 61 => 189 | 60 => 188 | 44 => 102 | 5 => 5 | 9 => 9 | 75 => 196 | 79 => 200 | 83 => 202 | 84 => 203 | n => n, fun | n => n⟩
theorem Tryz.sortLays : Go.Proofs.SlLaysN.n53 Tryz.prog Tryz.sortLays_ren := {
  mixed := by kernel_rfl
  f53 := ⟨Tryz.f169.name, by decide, Tryz.func169.trans (congrArg some (by kernel_rfl))⟩
  f59 := ⟨Tryz.f180.name, by decide, Tryz.func180.trans (congrArg some (by kernel_rfl))⟩
  f63 := ⟨Tryz.f172.name, by decide, Tryz.func172.trans (congrArg some (by kernel_rfl))⟩
  f64 := Tryz.func173.trans (congrArg some (by kernel_rfl))
  f68 := ⟨Tryz.f189.name, by decide, Tryz.func189.trans (congrArg some (by kernel_rfl))⟩
  f70 := ⟨Tryz.f174.name, by decide, Tryz.func174.trans (congrArg some (by kernel_rfl))⟩
  f71 := ⟨Tryz.f175.name, by decide, Tryz.func175.trans (congrArg some (by kernel_rfl))⟩
  f72 := ⟨Tryz.f176.name, by decide, Tryz.func176.trans (congrArg some (by kernel_rfl))⟩
  f73 := ⟨Tryz.f177.name, by decide, Tryz.func177.trans (congrArg some (by kernel_rfl))⟩
  f74 := ⟨Tryz.f178.name, by decide, Tryz.func178.trans (congrArg some (by kernel_rfl))⟩
  f75 := ⟨Tryz.f179.name, by decide, Tryz.func179.trans (congrArg some (by kernel_rfl))⟩
  f76 := ⟨Tryz.f181.name, by decide, Tryz.func181.trans (congrArg some (by kernel_rfl))⟩
  f77 := ⟨Tryz.f182.name, by decide, Tryz.func182.trans (congrArg some (by kernel_rfl))⟩
  f78 := Tryz.func183.trans (congrArg some (by kernel_rfl))
  f79 := Tryz.func92.trans (congrArg some (by kernel_rfl))
  f88 := ⟨Tryz.f184.name, by decide, Tryz.func184.trans (congrArg some (by kernel_rfl))⟩
  f89 := Tryz.func185.trans (congrArg some (by kernel_rfl))
  f90 := Tryz.func186.trans (congrArg some (by kernel_rfl))
  f91 := ⟨Tryz.f187.name, by decide, Tryz.func187.trans (congrArg some (by kernel_rfl))⟩
  f92 := ⟨Tryz.f188.name, by decide, Tryz.func188.trans (congrArg some (by kernel_rfl))⟩
  f96 := ⟨Tryz.f190.name, by decide, Tryz.func190.trans (congrArg some (by kernel_rfl))⟩
  t0 := Tryz.underlying0
  a0 := Tryz.isAgg0
  z0 := Tryz.sizeOf0
  v0 := Tryz.zeroValue0
  t3 := Tryz.underlying3
  a3 := Tryz.isAgg3
  z3 := Tryz.sizeOf3
  v3 := Tryz.zeroValue3
  t4 := Tryz.underlying4
  a4 := Tryz.isAgg4
  z4 := Tryz.sizeOf4
  v4 := Tryz.zeroValue4
  t5 := Tryz.underlying5
  a5 := Tryz.isAgg5
  z5 := Tryz.sizeOf5
  v5 := Tryz.zeroValue5
  t9 := Tryz.underlying9
  a9 := Tryz.isAgg9
  z9 := Tryz.sizeOf9
  v9 := Tryz.zeroValue9
  t22 := Tryz.underlying30
  a22 := Tryz.isAgg30
  z22 := Tryz.sizeOf30
  v22 := Tryz.zeroValue30
  t23 := Tryz.underlying2
  a23 := Tryz.isAgg2
  z23 := Tryz.sizeOf2
  v23 := Tryz.zeroValue2
  t44 := Tryz.underlying102
  a44 := Tryz.isAgg102
  z44 := Tryz.sizeOf102
  v44 := Tryz.zeroValue102
  t51 := Tryz.underlying124
  a51 := Tryz.isAgg124
  z51 := Tryz.sizeOf124
  v51 := Tryz.zeroValue124
  t60 := Tryz.underlying188
  a60 := Tryz.isAgg188
  z60 := Tryz.sizeOf188
  v60 := Tryz.zeroValue188
  t61 := Tryz.underlying189
  a61 := Tryz.isAgg189
  z61 := Tryz.sizeOf189
  v61 := Tryz.zeroValue189
  t67 := Tryz.underlying152
  a67 := Tryz.isAgg152
  z67 := Tryz.sizeOf152
  v67 := Tryz.zeroValue152
  t69 := Tryz.underlying24
  a69 := Tryz.isAgg24
  z69 := Tryz.sizeOf24
  v69 := Tryz.zeroValue24
  t75 := Tryz.underlying196
  a75 := Tryz.isAgg196
  z75 := Tryz.sizeOf196
  v75 := Tryz.zeroValue196
  t79 := Tryz.underlying200
  a79 := Tryz.isAgg200
  z79 := Tryz.sizeOf200
  v79 := Tryz.zeroValue200
  t83 := Tryz.underlying202
  a83 := Tryz.isAgg202
  z83 := Tryz.sizeOf202
  v83 := Tryz.zeroValue202
  t84 := Tryz.underlying203
  a84 := Tryz.isAgg203
  z84 := Tryz.sizeOf203
  v84 := Tryz.zeroValue203 }
end Go.Proofs
