/- The library's contracts for generic functions, at this program's numbers: tables of numbers alone; no condition. -/
import Derived.Shelf.SlGeneric
import Derived.Shelf.SlIter.Collect
import Derived.Shelf.SlIter.Keys
import Derived.Shelf.SlIter.Sorted
import Derived.Test.YtagceackfnkifaaProg
namespace Go.Proofs
open Go.Shelf
def Try.keysT_ren : Go.Shelf.Ren := ⟨fun | 7 => 88 | 10 => 119 | n => n, fun | 23 => 107 | 26 => 45 | 3 => 3 | 28 => 125 | 0 => 0 | 27 => 124 | 33 => 96 | 4 => 4 | n => n, fun | n => n⟩
theorem Try.keysT : Go.Proofs.SlLaysZ.n7 Try.prog Try.keysT_ren := {
  mixed := by kernel_rfl
  f7 := ⟨Try.f88.name, by decide, Try.func88.trans (congrArg some (by kernel_rfl))⟩
  f10 := ⟨Try.f119.name, by decide, Try.func119.trans (congrArg some (by kernel_rfl))⟩
  t0 := Try.underlying0
  a0 := Try.isAgg0
  z0 := Try.sizeOf0
  v0 := Try.zeroValue0
  t4 := Try.underlying4
  a4 := Try.isAgg4
  z4 := Try.sizeOf4
  v4 := Try.zeroValue4
  t23 := Try.underlying107
  a23 := Try.isAgg107
  z23 := Try.sizeOf107
  v23 := Try.zeroValue107
  t26 := Try.underlying45
  a26 := Try.isAgg45
  z26 := Try.sizeOf45
  v26 := Try.zeroValue45
  t27 := Try.underlying124
  a27 := Try.isAgg124
  z27 := Try.sizeOf124
  v27 := Try.zeroValue124
  t28 := Try.underlying125
  a28 := Try.isAgg125
  z28 := Try.sizeOf125
  v28 := Try.zeroValue125
  t33 := Try.underlying96
  a33 := Try.isAgg96
  z33 := Try.sizeOf96
  v33 := Try.zeroValue96 }
def Try.sortedT_ren : Go.Shelf.Ren := ⟨fun | 6 => 87 | 8 => 103 | 9 => 102 | 11 => 132 | 13 => 131 | 12 => 130 | 23 => 156 | 24 => 157 | 14 => 147 | 15 => 148 | 16 => 149 | 17 => 150 | 18 => 151 | 19 => 152 | 20 => 153 | 21 => 154 | 22 => 155 | 25 => 171 | 26 => 172 | 27 => 173 | 28 => 174 | 29 => 175 | 30 => 176 | 31 => 183 | n => n, fun | 26 => 45 | 28 => 125 | 24 => 58 | 0 => 0 | 3 => 3 | 37 => 144 | 48 => 179 | 50 => 47 | 4 => 4 | 40 => 199 | 39 => 198 | 45 => 204 | 5 => 5 | 9 => 9 | 51 => 216 | 55 => 220 | 57 => 227 | 58 => 186 | 33 => 96 | n => n, fun | n => n⟩
theorem Try.sortedT : Go.Proofs.SlLaysZ.n6 Try.prog Try.sortedT_ren := {
  mixed := by kernel_rfl
  f6 := ⟨Try.f87.name, by decide, Try.func87.trans (congrArg some (by kernel_rfl))⟩
  f8 := ⟨Try.f103.name, by decide, Try.func103.trans (congrArg some (by kernel_rfl))⟩
  f11 := ⟨Try.f132.name, by decide, Try.func132.trans (congrArg some (by kernel_rfl))⟩
  t0 := Try.underlying0
  a0 := Try.isAgg0
  z0 := Try.sizeOf0
  v0 := Try.zeroValue0
  t24 := Try.underlying58
  a24 := Try.isAgg58
  z24 := Try.sizeOf58
  v24 := Try.zeroValue58
  t26 := Try.underlying45
  a26 := Try.isAgg45
  z26 := Try.sizeOf45
  v26 := Try.zeroValue45
  t28 := Try.underlying125
  a28 := Try.isAgg125
  z28 := Try.sizeOf125
  v28 := Try.zeroValue125
  i26 := by kernel_rfl }
end Go.Proofs
