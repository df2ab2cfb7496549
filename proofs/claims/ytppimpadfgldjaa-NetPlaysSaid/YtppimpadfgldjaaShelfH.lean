/- The library's contracts for generic functions, at this program's numbers: tables of numbers alone; no condition. -/
import Derived.Shelf.SlGeneric
import Derived.Shelf.SlIter.Collect
import Derived.Shelf.SlIter.Keys
import Derived.Shelf.SlIter.Sorted
import Derived.Test.YtppimpadfgldjaaProg
namespace Go.Proofs
open Go.Shelf
def Try.keysT_ren : Go.Shelf.Ren := ⟨fun | 7 => 120 | 10 => 158 | n => n, fun | 23 => 173 | 26 => 48 | 3 => 3 | 28 => 182 | 0 => 0 | 27 => 181 | 33 => 160 | 4 => 4 | n => n, fun | n => n⟩
theorem Try.keysT : Go.Proofs.SlLaysZ.n7 Try.prog Try.keysT_ren := {
  mixed := by kernel_rfl
  f7 := ⟨Try.f120.name, by decide, Try.func120.trans (congrArg some (by kernel_rfl))⟩
  f10 := ⟨Try.f158.name, by decide, Try.func158.trans (congrArg some (by kernel_rfl))⟩
  t0 := Try.underlying0
  a0 := Try.isAgg0
  z0 := Try.sizeOf0
  v0 := Try.zeroValue0
  t4 := Try.underlying4
  a4 := Try.isAgg4
  z4 := Try.sizeOf4
  v4 := Try.zeroValue4
  t23 := Try.underlying173
  a23 := Try.isAgg173
  z23 := Try.sizeOf173
  v23 := Try.zeroValue173
  t26 := Try.underlying48
  a26 := Try.isAgg48
  z26 := Try.sizeOf48
  v26 := Try.zeroValue48
  t27 := Try.underlying181
  a27 := Try.isAgg181
  z27 := Try.sizeOf181
  v27 := Try.zeroValue181
  t28 := Try.underlying182
  a28 := Try.isAgg182
  z28 := Try.sizeOf182
  v28 := Try.zeroValue182
  t33 := Try.underlying160
  a33 := Try.isAgg160
  z33 := Try.sizeOf160
  v33 := Try.zeroValue160 }
def Try.sortedT_ren : Go.Shelf.Ren := ⟨fun | 6 => 119 | 8 => 126 | 9 => 125 | 11 => 161 | 13 => 160 | 12 => 159 | 23 => 196 | 24 => 197 | 14 => 187 | 15 => 188 | 16 => 189 | 17 => 190 | 18 => 191 | 19 => 192 | 20 => 193 | 21 => 194 | 22 => 195 | 25 => 220 | 26 => 221 | 27 => 222 | 28 => 223 | 29 => 224 | 30 => 225 | 31 => 234 | n => n, fun | 26 => 48 | 28 => 182 | 24 => 44 | 0 => 0 | 3 => 3 | 37 => 204 | 48 => 251 | 50 => 128 | 4 => 4 | 40 => 264 | 39 => 263 | 45 => 269 | 5 => 5 | 9 => 9 | 51 => 289 | 55 => 293 | 57 => 301 | 58 => 90 | 33 => 160 | n => n, fun | n => n⟩
theorem Try.sortedT : Go.Proofs.SlLaysZ.n6 Try.prog Try.sortedT_ren := {
  mixed := by kernel_rfl
  f6 := ⟨Try.f119.name, by decide, Try.func119.trans (congrArg some (by kernel_rfl))⟩
  f8 := ⟨Try.f126.name, by decide, Try.func126.trans (congrArg some (by kernel_rfl))⟩
  f11 := ⟨Try.f161.name, by decide, Try.func161.trans (congrArg some (by kernel_rfl))⟩
  t0 := Try.underlying0
  a0 := Try.isAgg0
  z0 := Try.sizeOf0
  v0 := Try.zeroValue0
  t24 := Try.underlying44
  a24 := Try.isAgg44
  z24 := Try.sizeOf44
  v24 := Try.zeroValue44
  t26 := Try.underlying48
  a26 := Try.isAgg48
  z26 := Try.sizeOf48
  v26 := Try.zeroValue48
  t28 := Try.underlying182
  a28 := Try.isAgg182
  z28 := Try.sizeOf182
  v28 := Try.zeroValue182
  i26 := by kernel_rfl }
end Go.Proofs
