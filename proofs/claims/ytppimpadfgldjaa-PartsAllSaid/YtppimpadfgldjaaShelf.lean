/-
  DERIVED: THE SHELF's CONTRACTS AT THIS DUMP, IN PLAIN WORDS (tools/lay-plain.mjs out of 'TryShelf.lean', which tools/lay-shelf.mjs wrote): THE SAME DECLARATIONS UNDER THE SAME NAMES: 'import', 'namespace', 'open', 'def', 'theorem' AND NOTHING ELSE: no command of the shelf's: FOR A HAND-IN. Each laying: the table of numbers ('.._ren') and one theorem, a field a fact of the dump's own or the kernel's comparison; each contract: ONE APPLICATION.
-/
import Derived.Shelf.Strings.Builder1
import Derived.Shelf.Strings.Builder2
import Derived.Shelf.Strings.OnBuilder
import Derived.Shelf.Sort.Plain
import Derived.Shelf.Bits.Mul64
import Derived.Shelf.Slices.In.SortNone
import Derived.Test.YtppimpadfgldjaaProg
namespace Go.Proofs
open Go.Shelf
def Try.lays156_ren : Go.Shelf.Ren := ⟨fun | 156 => 133 | 165 => 166 | 166 => 167 | 169 => 168 | 240 => 207 | 241 => 208 | 276 => 230 | 277 => 231 | n => n, fun | 31 => 58 | 9 => 9 | 3 => 3 | 4 => 4 | 0 => 0 | 20 => 20 | 72 => 237 | 76 => 240 | 70 => 235 | 37 => 171 | 75 => 239 | 127 => 279 | 164 => 297 | 5 => 5 | 80 => 242 | n => n, fun | n => n⟩
theorem Try.lays156 : Go.Proofs.Lays.n156 Try.prog Try.lays156_ren := {
  mixed := by kernel_rfl
  f156 := Try.func133.trans (congrArg some (by kernel_rfl))
  f165 := Try.func166.trans (congrArg some (by kernel_rfl))
  f166 := Try.func167.trans (congrArg some (by kernel_rfl))
  f169 := Try.func168.trans (congrArg some (by kernel_rfl))
  f240 := Try.func207.trans (congrArg some (by kernel_rfl))
  f241 := Try.func208.trans (congrArg some (by kernel_rfl))
  f276 := Try.func230.trans (congrArg some (by kernel_rfl))
  f277 := Try.func231.trans (congrArg some (by kernel_rfl))
  t0 := Try.underlying0
  a0 := Try.isAgg0
  z0 := Try.sizeOf0
  v0 := Try.zeroValue0
  t3 := Try.underlying3
  a3 := Try.isAgg3
  z3 := Try.sizeOf3
  v3 := Try.zeroValue3
  t4 := Try.underlying4
  a4 := Try.isAgg4
  z4 := Try.sizeOf4
  v4 := Try.zeroValue4
  t9 := Try.underlying9
  a9 := Try.isAgg9
  z9 := Try.sizeOf9
  v9 := Try.zeroValue9
  t20 := Try.underlying20
  a20 := Try.isAgg20
  z20 := Try.sizeOf20
  v20 := Try.zeroValue20
  t31 := Try.underlying58
  a31 := Try.isAgg58
  z31 := Try.sizeOf58
  v31 := Try.zeroValue58
  t37 := Try.underlying171
  a37 := Try.isAgg171
  z37 := Try.sizeOf171
  v37 := Try.zeroValue171
  t70 := Try.underlying235
  a70 := Try.isAgg235
  z70 := Try.sizeOf235
  v70 := Try.zeroValue235
  t72 := Try.underlying237
  a72 := Try.isAgg237
  z72 := Try.sizeOf237
  v72 := Try.zeroValue237
  t75 := Try.underlying239
  a75 := Try.isAgg239
  z75 := Try.sizeOf239
  v75 := Try.zeroValue239
  t76 := Try.underlying240
  a76 := Try.isAgg240
  z76 := Try.sizeOf240
  v76 := Try.zeroValue240
  t127 := Try.underlying279
  a127 := Try.isAgg279
  z127 := Try.sizeOf279
  v127 := Try.zeroValue279
  t164 := Try.underlying297
  a164 := Try.isAgg297
  z164 := Try.sizeOf297
  v164 := Try.zeroValue297 }
theorem Try.Builder_Extra_156 : Builder.Extra Try.prog Try.lays156_ren := {
  sizeBuilder := by kernel_rfl
  liesBuilder := by kernel_rfl
  t5 := Try.underlying5
  a5 := Try.isAgg5
  z5 := Try.sizeOf5
  v5 := Try.zeroValue5
  infoByte := by kernel_rfl
  cellsByte := by kernel_rfl
  sizeByte := by kernel_rfl
  neB5 := by decide }
open Go.RowKit in
/-- No element: the empty string; the world is as it was. (Whatever the slice's address and capacity: a nil slice too.) (LAID: no walk: one application.) -/
theorem Try.strings_Join_none (a : Option Addr) (c : Nat) (sep : ByteArray) (w : World) :
    Calls Try.prog 133 #[.slice a 0 c, .string sep] w fun e w' => e = .returned (.string ⟨#[]⟩) ∧ w' = w := Any.strings_Join_none Try.lays156 Try.Builder_Extra_156 a c sep w
open Go.RowKit in
/-- strings.Join: "Join concatenates the elements of its first argument to create a single string. The separator string sep is placed between elements in the resulting string.": HOWEVER MANY ELEMENTS. Below the heap's end the world is as it was. (LAID: no walk: one application.) -/
theorem Try.strings_Join (bk o c : Nat) (xs : List ByteArray) (sep : ByteArray) (w : World) (hcells : ∀ (j : Nat) x, xs[j]? = some x → w.cell? ⟨bk, o + j, none⟩ = some (.string x)) (hbk : bk < w.heap.size) (hN : xs.length ≤ 140737488355328) (hcap : xs.length ≤ c) (hlen : (Lib.join (xs.map (·.data.toList)) sep.data.toList).length ≤ 140737488355328) :
    Calls Try.prog 133 #[.slice (some ⟨bk, o, none⟩) xs.length c, .string sep] w fun e w' => e = .returned (.string ⟨(Lib.join (xs.map (·.data.toList)) sep.data.toList).toArray⟩) ∧ Below w.heap.size w w' := Any.strings_Join Try.lays156 Try.Builder_Extra_156 bk o c xs sep w hcells hbk hN hcap hlen
def Try.lays190_ren : Go.Shelf.Ren := ⟨fun | 190 => 131 | 125 => 160 | 258 => 165 | 128 => 196 | 129 => 197 | 302 => 198 | 303 => 199 | 304 => 200 | 305 => 201 | 306 => 202 | 307 => 203 | 308 => 204 | 309 => 205 | 310 => 206 | 333 => 226 | 329 => 221 | 330 => 222 | 334 => 227 | 335 => 228 | 336 => 229 | 344 => 235 | n => n, fun | 31 => 58 | 9 => 9 | 3 => 3 | 46 => 204 | 0 => 0 | 51 => 251 | 53 => 128 | 4 => 4 | 183 => 264 | 182 => 263 | 131 => 269 | 5 => 5 | 218 => 289 | 222 => 293 | 228 => 301 | 229 => 90 | n => n, fun | n => n⟩
theorem Try.lays190 : Go.Proofs.Lays.n190 Try.prog Try.lays190_ren := {
  mixed := by kernel_rfl
  f125 := Try.func160.trans (congrArg some (by kernel_rfl))
  f128 := Try.func196.trans (congrArg some (by kernel_rfl))
  f129 := Try.func197.trans (congrArg some (by kernel_rfl))
  f190 := Try.func131.trans (congrArg some (by kernel_rfl))
  f258 := Try.func165.trans (congrArg some (by kernel_rfl))
  f302 := Try.func198.trans (congrArg some (by kernel_rfl))
  f303 := Try.func199.trans (congrArg some (by kernel_rfl))
  f304 := Try.func200.trans (congrArg some (by kernel_rfl))
  f305 := Try.func201.trans (congrArg some (by kernel_rfl))
  f306 := Try.func202.trans (congrArg some (by kernel_rfl))
  f307 := Try.func203.trans (congrArg some (by kernel_rfl))
  f308 := Try.func204.trans (congrArg some (by kernel_rfl))
  f309 := Try.func205.trans (congrArg some (by kernel_rfl))
  f310 := Try.func206.trans (congrArg some (by kernel_rfl))
  f329 := Try.func221.trans (congrArg some (by kernel_rfl))
  f330 := Try.func222.trans (congrArg some (by kernel_rfl))
  f333 := Try.func226.trans (congrArg some (by kernel_rfl))
  f334 := Try.func227.trans (congrArg some (by kernel_rfl))
  f335 := Try.func228.trans (congrArg some (by kernel_rfl))
  f336 := Try.func229.trans (congrArg some (by kernel_rfl))
  f344 := Try.func235.trans (congrArg some (by kernel_rfl))
  t0 := Try.underlying0
  a0 := Try.isAgg0
  z0 := Try.sizeOf0
  v0 := Try.zeroValue0
  t3 := Try.underlying3
  a3 := Try.isAgg3
  z3 := Try.sizeOf3
  v3 := Try.zeroValue3
  t4 := Try.underlying4
  a4 := Try.isAgg4
  z4 := Try.sizeOf4
  v4 := Try.zeroValue4
  t5 := Try.underlying5
  a5 := Try.isAgg5
  z5 := Try.sizeOf5
  v5 := Try.zeroValue5
  t9 := Try.underlying9
  a9 := Try.isAgg9
  z9 := Try.sizeOf9
  v9 := Try.zeroValue9
  t31 := Try.underlying58
  a31 := Try.isAgg58
  z31 := Try.sizeOf58
  v31 := Try.zeroValue58
  t46 := Try.underlying204
  a46 := Try.isAgg204
  z46 := Try.sizeOf204
  v46 := Try.zeroValue204
  t51 := Try.underlying251
  a51 := Try.isAgg251
  z51 := Try.sizeOf251
  v51 := Try.zeroValue251
  t53 := Try.underlying128
  a53 := Try.isAgg128
  z53 := Try.sizeOf128
  v53 := Try.zeroValue128
  t131 := Try.underlying269
  a131 := Try.isAgg269
  z131 := Try.sizeOf269
  v131 := Try.zeroValue269
  t182 := Try.underlying263
  a182 := Try.isAgg263
  z182 := Try.sizeOf263
  v182 := Try.zeroValue263
  t183 := Try.underlying264
  a183 := Try.isAgg264
  z183 := Try.sizeOf264
  v183 := Try.zeroValue264
  t218 := Try.underlying289
  a218 := Try.isAgg289
  z218 := Try.sizeOf289
  v218 := Try.zeroValue289
  t222 := Try.underlying293
  a222 := Try.isAgg293
  z222 := Try.sizeOf293
  v222 := Try.zeroValue293
  t228 := Try.underlying301
  a228 := Try.isAgg301
  z228 := Try.sizeOf301
  v228 := Try.zeroValue301
  t229 := Try.underlying90
  a229 := Try.isAgg90
  z229 := Try.sizeOf90
  v229 := Try.zeroValue90 }
open Go.Sort Go.RowKit in
theorem Try.slices_Sort_string (blk off cap : Nat) (ss : List (List UInt8)) (w : World) (hH : Holds encStr w blk off ss.toArray) (hblk : blk < w.heap.size) (hsz : ss.length < 4611686018427387904) :
    Calls Try.prog 131 #[.slice (some ⟨blk, off, none⟩) ss.length cap] w fun e w' =>
      e = .returned (.tuple #[]) ∧ ∃ n os, w' = grow (putRow encStr (Sort.ahead w n) blk off (ss.mergeSort fun x y => decide (x ≤ y)).toArray) os := Any.slices_Sort_string Try.lays190 blk off cap ss w hH hblk hsz
def Try.lays212_ren : Go.Shelf.Ren := ⟨fun | 212 => 142 | 263 => 176 | 264 => 177 | n => n, fun | 46 => 204 | 51 => 251 | 146 => 252 | 53 => 128 | 148 => 254 | n => n, fun | n => n⟩
theorem Try.lays212 : Go.Proofs.Lays.n212 Try.prog Try.lays212_ren := {
  mixed := by kernel_rfl
  f212 := Try.func142.trans (congrArg some (by kernel_rfl))
  f263 := Try.func176.trans (congrArg some (by kernel_rfl))
  f264 := Try.func177.trans (congrArg some (by kernel_rfl))
  t46 := Try.underlying204
  a46 := Try.isAgg204
  z46 := Try.sizeOf204
  v46 := Try.zeroValue204
  t51 := Try.underlying251
  a51 := Try.isAgg251
  z51 := Try.sizeOf251
  v51 := Try.zeroValue251
  t53 := Try.underlying128
  a53 := Try.isAgg128
  z53 := Try.sizeOf128
  v53 := Try.zeroValue128
  t146 := Try.underlying252
  a146 := Try.isAgg252
  z146 := Try.sizeOf252
  v146 := Try.zeroValue252
  t148 := Try.underlying254
  a148 := Try.isAgg254
  z148 := Try.sizeOf254
  v148 := Try.zeroValue254 }
open Go.RowKit Go.Lib in
/-- math/bits.Mul: "Mul returns the full-width product of x and y": on a machine of 64 bits: Mul64's. (LAID: no walk: one application.) -/
theorem Try.bits_Mul (x y : Nat) (hx : x < 18446744073709551616) (hy : y < 18446744073709551616) (w : World) :
    Calls Try.prog 142 #[.int .u64 x, .int .u64 y] w fun e w' => e = .returned (.tuple #[.int .u64 ((x * y / 18446744073709551616 : Nat) : Int), .int .u64 ((x * y % 18446744073709551616 : Nat) : Int)]) ∧ w' = w := Any.bits_Mul Try.lays212 x y hx hy w
open Go.RowKit Go.Sort in
/-- .. and plain. (LAID: no walk: one application.) -/
theorem Try.slices_Sort_string_none (p : Option Addr) (cap : Nat) (w : World) :
    Calls Try.prog 131 #[.slice p 0 cap] w fun e w' => e = .returned (.tuple #[]) ∧ w' = w := Any.slices_Sort_string_none Try.lays190 p cap w
end Go.Proofs
