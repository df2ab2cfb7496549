/-
  DERIVED: THE SHELF's CONTRACTS AT THIS DUMP, IN PLAIN WORDS (tools/lay-plain.mjs out of 'TryShelf.lean', which tools/lay-shelf.mjs wrote): THE SAME DECLARATIONS UNDER THE SAME NAMES: 'import', 'namespace', 'open', 'def', 'theorem' AND NOTHING ELSE: no command of the shelf's: FOR A HAND-IN. Each laying: the table of numbers ('.._ren') and one theorem, a field a fact of the dump's own or the kernel's comparison; each contract: ONE APPLICATION.
-/
import Derived.Shelf.Strings.Builder1
import Derived.Shelf.Strings.Builder2
import Derived.Shelf.Strings.OnBuilder
import Derived.Shelf.Small.Bits
import Derived.Shelf.Strconv.Itoa0
import Derived.Shelf.Sort.Plain
import Derived.Shelf.Bits.Mul64
import Derived.Ground.Names2Prog
import Derived.Shelf.Slices.Clone
import Derived.Shelf.Slices.SearchI
import Derived.Shelf.Slices.In.SortNone
import Derived.Ground.SlgnProg
import Derived.Shelf.SlicesE.Clone
import Derived.Test.YtagceackfnkifaaProg
namespace Go.Proofs
open Go.Shelf
def Try.lays156_ren : Go.Shelf.Ren := ⟨fun | 156 => 128 | 165 => 144 | 166 => 145 | 169 => 146 | 240 => 169 | 241 => 170 | 276 => 181 | 277 => 182 | n => n, fun | 31 => 83 | 9 => 9 | 3 => 3 | 4 => 4 | 0 => 0 | 20 => 20 | 72 => 191 | 76 => 194 | 70 => 189 | 37 => 147 | 75 => 193 | 127 => 215 | 164 => 224 | 5 => 5 | 80 => 196 | n => n, fun | n => n⟩
theorem Try.lays156 : Go.Proofs.Lays.n156 Try.prog Try.lays156_ren := {
  mixed := by kernel_rfl
  f156 := Try.func128.trans (congrArg some (by kernel_rfl))
  f165 := Try.func144.trans (congrArg some (by kernel_rfl))
  f166 := Try.func145.trans (congrArg some (by kernel_rfl))
  f169 := Try.func146.trans (congrArg some (by kernel_rfl))
  f240 := Try.func169.trans (congrArg some (by kernel_rfl))
  f241 := Try.func170.trans (congrArg some (by kernel_rfl))
  f276 := Try.func181.trans (congrArg some (by kernel_rfl))
  f277 := Try.func182.trans (congrArg some (by kernel_rfl))
  t0 := Try.underlying0
  a0 := Try.isAgg0
  z0 := Try.sizeOf0
  v0 := Try.zeroValue0
  t3 := Try.underlying3
  a3 := Try.isAgg3
  z3 := Try.sizeOf3
  v3 := Try.zeroValue3
  t4 := Try.underlying4
  a4 := Try.isAgg4
  z4 := Try.sizeOf4
  v4 := Try.zeroValue4
  t9 := Try.underlying9
  a9 := Try.isAgg9
  z9 := Try.sizeOf9
  v9 := Try.zeroValue9
  t20 := Try.underlying20
  a20 := Try.isAgg20
  z20 := Try.sizeOf20
  v20 := Try.zeroValue20
  t31 := Try.underlying83
  a31 := Try.isAgg83
  z31 := Try.sizeOf83
  v31 := Try.zeroValue83
  t37 := Try.underlying147
  a37 := Try.isAgg147
  z37 := Try.sizeOf147
  v37 := Try.zeroValue147
  t70 := Try.underlying189
  a70 := Try.isAgg189
  z70 := Try.sizeOf189
  v70 := Try.zeroValue189
  t72 := Try.underlying191
  a72 := Try.isAgg191
  z72 := Try.sizeOf191
  v72 := Try.zeroValue191
  t75 := Try.underlying193
  a75 := Try.isAgg193
  z75 := Try.sizeOf193
  v75 := Try.zeroValue193
  t76 := Try.underlying194
  a76 := Try.isAgg194
  z76 := Try.sizeOf194
  v76 := Try.zeroValue194
  t127 := Try.underlying215
  a127 := Try.isAgg215
  z127 := Try.sizeOf215
  v127 := Try.zeroValue215
  t164 := Try.underlying224
  a164 := Try.isAgg224
  z164 := Try.sizeOf224
  v164 := Try.zeroValue224 }
theorem Try.Builder_Extra_156 : Builder.Extra Try.prog Try.lays156_ren := {
  sizeBuilder := by kernel_rfl
  liesBuilder := by kernel_rfl
  t5 := Try.underlying5
  a5 := Try.isAgg5
  z5 := Try.sizeOf5
  v5 := Try.zeroValue5
  infoByte := by kernel_rfl
  cellsByte := by kernel_rfl
  sizeByte := by kernel_rfl
  neB5 := by decide }
open Go.RowKit in
/-- No element: the empty string; the world is as it was. (Whatever the slice's address and capacity: a nil slice too.) (LAID: no walk: one application.) -/
theorem Try.strings_Join_none (a : Option Addr) (c : Nat) (sep : ByteArray) (w : World) :
    Calls Try.prog 128 #[.slice a 0 c, .string sep] w fun e w' => e = .returned (.string ⟨#[]⟩) ∧ w' = w := Any.strings_Join_none Try.lays156 Try.Builder_Extra_156 a c sep w
open Go.RowKit in
/-- strings.Join: "Join concatenates the elements of its first argument to create a single string. The separator string sep is placed between elements in the resulting string.": HOWEVER MANY ELEMENTS. Below the heap's end the world is as it was. (LAID: no walk: one application.) -/
theorem Try.strings_Join (bk o c : Nat) (xs : List ByteArray) (sep : ByteArray) (w : World) (hcells : ∀ (j : Nat) x, xs[j]? = some x → w.cell? ⟨bk, o + j, none⟩ = some (.string x)) (hbk : bk < w.heap.size) (hN : xs.length ≤ 140737488355328) (hcap : xs.length ≤ c) (hlen : (Lib.join (xs.map (·.data.toList)) sep.data.toList).length ≤ 140737488355328) :
    Calls Try.prog 128 #[.slice (some ⟨bk, o, none⟩) xs.length c, .string sep] w fun e w' => e = .returned (.string ⟨(Lib.join (xs.map (·.data.toList)) sep.data.toList).toArray⟩) ∧ Below w.heap.size w w' := Any.strings_Join Try.lays156 Try.Builder_Extra_156 bk o c xs sep w hcells hbk hN hcap hlen
def Try.lays190_ren : Go.Shelf.Ren := ⟨fun | 190 => 126 | 125 => 131 | 258 => 143 | 128 => 156 | 129 => 157 | 302 => 160 | 303 => 161 | 304 => 162 | 305 => 163 | 306 => 164 | 307 => 165 | 308 => 166 | 309 => 167 | 310 => 168 | 333 => 177 | 329 => 172 | 330 => 173 | 334 => 178 | 335 => 179 | 336 => 180 | 344 => 184 | n => n, fun | 31 => 83 | 9 => 9 | 3 => 3 | 46 => 144 | 0 => 0 | 51 => 179 | 53 => 47 | 4 => 4 | 183 => 199 | 182 => 198 | 131 => 204 | 5 => 5 | 218 => 216 | 222 => 220 | 228 => 227 | 229 => 186 | n => n, fun | n => n⟩
theorem Try.lays190 : Go.Proofs.Lays.n190 Try.prog Try.lays190_ren := {
  mixed := by kernel_rfl
  f125 := Try.func131.trans (congrArg some (by kernel_rfl))
  f128 := Try.func156.trans (congrArg some (by kernel_rfl))
  f129 := Try.func157.trans (congrArg some (by kernel_rfl))
  f190 := Try.func126.trans (congrArg some (by kernel_rfl))
  f258 := Try.func143.trans (congrArg some (by kernel_rfl))
  f302 := Try.func160.trans (congrArg some (by kernel_rfl))
  f303 := Try.func161.trans (congrArg some (by kernel_rfl))
  f304 := Try.func162.trans (congrArg some (by kernel_rfl))
  f305 := Try.func163.trans (congrArg some (by kernel_rfl))
  f306 := Try.func164.trans (congrArg some (by kernel_rfl))
  f307 := Try.func165.trans (congrArg some (by kernel_rfl))
  f308 := Try.func166.trans (congrArg some (by kernel_rfl))
  f309 := Try.func167.trans (congrArg some (by kernel_rfl))
  f310 := Try.func168.trans (congrArg some (by kernel_rfl))
  f329 := Try.func172.trans (congrArg some (by kernel_rfl))
  f330 := Try.func173.trans (congrArg some (by kernel_rfl))
  f333 := Try.func177.trans (congrArg some (by kernel_rfl))
  f334 := Try.func178.trans (congrArg some (by kernel_rfl))
  f335 := Try.func179.trans (congrArg some (by kernel_rfl))
  f336 := Try.func180.trans (congrArg some (by kernel_rfl))
  f344 := Try.func184.trans (congrArg some (by kernel_rfl))
  t0 := Try.underlying0
  a0 := Try.isAgg0
  z0 := Try.sizeOf0
  v0 := Try.zeroValue0
  t3 := Try.underlying3
  a3 := Try.isAgg3
  z3 := Try.sizeOf3
  v3 := Try.zeroValue3
  t4 := Try.underlying4
  a4 := Try.isAgg4
  z4 := Try.sizeOf4
  v4 := Try.zeroValue4
  t5 := Try.underlying5
  a5 := Try.isAgg5
  z5 := Try.sizeOf5
  v5 := Try.zeroValue5
  t9 := Try.underlying9
  a9 := Try.isAgg9
  z9 := Try.sizeOf9
  v9 := Try.zeroValue9
  t31 := Try.underlying83
  a31 := Try.isAgg83
  z31 := Try.sizeOf83
  v31 := Try.zeroValue83
  t46 := Try.underlying144
  a46 := Try.isAgg144
  z46 := Try.sizeOf144
  v46 := Try.zeroValue144
  t51 := Try.underlying179
  a51 := Try.isAgg179
  z51 := Try.sizeOf179
  v51 := Try.zeroValue179
  t53 := Try.underlying47
  a53 := Try.isAgg47
  z53 := Try.sizeOf47
  v53 := Try.zeroValue47
  t131 := Try.underlying204
  a131 := Try.isAgg204
  z131 := Try.sizeOf204
  v131 := Try.zeroValue204
  t182 := Try.underlying198
  a182 := Try.isAgg198
  z182 := Try.sizeOf198
  v182 := Try.zeroValue198
  t183 := Try.underlying199
  a183 := Try.isAgg199
  z183 := Try.sizeOf199
  v183 := Try.zeroValue199
  t218 := Try.underlying216
  a218 := Try.isAgg216
  z218 := Try.sizeOf216
  v218 := Try.zeroValue216
  t222 := Try.underlying220
  a222 := Try.isAgg220
  z222 := Try.sizeOf220
  v222 := Try.zeroValue220
  t228 := Try.underlying227
  a228 := Try.isAgg227
  z228 := Try.sizeOf227
  v228 := Try.zeroValue227
  t229 := Try.underlying186
  a229 := Try.isAgg186
  z229 := Try.sizeOf186
  v229 := Try.zeroValue186 }
open Go.Sort Go.RowKit in
theorem Try.slices_Sort_string (blk off cap : Nat) (ss : List (List UInt8)) (w : World) (hH : Holds encStr w blk off ss.toArray) (hblk : blk < w.heap.size) (hsz : ss.length < 4611686018427387904) :
    Calls Try.prog 126 #[.slice (some ⟨blk, off, none⟩) ss.length cap] w fun e w' =>
      e = .returned (.tuple #[]) ∧ ∃ n os, w' = grow (putRow encStr (Sort.ahead w n) blk off (ss.mergeSort fun x y => decide (x ≤ y)).toArray) os := Any.slices_Sort_string Try.lays190 blk off cap ss w hH hblk hsz
def Try.laysNm237_ren : Go.Shelf.Ren := ⟨fun | 37 => 116 | n => n, fun | 3 => 3 | 4 => 4 | n => n, fun | n => n⟩
theorem Try.laysNm237 : Go.Proofs.Lays2.n37 Try.prog Try.laysNm237_ren := {
  mixed := by kernel_rfl
  f37 := Try.func116.trans (congrArg some (by kernel_rfl))
  t3 := Try.underlying3
  a3 := Try.isAgg3
  z3 := Try.sizeOf3
  v3 := Try.zeroValue3
  t4 := Try.underlying4
  a4 := Try.isAgg4
  z4 := Try.sizeOf4
  v4 := Try.zeroValue4 }
open Go.RowKit Go.Lib in
/-- cmp.isNaN[int]: 'x != x': false. (LAID: no walk: one application.) -/
theorem Try.cmp_isNaN_int2 (x : Int) (w : World) :
    Calls Try.prog 116 #[.int .i64 x] w fun e w' => e = .returned (.bool false) ∧ w' = w := Any.cmp_isNaN_int2 Try.laysNm237 x w
open Go.RowKit Go.Sort in
/-- .. and plain. (LAID: no walk: one application.) -/
theorem Try.slices_Sort_string_none (p : Option Addr) (cap : Nat) (w : World) :
    Calls Try.prog 126 #[.slice p 0 cap] w fun e w' => e = .returned (.tuple #[]) ∧ w' = w := Any.slices_Sort_string_none Try.lays190 p cap w
end Go.Proofs
