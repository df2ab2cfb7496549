/-
  DERIVED: THE SHELF's CONTRACTS AT THIS DUMP, IN PLAIN WORDS (tools/lay-plain.mjs out of 'TryShelf.lean', which tools/lay-shelf.mjs wrote): THE SAME DECLARATIONS UNDER THE SAME NAMES: 'import', 'namespace', 'open', 'def', 'theorem' AND NOTHING ELSE: no command of the shelf's: FOR A HAND-IN. Each laying: the table of numbers ('.._ren') and one theorem, a field a fact of the dump's own or the kernel's comparison; each contract: ONE APPLICATION.
-/
import Derived.Shelf.Strings.Builder1
import Derived.Shelf.Strings.Builder2
import Derived.Shelf.Strings.OnBuilder
import Derived.Shelf.Sort.Plain
import Derived.Shelf.Slices.In.SortNone
import Derived.Test.YtpfpmjdifnoeoaaProg
namespace Go.Proofs
open Go.Shelf
def Try.lays156_ren : Go.Shelf.Ren := ⟨fun | 156 => 136 | 165 => 165 | 166 => 166 | 169 => 167 | 240 => 193 | 241 => 194 | 276 => 209 | 277 => 210 | n => n, fun | 31 => 43 | 9 => 9 | 3 => 3 | 4 => 4 | 0 => 0 | 20 => 20 | 72 => 197 | 76 => 201 | 70 => 195 | 37 => 148 | 75 => 200 | 127 => 226 | 164 => 237 | 5 => 5 | 80 => 203 | n => n, fun | n => n⟩
theorem Try.lays156 : Go.Proofs.Lays.n156 Try.prog Try.lays156_ren := {
  mixed := by kernel_rfl
  f156 := Try.func136.trans (congrArg some (by kernel_rfl))
  f165 := Try.func165.trans (congrArg some (by kernel_rfl))
  f166 := Try.func166.trans (congrArg some (by kernel_rfl))
  f169 := Try.func167.trans (congrArg some (by kernel_rfl))
  f240 := Try.func193.trans (congrArg some (by kernel_rfl))
  f241 := Try.func194.trans (congrArg some (by kernel_rfl))
  f276 := Try.func209.trans (congrArg some (by kernel_rfl))
  f277 := Try.func210.trans (congrArg some (by kernel_rfl))
  t0 := Try.underlying0
  a0 := Try.isAgg0
  z0 := Try.sizeOf0
  v0 := Try.zeroValue0
  t3 := Try.underlying3
  a3 := Try.isAgg3
  z3 := Try.sizeOf3
  v3 := Try.zeroValue3
  t4 := Try.underlying4
  a4 := Try.isAgg4
  z4 := Try.sizeOf4
  v4 := Try.zeroValue4
  t9 := Try.underlying9
  a9 := Try.isAgg9
  z9 := Try.sizeOf9
  v9 := Try.zeroValue9
  t20 := Try.underlying20
  a20 := Try.isAgg20
  z20 := Try.sizeOf20
  v20 := Try.zeroValue20
  t31 := Try.underlying43
  a31 := Try.isAgg43
  z31 := Try.sizeOf43
  v31 := Try.zeroValue43
  t37 := Try.underlying148
  a37 := Try.isAgg148
  z37 := Try.sizeOf148
  v37 := Try.zeroValue148
  t70 := Try.underlying195
  a70 := Try.isAgg195
  z70 := Try.sizeOf195
  v70 := Try.zeroValue195
  t72 := Try.underlying197
  a72 := Try.isAgg197
  z72 := Try.sizeOf197
  v72 := Try.zeroValue197
  t75 := Try.underlying200
  a75 := Try.isAgg200
  z75 := Try.sizeOf200
  v75 := Try.zeroValue200
  t76 := Try.underlying201
  a76 := Try.isAgg201
  z76 := Try.sizeOf201
  v76 := Try.zeroValue201
  t127 := Try.underlying226
  a127 := Try.isAgg226
  z127 := Try.sizeOf226
  v127 := Try.zeroValue226
  t164 := Try.underlying237
  a164 := Try.isAgg237
  z164 := Try.sizeOf237
  v164 := Try.zeroValue237 }
theorem Try.Builder_Extra_156 : Builder.Extra Try.prog Try.lays156_ren := {
  sizeBuilder := by kernel_rfl
  liesBuilder := by kernel_rfl
  t5 := Try.underlying5
  a5 := Try.isAgg5
  z5 := Try.sizeOf5
  v5 := Try.zeroValue5
  infoByte := by kernel_rfl
  cellsByte := by kernel_rfl
  sizeByte := by kernel_rfl
  neB5 := by decide }
open Go.RowKit in
theorem Try.strings_Join_none (a : Option Addr) (c : Nat) (sep : ByteArray) (w : World) :
    Calls Try.prog 136 #[.slice a 0 c, .string sep] w fun e w' => e = .returned (.string ⟨#[]⟩) ∧ w' = w := Any.strings_Join_none Try.lays156 Try.Builder_Extra_156 a c sep w
open Go.RowKit in
theorem Try.strings_Join (bk o c : Nat) (xs : List ByteArray) (sep : ByteArray) (w : World) (hcells : ∀ (j : Nat) x, xs[j]? = some x → w.cell? ⟨bk, o + j, none⟩ = some (.string x)) (hbk : bk < w.heap.size) (hN : xs.length ≤ 140737488355328) (hcap : xs.length ≤ c) (hlen : (Lib.join (xs.map (·.data.toList)) sep.data.toList).length ≤ 140737488355328) :
    Calls Try.prog 136 #[.slice (some ⟨bk, o, none⟩) xs.length c, .string sep] w fun e w' => e = .returned (.string ⟨(Lib.join (xs.map (·.data.toList)) sep.data.toList).toArray⟩) ∧ Below w.heap.size w w' := Any.strings_Join Try.lays156 Try.Builder_Extra_156 bk o c xs sep w hcells hbk hN hcap hlen
def Try.lays190_ren : Go.Shelf.Ren := ⟨fun | 190 => 134 | 125 => 161 | 258 => 164 | 128 => 182 | 129 => 183 | 302 => 184 | 303 => 185 | 304 => 186 | 305 => 187 | 306 => 188 | 307 => 189 | 308 => 190 | 309 => 191 | 310 => 192 | 333 => 205 | 329 => 200 | 330 => 201 | 334 => 206 | 335 => 207 | 336 => 208 | 344 => 212 | n => n, fun | 31 => 43 | 9 => 9 | 3 => 3 | 46 => 149 | 0 => 0 | 51 => 218 | 53 => 72 | 4 => 4 | 183 => 210 | 182 => 209 | 131 => 215 | 5 => 5 | 218 => 229 | 222 => 233 | 228 => 240 | 229 => 154 | n => n, fun | n => n⟩
theorem Try.lays190 : Go.Proofs.Lays.n190 Try.prog Try.lays190_ren := {
  mixed := by kernel_rfl
  f125 := Try.func161.trans (congrArg some (by kernel_rfl))
  f128 := Try.func182.trans (congrArg some (by kernel_rfl))
  f129 := Try.func183.trans (congrArg some (by kernel_rfl))
  f190 := Try.func134.trans (congrArg some (by kernel_rfl))
  f258 := Try.func164.trans (congrArg some (by kernel_rfl))
  f302 := Try.func184.trans (congrArg some (by kernel_rfl))
  f303 := Try.func185.trans (congrArg some (by kernel_rfl))
  f304 := Try.func186.trans (congrArg some (by kernel_rfl))
  f305 := Try.func187.trans (congrArg some (by kernel_rfl))
  f306 := Try.func188.trans (congrArg some (by kernel_rfl))
  f307 := Try.func189.trans (congrArg some (by kernel_rfl))
  f308 := Try.func190.trans (congrArg some (by kernel_rfl))
  f309 := Try.func191.trans (congrArg some (by kernel_rfl))
  f310 := Try.func192.trans (congrArg some (by kernel_rfl))
  f329 := Try.func200.trans (congrArg some (by kernel_rfl))
  f330 := Try.func201.trans (congrArg some (by kernel_rfl))
  f333 := Try.func205.trans (congrArg some (by kernel_rfl))
  f334 := Try.func206.trans (congrArg some (by kernel_rfl))
  f335 := Try.func207.trans (congrArg some (by kernel_rfl))
  f336 := Try.func208.trans (congrArg some (by kernel_rfl))
  f344 := Try.func212.trans (congrArg some (by kernel_rfl))
  t0 := Try.underlying0
  a0 := Try.isAgg0
  z0 := Try.sizeOf0
  v0 := Try.zeroValue0
  t3 := Try.underlying3
  a3 := Try.isAgg3
  z3 := Try.sizeOf3
  v3 := Try.zeroValue3
  t4 := Try.underlying4
  a4 := Try.isAgg4
  z4 := Try.sizeOf4
  v4 := Try.zeroValue4
  t5 := Try.underlying5
  a5 := Try.isAgg5
  z5 := Try.sizeOf5
  v5 := Try.zeroValue5
  t9 := Try.underlying9
  a9 := Try.isAgg9
  z9 := Try.sizeOf9
  v9 := Try.zeroValue9
  t31 := Try.underlying43
  a31 := Try.isAgg43
  z31 := Try.sizeOf43
  v31 := Try.zeroValue43
  t46 := Try.underlying149
  a46 := Try.isAgg149
  z46 := Try.sizeOf149
  v46 := Try.zeroValue149
  t51 := Try.underlying218
  a51 := Try.isAgg218
  z51 := Try.sizeOf218
  v51 := Try.zeroValue218
  t53 := Try.underlying72
  a53 := Try.isAgg72
  z53 := Try.sizeOf72
  v53 := Try.zeroValue72
  t131 := Try.underlying215
  a131 := Try.isAgg215
  z131 := Try.sizeOf215
  v131 := Try.zeroValue215
  t182 := Try.underlying209
  a182 := Try.isAgg209
  z182 := Try.sizeOf209
  v182 := Try.zeroValue209
  t183 := Try.underlying210
  a183 := Try.isAgg210
  z183 := Try.sizeOf210
  v183 := Try.zeroValue210
  t218 := Try.underlying229
  a218 := Try.isAgg229
  z218 := Try.sizeOf229
  v218 := Try.zeroValue229
  t222 := Try.underlying233
  a222 := Try.isAgg233
  z222 := Try.sizeOf233
  v222 := Try.zeroValue233
  t228 := Try.underlying240
  a228 := Try.isAgg240
  z228 := Try.sizeOf240
  v228 := Try.zeroValue240
  t229 := Try.underlying154
  a229 := Try.isAgg154
  z229 := Try.sizeOf154
  v229 := Try.zeroValue154 }
open Go.Sort Go.RowKit in
theorem Try.slices_Sort_string (blk off cap : Nat) (ss : List (List UInt8)) (w : World) (hH : Holds encStr w blk off ss.toArray) (hblk : blk < w.heap.size) (hsz : ss.length < 4611686018427387904) :
    Calls Try.prog 134 #[.slice (some ⟨blk, off, none⟩) ss.length cap] w fun e w' =>
      e = .returned (.tuple #[]) ∧ ∃ n os, w' = grow (putRow encStr (Sort.ahead w n) blk off (ss.mergeSort fun x y => decide (x ≤ y)).toArray) os := Any.slices_Sort_string Try.lays190 blk off cap ss w hH hblk hsz
open Go.RowKit Go.Sort in
theorem Try.slices_Sort_string_none (p : Option Addr) (cap : Nat) (w : World) :
    Calls Try.prog 134 #[.slice p 0 cap] w fun e w' => e = .returned (.tuple #[]) ∧ w' = w := Any.slices_Sort_string_none Try.lays190 p cap w
end Go.Proofs
