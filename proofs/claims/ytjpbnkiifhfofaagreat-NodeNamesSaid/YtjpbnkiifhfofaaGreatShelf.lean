/-
  DERIVED: THE SHELF's CONTRACTS AT THIS DUMP, IN PLAIN WORDS (tools/lay-plain.mjs out of 'YtjpbnkiifhfofaaGreatShelfT.lean', which tools/lay-shelf.mjs wrote): THE SAME DECLARATIONS UNDER THE SAME NAMES: 'import', 'namespace', 'open', 'def', 'theorem' AND NOTHING ELSE: no command of the shelf's: FOR A HAND-IN. Each laying: the table of numbers ('.._ren') and one theorem, a field a fact of the dump's own or the kernel's comparison; each contract: ONE APPLICATION.
-/
import Derived.Shelf.SlSortCmp.NoneTotal
import Derived.Shelf.Spec.SlicesGrow
import Derived.Shelf.Small.Bits
import Derived.Shelf.Small.Strs
import Derived.Shelf.Strconv.Itoa0
import Derived.Shelf.Sort.Plain
import Derived.Ground.Names2Prog
import Derived.Shelf.Slices.Clone
import Derived.Shelf.Slices.CompactI
import Derived.Shelf.Slices.SearchI
import Derived.Shelf.Slices.Cells
import Derived.Shelf.Slices.In.SortNone
import Derived.Shelf.Slices.Empties
import Derived.Ground.SlgnProg
import Derived.Shelf.SlicesE.Clone
import Derived.Test.YtjpbnkiifhfofaaGreatProg
namespace Go.Proofs
open Go.Shelf
def Tryz.lays106_ren : Go.Shelf.Ren := ⟨fun | 106 => 158 | 213 => 204 | 265 => 231 | n => n, fun | 9 => 9 | 3 => 3 | n => n, fun | n => n⟩
theorem Tryz.lays106 : Go.Proofs.Lays.n106 Tryz.prog Tryz.lays106_ren := {
  mixed := by kernel_rfl
  f106 := Tryz.func158.trans (congrArg some (by kernel_rfl))
  f213 := Tryz.func204.trans (congrArg some (by kernel_rfl))
  f265 := Tryz.func231.trans (congrArg some (by kernel_rfl))
  t3 := Tryz.underlying3
  a3 := Tryz.isAgg3
  z3 := Tryz.sizeOf3
  v3 := Tryz.zeroValue3
  t9 := Tryz.underlying9
  a9 := Tryz.isAgg9
  z9 := Tryz.sizeOf9
  v9 := Tryz.zeroValue9 }
open Go.RowKit in
/-- strings.Compare: "Compare returns an integer comparing two strings lexicographically. The result will be 0 if a == b, -1 if a < b, and +1 if a > b.": IT RETURNS 'Lib.compareBytes a b'; the world is as it was. (LAID: no walk: one application.) -/
theorem Tryz.strings_Compare (a b : ByteArray) (w : World) :
    Calls Tryz.prog 158 #[.string a, .string b] w fun e w' => e = .returned (.int .i64 (Lib.compareBytes a.data.toList b.data.toList)) ∧ w' = w := Any.strings_Compare Tryz.lays106 a b w
def Tryz.lays189_ren : Go.Shelf.Ren := ⟨fun | 189 => 209 | 125 => 215 | 257 => 233 | 128 => 242 | 129 => 243 | 294 => 254 | 295 => 255 | 296 => 256 | 297 => 257 | 298 => 258 | 299 => 259 | 216 => 220 | 300 => 260 | 301 => 261 | 328 => 269 | 329 => 263 | 330 => 264 | 331 => 270 | 332 => 271 | 215 => 245 | 343 => 273 | n => n, fun | 28 => 160 | 3 => 3 | 46 => 264 | 0 => 0 | 51 => 321 | 53 => 34 | 4 => 4 | 183 => 315 | 182 => 314 | 131 => 218 | 5 => 5 | 9 => 9 | 218 => 334 | 222 => 338 | 228 => 344 | 229 => 345 | n => n, fun | n => n⟩
theorem Tryz.lays189 : Go.Proofs.Lays.n189 Tryz.prog Tryz.lays189_ren := {
  mixed := by kernel_rfl
  f125 := Tryz.func215.trans (congrArg some (by kernel_rfl))
  f128 := Tryz.func242.trans (congrArg some (by kernel_rfl))
  f129 := Tryz.func243.trans (congrArg some (by kernel_rfl))
  f189 := Tryz.func209.trans (congrArg some (by kernel_rfl))
  f215 := Tryz.func245.trans (congrArg some (by kernel_rfl))
  f216 := Tryz.func220.trans (congrArg some (by kernel_rfl))
  f257 := Tryz.func233.trans (congrArg some (by kernel_rfl))
  f294 := Tryz.func254.trans (congrArg some (by kernel_rfl))
  f295 := Tryz.func255.trans (congrArg some (by kernel_rfl))
  f296 := Tryz.func256.trans (congrArg some (by kernel_rfl))
  f297 := Tryz.func257.trans (congrArg some (by kernel_rfl))
  f298 := Tryz.func258.trans (congrArg some (by kernel_rfl))
  f299 := Tryz.func259.trans (congrArg some (by kernel_rfl))
  f300 := Tryz.func260.trans (congrArg some (by kernel_rfl))
  f301 := Tryz.func261.trans (congrArg some (by kernel_rfl))
  f328 := Tryz.func269.trans (congrArg some (by kernel_rfl))
  f329 := Tryz.func263.trans (congrArg some (by kernel_rfl))
  f330 := Tryz.func264.trans (congrArg some (by kernel_rfl))
  f331 := Tryz.func270.trans (congrArg some (by kernel_rfl))
  f332 := Tryz.func271.trans (congrArg some (by kernel_rfl))
  f343 := Tryz.func273.trans (congrArg some (by kernel_rfl))
  t0 := Tryz.underlying0
  a0 := Tryz.isAgg0
  z0 := Tryz.sizeOf0
  v0 := Tryz.zeroValue0
  t3 := Tryz.underlying3
  a3 := Tryz.isAgg3
  z3 := Tryz.sizeOf3
  v3 := Tryz.zeroValue3
  t4 := Tryz.underlying4
  a4 := Tryz.isAgg4
  z4 := Tryz.sizeOf4
  v4 := Tryz.zeroValue4
  t5 := Tryz.underlying5
  a5 := Tryz.isAgg5
  z5 := Tryz.sizeOf5
  v5 := Tryz.zeroValue5
  t9 := Tryz.underlying9
  a9 := Tryz.isAgg9
  z9 := Tryz.sizeOf9
  v9 := Tryz.zeroValue9
  t28 := Tryz.underlying160
  a28 := Tryz.isAgg160
  z28 := Tryz.sizeOf160
  v28 := Tryz.zeroValue160
  t46 := Tryz.underlying264
  a46 := Tryz.isAgg264
  z46 := Tryz.sizeOf264
  v46 := Tryz.zeroValue264
  t51 := Tryz.underlying321
  a51 := Tryz.isAgg321
  z51 := Tryz.sizeOf321
  v51 := Tryz.zeroValue321
  t53 := Tryz.underlying34
  a53 := Tryz.isAgg34
  z53 := Tryz.sizeOf34
  v53 := Tryz.zeroValue34
  t131 := Tryz.underlying218
  a131 := Tryz.isAgg218
  z131 := Tryz.sizeOf218
  v131 := Tryz.zeroValue218
  t182 := Tryz.underlying314
  a182 := Tryz.isAgg314
  z182 := Tryz.sizeOf314
  v182 := Tryz.zeroValue314
  t183 := Tryz.underlying315
  a183 := Tryz.isAgg315
  z183 := Tryz.sizeOf315
  v183 := Tryz.zeroValue315
  t218 := Tryz.underlying334
  a218 := Tryz.isAgg334
  z218 := Tryz.sizeOf334
  v218 := Tryz.zeroValue334
  t222 := Tryz.underlying338
  a222 := Tryz.isAgg338
  z222 := Tryz.sizeOf338
  v222 := Tryz.zeroValue338
  t228 := Tryz.underlying344
  a228 := Tryz.isAgg344
  z228 := Tryz.sizeOf344
  v228 := Tryz.zeroValue344
  t229 := Tryz.underlying345
  a229 := Tryz.isAgg345
  z229 := Tryz.sizeOf345
  v229 := Tryz.zeroValue345 }
open Go.Sort Go.RowKit in
theorem Tryz.slices_Sort_int (blk off cap : Nat) (zs : List Int) (w : World) (hH : Holds (Value.int .i64) w blk off zs.toArray) (hblk : blk < w.heap.size) (hsz : zs.length < 4611686018427387904) :
    Calls Tryz.prog 209 #[.slice (some ⟨blk, off, none⟩) zs.length cap] w fun e w' =>
      e = .returned (.tuple #[]) ∧ ∃ n os, w' = grow (putRow (Value.int .i64) (Sort.ahead w n) blk off (zs.mergeSort fun x y => decide (x ≤ y)).toArray) os := Any.slices_Sort_int Tryz.lays189 blk off cap zs w hH hblk hsz
open Go.RowKit Go.Sort in
/-- .. and plain. (LAID: no walk: one application.) -/
theorem Tryz.slices_Sort_int_none (p : Option Addr) (cap : Nat) (w : World) :
    Calls Tryz.prog 209 #[.slice p 0 cap] w fun e w' => e = .returned (.tuple #[]) ∧ w' = w := Any.slices_Sort_int_none Tryz.lays189 p cap w
def Tryz.grow213_ren : Go.Shelf.Ren := ⟨fun | 4 => 213 | n => n, fun | 22 => 48 | 25 => 39 | 3 => 3 | 4 => 4 | 9 => 9 | 20 => 20 | 0 => 0 | n => n, fun | n => n⟩
theorem Tryz.grow213 : Go.Proofs.Lays8.n4 Tryz.prog Tryz.grow213_ren := {
  mixed := by kernel_rfl
  f4 := ⟨Tryz.f213.name, by decide, Tryz.func213.trans (congrArg some (by kernel_rfl))⟩
  t0 := Tryz.underlying0
  a0 := Tryz.isAgg0
  z0 := Tryz.sizeOf0
  v0 := Tryz.zeroValue0
  t3 := Tryz.underlying3
  a3 := Tryz.isAgg3
  z3 := Tryz.sizeOf3
  v3 := Tryz.zeroValue3
  t4 := Tryz.underlying4
  a4 := Tryz.isAgg4
  z4 := Tryz.sizeOf4
  v4 := Tryz.zeroValue4
  t9 := Tryz.underlying9
  a9 := Tryz.isAgg9
  z9 := Tryz.sizeOf9
  v9 := Tryz.zeroValue9
  t20 := Tryz.underlying20
  a20 := Tryz.isAgg20
  z20 := Tryz.sizeOf20
  v20 := Tryz.zeroValue20
  t22 := Tryz.underlying48
  a22 := Tryz.isAgg48
  z22 := Tryz.sizeOf48
  v22 := Tryz.zeroValue48 }
open Go.RowKit in
theorem Tryz.slices_Grow_room213 (base : Option Addr) (l c n : Nat) (w : World) (hlc : l ≤ c) (hc63 : c ≤ 9223372036854775807) (hn63 : n ≤ 9223372036854775807) (hroom : l + n ≤ c) :
    Calls Tryz.prog 213 #[.slice base l c, .int .i64 n] w fun e w' => e = .returned (.slice base l c) ∧ w' = w := Any8.slices_Grow_room Tryz.grow213 base l c n w hlc hc63 hn63 hroom
def Tryz.grow232_ren : Go.Shelf.Ren := ⟨fun | 4 => 232 | n => n, fun | 22 => 160 | 25 => 3 | 3 => 3 | 4 => 4 | 9 => 9 | 20 => 20 | 0 => 0 | n => n, fun | n => n⟩
theorem Tryz.grow232 : Go.Proofs.Lays8.n4 Tryz.prog Tryz.grow232_ren := {
  mixed := by kernel_rfl
  f4 := ⟨Tryz.f232.name, by decide, Tryz.func232.trans (congrArg some (by kernel_rfl))⟩
  t0 := Tryz.underlying0
  a0 := Tryz.isAgg0
  z0 := Tryz.sizeOf0
  v0 := Tryz.zeroValue0
  t3 := Tryz.underlying3
  a3 := Tryz.isAgg3
  z3 := Tryz.sizeOf3
  v3 := Tryz.zeroValue3
  t4 := Tryz.underlying4
  a4 := Tryz.isAgg4
  z4 := Tryz.sizeOf4
  v4 := Tryz.zeroValue4
  t9 := Tryz.underlying9
  a9 := Tryz.isAgg9
  z9 := Tryz.sizeOf9
  v9 := Tryz.zeroValue9
  t20 := Tryz.underlying20
  a20 := Tryz.isAgg20
  z20 := Tryz.sizeOf20
  v20 := Tryz.zeroValue20
  t22 := Tryz.underlying160
  a22 := Tryz.isAgg160
  z22 := Tryz.sizeOf160
  v22 := Tryz.zeroValue160 }
open Go.RowKit in
theorem Tryz.slices_Grow_room232 (base : Option Addr) (l c n : Nat) (w : World) (hlc : l ≤ c) (hc63 : c ≤ 9223372036854775807) (hn63 : n ≤ 9223372036854775807) (hroom : l + n ≤ c) :
    Calls Tryz.prog 232 #[.slice base l c, .int .i64 n] w fun e w' => e = .returned (.slice base l c) ∧ w' = w := Any8.slices_Grow_room Tryz.grow232 base l c n w hlc hc63 hn63 hroom
def Tryz.sortS_ren : Go.Shelf.Ren := ⟨fun | 6 => 173 | 15 => 215 | 14 => 214 | 28 => 242 | 29 => 243 | 20 => 234 | 21 => 235 | 22 => 236 | 23 => 237 | 24 => 238 | 25 => 239 | 26 => 240 | 27 => 241 | 46 => 262 | 47 => 263 | 48 => 264 | 49 => 265 | 50 => 266 | 57 => 272 | n => n, fun | 22 => 48 | 24 => 39 | 25 => 172 | 3 => 3 | 39 => 264 | 0 => 0 | 53 => 321 | 55 => 34 | 4 => 4 | 46 => 315 | 45 => 314 | 50 => 218 | 5 => 5 | 9 => 9 | 66 => 334 | 70 => 338 | 76 => 344 | 77 => 345 | n => n, fun | n => n⟩
theorem Tryz.sortS : Go.Proofs.SlLaysF.n6 Tryz.prog Tryz.sortS_ren := {
  mixed := by kernel_rfl
  f6 := ⟨Tryz.f173.name, by decide, Tryz.func173.trans (congrArg some (by kernel_rfl))⟩
  f14 := ⟨Tryz.f214.name, by decide, Tryz.func214.trans (congrArg some (by kernel_rfl))⟩
  f15 := Tryz.func215.trans (congrArg some (by kernel_rfl))
  f20 := ⟨Tryz.f234.name, by decide, Tryz.func234.trans (congrArg some (by kernel_rfl))⟩
  f21 := ⟨Tryz.f235.name, by decide, Tryz.func235.trans (congrArg some (by kernel_rfl))⟩
  f22 := ⟨Tryz.f236.name, by decide, Tryz.func236.trans (congrArg some (by kernel_rfl))⟩
  f23 := ⟨Tryz.f237.name, by decide, Tryz.func237.trans (congrArg some (by kernel_rfl))⟩
  f24 := ⟨Tryz.f238.name, by decide, Tryz.func238.trans (congrArg some (by kernel_rfl))⟩
  f25 := ⟨Tryz.f239.name, by decide, Tryz.func239.trans (congrArg some (by kernel_rfl))⟩
  f26 := ⟨Tryz.f240.name, by decide, Tryz.func240.trans (congrArg some (by kernel_rfl))⟩
  f27 := ⟨Tryz.f241.name, by decide, Tryz.func241.trans (congrArg some (by kernel_rfl))⟩
  f28 := Tryz.func242.trans (congrArg some (by kernel_rfl))
  f29 := Tryz.func243.trans (congrArg some (by kernel_rfl))
  f46 := ⟨Tryz.f262.name, by decide, Tryz.func262.trans (congrArg some (by kernel_rfl))⟩
  f47 := Tryz.func263.trans (congrArg some (by kernel_rfl))
  f48 := Tryz.func264.trans (congrArg some (by kernel_rfl))
  f49 := ⟨Tryz.f265.name, by decide, Tryz.func265.trans (congrArg some (by kernel_rfl))⟩
  f50 := ⟨Tryz.f266.name, by decide, Tryz.func266.trans (congrArg some (by kernel_rfl))⟩
  f57 := ⟨Tryz.f272.name, by decide, Tryz.func272.trans (congrArg some (by kernel_rfl))⟩
  t0 := Tryz.underlying0
  a0 := Tryz.isAgg0
  z0 := Tryz.sizeOf0
  v0 := Tryz.zeroValue0
  t3 := Tryz.underlying3
  a3 := Tryz.isAgg3
  z3 := Tryz.sizeOf3
  v3 := Tryz.zeroValue3
  t4 := Tryz.underlying4
  a4 := Tryz.isAgg4
  z4 := Tryz.sizeOf4
  v4 := Tryz.zeroValue4
  t5 := Tryz.underlying5
  a5 := Tryz.isAgg5
  z5 := Tryz.sizeOf5
  v5 := Tryz.zeroValue5
  t9 := Tryz.underlying9
  a9 := Tryz.isAgg9
  z9 := Tryz.sizeOf9
  v9 := Tryz.zeroValue9
  t22 := Tryz.underlying48
  a22 := Tryz.isAgg48
  z22 := Tryz.sizeOf48
  v22 := Tryz.zeroValue48
  a24 := Tryz.isAgg39
  z24 := Tryz.sizeOf39
  t25 := Tryz.underlying172
  a25 := Tryz.isAgg172
  z25 := Tryz.sizeOf172
  v25 := Tryz.zeroValue172
  t39 := Tryz.underlying264
  a39 := Tryz.isAgg264
  z39 := Tryz.sizeOf264
  v39 := Tryz.zeroValue264
  t45 := Tryz.underlying314
  a45 := Tryz.isAgg314
  z45 := Tryz.sizeOf314
  v45 := Tryz.zeroValue314
  t46 := Tryz.underlying315
  a46 := Tryz.isAgg315
  z46 := Tryz.sizeOf315
  v46 := Tryz.zeroValue315
  t50 := Tryz.underlying218
  a50 := Tryz.isAgg218
  z50 := Tryz.sizeOf218
  v50 := Tryz.zeroValue218
  t53 := Tryz.underlying321
  a53 := Tryz.isAgg321
  z53 := Tryz.sizeOf321
  v53 := Tryz.zeroValue321
  t55 := Tryz.underlying34
  a55 := Tryz.isAgg34
  z55 := Tryz.sizeOf34
  v55 := Tryz.zeroValue34
  t66 := Tryz.underlying334
  a66 := Tryz.isAgg334
  z66 := Tryz.sizeOf334
  v66 := Tryz.zeroValue334
  t70 := Tryz.underlying338
  a70 := Tryz.isAgg338
  z70 := Tryz.sizeOf338
  v70 := Tryz.zeroValue338
  t76 := Tryz.underlying344
  a76 := Tryz.isAgg344
  z76 := Tryz.sizeOf344
  v76 := Tryz.zeroValue344
  t77 := Tryz.underlying345
  a77 := Tryz.isAgg345
  z77 := Tryz.sizeOf345
  v77 := Tryz.zeroValue345 }
end Go.Proofs
