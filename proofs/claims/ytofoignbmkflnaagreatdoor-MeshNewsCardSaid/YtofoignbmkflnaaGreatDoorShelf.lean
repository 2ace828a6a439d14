/-
  DERIVED: THE SHELF's CONTRACTS AT THIS DUMP, IN PLAIN WORDS (tools/lay-plain.mjs out of 'YtofoignbmkflnaaGreatDoorShelfT.lean', which tools/lay-shelf.mjs wrote): THE SAME DECLARATIONS UNDER THE SAME NAMES: 'import', 'namespace', 'open', 'def', 'theorem' AND NOTHING ELSE: no command of the shelf's: FOR A HAND-IN. Each laying: the table of numbers ('.._ren') and one theorem, a field a fact of the dump's own or the kernel's comparison; each contract: ONE APPLICATION.
-/
import Derived.Shelf.SlSortCmp.NoneTotal
import Derived.Shelf.Spec.SlicesGrow
import Derived.Shelf.Strings.Builder1
import Derived.Shelf.Strings.Builder2
import Derived.Shelf.Strings.OnBuilder
import Derived.Shelf.Small.Bits
import Derived.Shelf.Small.Strs
import Derived.Shelf.Utf8.RuneCount
import Derived.Shelf.Strings.Builder2Cap
import Derived.Shelf.Strconv.Atoi
import Derived.Shelf.Strconv.Itoa0
import Derived.Shelf.Strconv.Itoa1
import Derived.Shelf.LaysM
import Derived.Shelf.Strconv.Itoa2
import Derived.Shelf.Strconv.Itoa3
import Derived.Shelf.Strconv.AtoiErrFast
import Derived.Shelf.Strconv.ParseIntEmpty
import Derived.Shelf.Strconv.AtoiFail
import Derived.Shelf.Strconv.Clone
import Derived.Shelf.Strconv.SyntaxError
import Derived.Shelf.LaysC
import Derived.Shelf.Strconv.ToError
import Derived.Shelf.Strconv.Lower
import Derived.Shelf.Strconv.ParseUint10
import Derived.Shelf.Strconv.ParseUint10Empty
import Derived.Shelf.Strconv.ParseUint10Any
import Derived.Shelf.Strconv.ParseInt10
import Derived.Shelf.Strconv.AtoiLong
import Derived.Shelf.Strconv.AtoiInnerAll
import Derived.Shelf.Strconv.RangeError
import Derived.Shelf.Strconv.ToErrorRange
import Derived.Shelf.Strconv.AtoiAll
import Derived.Shelf.Strconv.ErrVarAll
import Derived.Shelf.Strings.Search1
import Derived.Shelf.Strings.Search2
import Derived.Shelf.Strings.Search3
import Derived.Shelf.Strings.Count
import Derived.Shelf.Strings.Shaped
import Derived.Shelf.Sort.Plain
import Derived.Shelf.Strings.Split
import Derived.Shelf.Strings.SplitShaped
import Derived.Shelf.Unicode.Decode
import Derived.Shelf.Strings.RuneCount
import Derived.Shelf.Strings.Explode
import Derived.Shelf.Unicode.DecodeSlow
import Derived.Shelf.Unicode.DecodeAny
import Derived.Ground.Names2Prog
import Derived.Shelf.Slices.Clone
import Derived.Shelf.Slices.CompactI
import Derived.Shelf.Slices.SearchI
import Derived.Shelf.Slices.Cells
import Derived.Shelf.Slices.In.SortNone
import Derived.Shelf.Slices.Empties
import Derived.Ground.SlgnProg
import Derived.Shelf.SlicesE.Clone
import Derived.Test.YtofoignbmkflnaaGreatDoorProg
namespace Go.Proofs
open Go.Shelf
def Tryz.lays156_ren : Go.Shelf.Ren := ⟨fun | 156 => 177 | 165 => 235 | 166 => 236 | 169 => 237 | 240 => 289 | 241 => 290 | 276 => 308 | 277 => 309 | n => n, fun | 31 => 69 | 9 => 9 | 3 => 3 | 4 => 4 | 0 => 0 | 20 => 20 | 72 => 322 | 76 => 326 | 70 => 320 | 37 => 74 | 75 => 325 | 127 => 368 | 164 => 384 | 5 => 5 | 80 => 328 | n => n, fun | n => n⟩
theorem Tryz.lays156 : Go.Proofs.Lays.n156 Tryz.prog Tryz.lays156_ren := {
  mixed := by kernel_rfl
  f156 := Tryz.func177.trans (congrArg some (by kernel_rfl))
  f165 := Tryz.func235.trans (congrArg some (by kernel_rfl))
  f166 := Tryz.func236.trans (congrArg some (by kernel_rfl))
  f169 := Tryz.func237.trans (congrArg some (by kernel_rfl))
  f240 := Tryz.func289.trans (congrArg some (by kernel_rfl))
  f241 := Tryz.func290.trans (congrArg some (by kernel_rfl))
  f276 := Tryz.func308.trans (congrArg some (by kernel_rfl))
  f277 := Tryz.func309.trans (congrArg some (by kernel_rfl))
  t0 := Tryz.underlying0
  a0 := Tryz.isAgg0
  z0 := Tryz.sizeOf0
  v0 := Tryz.zeroValue0
  t3 := Tryz.underlying3
  a3 := Tryz.isAgg3
  z3 := Tryz.sizeOf3
  v3 := Tryz.zeroValue3
  t4 := Tryz.underlying4
  a4 := Tryz.isAgg4
  z4 := Tryz.sizeOf4
  v4 := Tryz.zeroValue4
  t9 := Tryz.underlying9
  a9 := Tryz.isAgg9
  z9 := Tryz.sizeOf9
  v9 := Tryz.zeroValue9
  t20 := Tryz.underlying20
  a20 := Tryz.isAgg20
  z20 := Tryz.sizeOf20
  v20 := Tryz.zeroValue20
  t31 := Tryz.underlying69
  a31 := Tryz.isAgg69
  z31 := Tryz.sizeOf69
  v31 := Tryz.zeroValue69
  t37 := Tryz.underlying74
  a37 := Tryz.isAgg74
  z37 := Tryz.sizeOf74
  v37 := Tryz.zeroValue74
  t70 := Tryz.underlying320
  a70 := Tryz.isAgg320
  z70 := Tryz.sizeOf320
  v70 := Tryz.zeroValue320
  t72 := Tryz.underlying322
  a72 := Tryz.isAgg322
  z72 := Tryz.sizeOf322
  v72 := Tryz.zeroValue322
  t75 := Tryz.underlying325
  a75 := Tryz.isAgg325
  z75 := Tryz.sizeOf325
  v75 := Tryz.zeroValue325
  t76 := Tryz.underlying326
  a76 := Tryz.isAgg326
  z76 := Tryz.sizeOf326
  v76 := Tryz.zeroValue326
  t127 := Tryz.underlying368
  a127 := Tryz.isAgg368
  z127 := Tryz.sizeOf368
  v127 := Tryz.zeroValue368
  t164 := Tryz.underlying384
  a164 := Tryz.isAgg384
  z164 := Tryz.sizeOf384
  v164 := Tryz.zeroValue384 }
theorem Tryz.Builder_Extra_156 : Builder.Extra Tryz.prog Tryz.lays156_ren := {
  sizeBuilder := by kernel_rfl
  liesBuilder := by kernel_rfl
  t5 := Tryz.underlying5
  a5 := Tryz.isAgg5
  z5 := Tryz.sizeOf5
  v5 := Tryz.zeroValue5
  infoByte := by kernel_rfl
  cellsByte := by kernel_rfl
  sizeByte := by kernel_rfl
  neB5 := by decide }
open Go.RowKit in
/-- No element: the empty string; the world is as it was. (Whatever the slice's address and capacity: a nil slice too.) (LAID: no walk: one application.) -/
theorem Tryz.strings_Join_none (a : Option Addr) (c : Nat) (sep : ByteArray) (w : World) :
    Calls Tryz.prog 177 #[.slice a 0 c, .string sep] w fun e w' => e = .returned (.string ⟨#[]⟩) ∧ w' = w := Any.strings_Join_none Tryz.lays156 Tryz.Builder_Extra_156 a c sep w
open Go.RowKit in
/-- strings.Join: "Join concatenates the elements of its first argument to create a single string. The separator string sep is placed between elements in the resulting string.": HOWEVER MANY ELEMENTS. Below the heap's end the world is as it was. (LAID: no walk: one application.) -/
theorem Tryz.strings_Join (bk o c : Nat) (xs : List ByteArray) (sep : ByteArray) (w : World) (hcells : ∀ (j : Nat) x, xs[j]? = some x → w.cell? ⟨bk, o + j, none⟩ = some (.string x)) (hbk : bk < w.heap.size) (hN : xs.length ≤ 140737488355328) (hcap : xs.length ≤ c) (hlen : (Lib.join (xs.map (·.data.toList)) sep.data.toList).length ≤ 140737488355328) :
    Calls Tryz.prog 177 #[.slice (some ⟨bk, o, none⟩) xs.length c, .string sep] w fun e w' => e = .returned (.string ⟨(Lib.join (xs.map (·.data.toList)) sep.data.toList).toArray⟩) ∧ Below w.heap.size w w' := Any.strings_Join Tryz.lays156 Tryz.Builder_Extra_156 bk o c xs sep w hcells hbk hN hcap hlen
def Tryz.lays106_ren : Go.Shelf.Ren := ⟨fun | 106 => 194 | 213 => 250 | 265 => 295 | n => n, fun | 9 => 9 | 3 => 3 | n => n, fun | n => n⟩
theorem Tryz.lays106 : Go.Proofs.Lays.n106 Tryz.prog Tryz.lays106_ren := {
  mixed := by kernel_rfl
  f106 := Tryz.func194.trans (congrArg some (by kernel_rfl))
  f213 := Tryz.func250.trans (congrArg some (by kernel_rfl))
  f265 := Tryz.func295.trans (congrArg some (by kernel_rfl))
  t3 := Tryz.underlying3
  a3 := Tryz.isAgg3
  z3 := Tryz.sizeOf3
  v3 := Tryz.zeroValue3
  t9 := Tryz.underlying9
  a9 := Tryz.isAgg9
  z9 := Tryz.sizeOf9
  v9 := Tryz.zeroValue9 }
open Go.RowKit in
/-- strings.Compare: "Compare returns an integer comparing two strings lexicographically. The result will be 0 if a == b, -1 if a < b, and +1 if a > b.": IT RETURNS 'Lib.compareBytes a b'; the world is as it was. (LAID: no walk: one application.) -/
theorem Tryz.strings_Compare (a b : ByteArray) (w : World) :
    Calls Tryz.prog 194 #[.string a, .string b] w fun e w' => e = .returned (.int .i64 (Lib.compareBytes a.data.toList b.data.toList)) ∧ w' = w := Any.strings_Compare Tryz.lays106 a b w
def Tryz.lays189_ren : Go.Shelf.Ren := ⟨fun | 189 => 243 | 125 => 228 | 257 => 293 | 128 => 287 | 129 => 288 | 294 => 311 | 295 => 312 | 296 => 313 | 297 => 314 | 298 => 315 | 299 => 316 | 216 => 247 | 300 => 317 | 301 => 318 | 328 => 330 | 329 => 304 | 330 => 305 | 331 => 331 | 332 => 332 | 215 => 258 | 343 => 343 | n => n, fun | 28 => 126 | 3 => 3 | 46 => 268 | 0 => 0 | 51 => 366 | 53 => 344 | 4 => 4 | 183 => 360 | 182 => 359 | 131 => 204 | 5 => 5 | 9 => 9 | 218 => 378 | 222 => 382 | 228 => 399 | 229 => 400 | n => n, fun | n => n⟩
theorem Tryz.lays189 : Go.Proofs.Lays.n189 Tryz.prog Tryz.lays189_ren := {
  mixed := by kernel_rfl
  f125 := Tryz.func228.trans (congrArg some (by kernel_rfl))
  f128 := Tryz.func287.trans (congrArg some (by kernel_rfl))
  f129 := Tryz.func288.trans (congrArg some (by kernel_rfl))
  f189 := Tryz.func243.trans (congrArg some (by kernel_rfl))
  f215 := Tryz.func258.trans (congrArg some (by kernel_rfl))
  f216 := Tryz.func247.trans (congrArg some (by kernel_rfl))
  f257 := Tryz.func293.trans (congrArg some (by kernel_rfl))
  f294 := Tryz.func311.trans (congrArg some (by kernel_rfl))
  f295 := Tryz.func312.trans (congrArg some (by kernel_rfl))
  f296 := Tryz.func313.trans (congrArg some (by kernel_rfl))
  f297 := Tryz.func314.trans (congrArg some (by kernel_rfl))
  f298 := Tryz.func315.trans (congrArg some (by kernel_rfl))
  f299 := Tryz.func316.trans (congrArg some (by kernel_rfl))
  f300 := Tryz.func317.trans (congrArg some (by kernel_rfl))
  f301 := Tryz.func318.trans (congrArg some (by kernel_rfl))
  f328 := Tryz.func330.trans (congrArg some (by kernel_rfl))
  f329 := Tryz.func304.trans (congrArg some (by kernel_rfl))
  f330 := Tryz.func305.trans (congrArg some (by kernel_rfl))
  f331 := Tryz.func331.trans (congrArg some (by kernel_rfl))
  f332 := Tryz.func332.trans (congrArg some (by kernel_rfl))
  f343 := Tryz.func343.trans (congrArg some (by kernel_rfl))
  t0 := Tryz.underlying0
  a0 := Tryz.isAgg0
  z0 := Tryz.sizeOf0
  v0 := Tryz.zeroValue0
  t3 := Tryz.underlying3
  a3 := Tryz.isAgg3
  z3 := Tryz.sizeOf3
  v3 := Tryz.zeroValue3
  t4 := Tryz.underlying4
  a4 := Tryz.isAgg4
  z4 := Tryz.sizeOf4
  v4 := Tryz.zeroValue4
  t5 := Tryz.underlying5
  a5 := Tryz.isAgg5
  z5 := Tryz.sizeOf5
  v5 := Tryz.zeroValue5
  t9 := Tryz.underlying9
  a9 := Tryz.isAgg9
  z9 := Tryz.sizeOf9
  v9 := Tryz.zeroValue9
  t28 := Tryz.underlying126
  a28 := Tryz.isAgg126
  z28 := Tryz.sizeOf126
  v28 := Tryz.zeroValue126
  t46 := Tryz.underlying268
  a46 := Tryz.isAgg268
  z46 := Tryz.sizeOf268
  v46 := Tryz.zeroValue268
  t51 := Tryz.underlying366
  a51 := Tryz.isAgg366
  z51 := Tryz.sizeOf366
  v51 := Tryz.zeroValue366
  t53 := Tryz.underlying344
  a53 := Tryz.isAgg344
  z53 := Tryz.sizeOf344
  v53 := Tryz.zeroValue344
  t131 := Tryz.underlying204
  a131 := Tryz.isAgg204
  z131 := Tryz.sizeOf204
  v131 := Tryz.zeroValue204
  t182 := Tryz.underlying359
  a182 := Tryz.isAgg359
  z182 := Tryz.sizeOf359
  v182 := Tryz.zeroValue359
  t183 := Tryz.underlying360
  a183 := Tryz.isAgg360
  z183 := Tryz.sizeOf360
  v183 := Tryz.zeroValue360
  t218 := Tryz.underlying378
  a218 := Tryz.isAgg378
  z218 := Tryz.sizeOf378
  v218 := Tryz.zeroValue378
  t222 := Tryz.underlying382
  a222 := Tryz.isAgg382
  z222 := Tryz.sizeOf382
  v222 := Tryz.zeroValue382
  t228 := Tryz.underlying399
  a228 := Tryz.isAgg399
  z228 := Tryz.sizeOf399
  v228 := Tryz.zeroValue399
  t229 := Tryz.underlying400
  a229 := Tryz.isAgg400
  z229 := Tryz.sizeOf400
  v229 := Tryz.zeroValue400 }
open Go.Sort Go.RowKit in
theorem Tryz.slices_Sort_int (blk off cap : Nat) (zs : List Int) (w : World) (hH : Holds (Value.int .i64) w blk off zs.toArray) (hblk : blk < w.heap.size) (hsz : zs.length < 4611686018427387904) :
    Calls Tryz.prog 243 #[.slice (some ⟨blk, off, none⟩) zs.length cap] w fun e w' =>
      e = .returned (.tuple #[]) ∧ ∃ n os, w' = grow (putRow (Value.int .i64) (Sort.ahead w n) blk off (zs.mergeSort fun x y => decide (x ≤ y)).toArray) os := Any.slices_Sort_int Tryz.lays189 blk off cap zs w hH hblk hsz
def Tryz.lays146_ren : Go.Shelf.Ren := ⟨fun | 146 => 299 | 221 => 320 | 268 => 333 | 138 => 334 | 143 => 335 | 195 => 344 | 197 => 345 | 218 => 346 | 219 => 347 | 260 => 356 | 217 => 357 | 225 => 358 | 224 => 359 | 267 => 360 | 266 => 364 | 314 => 365 | n => n, fun | 9 => 9 | 31 => 69 | 3 => 3 | 4 => 4 | 0 => 0 | 105 => 415 | 21 => 21 | 5 => 5 | 46 => 268 | 119 => 432 | 139 => 435 | 138 => 434 | 146 => 436 | 51 => 366 | n => n, fun | 1 => 1 | 3 => 7 | 4 => 8 | n => n⟩
theorem Tryz.lays146 : Go.Proofs.Lays.n146 Tryz.prog Tryz.lays146_ren := {
  mixed := by kernel_rfl
  f138 := Tryz.func334.trans (congrArg some (by kernel_rfl))
  f143 := Tryz.func335.trans (congrArg some (by kernel_rfl))
  f146 := Tryz.func299.trans (congrArg some (by kernel_rfl))
  f195 := Tryz.func344.trans (congrArg some (by kernel_rfl))
  f197 := Tryz.func345.trans (congrArg some (by kernel_rfl))
  f217 := Tryz.func357.trans (congrArg some (by kernel_rfl))
  f218 := Tryz.func346.trans (congrArg some (by kernel_rfl))
  f219 := Tryz.func347.trans (congrArg some (by kernel_rfl))
  f221 := Tryz.func320.trans (congrArg some (by kernel_rfl))
  f224 := Tryz.func359.trans (congrArg some (by kernel_rfl))
  f225 := Tryz.func358.trans (congrArg some (by kernel_rfl))
  f260 := Tryz.func356.trans (congrArg some (by kernel_rfl))
  f266 := Tryz.func364.trans (congrArg some (by kernel_rfl))
  f267 := Tryz.func360.trans (congrArg some (by kernel_rfl))
  f268 := Tryz.func333.trans (congrArg some (by kernel_rfl))
  f314 := Tryz.func365.trans (congrArg some (by kernel_rfl))
  t0 := Tryz.underlying0
  a0 := Tryz.isAgg0
  z0 := Tryz.sizeOf0
  v0 := Tryz.zeroValue0
  t3 := Tryz.underlying3
  a3 := Tryz.isAgg3
  z3 := Tryz.sizeOf3
  v3 := Tryz.zeroValue3
  t4 := Tryz.underlying4
  a4 := Tryz.isAgg4
  z4 := Tryz.sizeOf4
  v4 := Tryz.zeroValue4
  t5 := Tryz.underlying5
  a5 := Tryz.isAgg5
  z5 := Tryz.sizeOf5
  v5 := Tryz.zeroValue5
  t9 := Tryz.underlying9
  a9 := Tryz.isAgg9
  z9 := Tryz.sizeOf9
  v9 := Tryz.zeroValue9
  t21 := Tryz.underlying21
  a21 := Tryz.isAgg21
  z21 := Tryz.sizeOf21
  v21 := Tryz.zeroValue21
  t31 := Tryz.underlying69
  a31 := Tryz.isAgg69
  z31 := Tryz.sizeOf69
  v31 := Tryz.zeroValue69
  t46 := Tryz.underlying268
  a46 := Tryz.isAgg268
  z46 := Tryz.sizeOf268
  v46 := Tryz.zeroValue268
  t51 := Tryz.underlying366
  a51 := Tryz.isAgg366
  z51 := Tryz.sizeOf366
  v51 := Tryz.zeroValue366
  t105 := Tryz.underlying415
  a105 := Tryz.isAgg415
  z105 := Tryz.sizeOf415
  v105 := Tryz.zeroValue415
  t119 := Tryz.underlying432
  a119 := Tryz.isAgg432
  z119 := Tryz.sizeOf432
  t138 := Tryz.underlying434
  a138 := Tryz.isAgg434
  z138 := Tryz.sizeOf434
  v138 := Tryz.zeroValue434
  t139 := Tryz.underlying435
  a139 := Tryz.isAgg435
  z139 := Tryz.sizeOf435
  v139 := Tryz.zeroValue435
  t146 := Tryz.underlying436
  a146 := Tryz.isAgg436
  z146 := Tryz.sizeOf436
  v146 := Tryz.zeroValue436
  g1 := by kernel_rfl
  g3 := by kernel_rfl
  g4 := by kernel_rfl }
open Go.RowKit Go.Lib in
/-- strings.Split. (LAID: no walk: one application.) -/
theorem Tryz.strings_Split (s sep : ByteArray) (m : Int) (w : World) (hs : s.size < 4294967281) (hm : w.cell? ⟨1, 0, none⟩ = some (.int .i64 m)) (h1 : 1 ≤ sep.size) :
    Calls Tryz.prog 299 #[.string s, .string sep] w fun e w' =>
      e = .returned (.slice (some ⟨w.heap.size, 0, none⟩) (Lib.countB s sep + 1) (Lib.countB s sep + 1)) ∧ w' = w.alloc (.cells ((Lib.splitB sep 0 (Lib.countB s sep) s).map Value.string).toArray 9) := Any.strings_Split Tryz.lays146 (by kernel_rfl) s sep m w hs hm h1
def Tryz.laysM146_ren : Go.Shelf.Ren := ⟨fun | 146 => 299 | 221 => 320 | 268 => 333 | 138 => 334 | 143 => 335 | 195 => 344 | 197 => 345 | 218 => 346 | 219 => 347 | 260 => 356 | 217 => 357 | 225 => 358 | 224 => 359 | 267 => 360 | 266 => 364 | 314 => 365 | n => n, fun | 9 => 9 | 31 => 69 | 3 => 3 | 4 => 4 | 0 => 0 | 105 => 415 | 21 => 21 | 5 => 5 | 46 => 268 | 119 => 432 | 139 => 435 | 138 => 434 | 146 => 436 | 51 => 366 | n => n, fun | 1 => 1 | 3 => 7 | 4 => 8 | n => n⟩
theorem Tryz.laysM146 : Go.Proofs.LaysM.n146 Tryz.prog Tryz.laysM146_ren := {
  mixed := by kernel_rfl
  f138 := Tryz.func334.trans (congrArg some (by kernel_rfl))
  f143 := Tryz.func335.trans (congrArg some (by kernel_rfl))
  f146 := Tryz.func299.trans (congrArg some (by kernel_rfl))
  f195 := Tryz.func344.trans (congrArg some (by kernel_rfl))
  f197 := Tryz.func345.trans (congrArg some (by kernel_rfl))
  f217 := Tryz.func357.trans (congrArg some (by kernel_rfl))
  f218 := Tryz.func346.trans (congrArg some (by kernel_rfl))
  f219 := Tryz.func347.trans (congrArg some (by kernel_rfl))
  f221 := Tryz.func320.trans (congrArg some (by kernel_rfl))
  f224 := Tryz.func359.trans (congrArg some (by kernel_rfl))
  f225 := Tryz.func358.trans (congrArg some (by kernel_rfl))
  f260 := Tryz.func356.trans (congrArg some (by kernel_rfl))
  f266 := Tryz.func364.trans (congrArg some (by kernel_rfl))
  f267 := Tryz.func360.trans (congrArg some (by kernel_rfl))
  f268 := Tryz.func333.trans (congrArg some (by kernel_rfl))
  f314 := Tryz.func365.trans (congrArg some (by kernel_rfl))
  t0 := Tryz.underlying0
  a0 := Tryz.isAgg0
  z0 := Tryz.sizeOf0
  v0 := Tryz.zeroValue0
  t3 := Tryz.underlying3
  a3 := Tryz.isAgg3
  z3 := Tryz.sizeOf3
  v3 := Tryz.zeroValue3
  t4 := Tryz.underlying4
  a4 := Tryz.isAgg4
  z4 := Tryz.sizeOf4
  v4 := Tryz.zeroValue4
  t5 := Tryz.underlying5
  a5 := Tryz.isAgg5
  z5 := Tryz.sizeOf5
  v5 := Tryz.zeroValue5
  t9 := Tryz.underlying9
  a9 := Tryz.isAgg9
  z9 := Tryz.sizeOf9
  v9 := Tryz.zeroValue9
  t21 := Tryz.underlying21
  a21 := Tryz.isAgg21
  z21 := Tryz.sizeOf21
  v21 := Tryz.zeroValue21
  t31 := Tryz.underlying69
  a31 := Tryz.isAgg69
  z31 := Tryz.sizeOf69
  v31 := Tryz.zeroValue69
  t46 := Tryz.underlying268
  a46 := Tryz.isAgg268
  z46 := Tryz.sizeOf268
  v46 := Tryz.zeroValue268
  t51 := Tryz.underlying366
  a51 := Tryz.isAgg366
  z51 := Tryz.sizeOf366
  v51 := Tryz.zeroValue366
  t105 := Tryz.underlying415
  a105 := Tryz.isAgg415
  z105 := Tryz.sizeOf415
  v105 := Tryz.zeroValue415
  t119 := Tryz.underlying432
  a119 := Tryz.isAgg432
  z119 := Tryz.sizeOf432
  t138 := Tryz.underlying434
  a138 := Tryz.isAgg434
  z138 := Tryz.sizeOf434
  v138 := Tryz.zeroValue434
  t139 := Tryz.underlying435
  a139 := Tryz.isAgg435
  z139 := Tryz.sizeOf435
  v139 := Tryz.zeroValue435
  t146 := Tryz.underlying436
  a146 := Tryz.isAgg436
  z146 := Tryz.sizeOf436
  v146 := Tryz.zeroValue436
  g1 := by kernel_rfl
  g3 := by kernel_rfl
  g4 := by kernel_rfl
  i0 := by kernel_rfl
  i3 := by kernel_rfl
  i4 := by kernel_rfl
  i5 := by kernel_rfl
  i9 := by kernel_rfl
  i21 := by kernel_rfl
  i31 := by kernel_rfl
  i46 := by kernel_rfl
  i51 := by kernel_rfl
  i105 := by kernel_rfl
  i138 := by kernel_rfl
  i139 := by kernel_rfl
  i146 := by kernel_rfl
  m1 := by kernel_rfl
  s1_3 := fun w h => Go.Proofs.cell_of_shapedOpen_int (zero := #[.int .i64 0]) (t := 3) h (of_decide_eq_true (by kernel_rfl)) (by kernel_rfl) rfl (by kernel_rfl) (by kernel_rfl) Tryz.underlying3
  m3 := by kernel_rfl
  m4 := by kernel_rfl }
open Go.RowKit Go.Lib in
/-- strings.Split, sep not empty. (LAID: no walk: one application.) -/
theorem Tryz.strings_Split_shaped (s sep : ByteArray) (w : World) (h : w.ShapedOpen Tryz.prog) (hs : s.size < 4294967281) (h1 : 1 ≤ sep.size) :
    Calls Tryz.prog 299 #[.string s, .string sep] w fun e w' =>
      e = .returned (.slice (some ⟨w.heap.size, 0, none⟩) (Lib.countB s sep + 1) (Lib.countB s sep + 1)) ∧ w' = w.alloc (.cells ((Lib.splitB sep 0 (Lib.countB s sep) s).map Value.string).toArray 9) := Any.strings_Split_shaped Tryz.laysM146 s sep w h hs h1
open Go.RowKit Go.Sort in
/-- .. and plain. (LAID: no walk: one application.) -/
theorem Tryz.slices_Sort_int_none (p : Option Addr) (cap : Nat) (w : World) :
    Calls Tryz.prog 243 #[.slice p 0 cap] w fun e w' => e = .returned (.tuple #[]) ∧ w' = w := Any.slices_Sort_int_none Tryz.lays189 p cap w
def Tryz.grow226_ren : Go.Shelf.Ren := ⟨fun | 4 => 226 | n => n, fun | 22 => 47 | 25 => 38 | 3 => 3 | 4 => 4 | 9 => 9 | 20 => 20 | 0 => 0 | n => n, fun | n => n⟩
theorem Tryz.grow226 : Go.Proofs.Lays8.n4 Tryz.prog Tryz.grow226_ren := {
  mixed := by kernel_rfl
  f4 := ⟨Tryz.f226.name, by decide, Tryz.func226.trans (congrArg some (by kernel_rfl))⟩
  t0 := Tryz.underlying0
  a0 := Tryz.isAgg0
  z0 := Tryz.sizeOf0
  v0 := Tryz.zeroValue0
  t3 := Tryz.underlying3
  a3 := Tryz.isAgg3
  z3 := Tryz.sizeOf3
  v3 := Tryz.zeroValue3
  t4 := Tryz.underlying4
  a4 := Tryz.isAgg4
  z4 := Tryz.sizeOf4
  v4 := Tryz.zeroValue4
  t9 := Tryz.underlying9
  a9 := Tryz.isAgg9
  z9 := Tryz.sizeOf9
  v9 := Tryz.zeroValue9
  t20 := Tryz.underlying20
  a20 := Tryz.isAgg20
  z20 := Tryz.sizeOf20
  v20 := Tryz.zeroValue20
  t22 := Tryz.underlying47
  a22 := Tryz.isAgg47
  z22 := Tryz.sizeOf47
  v22 := Tryz.zeroValue47 }
open Go.RowKit in
theorem Tryz.slices_Grow_room226 (base : Option Addr) (l c n : Nat) (w : World) (hlc : l ≤ c) (hc63 : c ≤ 9223372036854775807) (hn63 : n ≤ 9223372036854775807) (hroom : l + n ≤ c) :
    Calls Tryz.prog 226 #[.slice base l c, .int .i64 n] w fun e w' => e = .returned (.slice base l c) ∧ w' = w := Any8.slices_Grow_room Tryz.grow226 base l c n w hlc hc63 hn63 hroom
def Tryz.grow292_ren : Go.Shelf.Ren := ⟨fun | 4 => 292 | n => n, fun | 22 => 126 | 25 => 3 | 3 => 3 | 4 => 4 | 9 => 9 | 20 => 20 | 0 => 0 | n => n, fun | n => n⟩
theorem Tryz.grow292 : Go.Proofs.Lays8.n4 Tryz.prog Tryz.grow292_ren := {
  mixed := by kernel_rfl
  f4 := ⟨Tryz.f292.name, by decide, Tryz.func292.trans (congrArg some (by kernel_rfl))⟩
  t0 := Tryz.underlying0
  a0 := Tryz.isAgg0
  z0 := Tryz.sizeOf0
  v0 := Tryz.zeroValue0
  t3 := Tryz.underlying3
  a3 := Tryz.isAgg3
  z3 := Tryz.sizeOf3
  v3 := Tryz.zeroValue3
  t4 := Tryz.underlying4
  a4 := Tryz.isAgg4
  z4 := Tryz.sizeOf4
  v4 := Tryz.zeroValue4
  t9 := Tryz.underlying9
  a9 := Tryz.isAgg9
  z9 := Tryz.sizeOf9
  v9 := Tryz.zeroValue9
  t20 := Tryz.underlying20
  a20 := Tryz.isAgg20
  z20 := Tryz.sizeOf20
  v20 := Tryz.zeroValue20
  t22 := Tryz.underlying126
  a22 := Tryz.isAgg126
  z22 := Tryz.sizeOf126
  v22 := Tryz.zeroValue126 }
open Go.RowKit in
theorem Tryz.slices_Grow_room292 (base : Option Addr) (l c n : Nat) (w : World) (hlc : l ≤ c) (hc63 : c ≤ 9223372036854775807) (hn63 : n ≤ 9223372036854775807) (hroom : l + n ≤ c) :
    Calls Tryz.prog 292 #[.slice base l c, .int .i64 n] w fun e w' => e = .returned (.slice base l c) ∧ w' = w := Any8.slices_Grow_room Tryz.grow292 base l c n w hlc hc63 hn63 hroom
def Tryz.sortS_ren : Go.Shelf.Ren := ⟨fun | 6 => 168 | 15 => 228 | 14 => 227 | 28 => 287 | 29 => 288 | 20 => 279 | 21 => 280 | 22 => 281 | 23 => 282 | 24 => 283 | 25 => 284 | 26 => 285 | 27 => 286 | 46 => 303 | 47 => 304 | 48 => 305 | 49 => 306 | 50 => 307 | 57 => 325 | n => n, fun | 22 => 47 | 24 => 38 | 25 => 240 | 3 => 3 | 39 => 268 | 0 => 0 | 53 => 366 | 55 => 344 | 4 => 4 | 46 => 360 | 45 => 359 | 50 => 204 | 5 => 5 | 9 => 9 | 66 => 378 | 70 => 382 | 76 => 399 | 77 => 400 | n => n, fun | n => n⟩
theorem Tryz.sortS : Go.Proofs.SlLaysF.n6 Tryz.prog Tryz.sortS_ren := {
  mixed := by kernel_rfl
  f6 := ⟨Tryz.f168.name, by decide, Tryz.func168.trans (congrArg some (by kernel_rfl))⟩
  f14 := ⟨Tryz.f227.name, by decide, Tryz.func227.trans (congrArg some (by kernel_rfl))⟩
  f15 := Tryz.func228.trans (congrArg some (by kernel_rfl))
  f20 := ⟨Tryz.f279.name, by decide, Tryz.func279.trans (congrArg some (by kernel_rfl))⟩
  f21 := ⟨Tryz.f280.name, by decide, Tryz.func280.trans (congrArg some (by kernel_rfl))⟩
  f22 := ⟨Tryz.f281.name, by decide, Tryz.func281.trans (congrArg some (by kernel_rfl))⟩
  f23 := ⟨Tryz.f282.name, by decide, Tryz.func282.trans (congrArg some (by kernel_rfl))⟩
  f24 := ⟨Tryz.f283.name, by decide, Tryz.func283.trans (congrArg some (by kernel_rfl))⟩
  f25 := ⟨Tryz.f284.name, by decide, Tryz.func284.trans (congrArg some (by kernel_rfl))⟩
  f26 := ⟨Tryz.f285.name, by decide, Tryz.func285.trans (congrArg some (by kernel_rfl))⟩
  f27 := ⟨Tryz.f286.name, by decide, Tryz.func286.trans (congrArg some (by kernel_rfl))⟩
  f28 := Tryz.func287.trans (congrArg some (by kernel_rfl))
  f29 := Tryz.func288.trans (congrArg some (by kernel_rfl))
  f46 := ⟨Tryz.f303.name, by decide, Tryz.func303.trans (congrArg some (by kernel_rfl))⟩
  f47 := Tryz.func304.trans (congrArg some (by kernel_rfl))
  f48 := Tryz.func305.trans (congrArg some (by kernel_rfl))
  f49 := ⟨Tryz.f306.name, by decide, Tryz.func306.trans (congrArg some (by kernel_rfl))⟩
  f50 := ⟨Tryz.f307.name, by decide, Tryz.func307.trans (congrArg some (by kernel_rfl))⟩
  f57 := ⟨Tryz.f325.name, by decide, Tryz.func325.trans (congrArg some (by kernel_rfl))⟩
  t0 := Tryz.underlying0
  a0 := Tryz.isAgg0
  z0 := Tryz.sizeOf0
  v0 := Tryz.zeroValue0
  t3 := Tryz.underlying3
  a3 := Tryz.isAgg3
  z3 := Tryz.sizeOf3
  v3 := Tryz.zeroValue3
  t4 := Tryz.underlying4
  a4 := Tryz.isAgg4
  z4 := Tryz.sizeOf4
  v4 := Tryz.zeroValue4
  t5 := Tryz.underlying5
  a5 := Tryz.isAgg5
  z5 := Tryz.sizeOf5
  v5 := Tryz.zeroValue5
  t9 := Tryz.underlying9
  a9 := Tryz.isAgg9
  z9 := Tryz.sizeOf9
  v9 := Tryz.zeroValue9
  t22 := Tryz.underlying47
  a22 := Tryz.isAgg47
  z22 := Tryz.sizeOf47
  v22 := Tryz.zeroValue47
  a24 := Tryz.isAgg38
  z24 := Tryz.sizeOf38
  t25 := Tryz.underlying240
  a25 := Tryz.isAgg240
  z25 := Tryz.sizeOf240
  v25 := Tryz.zeroValue240
  t39 := Tryz.underlying268
  a39 := Tryz.isAgg268
  z39 := Tryz.sizeOf268
  v39 := Tryz.zeroValue268
  t45 := Tryz.underlying359
  a45 := Tryz.isAgg359
  z45 := Tryz.sizeOf359
  v45 := Tryz.zeroValue359
  t46 := Tryz.underlying360
  a46 := Tryz.isAgg360
  z46 := Tryz.sizeOf360
  v46 := Tryz.zeroValue360
  t50 := Tryz.underlying204
  a50 := Tryz.isAgg204
  z50 := Tryz.sizeOf204
  v50 := Tryz.zeroValue204
  t53 := Tryz.underlying366
  a53 := Tryz.isAgg366
  z53 := Tryz.sizeOf366
  v53 := Tryz.zeroValue366
  t55 := Tryz.underlying344
  a55 := Tryz.isAgg344
  z55 := Tryz.sizeOf344
  v55 := Tryz.zeroValue344
  t66 := Tryz.underlying378
  a66 := Tryz.isAgg378
  z66 := Tryz.sizeOf378
  v66 := Tryz.zeroValue378
  t70 := Tryz.underlying382
  a70 := Tryz.isAgg382
  z70 := Tryz.sizeOf382
  v70 := Tryz.zeroValue382
  t76 := Tryz.underlying399
  a76 := Tryz.isAgg399
  z76 := Tryz.sizeOf399
  v76 := Tryz.zeroValue399
  t77 := Tryz.underlying400
  a77 := Tryz.isAgg400
  z77 := Tryz.sizeOf400
  v77 := Tryz.zeroValue400 }
end Go.Proofs
