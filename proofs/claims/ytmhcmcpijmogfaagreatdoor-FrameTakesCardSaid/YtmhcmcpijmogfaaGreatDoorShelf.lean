/-
  DERIVED: THE SHELF's CONTRACTS AT THIS DUMP, IN PLAIN WORDS (tools/lay-plain.mjs out of 'YtmhcmcpijmogfaaGreatDoorShelfT.lean', which tools/lay-shelf.mjs wrote): THE SAME DECLARATIONS UNDER THE SAME NAMES: 'import', 'namespace', 'open', 'def', 'theorem' AND NOTHING ELSE: no command of the shelf's: FOR A HAND-IN. Each laying: the table of numbers ('.._ren') and one theorem, a field a fact of the dump's own or the kernel's comparison; each contract: ONE APPLICATION.
-/
import Derived.Shelf.Strings.Builder1
import Derived.Shelf.Strings.Builder2
import Derived.Shelf.Strings.OnBuilder
import Derived.Shelf.Small.Strs
import Derived.Shelf.Strings.BuilderF
import Derived.Shelf.Strings.BuilderK
import Derived.Shelf.Utf8.RuneCount
import Derived.Shelf.Strings.Builder2Cap
import Derived.Shelf.Strconv.Atoi
import Derived.Shelf.Strconv.Itoa0
import Derived.Shelf.Strconv.Itoa1
import Derived.Shelf.LaysM
import Derived.Shelf.Strconv.Itoa2
import Derived.Shelf.Strconv.Itoa3
import Derived.Shelf.Strconv.AtoiErrFast
import Derived.Shelf.Strconv.ParseIntEmpty
import Derived.Shelf.Strconv.AtoiFail
import Derived.Shelf.Strconv.Clone
import Derived.Shelf.Strconv.SyntaxError
import Derived.Shelf.LaysC
import Derived.Shelf.Strconv.ToError
import Derived.Shelf.Strconv.AtoiErr
import Derived.Shelf.Strconv.Lower
import Derived.Shelf.Strconv.ParseUint10
import Derived.Shelf.Strconv.ParseUint10Empty
import Derived.Shelf.Strconv.ParseUint10Any
import Derived.Shelf.Strconv.ParseInt10
import Derived.Shelf.Strconv.AtoiLong
import Derived.Shelf.Strconv.AtoiInnerAll
import Derived.Shelf.Strconv.RangeError
import Derived.Shelf.Strconv.ToErrorRange
import Derived.Shelf.Strconv.AtoiAll
import Derived.Shelf.Strconv.ErrVarAll
import Derived.Shelf.Strconv.ParseUintEmpty
import Derived.Shelf.Strconv.ParseUint10b64
import Derived.Shelf.Strconv.ParseUint10b32
import Derived.Shelf.Strconv.ParseUint10b16
import Derived.Shelf.Strconv.ParseUint10b8
import Derived.Shelf.Strconv.ParseUint10At
import Derived.Shelf.Strings.Search1
import Derived.Shelf.Strings.Search2
import Derived.Shelf.Strings.Search3
import Derived.Shelf.Strings.Count
import Derived.Shelf.Strings.Shaped
import Derived.Shelf.Strings.Prefix
import Derived.Shelf.Strings.Split
import Derived.Shelf.Strings.SplitShaped
import Derived.Shelf.Unicode.Decode
import Derived.Shelf.Strings.RuneCount
import Derived.Shelf.Strings.Explode
import Derived.Shelf.Unicode.DecodeSlow
import Derived.Shelf.Unicode.DecodeAny
import Derived.Shelf.Strings.BuilderCap
import Derived.Shelf.Slices.Turned
import Derived.Shelf.Slices.Equal
import Derived.Shelf.Slices.Empties2
import Derived.Test.YtmhcmcpijmogfaaGreatDoorProg
namespace Go.Proofs
open Go.Shelf
def Tryz.lays156_ren : Go.Shelf.Ren := ⟨fun | 156 => 94 | 165 => 147 | 166 => 148 | 169 => 149 | 240 => 179 | 241 => 180 | 276 => 191 | 277 => 192 | n => n, fun | 31 => 23 | 9 => 9 | 3 => 3 | 4 => 4 | 0 => 0 | 20 => 20 | 72 => 219 | 76 => 223 | 70 => 217 | 37 => 45 | 75 => 222 | 127 => 249 | 164 => 258 | 5 => 5 | 80 => 225 | n => n, fun | n => n⟩
theorem Tryz.lays156 : Go.Proofs.Lays.n156 Tryz.prog Tryz.lays156_ren := {
  mixed := by kernel_rfl
  f156 := Tryz.func94.trans (congrArg some (by kernel_rfl))
  f165 := Tryz.func147.trans (congrArg some (by kernel_rfl))
  f166 := Tryz.func148.trans (congrArg some (by kernel_rfl))
  f169 := Tryz.func149.trans (congrArg some (by kernel_rfl))
  f240 := Tryz.func179.trans (congrArg some (by kernel_rfl))
  f241 := Tryz.func180.trans (congrArg some (by kernel_rfl))
  f276 := Tryz.func191.trans (congrArg some (by kernel_rfl))
  f277 := Tryz.func192.trans (congrArg some (by kernel_rfl))
  t0 := Tryz.underlying0
  a0 := Tryz.isAgg0
  z0 := Tryz.sizeOf0
  v0 := Tryz.zeroValue0
  t3 := Tryz.underlying3
  a3 := Tryz.isAgg3
  z3 := Tryz.sizeOf3
  v3 := Tryz.zeroValue3
  t4 := Tryz.underlying4
  a4 := Tryz.isAgg4
  z4 := Tryz.sizeOf4
  v4 := Tryz.zeroValue4
  t9 := Tryz.underlying9
  a9 := Tryz.isAgg9
  z9 := Tryz.sizeOf9
  v9 := Tryz.zeroValue9
  t20 := Tryz.underlying20
  a20 := Tryz.isAgg20
  z20 := Tryz.sizeOf20
  v20 := Tryz.zeroValue20
  t31 := Tryz.underlying23
  a31 := Tryz.isAgg23
  z31 := Tryz.sizeOf23
  v31 := Tryz.zeroValue23
  t37 := Tryz.underlying45
  a37 := Tryz.isAgg45
  z37 := Tryz.sizeOf45
  v37 := Tryz.zeroValue45
  t70 := Tryz.underlying217
  a70 := Tryz.isAgg217
  z70 := Tryz.sizeOf217
  v70 := Tryz.zeroValue217
  t72 := Tryz.underlying219
  a72 := Tryz.isAgg219
  z72 := Tryz.sizeOf219
  v72 := Tryz.zeroValue219
  t75 := Tryz.underlying222
  a75 := Tryz.isAgg222
  z75 := Tryz.sizeOf222
  v75 := Tryz.zeroValue222
  t76 := Tryz.underlying223
  a76 := Tryz.isAgg223
  z76 := Tryz.sizeOf223
  v76 := Tryz.zeroValue223
  t127 := Tryz.underlying249
  a127 := Tryz.isAgg249
  z127 := Tryz.sizeOf249
  v127 := Tryz.zeroValue249
  t164 := Tryz.underlying258
  a164 := Tryz.isAgg258
  z164 := Tryz.sizeOf258
  v164 := Tryz.zeroValue258 }
theorem Tryz.Builder_Extra_156 : Builder.Extra Tryz.prog Tryz.lays156_ren := {
  sizeBuilder := by kernel_rfl
  liesBuilder := by kernel_rfl
  t5 := Tryz.underlying5
  a5 := Tryz.isAgg5
  z5 := Tryz.sizeOf5
  v5 := Tryz.zeroValue5
  infoByte := by kernel_rfl
  cellsByte := by kernel_rfl
  sizeByte := by kernel_rfl
  neB5 := by decide }
open Go.RowKit in
/-- No element: the empty string; the world is as it was. (Whatever the slice's address and capacity: a nil slice too.) (LAID: no walk: one application.) -/
theorem Tryz.strings_Join_none (a : Option Addr) (c : Nat) (sep : ByteArray) (w : World) :
    Calls Tryz.prog 94 #[.slice a 0 c, .string sep] w fun e w' => e = .returned (.string ⟨#[]⟩) ∧ w' = w := Any.strings_Join_none Tryz.lays156 Tryz.Builder_Extra_156 a c sep w
open Go.RowKit in
/-- strings.Join: "Join concatenates the elements of its first argument to create a single string. The separator string sep is placed between elements in the resulting string.": HOWEVER MANY ELEMENTS. Below the heap's end the world is as it was. (LAID: no walk: one application.) -/
theorem Tryz.strings_Join (bk o c : Nat) (xs : List ByteArray) (sep : ByteArray) (w : World) (hcells : ∀ (j : Nat) x, xs[j]? = some x → w.cell? ⟨bk, o + j, none⟩ = some (.string x)) (hbk : bk < w.heap.size) (hN : xs.length ≤ 140737488355328) (hcap : xs.length ≤ c) (hlen : (Lib.join (xs.map (·.data.toList)) sep.data.toList).length ≤ 140737488355328) :
    Calls Tryz.prog 94 #[.slice (some ⟨bk, o, none⟩) xs.length c, .string sep] w fun e w' => e = .returned (.string ⟨(Lib.join (xs.map (·.data.toList)) sep.data.toList).toArray⟩) ∧ Below w.heap.size w w' := Any.strings_Join Tryz.lays156 Tryz.Builder_Extra_156 bk o c xs sep w hcells hbk hN hcap hlen
def Tryz.lays106_ren : Go.Shelf.Ren := ⟨fun | 106 => 186 | 213 => 199 | 265 => 215 | n => n, fun | 9 => 9 | 3 => 3 | n => n, fun | n => n⟩
theorem Tryz.lays106 : Go.Proofs.Lays.n106 Tryz.prog Tryz.lays106_ren := {
  mixed := by kernel_rfl
  f106 := Tryz.func186.trans (congrArg some (by kernel_rfl))
  f213 := Tryz.func199.trans (congrArg some (by kernel_rfl))
  f265 := Tryz.func215.trans (congrArg some (by kernel_rfl))
  t3 := Tryz.underlying3
  a3 := Tryz.isAgg3
  z3 := Tryz.sizeOf3
  v3 := Tryz.zeroValue3
  t9 := Tryz.underlying9
  a9 := Tryz.isAgg9
  z9 := Tryz.sizeOf9
  v9 := Tryz.zeroValue9 }
open Go.RowKit in
/-- strings.Compare: "Compare returns an integer comparing two strings lexicographically. The result will be 0 if a == b, -1 if a < b, and +1 if a > b.": IT RETURNS 'Lib.compareBytes a b'; the world is as it was. (LAID: no walk: one application.) -/
theorem Tryz.strings_Compare (a b : ByteArray) (w : World) :
    Calls Tryz.prog 186 #[.string a, .string b] w fun e w' => e = .returned (.int .i64 (Lib.compareBytes a.data.toList b.data.toList)) ∧ w' = w := Any.strings_Compare Tryz.lays106 a b w
def Tryz.laysM171_ren : Go.Shelf.Ren := ⟨fun | 171 => 150 | 243 => 181 | 246 => 193 | 283 => 202 | 284 => 203 | 285 => 204 | 286 => 205 | 129 => 221 | 317 => 220 | 318 => 222 | 319 => 223 | 320 => 224 | 337 => 233 | 338 => 234 | n => n, fun | 3 => 3 | 9 => 9 | 2 => 2 | 4 => 4 | 171 => 264 | 0 => 0 | 53 => 61 | 37 => 45 | 5 => 5 | 173 => 267 | 212 => 283 | 51 => 284 | 20 => 20 | 213 => 285 | 46 => 170 | 232 => 304 | 233 => 305 | n => n, fun | 17 => 2 | 18 => 7 | 19 => 8 | n => n⟩
theorem Tryz.laysM171 : Go.Proofs.LaysM.n171 Tryz.prog Tryz.laysM171_ren := {
  mixed := by kernel_rfl
  f129 := Tryz.func221.trans (congrArg some (by kernel_rfl))
  f171 := Tryz.func150.trans (congrArg some (by kernel_rfl))
  f243 := Tryz.func181.trans (congrArg some (by kernel_rfl))
  f246 := Tryz.func193.trans (congrArg some (by kernel_rfl))
  f283 := Tryz.func202.trans (congrArg some (by kernel_rfl))
  f284 := Tryz.func203.trans (congrArg some (by kernel_rfl))
  f285 := Tryz.func204.trans (congrArg some (by kernel_rfl))
  f286 := Tryz.func205.trans (congrArg some (by kernel_rfl))
  f317 := Tryz.func220.trans (congrArg some (by kernel_rfl))
  f318 := Tryz.func222.trans (congrArg some (by kernel_rfl))
  f319 := Tryz.func223.trans (congrArg some (by kernel_rfl))
  f320 := Tryz.func224.trans (congrArg some (by kernel_rfl))
  f337 := Tryz.func233.trans (congrArg some (by kernel_rfl))
  f338 := Tryz.func234.trans (congrArg some (by kernel_rfl))
  t0 := Tryz.underlying0
  a0 := Tryz.isAgg0
  z0 := Tryz.sizeOf0
  v0 := Tryz.zeroValue0
  t2 := Tryz.underlying2
  a2 := Tryz.isAgg2
  z2 := Tryz.sizeOf2
  v2 := Tryz.zeroValue2
  t3 := Tryz.underlying3
  a3 := Tryz.isAgg3
  z3 := Tryz.sizeOf3
  v3 := Tryz.zeroValue3
  t4 := Tryz.underlying4
  a4 := Tryz.isAgg4
  z4 := Tryz.sizeOf4
  v4 := Tryz.zeroValue4
  t5 := Tryz.underlying5
  a5 := Tryz.isAgg5
  z5 := Tryz.sizeOf5
  v5 := Tryz.zeroValue5
  t9 := Tryz.underlying9
  a9 := Tryz.isAgg9
  z9 := Tryz.sizeOf9
  v9 := Tryz.zeroValue9
  t20 := Tryz.underlying20
  a20 := Tryz.isAgg20
  z20 := Tryz.sizeOf20
  v20 := Tryz.zeroValue20
  t37 := Tryz.underlying45
  a37 := Tryz.isAgg45
  z37 := Tryz.sizeOf45
  v37 := Tryz.zeroValue45
  t46 := Tryz.underlying170
  a46 := Tryz.isAgg170
  z46 := Tryz.sizeOf170
  v46 := Tryz.zeroValue170
  t51 := Tryz.underlying284
  a51 := Tryz.isAgg284
  z51 := Tryz.sizeOf284
  v51 := Tryz.zeroValue284
  t53 := Tryz.underlying61
  a53 := Tryz.isAgg61
  z53 := Tryz.sizeOf61
  v53 := Tryz.zeroValue61
  t171 := Tryz.underlying264
  a171 := Tryz.isAgg264
  z171 := Tryz.sizeOf264
  v171 := Tryz.zeroValue264
  t173 := Tryz.underlying267
  a173 := Tryz.isAgg267
  z173 := Tryz.sizeOf267
  v173 := Tryz.zeroValue267
  t212 := Tryz.underlying283
  a212 := Tryz.isAgg283
  z212 := Tryz.sizeOf283
  v212 := Tryz.zeroValue283
  t213 := Tryz.underlying285
  a213 := Tryz.isAgg285
  z213 := Tryz.sizeOf285
  t232 := Tryz.underlying304
  a232 := Tryz.isAgg304
  z232 := Tryz.sizeOf304
  v232 := Tryz.zeroValue304
  t233 := Tryz.underlying305
  a233 := Tryz.isAgg305
  z233 := Tryz.sizeOf305
  v233 := Tryz.zeroValue305
  g17 := by kernel_rfl
  g18 := by kernel_rfl
  g19 := by kernel_rfl
  i0 := by kernel_rfl
  i2 := by kernel_rfl
  i3 := by kernel_rfl
  i4 := by kernel_rfl
  i5 := by kernel_rfl
  i9 := by kernel_rfl
  i20 := by kernel_rfl
  i37 := by kernel_rfl
  i46 := by kernel_rfl
  i51 := by kernel_rfl
  i53 := by kernel_rfl
  i171 := by kernel_rfl
  i173 := by kernel_rfl
  i212 := by kernel_rfl
  i232 := by kernel_rfl
  i233 := by kernel_rfl
  m17 := by kernel_rfl
  m18 := by kernel_rfl
  m19 := by kernel_rfl }
open Go.RowKit Go.Sort Go.Lib in
/-- strconv.Itoa: "Itoa is equivalent to FormatInt(int64(i), 10).": i's DECIMAL NUMERAL ('Lib.itoa': a '-' where i is negative, then the digits), FOR EVERY int. The world behind the call: the world before it, new blocks behind the heap (the library's 'var a [24]byte'), draws. (LAID: no walk: one application.) -/
theorem Tryz.strconv_Itoa (n : Int) (h0 : -9223372036854775808 ≤ n) (h1 : n ≤ 9223372036854775807) (w : World) (htab : Lib.TabIs Tryz.prog w "internal/strconv.uint64pow10" .u64 Lib.pow10Tab) :
    Calls Tryz.prog 150 #[.int .i64 n] w fun e w' => e = .returned (.string ⟨(Lib.itoa n).toArray⟩) ∧ ∃ k os, w' = grow (w.drewN k) os := Any.strconv_Itoa Tryz.laysM171 n h0 h1 w htab
def Tryz.laysC172_ren : Go.Shelf.Ren := ⟨fun | 172 => 184 | 244 => 197 | 245 => 198 | 247 => 210 | 279 => 211 | 280 => 212 | 281 => 213 | 282 => 214 | 287 => 230 | 316 => 231 | 171 => 150 | 205 => 232 | 321 => 237 | 322 => 238 | 243 => 181 | 246 => 193 | 283 => 202 | 284 => 203 | 285 => 204 | 286 => 205 | 129 => 221 | 317 => 220 | 318 => 222 | 319 => 223 | 320 => 224 | 337 => 233 | 338 => 234 | n => n, fun | 9 => 9 | 3 => 3 | 75 => 222 | 76 => 223 | 4 => 4 | 5 => 5 | 167 => 273 | 37 => 45 | 0 => 0 | 85 => 274 | 2 => 2 | 168 => 276 | 53 => 61 | 175 => 288 | 46 => 170 | 210 => 291 | 127 => 249 | 145 => 303 | 143 => 301 | 21 => 21 | 171 => 264 | 173 => 267 | 212 => 283 | 51 => 284 | 20 => 20 | 213 => 285 | 232 => 304 | 233 => 305 | 80 => 225 | n => n, fun | 15 => 3 | 16 => 4 | 17 => 2 | 18 => 7 | 19 => 8 | n => n⟩
theorem Tryz.laysC172 : Go.Proofs.LaysC.n172 Tryz.prog Tryz.laysC172_ren := {
  mixed := by kernel_rfl
  f129 := Tryz.func221.trans (congrArg some (by kernel_rfl))
  f171 := Tryz.func150.trans (congrArg some (by kernel_rfl))
  f172 := Tryz.func184.trans (congrArg some (by kernel_rfl))
  f205 := Tryz.func232.trans (congrArg some (by kernel_rfl))
  f243 := Tryz.func181.trans (congrArg some (by kernel_rfl))
  f244 := Tryz.func197.trans (congrArg some (by kernel_rfl))
  f245 := Tryz.func198.trans (congrArg some (by kernel_rfl))
  f246 := Tryz.func193.trans (congrArg some (by kernel_rfl))
  f247 := Tryz.func210.trans (congrArg some (by kernel_rfl))
  f279 := Tryz.func211.trans (congrArg some (by kernel_rfl))
  f280 := Tryz.func212.trans (congrArg some (by kernel_rfl))
  f281 := Tryz.func213.trans (congrArg some (by kernel_rfl))
  f282 := Tryz.func214.trans (congrArg some (by kernel_rfl))
  f283 := Tryz.func202.trans (congrArg some (by kernel_rfl))
  f284 := Tryz.func203.trans (congrArg some (by kernel_rfl))
  f285 := Tryz.func204.trans (congrArg some (by kernel_rfl))
  f286 := Tryz.func205.trans (congrArg some (by kernel_rfl))
  f287 := Tryz.func230.trans (congrArg some (by kernel_rfl))
  f316 := Tryz.func231.trans (congrArg some (by kernel_rfl))
  f317 := Tryz.func220.trans (congrArg some (by kernel_rfl))
  f318 := Tryz.func222.trans (congrArg some (by kernel_rfl))
  f319 := Tryz.func223.trans (congrArg some (by kernel_rfl))
  f320 := Tryz.func224.trans (congrArg some (by kernel_rfl))
  f321 := Tryz.func237.trans (congrArg some (by kernel_rfl))
  f322 := Tryz.func238.trans (congrArg some (by kernel_rfl))
  f337 := Tryz.func233.trans (congrArg some (by kernel_rfl))
  f338 := Tryz.func234.trans (congrArg some (by kernel_rfl))
  t0 := Tryz.underlying0
  a0 := Tryz.isAgg0
  z0 := Tryz.sizeOf0
  v0 := Tryz.zeroValue0
  t2 := Tryz.underlying2
  a2 := Tryz.isAgg2
  z2 := Tryz.sizeOf2
  v2 := Tryz.zeroValue2
  t3 := Tryz.underlying3
  a3 := Tryz.isAgg3
  z3 := Tryz.sizeOf3
  v3 := Tryz.zeroValue3
  t4 := Tryz.underlying4
  a4 := Tryz.isAgg4
  z4 := Tryz.sizeOf4
  v4 := Tryz.zeroValue4
  t5 := Tryz.underlying5
  a5 := Tryz.isAgg5
  z5 := Tryz.sizeOf5
  v5 := Tryz.zeroValue5
  t9 := Tryz.underlying9
  a9 := Tryz.isAgg9
  z9 := Tryz.sizeOf9
  v9 := Tryz.zeroValue9
  t20 := Tryz.underlying20
  a20 := Tryz.isAgg20
  z20 := Tryz.sizeOf20
  v20 := Tryz.zeroValue20
  t21 := Tryz.underlying21
  a21 := Tryz.isAgg21
  z21 := Tryz.sizeOf21
  v21 := Tryz.zeroValue21
  t37 := Tryz.underlying45
  a37 := Tryz.isAgg45
  z37 := Tryz.sizeOf45
  v37 := Tryz.zeroValue45
  t46 := Tryz.underlying170
  a46 := Tryz.isAgg170
  z46 := Tryz.sizeOf170
  v46 := Tryz.zeroValue170
  t51 := Tryz.underlying284
  a51 := Tryz.isAgg284
  z51 := Tryz.sizeOf284
  v51 := Tryz.zeroValue284
  t53 := Tryz.underlying61
  a53 := Tryz.isAgg61
  z53 := Tryz.sizeOf61
  v53 := Tryz.zeroValue61
  t75 := Tryz.underlying222
  a75 := Tryz.isAgg222
  z75 := Tryz.sizeOf222
  v75 := Tryz.zeroValue222
  t76 := Tryz.underlying223
  a76 := Tryz.isAgg223
  z76 := Tryz.sizeOf223
  v76 := Tryz.zeroValue223
  t85 := Tryz.underlying274
  a85 := Tryz.isAgg274
  z85 := Tryz.sizeOf274
  v85 := Tryz.zeroValue274
  t127 := Tryz.underlying249
  a127 := Tryz.isAgg249
  z127 := Tryz.sizeOf249
  v127 := Tryz.zeroValue249
  t143 := Tryz.underlying301
  a143 := Tryz.isAgg301
  z143 := Tryz.sizeOf301
  v143 := Tryz.zeroValue301
  t145 := Tryz.underlying303
  a145 := Tryz.isAgg303
  z145 := Tryz.sizeOf303
  v145 := Tryz.zeroValue303
  t167 := Tryz.underlying273
  a167 := Tryz.isAgg273
  z167 := Tryz.sizeOf273
  v167 := Tryz.zeroValue273
  t168 := Tryz.underlying276
  a168 := Tryz.isAgg276
  z168 := Tryz.sizeOf276
  v168 := Tryz.zeroValue276
  t171 := Tryz.underlying264
  a171 := Tryz.isAgg264
  z171 := Tryz.sizeOf264
  v171 := Tryz.zeroValue264
  t173 := Tryz.underlying267
  a173 := Tryz.isAgg267
  z173 := Tryz.sizeOf267
  v173 := Tryz.zeroValue267
  t175 := Tryz.underlying288
  a175 := Tryz.isAgg288
  z175 := Tryz.sizeOf288
  v175 := Tryz.zeroValue288
  t210 := Tryz.underlying291
  a210 := Tryz.isAgg291
  z210 := Tryz.sizeOf291
  v210 := Tryz.zeroValue291
  t212 := Tryz.underlying283
  a212 := Tryz.isAgg283
  z212 := Tryz.sizeOf283
  v212 := Tryz.zeroValue283
  t213 := Tryz.underlying285
  a213 := Tryz.isAgg285
  z213 := Tryz.sizeOf285
  t232 := Tryz.underlying304
  a232 := Tryz.isAgg304
  z232 := Tryz.sizeOf304
  v232 := Tryz.zeroValue304
  t233 := Tryz.underlying305
  a233 := Tryz.isAgg305
  z233 := Tryz.sizeOf305
  v233 := Tryz.zeroValue305
  g15 := by kernel_rfl
  g16 := by kernel_rfl
  g17 := by kernel_rfl
  g18 := by kernel_rfl
  g19 := by kernel_rfl
  t80 := Tryz.underlying225
  a80 := Tryz.isAgg225
  z80 := Tryz.sizeOf225
  v80 := Tryz.zeroValue225
  i0 := by kernel_rfl
  i2 := by kernel_rfl
  i3 := by kernel_rfl
  i4 := by kernel_rfl
  i5 := by kernel_rfl
  i9 := by kernel_rfl
  i20 := by kernel_rfl
  i21 := by kernel_rfl
  i37 := by kernel_rfl
  i46 := by kernel_rfl
  i51 := by kernel_rfl
  i53 := by kernel_rfl
  i75 := by kernel_rfl
  i76 := by kernel_rfl
  i80 := by kernel_rfl
  i85 := by kernel_rfl
  i127 := by kernel_rfl
  i143 := by kernel_rfl
  i145 := by kernel_rfl
  i167 := by kernel_rfl
  i168 := by kernel_rfl
  i171 := by kernel_rfl
  i173 := by kernel_rfl
  i175 := by kernel_rfl
  i210 := by kernel_rfl
  i212 := by kernel_rfl
  i232 := by kernel_rfl
  i233 := by kernel_rfl
  m15 := by kernel_rfl
  m16 := by kernel_rfl
  m17 := by kernel_rfl
  m18 := by kernel_rfl
  m19 := by kernel_rfl
  c0 := by kernel_rfl
  c2 := by kernel_rfl
  c3 := by kernel_rfl
  c4 := by kernel_rfl
  c5 := by kernel_rfl
  c9 := by kernel_rfl
  c20 := by kernel_rfl
  c21 := by kernel_rfl
  c37 := by kernel_rfl
  c46 := by kernel_rfl
  c51 := by kernel_rfl
  c53 := by kernel_rfl
  c75 := by kernel_rfl
  c76 := by kernel_rfl
  c80 := by kernel_rfl
  c85 := by kernel_rfl
  c127 := by kernel_rfl
  c143 := by kernel_rfl
  c145 := by kernel_rfl
  c167 := by kernel_rfl
  c168 := by kernel_rfl
  c171 := by kernel_rfl
  c173 := by kernel_rfl
  c175 := by kernel_rfl
  c210 := by kernel_rfl
  c212 := by kernel_rfl
  c213 := by kernel_rfl
  c232 := by kernel_rfl
  c233 := by kernel_rfl }
open Go.RowKit in
/-- strconv.Atoi, AT EVERY STRING THAT SPELLS AN int ('Lib.atoiAll .. = .ok v'; of whatever length: leading zeros count): v, AND NO ERROR. The world: as it was, or with the one new row that '[]byte(..)' lays. (LAID: no walk: one application.) -/
theorem Tryz.strconv_Atoi_ok (s : ByteArray) (hmax : s.size ≤ 9223372036854775806) (v : Int) (h : Lib.atoiAll s.data.toList = .ok v) (w : World) :
    Calls Tryz.prog 184 #[.string s] w fun e w' => e = .returned (.tuple #[.int .i64 v, .nilIface]) ∧ (w' = w ∨ ∃ t, w' = Lib.bytesWorld w 5 t) := Any.strconv_Atoi_ok Tryz.laysC172 s hmax v h w
def Tryz.lays146_ren : Go.Shelf.Ren := ⟨fun | 146 => 154 | 221 => 182 | 268 => 194 | 138 => 195 | 143 => 196 | 195 => 206 | 197 => 207 | 218 => 208 | 219 => 209 | 260 => 225 | 217 => 226 | 225 => 227 | 224 => 228 | 267 => 229 | 266 => 235 | 314 => 236 | n => n, fun | 9 => 9 | 31 => 23 | 3 => 3 | 4 => 4 | 0 => 0 | 105 => 270 | 21 => 21 | 5 => 5 | 46 => 170 | 119 => 294 | 139 => 297 | 138 => 296 | 146 => 298 | 51 => 284 | n => n, fun | 1 => 1 | 3 => 5 | 4 => 6 | n => n⟩
theorem Tryz.lays146 : Go.Proofs.Lays.n146 Tryz.prog Tryz.lays146_ren := {
  mixed := by kernel_rfl
  f138 := Tryz.func195.trans (congrArg some (by kernel_rfl))
  f143 := Tryz.func196.trans (congrArg some (by kernel_rfl))
  f146 := Tryz.func154.trans (congrArg some (by kernel_rfl))
  f195 := Tryz.func206.trans (congrArg some (by kernel_rfl))
  f197 := Tryz.func207.trans (congrArg some (by kernel_rfl))
  f217 := Tryz.func226.trans (congrArg some (by kernel_rfl))
  f218 := Tryz.func208.trans (congrArg some (by kernel_rfl))
  f219 := Tryz.func209.trans (congrArg some (by kernel_rfl))
  f221 := Tryz.func182.trans (congrArg some (by kernel_rfl))
  f224 := Tryz.func228.trans (congrArg some (by kernel_rfl))
  f225 := Tryz.func227.trans (congrArg some (by kernel_rfl))
  f260 := Tryz.func225.trans (congrArg some (by kernel_rfl))
  f266 := Tryz.func235.trans (congrArg some (by kernel_rfl))
  f267 := Tryz.func229.trans (congrArg some (by kernel_rfl))
  f268 := Tryz.func194.trans (congrArg some (by kernel_rfl))
  f314 := Tryz.func236.trans (congrArg some (by kernel_rfl))
  t0 := Tryz.underlying0
  a0 := Tryz.isAgg0
  z0 := Tryz.sizeOf0
  v0 := Tryz.zeroValue0
  t3 := Tryz.underlying3
  a3 := Tryz.isAgg3
  z3 := Tryz.sizeOf3
  v3 := Tryz.zeroValue3
  t4 := Tryz.underlying4
  a4 := Tryz.isAgg4
  z4 := Tryz.sizeOf4
  v4 := Tryz.zeroValue4
  t5 := Tryz.underlying5
  a5 := Tryz.isAgg5
  z5 := Tryz.sizeOf5
  v5 := Tryz.zeroValue5
  t9 := Tryz.underlying9
  a9 := Tryz.isAgg9
  z9 := Tryz.sizeOf9
  v9 := Tryz.zeroValue9
  t21 := Tryz.underlying21
  a21 := Tryz.isAgg21
  z21 := Tryz.sizeOf21
  v21 := Tryz.zeroValue21
  t31 := Tryz.underlying23
  a31 := Tryz.isAgg23
  z31 := Tryz.sizeOf23
  v31 := Tryz.zeroValue23
  t46 := Tryz.underlying170
  a46 := Tryz.isAgg170
  z46 := Tryz.sizeOf170
  v46 := Tryz.zeroValue170
  t51 := Tryz.underlying284
  a51 := Tryz.isAgg284
  z51 := Tryz.sizeOf284
  v51 := Tryz.zeroValue284
  t105 := Tryz.underlying270
  a105 := Tryz.isAgg270
  z105 := Tryz.sizeOf270
  v105 := Tryz.zeroValue270
  t119 := Tryz.underlying294
  a119 := Tryz.isAgg294
  z119 := Tryz.sizeOf294
  t138 := Tryz.underlying296
  a138 := Tryz.isAgg296
  z138 := Tryz.sizeOf296
  v138 := Tryz.zeroValue296
  t139 := Tryz.underlying297
  a139 := Tryz.isAgg297
  z139 := Tryz.sizeOf297
  v139 := Tryz.zeroValue297
  t146 := Tryz.underlying298
  a146 := Tryz.isAgg298
  z146 := Tryz.sizeOf298
  v146 := Tryz.zeroValue298
  g1 := by kernel_rfl
  g3 := by kernel_rfl
  g4 := by kernel_rfl }
open Go.RowKit Go.Lib in
/-- strings.Split. (LAID: no walk: one application.) -/
theorem Tryz.strings_Split (s sep : ByteArray) (m : Int) (w : World) (hs : s.size < 4294967281) (hm : w.cell? ⟨1, 0, none⟩ = some (.int .i64 m)) (h1 : 1 ≤ sep.size) :
    Calls Tryz.prog 154 #[.string s, .string sep] w fun e w' =>
      e = .returned (.slice (some ⟨w.heap.size, 0, none⟩) (Lib.countB s sep + 1) (Lib.countB s sep + 1)) ∧ w' = w.alloc (.cells ((Lib.splitB sep 0 (Lib.countB s sep) s).map Value.string).toArray 9) := Any.strings_Split Tryz.lays146 (by kernel_rfl) s sep m w hs hm h1
def Tryz.laysM146_ren : Go.Shelf.Ren := ⟨fun | 146 => 154 | 221 => 182 | 268 => 194 | 138 => 195 | 143 => 196 | 195 => 206 | 197 => 207 | 218 => 208 | 219 => 209 | 260 => 225 | 217 => 226 | 225 => 227 | 224 => 228 | 267 => 229 | 266 => 235 | 314 => 236 | n => n, fun | 9 => 9 | 31 => 23 | 3 => 3 | 4 => 4 | 0 => 0 | 105 => 270 | 21 => 21 | 5 => 5 | 46 => 170 | 119 => 294 | 139 => 297 | 138 => 296 | 146 => 298 | 51 => 284 | n => n, fun | 1 => 1 | 3 => 5 | 4 => 6 | n => n⟩
theorem Tryz.laysM146 : Go.Proofs.LaysM.n146 Tryz.prog Tryz.laysM146_ren := {
  mixed := by kernel_rfl
  f138 := Tryz.func195.trans (congrArg some (by kernel_rfl))
  f143 := Tryz.func196.trans (congrArg some (by kernel_rfl))
  f146 := Tryz.func154.trans (congrArg some (by kernel_rfl))
  f195 := Tryz.func206.trans (congrArg some (by kernel_rfl))
  f197 := Tryz.func207.trans (congrArg some (by kernel_rfl))
  f217 := Tryz.func226.trans (congrArg some (by kernel_rfl))
  f218 := Tryz.func208.trans (congrArg some (by kernel_rfl))
  f219 := Tryz.func209.trans (congrArg some (by kernel_rfl))
  f221 := Tryz.func182.trans (congrArg some (by kernel_rfl))
  f224 := Tryz.func228.trans (congrArg some (by kernel_rfl))
  f225 := Tryz.func227.trans (congrArg some (by kernel_rfl))
  f260 := Tryz.func225.trans (congrArg some (by kernel_rfl))
  f266 := Tryz.func235.trans (congrArg some (by kernel_rfl))
  f267 := Tryz.func229.trans (congrArg some (by kernel_rfl))
  f268 := Tryz.func194.trans (congrArg some (by kernel_rfl))
  f314 := Tryz.func236.trans (congrArg some (by kernel_rfl))
  t0 := Tryz.underlying0
  a0 := Tryz.isAgg0
  z0 := Tryz.sizeOf0
  v0 := Tryz.zeroValue0
  t3 := Tryz.underlying3
  a3 := Tryz.isAgg3
  z3 := Tryz.sizeOf3
  v3 := Tryz.zeroValue3
  t4 := Tryz.underlying4
  a4 := Tryz.isAgg4
  z4 := Tryz.sizeOf4
  v4 := Tryz.zeroValue4
  t5 := Tryz.underlying5
  a5 := Tryz.isAgg5
  z5 := Tryz.sizeOf5
  v5 := Tryz.zeroValue5
  t9 := Tryz.underlying9
  a9 := Tryz.isAgg9
  z9 := Tryz.sizeOf9
  v9 := Tryz.zeroValue9
  t21 := Tryz.underlying21
  a21 := Tryz.isAgg21
  z21 := Tryz.sizeOf21
  v21 := Tryz.zeroValue21
  t31 := Tryz.underlying23
  a31 := Tryz.isAgg23
  z31 := Tryz.sizeOf23
  v31 := Tryz.zeroValue23
  t46 := Tryz.underlying170
  a46 := Tryz.isAgg170
  z46 := Tryz.sizeOf170
  v46 := Tryz.zeroValue170
  t51 := Tryz.underlying284
  a51 := Tryz.isAgg284
  z51 := Tryz.sizeOf284
  v51 := Tryz.zeroValue284
  t105 := Tryz.underlying270
  a105 := Tryz.isAgg270
  z105 := Tryz.sizeOf270
  v105 := Tryz.zeroValue270
  t119 := Tryz.underlying294
  a119 := Tryz.isAgg294
  z119 := Tryz.sizeOf294
  t138 := Tryz.underlying296
  a138 := Tryz.isAgg296
  z138 := Tryz.sizeOf296
  v138 := Tryz.zeroValue296
  t139 := Tryz.underlying297
  a139 := Tryz.isAgg297
  z139 := Tryz.sizeOf297
  v139 := Tryz.zeroValue297
  t146 := Tryz.underlying298
  a146 := Tryz.isAgg298
  z146 := Tryz.sizeOf298
  v146 := Tryz.zeroValue298
  g1 := by kernel_rfl
  g3 := by kernel_rfl
  g4 := by kernel_rfl
  i0 := by kernel_rfl
  i3 := by kernel_rfl
  i4 := by kernel_rfl
  i5 := by kernel_rfl
  i9 := by kernel_rfl
  i21 := by kernel_rfl
  i31 := by kernel_rfl
  i46 := by kernel_rfl
  i51 := by kernel_rfl
  i105 := by kernel_rfl
  i138 := by kernel_rfl
  i139 := by kernel_rfl
  i146 := by kernel_rfl
  m1 := by kernel_rfl
  s1_3 := fun w h => Go.Proofs.cell_of_shapedOpen_int (zero := #[.int .i64 0]) (t := 3) h (of_decide_eq_true (by kernel_rfl)) (by kernel_rfl) rfl (by kernel_rfl) (by kernel_rfl) Tryz.underlying3
  m3 := by kernel_rfl
  m4 := by kernel_rfl }
open Go.RowKit Go.Lib in
/-- strings.Split, sep not empty. (LAID: no walk: one application.) -/
theorem Tryz.strings_Split_shaped (s sep : ByteArray) (w : World) (h : w.ShapedOpen Tryz.prog) (hs : s.size < 4294967281) (h1 : 1 ≤ sep.size) :
    Calls Tryz.prog 154 #[.string s, .string sep] w fun e w' =>
      e = .returned (.slice (some ⟨w.heap.size, 0, none⟩) (Lib.countB s sep + 1) (Lib.countB s sep + 1)) ∧ w' = w.alloc (.cells ((Lib.splitB sep 0 (Lib.countB s sep) s).map Value.string).toArray 9) := Any.strings_Split_shaped Tryz.laysM146 s sep w h hs h1
end Go.Proofs
