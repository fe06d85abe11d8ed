/- Contracts of the kit at this dump: the print of its tools lay-shelf and lay-plain, pruned. -/
import Derived.Shelf.Small.Bits
import Derived.Shelf.Utf8.RuneCount
import Derived.Shelf.Strconv.Atoi
import Derived.Shelf.Strconv.Itoa0
import Derived.Shelf.Strconv.Itoa1
import Derived.Shelf.LaysM
import Derived.Shelf.Strconv.Itoa2
import Derived.Shelf.Strconv.Itoa3
import Derived.Shelf.Strconv.AtoiErrFast
import Derived.Shelf.Strconv.ParseIntEmpty
import Derived.Shelf.Strconv.AtoiFail
import Derived.Shelf.Strconv.Clone
import Derived.Shelf.Strconv.SyntaxError
import Derived.Shelf.LaysC
import Derived.Shelf.Strconv.ToError
import Derived.Shelf.Strconv.Lower
import Derived.Shelf.Strconv.ParseUint10
import Derived.Shelf.Strconv.ParseUint10Empty
import Derived.Shelf.Strconv.ParseUint10Any
import Derived.Shelf.Strconv.ParseInt10
import Derived.Shelf.Strconv.AtoiLong
import Derived.Shelf.Strconv.AtoiInnerAll
import Derived.Shelf.Strconv.RangeError
import Derived.Shelf.Strconv.ToErrorRange
import Derived.Shelf.Strconv.AtoiAll
import Derived.Shelf.Strings.Search1
import Derived.Shelf.Strings.Search2
import Derived.Shelf.Strings.Search3
import Derived.Shelf.Strings.Cut
import Derived.Shelf.Strings.Count
import Derived.Shelf.Strings.Shaped
import Derived.Shelf.Strings.Split
import Derived.Shelf.Strings.SplitShaped
import Derived.Shelf.Unicode.Decode
import Derived.Shelf.Strings.RuneCount
import Derived.Shelf.Strings.Explode
import Derived.Shelf.Unicode.DecodeSlow
import Derived.Shelf.Unicode.DecodeAny
import Derived.Ground.Names2Prog
import Derived.Shelf.Slices.Clone
import Derived.Shelf.Slices.SearchI
import Derived.Ground.SlgnProg
import Derived.Shelf.SlicesE.Clone
import Derived.Test.YteejmoldhbfdnaaGreatDoorProg
namespace Go.Proofs
open Go.Shelf
def Tryz.laysM171_ren : Go.Shelf.Ren := ⟨fun | 171 => 133 | 243 => 204 | 246 => 252 | 283 => 304 | 284 => 305 | 285 => 306 | 286 => 307 | 129 => 244 | 317 => 329 | 318 => 330 | 319 => 331 | 320 => 332 | 337 => 342 | 338 => 343 | n => n, fun | 3 => 3 | 9 => 9 | 2 => 2 | 4 => 4 | 171 => 368 | 0 => 0 | 53 => 319 | 37 => 29 | 5 => 5 | 173 => 370 | 212 => 392 | 51 => 317 | 20 => 20 | 213 => 393 | 46 => 275 | 232 => 407 | 233 => 408 | n => n, fun | 17 => 4 | 18 => 5 | 19 => 6 | n => n⟩
theorem Tryz.laysM171 : Go.Proofs.LaysM.n171 Tryz.prog Tryz.laysM171_ren := {
  mixed := by kernel_rfl
  f129 := Tryz.func244.trans (congrArg some (by kernel_rfl))
  f171 := Tryz.func133.trans (congrArg some (by kernel_rfl))
  f243 := Tryz.func204.trans (congrArg some (by kernel_rfl))
  f246 := Tryz.func252.trans (congrArg some (by kernel_rfl))
  f283 := Tryz.func304.trans (congrArg some (by kernel_rfl))
  f284 := Tryz.func305.trans (congrArg some (by kernel_rfl))
  f285 := Tryz.func306.trans (congrArg some (by kernel_rfl))
  f286 := Tryz.func307.trans (congrArg some (by kernel_rfl))
  f317 := Tryz.func329.trans (congrArg some (by kernel_rfl))
  f318 := Tryz.func330.trans (congrArg some (by kernel_rfl))
  f319 := Tryz.func331.trans (congrArg some (by kernel_rfl))
  f320 := Tryz.func332.trans (congrArg some (by kernel_rfl))
  f337 := Tryz.func342.trans (congrArg some (by kernel_rfl))
  f338 := Tryz.func343.trans (congrArg some (by kernel_rfl))
  t0 := Tryz.underlying0
  a0 := Tryz.isAgg0
  z0 := Tryz.sizeOf0
  v0 := Tryz.zeroValue0
  t2 := Tryz.underlying2
  a2 := Tryz.isAgg2
  z2 := Tryz.sizeOf2
  v2 := Tryz.zeroValue2
  t3 := Tryz.underlying3
  a3 := Tryz.isAgg3
  z3 := Tryz.sizeOf3
  v3 := Tryz.zeroValue3
  t4 := Tryz.underlying4
  a4 := Tryz.isAgg4
  z4 := Tryz.sizeOf4
  v4 := Tryz.zeroValue4
  t5 := Tryz.underlying5
  a5 := Tryz.isAgg5
  z5 := Tryz.sizeOf5
  v5 := Tryz.zeroValue5
  t9 := Tryz.underlying9
  a9 := Tryz.isAgg9
  z9 := Tryz.sizeOf9
  v9 := Tryz.zeroValue9
  t20 := Tryz.underlying20
  a20 := Tryz.isAgg20
  z20 := Tryz.sizeOf20
  v20 := Tryz.zeroValue20
  t37 := Tryz.underlying29
  a37 := Tryz.isAgg29
  z37 := Tryz.sizeOf29
  v37 := Tryz.zeroValue29
  t46 := Tryz.underlying275
  a46 := Tryz.isAgg275
  z46 := Tryz.sizeOf275
  v46 := Tryz.zeroValue275
  t51 := Tryz.underlying317
  a51 := Tryz.isAgg317
  z51 := Tryz.sizeOf317
  v51 := Tryz.zeroValue317
  t53 := Tryz.underlying319
  a53 := Tryz.isAgg319
  z53 := Tryz.sizeOf319
  v53 := Tryz.zeroValue319
  t171 := Tryz.underlying368
  a171 := Tryz.isAgg368
  z171 := Tryz.sizeOf368
  v171 := Tryz.zeroValue368
  t173 := Tryz.underlying370
  a173 := Tryz.isAgg370
  z173 := Tryz.sizeOf370
  v173 := Tryz.zeroValue370
  t212 := Tryz.underlying392
  a212 := Tryz.isAgg392
  z212 := Tryz.sizeOf392
  v212 := Tryz.zeroValue392
  t213 := Tryz.underlying393
  a213 := Tryz.isAgg393
  z213 := Tryz.sizeOf393
  t232 := Tryz.underlying407
  a232 := Tryz.isAgg407
  z232 := Tryz.sizeOf407
  v232 := Tryz.zeroValue407
  t233 := Tryz.underlying408
  a233 := Tryz.isAgg408
  z233 := Tryz.sizeOf408
  v233 := Tryz.zeroValue408
  g17 := by kernel_rfl
  g18 := by kernel_rfl
  g19 := by kernel_rfl
  i0 := by kernel_rfl
  i2 := by kernel_rfl
  i3 := by kernel_rfl
  i4 := by kernel_rfl
  i5 := by kernel_rfl
  i9 := by kernel_rfl
  i20 := by kernel_rfl
  i37 := by kernel_rfl
  i46 := by kernel_rfl
  i51 := by kernel_rfl
  i53 := by kernel_rfl
  i171 := by kernel_rfl
  i173 := by kernel_rfl
  i212 := by kernel_rfl
  i232 := by kernel_rfl
  i233 := by kernel_rfl
  m17 := by kernel_rfl
  m18 := by kernel_rfl
  m19 := by kernel_rfl }
open Go.RowKit Go.Sort Go.Lib in
/-- strconv.Itoa: "Itoa is equivalent to FormatInt(int64(i), 10).": i's DECIMAL NUMERAL ('Lib.itoa': a '-' where i is negative, then the digits), FOR EVERY int. The world behind the call: the world before it, new blocks behind the heap (the library's 'var a [24]byte'), draws. (LAID: no walk: one application.) -/
theorem Tryz.strconv_Itoa (n : Int) (h0 : -9223372036854775808 ≤ n) (h1 : n ≤ 9223372036854775807) (w : World) (htab : Lib.TabIs Tryz.prog w "internal/strconv.uint64pow10" .u64 Lib.pow10Tab) :
    Calls Tryz.prog 133 #[.int .i64 n] w fun e w' => e = .returned (.string ⟨(Lib.itoa n).toArray⟩) ∧ ∃ k os, w' = grow (w.drewN k) os := Any.strconv_Itoa Tryz.laysM171 n h0 h1 w htab
def Tryz.laysC172_ren : Go.Shelf.Ren := ⟨fun | 172 => 202 | 244 => 249 | 245 => 250 | 247 => 299 | 279 => 300 | 280 => 301 | 281 => 302 | 282 => 303 | 287 => 326 | 316 => 327 | 171 => 133 | 205 => 328 | 321 => 340 | 322 => 341 | 243 => 204 | 246 => 252 | 283 => 304 | 284 => 305 | 285 => 306 | 286 => 307 | 129 => 244 | 317 => 329 | 318 => 330 | 319 => 331 | 320 => 332 | 337 => 342 | 338 => 343 | n => n, fun | 9 => 9 | 3 => 3 | 75 => 283 | 76 => 284 | 4 => 4 | 5 => 5 | 167 => 362 | 37 => 29 | 0 => 0 | 85 => 363 | 2 => 2 | 168 => 365 | 53 => 319 | 175 => 385 | 46 => 275 | 210 => 389 | 127 => 403 | 145 => 406 | 143 => 404 | 21 => 21 | 171 => 368 | 173 => 370 | 212 => 392 | 51 => 317 | 20 => 20 | 213 => 393 | 232 => 407 | 233 => 408 | 80 => 244 | n => n, fun | 15 => 2 | 16 => 3 | 17 => 4 | 18 => 5 | 19 => 6 | n => n⟩
theorem Tryz.laysC172 : Go.Proofs.LaysC.n172 Tryz.prog Tryz.laysC172_ren := {
  mixed := by kernel_rfl
  f129 := Tryz.func244.trans (congrArg some (by kernel_rfl))
  f171 := Tryz.func133.trans (congrArg some (by kernel_rfl))
  f172 := Tryz.func202.trans (congrArg some (by kernel_rfl))
  f205 := Tryz.func328.trans (congrArg some (by kernel_rfl))
  f243 := Tryz.func204.trans (congrArg some (by kernel_rfl))
  f244 := Tryz.func249.trans (congrArg some (by kernel_rfl))
  f245 := Tryz.func250.trans (congrArg some (by kernel_rfl))
  f246 := Tryz.func252.trans (congrArg some (by kernel_rfl))
  f247 := Tryz.func299.trans (congrArg some (by kernel_rfl))
  f279 := Tryz.func300.trans (congrArg some (by kernel_rfl))
  f280 := Tryz.func301.trans (congrArg some (by kernel_rfl))
  f281 := Tryz.func302.trans (congrArg some (by kernel_rfl))
  f282 := Tryz.func303.trans (congrArg some (by kernel_rfl))
  f283 := Tryz.func304.trans (congrArg some (by kernel_rfl))
  f284 := Tryz.func305.trans (congrArg some (by kernel_rfl))
  f285 := Tryz.func306.trans (congrArg some (by kernel_rfl))
  f286 := Tryz.func307.trans (congrArg some (by kernel_rfl))
  f287 := Tryz.func326.trans (congrArg some (by kernel_rfl))
  f316 := Tryz.func327.trans (congrArg some (by kernel_rfl))
  f317 := Tryz.func329.trans (congrArg some (by kernel_rfl))
  f318 := Tryz.func330.trans (congrArg some (by kernel_rfl))
  f319 := Tryz.func331.trans (congrArg some (by kernel_rfl))
  f320 := Tryz.func332.trans (congrArg some (by kernel_rfl))
  f321 := Tryz.func340.trans (congrArg some (by kernel_rfl))
  f322 := Tryz.func341.trans (congrArg some (by kernel_rfl))
  f337 := Tryz.func342.trans (congrArg some (by kernel_rfl))
  f338 := Tryz.func343.trans (congrArg some (by kernel_rfl))
  t0 := Tryz.underlying0
  a0 := Tryz.isAgg0
  z0 := Tryz.sizeOf0
  v0 := Tryz.zeroValue0
  t2 := Tryz.underlying2
  a2 := Tryz.isAgg2
  z2 := Tryz.sizeOf2
  v2 := Tryz.zeroValue2
  t3 := Tryz.underlying3
  a3 := Tryz.isAgg3
  z3 := Tryz.sizeOf3
  v3 := Tryz.zeroValue3
  t4 := Tryz.underlying4
  a4 := Tryz.isAgg4
  z4 := Tryz.sizeOf4
  v4 := Tryz.zeroValue4
  t5 := Tryz.underlying5
  a5 := Tryz.isAgg5
  z5 := Tryz.sizeOf5
  v5 := Tryz.zeroValue5
  t9 := Tryz.underlying9
  a9 := Tryz.isAgg9
  z9 := Tryz.sizeOf9
  v9 := Tryz.zeroValue9
  t20 := Tryz.underlying20
  a20 := Tryz.isAgg20
  z20 := Tryz.sizeOf20
  v20 := Tryz.zeroValue20
  t21 := Tryz.underlying21
  a21 := Tryz.isAgg21
  z21 := Tryz.sizeOf21
  v21 := Tryz.zeroValue21
  t37 := Tryz.underlying29
  a37 := Tryz.isAgg29
  z37 := Tryz.sizeOf29
  v37 := Tryz.zeroValue29
  t46 := Tryz.underlying275
  a46 := Tryz.isAgg275
  z46 := Tryz.sizeOf275
  v46 := Tryz.zeroValue275
  t51 := Tryz.underlying317
  a51 := Tryz.isAgg317
  z51 := Tryz.sizeOf317
  v51 := Tryz.zeroValue317
  t53 := Tryz.underlying319
  a53 := Tryz.isAgg319
  z53 := Tryz.sizeOf319
  v53 := Tryz.zeroValue319
  t75 := Tryz.underlying283
  a75 := Tryz.isAgg283
  z75 := Tryz.sizeOf283
  v75 := Tryz.zeroValue283
  t76 := Tryz.underlying284
  a76 := Tryz.isAgg284
  z76 := Tryz.sizeOf284
  v76 := Tryz.zeroValue284
  t85 := Tryz.underlying363
  a85 := Tryz.isAgg363
  z85 := Tryz.sizeOf363
  v85 := Tryz.zeroValue363
  t127 := Tryz.underlying403
  a127 := Tryz.isAgg403
  z127 := Tryz.sizeOf403
  v127 := Tryz.zeroValue403
  t143 := Tryz.underlying404
  a143 := Tryz.isAgg404
  z143 := Tryz.sizeOf404
  v143 := Tryz.zeroValue404
  t145 := Tryz.underlying406
  a145 := Tryz.isAgg406
  z145 := Tryz.sizeOf406
  v145 := Tryz.zeroValue406
  t167 := Tryz.underlying362
  a167 := Tryz.isAgg362
  z167 := Tryz.sizeOf362
  v167 := Tryz.zeroValue362
  t168 := Tryz.underlying365
  a168 := Tryz.isAgg365
  z168 := Tryz.sizeOf365
  v168 := Tryz.zeroValue365
  t171 := Tryz.underlying368
  a171 := Tryz.isAgg368
  z171 := Tryz.sizeOf368
  v171 := Tryz.zeroValue368
  t173 := Tryz.underlying370
  a173 := Tryz.isAgg370
  z173 := Tryz.sizeOf370
  v173 := Tryz.zeroValue370
  t175 := Tryz.underlying385
  a175 := Tryz.isAgg385
  z175 := Tryz.sizeOf385
  v175 := Tryz.zeroValue385
  t210 := Tryz.underlying389
  a210 := Tryz.isAgg389
  z210 := Tryz.sizeOf389
  v210 := Tryz.zeroValue389
  t212 := Tryz.underlying392
  a212 := Tryz.isAgg392
  z212 := Tryz.sizeOf392
  v212 := Tryz.zeroValue392
  t213 := Tryz.underlying393
  a213 := Tryz.isAgg393
  z213 := Tryz.sizeOf393
  t232 := Tryz.underlying407
  a232 := Tryz.isAgg407
  z232 := Tryz.sizeOf407
  v232 := Tryz.zeroValue407
  t233 := Tryz.underlying408
  a233 := Tryz.isAgg408
  z233 := Tryz.sizeOf408
  v233 := Tryz.zeroValue408
  g15 := by kernel_rfl
  g16 := by kernel_rfl
  g17 := by kernel_rfl
  g18 := by kernel_rfl
  g19 := by kernel_rfl
  t80 := Tryz.underlying244
  a80 := Tryz.isAgg244
  z80 := Tryz.sizeOf244
  v80 := Tryz.zeroValue244
  i0 := by kernel_rfl
  i2 := by kernel_rfl
  i3 := by kernel_rfl
  i4 := by kernel_rfl
  i5 := by kernel_rfl
  i9 := by kernel_rfl
  i20 := by kernel_rfl
  i21 := by kernel_rfl
  i37 := by kernel_rfl
  i46 := by kernel_rfl
  i51 := by kernel_rfl
  i53 := by kernel_rfl
  i75 := by kernel_rfl
  i76 := by kernel_rfl
  i80 := by kernel_rfl
  i85 := by kernel_rfl
  i127 := by kernel_rfl
  i143 := by kernel_rfl
  i145 := by kernel_rfl
  i167 := by kernel_rfl
  i168 := by kernel_rfl
  i171 := by kernel_rfl
  i173 := by kernel_rfl
  i175 := by kernel_rfl
  i210 := by kernel_rfl
  i212 := by kernel_rfl
  i232 := by kernel_rfl
  i233 := by kernel_rfl
  m15 := by kernel_rfl
  m16 := by kernel_rfl
  m17 := by kernel_rfl
  m18 := by kernel_rfl
  m19 := by kernel_rfl
  c0 := by kernel_rfl
  c2 := by kernel_rfl
  c3 := by kernel_rfl
  c4 := by kernel_rfl
  c5 := by kernel_rfl
  c9 := by kernel_rfl
  c20 := by kernel_rfl
  c21 := by kernel_rfl
  c37 := by kernel_rfl
  c46 := by kernel_rfl
  c51 := by kernel_rfl
  c53 := by kernel_rfl
  c75 := by kernel_rfl
  c76 := by kernel_rfl
  c80 := by kernel_rfl
  c85 := by kernel_rfl
  c127 := by kernel_rfl
  c143 := by kernel_rfl
  c145 := by kernel_rfl
  c167 := by kernel_rfl
  c168 := by kernel_rfl
  c171 := by kernel_rfl
  c173 := by kernel_rfl
  c175 := by kernel_rfl
  c210 := by kernel_rfl
  c212 := by kernel_rfl
  c213 := by kernel_rfl
  c232 := by kernel_rfl
  c233 := by kernel_rfl }
open Go.RowKit in
/-- strconv.Atoi, AT EVERY STRING THAT SPELLS AN int ('Lib.atoiAll .. = .ok v'; of whatever length: leading zeros count): v, AND NO ERROR. The world: as it was, or with the one new row that '[]byte(..)' lays. (LAID: no walk: one application.) -/
theorem Tryz.strconv_Atoi_ok (s : ByteArray) (hmax : s.size ≤ 9223372036854775806) (v : Int) (h : Lib.atoiAll s.data.toList = .ok v) (w : World) :
    Calls Tryz.prog 202 #[.string s] w fun e w' => e = .returned (.tuple #[.int .i64 v, .nilIface]) ∧ (w' = w ∨ ∃ t, w' = Lib.bytesWorld w 5 t) := Any.strconv_Atoi_ok Tryz.laysC172 s hmax v h w
open Go.RowKit in
/-- strconv.Atoi, AT EVERY STRING THAT IS NO DECIMAL NUMERAL ('.syntax'): 0, AND AN ERROR THAT IS NOT nil: a *NumError in a new block N: {Func: "Atoi", Num: s's bytes, Err: what the variable ErrSyntax holds}. Of what was there nothing has turned. (LAID: no walk: one application.) -/
theorem Tryz.strconv_Atoi_syntax (s : ByteArray) (hlim : s.size ≤ 281474976710656) (h : Lib.atoiAll s.data.toList = Lib.atoiAll []) (ev : Value) (w : World) (hv : w.cell? ⟨2, 0, none⟩ = some ev) (hev : ev = .nilIface ∨ ∃ te pe, ev = .iface te pe) :
    Calls Tryz.prog 202 #[.string s] w fun e w' => ∃ N, e = .returned (.tuple #[.int .i64 (0), .iface 365 (.pointer (some ⟨N, 0, none⟩))]) ∧ w.heap.size ≤ N ∧ w'.heap[N]? = some (.cells #[.string ⟨#[65, 116, 111, 105]⟩, .string s, ev] 389 (0, 0)) ∧ Below w.heap.size w w' := Any.strconv_Atoi_syntax Tryz.laysC172 s hlim h ev w hv hev
open Go.RowKit in
/-- strconv.Atoi, AT EVERY NUMERAL THAT NO int HOLDS ('.range'): THE GREATEST OR THE LEAST int, BY THE SIGN ('Lib.atoiSat'), AND AN ERROR THAT IS NOT nil: a *NumError in a new block N: {Func: "Atoi", Num: s's bytes, Err: what the variable ErrRange holds}. Of what was there nothing has turned. (LAID: no walk: one application.) -/
theorem Tryz.strconv_Atoi_range (s : ByteArray) (hlim : s.size ≤ 281474976710656) (h : Lib.atoiAll s.data.toList = .range) (ev : Value) (w : World) (hv : w.cell? ⟨3, 0, none⟩ = some ev) (hev : ev = .nilIface ∨ ∃ te pe, ev = .iface te pe) :
    Calls Tryz.prog 202 #[.string s] w fun e w' => ∃ N, e = .returned (.tuple #[.int .i64 (Lib.atoiSat s.data.toList), .iface 365 (.pointer (some ⟨N, 0, none⟩))]) ∧ w.heap.size ≤ N ∧ w'.heap[N]? = some (.cells #[.string ⟨#[65, 116, 111, 105]⟩, .string s, ev] 389 (0, 0)) ∧ Below w.heap.size w w' := Any.strconv_Atoi_range Tryz.laysC172 s hlim h ev w hv hev
def Tryz.lays144_ren : Go.Shelf.Ren := ⟨fun | 144 => 143 | 143 => 210 | 219 => 255 | 217 => 308 | 225 => 309 | 224 => 310 | 267 => 311 | 266 => 333 | 314 => 334 | n => n, fun | 9 => 9 | 4 => 4 | 3 => 3 | 5 => 5 | 46 => 275 | 146 => 394 | 51 => 317 | n => n, fun | 1 => 1 | n => n⟩
theorem Tryz.lays144 : Go.Proofs.Lays.n144 Tryz.prog Tryz.lays144_ren := {
  mixed := by kernel_rfl
  f143 := Tryz.func210.trans (congrArg some (by kernel_rfl))
  f144 := Tryz.func143.trans (congrArg some (by kernel_rfl))
  f217 := Tryz.func308.trans (congrArg some (by kernel_rfl))
  f219 := Tryz.func255.trans (congrArg some (by kernel_rfl))
  f224 := Tryz.func310.trans (congrArg some (by kernel_rfl))
  f225 := Tryz.func309.trans (congrArg some (by kernel_rfl))
  f266 := Tryz.func333.trans (congrArg some (by kernel_rfl))
  f267 := Tryz.func311.trans (congrArg some (by kernel_rfl))
  f314 := Tryz.func334.trans (congrArg some (by kernel_rfl))
  t3 := Tryz.underlying3
  a3 := Tryz.isAgg3
  z3 := Tryz.sizeOf3
  v3 := Tryz.zeroValue3
  t4 := Tryz.underlying4
  a4 := Tryz.isAgg4
  z4 := Tryz.sizeOf4
  v4 := Tryz.zeroValue4
  t5 := Tryz.underlying5
  a5 := Tryz.isAgg5
  z5 := Tryz.sizeOf5
  v5 := Tryz.zeroValue5
  t9 := Tryz.underlying9
  a9 := Tryz.isAgg9
  z9 := Tryz.sizeOf9
  v9 := Tryz.zeroValue9
  t46 := Tryz.underlying275
  a46 := Tryz.isAgg275
  z46 := Tryz.sizeOf275
  v46 := Tryz.zeroValue275
  t51 := Tryz.underlying317
  a51 := Tryz.isAgg317
  z51 := Tryz.sizeOf317
  v51 := Tryz.zeroValue317
  t146 := Tryz.underlying394
  a146 := Tryz.isAgg394
  z146 := Tryz.sizeOf394
  v146 := Tryz.zeroValue394
  g1 := by kernel_rfl }
open Go.RowKit Go.Lib in
/-- strings.Contains: "Contains reports whether substr is within s.": AT A substr OF ONE BYTE c: IT RETURNS 'decide (0 ≤ Lib.indexByte s c)'; the world is as it was. (LAID: no walk: one application.) -/
theorem Tryz.strings_Contains_one (s : ByteArray) (c : UInt8) (w : World) :
    Calls Tryz.prog 143 #[.string s, .string ⟨#[c]⟩] w fun e w' => e = .returned (.bool (decide (0 ≤ Lib.indexByte s.data.toList c))) ∧ w' = w := Any.strings_Contains_one Tryz.lays144 s c w
def Tryz.lays145_ren : Go.Shelf.Ren := ⟨fun | 145 => 200 | 220 => 247 | 219 => 255 | 217 => 308 | 225 => 309 | 224 => 310 | 267 => 311 | 266 => 333 | 314 => 334 | n => n, fun | 9 => 9 | 4 => 4 | 59 => 279 | 3 => 3 | 5 => 5 | 46 => 275 | 146 => 394 | 51 => 317 | n => n, fun | 1 => 1 | n => n⟩
theorem Tryz.lays145 : Go.Proofs.Lays.n145 Tryz.prog Tryz.lays145_ren := {
  mixed := by kernel_rfl
  f145 := Tryz.func200.trans (congrArg some (by kernel_rfl))
  f217 := Tryz.func308.trans (congrArg some (by kernel_rfl))
  f219 := Tryz.func255.trans (congrArg some (by kernel_rfl))
  f220 := Tryz.func247.trans (congrArg some (by kernel_rfl))
  f224 := Tryz.func310.trans (congrArg some (by kernel_rfl))
  f225 := Tryz.func309.trans (congrArg some (by kernel_rfl))
  f266 := Tryz.func333.trans (congrArg some (by kernel_rfl))
  f267 := Tryz.func311.trans (congrArg some (by kernel_rfl))
  f314 := Tryz.func334.trans (congrArg some (by kernel_rfl))
  t3 := Tryz.underlying3
  a3 := Tryz.isAgg3
  z3 := Tryz.sizeOf3
  v3 := Tryz.zeroValue3
  t4 := Tryz.underlying4
  a4 := Tryz.isAgg4
  z4 := Tryz.sizeOf4
  v4 := Tryz.zeroValue4
  t5 := Tryz.underlying5
  a5 := Tryz.isAgg5
  z5 := Tryz.sizeOf5
  v5 := Tryz.zeroValue5
  t9 := Tryz.underlying9
  a9 := Tryz.isAgg9
  z9 := Tryz.sizeOf9
  v9 := Tryz.zeroValue9
  t46 := Tryz.underlying275
  a46 := Tryz.isAgg275
  z46 := Tryz.sizeOf275
  v46 := Tryz.zeroValue275
  t51 := Tryz.underlying317
  a51 := Tryz.isAgg317
  z51 := Tryz.sizeOf317
  v51 := Tryz.zeroValue317
  t59 := Tryz.underlying279
  a59 := Tryz.isAgg279
  z59 := Tryz.sizeOf279
  v59 := Tryz.zeroValue279
  t146 := Tryz.underlying394
  a146 := Tryz.isAgg394
  z146 := Tryz.sizeOf394
  v146 := Tryz.zeroValue394
  g1 := by kernel_rfl }
open Go.RowKit Go.Lib in
/-- strings.Cut: "Cut slices s around the first instance of sep, returning the text before and after sep. The found result reports whether sep appears in s. If sep does not appear in s, cut returns s, "", false.": IT RETURNS 'Lib.cut s sep'; the world is as it was but for the count of draws. (LAID: no walk: one application.) -/
theorem Tryz.strings_Cut (s sep : ByteArray) (m : Int) (w : World) (hs : s.size < 4294967281) (hm : w.cell? ⟨1, 0, none⟩ = some (.int .i64 m)) :
    Calls Tryz.prog 200 #[.string s, .string sep] w fun e w' => e = .returned (.tuple #[.string ⟨(Lib.cut s.data.toList sep.data.toList).1.toArray⟩, .string ⟨(Lib.cut s.data.toList sep.data.toList).2.1.toArray⟩, .bool (Lib.cut s.data.toList sep.data.toList).2.2]) ∧ ∃ n, w' = w.drewN n := Any.strings_Cut Tryz.lays145 s sep m w hs hm
def Tryz.lays146_ren : Go.Shelf.Ren := ⟨fun | 146 => 227 | 221 => 286 | 268 => 320 | 138 => 321 | 143 => 210 | 195 => 337 | 197 => 338 | 218 => 339 | 219 => 255 | 260 => 344 | 217 => 308 | 225 => 309 | 224 => 310 | 267 => 311 | 266 => 333 | 314 => 334 | n => n, fun | 9 => 9 | 31 => 67 | 3 => 3 | 4 => 4 | 0 => 0 | 105 => 398 | 21 => 21 | 5 => 5 | 46 => 275 | 119 => 409 | 139 => 412 | 138 => 411 | 146 => 394 | 51 => 317 | n => n, fun | 1 => 1 | 3 => 7 | 4 => 8 | n => n⟩
theorem Tryz.lays146 : Go.Proofs.Lays.n146 Tryz.prog Tryz.lays146_ren := {
  mixed := by kernel_rfl
  f138 := Tryz.func321.trans (congrArg some (by kernel_rfl))
  f143 := Tryz.func210.trans (congrArg some (by kernel_rfl))
  f146 := Tryz.func227.trans (congrArg some (by kernel_rfl))
  f195 := Tryz.func337.trans (congrArg some (by kernel_rfl))
  f197 := Tryz.func338.trans (congrArg some (by kernel_rfl))
  f217 := Tryz.func308.trans (congrArg some (by kernel_rfl))
  f218 := Tryz.func339.trans (congrArg some (by kernel_rfl))
  f219 := Tryz.func255.trans (congrArg some (by kernel_rfl))
  f221 := Tryz.func286.trans (congrArg some (by kernel_rfl))
  f224 := Tryz.func310.trans (congrArg some (by kernel_rfl))
  f225 := Tryz.func309.trans (congrArg some (by kernel_rfl))
  f260 := Tryz.func344.trans (congrArg some (by kernel_rfl))
  f266 := Tryz.func333.trans (congrArg some (by kernel_rfl))
  f267 := Tryz.func311.trans (congrArg some (by kernel_rfl))
  f268 := Tryz.func320.trans (congrArg some (by kernel_rfl))
  f314 := Tryz.func334.trans (congrArg some (by kernel_rfl))
  t0 := Tryz.underlying0
  a0 := Tryz.isAgg0
  z0 := Tryz.sizeOf0
  v0 := Tryz.zeroValue0
  t3 := Tryz.underlying3
  a3 := Tryz.isAgg3
  z3 := Tryz.sizeOf3
  v3 := Tryz.zeroValue3
  t4 := Tryz.underlying4
  a4 := Tryz.isAgg4
  z4 := Tryz.sizeOf4
  v4 := Tryz.zeroValue4
  t5 := Tryz.underlying5
  a5 := Tryz.isAgg5
  z5 := Tryz.sizeOf5
  v5 := Tryz.zeroValue5
  t9 := Tryz.underlying9
  a9 := Tryz.isAgg9
  z9 := Tryz.sizeOf9
  v9 := Tryz.zeroValue9
  t21 := Tryz.underlying21
  a21 := Tryz.isAgg21
  z21 := Tryz.sizeOf21
  v21 := Tryz.zeroValue21
  t31 := Tryz.underlying67
  a31 := Tryz.isAgg67
  z31 := Tryz.sizeOf67
  v31 := Tryz.zeroValue67
  t46 := Tryz.underlying275
  a46 := Tryz.isAgg275
  z46 := Tryz.sizeOf275
  v46 := Tryz.zeroValue275
  t51 := Tryz.underlying317
  a51 := Tryz.isAgg317
  z51 := Tryz.sizeOf317
  v51 := Tryz.zeroValue317
  t105 := Tryz.underlying398
  a105 := Tryz.isAgg398
  z105 := Tryz.sizeOf398
  v105 := Tryz.zeroValue398
  t119 := Tryz.underlying409
  a119 := Tryz.isAgg409
  z119 := Tryz.sizeOf409
  t138 := Tryz.underlying411
  a138 := Tryz.isAgg411
  z138 := Tryz.sizeOf411
  v138 := Tryz.zeroValue411
  t139 := Tryz.underlying412
  a139 := Tryz.isAgg412
  z139 := Tryz.sizeOf412
  v139 := Tryz.zeroValue412
  t146 := Tryz.underlying394
  a146 := Tryz.isAgg394
  z146 := Tryz.sizeOf394
  v146 := Tryz.zeroValue394
  g1 := by kernel_rfl
  g3 := by kernel_rfl
  g4 := by kernel_rfl }
open Go.RowKit Go.Lib in
/-- strings.Split. (LAID: no walk: one application.) -/
theorem Tryz.strings_Split (s sep : ByteArray) (m : Int) (w : World) (hs : s.size < 4294967281) (hm : w.cell? ⟨1, 0, none⟩ = some (.int .i64 m)) (h1 : 1 ≤ sep.size) :
    Calls Tryz.prog 227 #[.string s, .string sep] w fun e w' =>
      e = .returned (.slice (some ⟨w.heap.size, 0, none⟩) (Lib.countB s sep + 1) (Lib.countB s sep + 1)) ∧ w' = w.alloc (.cells ((Lib.splitB sep 0 (Lib.countB s sep) s).map Value.string).toArray 9) := Any.strings_Split Tryz.lays146 (by kernel_rfl) s sep m w hs hm h1
def Tryz.laysM146_ren : Go.Shelf.Ren := ⟨fun | 146 => 227 | 221 => 286 | 268 => 320 | 138 => 321 | 143 => 210 | 195 => 337 | 197 => 338 | 218 => 339 | 219 => 255 | 260 => 344 | 217 => 308 | 225 => 309 | 224 => 310 | 267 => 311 | 266 => 333 | 314 => 334 | n => n, fun | 9 => 9 | 31 => 67 | 3 => 3 | 4 => 4 | 0 => 0 | 105 => 398 | 21 => 21 | 5 => 5 | 46 => 275 | 119 => 409 | 139 => 412 | 138 => 411 | 146 => 394 | 51 => 317 | n => n, fun | 1 => 1 | 3 => 7 | 4 => 8 | n => n⟩
theorem Tryz.laysM146 : Go.Proofs.LaysM.n146 Tryz.prog Tryz.laysM146_ren := {
  mixed := by kernel_rfl
  f138 := Tryz.func321.trans (congrArg some (by kernel_rfl))
  f143 := Tryz.func210.trans (congrArg some (by kernel_rfl))
  f146 := Tryz.func227.trans (congrArg some (by kernel_rfl))
  f195 := Tryz.func337.trans (congrArg some (by kernel_rfl))
  f197 := Tryz.func338.trans (congrArg some (by kernel_rfl))
  f217 := Tryz.func308.trans (congrArg some (by kernel_rfl))
  f218 := Tryz.func339.trans (congrArg some (by kernel_rfl))
  f219 := Tryz.func255.trans (congrArg some (by kernel_rfl))
  f221 := Tryz.func286.trans (congrArg some (by kernel_rfl))
  f224 := Tryz.func310.trans (congrArg some (by kernel_rfl))
  f225 := Tryz.func309.trans (congrArg some (by kernel_rfl))
  f260 := Tryz.func344.trans (congrArg some (by kernel_rfl))
  f266 := Tryz.func333.trans (congrArg some (by kernel_rfl))
  f267 := Tryz.func311.trans (congrArg some (by kernel_rfl))
  f268 := Tryz.func320.trans (congrArg some (by kernel_rfl))
  f314 := Tryz.func334.trans (congrArg some (by kernel_rfl))
  t0 := Tryz.underlying0
  a0 := Tryz.isAgg0
  z0 := Tryz.sizeOf0
  v0 := Tryz.zeroValue0
  t3 := Tryz.underlying3
  a3 := Tryz.isAgg3
  z3 := Tryz.sizeOf3
  v3 := Tryz.zeroValue3
  t4 := Tryz.underlying4
  a4 := Tryz.isAgg4
  z4 := Tryz.sizeOf4
  v4 := Tryz.zeroValue4
  t5 := Tryz.underlying5
  a5 := Tryz.isAgg5
  z5 := Tryz.sizeOf5
  v5 := Tryz.zeroValue5
  t9 := Tryz.underlying9
  a9 := Tryz.isAgg9
  z9 := Tryz.sizeOf9
  v9 := Tryz.zeroValue9
  t21 := Tryz.underlying21
  a21 := Tryz.isAgg21
  z21 := Tryz.sizeOf21
  v21 := Tryz.zeroValue21
  t31 := Tryz.underlying67
  a31 := Tryz.isAgg67
  z31 := Tryz.sizeOf67
  v31 := Tryz.zeroValue67
  t46 := Tryz.underlying275
  a46 := Tryz.isAgg275
  z46 := Tryz.sizeOf275
  v46 := Tryz.zeroValue275
  t51 := Tryz.underlying317
  a51 := Tryz.isAgg317
  z51 := Tryz.sizeOf317
  v51 := Tryz.zeroValue317
  t105 := Tryz.underlying398
  a105 := Tryz.isAgg398
  z105 := Tryz.sizeOf398
  v105 := Tryz.zeroValue398
  t119 := Tryz.underlying409
  a119 := Tryz.isAgg409
  z119 := Tryz.sizeOf409
  t138 := Tryz.underlying411
  a138 := Tryz.isAgg411
  z138 := Tryz.sizeOf411
  v138 := Tryz.zeroValue411
  t139 := Tryz.underlying412
  a139 := Tryz.isAgg412
  z139 := Tryz.sizeOf412
  v139 := Tryz.zeroValue412
  t146 := Tryz.underlying394
  a146 := Tryz.isAgg394
  z146 := Tryz.sizeOf394
  v146 := Tryz.zeroValue394
  g1 := by kernel_rfl
  g3 := by kernel_rfl
  g4 := by kernel_rfl
  i0 := by kernel_rfl
  i3 := by kernel_rfl
  i4 := by kernel_rfl
  i5 := by kernel_rfl
  i9 := by kernel_rfl
  i21 := by kernel_rfl
  i31 := by kernel_rfl
  i46 := by kernel_rfl
  i51 := by kernel_rfl
  i105 := by kernel_rfl
  i138 := by kernel_rfl
  i139 := by kernel_rfl
  i146 := by kernel_rfl
  m1 := by kernel_rfl
  s1_3 := fun w h => Go.Proofs.cell_of_shapedOpen_int (zero := #[.int .i64 0]) (t := 3) h (of_decide_eq_true (by kernel_rfl)) (by kernel_rfl) rfl (by kernel_rfl) (by kernel_rfl) Tryz.underlying3
  m3 := by kernel_rfl
  m4 := by kernel_rfl }
open Go.RowKit Go.Lib in
/-- strings.Split, sep not empty. (LAID: no walk: one application.) -/
theorem Tryz.strings_Split_shaped (s sep : ByteArray) (w : World) (h : w.ShapedOpen Tryz.prog) (hs : s.size < 4294967281) (h1 : 1 ≤ sep.size) :
    Calls Tryz.prog 227 #[.string s, .string sep] w fun e w' =>
      e = .returned (.slice (some ⟨w.heap.size, 0, none⟩) (Lib.countB s sep + 1) (Lib.countB s sep + 1)) ∧ w' = w.alloc (.cells ((Lib.splitB sep 0 (Lib.countB s sep) s).map Value.string).toArray 9) := Any.strings_Split_shaped Tryz.laysM146 s sep w h hs h1
end Go.Proofs
