import Derived.Ground.Names2Prog
import Derived.Shelf.LaysM
import Derived.Shelf.Slices.Cells
import Derived.Shelf.Slices.CompactS
import Derived.Shelf.Slices.Delete
import Derived.Shelf.Slices.Empties
import Derived.Shelf.Slices.In.SortNone
import Derived.Shelf.Slices.Reverse
import Derived.Shelf.Slices.SearchI
import Derived.Shelf.Slices.Turned
import Derived.Shelf.Small.Bits
import Derived.Shelf.Small.Strs
import Derived.Shelf.Small.Utf8
import Derived.Shelf.Small.Wraps
import Derived.Shelf.Sort.Plain
import Derived.Shelf.Strconv.Itoa0
import Derived.Shelf.Strconv.Itoa1
import Derived.Shelf.Strconv.Itoa2
import Derived.Shelf.Strconv.Itoa3
import Derived.Shelf.Strings.AsciiSet
import Derived.Shelf.Strings.Builder1
import Derived.Shelf.Strings.Builder2
import Derived.Shelf.Strings.BuilderF
import Derived.Shelf.Strings.BuilderK
import Derived.Shelf.Strings.Count
import Derived.Shelf.Strings.Cut
import Derived.Shelf.Strings.Explode
import Derived.Shelf.Strings.IndexAny
import Derived.Shelf.Strings.IndexAnyAll
import Derived.Shelf.Strings.OnBuilder
import Derived.Shelf.Strings.Prefix
import Derived.Shelf.Strings.RuneCount
import Derived.Shelf.Strings.Runes
import Derived.Shelf.Strings.Search1
import Derived.Shelf.Strings.Search2
import Derived.Shelf.Strings.Search3
import Derived.Shelf.Strings.Shaped
import Derived.Shelf.Strings.Split
import Derived.Shelf.Strings.SplitShaped
import Derived.Shelf.Unicode.Decode
import Derived.Shelf.Unicode.DecodeAny
import Derived.Shelf.Unicode.DecodeSlow
import Derived.Shelf.Utf8.RuneCount
import Derived.Test.YtbgbeddbfaopgaaGreatDoorZ2
set_option linter.all false
set_option maxHeartbeats 16000000
set_option maxRecDepth 100000
set_option autoImplicit true
set_option relaxedAutoImplicit true
namespace Go.Proofs
open Go.Shelf
def Tryz.lays156_ren : Go.Shelf.Ren := ⟨fun | 156 => 227 | 165 => 290 | 166 => 291 | 169 => 292 | 240 => 339 | 241 => 340 | 276 => 376 | 277 => 377 | n => n, fun | 31 => 169 | 9 => 9 | 3 => 3 | 4 => 4 | 0 => 0 | 20 => 20 | 72 => 364 | 76 => 367 | 70 => 362 | 37 => 37 | 75 => 366 | 127 => 396 | 164 => 415 | 5 => 5 | 80 => 369 | n => n, fun | n => n⟩
theorem Tryz.lays156 : Go.Proofs.Lays.n156 Tryz.prog Tryz.lays156_ren := {
  mixed := by kernel_rfl
  f156 := Tryz.func227.trans (congrArg some (by kernel_rfl))
  f165 := Tryz.func290.trans (congrArg some (by kernel_rfl))
  f166 := Tryz.func291.trans (congrArg some (by kernel_rfl))
  f169 := Tryz.func292.trans (congrArg some (by kernel_rfl))
  f240 := Tryz.func339.trans (congrArg some (by kernel_rfl))
  f241 := Tryz.func340.trans (congrArg some (by kernel_rfl))
  f276 := Tryz.func376.trans (congrArg some (by kernel_rfl))
  f277 := Tryz.func377.trans (congrArg some (by kernel_rfl))
  t0 := Tryz.underlying0
  a0 := Tryz.isAgg0
  z0 := Tryz.sizeOf0
  v0 := Tryz.zeroValue0
  t3 := Tryz.underlying3
  a3 := Tryz.isAgg3
  z3 := Tryz.sizeOf3
  v3 := Tryz.zeroValue3
  t4 := Tryz.underlying4
  a4 := Tryz.isAgg4
  z4 := Tryz.sizeOf4
  v4 := Tryz.zeroValue4
  t9 := Tryz.underlying9
  a9 := Tryz.isAgg9
  z9 := Tryz.sizeOf9
  v9 := Tryz.zeroValue9
  t20 := Tryz.underlying20
  a20 := Tryz.isAgg20
  z20 := Tryz.sizeOf20
  v20 := Tryz.zeroValue20
  t31 := Tryz.underlying169
  a31 := Tryz.isAgg169
  z31 := Tryz.sizeOf169
  v31 := Tryz.zeroValue169
  t37 := Tryz.underlying37
  a37 := Tryz.isAgg37
  z37 := Tryz.sizeOf37
  v37 := Tryz.zeroValue37
  t70 := Tryz.underlying362
  a70 := Tryz.isAgg362
  z70 := Tryz.sizeOf362
  v70 := Tryz.zeroValue362
  t72 := Tryz.underlying364
  a72 := Tryz.isAgg364
  z72 := Tryz.sizeOf364
  v72 := Tryz.zeroValue364
  t75 := Tryz.underlying366
  a75 := Tryz.isAgg366
  z75 := Tryz.sizeOf366
  v75 := Tryz.zeroValue366
  t76 := Tryz.underlying367
  a76 := Tryz.isAgg367
  z76 := Tryz.sizeOf367
  v76 := Tryz.zeroValue367
  t127 := Tryz.underlying396
  a127 := Tryz.isAgg396
  z127 := Tryz.sizeOf396
  v127 := Tryz.zeroValue396
  t164 := Tryz.underlying415
  a164 := Tryz.isAgg415
  z164 := Tryz.sizeOf415
  v164 := Tryz.zeroValue415 }
theorem Tryz.Builder_Extra_156 : Builder.Extra Tryz.prog Tryz.lays156_ren := {
  sizeBuilder := by kernel_rfl
  liesBuilder := by kernel_rfl
  t5 := Tryz.underlying5
  a5 := Tryz.isAgg5
  z5 := Tryz.sizeOf5
  v5 := Tryz.zeroValue5
  infoByte := by kernel_rfl
  cellsByte := by kernel_rfl
  sizeByte := by kernel_rfl
  neB5 := by decide }
open Go.RowKit in
theorem Tryz.strings_Join_none (a : Option Addr) (c : Nat) (sep : ByteArray) (w : World) :
    Calls Tryz.prog 227 #[.slice a 0 c, .string sep] w fun e w' => e = .returned (.string ⟨#[]⟩) ∧ w' = w := Any.strings_Join_none Tryz.lays156 Tryz.Builder_Extra_156 a c sep w
open Go.RowKit in
theorem Tryz.strings_Join (bk o c : Nat) (xs : List ByteArray) (sep : ByteArray) (w : World) (hcells : ∀ (j : Nat) x, xs[j]? = some x → w.cell? ⟨bk, o + j, none⟩ = some (.string x)) (hbk : bk < w.heap.size) (hN : xs.length ≤ 140737488355328) (hcap : xs.length ≤ c) (hlen : (Lib.join (xs.map (·.data.toList)) sep.data.toList).length ≤ 140737488355328) :
    Calls Tryz.prog 227 #[.slice (some ⟨bk, o, none⟩) xs.length c, .string sep] w fun e w' => e = .returned (.string ⟨(Lib.join (xs.map (·.data.toList)) sep.data.toList).toArray⟩) ∧ Below w.heap.size w w' := Any.strings_Join Tryz.lays156 Tryz.Builder_Extra_156 bk o c xs sep w hcells hbk hN hcap hlen
def Tryz.lays119_ren : Go.Shelf.Ren := ⟨fun | 119 => 305 | n => n, fun | 21 => 21 | 4 => 4 | n => n, fun | n => n⟩
theorem Tryz.lays119 : Go.Proofs.Lays.n119 Tryz.prog Tryz.lays119_ren := {
  mixed := by kernel_rfl
  f119 := Tryz.func305.trans (congrArg some (by kernel_rfl))
  t4 := Tryz.underlying4
  a4 := Tryz.isAgg4
  z4 := Tryz.sizeOf4
  v4 := Tryz.zeroValue4
  t21 := Tryz.underlying21
  a21 := Tryz.isAgg21
  z21 := Tryz.sizeOf21
  v21 := Tryz.zeroValue21 }
theorem Tryz.utf8_ValidRune (r : Int) (w : World) :
    Calls Tryz.prog 305 #[.int .i32 r] w fun e w' => e = .returned (.bool (Lib.validRune r)) ∧ w' = w := Any.utf8_ValidRune Tryz.lays119 r w
def Tryz.lays137_ren : Go.Shelf.Ren := ⟨fun | 137 => 256 | 217 => 308 | 266 => 344 | n => n, fun | 9 => 9 | 5 => 5 | 3 => 3 | n => n, fun | n => n⟩
theorem Tryz.lays137 : Go.Proofs.Lays.n137 Tryz.prog Tryz.lays137_ren := {
  mixed := by kernel_rfl
  f137 := Tryz.func256.trans (congrArg some (by kernel_rfl))
  f217 := Tryz.func308.trans (congrArg some (by kernel_rfl))
  f266 := Tryz.func344.trans (congrArg some (by kernel_rfl))
  t3 := Tryz.underlying3
  a3 := Tryz.isAgg3
  z3 := Tryz.sizeOf3
  v3 := Tryz.zeroValue3
  t5 := Tryz.underlying5
  a5 := Tryz.isAgg5
  z5 := Tryz.sizeOf5
  v5 := Tryz.zeroValue5
  t9 := Tryz.underlying9
  a9 := Tryz.isAgg9
  z9 := Tryz.sizeOf9
  v9 := Tryz.zeroValue9 }
open Go.RowKit in
theorem Tryz.strings_IndexByte (s : ByteArray) (c : Int) (w : World) :
    Calls Tryz.prog 256 #[.string s, .int .u8 c] w fun e w' => e = .returned (.int .i64 (Lib.indexByte s.data.toList c.toNat.toUInt8)) ∧ w' = w := Any.strings_IndexByte Tryz.lays137 s c w
def Tryz.lays103_ren : Go.Shelf.Ren := ⟨fun | 103 => 349 | 210 => 382 | 206 => 319 | n => n, fun | 9 => 9 | 4 => 4 | 24 => 275 | 3 => 3 | n => n, fun | n => n⟩
theorem Tryz.lays103 : Go.Proofs.Lays.n103 Tryz.prog Tryz.lays103_ren := {
  mixed := by kernel_rfl
  f103 := Tryz.func349.trans (congrArg some (by kernel_rfl))
  f206 := Tryz.func319.trans (congrArg some (by kernel_rfl))
  f210 := Tryz.func382.trans (congrArg some (by kernel_rfl))
  t3 := Tryz.underlying3
  a3 := Tryz.isAgg3
  z3 := Tryz.sizeOf3
  v3 := Tryz.zeroValue3
  t4 := Tryz.underlying4
  a4 := Tryz.isAgg4
  z4 := Tryz.sizeOf4
  v4 := Tryz.zeroValue4
  t9 := Tryz.underlying9
  a9 := Tryz.isAgg9
  z9 := Tryz.sizeOf9
  v9 := Tryz.zeroValue9
  t24 := Tryz.underlying275
  a24 := Tryz.isAgg275
  z24 := Tryz.sizeOf275
  v24 := Tryz.zeroValue275 }
open Go.RowKit in
theorem Tryz.strings_CutPrefix (s p : ByteArray) (w : World) :
    Calls Tryz.prog 349 #[.string s, .string p] w fun e w' => e = .returned (.tuple #[.string ⟨(Lib.trimPrefix s.data.toList p.data.toList).toArray⟩, .bool (Lib.hasPrefix s.data.toList p.data.toList)]) ∧ w' = w := Any.strings_CutPrefix Tryz.lays103 s p w
def Tryz.laysM171_ren : Go.Shelf.Ren := ⟨fun | 171 => 184 | 243 => 266 | 246 => 318 | 283 => 359 | 284 => 360 | 285 => 361 | 286 => 362 | 129 => 335 | 317 => 387 | 318 => 388 | 319 => 389 | 320 => 390 | 337 => 401 | 338 => 402 | n => n, fun | 3 => 3 | 9 => 9 | 2 => 2 | 4 => 4 | 171 => 407 | 0 => 0 | 53 => 22 | 37 => 37 | 5 => 5 | 173 => 409 | 212 => 430 | 51 => 102 | 20 => 20 | 213 => 431 | 46 => 97 | 232 => 442 | 233 => 443 | n => n, fun | 17 => 1 | 18 => 4 | 19 => 5 | n => n⟩
theorem Tryz.laysM171 : Go.Proofs.LaysM.n171 Tryz.prog Tryz.laysM171_ren := {
  mixed := by kernel_rfl
  f129 := Tryz.func335.trans (congrArg some (by kernel_rfl))
  f171 := Tryz.func184.trans (congrArg some (by kernel_rfl))
  f243 := Tryz.func266.trans (congrArg some (by kernel_rfl))
  f246 := Tryz.func318.trans (congrArg some (by kernel_rfl))
  f283 := Tryz.func359.trans (congrArg some (by kernel_rfl))
  f284 := Tryz.func360.trans (congrArg some (by kernel_rfl))
  f285 := Tryz.func361.trans (congrArg some (by kernel_rfl))
  f286 := Tryz.func362.trans (congrArg some (by kernel_rfl))
  f317 := Tryz.func387.trans (congrArg some (by kernel_rfl))
  f318 := Tryz.func388.trans (congrArg some (by kernel_rfl))
  f319 := Tryz.func389.trans (congrArg some (by kernel_rfl))
  f320 := Tryz.func390.trans (congrArg some (by kernel_rfl))
  f337 := Tryz.func401.trans (congrArg some (by kernel_rfl))
  f338 := Tryz.func402.trans (congrArg some (by kernel_rfl))
  t0 := Tryz.underlying0
  a0 := Tryz.isAgg0
  z0 := Tryz.sizeOf0
  v0 := Tryz.zeroValue0
  t2 := Tryz.underlying2
  a2 := Tryz.isAgg2
  z2 := Tryz.sizeOf2
  v2 := Tryz.zeroValue2
  t3 := Tryz.underlying3
  a3 := Tryz.isAgg3
  z3 := Tryz.sizeOf3
  v3 := Tryz.zeroValue3
  t4 := Tryz.underlying4
  a4 := Tryz.isAgg4
  z4 := Tryz.sizeOf4
  v4 := Tryz.zeroValue4
  t5 := Tryz.underlying5
  a5 := Tryz.isAgg5
  z5 := Tryz.sizeOf5
  v5 := Tryz.zeroValue5
  t9 := Tryz.underlying9
  a9 := Tryz.isAgg9
  z9 := Tryz.sizeOf9
  v9 := Tryz.zeroValue9
  t20 := Tryz.underlying20
  a20 := Tryz.isAgg20
  z20 := Tryz.sizeOf20
  v20 := Tryz.zeroValue20
  t37 := Tryz.underlying37
  a37 := Tryz.isAgg37
  z37 := Tryz.sizeOf37
  v37 := Tryz.zeroValue37
  t46 := Tryz.underlying97
  a46 := Tryz.isAgg97
  z46 := Tryz.sizeOf97
  v46 := Tryz.zeroValue97
  t51 := Tryz.underlying102
  a51 := Tryz.isAgg102
  z51 := Tryz.sizeOf102
  v51 := Tryz.zeroValue102
  t53 := Tryz.underlying22
  a53 := Tryz.isAgg22
  z53 := Tryz.sizeOf22
  v53 := Tryz.zeroValue22
  t171 := Tryz.underlying407
  a171 := Tryz.isAgg407
  z171 := Tryz.sizeOf407
  v171 := Tryz.zeroValue407
  t173 := Tryz.underlying409
  a173 := Tryz.isAgg409
  z173 := Tryz.sizeOf409
  v173 := Tryz.zeroValue409
  t212 := Tryz.underlying430
  a212 := Tryz.isAgg430
  z212 := Tryz.sizeOf430
  v212 := Tryz.zeroValue430
  t213 := Tryz.underlying431
  a213 := Tryz.isAgg431
  z213 := Tryz.sizeOf431
  t232 := Tryz.underlying442
  a232 := Tryz.isAgg442
  z232 := Tryz.sizeOf442
  v232 := Tryz.zeroValue442
  t233 := Tryz.underlying443
  a233 := Tryz.isAgg443
  z233 := Tryz.sizeOf443
  v233 := Tryz.zeroValue443
  g17 := by kernel_rfl
  g18 := by kernel_rfl
  g19 := by kernel_rfl
  i0 := by kernel_rfl
  i2 := by kernel_rfl
  i3 := by kernel_rfl
  i4 := by kernel_rfl
  i5 := by kernel_rfl
  i9 := by kernel_rfl
  i20 := by kernel_rfl
  i37 := by kernel_rfl
  i46 := by kernel_rfl
  i51 := by kernel_rfl
  i53 := by kernel_rfl
  i171 := by kernel_rfl
  i173 := by kernel_rfl
  i212 := by kernel_rfl
  i232 := by kernel_rfl
  i233 := by kernel_rfl
  m17 := by kernel_rfl
  m18 := by kernel_rfl
  m19 := by kernel_rfl }
open Go.RowKit Go.Sort Go.Lib in
theorem Tryz.strconv_Itoa (n : Int) (h0 : -9223372036854775808 ≤ n) (h1 : n ≤ 9223372036854775807) (w : World) (htab : Lib.TabIs Tryz.prog w "internal/strconv.uint64pow10" .u64 Lib.pow10Tab) :
    Calls Tryz.prog 184 #[.int .i64 n] w fun e w' => e = .returned (.string ⟨(Lib.itoa n).toArray⟩) ∧ ∃ k os, w' = grow (w.drewN k) os := Any.strconv_Itoa Tryz.laysM171 n h0 h1 w htab
def Tryz.lays145_ren : Go.Shelf.Ren := ⟨fun | 145 => 171 | 220 => 251 | 219 => 304 | 217 => 308 | 225 => 307 | 224 => 306 | 267 => 343 | 266 => 344 | 314 => 378 | n => n, fun | 9 => 9 | 4 => 4 | 59 => 282 | 3 => 3 | 5 => 5 | 46 => 97 | 146 => 424 | 51 => 102 | n => n, fun | 1 => 0 | n => n⟩
theorem Tryz.lays145 : Go.Proofs.Lays.n145 Tryz.prog Tryz.lays145_ren := {
  mixed := by kernel_rfl
  f145 := Tryz.func171.trans (congrArg some (by kernel_rfl))
  f217 := Tryz.func308.trans (congrArg some (by kernel_rfl))
  f219 := Tryz.func304.trans (congrArg some (by kernel_rfl))
  f220 := Tryz.func251.trans (congrArg some (by kernel_rfl))
  f224 := Tryz.func306.trans (congrArg some (by kernel_rfl))
  f225 := Tryz.func307.trans (congrArg some (by kernel_rfl))
  f266 := Tryz.func344.trans (congrArg some (by kernel_rfl))
  f267 := Tryz.func343.trans (congrArg some (by kernel_rfl))
  f314 := Tryz.func378.trans (congrArg some (by kernel_rfl))
  t3 := Tryz.underlying3
  a3 := Tryz.isAgg3
  z3 := Tryz.sizeOf3
  v3 := Tryz.zeroValue3
  t4 := Tryz.underlying4
  a4 := Tryz.isAgg4
  z4 := Tryz.sizeOf4
  v4 := Tryz.zeroValue4
  t5 := Tryz.underlying5
  a5 := Tryz.isAgg5
  z5 := Tryz.sizeOf5
  v5 := Tryz.zeroValue5
  t9 := Tryz.underlying9
  a9 := Tryz.isAgg9
  z9 := Tryz.sizeOf9
  v9 := Tryz.zeroValue9
  t46 := Tryz.underlying97
  a46 := Tryz.isAgg97
  z46 := Tryz.sizeOf97
  v46 := Tryz.zeroValue97
  t51 := Tryz.underlying102
  a51 := Tryz.isAgg102
  z51 := Tryz.sizeOf102
  v51 := Tryz.zeroValue102
  t59 := Tryz.underlying282
  a59 := Tryz.isAgg282
  z59 := Tryz.sizeOf282
  v59 := Tryz.zeroValue282
  t146 := Tryz.underlying424
  a146 := Tryz.isAgg424
  z146 := Tryz.sizeOf424
  v146 := Tryz.zeroValue424
  g1 := by kernel_rfl }
open Go.RowKit Go.Lib in
theorem Tryz.strings_Cut (s sep : ByteArray) (m : Int) (w : World) (hs : s.size < 4294967281) (hm : w.cell? ⟨0, 0, none⟩ = some (.int .i64 m)) :
    Calls Tryz.prog 171 #[.string s, .string sep] w fun e w' => e = .returned (.tuple #[.string ⟨(Lib.cut s.data.toList sep.data.toList).1.toArray⟩, .string ⟨(Lib.cut s.data.toList sep.data.toList).2.1.toArray⟩, .bool (Lib.cut s.data.toList sep.data.toList).2.2]) ∧ ∃ n, w' = w.drewN n := Any.strings_Cut Tryz.lays145 s sep m w hs hm
def Tryz.lays189_ren : Go.Shelf.Ren := ⟨fun | 189 => 216 | 125 => 285 | 257 => 284 | 128 => 334 | 129 => 335 | 294 => 326 | 295 => 327 | 296 => 328 | 297 => 329 | 298 => 330 | 299 => 331 | 216 => 196 | 300 => 332 | 301 => 333 | 328 => 371 | 329 => 372 | 330 => 373 | 331 => 374 | 332 => 375 | 215 => 271 | 343 => 398 | n => n, fun | 28 => 45 | 3 => 3 | 46 => 97 | 0 => 0 | 51 => 102 | 53 => 22 | 4 => 4 | 183 => 389 | 182 => 388 | 131 => 226 | 5 => 5 | 9 => 9 | 218 => 418 | 222 => 421 | 228 => 434 | 229 => 435 | n => n, fun | n => n⟩
theorem Tryz.lays189 : Go.Proofs.Lays.n189 Tryz.prog Tryz.lays189_ren := {
  mixed := by kernel_rfl
  f125 := Tryz.func285.trans (congrArg some (by kernel_rfl))
  f128 := Tryz.func334.trans (congrArg some (by kernel_rfl))
  f129 := Tryz.func335.trans (congrArg some (by kernel_rfl))
  f189 := Tryz.func216.trans (congrArg some (by kernel_rfl))
  f215 := Tryz.func271.trans (congrArg some (by kernel_rfl))
  f216 := Tryz.func196.trans (congrArg some (by kernel_rfl))
  f257 := Tryz.func284.trans (congrArg some (by kernel_rfl))
  f294 := Tryz.func326.trans (congrArg some (by kernel_rfl))
  f295 := Tryz.func327.trans (congrArg some (by kernel_rfl))
  f296 := Tryz.func328.trans (congrArg some (by kernel_rfl))
  f297 := Tryz.func329.trans (congrArg some (by kernel_rfl))
  f298 := Tryz.func330.trans (congrArg some (by kernel_rfl))
  f299 := Tryz.func331.trans (congrArg some (by kernel_rfl))
  f300 := Tryz.func332.trans (congrArg some (by kernel_rfl))
  f301 := Tryz.func333.trans (congrArg some (by kernel_rfl))
  f328 := Tryz.func371.trans (congrArg some (by kernel_rfl))
  f329 := Tryz.func372.trans (congrArg some (by kernel_rfl))
  f330 := Tryz.func373.trans (congrArg some (by kernel_rfl))
  f331 := Tryz.func374.trans (congrArg some (by kernel_rfl))
  f332 := Tryz.func375.trans (congrArg some (by kernel_rfl))
  f343 := Tryz.func398.trans (congrArg some (by kernel_rfl))
  t0 := Tryz.underlying0
  a0 := Tryz.isAgg0
  z0 := Tryz.sizeOf0
  v0 := Tryz.zeroValue0
  t3 := Tryz.underlying3
  a3 := Tryz.isAgg3
  z3 := Tryz.sizeOf3
  v3 := Tryz.zeroValue3
  t4 := Tryz.underlying4
  a4 := Tryz.isAgg4
  z4 := Tryz.sizeOf4
  v4 := Tryz.zeroValue4
  t5 := Tryz.underlying5
  a5 := Tryz.isAgg5
  z5 := Tryz.sizeOf5
  v5 := Tryz.zeroValue5
  t9 := Tryz.underlying9
  a9 := Tryz.isAgg9
  z9 := Tryz.sizeOf9
  v9 := Tryz.zeroValue9
  t28 := Tryz.underlying45
  a28 := Tryz.isAgg45
  z28 := Tryz.sizeOf45
  v28 := Tryz.zeroValue45
  t46 := Tryz.underlying97
  a46 := Tryz.isAgg97
  z46 := Tryz.sizeOf97
  v46 := Tryz.zeroValue97
  t51 := Tryz.underlying102
  a51 := Tryz.isAgg102
  z51 := Tryz.sizeOf102
  v51 := Tryz.zeroValue102
  t53 := Tryz.underlying22
  a53 := Tryz.isAgg22
  z53 := Tryz.sizeOf22
  v53 := Tryz.zeroValue22
  t131 := Tryz.underlying226
  a131 := Tryz.isAgg226
  z131 := Tryz.sizeOf226
  v131 := Tryz.zeroValue226
  t182 := Tryz.underlying388
  a182 := Tryz.isAgg388
  z182 := Tryz.sizeOf388
  v182 := Tryz.zeroValue388
  t183 := Tryz.underlying389
  a183 := Tryz.isAgg389
  z183 := Tryz.sizeOf389
  v183 := Tryz.zeroValue389
  t218 := Tryz.underlying418
  a218 := Tryz.isAgg418
  z218 := Tryz.sizeOf418
  v218 := Tryz.zeroValue418
  t222 := Tryz.underlying421
  a222 := Tryz.isAgg421
  z222 := Tryz.sizeOf421
  v222 := Tryz.zeroValue421
  t228 := Tryz.underlying434
  a228 := Tryz.isAgg434
  z228 := Tryz.sizeOf434
  v228 := Tryz.zeroValue434
  t229 := Tryz.underlying435
  a229 := Tryz.isAgg435
  z229 := Tryz.sizeOf435
  v229 := Tryz.zeroValue435 }
open Go.Sort Go.RowKit in
theorem Tryz.slices_Sort_int (blk off cap : Nat) (zs : List Int) (w : World) (hH : Holds (Value.int .i64) w blk off zs.toArray) (hblk : blk < w.heap.size) (hsz : zs.length < 4611686018427387904) :
    Calls Tryz.prog 216 #[.slice (some ⟨blk, off, none⟩) zs.length cap] w fun e w' =>
      e = .returned (.tuple #[]) ∧ ∃ n os, w' = grow (putRow (Value.int .i64) (Sort.ahead w n) blk off (zs.mergeSort fun x y => decide (x ≤ y)).toArray) os := Any.slices_Sort_int Tryz.lays189 blk off cap zs w hH hblk hsz
def Tryz.lays190_ren : Go.Shelf.Ren := ⟨fun | 190 => 264 | 125 => 285 | 258 => 317 | 128 => 334 | 129 => 335 | 302 => 350 | 303 => 351 | 304 => 352 | 305 => 353 | 306 => 354 | 307 => 355 | 308 => 356 | 309 => 357 | 310 => 358 | 333 => 383 | 329 => 372 | 330 => 373 | 334 => 384 | 335 => 385 | 336 => 386 | 344 => 400 | n => n, fun | 31 => 169 | 9 => 9 | 3 => 3 | 46 => 97 | 0 => 0 | 51 => 102 | 53 => 22 | 4 => 4 | 183 => 389 | 182 => 388 | 131 => 226 | 5 => 5 | 218 => 418 | 222 => 421 | 228 => 434 | 229 => 435 | n => n, fun | n => n⟩
theorem Tryz.lays190 : Go.Proofs.Lays.n190 Tryz.prog Tryz.lays190_ren := {
  mixed := by kernel_rfl
  f125 := Tryz.func285.trans (congrArg some (by kernel_rfl))
  f128 := Tryz.func334.trans (congrArg some (by kernel_rfl))
  f129 := Tryz.func335.trans (congrArg some (by kernel_rfl))
  f190 := Tryz.func264.trans (congrArg some (by kernel_rfl))
  f258 := Tryz.func317.trans (congrArg some (by kernel_rfl))
  f302 := Tryz.func350.trans (congrArg some (by kernel_rfl))
  f303 := Tryz.func351.trans (congrArg some (by kernel_rfl))
  f304 := Tryz.func352.trans (congrArg some (by kernel_rfl))
  f305 := Tryz.func353.trans (congrArg some (by kernel_rfl))
  f306 := Tryz.func354.trans (congrArg some (by kernel_rfl))
  f307 := Tryz.func355.trans (congrArg some (by kernel_rfl))
  f308 := Tryz.func356.trans (congrArg some (by kernel_rfl))
  f309 := Tryz.func357.trans (congrArg some (by kernel_rfl))
  f310 := Tryz.func358.trans (congrArg some (by kernel_rfl))
  f329 := Tryz.func372.trans (congrArg some (by kernel_rfl))
  f330 := Tryz.func373.trans (congrArg some (by kernel_rfl))
  f333 := Tryz.func383.trans (congrArg some (by kernel_rfl))
  f334 := Tryz.func384.trans (congrArg some (by kernel_rfl))
  f335 := Tryz.func385.trans (congrArg some (by kernel_rfl))
  f336 := Tryz.func386.trans (congrArg some (by kernel_rfl))
  f344 := Tryz.func400.trans (congrArg some (by kernel_rfl))
  t0 := Tryz.underlying0
  a0 := Tryz.isAgg0
  z0 := Tryz.sizeOf0
  v0 := Tryz.zeroValue0
  t3 := Tryz.underlying3
  a3 := Tryz.isAgg3
  z3 := Tryz.sizeOf3
  v3 := Tryz.zeroValue3
  t4 := Tryz.underlying4
  a4 := Tryz.isAgg4
  z4 := Tryz.sizeOf4
  v4 := Tryz.zeroValue4
  t5 := Tryz.underlying5
  a5 := Tryz.isAgg5
  z5 := Tryz.sizeOf5
  v5 := Tryz.zeroValue5
  t9 := Tryz.underlying9
  a9 := Tryz.isAgg9
  z9 := Tryz.sizeOf9
  v9 := Tryz.zeroValue9
  t31 := Tryz.underlying169
  a31 := Tryz.isAgg169
  z31 := Tryz.sizeOf169
  v31 := Tryz.zeroValue169
  t46 := Tryz.underlying97
  a46 := Tryz.isAgg97
  z46 := Tryz.sizeOf97
  v46 := Tryz.zeroValue97
  t51 := Tryz.underlying102
  a51 := Tryz.isAgg102
  z51 := Tryz.sizeOf102
  v51 := Tryz.zeroValue102
  t53 := Tryz.underlying22
  a53 := Tryz.isAgg22
  z53 := Tryz.sizeOf22
  v53 := Tryz.zeroValue22
  t131 := Tryz.underlying226
  a131 := Tryz.isAgg226
  z131 := Tryz.sizeOf226
  v131 := Tryz.zeroValue226
  t182 := Tryz.underlying388
  a182 := Tryz.isAgg388
  z182 := Tryz.sizeOf388
  v182 := Tryz.zeroValue388
  t183 := Tryz.underlying389
  a183 := Tryz.isAgg389
  z183 := Tryz.sizeOf389
  v183 := Tryz.zeroValue389
  t218 := Tryz.underlying418
  a218 := Tryz.isAgg418
  z218 := Tryz.sizeOf418
  v218 := Tryz.zeroValue418
  t222 := Tryz.underlying421
  a222 := Tryz.isAgg421
  z222 := Tryz.sizeOf421
  v222 := Tryz.zeroValue421
  t228 := Tryz.underlying434
  a228 := Tryz.isAgg434
  z228 := Tryz.sizeOf434
  v228 := Tryz.zeroValue434
  t229 := Tryz.underlying435
  a229 := Tryz.isAgg435
  z229 := Tryz.sizeOf435
  v229 := Tryz.zeroValue435 }
open Go.Sort Go.RowKit in
theorem Tryz.slices_Sort_string (blk off cap : Nat) (ss : List (List UInt8)) (w : World) (hH : Holds encStr w blk off ss.toArray) (hblk : blk < w.heap.size) (hsz : ss.length < 4611686018427387904) :
    Calls Tryz.prog 264 #[.slice (some ⟨blk, off, none⟩) ss.length cap] w fun e w' =>
      e = .returned (.tuple #[]) ∧ ∃ n os, w' = grow (putRow encStr (Sort.ahead w n) blk off (ss.mergeSort fun x y => decide (x ≤ y)).toArray) os := Any.slices_Sort_string Tryz.lays190 blk off cap ss w hH hblk hsz
def Tryz.lays99_ren : Go.Shelf.Ren := ⟨fun | 99 => 269 | 206 => 319 | n => n, fun | 9 => 9 | 4 => 4 | 3 => 3 | n => n, fun | n => n⟩
theorem Tryz.lays99 : Go.Proofs.Lays.n99 Tryz.prog Tryz.lays99_ren := {
  mixed := by kernel_rfl
  f99 := Tryz.func269.trans (congrArg some (by kernel_rfl))
  f206 := Tryz.func319.trans (congrArg some (by kernel_rfl))
  t3 := Tryz.underlying3
  a3 := Tryz.isAgg3
  z3 := Tryz.sizeOf3
  v3 := Tryz.zeroValue3
  t4 := Tryz.underlying4
  a4 := Tryz.isAgg4
  z4 := Tryz.sizeOf4
  v4 := Tryz.zeroValue4
  t9 := Tryz.underlying9
  a9 := Tryz.isAgg9
  z9 := Tryz.sizeOf9
  v9 := Tryz.zeroValue9 }
open Go.RowKit Go.Lib in
theorem Tryz.strings_HasPrefix (s p : ByteArray) (w : World) :
    Calls Tryz.prog 269 #[.string s, .string p] w fun e w' => e = .returned (.bool (Lib.hasPrefix s.data.toList p.data.toList)) ∧ w' = w := Any.strings_HasPrefix Tryz.lays99 s p w
def Tryz.lays101_ren : Go.Shelf.Ren := ⟨fun | 101 => 258 | 208 => 310 | 206 => 319 | n => n, fun | 9 => 9 | 4 => 4 | 3 => 3 | n => n, fun | n => n⟩
theorem Tryz.lays101 : Go.Proofs.Lays.n101 Tryz.prog Tryz.lays101_ren := {
  mixed := by kernel_rfl
  f101 := Tryz.func258.trans (congrArg some (by kernel_rfl))
  f206 := Tryz.func319.trans (congrArg some (by kernel_rfl))
  f208 := Tryz.func310.trans (congrArg some (by kernel_rfl))
  t3 := Tryz.underlying3
  a3 := Tryz.isAgg3
  z3 := Tryz.sizeOf3
  v3 := Tryz.zeroValue3
  t4 := Tryz.underlying4
  a4 := Tryz.isAgg4
  z4 := Tryz.sizeOf4
  v4 := Tryz.zeroValue4
  t9 := Tryz.underlying9
  a9 := Tryz.isAgg9
  z9 := Tryz.sizeOf9
  v9 := Tryz.zeroValue9 }
open Go.RowKit Go.Lib in
theorem Tryz.strings_TrimPrefix (s p : ByteArray) (w : World) :
    Calls Tryz.prog 258 #[.string s, .string p] w fun e w' => e = .returned (.string ⟨(Lib.trimPrefix s.data.toList p.data.toList).toArray⟩) ∧ w' = w := Any.strings_TrimPrefix Tryz.lays101 s p w
def Tryz.lays146_ren : Go.Shelf.Ren := ⟨fun | 146 => 257 | 221 => 309 | 268 => 345 | 138 => 346 | 143 => 347 | 195 => 379 | 197 => 380 | 218 => 381 | 219 => 304 | 260 => 399 | 217 => 308 | 225 => 307 | 224 => 306 | 267 => 343 | 266 => 344 | 314 => 378 | n => n, fun | 9 => 9 | 31 => 169 | 3 => 3 | 4 => 4 | 0 => 0 | 105 => 426 | 21 => 21 | 5 => 5 | 46 => 97 | 119 => 438 | 139 => 441 | 138 => 440 | 146 => 424 | 51 => 102 | n => n, fun | 1 => 0 | 3 => 2 | 4 => 3 | n => n⟩
theorem Tryz.lays146 : Go.Proofs.Lays.n146 Tryz.prog Tryz.lays146_ren := {
  mixed := by kernel_rfl
  f138 := Tryz.func346.trans (congrArg some (by kernel_rfl))
  f143 := Tryz.func347.trans (congrArg some (by kernel_rfl))
  f146 := Tryz.func257.trans (congrArg some (by kernel_rfl))
  f195 := Tryz.func379.trans (congrArg some (by kernel_rfl))
  f197 := Tryz.func380.trans (congrArg some (by kernel_rfl))
  f217 := Tryz.func308.trans (congrArg some (by kernel_rfl))
  f218 := Tryz.func381.trans (congrArg some (by kernel_rfl))
  f219 := Tryz.func304.trans (congrArg some (by kernel_rfl))
  f221 := Tryz.func309.trans (congrArg some (by kernel_rfl))
  f224 := Tryz.func306.trans (congrArg some (by kernel_rfl))
  f225 := Tryz.func307.trans (congrArg some (by kernel_rfl))
  f260 := Tryz.func399.trans (congrArg some (by kernel_rfl))
  f266 := Tryz.func344.trans (congrArg some (by kernel_rfl))
  f267 := Tryz.func343.trans (congrArg some (by kernel_rfl))
  f268 := Tryz.func345.trans (congrArg some (by kernel_rfl))
  f314 := Tryz.func378.trans (congrArg some (by kernel_rfl))
  t0 := Tryz.underlying0
  a0 := Tryz.isAgg0
  z0 := Tryz.sizeOf0
  v0 := Tryz.zeroValue0
  t3 := Tryz.underlying3
  a3 := Tryz.isAgg3
  z3 := Tryz.sizeOf3
  v3 := Tryz.zeroValue3
  t4 := Tryz.underlying4
  a4 := Tryz.isAgg4
  z4 := Tryz.sizeOf4
  v4 := Tryz.zeroValue4
  t5 := Tryz.underlying5
  a5 := Tryz.isAgg5
  z5 := Tryz.sizeOf5
  v5 := Tryz.zeroValue5
  t9 := Tryz.underlying9
  a9 := Tryz.isAgg9
  z9 := Tryz.sizeOf9
  v9 := Tryz.zeroValue9
  t21 := Tryz.underlying21
  a21 := Tryz.isAgg21
  z21 := Tryz.sizeOf21
  v21 := Tryz.zeroValue21
  t31 := Tryz.underlying169
  a31 := Tryz.isAgg169
  z31 := Tryz.sizeOf169
  v31 := Tryz.zeroValue169
  t46 := Tryz.underlying97
  a46 := Tryz.isAgg97
  z46 := Tryz.sizeOf97
  v46 := Tryz.zeroValue97
  t51 := Tryz.underlying102
  a51 := Tryz.isAgg102
  z51 := Tryz.sizeOf102
  v51 := Tryz.zeroValue102
  t105 := Tryz.underlying426
  a105 := Tryz.isAgg426
  z105 := Tryz.sizeOf426
  v105 := Tryz.zeroValue426
  t119 := Tryz.underlying438
  a119 := Tryz.isAgg438
  z119 := Tryz.sizeOf438
  t138 := Tryz.underlying440
  a138 := Tryz.isAgg440
  z138 := Tryz.sizeOf440
  v138 := Tryz.zeroValue440
  t139 := Tryz.underlying441
  a139 := Tryz.isAgg441
  z139 := Tryz.sizeOf441
  v139 := Tryz.zeroValue441
  t146 := Tryz.underlying424
  a146 := Tryz.isAgg424
  z146 := Tryz.sizeOf424
  v146 := Tryz.zeroValue424
  g1 := by kernel_rfl
  g3 := by kernel_rfl
  g4 := by kernel_rfl }
open Go.RowKit Go.Lib in
theorem Tryz.strings_Split (s sep : ByteArray) (m : Int) (w : World) (hs : s.size < 4294967281) (hm : w.cell? ⟨0, 0, none⟩ = some (.int .i64 m)) (h1 : 1 ≤ sep.size) :
    Calls Tryz.prog 257 #[.string s, .string sep] w fun e w' =>
      e = .returned (.slice (some ⟨w.heap.size, 0, none⟩) (Lib.countB s sep + 1) (Lib.countB s sep + 1)) ∧ w' = w.alloc (.cells ((Lib.splitB sep 0 (Lib.countB s sep) s).map Value.string).toArray 9) := Any.strings_Split Tryz.lays146 (by kernel_rfl) s sep m w hs hm h1
def Tryz.lays152_ren : Go.Shelf.Ren := ⟨fun | 152 => 252 | 137 => 256 | 119 => 305 | 224 => 306 | 225 => 307 | 217 => 308 | 266 => 344 | n => n, fun | 9 => 9 | 21 => 21 | 3 => 3 | 4 => 4 | 5 => 5 | 0 => 0 | 46 => 97 | n => n, fun | n => n⟩
theorem Tryz.lays152 : Go.Proofs.Lays.n152 Tryz.prog Tryz.lays152_ren := {
  mixed := by kernel_rfl
  f119 := Tryz.func305.trans (congrArg some (by kernel_rfl))
  f137 := Tryz.func256.trans (congrArg some (by kernel_rfl))
  f152 := Tryz.func252.trans (congrArg some (by kernel_rfl))
  f217 := Tryz.func308.trans (congrArg some (by kernel_rfl))
  f224 := Tryz.func306.trans (congrArg some (by kernel_rfl))
  f225 := Tryz.func307.trans (congrArg some (by kernel_rfl))
  f266 := Tryz.func344.trans (congrArg some (by kernel_rfl))
  t0 := Tryz.underlying0
  a0 := Tryz.isAgg0
  z0 := Tryz.sizeOf0
  v0 := Tryz.zeroValue0
  t3 := Tryz.underlying3
  a3 := Tryz.isAgg3
  z3 := Tryz.sizeOf3
  v3 := Tryz.zeroValue3
  t4 := Tryz.underlying4
  a4 := Tryz.isAgg4
  z4 := Tryz.sizeOf4
  v4 := Tryz.zeroValue4
  t5 := Tryz.underlying5
  a5 := Tryz.isAgg5
  z5 := Tryz.sizeOf5
  v5 := Tryz.zeroValue5
  t9 := Tryz.underlying9
  a9 := Tryz.isAgg9
  z9 := Tryz.sizeOf9
  v9 := Tryz.zeroValue9
  t21 := Tryz.underlying21
  a21 := Tryz.isAgg21
  z21 := Tryz.sizeOf21
  v21 := Tryz.zeroValue21
  t46 := Tryz.underlying97
  a46 := Tryz.isAgg97
  z46 := Tryz.sizeOf97
  v46 := Tryz.zeroValue97 }
open Go.RowKit Go.Lib in
theorem Tryz.strings_IndexRune_ascii (s : ByteArray) (r : Int) (w : World) (h0 : 0 ≤ r) (h1 : r < 128) :
    Calls Tryz.prog 252 #[.string s, .int .i32 r] w fun e w' => e = .returned (.int .i64 (Lib.indexByte s.data.toList r.toNat.toUInt8)) ∧ w' = w := Any.strings_IndexRune_ascii Tryz.lays152 s r w h0 h1
def Tryz.lays226_ren : Go.Shelf.Ren := ⟨fun | 226 => 253 | n => n, fun | 3 => 3 | 4 => 4 | n => n, fun | n => n⟩
theorem Tryz.lays226 : Go.Proofs.Lays.n226 Tryz.prog Tryz.lays226_ren := {
  mixed := by kernel_rfl
  f226 := Tryz.func253.trans (congrArg some (by kernel_rfl))
  t3 := Tryz.underlying3
  a3 := Tryz.isAgg3
  z3 := Tryz.sizeOf3
  v3 := Tryz.zeroValue3
  t4 := Tryz.underlying4
  a4 := Tryz.isAgg4
  z4 := Tryz.sizeOf4
  v4 := Tryz.zeroValue4 }
open Go.RowKit Go.Lib in
theorem Tryz.strings_shouldUseASCIISet (n : Int) (w : World) :
    Calls Tryz.prog 253 #[.int .i64 n] w fun e w' => e = .returned (.bool (decide (8 < n))) ∧ w' = w := Any.strings_shouldUseASCIISet Tryz.lays226 n w
def Tryz.lays153_ren : Go.Shelf.Ren := ⟨fun | 153 => 172 | 152 => 252 | 226 => 253 | 227 => 254 | 228 => 255 | 137 => 256 | 119 => 305 | 224 => 306 | 225 => 307 | 217 => 308 | 266 => 344 | n => n, fun | 9 => 9 | 3 => 3 | 4 => 4 | 5 => 5 | 21 => 21 | 117 => 336 | 116 => 335 | 0 => 0 | 46 => 97 | 124 => 379 | n => n, fun | n => n⟩
theorem Tryz.lays153 : Go.Proofs.Lays.n153 Tryz.prog Tryz.lays153_ren := {
  mixed := by kernel_rfl
  f119 := Tryz.func305.trans (congrArg some (by kernel_rfl))
  f137 := Tryz.func256.trans (congrArg some (by kernel_rfl))
  f152 := Tryz.func252.trans (congrArg some (by kernel_rfl))
  f153 := Tryz.func172.trans (congrArg some (by kernel_rfl))
  f217 := Tryz.func308.trans (congrArg some (by kernel_rfl))
  f224 := Tryz.func306.trans (congrArg some (by kernel_rfl))
  f225 := Tryz.func307.trans (congrArg some (by kernel_rfl))
  f226 := Tryz.func253.trans (congrArg some (by kernel_rfl))
  f227 := Tryz.func254.trans (congrArg some (by kernel_rfl))
  f228 := Tryz.func255.trans (congrArg some (by kernel_rfl))
  f266 := Tryz.func344.trans (congrArg some (by kernel_rfl))
  t0 := Tryz.underlying0
  a0 := Tryz.isAgg0
  z0 := Tryz.sizeOf0
  v0 := Tryz.zeroValue0
  t3 := Tryz.underlying3
  a3 := Tryz.isAgg3
  z3 := Tryz.sizeOf3
  v3 := Tryz.zeroValue3
  t4 := Tryz.underlying4
  a4 := Tryz.isAgg4
  z4 := Tryz.sizeOf4
  v4 := Tryz.zeroValue4
  t5 := Tryz.underlying5
  a5 := Tryz.isAgg5
  z5 := Tryz.sizeOf5
  v5 := Tryz.zeroValue5
  t9 := Tryz.underlying9
  a9 := Tryz.isAgg9
  z9 := Tryz.sizeOf9
  v9 := Tryz.zeroValue9
  t21 := Tryz.underlying21
  a21 := Tryz.isAgg21
  z21 := Tryz.sizeOf21
  v21 := Tryz.zeroValue21
  t46 := Tryz.underlying97
  a46 := Tryz.isAgg97
  z46 := Tryz.sizeOf97
  v46 := Tryz.zeroValue97
  t116 := Tryz.underlying335
  a116 := Tryz.isAgg335
  z116 := Tryz.sizeOf335
  t117 := Tryz.underlying336
  a117 := Tryz.isAgg336
  z117 := Tryz.sizeOf336
  v117 := Tryz.zeroValue336
  t124 := Tryz.underlying379
  a124 := Tryz.isAgg379
  z124 := Tryz.sizeOf379
  v124 := Tryz.zeroValue379 }
open Go.RowKit Go.Lib in
theorem Tryz.strings_IndexAny_long (hv116 : ∀ w, (zeroValue 335).run Tryz.prog w = .ok (.agg (Array.replicate 256 (.bool false))) w) (s chars : ByteArray) (w : World) (h2 : 2 ≤ chars.size) (h8 : 8 < s.size) (hs : s.size < 4294967281) (hcs : chars.size < 4294967281) (hascii : ∀ (j : Nat) b, chars.data.toList[j]? = some b → b.toNat < 128) :
    Calls Tryz.prog 172 #[.string s, .string chars] w fun e w' => e = .returned (.int .i64 (Lib.indexAny s.data.toList chars.data.toList)) ∧ w' = ((w.alloc (.cells (Lib.setCells chars.data.toList) 335)).alloc (.cells (Lib.setCells chars.data.toList) 335)) := Any.strings_IndexAny_long Tryz.lays153 hv116 (by kernel_rfl) s chars w h2 h8 hs hcs hascii
def Tryz.lays110_ren : Go.Shelf.Ren := ⟨fun | 110 => 144 | 109 => 217 | n => n, fun | 31 => 169 | 9 => 9 | 4 => 4 | 3 => 3 | 0 => 0 | n => n, fun | n => n⟩
theorem Tryz.lays110 : Go.Proofs.Lays.n110 Tryz.prog Tryz.lays110_ren := {
  mixed := by kernel_rfl
  f109 := Tryz.func217.trans (congrArg some (by kernel_rfl))
  f110 := Tryz.func144.trans (congrArg some (by kernel_rfl))
  t0 := Tryz.underlying0
  a0 := Tryz.isAgg0
  z0 := Tryz.sizeOf0
  v0 := Tryz.zeroValue0
  t3 := Tryz.underlying3
  a3 := Tryz.isAgg3
  z3 := Tryz.sizeOf3
  v3 := Tryz.zeroValue3
  t4 := Tryz.underlying4
  a4 := Tryz.isAgg4
  z4 := Tryz.sizeOf4
  v4 := Tryz.zeroValue4
  t9 := Tryz.underlying9
  a9 := Tryz.isAgg9
  z9 := Tryz.sizeOf9
  v9 := Tryz.zeroValue9
  t31 := Tryz.underlying169
  a31 := Tryz.isAgg169
  z31 := Tryz.sizeOf169
  v31 := Tryz.zeroValue169 }
open Go.Lib in
theorem Tryz.slices_Contains_string (b off n c : Nat) (zs : List ByteArray) (x : ByteArray) (w : World) (hz : n ≤ zs.length) (hbig : n ≤ 9223372036854775807) (hc : ∀ j, j < zs.length → w.cell? ⟨b, off + j, none⟩ = some (.string (zs.getD j ByteArray.empty))) :
    Calls Tryz.prog 144 #[.slice (some ⟨b, off, none⟩) n c, .string x] w fun e w' => e = .returned (.bool (Lib.containsS (zs.take n) x)) ∧ w' = w := Any.slices_Contains_string Tryz.lays110 b off n c zs x w hz hbig hc
open Go.Lib in
theorem Tryz.slices_Contains_string_empty (a : Option Addr) (c : Nat) (x : ByteArray) (w : World) :
    Calls Tryz.prog 144 #[.slice a 0 c, .string x] w fun e w' => e = .returned (.bool false) ∧ w' = w := Any.slices_Contains_string_empty Tryz.lays110 a c x w
def Tryz.lays194_ren : Go.Shelf.Ren := ⟨fun | 194 => 265 | n => n, fun | 31 => 169 | 9 => 9 | 3 => 3 | 4 => 4 | 0 => 0 | n => n, fun | n => n⟩
theorem Tryz.lays194 : Go.Proofs.Lays.n194 Tryz.prog Tryz.lays194_ren := {
  mixed := by kernel_rfl
  f194 := Tryz.func265.trans (congrArg some (by kernel_rfl))
  t0 := Tryz.underlying0
  a0 := Tryz.isAgg0
  z0 := Tryz.sizeOf0
  v0 := Tryz.zeroValue0
  t3 := Tryz.underlying3
  a3 := Tryz.isAgg3
  z3 := Tryz.sizeOf3
  v3 := Tryz.zeroValue3
  t4 := Tryz.underlying4
  a4 := Tryz.isAgg4
  z4 := Tryz.sizeOf4
  v4 := Tryz.zeroValue4
  t9 := Tryz.underlying9
  a9 := Tryz.isAgg9
  z9 := Tryz.sizeOf9
  v9 := Tryz.zeroValue9
  t31 := Tryz.underlying169
  a31 := Tryz.isAgg169
  z31 := Tryz.sizeOf169
  v31 := Tryz.zeroValue169 }
open Go.RowKit Go.Lib Go.Sort in
theorem Tryz.slices_Compact_string (blk off cap : Nat) (zs : List (List UInt8)) (w : World) (hH : Holds encStr w blk off zs.toArray) (hsz : zs.length ≤ 9223372036854775807) (hcap : zs.length ≤ cap) :
    Calls Tryz.prog 265 #[.slice (some ⟨blk, off, none⟩) zs.length cap] w fun e w' => e = .returned (.slice (some ⟨blk, off, none⟩) (Lib.compact zs).length cap) ∧ ∃ q, w' = putRow encStr (Sort.ahead w q) blk off (Lib.compact zs ++ List.replicate (zs.length - (Lib.compact zs).length) []).toArray := Any.slices_Compact_string Tryz.lays194 blk off cap zs w hH hsz hcap
open Go.RowKit Go.Lib Go.Sort in
theorem Tryz.slices_Compact_string_empty (a : Option Addr) (cap : Nat) (w : World) :
    Calls Tryz.prog 265 #[.slice a 0 cap] w fun e w' => e = .returned (.slice a 0 cap) ∧ w' = w := Any.slices_Compact_string_empty Tryz.lays194 a cap w
def Tryz.laysNm225_ren : Go.Shelf.Ren := ⟨fun | 25 => 124 | 31 => 196 | 32 => 197 | 37 => 271 | n => n, fun | 22 => 45 | 3 => 3 | 4 => 4 | 40 => 97 | 0 => 0 | n => n, fun | n => n⟩
theorem Tryz.laysNm225 : Go.Proofs.Lays2.n25 Tryz.prog Tryz.laysNm225_ren := {
  mixed := by kernel_rfl
  f25 := Tryz.func124.trans (congrArg some (by kernel_rfl))
  f31 := Tryz.func196.trans (congrArg some (by kernel_rfl))
  f32 := Tryz.func197.trans (congrArg some (by kernel_rfl))
  f37 := Tryz.func271.trans (congrArg some (by kernel_rfl))
  t0 := Tryz.underlying0
  a0 := Tryz.isAgg0
  z0 := Tryz.sizeOf0
  v0 := Tryz.zeroValue0
  t3 := Tryz.underlying3
  a3 := Tryz.isAgg3
  z3 := Tryz.sizeOf3
  v3 := Tryz.zeroValue3
  t4 := Tryz.underlying4
  a4 := Tryz.isAgg4
  z4 := Tryz.sizeOf4
  v4 := Tryz.zeroValue4
  t22 := Tryz.underlying45
  a22 := Tryz.isAgg45
  z22 := Tryz.sizeOf45
  v22 := Tryz.zeroValue45
  t40 := Tryz.underlying97
  a40 := Tryz.isAgg97
  z40 := Tryz.sizeOf97
  v40 := Tryz.zeroValue97 }
open Go.RowKit Go.Lib in
theorem Tryz.slices_BinarySearch_int (b off n c : Nat) (zs : List Int) (x : Int) (w : World) (hz : n ≤ zs.length) (hbig : n < 4611686018427387904) (hc : ∀ j, j < zs.length → w.cell? ⟨b, off + j, none⟩ = some (.int .i64 (zs.getD j 0))) (hs : (zs.take n).Pairwise (· ≤ ·)) :
    Calls Tryz.prog 124 #[.slice (some ⟨b, off, none⟩) n c, .int .i64 x] w fun e w' => e = .returned (.tuple #[.int .i64 ((zs.take n).countP (· < x) : Nat), .bool ((zs.take n).contains x)]) ∧ ∃ q, w' = w.drewN q := Any.slices_BinarySearch_int Tryz.laysNm225 b off n c zs x w hz hbig hc hs
def Tryz.laysNm223_ren : Go.Shelf.Ren := ⟨fun | 23 => 205 | n => n, fun | 22 => 45 | 3 => 3 | 4 => 4 | 0 => 0 | n => n, fun | n => n⟩
theorem Tryz.laysNm223 : Go.Proofs.Lays2.n23 Tryz.prog Tryz.laysNm223_ren := {
  mixed := by kernel_rfl
  f23 := Tryz.func205.trans (congrArg some (by kernel_rfl))
  t0 := Tryz.underlying0
  a0 := Tryz.isAgg0
  z0 := Tryz.sizeOf0
  v0 := Tryz.zeroValue0
  t3 := Tryz.underlying3
  a3 := Tryz.isAgg3
  z3 := Tryz.sizeOf3
  v3 := Tryz.zeroValue3
  t4 := Tryz.underlying4
  a4 := Tryz.isAgg4
  z4 := Tryz.sizeOf4
  v4 := Tryz.zeroValue4
  t22 := Tryz.underlying45
  a22 := Tryz.isAgg45
  z22 := Tryz.sizeOf45
  v22 := Tryz.zeroValue45
  i3 := by kernel_rfl }
open Go.RowKit Go.Lib Go.Sort in
theorem Tryz.slices_Delete_int_cells (b off n c i j : Nat) (zs : List Int) (w : World) (hz : n ≤ zs.length) (hcap : n ≤ c) (hm : c ≤ 9223372036854775807) (hij : i ≤ j) (hj : j ≤ n) (hc : ∀ j, j < zs.length → w.cell? ⟨b, off + j, none⟩ = some (.int .i64 (zs.getD j 0))) (hf : ∀ j, j < n → w.frozen? ⟨b, off + j, none⟩ = false) :
    Calls Tryz.prog 205 #[.slice (some ⟨b, off, none⟩) n c, .int .i64 i, .int .i64 j] w fun e w' => e = .returned (.slice (some ⟨b, off, none⟩) (n - (j - i)) c) ∧ ∃ q, w' = (w.drewN q).setCells b off (((zs.take n).take i ++ (zs.take n).drop j ++ List.replicate (j - i) 0).map (Value.int .i64)) := Any.slices_Delete_int_cells Tryz.laysNm223 b off n c i j zs w hz hcap hm hij hj hc hf
open Go.RowKit Go.Sort in
theorem Tryz.slices_Sort_string_none (p : Option Addr) (cap : Nat) (w : World) :
    Calls Tryz.prog 264 #[.slice p 0 cap] w fun e w' => e = .returned (.tuple #[]) ∧ w' = w := Any.slices_Sort_string_none Tryz.lays190 p cap w
open Go.RowKit Go.Sort in
theorem Tryz.slices_Sort_int_none (p : Option Addr) (cap : Nat) (w : World) :
    Calls Tryz.prog 216 #[.slice p 0 cap] w fun e w' => e = .returned (.tuple #[]) ∧ w' = w := Any.slices_Sort_int_none Tryz.lays189 p cap w
open Go.RowKit Go.Lib in
theorem Tryz.slices_BinarySearch_int_empty (a : Option Addr) (c : Nat) (x : Int) (w : World) :
    Calls Tryz.prog 124 #[.slice a 0 c, .int .i64 x] w fun e w' => e = .returned (.tuple #[.int .i64 0, .bool false]) ∧ w' = w := Any.slices_BinarySearch_int_empty Tryz.laysNm225 a c x w
end Go.Proofs
namespace Go.Proofs.YtbgbeddbfaopgaaGreatDoor
open Go.RowKit Go.Lk
def ZdF (c:UInt8):Bool:=(decide (97≤c.toNat)&&decide (c.toNat≤122))||(decide (65≤c.toNat)&&decide (c.toNat≤90))
theorem ZjI (c:UInt8) (w:World):
  Calls Tryz.prog 296 #[.int .u8 (c.toNat:Int)] w fun e w'=>e= .returned (.bool (ZdF c))∧w=w':=by
 rcases(show 97≤c.toNat∧c.toNat≤122∨(122<c.toNat)∨(65≤c.toNat∧c.toNat≤90)∨(90<c.toNat∧c.toNat<97)∨c.toNat<65 by omega)with⟨a,b⟩|a|⟨a,b⟩|⟨a,b⟩|a
 ·have e:ZdF c=true:=by simp[ZdF,a,b]
  rw[e]
  go_enter Tryz.func296,Tryz.ntmps296
  go_wp2
  go_ret
  first|exact⟨rfl,rfl⟩|(refine⟨?_,rfl⟩;simp;omega)
 ·have e:ZdF c=false:=by simp[ZdF];omega
  rw[e]
  go_enter Tryz.func296,Tryz.ntmps296
  go_wp2
  go_ret
  first|exact⟨rfl,rfl⟩|(refine⟨?_,rfl⟩;simp;omega)
 ·have e:ZdF c=true:=by simp[ZdF,a,b]
  rw[e]
  go_enter Tryz.func296,Tryz.ntmps296
  go_wp2
  go_ret
  first|exact⟨rfl,rfl⟩|(refine⟨?_,rfl⟩;simp;omega)
 ·have e:ZdF c=false:=by simp[ZdF];omega
  rw[e]
  go_enter Tryz.func296,Tryz.ntmps296
  go_wp2
  go_ret
  first|exact⟨rfl,rfl⟩|(refine⟨?_,rfl⟩;simp;omega)
 ·have e:ZdF c=false:=by simp[ZdF];omega
  rw[e]
  go_enter Tryz.func296,Tryz.ntmps296
  go_wp2
  go_ret
  first|exact⟨rfl,rfl⟩|(refine⟨?_,rfl⟩;simp;omega)
theorem Zo5:∀n:Fin 256,decide (Lib.indexByte [33,35,36,37,38,39,42,43,45,46,94,95,96,124,126] (UInt8.ofNat n.val)<0)= !([33,35,36,37,38,39,42,43,45,46,94,95,96,124,126]:List UInt8).contains (UInt8.ofNat n.val):=by decide+kernel
theorem ZpI (c:UInt8):decide (Lib.indexByte (⟨#[33,35,36,37,38,39,42,43,45,46,94,95,96,124,126]⟩:ByteArray).data.toList ((c.toNat:Int).toNat.toUInt8)<0)= !([33,35,36,37,38,39,42,43,45,46,94,95,96,124,126]:List UInt8).contains c:=by
 rw[show((c.toNat:Int).toNat.toUInt8)=c by simp]
 have:=Zo5 ⟨c.toNat,c.toNat_lt⟩
 simpa using this
theorem Zdw {P:Prop}(h:P:=by
 go_wp2_with fail
 go_roundw
 case rel=>exact⟨k+1,by omega,by go_num,by rw[d.out,b.out];simp,trivial⟩
 case measure=>simp[intOf];omega):P:=h
theorem Zco (s:List UInt8) (w:World) (hlen:s.length≤1000000):
  Calls Tryz.prog 231 #[.string ⟨s.toArray⟩] w fun e w'=>e= .returned (.bool (Zaz s))∧w=w':=by
 go_enter Tryz.func231,Tryz.ntmps231
 go_wp2_with fail
 go_loopw[6] (fun v6 wr=>∃(k:Nat),k≤s.length∧v6= .int .i64 k∧(s.take k).all Zk0=true∧wr=w) (fun v6 _=>s.length-(intOf v6).toNat)
 case atStart=>exact⟨0,by omega,rfl,by simp,rfl⟩
 case round=>
  obtain⟨k,I,rfl,ha,rfl⟩:=hrel
  have q:=D ha;clear ha
  by_cases l:k<s.length
  ·have hg:=Zar s k l
   go_wp2_with fail
   refine(ZjI _ _).mono ?_
   rintro e y ⟨rfl,rfl⟩
   obtain⟨c,i⟩:=Je (s[k])
   rw[←i]at hg⊢
   have d:(s.take (k+1)).all Zk0=Zk0 c:=by rw[Xr l,List.all_append,q.out,←i];simp
   have p:Zk0 c=false→Zaz s=false:=by
    intro h
    unfold Zaz
    have:s.all Zk0=false:=by
     rw[Bool.eq_false_iff];intro t
     rw[Xk]at t
     have:=t c (by rw[i];exact List.getElem_mem l)
     rw[h]at this;cases this
    rw[this,Bool.and_false]
   have E:=D p
   clear i p;change Hid _ at d
   have b:Zk0 c=(ZdF c||Zc1 c||([33,35,36,37,38,39,42,43,45,46,94,95,96,124,126]:List UInt8).contains c):=rfl
   have a:=ZpI c
   obtain⟨H,o⟩:=Je (([33,35,36,37,38,39,42,43,45,46,94,95,96,124,126]:List UInt8).contains c)
   rw[←o]at a b
   obtain⟨lt,j⟩:=Je (ZdF c)
   obtain⟨G,m⟩:=Je (Zc1 c)
   rw[←j,←m]at b
   rw[←j]
   have F:=D a
   clear a o j;change Hid _ at b m
   cases lt
   case true=>
    exact Zdw
   case false=>
    go_wp2_with fail
    refine(Zhh _ _).mono ?_
    rintro e y ⟨rfl,rfl⟩
    rw[←m.out]
    cases G
    case true=>
     exact Zdw
    case false=>
     go_wp2_with fail
     refine(Tryz.strings_IndexByte _ _ _).mono ?_
     rintro e y ⟨rfl,rfl⟩
     obtain⟨z,x⟩:∃z:Int,z=Lib.indexByte (⟨#[33,35,36,37,38,39,42,43,45,46,94,95,96,124,126]⟩:ByteArray).data.toList ((c.toNat:Int).toNat.toUInt8):=⟨_,rfl⟩
     have a:=F.out
     rw[←x]at a⊢
     clear x
     cases H
     case true=>
      have C:¬z<0:=by simpa using a
      clear a
      exact Zdw
     case false=>
      have C:z<0:=by simpa using a
      clear a
      have r:=E.out (by rw[b.out];rfl)
      have g:=D r;clear r
      go_wp2
      go_ret
      rw[g.out]
      exact⟨rfl,rfl⟩
  ·obtain rfl:k=s.length:=by omega
   have n:s.all Zk0=true:=by have:=q.out;rwa [Xm]at this
   have g:Zaz s=decide (s≠[]):=by unfold Zaz;rw[n,Bool.and_true]
   clear n;change Hid _ at g
   go_wp2
   go_ret
   rw[g.out]
   refine⟨?_,rfl⟩
   cases s<;>rfl
theorem Zre {α:Type} {p:α→Bool} {l:List α} {m:α} (h1:(l.take k).find? p=none) (h2:l[k]? =some m) (h3:p m=true):l.find? p=some m:=by
 have a:=(Jk h2)
 have e:l=l.take k++(m::l.drop (k+1)):=by
  conv=>lhs;rw[←List.take_append_drop k l]
  rw[List.drop_eq_getElem_cons a,(List.getElem?_eq_some_iff.1 h2).2]
 rw[e,List.find?_append,h1,List.find?_cons_of_pos h3]
 rfl
theorem Zn4 {α:Type} {p:α→Bool} {l:List α} {m:α} (h1:(l.take k).find? p=none) (h2:l[k]? =some m) (h3:p m=false):(l.take (k+1)).find? p=none:=by
 have a:=(Jk h2)
 rw[Xr a,(List.getElem?_eq_some_iff.1 h2).2,List.find?_append,h1]
 simp[h3]
theorem ZcS (w:World) {i:Nat} (hi:i<6) (hm:(#[.string ⟨#[68,69,76,69,84,69]⟩, .string ⟨#[71,69,84]⟩, .string ⟨#[72,69,65,68]⟩, .string ⟨#[79,80,84,73,79,78,83]⟩, .string ⟨#[80,79,83,84]⟩, .string ⟨#[80,85,84]⟩]:Array Value)[i]? =some m):
  (Instr.index 347 (.agg #[.string ⟨#[68,69,76,69,84,69]⟩, .string ⟨#[71,69,84]⟩, .string ⟨#[72,69,65,68]⟩, .string ⟨#[79,80,84,73,79,78,83]⟩, .string ⟨#[80,79,83,84]⟩, .string ⟨#[80,85,84]⟩]) (.int .i64 (i:Int))).run Tryz.prog w= .ok m w:=by
 rcases(show i=0∨i=1∨i=2∨i=3∨i=4∨i=5 by omega)with rfl|rfl|rfl|rfl|rfl|rfl<;>
 ·simp only[Xh,Xf,Xg,Option.some.injEq]at hm
  subst hm
  simp[Instr.index,run_underlying Tryz.underlying347,asIntOf,go_sem,Tryz.sizeOf9]
theorem Zgj (x:Bs) (w:World) (hx:x.length≤1000000):
  Calls Tryz.prog 190 #[.string ⟨x.toArray⟩] w fun e w'=>e= .returned (.string ⟨(ZcB x).toArray⟩)∧Zg [] w w':=by
 obtain⟨r,j⟩:=Je (ZcB x)
 have E:=D j
 rw[←j]
 clear j
 have G:Hid (∀(m:Bs) (w:World),m.length≤1000000→Calls Tryz.prog 248 #[.string ⟨x.toArray⟩, .string ⟨m.toArray⟩] w fun e w'=>e= .returned (.bool (Zb2 x m))∧Zg [] w w'):=D fun m w I=>ZfI x m w hx I
 go_enter Tryz.func190,Tryz.ntmps190
 go_wp2_with fail
 go_loopw[6] (fun v6 wr=>∃(k:Nat),k≤6∧v6= .int .i64 k∧(ZdG.take k).find? (fun m=>Zb2 x m)=none∧Zg [] w wr) (fun v6 _=>6-(intOf v6).toNat)
 case atStart=>exact⟨0,by omega,rfl,rfl,Zg.refl _ _⟩
 case round=>
  obtain⟨k,K,rfl,o,C⟩:=hrel
  have l:=D o;have z:=D C
  clear o C
  rcases(show k=0∨k=1∨k=2∨k=3∨k=4∨k=5∨k=6 by omega)with rfl|rfl|rfl|rfl|rfl|rfl|rfl
  case inr.inr.inr.inr.inr.inr=>
   have t:r=[]:=by rw[E.out];unfold ZcB;rw[show ZdG=ZdG.take 6 from rfl,l.out];rfl
   change Hid _ at t
   rw[show((6:Nat):Int)=6 from rfl]
   go_wp2_with fail
   go_ret
   exact⟨by rw[t.out];rfl,z.out⟩
  case' inl=>
   rw[show((0:Nat):Int)=0 from rfl]
   have a:=ZcS wr (i:=0) (m:= .string ⟨#[68,69,76,69,84,69]⟩) (by omega) rfl
   rw[show((0:Nat):Int)=0 from rfl]at a
   obtain⟨d,c⟩:∃m:Bs,m=[68,69,76,69,84,69]:=⟨_,rfl⟩
  case' inr.inl=>
   rw[show((1:Nat):Int)=1 from rfl]
   have a:=ZcS wr (i:=1) (m:= .string ⟨#[71,69,84]⟩) (by omega) rfl
   rw[show((1:Nat):Int)=1 from rfl]at a
   obtain⟨d,c⟩:∃m:Bs,m=[71,69,84]:=⟨_,rfl⟩
  case' inr.inr.inl=>
   rw[show((2:Nat):Int)=2 from rfl]
   have a:=ZcS wr (i:=2) (m:= .string ⟨#[72,69,65,68]⟩) (by omega) rfl
   rw[show((2:Nat):Int)=2 from rfl]at a
   obtain⟨d,c⟩:∃m:Bs,m=[72,69,65,68]:=⟨_,rfl⟩
  case' inr.inr.inr.inl=>
   rw[show((3:Nat):Int)=3 from rfl]
   have a:=ZcS wr (i:=3) (m:= .string ⟨#[79,80,84,73,79,78,83]⟩) (by omega) rfl
   rw[show((3:Nat):Int)=3 from rfl]at a
   obtain⟨d,c⟩:∃m:Bs,m=[79,80,84,73,79,78,83]:=⟨_,rfl⟩
  case' inr.inr.inr.inr.inl=>
   rw[show((4:Nat):Int)=4 from rfl]
   have a:=ZcS wr (i:=4) (m:= .string ⟨#[80,79,83,84]⟩) (by omega) rfl
   rw[show((4:Nat):Int)=4 from rfl]at a
   obtain⟨d,c⟩:∃m:Bs,m=[80,79,83,84]:=⟨_,rfl⟩
  case' inr.inr.inr.inr.inr.inl=>
   rw[show((5:Nat):Int)=5 from rfl]
   have a:=ZcS wr (i:=5) (m:= .string ⟨#[80,85,84]⟩) (by omega) rfl
   rw[show((5:Nat):Int)=5 from rfl]at a
   obtain⟨d,c⟩:∃m:Bs,m=[80,85,84]:=⟨_,rfl⟩
  all_goals
   have q:=G.out d wr (by rw[c];simp)
   obtain⟨b,g⟩:=Je (Zb2 x d)
   rw[←g]at q
   have y:b=true→r=d:=fun h=>by
    rw[E.out];unfold ZcB
    rw[Zre (m:=d) l (by rw[c];rfl) (by rw[←g];exact h)];rfl
   have s:=fun h:b=false=>Zn4 l (m:=d) (by rw[c];rfl) (by rw[←g];exact h)
   have F:=D y;have H:=D s;have Q:=D q;have J:=D c
   clear y s g q
   subst c
   go_wp2_with fail
   refine Q.out.mono ?_
   rintro e L ⟨rfl,n⟩
   have p:=Jt z n;clear n Q
   cases b with
   |true=>
    go_wp2_with fail
    go_ret
    exact⟨by rw[F.out trivial];rfl,p.out⟩
   |false=>
    go_wp2_with fail
    refine⟨⟨_,?_,?_,H.out trivial,p.out⟩,?_⟩
    ·decide
    ·rfl
    ·decide
theorem Zlo (x:Bs) (w:World) (hx:x.length≤1000000):
  Calls Tryz.prog 116 #[.string ⟨x.toArray⟩] w fun e w'=>e= .returned (.string ⟨(ZdJ x).toArray⟩)∧Zg [] w w':=by
 obtain⟨k,c⟩:=Je (ZcB x)
 have q:=Zgj x w hx
 rw[←c]at q
 have Q:=D q
 clear q;change Hid _ at c
 by_cases h:k=[]
 ·have b:ZdJ x=x:=by unfold ZdJ;rw[←c.out,h];rfl
  rw[b]
  have g:(k==[])=true:=by rw[h];rfl
  clear b h
  go_enter Tryz.func116,Tryz.ntmps116
  go_wp2_with fail
  refine Q.out.mono ?_
  rintro e i ⟨rfl,a⟩
  have d:=D a;clear a
  go_wp2_with fail
  go_ret
  exact⟨rfl,d.out⟩
 ·have b:ZdJ x=k:=by unfold ZdJ;rw[←c.out,if_pos (by simpa using h)]
  rw[b]
  have g:(k==[])=false:=by rw[beq_eq_false_iff_ne];exact h
  clear b
  go_enter Tryz.func116,Tryz.ntmps116
  go_wp2_with fail
  refine Q.out.mono ?_
  rintro e i ⟨rfl,a⟩
  have d:=D a;clear a
  go_wp2_with fail
  go_ret
  exact⟨rfl,d.out⟩
theorem Zlg (x:Bs) (w:World) (hx:x.length≤1000000):
  Calls Tryz.prog 262 #[.string ⟨x.toArray⟩] w fun e w'=>e= .returned (.bool (ZlC x))∧Zg [] w w':=by
 have b:Hid (∀(m:Bs) (w:World),m.length≤1000000→Calls Tryz.prog 248 #[.string ⟨x.toArray⟩, .string ⟨m.toArray⟩] w fun e w'=>e= .returned (.bool (Zb2 x m))∧Zg [] w w'):=D fun m w F=>ZfI x m w hx F
 obtain⟨s,i⟩:=Je (Zb2 x [67,79,78,78,69,67,84])
 obtain⟨r,j⟩:=Je (Zb2 x [84,82,65,67,69])
 obtain⟨y,h⟩:=Je (Zb2 x [84,82,65,67,75])
 have q:ZlC x=(s||r||y):=by unfold ZlC;rw[←i,←j,←h]
 rw[q]
 have g:=b.out [67,79,78,78,69,67,84] w (by simp)
 have c:=fun a=>b.out [84,82,65,67,69] a (by simp)
 have d:=fun a=>b.out [84,82,65,67,75] a (by simp)
 rw[←i]at g
 simp only[←j]at c
 simp only[←h]at d
 have C:=D g;have z:=D c;have E:=D d
 clear g c d q i j h b
 go_enter Tryz.func262,Tryz.ntmps262
 go_wp2_with fail
 refine C.out.mono ?_
 rintro e a ⟨rfl,n⟩
 have l:=D n;clear n
 cases s with
 |true=>
  go_wp2_with fail
  go_ret
  exact⟨rfl,l.out⟩
 |false=>
 go_wp2_with fail
 refine(z.out a).mono ?_
 rintro e G ⟨rfl,k⟩
 have p:=Jt l k;clear k
 cases r with
 |true=>
  go_wp2_with fail
  go_ret
  exact⟨rfl,p.out⟩
 |false=>
 go_wp2_with fail
 refine(E.out G).mono ?_
 rintro e H ⟨rfl,o⟩
 have t:=Jt p o;clear o
 go_wp2_with fail
 go_ret
 exact⟨rfl,t.out⟩
theorem ZeL (x:Bs) (w:World) (hx:x.length≤1000000):
  Calls Tryz.prog 182 #[.string ⟨x.toArray⟩] w fun e w'=>e= .returned (.bool (ZfX x))∧Zg [] w w':=by
 obtain⟨k,b⟩:=Je (ZcB x)
 have q:=Zgj x w hx
 rw[←b]at q
 obtain⟨l,c⟩:=Je ((k==[71,69,84]))
 obtain⟨j,d⟩:=Je ((k==[72,69,65,68]))
 obtain⟨h,a⟩:=Je ((k==[80,79,83,84]))
 have i:ZfX x=(l||j||h):=by unfold ZfX;rw[←b,←c,←d,←a]
 rw[i]
 have Q:=D q
 have o:=c.symm;have n:=d.symm;have p:=a.symm
 clear q b i c d a
 cases l<;>cases j<;>cases h
 all_goals
  go_enter Tryz.func182,Tryz.ntmps182
  go_wp2_with fail
  refine Q.out.mono ?_
  rintro e r ⟨rfl,g⟩
  have m:=D g;clear g
  go_wp2_with fail
  go_ret
  exact⟨rfl,m.out⟩
theorem ZeD (a b:Nat) (ha:a≤18446744073709551615) (hb:b≤18446744073709551615) (w:World):
  Calls Tryz.prog 129 #[.int .u64 a, .int .u64 b] w fun e w'=>e= .returned (.int .u64 (addT a b:Nat))∧w'=w:=by
 by_cases h:18446744073709551615<a+b
 ·have c:addT a b=18446744073709551615:=by unfold addT;rw[if_pos h]
  rw[c]
  have d:(18446744073709551615:Int)-a<b:=by omega
  go_enter Tryz.func129,Tryz.ntmps129
  go_wp2_with fail
  go_ret
  exact⟨rfl,rfl⟩
 ·have c:addT a b=a+b:=by unfold addT;rw[if_neg h]
  rw[c]
  have d:¬((18446744073709551615:Int)-a<b):=by omega
  go_enter Tryz.func129,Tryz.ntmps129
  go_wp2_with fail
  go_ret
  exact⟨by first|rfl|(congr 2;omega)|simp,rfl⟩
end Go.Proofs.YtbgbeddbfaopgaaGreatDoor
