/-
  The shelf's contracts at this program, in plain words (laid by the kit's tool lay-plain; pruned).
-/
import Derived.Shelf.Strings.Builder1
import Derived.Shelf.Small.Bits
import Derived.Shelf.Small.Strs
import Derived.Shelf.Small.Wraps
import Derived.Shelf.Strconv.Atoi
import Derived.Shelf.Strconv.Itoa0
import Derived.Shelf.Strconv.Itoa1
import Derived.Shelf.LaysM
import Derived.Shelf.Strconv.Itoa2
import Derived.Shelf.Strconv.Itoa3
import Derived.Shelf.Strconv.AtoiErrFast
import Derived.Shelf.Strconv.ParseIntEmpty
import Derived.Shelf.Strconv.AtoiFail
import Derived.Shelf.Strconv.Clone
import Derived.Shelf.Strconv.SyntaxError
import Derived.Shelf.LaysC
import Derived.Shelf.Strconv.ToError
import Derived.Shelf.Strconv.Lower
import Derived.Shelf.Strconv.ParseUint10
import Derived.Shelf.Strconv.ParseUint10Empty
import Derived.Shelf.Strconv.ParseUint10Any
import Derived.Shelf.Strconv.RangeError
import Derived.Shelf.Strconv.ToErrorRange
import Derived.Shelf.Strings.Search1
import Derived.Shelf.Strings.Search2
import Derived.Shelf.Strings.Cut
import Derived.Shelf.Strings.Shaped
import Derived.Shelf.Sort.Plain
import Derived.Shelf.Strings.Prefix
import Derived.Ground.Names2Prog
import Derived.Shelf.Slices.Clone
import Derived.Shelf.Slices.In.SortNone
import Derived.Ground.SlgnProg
import Derived.Shelf.SlicesE.Clone
import Derived.Test.YtdkafeammgaknaaGreatDoorProg
set_option linter.unusedSectionVars false
set_option linter.unusedVariables false
set_option linter.unusedSimpArgs false
namespace Go.Proofs
open Go.Shelf
def Tryz.lays106_ren : Go.Shelf.Ren := ⟨fun | 106 => 172 | 213 => 257 | 265 => 313 | n => n,fun | 9 => 9 | 3 => 3 | n => n,fun | n => n⟩
theorem Tryz.lays106 : Go.Proofs.Lays.n106 Tryz.prog Tryz.lays106_ren := {
 mixed := by kernel_rfl
 f106 := Tryz.func172.trans (congrArg some (by kernel_rfl))
 f213 := Tryz.func257.trans (congrArg some (by kernel_rfl))
 f265 := Tryz.func313.trans (congrArg some (by kernel_rfl))
 t3 := Tryz.underlying3
 a3 := Tryz.isAgg3
 z3 := Tryz.sizeOf3
 v3 := Tryz.zeroValue3
 t9 := Tryz.underlying9
 a9 := Tryz.isAgg9
 z9 := Tryz.sizeOf9
 v9 := Tryz.zeroValue9 }
open Go.RowKit in
theorem Tryz.strings_Compare (a b : ByteArray) (w : World) :
  Calls Tryz.prog 172 #[.string a,.string b] w fun e w' => e = .returned (.int .i64 (Lib.compareBytes a.data.toList b.data.toList)) ∧ w' = w := Any.strings_Compare Tryz.lays106 a b w
def Tryz.lays103_ren : Go.Shelf.Ren := ⟨fun | 103 => 170 | 210 => 255 | 206 => 301 | n => n,fun | 9 => 9 | 4 => 4 | 24 => 263 | 3 => 3 | n => n,fun | n => n⟩
theorem Tryz.lays103 : Go.Proofs.Lays.n103 Tryz.prog Tryz.lays103_ren := {
 mixed := by kernel_rfl
 f103 := Tryz.func170.trans (congrArg some (by kernel_rfl))
 f206 := Tryz.func301.trans (congrArg some (by kernel_rfl))
 f210 := Tryz.func255.trans (congrArg some (by kernel_rfl))
 t3 := Tryz.underlying3
 a3 := Tryz.isAgg3
 z3 := Tryz.sizeOf3
 v3 := Tryz.zeroValue3
 t4 := Tryz.underlying4
 a4 := Tryz.isAgg4
 z4 := Tryz.sizeOf4
 v4 := Tryz.zeroValue4
 t9 := Tryz.underlying9
 a9 := Tryz.isAgg9
 z9 := Tryz.sizeOf9
 v9 := Tryz.zeroValue9
 t24 := Tryz.underlying263
 a24 := Tryz.isAgg263
 z24 := Tryz.sizeOf263
 v24 := Tryz.zeroValue263 }
open Go.RowKit in
theorem Tryz.strings_CutPrefix (s p : ByteArray) (w : World) :
  Calls Tryz.prog 170 #[.string s,.string p] w fun e w' => e = .returned (.tuple #[.string ⟨(Lib.trimPrefix s.data.toList p.data.toList).toArray⟩,.bool (Lib.hasPrefix s.data.toList p.data.toList)]) ∧ w' = w := Any.strings_CutPrefix Tryz.lays103 s p w
def Tryz.lays172_ren : Go.Shelf.Ren := ⟨fun | 172 => 240 | 244 => 302 | 245 => 303 | 247 => 350 | 279 => 351 | 280 => 352 | 281 => 353 | 282 => 354 | 287 => 304 | 316 => 374 | 171 => 118 | 205 => 375 | 321 => 355 | 322 => 356 | 243 => 186 | 246 => 271 | 283 => 327 | 284 => 328 | 285 => 329 | 286 => 330 | 129 => 168 | 317 => 364 | 318 => 365 | 319 => 366 | 320 => 367 | 337 => 376 | 338 => 377 | n => n,fun | 9 => 9 | 3 => 3 | 75 => 346 | 76 => 347 | 4 => 4 | 5 => 5 | 167 => 436 | 37 => 165 | 0 => 0 | 85 => 437 | 2 => 2 | 168 => 439 | 53 => 302 | 175 => 349 | 46 => 221 | 210 => 457 | 127 => 401 | 145 => 465 | 143 => 463 | 21 => 21 | 171 => 417 | 173 => 419 | 212 => 449 | 51 => 300 | 20 => 20 | 213 => 450 | 232 => 466 | 233 => 467 | 80 => 360 | n => n,fun | 15 => 2 | 16 => 3 | 17 => 1 | 18 => 4 | 19 => 5 | n => n⟩
theorem Tryz.lays172 : Go.Proofs.Lays.n172 Tryz.prog Tryz.lays172_ren := {
 mixed := by kernel_rfl
 f129 := Tryz.func168.trans (congrArg some (by kernel_rfl))
 f171 := Tryz.func118.trans (congrArg some (by kernel_rfl))
 f172 := Tryz.func240.trans (congrArg some (by kernel_rfl))
 f205 := Tryz.func375.trans (congrArg some (by kernel_rfl))
 f243 := Tryz.func186.trans (congrArg some (by kernel_rfl))
 f244 := Tryz.func302.trans (congrArg some (by kernel_rfl))
 f245 := Tryz.func303.trans (congrArg some (by kernel_rfl))
 f246 := Tryz.func271.trans (congrArg some (by kernel_rfl))
 f247 := Tryz.func350.trans (congrArg some (by kernel_rfl))
 f279 := Tryz.func351.trans (congrArg some (by kernel_rfl))
 f280 := Tryz.func352.trans (congrArg some (by kernel_rfl))
 f281 := Tryz.func353.trans (congrArg some (by kernel_rfl))
 f282 := Tryz.func354.trans (congrArg some (by kernel_rfl))
 f283 := Tryz.func327.trans (congrArg some (by kernel_rfl))
 f284 := Tryz.func328.trans (congrArg some (by kernel_rfl))
 f285 := Tryz.func329.trans (congrArg some (by kernel_rfl))
 f286 := Tryz.func330.trans (congrArg some (by kernel_rfl))
 f287 := Tryz.func304.trans (congrArg some (by kernel_rfl))
 f316 := Tryz.func374.trans (congrArg some (by kernel_rfl))
 f317 := Tryz.func364.trans (congrArg some (by kernel_rfl))
 f318 := Tryz.func365.trans (congrArg some (by kernel_rfl))
 f319 := Tryz.func366.trans (congrArg some (by kernel_rfl))
 f320 := Tryz.func367.trans (congrArg some (by kernel_rfl))
 f321 := Tryz.func355.trans (congrArg some (by kernel_rfl))
 f322 := Tryz.func356.trans (congrArg some (by kernel_rfl))
 f337 := Tryz.func376.trans (congrArg some (by kernel_rfl))
 f338 := Tryz.func377.trans (congrArg some (by kernel_rfl))
 t0 := Tryz.underlying0
 a0 := Tryz.isAgg0
 z0 := Tryz.sizeOf0
 v0 := Tryz.zeroValue0
 t2 := Tryz.underlying2
 a2 := Tryz.isAgg2
 z2 := Tryz.sizeOf2
 v2 := Tryz.zeroValue2
 t3 := Tryz.underlying3
 a3 := Tryz.isAgg3
 z3 := Tryz.sizeOf3
 v3 := Tryz.zeroValue3
 t4 := Tryz.underlying4
 a4 := Tryz.isAgg4
 z4 := Tryz.sizeOf4
 v4 := Tryz.zeroValue4
 t5 := Tryz.underlying5
 a5 := Tryz.isAgg5
 z5 := Tryz.sizeOf5
 v5 := Tryz.zeroValue5
 t9 := Tryz.underlying9
 a9 := Tryz.isAgg9
 z9 := Tryz.sizeOf9
 v9 := Tryz.zeroValue9
 t20 := Tryz.underlying20
 a20 := Tryz.isAgg20
 z20 := Tryz.sizeOf20
 v20 := Tryz.zeroValue20
 t21 := Tryz.underlying21
 a21 := Tryz.isAgg21
 z21 := Tryz.sizeOf21
 v21 := Tryz.zeroValue21
 t37 := Tryz.underlying165
 a37 := Tryz.isAgg165
 z37 := Tryz.sizeOf165
 v37 := Tryz.zeroValue165
 t46 := Tryz.underlying221
 a46 := Tryz.isAgg221
 z46 := Tryz.sizeOf221
 v46 := Tryz.zeroValue221
 t51 := Tryz.underlying300
 a51 := Tryz.isAgg300
 z51 := Tryz.sizeOf300
 v51 := Tryz.zeroValue300
 t53 := Tryz.underlying302
 a53 := Tryz.isAgg302
 z53 := Tryz.sizeOf302
 v53 := Tryz.zeroValue302
 t75 := Tryz.underlying346
 a75 := Tryz.isAgg346
 z75 := Tryz.sizeOf346
 v75 := Tryz.zeroValue346
 t76 := Tryz.underlying347
 a76 := Tryz.isAgg347
 z76 := Tryz.sizeOf347
 v76 := Tryz.zeroValue347
 t85 := Tryz.underlying437
 a85 := Tryz.isAgg437
 z85 := Tryz.sizeOf437
 v85 := Tryz.zeroValue437
 t127 := Tryz.underlying401
 a127 := Tryz.isAgg401
 z127 := Tryz.sizeOf401
 v127 := Tryz.zeroValue401
 t143 := Tryz.underlying463
 a143 := Tryz.isAgg463
 z143 := Tryz.sizeOf463
 v143 := Tryz.zeroValue463
 t145 := Tryz.underlying465
 a145 := Tryz.isAgg465
 z145 := Tryz.sizeOf465
 v145 := Tryz.zeroValue465
 t167 := Tryz.underlying436
 a167 := Tryz.isAgg436
 z167 := Tryz.sizeOf436
 v167 := Tryz.zeroValue436
 t168 := Tryz.underlying439
 a168 := Tryz.isAgg439
 z168 := Tryz.sizeOf439
 v168 := Tryz.zeroValue439
 t171 := Tryz.underlying417
 a171 := Tryz.isAgg417
 z171 := Tryz.sizeOf417
 v171 := Tryz.zeroValue417
 t173 := Tryz.underlying419
 a173 := Tryz.isAgg419
 z173 := Tryz.sizeOf419
 v173 := Tryz.zeroValue419
 t175 := Tryz.underlying349
 a175 := Tryz.isAgg349
 z175 := Tryz.sizeOf349
 v175 := Tryz.zeroValue349
 t210 := Tryz.underlying457
 a210 := Tryz.isAgg457
 z210 := Tryz.sizeOf457
 v210 := Tryz.zeroValue457
 t212 := Tryz.underlying449
 a212 := Tryz.isAgg449
 z212 := Tryz.sizeOf449
 v212 := Tryz.zeroValue449
 t213 := Tryz.underlying450
 a213 := Tryz.isAgg450
 z213 := Tryz.sizeOf450
 t232 := Tryz.underlying466
 a232 := Tryz.isAgg466
 z232 := Tryz.sizeOf466
 v232 := Tryz.zeroValue466
 t233 := Tryz.underlying467
 a233 := Tryz.isAgg467
 z233 := Tryz.sizeOf467
 v233 := Tryz.zeroValue467
 g15 := by kernel_rfl
 g16 := by kernel_rfl
 g17 := by kernel_rfl
 g18 := by kernel_rfl
 g19 := by kernel_rfl }
open Go.RowKit in
theorem Tryz.strconv_Atoi (s : ByteArray) (n : Int) (hl : s.size ≤ 18) (h : Lib.atoi s.data.toList = some n) (w : World) :
  Calls Tryz.prog 240 #[.string s] w fun e w' => e = .returned (.tuple #[.int .i64 n,.nilIface]) ∧ ∃ t,w' = Lib.bytesWorld w 5 t := Any.strconv_Atoi Tryz.lays172 s n hl h w
def Tryz.laysM171_ren : Go.Shelf.Ren := ⟨fun | 171 => 118 | 243 => 186 | 246 => 271 | 283 => 327 | 284 => 328 | 285 => 329 | 286 => 330 | 129 => 168 | 317 => 364 | 318 => 365 | 319 => 366 | 320 => 367 | 337 => 376 | 338 => 377 | n => n,fun | 3 => 3 | 9 => 9 | 2 => 2 | 4 => 4 | 171 => 417 | 0 => 0 | 53 => 302 | 37 => 165 | 5 => 5 | 173 => 419 | 212 => 449 | 51 => 300 | 20 => 20 | 213 => 450 | 46 => 221 | 232 => 466 | 233 => 467 | n => n,fun | 17 => 1 | 18 => 4 | 19 => 5 | n => n⟩
theorem Tryz.laysM171 : Go.Proofs.LaysM.n171 Tryz.prog Tryz.laysM171_ren := {
 mixed := by kernel_rfl
 f129 := Tryz.func168.trans (congrArg some (by kernel_rfl))
 f171 := Tryz.func118.trans (congrArg some (by kernel_rfl))
 f243 := Tryz.func186.trans (congrArg some (by kernel_rfl))
 f246 := Tryz.func271.trans (congrArg some (by kernel_rfl))
 f283 := Tryz.func327.trans (congrArg some (by kernel_rfl))
 f284 := Tryz.func328.trans (congrArg some (by kernel_rfl))
 f285 := Tryz.func329.trans (congrArg some (by kernel_rfl))
 f286 := Tryz.func330.trans (congrArg some (by kernel_rfl))
 f317 := Tryz.func364.trans (congrArg some (by kernel_rfl))
 f318 := Tryz.func365.trans (congrArg some (by kernel_rfl))
 f319 := Tryz.func366.trans (congrArg some (by kernel_rfl))
 f320 := Tryz.func367.trans (congrArg some (by kernel_rfl))
 f337 := Tryz.func376.trans (congrArg some (by kernel_rfl))
 f338 := Tryz.func377.trans (congrArg some (by kernel_rfl))
 t0 := Tryz.underlying0
 a0 := Tryz.isAgg0
 z0 := Tryz.sizeOf0
 v0 := Tryz.zeroValue0
 t2 := Tryz.underlying2
 a2 := Tryz.isAgg2
 z2 := Tryz.sizeOf2
 v2 := Tryz.zeroValue2
 t3 := Tryz.underlying3
 a3 := Tryz.isAgg3
 z3 := Tryz.sizeOf3
 v3 := Tryz.zeroValue3
 t4 := Tryz.underlying4
 a4 := Tryz.isAgg4
 z4 := Tryz.sizeOf4
 v4 := Tryz.zeroValue4
 t5 := Tryz.underlying5
 a5 := Tryz.isAgg5
 z5 := Tryz.sizeOf5
 v5 := Tryz.zeroValue5
 t9 := Tryz.underlying9
 a9 := Tryz.isAgg9
 z9 := Tryz.sizeOf9
 v9 := Tryz.zeroValue9
 t20 := Tryz.underlying20
 a20 := Tryz.isAgg20
 z20 := Tryz.sizeOf20
 v20 := Tryz.zeroValue20
 t37 := Tryz.underlying165
 a37 := Tryz.isAgg165
 z37 := Tryz.sizeOf165
 v37 := Tryz.zeroValue165
 t46 := Tryz.underlying221
 a46 := Tryz.isAgg221
 z46 := Tryz.sizeOf221
 v46 := Tryz.zeroValue221
 t51 := Tryz.underlying300
 a51 := Tryz.isAgg300
 z51 := Tryz.sizeOf300
 v51 := Tryz.zeroValue300
 t53 := Tryz.underlying302
 a53 := Tryz.isAgg302
 z53 := Tryz.sizeOf302
 v53 := Tryz.zeroValue302
 t171 := Tryz.underlying417
 a171 := Tryz.isAgg417
 z171 := Tryz.sizeOf417
 v171 := Tryz.zeroValue417
 t173 := Tryz.underlying419
 a173 := Tryz.isAgg419
 z173 := Tryz.sizeOf419
 v173 := Tryz.zeroValue419
 t212 := Tryz.underlying449
 a212 := Tryz.isAgg449
 z212 := Tryz.sizeOf449
 v212 := Tryz.zeroValue449
 t213 := Tryz.underlying450
 a213 := Tryz.isAgg450
 z213 := Tryz.sizeOf450
 t232 := Tryz.underlying466
 a232 := Tryz.isAgg466
 z232 := Tryz.sizeOf466
 v232 := Tryz.zeroValue466
 t233 := Tryz.underlying467
 a233 := Tryz.isAgg467
 z233 := Tryz.sizeOf467
 v233 := Tryz.zeroValue467
 g17 := by kernel_rfl
 g18 := by kernel_rfl
 g19 := by kernel_rfl
 i0 := by kernel_rfl
 i2 := by kernel_rfl
 i3 := by kernel_rfl
 i4 := by kernel_rfl
 i5 := by kernel_rfl
 i9 := by kernel_rfl
 i20 := by kernel_rfl
 i37 := by kernel_rfl
 i46 := by kernel_rfl
 i51 := by kernel_rfl
 i53 := by kernel_rfl
 i171 := by kernel_rfl
 i173 := by kernel_rfl
 i212 := by kernel_rfl
 i232 := by kernel_rfl
 i233 := by kernel_rfl
 m17 := by kernel_rfl
 m18 := by kernel_rfl
 m19 := by kernel_rfl }
open Go.RowKit Go.Sort Go.Lib in
theorem Tryz.strconv_Itoa (n : Int) (h0 : -9223372036854775808 ≤ n) (h1 : n ≤ 9223372036854775807) (w : World) (htab : Lib.TabIs Tryz.prog w "internal/strconv.uint64pow10" .u64 Lib.pow10Tab) :
  Calls Tryz.prog 118 #[.int .i64 n] w fun e w' => e = .returned (.string ⟨(Lib.itoa n).toArray⟩) ∧ ∃ k os,w' = grow (w.drewN k) os := Any.strconv_Itoa Tryz.laysM171 n h0 h1 w htab
def Tryz.lays219_ren : Go.Shelf.Ren := ⟨fun | 219 => 254 | 217 => 309 | 225 => 310 | 224 => 311 | 267 => 312 | 266 => 358 | 314 => 359 | n => n,fun | 9 => 9 | 3 => 3 | 4 => 4 | 5 => 5 | 46 => 221 | 146 => 445 | 51 => 300 | n => n,fun | 1 => 0 | n => n⟩
theorem Tryz.lays219 : Go.Proofs.Lays.n219 Tryz.prog Tryz.lays219_ren := {
 mixed := by kernel_rfl
 f217 := Tryz.func309.trans (congrArg some (by kernel_rfl))
 f219 := Tryz.func254.trans (congrArg some (by kernel_rfl))
 f224 := Tryz.func311.trans (congrArg some (by kernel_rfl))
 f225 := Tryz.func310.trans (congrArg some (by kernel_rfl))
 f266 := Tryz.func358.trans (congrArg some (by kernel_rfl))
 f267 := Tryz.func312.trans (congrArg some (by kernel_rfl))
 f314 := Tryz.func359.trans (congrArg some (by kernel_rfl))
 t3 := Tryz.underlying3
 a3 := Tryz.isAgg3
 z3 := Tryz.sizeOf3
 v3 := Tryz.zeroValue3
 t4 := Tryz.underlying4
 a4 := Tryz.isAgg4
 z4 := Tryz.sizeOf4
 v4 := Tryz.zeroValue4
 t5 := Tryz.underlying5
 a5 := Tryz.isAgg5
 z5 := Tryz.sizeOf5
 v5 := Tryz.zeroValue5
 t9 := Tryz.underlying9
 a9 := Tryz.isAgg9
 z9 := Tryz.sizeOf9
 v9 := Tryz.zeroValue9
 t46 := Tryz.underlying221
 a46 := Tryz.isAgg221
 z46 := Tryz.sizeOf221
 v46 := Tryz.zeroValue221
 t51 := Tryz.underlying300
 a51 := Tryz.isAgg300
 z51 := Tryz.sizeOf300
 v51 := Tryz.zeroValue300
 t146 := Tryz.underlying445
 a146 := Tryz.isAgg445
 z146 := Tryz.sizeOf445
 v146 := Tryz.zeroValue445
 g1 := by kernel_rfl }
open Go.RowKit Go.Lib in
theorem Tryz.stringslite_Index_one (s : ByteArray) (c : UInt8) (w : World) :
  Calls Tryz.prog 254 #[.string s,.string ⟨#[c]⟩] w fun e w' => e = .returned (.int .i64 (Lib.indexByte s.data.toList c)) ∧ w' = w := Any.stringslite_Index_one Tryz.lays219 s c w
def Tryz.lays99_ren : Go.Shelf.Ren := ⟨fun | 99 => 239 | 206 => 301 | n => n,fun | 9 => 9 | 4 => 4 | 3 => 3 | n => n,fun | n => n⟩
theorem Tryz.lays99 : Go.Proofs.Lays.n99 Tryz.prog Tryz.lays99_ren := {
 mixed := by kernel_rfl
 f99 := Tryz.func239.trans (congrArg some (by kernel_rfl))
 f206 := Tryz.func301.trans (congrArg some (by kernel_rfl))
 t3 := Tryz.underlying3
 a3 := Tryz.isAgg3
 z3 := Tryz.sizeOf3
 v3 := Tryz.zeroValue3
 t4 := Tryz.underlying4
 a4 := Tryz.isAgg4
 z4 := Tryz.sizeOf4
 v4 := Tryz.zeroValue4
 t9 := Tryz.underlying9
 a9 := Tryz.isAgg9
 z9 := Tryz.sizeOf9
 v9 := Tryz.zeroValue9 }
open Go.RowKit Go.Lib in
theorem Tryz.strings_HasPrefix (s p : ByteArray) (w : World) :
  Calls Tryz.prog 239 #[.string s,.string p] w fun e w' => e = .returned (.bool (Lib.hasPrefix s.data.toList p.data.toList)) ∧ w' = w := Any.strings_HasPrefix Tryz.lays99 s p w
def Tryz.lays101_ren : Go.Shelf.Ren := ⟨fun | 101 => 171 | 208 => 256 | 206 => 301 | n => n,fun | 9 => 9 | 4 => 4 | 3 => 3 | n => n,fun | n => n⟩
theorem Tryz.lays101 : Go.Proofs.Lays.n101 Tryz.prog Tryz.lays101_ren := {
 mixed := by kernel_rfl
 f101 := Tryz.func171.trans (congrArg some (by kernel_rfl))
 f206 := Tryz.func301.trans (congrArg some (by kernel_rfl))
 f208 := Tryz.func256.trans (congrArg some (by kernel_rfl))
 t3 := Tryz.underlying3
 a3 := Tryz.isAgg3
 z3 := Tryz.sizeOf3
 v3 := Tryz.zeroValue3
 t4 := Tryz.underlying4
 a4 := Tryz.isAgg4
 z4 := Tryz.sizeOf4
 v4 := Tryz.zeroValue4
 t9 := Tryz.underlying9
 a9 := Tryz.isAgg9
 z9 := Tryz.sizeOf9
 v9 := Tryz.zeroValue9 }
open Go.RowKit Go.Lib in
theorem Tryz.strings_TrimPrefix (s p : ByteArray) (w : World) :
  Calls Tryz.prog 171 #[.string s,.string p] w fun e w' => e = .returned (.string ⟨(Lib.trimPrefix s.data.toList p.data.toList).toArray⟩) ∧ w' = w := Any.strings_TrimPrefix Tryz.lays101 s p w
end Go.Proofs
