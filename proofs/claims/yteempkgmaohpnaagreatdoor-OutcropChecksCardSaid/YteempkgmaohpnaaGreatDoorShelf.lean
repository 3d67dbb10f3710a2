/-
  The shelf's contracts at this program, in plain words (laid by the kit's tool lay-plain; pruned).
-/
import Derived.Shelf.Strings.Builder1
import Derived.Shelf.Small.Bits
import Derived.Shelf.Small.Strs
import Derived.Shelf.Small.Wraps
import Derived.Shelf.Strconv.Atoi
import Derived.Shelf.Strconv.Itoa0
import Derived.Shelf.Strconv.Itoa1
import Derived.Shelf.LaysM
import Derived.Shelf.Strconv.Itoa2
import Derived.Shelf.Strconv.Itoa3
import Derived.Shelf.Strconv.AtoiErrFast
import Derived.Shelf.Strconv.ParseIntEmpty
import Derived.Shelf.Strconv.AtoiFail
import Derived.Shelf.Strconv.Clone
import Derived.Shelf.Strconv.SyntaxError
import Derived.Shelf.LaysC
import Derived.Shelf.Strconv.ToError
import Derived.Shelf.Strconv.Lower
import Derived.Shelf.Strconv.ParseUint10
import Derived.Shelf.Strconv.ParseUint10Empty
import Derived.Shelf.Strconv.ParseUint10Any
import Derived.Shelf.Strconv.RangeError
import Derived.Shelf.Strconv.ToErrorRange
import Derived.Shelf.Strings.Search1
import Derived.Shelf.Strings.Search2
import Derived.Shelf.Strings.Cut
import Derived.Shelf.Strings.Shaped
import Derived.Shelf.Strings.Prefix
import Derived.Ground.Names2Prog
import Derived.Shelf.Slices.Clone
import Derived.Ground.SlgnProg
import Derived.Shelf.SlicesE.Clone
import Derived.Test.YteempkgmaohpnaaGreatDoorProg
set_option linter.unusedSectionVars false
set_option linter.unusedVariables false
set_option linter.unusedSimpArgs false
namespace Go.Proofs
open Go.Shelf
def Tryz.lays106_ren : Go.Shelf.Ren := ⟨fun | 106 => 43 | 213 => 80 | 265 => 141 | n => n,fun | 9 => 9 | 3 => 3 | n => n,fun | n => n⟩
theorem Tryz.lays106 : Go.Proofs.Lays.n106 Tryz.prog Tryz.lays106_ren := {
 mixed := by kernel_rfl
 f106 := Tryz.func43.trans (congrArg some (by kernel_rfl))
 f213 := Tryz.func80.trans (congrArg some (by kernel_rfl))
 f265 := Tryz.func141.trans (congrArg some (by kernel_rfl))
 t3 := Tryz.underlying3
 a3 := Tryz.isAgg3
 z3 := Tryz.sizeOf3
 v3 := Tryz.zeroValue3
 t9 := Tryz.underlying9
 a9 := Tryz.isAgg9
 z9 := Tryz.sizeOf9
 v9 := Tryz.zeroValue9 }
open Go.RowKit in
theorem Tryz.strings_Compare (a b : ByteArray) (w : World) :
  Calls Tryz.prog 43 #[.string a,.string b] w fun e w' => e = .returned (.int .i64 (Lib.compareBytes a.data.toList b.data.toList)) ∧ w' = w := Any.strings_Compare Tryz.lays106 a b w
def Tryz.lays103_ren : Go.Shelf.Ren := ⟨fun | 103 => 208 | 210 => 270 | 206 => 292 | n => n,fun | 9 => 9 | 4 => 4 | 24 => 242 | 3 => 3 | n => n,fun | n => n⟩
theorem Tryz.lays103 : Go.Proofs.Lays.n103 Tryz.prog Tryz.lays103_ren := {
 mixed := by kernel_rfl
 f103 := Tryz.func208.trans (congrArg some (by kernel_rfl))
 f206 := Tryz.func292.trans (congrArg some (by kernel_rfl))
 f210 := Tryz.func270.trans (congrArg some (by kernel_rfl))
 t3 := Tryz.underlying3
 a3 := Tryz.isAgg3
 z3 := Tryz.sizeOf3
 v3 := Tryz.zeroValue3
 t4 := Tryz.underlying4
 a4 := Tryz.isAgg4
 z4 := Tryz.sizeOf4
 v4 := Tryz.zeroValue4
 t9 := Tryz.underlying9
 a9 := Tryz.isAgg9
 z9 := Tryz.sizeOf9
 v9 := Tryz.zeroValue9
 t24 := Tryz.underlying242
 a24 := Tryz.isAgg242
 z24 := Tryz.sizeOf242
 v24 := Tryz.zeroValue242 }
open Go.RowKit in
theorem Tryz.strings_CutPrefix (s p : ByteArray) (w : World) :
  Calls Tryz.prog 208 #[.string s,.string p] w fun e w' => e = .returned (.tuple #[.string ⟨(Lib.trimPrefix s.data.toList p.data.toList).toArray⟩,.bool (Lib.hasPrefix s.data.toList p.data.toList)]) ∧ w' = w := Any.strings_CutPrefix Tryz.lays103 s p w
def Tryz.lays172_ren : Go.Shelf.Ren := ⟨fun | 172 => 238 | 244 => 293 | 245 => 294 | 247 => 334 | 279 => 335 | 280 => 336 | 281 => 337 | 282 => 338 | 287 => 295 | 316 => 366 | 171 => 152 | 205 => 367 | 321 => 339 | 322 => 340 | 243 => 236 | 246 => 291 | 283 => 330 | 284 => 331 | 285 => 332 | 286 => 333 | 129 => 140 | 317 => 362 | 318 => 363 | 319 => 364 | 320 => 365 | 337 => 379 | 338 => 380 | n => n,fun | 9 => 9 | 3 => 3 | 75 => 345 | 76 => 346 | 4 => 4 | 5 => 5 | 167 => 425 | 37 => 158 | 0 => 0 | 85 => 426 | 2 => 2 | 168 => 428 | 53 => 267 | 175 => 348 | 46 => 185 | 210 => 457 | 127 => 399 | 145 => 470 | 143 => 468 | 21 => 21 | 171 => 421 | 173 => 423 | 212 => 453 | 51 => 265 | 20 => 20 | 213 => 454 | 232 => 472 | 233 => 473 | 80 => 359 | n => n,fun | 15 => 2 | 16 => 3 | 17 => 1 | 18 => 4 | 19 => 5 | n => n⟩
theorem Tryz.lays172 : Go.Proofs.Lays.n172 Tryz.prog Tryz.lays172_ren := {
 mixed := by kernel_rfl
 f129 := Tryz.func140.trans (congrArg some (by kernel_rfl))
 f171 := Tryz.func152.trans (congrArg some (by kernel_rfl))
 f172 := Tryz.func238.trans (congrArg some (by kernel_rfl))
 f205 := Tryz.func367.trans (congrArg some (by kernel_rfl))
 f243 := Tryz.func236.trans (congrArg some (by kernel_rfl))
 f244 := Tryz.func293.trans (congrArg some (by kernel_rfl))
 f245 := Tryz.func294.trans (congrArg some (by kernel_rfl))
 f246 := Tryz.func291.trans (congrArg some (by kernel_rfl))
 f247 := Tryz.func334.trans (congrArg some (by kernel_rfl))
 f279 := Tryz.func335.trans (congrArg some (by kernel_rfl))
 f280 := Tryz.func336.trans (congrArg some (by kernel_rfl))
 f281 := Tryz.func337.trans (congrArg some (by kernel_rfl))
 f282 := Tryz.func338.trans (congrArg some (by kernel_rfl))
 f283 := Tryz.func330.trans (congrArg some (by kernel_rfl))
 f284 := Tryz.func331.trans (congrArg some (by kernel_rfl))
 f285 := Tryz.func332.trans (congrArg some (by kernel_rfl))
 f286 := Tryz.func333.trans (congrArg some (by kernel_rfl))
 f287 := Tryz.func295.trans (congrArg some (by kernel_rfl))
 f316 := Tryz.func366.trans (congrArg some (by kernel_rfl))
 f317 := Tryz.func362.trans (congrArg some (by kernel_rfl))
 f318 := Tryz.func363.trans (congrArg some (by kernel_rfl))
 f319 := Tryz.func364.trans (congrArg some (by kernel_rfl))
 f320 := Tryz.func365.trans (congrArg some (by kernel_rfl))
 f321 := Tryz.func339.trans (congrArg some (by kernel_rfl))
 f322 := Tryz.func340.trans (congrArg some (by kernel_rfl))
 f337 := Tryz.func379.trans (congrArg some (by kernel_rfl))
 f338 := Tryz.func380.trans (congrArg some (by kernel_rfl))
 t0 := Tryz.underlying0
 a0 := Tryz.isAgg0
 z0 := Tryz.sizeOf0
 v0 := Tryz.zeroValue0
 t2 := Tryz.underlying2
 a2 := Tryz.isAgg2
 z2 := Tryz.sizeOf2
 v2 := Tryz.zeroValue2
 t3 := Tryz.underlying3
 a3 := Tryz.isAgg3
 z3 := Tryz.sizeOf3
 v3 := Tryz.zeroValue3
 t4 := Tryz.underlying4
 a4 := Tryz.isAgg4
 z4 := Tryz.sizeOf4
 v4 := Tryz.zeroValue4
 t5 := Tryz.underlying5
 a5 := Tryz.isAgg5
 z5 := Tryz.sizeOf5
 v5 := Tryz.zeroValue5
 t9 := Tryz.underlying9
 a9 := Tryz.isAgg9
 z9 := Tryz.sizeOf9
 v9 := Tryz.zeroValue9
 t20 := Tryz.underlying20
 a20 := Tryz.isAgg20
 z20 := Tryz.sizeOf20
 v20 := Tryz.zeroValue20
 t21 := Tryz.underlying21
 a21 := Tryz.isAgg21
 z21 := Tryz.sizeOf21
 v21 := Tryz.zeroValue21
 t37 := Tryz.underlying158
 a37 := Tryz.isAgg158
 z37 := Tryz.sizeOf158
 v37 := Tryz.zeroValue158
 t46 := Tryz.underlying185
 a46 := Tryz.isAgg185
 z46 := Tryz.sizeOf185
 v46 := Tryz.zeroValue185
 t51 := Tryz.underlying265
 a51 := Tryz.isAgg265
 z51 := Tryz.sizeOf265
 v51 := Tryz.zeroValue265
 t53 := Tryz.underlying267
 a53 := Tryz.isAgg267
 z53 := Tryz.sizeOf267
 v53 := Tryz.zeroValue267
 t75 := Tryz.underlying345
 a75 := Tryz.isAgg345
 z75 := Tryz.sizeOf345
 v75 := Tryz.zeroValue345
 t76 := Tryz.underlying346
 a76 := Tryz.isAgg346
 z76 := Tryz.sizeOf346
 v76 := Tryz.zeroValue346
 t85 := Tryz.underlying426
 a85 := Tryz.isAgg426
 z85 := Tryz.sizeOf426
 v85 := Tryz.zeroValue426
 t127 := Tryz.underlying399
 a127 := Tryz.isAgg399
 z127 := Tryz.sizeOf399
 v127 := Tryz.zeroValue399
 t143 := Tryz.underlying468
 a143 := Tryz.isAgg468
 z143 := Tryz.sizeOf468
 v143 := Tryz.zeroValue468
 t145 := Tryz.underlying470
 a145 := Tryz.isAgg470
 z145 := Tryz.sizeOf470
 v145 := Tryz.zeroValue470
 t167 := Tryz.underlying425
 a167 := Tryz.isAgg425
 z167 := Tryz.sizeOf425
 v167 := Tryz.zeroValue425
 t168 := Tryz.underlying428
 a168 := Tryz.isAgg428
 z168 := Tryz.sizeOf428
 v168 := Tryz.zeroValue428
 t171 := Tryz.underlying421
 a171 := Tryz.isAgg421
 z171 := Tryz.sizeOf421
 v171 := Tryz.zeroValue421
 t173 := Tryz.underlying423
 a173 := Tryz.isAgg423
 z173 := Tryz.sizeOf423
 v173 := Tryz.zeroValue423
 t175 := Tryz.underlying348
 a175 := Tryz.isAgg348
 z175 := Tryz.sizeOf348
 v175 := Tryz.zeroValue348
 t210 := Tryz.underlying457
 a210 := Tryz.isAgg457
 z210 := Tryz.sizeOf457
 v210 := Tryz.zeroValue457
 t212 := Tryz.underlying453
 a212 := Tryz.isAgg453
 z212 := Tryz.sizeOf453
 v212 := Tryz.zeroValue453
 t213 := Tryz.underlying454
 a213 := Tryz.isAgg454
 z213 := Tryz.sizeOf454
 t232 := Tryz.underlying472
 a232 := Tryz.isAgg472
 z232 := Tryz.sizeOf472
 v232 := Tryz.zeroValue472
 t233 := Tryz.underlying473
 a233 := Tryz.isAgg473
 z233 := Tryz.sizeOf473
 v233 := Tryz.zeroValue473
 g15 := by kernel_rfl
 g16 := by kernel_rfl
 g17 := by kernel_rfl
 g18 := by kernel_rfl
 g19 := by kernel_rfl }
open Go.RowKit in
theorem Tryz.strconv_Atoi (s : ByteArray) (n : Int) (hl : s.size ≤ 18) (h : Lib.atoi s.data.toList = some n) (w : World) :
  Calls Tryz.prog 238 #[.string s] w fun e w' => e = .returned (.tuple #[.int .i64 n,.nilIface]) ∧ ∃ t,w' = Lib.bytesWorld w 5 t := Any.strconv_Atoi Tryz.lays172 s n hl h w
def Tryz.laysM171_ren : Go.Shelf.Ren := ⟨fun | 171 => 152 | 243 => 236 | 246 => 291 | 283 => 330 | 284 => 331 | 285 => 332 | 286 => 333 | 129 => 140 | 317 => 362 | 318 => 363 | 319 => 364 | 320 => 365 | 337 => 379 | 338 => 380 | n => n,fun | 3 => 3 | 9 => 9 | 2 => 2 | 4 => 4 | 171 => 421 | 0 => 0 | 53 => 267 | 37 => 158 | 5 => 5 | 173 => 423 | 212 => 453 | 51 => 265 | 20 => 20 | 213 => 454 | 46 => 185 | 232 => 472 | 233 => 473 | n => n,fun | 17 => 1 | 18 => 4 | 19 => 5 | n => n⟩
theorem Tryz.laysM171 : Go.Proofs.LaysM.n171 Tryz.prog Tryz.laysM171_ren := {
 mixed := by kernel_rfl
 f129 := Tryz.func140.trans (congrArg some (by kernel_rfl))
 f171 := Tryz.func152.trans (congrArg some (by kernel_rfl))
 f243 := Tryz.func236.trans (congrArg some (by kernel_rfl))
 f246 := Tryz.func291.trans (congrArg some (by kernel_rfl))
 f283 := Tryz.func330.trans (congrArg some (by kernel_rfl))
 f284 := Tryz.func331.trans (congrArg some (by kernel_rfl))
 f285 := Tryz.func332.trans (congrArg some (by kernel_rfl))
 f286 := Tryz.func333.trans (congrArg some (by kernel_rfl))
 f317 := Tryz.func362.trans (congrArg some (by kernel_rfl))
 f318 := Tryz.func363.trans (congrArg some (by kernel_rfl))
 f319 := Tryz.func364.trans (congrArg some (by kernel_rfl))
 f320 := Tryz.func365.trans (congrArg some (by kernel_rfl))
 f337 := Tryz.func379.trans (congrArg some (by kernel_rfl))
 f338 := Tryz.func380.trans (congrArg some (by kernel_rfl))
 t0 := Tryz.underlying0
 a0 := Tryz.isAgg0
 z0 := Tryz.sizeOf0
 v0 := Tryz.zeroValue0
 t2 := Tryz.underlying2
 a2 := Tryz.isAgg2
 z2 := Tryz.sizeOf2
 v2 := Tryz.zeroValue2
 t3 := Tryz.underlying3
 a3 := Tryz.isAgg3
 z3 := Tryz.sizeOf3
 v3 := Tryz.zeroValue3
 t4 := Tryz.underlying4
 a4 := Tryz.isAgg4
 z4 := Tryz.sizeOf4
 v4 := Tryz.zeroValue4
 t5 := Tryz.underlying5
 a5 := Tryz.isAgg5
 z5 := Tryz.sizeOf5
 v5 := Tryz.zeroValue5
 t9 := Tryz.underlying9
 a9 := Tryz.isAgg9
 z9 := Tryz.sizeOf9
 v9 := Tryz.zeroValue9
 t20 := Tryz.underlying20
 a20 := Tryz.isAgg20
 z20 := Tryz.sizeOf20
 v20 := Tryz.zeroValue20
 t37 := Tryz.underlying158
 a37 := Tryz.isAgg158
 z37 := Tryz.sizeOf158
 v37 := Tryz.zeroValue158
 t46 := Tryz.underlying185
 a46 := Tryz.isAgg185
 z46 := Tryz.sizeOf185
 v46 := Tryz.zeroValue185
 t51 := Tryz.underlying265
 a51 := Tryz.isAgg265
 z51 := Tryz.sizeOf265
 v51 := Tryz.zeroValue265
 t53 := Tryz.underlying267
 a53 := Tryz.isAgg267
 z53 := Tryz.sizeOf267
 v53 := Tryz.zeroValue267
 t171 := Tryz.underlying421
 a171 := Tryz.isAgg421
 z171 := Tryz.sizeOf421
 v171 := Tryz.zeroValue421
 t173 := Tryz.underlying423
 a173 := Tryz.isAgg423
 z173 := Tryz.sizeOf423
 v173 := Tryz.zeroValue423
 t212 := Tryz.underlying453
 a212 := Tryz.isAgg453
 z212 := Tryz.sizeOf453
 v212 := Tryz.zeroValue453
 t213 := Tryz.underlying454
 a213 := Tryz.isAgg454
 z213 := Tryz.sizeOf454
 t232 := Tryz.underlying472
 a232 := Tryz.isAgg472
 z232 := Tryz.sizeOf472
 v232 := Tryz.zeroValue472
 t233 := Tryz.underlying473
 a233 := Tryz.isAgg473
 z233 := Tryz.sizeOf473
 v233 := Tryz.zeroValue473
 g17 := by kernel_rfl
 g18 := by kernel_rfl
 g19 := by kernel_rfl
 i0 := by kernel_rfl
 i2 := by kernel_rfl
 i3 := by kernel_rfl
 i4 := by kernel_rfl
 i5 := by kernel_rfl
 i9 := by kernel_rfl
 i20 := by kernel_rfl
 i37 := by kernel_rfl
 i46 := by kernel_rfl
 i51 := by kernel_rfl
 i53 := by kernel_rfl
 i171 := by kernel_rfl
 i173 := by kernel_rfl
 i212 := by kernel_rfl
 i232 := by kernel_rfl
 i233 := by kernel_rfl
 m17 := by kernel_rfl
 m18 := by kernel_rfl
 m19 := by kernel_rfl }
open Go.RowKit Go.Sort Go.Lib in
theorem Tryz.strconv_Itoa (n : Int) (h0 : -9223372036854775808 ≤ n) (h1 : n ≤ 9223372036854775807) (w : World) (htab : Lib.TabIs Tryz.prog w "internal/strconv.uint64pow10" .u64 Lib.pow10Tab) :
  Calls Tryz.prog 152 #[.int .i64 n] w fun e w' => e = .returned (.string ⟨(Lib.itoa n).toArray⟩) ∧ ∃ k os,w' = grow (w.drewN k) os := Any.strconv_Itoa Tryz.laysM171 n h0 h1 w htab
def Tryz.lays219_ren : Go.Shelf.Ren := ⟨fun | 219 => 269 | 217 => 311 | 225 => 312 | 224 => 313 | 267 => 314 | 266 => 344 | 314 => 345 | n => n,fun | 9 => 9 | 3 => 3 | 4 => 4 | 5 => 5 | 46 => 185 | 146 => 435 | 51 => 265 | n => n,fun | 1 => 0 | n => n⟩
theorem Tryz.lays219 : Go.Proofs.Lays.n219 Tryz.prog Tryz.lays219_ren := {
 mixed := by kernel_rfl
 f217 := Tryz.func311.trans (congrArg some (by kernel_rfl))
 f219 := Tryz.func269.trans (congrArg some (by kernel_rfl))
 f224 := Tryz.func313.trans (congrArg some (by kernel_rfl))
 f225 := Tryz.func312.trans (congrArg some (by kernel_rfl))
 f266 := Tryz.func344.trans (congrArg some (by kernel_rfl))
 f267 := Tryz.func314.trans (congrArg some (by kernel_rfl))
 f314 := Tryz.func345.trans (congrArg some (by kernel_rfl))
 t3 := Tryz.underlying3
 a3 := Tryz.isAgg3
 z3 := Tryz.sizeOf3
 v3 := Tryz.zeroValue3
 t4 := Tryz.underlying4
 a4 := Tryz.isAgg4
 z4 := Tryz.sizeOf4
 v4 := Tryz.zeroValue4
 t5 := Tryz.underlying5
 a5 := Tryz.isAgg5
 z5 := Tryz.sizeOf5
 v5 := Tryz.zeroValue5
 t9 := Tryz.underlying9
 a9 := Tryz.isAgg9
 z9 := Tryz.sizeOf9
 v9 := Tryz.zeroValue9
 t46 := Tryz.underlying185
 a46 := Tryz.isAgg185
 z46 := Tryz.sizeOf185
 v46 := Tryz.zeroValue185
 t51 := Tryz.underlying265
 a51 := Tryz.isAgg265
 z51 := Tryz.sizeOf265
 v51 := Tryz.zeroValue265
 t146 := Tryz.underlying435
 a146 := Tryz.isAgg435
 z146 := Tryz.sizeOf435
 v146 := Tryz.zeroValue435
 g1 := by kernel_rfl }
open Go.RowKit Go.Lib in
theorem Tryz.stringslite_Index_one (s : ByteArray) (c : UInt8) (w : World) :
  Calls Tryz.prog 269 #[.string s,.string ⟨#[c]⟩] w fun e w' => e = .returned (.int .i64 (Lib.indexByte s.data.toList c)) ∧ w' = w := Any.stringslite_Index_one Tryz.lays219 s c w
def Tryz.lays99_ren : Go.Shelf.Ren := ⟨fun | 99 => 237 | 206 => 292 | n => n,fun | 9 => 9 | 4 => 4 | 3 => 3 | n => n,fun | n => n⟩
theorem Tryz.lays99 : Go.Proofs.Lays.n99 Tryz.prog Tryz.lays99_ren := {
 mixed := by kernel_rfl
 f99 := Tryz.func237.trans (congrArg some (by kernel_rfl))
 f206 := Tryz.func292.trans (congrArg some (by kernel_rfl))
 t3 := Tryz.underlying3
 a3 := Tryz.isAgg3
 z3 := Tryz.sizeOf3
 v3 := Tryz.zeroValue3
 t4 := Tryz.underlying4
 a4 := Tryz.isAgg4
 z4 := Tryz.sizeOf4
 v4 := Tryz.zeroValue4
 t9 := Tryz.underlying9
 a9 := Tryz.isAgg9
 z9 := Tryz.sizeOf9
 v9 := Tryz.zeroValue9 }
open Go.RowKit Go.Lib in
theorem Tryz.strings_HasPrefix (s p : ByteArray) (w : World) :
  Calls Tryz.prog 237 #[.string s,.string p] w fun e w' => e = .returned (.bool (Lib.hasPrefix s.data.toList p.data.toList)) ∧ w' = w := Any.strings_HasPrefix Tryz.lays99 s p w
def Tryz.lays101_ren : Go.Shelf.Ren := ⟨fun | 101 => 209 | 208 => 271 | 206 => 292 | n => n,fun | 9 => 9 | 4 => 4 | 3 => 3 | n => n,fun | n => n⟩
theorem Tryz.lays101 : Go.Proofs.Lays.n101 Tryz.prog Tryz.lays101_ren := {
 mixed := by kernel_rfl
 f101 := Tryz.func209.trans (congrArg some (by kernel_rfl))
 f206 := Tryz.func292.trans (congrArg some (by kernel_rfl))
 f208 := Tryz.func271.trans (congrArg some (by kernel_rfl))
 t3 := Tryz.underlying3
 a3 := Tryz.isAgg3
 z3 := Tryz.sizeOf3
 v3 := Tryz.zeroValue3
 t4 := Tryz.underlying4
 a4 := Tryz.isAgg4
 z4 := Tryz.sizeOf4
 v4 := Tryz.zeroValue4
 t9 := Tryz.underlying9
 a9 := Tryz.isAgg9
 z9 := Tryz.sizeOf9
 v9 := Tryz.zeroValue9 }
open Go.RowKit Go.Lib in
theorem Tryz.strings_TrimPrefix (s p : ByteArray) (w : World) :
  Calls Tryz.prog 209 #[.string s,.string p] w fun e w' => e = .returned (.string ⟨(Lib.trimPrefix s.data.toList p.data.toList).toArray⟩) ∧ w' = w := Any.strings_TrimPrefix Tryz.lays101 s p w
end Go.Proofs
