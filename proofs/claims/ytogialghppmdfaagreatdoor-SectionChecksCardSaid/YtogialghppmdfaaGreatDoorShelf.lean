/-
  The shelf's contracts at this program, in plain words (laid by the kit's tool lay-plain; pruned).
-/
import Derived.Shelf.Strings.Builder1
import Derived.Shelf.Small.Bits
import Derived.Shelf.Small.Strs
import Derived.Shelf.Small.Wraps
import Derived.Shelf.Strconv.Atoi
import Derived.Shelf.Strconv.Itoa0
import Derived.Shelf.Strconv.Itoa1
import Derived.Shelf.LaysM
import Derived.Shelf.Strconv.Itoa2
import Derived.Shelf.Strconv.Itoa3
import Derived.Shelf.Strconv.AtoiErrFast
import Derived.Shelf.Strconv.ParseIntEmpty
import Derived.Shelf.Strconv.AtoiFail
import Derived.Shelf.Strconv.Clone
import Derived.Shelf.Strconv.SyntaxError
import Derived.Shelf.LaysC
import Derived.Shelf.Strconv.ToError
import Derived.Shelf.Strconv.Lower
import Derived.Shelf.Strconv.ParseUint10
import Derived.Shelf.Strconv.ParseUint10Empty
import Derived.Shelf.Strconv.ParseUint10Any
import Derived.Shelf.Strconv.RangeError
import Derived.Shelf.Strconv.ToErrorRange
import Derived.Shelf.Strings.Search1
import Derived.Shelf.Strings.Search2
import Derived.Shelf.Strings.Cut
import Derived.Shelf.Strings.Shaped
import Derived.Shelf.Strings.Prefix
import Derived.Ground.Names2Prog
import Derived.Shelf.Slices.Clone
import Derived.Shelf.Slices.SearchI
import Derived.Ground.SlgnProg
import Derived.Shelf.SlicesE.Clone
import Derived.Test.YtogialghppmdfaaGreatDoorProg
set_option linter.unusedSectionVars false
set_option linter.unusedVariables false
set_option linter.unusedSimpArgs false
namespace Go.Proofs
open Go.Shelf
def Tryz.lays106_ren:Go.Shelf.Ren:=⟨fun | 106=>48 | 213=>124 | 265=>234 | n=>n,fun | 9=>9 | 3=>3 | n=>n,fun | n=>n⟩
theorem Tryz.lays106:Go.Proofs.Lays.n106 Tryz.prog Tryz.lays106_ren:={
 mixed:=by kernel_rfl
 f106:=Tryz.func48.trans (congrArg some (by kernel_rfl))
 f213:=Tryz.func124.trans (congrArg some (by kernel_rfl))
 f265:=Tryz.func234.trans (congrArg some (by kernel_rfl))
 t3:=Tryz.underlying3
 a3:=Tryz.isAgg3
 z3:=Tryz.sizeOf3
 v3:=Tryz.zeroValue3
 t9:=Tryz.underlying9
 a9:=Tryz.isAgg9
 z9:=Tryz.sizeOf9
 v9:=Tryz.zeroValue9 }
open Go.RowKit in
theorem Tryz.strings_Compare (a b:ByteArray) (w:World) :
  Calls Tryz.prog 48 #[.string a,.string b] w fun e w'=>e = .returned (.int .i64 (Lib.compareBytes a.data.toList b.data.toList))∧w'=w:=Any.strings_Compare Tryz.lays106 a b w
def Tryz.lays137_ren:Go.Shelf.Ren:=⟨fun | 137=>80 | 217=>160 | 266=>271 | n=>n,fun | 9=>9 | 5=>5 | 3=>3 | n=>n,fun | n=>n⟩
theorem Tryz.lays137:Go.Proofs.Lays.n137 Tryz.prog Tryz.lays137_ren:={
 mixed:=by kernel_rfl
 f137:=Tryz.func80.trans (congrArg some (by kernel_rfl))
 f217:=Tryz.func160.trans (congrArg some (by kernel_rfl))
 f266:=Tryz.func271.trans (congrArg some (by kernel_rfl))
 t3:=Tryz.underlying3
 a3:=Tryz.isAgg3
 z3:=Tryz.sizeOf3
 v3:=Tryz.zeroValue3
 t5:=Tryz.underlying5
 a5:=Tryz.isAgg5
 z5:=Tryz.sizeOf5
 v5:=Tryz.zeroValue5
 t9:=Tryz.underlying9
 a9:=Tryz.isAgg9
 z9:=Tryz.sizeOf9
 v9:=Tryz.zeroValue9 }
open Go.RowKit in
theorem Tryz.strings_IndexByte (s:ByteArray) (c:Int) (w:World) :
  Calls Tryz.prog 80 #[.string s,.int .u8 c] w fun e w'=>e = .returned (.int .i64 (Lib.indexByte s.data.toList c.toNat.toUInt8))∧w'=w:=Any.strings_IndexByte Tryz.lays137 s c w
def Tryz.lays103_ren:Go.Shelf.Ren:=⟨fun | 103=>167 | 210=>273 | 206=>390 | n=>n,fun | 9=>9 | 4=>4 | 24=>298 | 3=>3 | n=>n,fun | n=>n⟩
theorem Tryz.lays103:Go.Proofs.Lays.n103 Tryz.prog Tryz.lays103_ren:={
 mixed:=by kernel_rfl
 f103:=Tryz.func167.trans (congrArg some (by kernel_rfl))
 f206:=Tryz.func390.trans (congrArg some (by kernel_rfl))
 f210:=Tryz.func273.trans (congrArg some (by kernel_rfl))
 t3:=Tryz.underlying3
 a3:=Tryz.isAgg3
 z3:=Tryz.sizeOf3
 v3:=Tryz.zeroValue3
 t4:=Tryz.underlying4
 a4:=Tryz.isAgg4
 z4:=Tryz.sizeOf4
 v4:=Tryz.zeroValue4
 t9:=Tryz.underlying9
 a9:=Tryz.isAgg9
 z9:=Tryz.sizeOf9
 v9:=Tryz.zeroValue9
 t24:=Tryz.underlying298
 a24:=Tryz.isAgg298
 z24:=Tryz.sizeOf298
 v24:=Tryz.zeroValue298 }
open Go.RowKit in
theorem Tryz.strings_CutPrefix (s p:ByteArray) (w:World) :
  Calls Tryz.prog 167 #[.string s,.string p] w fun e w'=>e = .returned (.tuple #[.string ⟨(Lib.trimPrefix s.data.toList p.data.toList).toArray⟩,.bool (Lib.hasPrefix s.data.toList p.data.toList)])∧w'=w:=Any.strings_CutPrefix Tryz.lays103 s p w
def Tryz.lays172_ren:Go.Shelf.Ren:=⟨fun | 172=>257 | 244=>353 | 245=>354 | 247=>455 | 279=>456 | 280=>457 | 281=>458 | 282=>459 | 287=>391 | 316=>505 | 171=>149 | 205=>506 | 321=>473 | 322=>474 | 243=>259 | 246=>355 | 283=>460 | 284=>461 | 285=>462 | 286=>463 | 129=>233 | 317=>507 | 318=>508 | 319=>509 | 320=>510 | 337=>527 | 338=>528 | n=>n,fun | 9=>9 | 3=>3 | 75=>413 | 76=>414 | 4=>4 | 5=>5 | 167=>560 | 37=>280 | 0=>0 | 85=>561 | 2=>2 | 168=>563 | 53=>388 | 175=>434 | 46=>248 | 210=>606 | 127=>514 | 145=>626 | 143=>624 | 21=>21 | 171=>566 | 173=>568 | 212=>609 | 51=>386 | 20=>20 | 213=>610 | 232=>633 | 233=>634 | 80=>446 | n=>n,fun | 15=>1 | 16=>2 | 17=>3 | 18=>4 | 19=>5 | n=>n⟩
theorem Tryz.lays172:Go.Proofs.Lays.n172 Tryz.prog Tryz.lays172_ren:={
 mixed:=by kernel_rfl
 f129:=Tryz.func233.trans (congrArg some (by kernel_rfl))
 f171:=Tryz.func149.trans (congrArg some (by kernel_rfl))
 f172:=Tryz.func257.trans (congrArg some (by kernel_rfl))
 f205:=Tryz.func506.trans (congrArg some (by kernel_rfl))
 f243:=Tryz.func259.trans (congrArg some (by kernel_rfl))
 f244:=Tryz.func353.trans (congrArg some (by kernel_rfl))
 f245:=Tryz.func354.trans (congrArg some (by kernel_rfl))
 f246:=Tryz.func355.trans (congrArg some (by kernel_rfl))
 f247:=Tryz.func455.trans (congrArg some (by kernel_rfl))
 f279:=Tryz.func456.trans (congrArg some (by kernel_rfl))
 f280:=Tryz.func457.trans (congrArg some (by kernel_rfl))
 f281:=Tryz.func458.trans (congrArg some (by kernel_rfl))
 f282:=Tryz.func459.trans (congrArg some (by kernel_rfl))
 f283:=Tryz.func460.trans (congrArg some (by kernel_rfl))
 f284:=Tryz.func461.trans (congrArg some (by kernel_rfl))
 f285:=Tryz.func462.trans (congrArg some (by kernel_rfl))
 f286:=Tryz.func463.trans (congrArg some (by kernel_rfl))
 f287:=Tryz.func391.trans (congrArg some (by kernel_rfl))
 f316:=Tryz.func505.trans (congrArg some (by kernel_rfl))
 f317:=Tryz.func507.trans (congrArg some (by kernel_rfl))
 f318:=Tryz.func508.trans (congrArg some (by kernel_rfl))
 f319:=Tryz.func509.trans (congrArg some (by kernel_rfl))
 f320:=Tryz.func510.trans (congrArg some (by kernel_rfl))
 f321:=Tryz.func473.trans (congrArg some (by kernel_rfl))
 f322:=Tryz.func474.trans (congrArg some (by kernel_rfl))
 f337:=Tryz.func527.trans (congrArg some (by kernel_rfl))
 f338:=Tryz.func528.trans (congrArg some (by kernel_rfl))
 t0:=Tryz.underlying0
 a0:=Tryz.isAgg0
 z0:=Tryz.sizeOf0
 v0:=Tryz.zeroValue0
 t2:=Tryz.underlying2
 a2:=Tryz.isAgg2
 z2:=Tryz.sizeOf2
 v2:=Tryz.zeroValue2
 t3:=Tryz.underlying3
 a3:=Tryz.isAgg3
 z3:=Tryz.sizeOf3
 v3:=Tryz.zeroValue3
 t4:=Tryz.underlying4
 a4:=Tryz.isAgg4
 z4:=Tryz.sizeOf4
 v4:=Tryz.zeroValue4
 t5:=Tryz.underlying5
 a5:=Tryz.isAgg5
 z5:=Tryz.sizeOf5
 v5:=Tryz.zeroValue5
 t9:=Tryz.underlying9
 a9:=Tryz.isAgg9
 z9:=Tryz.sizeOf9
 v9:=Tryz.zeroValue9
 t20:=Tryz.underlying20
 a20:=Tryz.isAgg20
 z20:=Tryz.sizeOf20
 v20:=Tryz.zeroValue20
 t21:=Tryz.underlying21
 a21:=Tryz.isAgg21
 z21:=Tryz.sizeOf21
 v21:=Tryz.zeroValue21
 t37:=Tryz.underlying280
 a37:=Tryz.isAgg280
 z37:=Tryz.sizeOf280
 v37:=Tryz.zeroValue280
 t46:=Tryz.underlying248
 a46:=Tryz.isAgg248
 z46:=Tryz.sizeOf248
 v46:=Tryz.zeroValue248
 t51:=Tryz.underlying386
 a51:=Tryz.isAgg386
 z51:=Tryz.sizeOf386
 v51:=Tryz.zeroValue386
 t53:=Tryz.underlying388
 a53:=Tryz.isAgg388
 z53:=Tryz.sizeOf388
 v53:=Tryz.zeroValue388
 t75:=Tryz.underlying413
 a75:=Tryz.isAgg413
 z75:=Tryz.sizeOf413
 v75:=Tryz.zeroValue413
 t76:=Tryz.underlying414
 a76:=Tryz.isAgg414
 z76:=Tryz.sizeOf414
 v76:=Tryz.zeroValue414
 t85:=Tryz.underlying561
 a85:=Tryz.isAgg561
 z85:=Tryz.sizeOf561
 v85:=Tryz.zeroValue561
 t127:=Tryz.underlying514
 a127:=Tryz.isAgg514
 z127:=Tryz.sizeOf514
 v127:=Tryz.zeroValue514
 t143:=Tryz.underlying624
 a143:=Tryz.isAgg624
 z143:=Tryz.sizeOf624
 v143:=Tryz.zeroValue624
 t145:=Tryz.underlying626
 a145:=Tryz.isAgg626
 z145:=Tryz.sizeOf626
 v145:=Tryz.zeroValue626
 t167:=Tryz.underlying560
 a167:=Tryz.isAgg560
 z167:=Tryz.sizeOf560
 v167:=Tryz.zeroValue560
 t168:=Tryz.underlying563
 a168:=Tryz.isAgg563
 z168:=Tryz.sizeOf563
 v168:=Tryz.zeroValue563
 t171:=Tryz.underlying566
 a171:=Tryz.isAgg566
 z171:=Tryz.sizeOf566
 v171:=Tryz.zeroValue566
 t173:=Tryz.underlying568
 a173:=Tryz.isAgg568
 z173:=Tryz.sizeOf568
 v173:=Tryz.zeroValue568
 t175:=Tryz.underlying434
 a175:=Tryz.isAgg434
 z175:=Tryz.sizeOf434
 v175:=Tryz.zeroValue434
 t210:=Tryz.underlying606
 a210:=Tryz.isAgg606
 z210:=Tryz.sizeOf606
 v210:=Tryz.zeroValue606
 t212:=Tryz.underlying609
 a212:=Tryz.isAgg609
 z212:=Tryz.sizeOf609
 v212:=Tryz.zeroValue609
 t213:=Tryz.underlying610
 a213:=Tryz.isAgg610
 z213:=Tryz.sizeOf610
 t232:=Tryz.underlying633
 a232:=Tryz.isAgg633
 z232:=Tryz.sizeOf633
 v232:=Tryz.zeroValue633
 t233:=Tryz.underlying634
 a233:=Tryz.isAgg634
 z233:=Tryz.sizeOf634
 v233:=Tryz.zeroValue634
 g15:=by kernel_rfl
 g16:=by kernel_rfl
 g17:=by kernel_rfl
 g18:=by kernel_rfl
 g19:=by kernel_rfl }
open Go.RowKit in
theorem Tryz.strconv_Atoi (s:ByteArray) (n:Int) (hl:s.size≤18) (h:Lib.atoi s.data.toList=some n) (w:World) :
  Calls Tryz.prog 257 #[.string s] w fun e w'=>e = .returned (.tuple #[.int .i64 n,.nilIface]) ∧ ∃ t,w'=Lib.bytesWorld w 5 t:=Any.strconv_Atoi Tryz.lays172 s n hl h w
def Tryz.laysM171_ren:Go.Shelf.Ren:=⟨fun | 171=>149 | 243=>259 | 246=>355 | 283=>460 | 284=>461 | 285=>462 | 286=>463 | 129=>233 | 317=>507 | 318=>508 | 319=>509 | 320=>510 | 337=>527 | 338=>528 | n=>n,fun | 3=>3 | 9=>9 | 2=>2 | 4=>4 | 171=>566 | 0=>0 | 53=>388 | 37=>280 | 5=>5 | 173=>568 | 212=>609 | 51=>386 | 20=>20 | 213=>610 | 46=>248 | 232=>633 | 233=>634 | n=>n,fun | 17=>3 | 18=>4 | 19=>5 | n=>n⟩
theorem Tryz.laysM171:Go.Proofs.LaysM.n171 Tryz.prog Tryz.laysM171_ren:={
 mixed:=by kernel_rfl
 f129:=Tryz.func233.trans (congrArg some (by kernel_rfl))
 f171:=Tryz.func149.trans (congrArg some (by kernel_rfl))
 f243:=Tryz.func259.trans (congrArg some (by kernel_rfl))
 f246:=Tryz.func355.trans (congrArg some (by kernel_rfl))
 f283:=Tryz.func460.trans (congrArg some (by kernel_rfl))
 f284:=Tryz.func461.trans (congrArg some (by kernel_rfl))
 f285:=Tryz.func462.trans (congrArg some (by kernel_rfl))
 f286:=Tryz.func463.trans (congrArg some (by kernel_rfl))
 f317:=Tryz.func507.trans (congrArg some (by kernel_rfl))
 f318:=Tryz.func508.trans (congrArg some (by kernel_rfl))
 f319:=Tryz.func509.trans (congrArg some (by kernel_rfl))
 f320:=Tryz.func510.trans (congrArg some (by kernel_rfl))
 f337:=Tryz.func527.trans (congrArg some (by kernel_rfl))
 f338:=Tryz.func528.trans (congrArg some (by kernel_rfl))
 t0:=Tryz.underlying0
 a0:=Tryz.isAgg0
 z0:=Tryz.sizeOf0
 v0:=Tryz.zeroValue0
 t2:=Tryz.underlying2
 a2:=Tryz.isAgg2
 z2:=Tryz.sizeOf2
 v2:=Tryz.zeroValue2
 t3:=Tryz.underlying3
 a3:=Tryz.isAgg3
 z3:=Tryz.sizeOf3
 v3:=Tryz.zeroValue3
 t4:=Tryz.underlying4
 a4:=Tryz.isAgg4
 z4:=Tryz.sizeOf4
 v4:=Tryz.zeroValue4
 t5:=Tryz.underlying5
 a5:=Tryz.isAgg5
 z5:=Tryz.sizeOf5
 v5:=Tryz.zeroValue5
 t9:=Tryz.underlying9
 a9:=Tryz.isAgg9
 z9:=Tryz.sizeOf9
 v9:=Tryz.zeroValue9
 t20:=Tryz.underlying20
 a20:=Tryz.isAgg20
 z20:=Tryz.sizeOf20
 v20:=Tryz.zeroValue20
 t37:=Tryz.underlying280
 a37:=Tryz.isAgg280
 z37:=Tryz.sizeOf280
 v37:=Tryz.zeroValue280
 t46:=Tryz.underlying248
 a46:=Tryz.isAgg248
 z46:=Tryz.sizeOf248
 v46:=Tryz.zeroValue248
 t51:=Tryz.underlying386
 a51:=Tryz.isAgg386
 z51:=Tryz.sizeOf386
 v51:=Tryz.zeroValue386
 t53:=Tryz.underlying388
 a53:=Tryz.isAgg388
 z53:=Tryz.sizeOf388
 v53:=Tryz.zeroValue388
 t171:=Tryz.underlying566
 a171:=Tryz.isAgg566
 z171:=Tryz.sizeOf566
 v171:=Tryz.zeroValue566
 t173:=Tryz.underlying568
 a173:=Tryz.isAgg568
 z173:=Tryz.sizeOf568
 v173:=Tryz.zeroValue568
 t212:=Tryz.underlying609
 a212:=Tryz.isAgg609
 z212:=Tryz.sizeOf609
 v212:=Tryz.zeroValue609
 t213:=Tryz.underlying610
 a213:=Tryz.isAgg610
 z213:=Tryz.sizeOf610
 t232:=Tryz.underlying633
 a232:=Tryz.isAgg633
 z232:=Tryz.sizeOf633
 v232:=Tryz.zeroValue633
 t233:=Tryz.underlying634
 a233:=Tryz.isAgg634
 z233:=Tryz.sizeOf634
 v233:=Tryz.zeroValue634
 g17:=by kernel_rfl
 g18:=by kernel_rfl
 g19:=by kernel_rfl
 i0:=by kernel_rfl
 i2:=by kernel_rfl
 i3:=by kernel_rfl
 i4:=by kernel_rfl
 i5:=by kernel_rfl
 i9:=by kernel_rfl
 i20:=by kernel_rfl
 i37:=by kernel_rfl
 i46:=by kernel_rfl
 i51:=by kernel_rfl
 i53:=by kernel_rfl
 i171:=by kernel_rfl
 i173:=by kernel_rfl
 i212:=by kernel_rfl
 i232:=by kernel_rfl
 i233:=by kernel_rfl
 m17:=by kernel_rfl
 m18:=by kernel_rfl
 m19:=by kernel_rfl }
open Go.RowKit Go.Sort Go.Lib in
theorem Tryz.strconv_Itoa (n:Int) (h0 : -9223372036854775808≤n) (h1:n≤9223372036854775807) (w:World) (htab:Lib.TabIs Tryz.prog w "internal/strconv.uint64pow10" .u64 Lib.pow10Tab) :
  Calls Tryz.prog 149 #[.int .i64 n] w fun e w'=>e = .returned (.string ⟨(Lib.itoa n).toArray⟩) ∧ ∃ k os,w'=grow (w.drewN k) os:=Any.strconv_Itoa Tryz.laysM171 n h0 h1 w htab
def Tryz.lays219_ren:Go.Shelf.Ren:=⟨fun | 219=>272 | 217=>160 | 225=>387 | 224=>388 | 267=>389 | 266=>271 | 314=>472 | n=>n,fun | 9=>9 | 3=>3 | 4=>4 | 5=>5 | 46=>248 | 146=>577 | 51=>386 | n=>n,fun | 1=>0 | n=>n⟩
theorem Tryz.lays219:Go.Proofs.Lays.n219 Tryz.prog Tryz.lays219_ren:={
 mixed:=by kernel_rfl
 f217:=Tryz.func160.trans (congrArg some (by kernel_rfl))
 f219:=Tryz.func272.trans (congrArg some (by kernel_rfl))
 f224:=Tryz.func388.trans (congrArg some (by kernel_rfl))
 f225:=Tryz.func387.trans (congrArg some (by kernel_rfl))
 f266:=Tryz.func271.trans (congrArg some (by kernel_rfl))
 f267:=Tryz.func389.trans (congrArg some (by kernel_rfl))
 f314:=Tryz.func472.trans (congrArg some (by kernel_rfl))
 t3:=Tryz.underlying3
 a3:=Tryz.isAgg3
 z3:=Tryz.sizeOf3
 v3:=Tryz.zeroValue3
 t4:=Tryz.underlying4
 a4:=Tryz.isAgg4
 z4:=Tryz.sizeOf4
 v4:=Tryz.zeroValue4
 t5:=Tryz.underlying5
 a5:=Tryz.isAgg5
 z5:=Tryz.sizeOf5
 v5:=Tryz.zeroValue5
 t9:=Tryz.underlying9
 a9:=Tryz.isAgg9
 z9:=Tryz.sizeOf9
 v9:=Tryz.zeroValue9
 t46:=Tryz.underlying248
 a46:=Tryz.isAgg248
 z46:=Tryz.sizeOf248
 v46:=Tryz.zeroValue248
 t51:=Tryz.underlying386
 a51:=Tryz.isAgg386
 z51:=Tryz.sizeOf386
 v51:=Tryz.zeroValue386
 t146:=Tryz.underlying577
 a146:=Tryz.isAgg577
 z146:=Tryz.sizeOf577
 v146:=Tryz.zeroValue577
 g1:=by kernel_rfl }
open Go.RowKit Go.Lib in
theorem Tryz.stringslite_Index_one (s:ByteArray) (c:UInt8) (w:World) :
  Calls Tryz.prog 272 #[.string s,.string ⟨#[c]⟩] w fun e w'=>e = .returned (.int .i64 (Lib.indexByte s.data.toList c))∧w'=w:=Any.stringslite_Index_one Tryz.lays219 s c w
def Tryz.lays99_ren:Go.Shelf.Ren:=⟨fun | 99=>274 | 206=>390 | n=>n,fun | 9=>9 | 4=>4 | 3=>3 | n=>n,fun | n=>n⟩
theorem Tryz.lays99:Go.Proofs.Lays.n99 Tryz.prog Tryz.lays99_ren:={
 mixed:=by kernel_rfl
 f99:=Tryz.func274.trans (congrArg some (by kernel_rfl))
 f206:=Tryz.func390.trans (congrArg some (by kernel_rfl))
 t3:=Tryz.underlying3
 a3:=Tryz.isAgg3
 z3:=Tryz.sizeOf3
 v3:=Tryz.zeroValue3
 t4:=Tryz.underlying4
 a4:=Tryz.isAgg4
 z4:=Tryz.sizeOf4
 v4:=Tryz.zeroValue4
 t9:=Tryz.underlying9
 a9:=Tryz.isAgg9
 z9:=Tryz.sizeOf9
 v9:=Tryz.zeroValue9 }
open Go.RowKit Go.Lib in
theorem Tryz.strings_HasPrefix (s p:ByteArray) (w:World) :
  Calls Tryz.prog 274 #[.string s,.string p] w fun e w'=>e = .returned (.bool (Lib.hasPrefix s.data.toList p.data.toList))∧w'=w:=Any.strings_HasPrefix Tryz.lays99 s p w
def Tryz.lays101_ren:Go.Shelf.Ren:=⟨fun | 101=>169 | 208=>275 | 206=>390 | n=>n,fun | 9=>9 | 4=>4 | 3=>3 | n=>n,fun | n=>n⟩
theorem Tryz.lays101:Go.Proofs.Lays.n101 Tryz.prog Tryz.lays101_ren:={
 mixed:=by kernel_rfl
 f101:=Tryz.func169.trans (congrArg some (by kernel_rfl))
 f206:=Tryz.func390.trans (congrArg some (by kernel_rfl))
 f208:=Tryz.func275.trans (congrArg some (by kernel_rfl))
 t3:=Tryz.underlying3
 a3:=Tryz.isAgg3
 z3:=Tryz.sizeOf3
 v3:=Tryz.zeroValue3
 t4:=Tryz.underlying4
 a4:=Tryz.isAgg4
 z4:=Tryz.sizeOf4
 v4:=Tryz.zeroValue4
 t9:=Tryz.underlying9
 a9:=Tryz.isAgg9
 z9:=Tryz.sizeOf9
 v9:=Tryz.zeroValue9 }
open Go.RowKit Go.Lib in
theorem Tryz.strings_TrimPrefix (s p:ByteArray) (w:World) :
  Calls Tryz.prog 169 #[.string s,.string p] w fun e w'=>e = .returned (.string ⟨(Lib.trimPrefix s.data.toList p.data.toList).toArray⟩)∧w'=w:=Any.strings_TrimPrefix Tryz.lays101 s p w
end Go.Proofs
