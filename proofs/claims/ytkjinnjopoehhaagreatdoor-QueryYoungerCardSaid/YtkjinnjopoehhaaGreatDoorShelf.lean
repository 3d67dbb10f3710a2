/-
  The shelf's contracts at this program, in plain words (laid by the kit's tool lay-plain; pruned).
-/
import Derived.Shelf.Strings.Builder1
import Derived.Shelf.Strings.Builder2
import Derived.Shelf.Strings.OnBuilder
import Derived.Shelf.Small.Bits
import Derived.Shelf.Small.Strs
import Derived.Shelf.Small.Wraps
import Derived.Shelf.Utf8.RuneCount
import Derived.Shelf.Strconv.Atoi
import Derived.Shelf.Strconv.Itoa0
import Derived.Shelf.Strconv.Itoa1
import Derived.Shelf.LaysM
import Derived.Shelf.Strconv.Itoa2
import Derived.Shelf.Strconv.Itoa3
import Derived.Shelf.Strconv.AtoiErrFast
import Derived.Shelf.Strconv.ParseIntEmpty
import Derived.Shelf.Strconv.AtoiFail
import Derived.Shelf.Strconv.Clone
import Derived.Shelf.Strconv.SyntaxError
import Derived.Shelf.LaysC
import Derived.Shelf.Strconv.ToError
import Derived.Shelf.Strconv.Lower
import Derived.Shelf.Strconv.ParseUint10
import Derived.Shelf.Strconv.ParseUint10Empty
import Derived.Shelf.Strconv.ParseUint10Any
import Derived.Shelf.Strconv.RangeError
import Derived.Shelf.Strconv.ToErrorRange
import Derived.Shelf.Strings.Search1
import Derived.Shelf.Strings.Search2
import Derived.Shelf.Strings.Search3
import Derived.Shelf.Strings.Cut
import Derived.Shelf.Strings.Count
import Derived.Shelf.Strings.Shaped
import Derived.Shelf.Strings.Prefix
import Derived.Shelf.Strings.Split
import Derived.Shelf.Strings.SplitShaped
import Derived.Shelf.Unicode.Decode
import Derived.Shelf.Strings.RuneCount
import Derived.Shelf.Strings.Explode
import Derived.Shelf.Unicode.DecodeSlow
import Derived.Shelf.Unicode.DecodeAny
import Derived.Shelf.Slices.Equal
import Derived.Ground.Names2Prog
import Derived.Shelf.Slices.Clone
import Derived.Shelf.Slices.SearchI
import Derived.Ground.SlgnProg
import Derived.Shelf.SlicesE.Clone
import Derived.Test.YtkjinnjopoehhaaGreatDoorProg
set_option linter.unusedSectionVars false
set_option linter.unusedVariables false
set_option linter.unusedSimpArgs false
namespace Go.Proofs
open Go.Shelf
def Tryz.lays156_ren:Go.Shelf.Ren:=⟨fun | 156=>74 | 165=>135 | 166=>136 | 169=>137 | 240=>206 | 241=>207 | 276=>295 | 277=>296 | n=>n,fun | 31=>49 | 9=>9 | 3=>3 | 4=>4 | 0=>0 | 20=>20 | 72=>222 | 76=>226 | 70=>220 | 37=>185 | 75=>225 | 127=>315 | 164=>381 | 5=>5 | 80=>228 | n=>n,fun | n=>n⟩
theorem Tryz.lays156:Go.Proofs.Lays.n156 Tryz.prog Tryz.lays156_ren:={
 mixed:=by kernel_rfl
 f156:=Tryz.func74.trans (congrArg some (by kernel_rfl))
 f165:=Tryz.func135.trans (congrArg some (by kernel_rfl))
 f166:=Tryz.func136.trans (congrArg some (by kernel_rfl))
 f169:=Tryz.func137.trans (congrArg some (by kernel_rfl))
 f240:=Tryz.func206.trans (congrArg some (by kernel_rfl))
 f241:=Tryz.func207.trans (congrArg some (by kernel_rfl))
 f276:=Tryz.func295.trans (congrArg some (by kernel_rfl))
 f277:=Tryz.func296.trans (congrArg some (by kernel_rfl))
 t0:=Tryz.underlying0
 a0:=Tryz.isAgg0
 z0:=Tryz.sizeOf0
 v0:=Tryz.zeroValue0
 t3:=Tryz.underlying3
 a3:=Tryz.isAgg3
 z3:=Tryz.sizeOf3
 v3:=Tryz.zeroValue3
 t4:=Tryz.underlying4
 a4:=Tryz.isAgg4
 z4:=Tryz.sizeOf4
 v4:=Tryz.zeroValue4
 t9:=Tryz.underlying9
 a9:=Tryz.isAgg9
 z9:=Tryz.sizeOf9
 v9:=Tryz.zeroValue9
 t20:=Tryz.underlying20
 a20:=Tryz.isAgg20
 z20:=Tryz.sizeOf20
 v20:=Tryz.zeroValue20
 t31:=Tryz.underlying49
 a31:=Tryz.isAgg49
 z31:=Tryz.sizeOf49
 v31:=Tryz.zeroValue49
 t37:=Tryz.underlying185
 a37:=Tryz.isAgg185
 z37:=Tryz.sizeOf185
 v37:=Tryz.zeroValue185
 t70:=Tryz.underlying220
 a70:=Tryz.isAgg220
 z70:=Tryz.sizeOf220
 v70:=Tryz.zeroValue220
 t72:=Tryz.underlying222
 a72:=Tryz.isAgg222
 z72:=Tryz.sizeOf222
 v72:=Tryz.zeroValue222
 t75:=Tryz.underlying225
 a75:=Tryz.isAgg225
 z75:=Tryz.sizeOf225
 v75:=Tryz.zeroValue225
 t76:=Tryz.underlying226
 a76:=Tryz.isAgg226
 z76:=Tryz.sizeOf226
 v76:=Tryz.zeroValue226
 t127:=Tryz.underlying315
 a127:=Tryz.isAgg315
 z127:=Tryz.sizeOf315
 v127:=Tryz.zeroValue315
 t164:=Tryz.underlying381
 a164:=Tryz.isAgg381
 z164:=Tryz.sizeOf381
 v164:=Tryz.zeroValue381 }
theorem Tryz.Builder_Extra_156:Builder.Extra Tryz.prog Tryz.lays156_ren:={
 sizeBuilder:=by kernel_rfl
 liesBuilder:=by kernel_rfl
 t5:=Tryz.underlying5
 a5:=Tryz.isAgg5
 z5:=Tryz.sizeOf5
 v5:=Tryz.zeroValue5
 infoByte:=by kernel_rfl
 cellsByte:=by kernel_rfl
 sizeByte:=by kernel_rfl
 neB5:=by decide }
open Go.RowKit in
theorem Tryz.strings_Join (bk o c:Nat) (xs:List ByteArray) (sep:ByteArray) (w:World) (hcells:∀ (j:Nat) x,xs[j]? = some x→w.cell? ⟨bk,o+j,none⟩=some (.string x)) (hbk:bk<w.heap.size) (hN:xs.length≤140737488355328) (hcap:xs.length≤c) (hlen:(Lib.join (xs.map (·.data.toList)) sep.data.toList).length≤140737488355328) :
  Calls Tryz.prog 74 #[.slice (some ⟨bk,o,none⟩) xs.length c,.string sep] w fun e w'=>e = .returned (.string ⟨(Lib.join (xs.map (·.data.toList)) sep.data.toList).toArray⟩)∧Below w.heap.size w w':=Any.strings_Join Tryz.lays156 Tryz.Builder_Extra_156 bk o c xs sep w hcells hbk hN hcap hlen
def Tryz.lays106_ren:Go.Shelf.Ren:=⟨fun | 106=>124 | 213=>189 | 265=>283 | n=>n,fun | 9=>9 | 3=>3 | n=>n,fun | n=>n⟩
theorem Tryz.lays106:Go.Proofs.Lays.n106 Tryz.prog Tryz.lays106_ren:={
 mixed:=by kernel_rfl
 f106:=Tryz.func124.trans (congrArg some (by kernel_rfl))
 f213:=Tryz.func189.trans (congrArg some (by kernel_rfl))
 f265:=Tryz.func283.trans (congrArg some (by kernel_rfl))
 t3:=Tryz.underlying3
 a3:=Tryz.isAgg3
 z3:=Tryz.sizeOf3
 v3:=Tryz.zeroValue3
 t9:=Tryz.underlying9
 a9:=Tryz.isAgg9
 z9:=Tryz.sizeOf9
 v9:=Tryz.zeroValue9 }
open Go.RowKit in
theorem Tryz.strings_Compare (a b:ByteArray) (w:World) :
  Calls Tryz.prog 124 #[.string a,.string b] w fun e w'=>e = .returned (.int .i64 (Lib.compareBytes a.data.toList b.data.toList))∧w'=w:=Any.strings_Compare Tryz.lays106 a b w
def Tryz.lays137_ren:Go.Shelf.Ren:=⟨fun | 137=>60 | 217=>117 | 266=>184 | n=>n,fun | 9=>9 | 5=>5 | 3=>3 | n=>n,fun | n=>n⟩
theorem Tryz.lays137:Go.Proofs.Lays.n137 Tryz.prog Tryz.lays137_ren:={
 mixed:=by kernel_rfl
 f137:=Tryz.func60.trans (congrArg some (by kernel_rfl))
 f217:=Tryz.func117.trans (congrArg some (by kernel_rfl))
 f266:=Tryz.func184.trans (congrArg some (by kernel_rfl))
 t3:=Tryz.underlying3
 a3:=Tryz.isAgg3
 z3:=Tryz.sizeOf3
 v3:=Tryz.zeroValue3
 t5:=Tryz.underlying5
 a5:=Tryz.isAgg5
 z5:=Tryz.sizeOf5
 v5:=Tryz.zeroValue5
 t9:=Tryz.underlying9
 a9:=Tryz.isAgg9
 z9:=Tryz.sizeOf9
 v9:=Tryz.zeroValue9 }
open Go.RowKit in
theorem Tryz.strings_IndexByte (s:ByteArray) (c:Int) (w:World) :
  Calls Tryz.prog 60 #[.string s,.int .u8 c] w fun e w'=>e = .returned (.int .i64 (Lib.indexByte s.data.toList c.toNat.toUInt8))∧w'=w:=Any.strings_IndexByte Tryz.lays137 s c w
def Tryz.lays103_ren:Go.Shelf.Ren:=⟨fun | 103=>121 | 210=>186 | 206=>282 | n=>n,fun | 9=>9 | 4=>4 | 24=>200 | 3=>3 | n=>n,fun | n=>n⟩
theorem Tryz.lays103:Go.Proofs.Lays.n103 Tryz.prog Tryz.lays103_ren:={
 mixed:=by kernel_rfl
 f103:=Tryz.func121.trans (congrArg some (by kernel_rfl))
 f206:=Tryz.func282.trans (congrArg some (by kernel_rfl))
 f210:=Tryz.func186.trans (congrArg some (by kernel_rfl))
 t3:=Tryz.underlying3
 a3:=Tryz.isAgg3
 z3:=Tryz.sizeOf3
 v3:=Tryz.zeroValue3
 t4:=Tryz.underlying4
 a4:=Tryz.isAgg4
 z4:=Tryz.sizeOf4
 v4:=Tryz.zeroValue4
 t9:=Tryz.underlying9
 a9:=Tryz.isAgg9
 z9:=Tryz.sizeOf9
 v9:=Tryz.zeroValue9
 t24:=Tryz.underlying200
 a24:=Tryz.isAgg200
 z24:=Tryz.sizeOf200
 v24:=Tryz.zeroValue200 }
open Go.RowKit in
theorem Tryz.strings_CutPrefix (s p:ByteArray) (w:World) :
  Calls Tryz.prog 121 #[.string s,.string p] w fun e w'=>e = .returned (.tuple #[.string ⟨(Lib.trimPrefix s.data.toList p.data.toList).toArray⟩,.bool (Lib.hasPrefix s.data.toList p.data.toList)])∧w'=w:=Any.strings_CutPrefix Tryz.lays103 s p w
def Tryz.lays172_ren:Go.Shelf.Ren:=⟨fun | 172=>150 | 244=>217 | 245=>218 | 247=>303 | 279=>304 | 280=>305 | 281=>306 | 282=>307 | 287=>284 | 316=>346 | 171=>37 | 205=>347 | 321=>340 | 322=>341 | 243=>75 | 246=>138 | 283=>208 | 284=>209 | 285=>210 | 286=>211 | 129=>298 | 317=>297 | 318=>299 | 319=>300 | 320=>301 | 337=>344 | 338=>345 | n=>n,fun | 9=>9 | 3=>3 | 75=>225 | 76=>226 | 4=>4 | 5=>5 | 167=>389 | 37=>185 | 0=>0 | 85=>390 | 2=>2 | 168=>392 | 53=>297 | 175=>298 | 46=>374 | 210=>441 | 127=>315 | 145=>503 | 143=>501 | 21=>21 | 171=>316 | 173=>319 | 212=>385 | 51=>386 | 20=>20 | 213=>387 | 232=>499 | 233=>500 | 80=>228 | n=>n,fun | 15=>2 | 16=>3 | 17=>1 | 18=>6 | 19=>7 | n=>n⟩
theorem Tryz.lays172:Go.Proofs.Lays.n172 Tryz.prog Tryz.lays172_ren:={
 mixed:=by kernel_rfl
 f129:=Tryz.func298.trans (congrArg some (by kernel_rfl))
 f171:=Tryz.func37.trans (congrArg some (by kernel_rfl))
 f172:=Tryz.func150.trans (congrArg some (by kernel_rfl))
 f205:=Tryz.func347.trans (congrArg some (by kernel_rfl))
 f243:=Tryz.func75.trans (congrArg some (by kernel_rfl))
 f244:=Tryz.func217.trans (congrArg some (by kernel_rfl))
 f245:=Tryz.func218.trans (congrArg some (by kernel_rfl))
 f246:=Tryz.func138.trans (congrArg some (by kernel_rfl))
 f247:=Tryz.func303.trans (congrArg some (by kernel_rfl))
 f279:=Tryz.func304.trans (congrArg some (by kernel_rfl))
 f280:=Tryz.func305.trans (congrArg some (by kernel_rfl))
 f281:=Tryz.func306.trans (congrArg some (by kernel_rfl))
 f282:=Tryz.func307.trans (congrArg some (by kernel_rfl))
 f283:=Tryz.func208.trans (congrArg some (by kernel_rfl))
 f284:=Tryz.func209.trans (congrArg some (by kernel_rfl))
 f285:=Tryz.func210.trans (congrArg some (by kernel_rfl))
 f286:=Tryz.func211.trans (congrArg some (by kernel_rfl))
 f287:=Tryz.func284.trans (congrArg some (by kernel_rfl))
 f316:=Tryz.func346.trans (congrArg some (by kernel_rfl))
 f317:=Tryz.func297.trans (congrArg some (by kernel_rfl))
 f318:=Tryz.func299.trans (congrArg some (by kernel_rfl))
 f319:=Tryz.func300.trans (congrArg some (by kernel_rfl))
 f320:=Tryz.func301.trans (congrArg some (by kernel_rfl))
 f321:=Tryz.func340.trans (congrArg some (by kernel_rfl))
 f322:=Tryz.func341.trans (congrArg some (by kernel_rfl))
 f337:=Tryz.func344.trans (congrArg some (by kernel_rfl))
 f338:=Tryz.func345.trans (congrArg some (by kernel_rfl))
 t0:=Tryz.underlying0
 a0:=Tryz.isAgg0
 z0:=Tryz.sizeOf0
 v0:=Tryz.zeroValue0
 t2:=Tryz.underlying2
 a2:=Tryz.isAgg2
 z2:=Tryz.sizeOf2
 v2:=Tryz.zeroValue2
 t3:=Tryz.underlying3
 a3:=Tryz.isAgg3
 z3:=Tryz.sizeOf3
 v3:=Tryz.zeroValue3
 t4:=Tryz.underlying4
 a4:=Tryz.isAgg4
 z4:=Tryz.sizeOf4
 v4:=Tryz.zeroValue4
 t5:=Tryz.underlying5
 a5:=Tryz.isAgg5
 z5:=Tryz.sizeOf5
 v5:=Tryz.zeroValue5
 t9:=Tryz.underlying9
 a9:=Tryz.isAgg9
 z9:=Tryz.sizeOf9
 v9:=Tryz.zeroValue9
 t20:=Tryz.underlying20
 a20:=Tryz.isAgg20
 z20:=Tryz.sizeOf20
 v20:=Tryz.zeroValue20
 t21:=Tryz.underlying21
 a21:=Tryz.isAgg21
 z21:=Tryz.sizeOf21
 v21:=Tryz.zeroValue21
 t37:=Tryz.underlying185
 a37:=Tryz.isAgg185
 z37:=Tryz.sizeOf185
 v37:=Tryz.zeroValue185
 t46:=Tryz.underlying374
 a46:=Tryz.isAgg374
 z46:=Tryz.sizeOf374
 v46:=Tryz.zeroValue374
 t51:=Tryz.underlying386
 a51:=Tryz.isAgg386
 z51:=Tryz.sizeOf386
 v51:=Tryz.zeroValue386
 t53:=Tryz.underlying297
 a53:=Tryz.isAgg297
 z53:=Tryz.sizeOf297
 v53:=Tryz.zeroValue297
 t75:=Tryz.underlying225
 a75:=Tryz.isAgg225
 z75:=Tryz.sizeOf225
 v75:=Tryz.zeroValue225
 t76:=Tryz.underlying226
 a76:=Tryz.isAgg226
 z76:=Tryz.sizeOf226
 v76:=Tryz.zeroValue226
 t85:=Tryz.underlying390
 a85:=Tryz.isAgg390
 z85:=Tryz.sizeOf390
 v85:=Tryz.zeroValue390
 t127:=Tryz.underlying315
 a127:=Tryz.isAgg315
 z127:=Tryz.sizeOf315
 v127:=Tryz.zeroValue315
 t143:=Tryz.underlying501
 a143:=Tryz.isAgg501
 z143:=Tryz.sizeOf501
 v143:=Tryz.zeroValue501
 t145:=Tryz.underlying503
 a145:=Tryz.isAgg503
 z145:=Tryz.sizeOf503
 v145:=Tryz.zeroValue503
 t167:=Tryz.underlying389
 a167:=Tryz.isAgg389
 z167:=Tryz.sizeOf389
 v167:=Tryz.zeroValue389
 t168:=Tryz.underlying392
 a168:=Tryz.isAgg392
 z168:=Tryz.sizeOf392
 v168:=Tryz.zeroValue392
 t171:=Tryz.underlying316
 a171:=Tryz.isAgg316
 z171:=Tryz.sizeOf316
 v171:=Tryz.zeroValue316
 t173:=Tryz.underlying319
 a173:=Tryz.isAgg319
 z173:=Tryz.sizeOf319
 v173:=Tryz.zeroValue319
 t175:=Tryz.underlying298
 a175:=Tryz.isAgg298
 z175:=Tryz.sizeOf298
 v175:=Tryz.zeroValue298
 t210:=Tryz.underlying441
 a210:=Tryz.isAgg441
 z210:=Tryz.sizeOf441
 v210:=Tryz.zeroValue441
 t212:=Tryz.underlying385
 a212:=Tryz.isAgg385
 z212:=Tryz.sizeOf385
 v212:=Tryz.zeroValue385
 t213:=Tryz.underlying387
 a213:=Tryz.isAgg387
 z213:=Tryz.sizeOf387
 t232:=Tryz.underlying499
 a232:=Tryz.isAgg499
 z232:=Tryz.sizeOf499
 v232:=Tryz.zeroValue499
 t233:=Tryz.underlying500
 a233:=Tryz.isAgg500
 z233:=Tryz.sizeOf500
 v233:=Tryz.zeroValue500
 g15:=by kernel_rfl
 g16:=by kernel_rfl
 g17:=by kernel_rfl
 g18:=by kernel_rfl
 g19:=by kernel_rfl }
open Go.RowKit in
theorem Tryz.strconv_Atoi (s:ByteArray) (n:Int) (hl:s.size≤18) (h:Lib.atoi s.data.toList=some n) (w:World) :
  Calls Tryz.prog 150 #[.string s] w fun e w'=>e = .returned (.tuple #[.int .i64 n,.nilIface]) ∧ ∃ t,w'=Lib.bytesWorld w 5 t:=Any.strconv_Atoi Tryz.lays172 s n hl h w
def Tryz.laysM171_ren:Go.Shelf.Ren:=⟨fun | 171=>37 | 243=>75 | 246=>138 | 283=>208 | 284=>209 | 285=>210 | 286=>211 | 129=>298 | 317=>297 | 318=>299 | 319=>300 | 320=>301 | 337=>344 | 338=>345 | n=>n,fun | 3=>3 | 9=>9 | 2=>2 | 4=>4 | 171=>316 | 0=>0 | 53=>297 | 37=>185 | 5=>5 | 173=>319 | 212=>385 | 51=>386 | 20=>20 | 213=>387 | 46=>374 | 232=>499 | 233=>500 | n=>n,fun | 17=>1 | 18=>6 | 19=>7 | n=>n⟩
theorem Tryz.laysM171:Go.Proofs.LaysM.n171 Tryz.prog Tryz.laysM171_ren:={
 mixed:=by kernel_rfl
 f129:=Tryz.func298.trans (congrArg some (by kernel_rfl))
 f171:=Tryz.func37.trans (congrArg some (by kernel_rfl))
 f243:=Tryz.func75.trans (congrArg some (by kernel_rfl))
 f246:=Tryz.func138.trans (congrArg some (by kernel_rfl))
 f283:=Tryz.func208.trans (congrArg some (by kernel_rfl))
 f284:=Tryz.func209.trans (congrArg some (by kernel_rfl))
 f285:=Tryz.func210.trans (congrArg some (by kernel_rfl))
 f286:=Tryz.func211.trans (congrArg some (by kernel_rfl))
 f317:=Tryz.func297.trans (congrArg some (by kernel_rfl))
 f318:=Tryz.func299.trans (congrArg some (by kernel_rfl))
 f319:=Tryz.func300.trans (congrArg some (by kernel_rfl))
 f320:=Tryz.func301.trans (congrArg some (by kernel_rfl))
 f337:=Tryz.func344.trans (congrArg some (by kernel_rfl))
 f338:=Tryz.func345.trans (congrArg some (by kernel_rfl))
 t0:=Tryz.underlying0
 a0:=Tryz.isAgg0
 z0:=Tryz.sizeOf0
 v0:=Tryz.zeroValue0
 t2:=Tryz.underlying2
 a2:=Tryz.isAgg2
 z2:=Tryz.sizeOf2
 v2:=Tryz.zeroValue2
 t3:=Tryz.underlying3
 a3:=Tryz.isAgg3
 z3:=Tryz.sizeOf3
 v3:=Tryz.zeroValue3
 t4:=Tryz.underlying4
 a4:=Tryz.isAgg4
 z4:=Tryz.sizeOf4
 v4:=Tryz.zeroValue4
 t5:=Tryz.underlying5
 a5:=Tryz.isAgg5
 z5:=Tryz.sizeOf5
 v5:=Tryz.zeroValue5
 t9:=Tryz.underlying9
 a9:=Tryz.isAgg9
 z9:=Tryz.sizeOf9
 v9:=Tryz.zeroValue9
 t20:=Tryz.underlying20
 a20:=Tryz.isAgg20
 z20:=Tryz.sizeOf20
 v20:=Tryz.zeroValue20
 t37:=Tryz.underlying185
 a37:=Tryz.isAgg185
 z37:=Tryz.sizeOf185
 v37:=Tryz.zeroValue185
 t46:=Tryz.underlying374
 a46:=Tryz.isAgg374
 z46:=Tryz.sizeOf374
 v46:=Tryz.zeroValue374
 t51:=Tryz.underlying386
 a51:=Tryz.isAgg386
 z51:=Tryz.sizeOf386
 v51:=Tryz.zeroValue386
 t53:=Tryz.underlying297
 a53:=Tryz.isAgg297
 z53:=Tryz.sizeOf297
 v53:=Tryz.zeroValue297
 t171:=Tryz.underlying316
 a171:=Tryz.isAgg316
 z171:=Tryz.sizeOf316
 v171:=Tryz.zeroValue316
 t173:=Tryz.underlying319
 a173:=Tryz.isAgg319
 z173:=Tryz.sizeOf319
 v173:=Tryz.zeroValue319
 t212:=Tryz.underlying385
 a212:=Tryz.isAgg385
 z212:=Tryz.sizeOf385
 v212:=Tryz.zeroValue385
 t213:=Tryz.underlying387
 a213:=Tryz.isAgg387
 z213:=Tryz.sizeOf387
 t232:=Tryz.underlying499
 a232:=Tryz.isAgg499
 z232:=Tryz.sizeOf499
 v232:=Tryz.zeroValue499
 t233:=Tryz.underlying500
 a233:=Tryz.isAgg500
 z233:=Tryz.sizeOf500
 v233:=Tryz.zeroValue500
 g17:=by kernel_rfl
 g18:=by kernel_rfl
 g19:=by kernel_rfl
 i0:=by kernel_rfl
 i2:=by kernel_rfl
 i3:=by kernel_rfl
 i4:=by kernel_rfl
 i5:=by kernel_rfl
 i9:=by kernel_rfl
 i20:=by kernel_rfl
 i37:=by kernel_rfl
 i46:=by kernel_rfl
 i51:=by kernel_rfl
 i53:=by kernel_rfl
 i171:=by kernel_rfl
 i173:=by kernel_rfl
 i212:=by kernel_rfl
 i232:=by kernel_rfl
 i233:=by kernel_rfl
 m17:=by kernel_rfl
 m18:=by kernel_rfl
 m19:=by kernel_rfl }
open Go.RowKit Go.Sort Go.Lib in
theorem Tryz.strconv_Itoa (n:Int) (h0 : -9223372036854775808≤n) (h1:n≤9223372036854775807) (w:World) (htab:Lib.TabIs Tryz.prog w "internal/strconv.uint64pow10" .u64 Lib.pow10Tab) :
  Calls Tryz.prog 37 #[.int .i64 n] w fun e w'=>e = .returned (.string ⟨(Lib.itoa n).toArray⟩) ∧ ∃ k os,w'=grow (w.drewN k) os:=Any.strconv_Itoa Tryz.laysM171 n h0 h1 w htab
def Tryz.lays219_ren:Go.Shelf.Ren:=⟨fun | 219=>185 | 217=>117 | 225=>279 | 224=>280 | 267=>281 | 266=>184 | 314=>339 | n=>n,fun | 9=>9 | 3=>3 | 4=>4 | 5=>5 | 46=>374 | 146=>434 | 51=>386 | n=>n,fun | 1=>0 | n=>n⟩
theorem Tryz.lays219:Go.Proofs.Lays.n219 Tryz.prog Tryz.lays219_ren:={
 mixed:=by kernel_rfl
 f217:=Tryz.func117.trans (congrArg some (by kernel_rfl))
 f219:=Tryz.func185.trans (congrArg some (by kernel_rfl))
 f224:=Tryz.func280.trans (congrArg some (by kernel_rfl))
 f225:=Tryz.func279.trans (congrArg some (by kernel_rfl))
 f266:=Tryz.func184.trans (congrArg some (by kernel_rfl))
 f267:=Tryz.func281.trans (congrArg some (by kernel_rfl))
 f314:=Tryz.func339.trans (congrArg some (by kernel_rfl))
 t3:=Tryz.underlying3
 a3:=Tryz.isAgg3
 z3:=Tryz.sizeOf3
 v3:=Tryz.zeroValue3
 t4:=Tryz.underlying4
 a4:=Tryz.isAgg4
 z4:=Tryz.sizeOf4
 v4:=Tryz.zeroValue4
 t5:=Tryz.underlying5
 a5:=Tryz.isAgg5
 z5:=Tryz.sizeOf5
 v5:=Tryz.zeroValue5
 t9:=Tryz.underlying9
 a9:=Tryz.isAgg9
 z9:=Tryz.sizeOf9
 v9:=Tryz.zeroValue9
 t46:=Tryz.underlying374
 a46:=Tryz.isAgg374
 z46:=Tryz.sizeOf374
 v46:=Tryz.zeroValue374
 t51:=Tryz.underlying386
 a51:=Tryz.isAgg386
 z51:=Tryz.sizeOf386
 v51:=Tryz.zeroValue386
 t146:=Tryz.underlying434
 a146:=Tryz.isAgg434
 z146:=Tryz.sizeOf434
 v146:=Tryz.zeroValue434
 g1:=by kernel_rfl }
open Go.RowKit Go.Lib in
theorem Tryz.stringslite_Index_one (s:ByteArray) (c:UInt8) (w:World) :
  Calls Tryz.prog 185 #[.string s,.string ⟨#[c]⟩] w fun e w'=>e = .returned (.int .i64 (Lib.indexByte s.data.toList c))∧w'=w:=Any.stringslite_Index_one Tryz.lays219 s c w
def Tryz.lays99_ren:Go.Shelf.Ren:=⟨fun | 99=>187 | 206=>282 | n=>n,fun | 9=>9 | 4=>4 | 3=>3 | n=>n,fun | n=>n⟩
theorem Tryz.lays99:Go.Proofs.Lays.n99 Tryz.prog Tryz.lays99_ren:={
 mixed:=by kernel_rfl
 f99:=Tryz.func187.trans (congrArg some (by kernel_rfl))
 f206:=Tryz.func282.trans (congrArg some (by kernel_rfl))
 t3:=Tryz.underlying3
 a3:=Tryz.isAgg3
 z3:=Tryz.sizeOf3
 v3:=Tryz.zeroValue3
 t4:=Tryz.underlying4
 a4:=Tryz.isAgg4
 z4:=Tryz.sizeOf4
 v4:=Tryz.zeroValue4
 t9:=Tryz.underlying9
 a9:=Tryz.isAgg9
 z9:=Tryz.sizeOf9
 v9:=Tryz.zeroValue9 }
open Go.RowKit Go.Lib in
theorem Tryz.strings_HasPrefix (s p:ByteArray) (w:World) :
  Calls Tryz.prog 187 #[.string s,.string p] w fun e w'=>e = .returned (.bool (Lib.hasPrefix s.data.toList p.data.toList))∧w'=w:=Any.strings_HasPrefix Tryz.lays99 s p w
def Tryz.lays101_ren:Go.Shelf.Ren:=⟨fun | 101=>123 | 208=>188 | 206=>282 | n=>n,fun | 9=>9 | 4=>4 | 3=>3 | n=>n,fun | n=>n⟩
theorem Tryz.lays101:Go.Proofs.Lays.n101 Tryz.prog Tryz.lays101_ren:={
 mixed:=by kernel_rfl
 f101:=Tryz.func123.trans (congrArg some (by kernel_rfl))
 f206:=Tryz.func282.trans (congrArg some (by kernel_rfl))
 f208:=Tryz.func188.trans (congrArg some (by kernel_rfl))
 t3:=Tryz.underlying3
 a3:=Tryz.isAgg3
 z3:=Tryz.sizeOf3
 v3:=Tryz.zeroValue3
 t4:=Tryz.underlying4
 a4:=Tryz.isAgg4
 z4:=Tryz.sizeOf4
 v4:=Tryz.zeroValue4
 t9:=Tryz.underlying9
 a9:=Tryz.isAgg9
 z9:=Tryz.sizeOf9
 v9:=Tryz.zeroValue9 }
open Go.RowKit Go.Lib in
theorem Tryz.strings_TrimPrefix (s p:ByteArray) (w:World) :
  Calls Tryz.prog 123 #[.string s,.string p] w fun e w'=>e = .returned (.string ⟨(Lib.trimPrefix s.data.toList p.data.toList).toArray⟩)∧w'=w:=Any.strings_TrimPrefix Tryz.lays101 s p w
end Go.Proofs
