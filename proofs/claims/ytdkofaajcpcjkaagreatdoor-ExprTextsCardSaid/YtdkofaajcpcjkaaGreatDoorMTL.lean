/-
  Merged: Shelf.
-/
import Derived.Shelf.Small.Utf8
import Derived.Shelf.Small.Strs
import Derived.Shelf.Small.Wraps
import Derived.Shelf.Strconv.Atoi
import Derived.Shelf.Strconv.Itoa0
import Derived.Shelf.Strconv.Itoa1
import Derived.Shelf.LaysM
import Derived.Shelf.Strconv.Itoa2
import Derived.Shelf.Strconv.Itoa3
import Derived.Shelf.Strconv.AtoiErrFast
import Derived.Shelf.Strconv.ParseIntEmpty
import Derived.Shelf.Strconv.AtoiFail
import Derived.Shelf.Strconv.Clone
import Derived.Shelf.Strconv.SyntaxError
import Derived.Shelf.LaysC
import Derived.Shelf.Strconv.ToError
import Derived.Shelf.Strconv.Lower
import Derived.Shelf.Strconv.ParseUint10
import Derived.Shelf.Strconv.ParseUint10Empty
import Derived.Shelf.Strconv.ParseUint10Any
import Derived.Shelf.Strconv.ParseInt10
import Derived.Shelf.Strconv.AtoiLong
import Derived.Shelf.Strconv.AtoiInnerAll
import Derived.Shelf.Strconv.RangeError
import Derived.Shelf.Strconv.ToErrorRange
import Derived.Shelf.Strconv.AtoiAll
import Derived.Shelf.Strconv.ErrVarAll
import Derived.Shelf.Strings.Search1
import Derived.Shelf.Strings.Prefix
import Derived.Shelf.Strings.Runes
import Derived.Shelf.Strings.IndexAny
import Derived.Shelf.Strings.AsciiSet
import Derived.Shelf.Strings.IndexAnyAll
import Derived.Test.YtdkofaajcpcjkaaGreatDoorProg
set_option linter.unusedSimpArgs false
set_option linter.unusedVariables false
namespace Go.Proofs
open Go.Shelf
def Tryz.lays119_ren:Go.Shelf.Ren:=⟨fun | 119=>71 | n=>n,fun | 21=>21 | 4=>4 | n=>n,fun | n=>n⟩
theorem Tryz.lays119:Go.Proofs.Lays.n119 Tryz.prog Tryz.lays119_ren:={
 mixed:=by kernel_rfl
 f119:=Tryz.func71.trans (congrArg some (by kernel_rfl))
 t4:=Tryz.underlying4
 a4:=Tryz.isAgg4
 z4:=Tryz.sizeOf4
 v4:=Tryz.zeroValue4
 t21:=Tryz.underlying21
 a21:=Tryz.isAgg21
 z21:=Tryz.sizeOf21
 v21:=Tryz.zeroValue21 }
theorem Tryz.utf8_ValidRune (r:Int) (w:World) :
  Calls Tryz.prog 71 #[.int .i32 r] w fun e w'=>e=.returned (.bool (Lib.validRune r))∧w'=w:=Any.utf8_ValidRune Tryz.lays119 r w
def Tryz.lays137_ren:Go.Shelf.Ren:=⟨fun | 137=>70 | 217=>78 | 266=>88 | n=>n,fun | 9=>9 | 5=>5 | 3=>3 | n=>n,fun | n=>n⟩
theorem Tryz.lays137:Go.Proofs.Lays.n137 Tryz.prog Tryz.lays137_ren:={
 mixed:=by kernel_rfl
 f137:=Tryz.func70.trans (congrArg some (by kernel_rfl))
 f217:=Tryz.func78.trans (congrArg some (by kernel_rfl))
 f266:=Tryz.func88.trans (congrArg some (by kernel_rfl))
 t3:=Tryz.underlying3
 a3:=Tryz.isAgg3
 z3:=Tryz.sizeOf3
 v3:=Tryz.zeroValue3
 t5:=Tryz.underlying5
 a5:=Tryz.isAgg5
 z5:=Tryz.sizeOf5
 v5:=Tryz.zeroValue5
 t9:=Tryz.underlying9
 a9:=Tryz.isAgg9
 z9:=Tryz.sizeOf9
 v9:=Tryz.zeroValue9 }
open Go.RowKit in
theorem Tryz.strings_IndexByte (s:ByteArray) (c:Int) (w:World) :
  Calls Tryz.prog 70 #[.string s,.int .u8 c] w fun e w'=>e=.returned (.int .i64 (Lib.indexByte s.data.toList c.toNat.toUInt8))∧w'=w:=Any.strings_IndexByte Tryz.lays137 s c w
def Tryz.lays210_ren:Go.Shelf.Ren:=⟨fun | 210=>48 | 206=>53 | n=>n,fun | 9=>9 | 4=>4 | 3=>3 | n=>n,fun | n=>n⟩
def Tryz.lays103_ren:Go.Shelf.Ren:=⟨fun | 103=>24 | 210=>48 | 206=>53 | n=>n,fun | 9=>9 | 4=>4 | 24=>33 | 3=>3 | n=>n,fun | n=>n⟩
theorem Tryz.lays103:Go.Proofs.Lays.n103 Tryz.prog Tryz.lays103_ren:={
 mixed:=by kernel_rfl
 f103:=Tryz.func24.trans (congrArg some (by kernel_rfl))
 f206:=Tryz.func53.trans (congrArg some (by kernel_rfl))
 f210:=Tryz.func48.trans (congrArg some (by kernel_rfl))
 t3:=Tryz.underlying3
 a3:=Tryz.isAgg3
 z3:=Tryz.sizeOf3
 v3:=Tryz.zeroValue3
 t4:=Tryz.underlying4
 a4:=Tryz.isAgg4
 z4:=Tryz.sizeOf4
 v4:=Tryz.zeroValue4
 t9:=Tryz.underlying9
 a9:=Tryz.isAgg9
 z9:=Tryz.sizeOf9
 v9:=Tryz.zeroValue9
 t24:=Tryz.underlying33
 a24:=Tryz.isAgg33
 z24:=Tryz.sizeOf33
 v24:=Tryz.zeroValue33 }
open Go.RowKit in
theorem Tryz.strings_CutPrefix (s p:ByteArray) (w:World) :
  Calls Tryz.prog 24 #[.string s,.string p] w fun e w'=>e=.returned (.tuple #[.string ⟨(Lib.trimPrefix s.data.toList p.data.toList).toArray⟩,.bool (Lib.hasPrefix s.data.toList p.data.toList)])∧w'=w:=Any.strings_CutPrefix Tryz.lays103 s p w
def Tryz.lays172_ren:Go.Shelf.Ren:=⟨fun | 172=>54 | 244=>74 | 245=>75 | 247=>79 | 279=>80 | 280=>81 | 281=>82 | 282=>83 | 287=>89 | 316=>90 | 171=>41 | 205=>91 | 321=>97 | 322=>98 | 243=>68 | 246=>76 | 283=>84 | 284=>85 | 285=>86 | 286=>87 | 129=>93 | 317=>92 | 318=>94 | 319=>95 | 320=>96 | 337=>99 | 338=>100 | n=>n,fun | 9=>9 | 3=>3 | 75=>84 | 76=>85 | 4=>4 | 5=>5 | 167=>97 | 37=>35 | 0=>0 | 85=>98 | 2=>2 | 168=>100 | 53=>104 | 175=>109 | 46=>93 | 210=>113 | 127=>122 | 145=>125 | 143=>123 | 21=>21 | 171=>103 | 173=>107 | 212=>116 | 51=>117 | 20=>20 | 213=>118 | 232=>127 | 233=>128 | 80=>53 | n=>n,fun | 15=>2 | 16=>3 | 17=>4 | 18=>5 | 19=>6 | n=>n⟩
def Tryz.lays318_ren:Go.Shelf.Ren:=⟨fun | 318=>94 | n=>n,fun | 3=>3 | 4=>4 | n=>n,fun | n=>n⟩
def Tryz.laysM246_ren:Go.Shelf.Ren:=⟨fun | 246=>76 | 283=>84 | 284=>85 | 285=>86 | 286=>87 | 129=>93 | 317=>92 | 318=>94 | 319=>95 | 320=>96 | 337=>99 | 338=>100 | n=>n,fun | 2=>2 | 3=>3 | 9=>9 | 4=>4 | 171=>103 | 0=>0 | 53=>104 | 37=>35 | 5=>5 | 173=>107 | 212=>116 | 51=>117 | 20=>20 | 213=>118 | 46=>93 | 232=>127 | 233=>128 | n=>n,fun | 17=>4 | 18=>5 | 19=>6 | n=>n⟩
def Tryz.laysM243_ren:Go.Shelf.Ren:=⟨fun | 243=>68 | 246=>76 | 283=>84 | 284=>85 | 285=>86 | 286=>87 | 129=>93 | 317=>92 | 318=>94 | 319=>95 | 320=>96 | 337=>99 | 338=>100 | n=>n,fun | 3=>3 | 9=>9 | 2=>2 | 4=>4 | 171=>103 | 0=>0 | 53=>104 | 37=>35 | 5=>5 | 173=>107 | 212=>116 | 51=>117 | 20=>20 | 213=>118 | 46=>93 | 232=>127 | 233=>128 | n=>n,fun | 17=>4 | 18=>5 | 19=>6 | n=>n⟩
def Tryz.laysM171_ren:Go.Shelf.Ren:=⟨fun | 171=>41 | 243=>68 | 246=>76 | 283=>84 | 284=>85 | 285=>86 | 286=>87 | 129=>93 | 317=>92 | 318=>94 | 319=>95 | 320=>96 | 337=>99 | 338=>100 | n=>n,fun | 3=>3 | 9=>9 | 2=>2 | 4=>4 | 171=>103 | 0=>0 | 53=>104 | 37=>35 | 5=>5 | 173=>107 | 212=>116 | 51=>117 | 20=>20 | 213=>118 | 46=>93 | 232=>127 | 233=>128 | n=>n,fun | 17=>4 | 18=>5 | 19=>6 | n=>n⟩
theorem Tryz.laysM171:Go.Proofs.LaysM.n171 Tryz.prog Tryz.laysM171_ren:={
 mixed:=by kernel_rfl
 f129:=Tryz.func93.trans (congrArg some (by kernel_rfl))
 f171:=Tryz.func41.trans (congrArg some (by kernel_rfl))
 f243:=Tryz.func68.trans (congrArg some (by kernel_rfl))
 f246:=Tryz.func76.trans (congrArg some (by kernel_rfl))
 f283:=Tryz.func84.trans (congrArg some (by kernel_rfl))
 f284:=Tryz.func85.trans (congrArg some (by kernel_rfl))
 f285:=Tryz.func86.trans (congrArg some (by kernel_rfl))
 f286:=Tryz.func87.trans (congrArg some (by kernel_rfl))
 f317:=Tryz.func92.trans (congrArg some (by kernel_rfl))
 f318:=Tryz.func94.trans (congrArg some (by kernel_rfl))
 f319:=Tryz.func95.trans (congrArg some (by kernel_rfl))
 f320:=Tryz.func96.trans (congrArg some (by kernel_rfl))
 f337:=Tryz.func99.trans (congrArg some (by kernel_rfl))
 f338:=Tryz.func100.trans (congrArg some (by kernel_rfl))
 t0:=Tryz.underlying0
 a0:=Tryz.isAgg0
 z0:=Tryz.sizeOf0
 v0:=Tryz.zeroValue0
 t2:=Tryz.underlying2
 a2:=Tryz.isAgg2
 z2:=Tryz.sizeOf2
 v2:=Tryz.zeroValue2
 t3:=Tryz.underlying3
 a3:=Tryz.isAgg3
 z3:=Tryz.sizeOf3
 v3:=Tryz.zeroValue3
 t4:=Tryz.underlying4
 a4:=Tryz.isAgg4
 z4:=Tryz.sizeOf4
 v4:=Tryz.zeroValue4
 t5:=Tryz.underlying5
 a5:=Tryz.isAgg5
 z5:=Tryz.sizeOf5
 v5:=Tryz.zeroValue5
 t9:=Tryz.underlying9
 a9:=Tryz.isAgg9
 z9:=Tryz.sizeOf9
 v9:=Tryz.zeroValue9
 t20:=Tryz.underlying20
 a20:=Tryz.isAgg20
 z20:=Tryz.sizeOf20
 v20:=Tryz.zeroValue20
 t37:=Tryz.underlying35
 a37:=Tryz.isAgg35
 z37:=Tryz.sizeOf35
 v37:=Tryz.zeroValue35
 t46:=Tryz.underlying93
 a46:=Tryz.isAgg93
 z46:=Tryz.sizeOf93
 v46:=Tryz.zeroValue93
 t51:=Tryz.underlying117
 a51:=Tryz.isAgg117
 z51:=Tryz.sizeOf117
 v51:=Tryz.zeroValue117
 t53:=Tryz.underlying104
 a53:=Tryz.isAgg104
 z53:=Tryz.sizeOf104
 v53:=Tryz.zeroValue104
 t171:=Tryz.underlying103
 a171:=Tryz.isAgg103
 z171:=Tryz.sizeOf103
 v171:=Tryz.zeroValue103
 t173:=Tryz.underlying107
 a173:=Tryz.isAgg107
 z173:=Tryz.sizeOf107
 v173:=Tryz.zeroValue107
 t212:=Tryz.underlying116
 a212:=Tryz.isAgg116
 z212:=Tryz.sizeOf116
 v212:=Tryz.zeroValue116
 t213:=Tryz.underlying118
 a213:=Tryz.isAgg118
 z213:=Tryz.sizeOf118
 t232:=Tryz.underlying127
 a232:=Tryz.isAgg127
 z232:=Tryz.sizeOf127
 v232:=Tryz.zeroValue127
 t233:=Tryz.underlying128
 a233:=Tryz.isAgg128
 z233:=Tryz.sizeOf128
 v233:=Tryz.zeroValue128
 g17:=by kernel_rfl
 g18:=by kernel_rfl
 g19:=by kernel_rfl
 i0:=by kernel_rfl
 i2:=by kernel_rfl
 i3:=by kernel_rfl
 i4:=by kernel_rfl
 i5:=by kernel_rfl
 i9:=by kernel_rfl
 i20:=by kernel_rfl
 i37:=by kernel_rfl
 i46:=by kernel_rfl
 i51:=by kernel_rfl
 i53:=by kernel_rfl
 i171:=by kernel_rfl
 i173:=by kernel_rfl
 i212:=by kernel_rfl
 i232:=by kernel_rfl
 i233:=by kernel_rfl
 m17:=by kernel_rfl
 m18:=by kernel_rfl
 m19:=by kernel_rfl }
open Go.RowKit Go.Sort Go.Lib in
theorem Tryz.strconv_Itoa (n : Int) (h0 : -9223372036854775808 ≤ n) (h1 : n ≤ 9223372036854775807) (w : World) (htab : Lib.TabIs Tryz.prog w "internal/strconv.uint64pow10" .u64 Lib.pow10Tab) :
  Calls Tryz.prog 41 #[.int .i64 n] w fun e w'=>e=.returned (.string ⟨(Lib.itoa n).toArray⟩)∧∃k os,w'=grow (w.drewN k) os:=Any.strconv_Itoa Tryz.laysM171 n h0 h1 w htab
def Tryz.laysC172_ren:Go.Shelf.Ren:=⟨fun | 172=>54 | 244=>74 | 245=>75 | 247=>79 | 279=>80 | 280=>81 | 281=>82 | 282=>83 | 287=>89 | 316=>90 | 171=>41 | 205=>91 | 321=>97 | 322=>98 | 243=>68 | 246=>76 | 283=>84 | 284=>85 | 285=>86 | 286=>87 | 129=>93 | 317=>92 | 318=>94 | 319=>95 | 320=>96 | 337=>99 | 338=>100 | n=>n,fun | 9=>9 | 3=>3 | 75=>84 | 76=>85 | 4=>4 | 5=>5 | 167=>97 | 37=>35 | 0=>0 | 85=>98 | 2=>2 | 168=>100 | 53=>104 | 175=>109 | 46=>93 | 210=>113 | 127=>122 | 145=>125 | 143=>123 | 21=>21 | 171=>103 | 173=>107 | 212=>116 | 51=>117 | 20=>20 | 213=>118 | 232=>127 | 233=>128 | 80=>53 | n=>n,fun | 15=>2 | 16=>3 | 17=>4 | 18=>5 | 19=>6 | n=>n⟩
theorem Tryz.laysC172:Go.Proofs.LaysC.n172 Tryz.prog Tryz.laysC172_ren:={
 mixed:=by kernel_rfl
 f129:=Tryz.func93.trans (congrArg some (by kernel_rfl))
 f171:=Tryz.func41.trans (congrArg some (by kernel_rfl))
 f172:=Tryz.func54.trans (congrArg some (by kernel_rfl))
 f205:=Tryz.func91.trans (congrArg some (by kernel_rfl))
 f243:=Tryz.func68.trans (congrArg some (by kernel_rfl))
 f244:=Tryz.func74.trans (congrArg some (by kernel_rfl))
 f245:=Tryz.func75.trans (congrArg some (by kernel_rfl))
 f246:=Tryz.func76.trans (congrArg some (by kernel_rfl))
 f247:=Tryz.func79.trans (congrArg some (by kernel_rfl))
 f279:=Tryz.func80.trans (congrArg some (by kernel_rfl))
 f280:=Tryz.func81.trans (congrArg some (by kernel_rfl))
 f281:=Tryz.func82.trans (congrArg some (by kernel_rfl))
 f282:=Tryz.func83.trans (congrArg some (by kernel_rfl))
 f283:=Tryz.func84.trans (congrArg some (by kernel_rfl))
 f284:=Tryz.func85.trans (congrArg some (by kernel_rfl))
 f285:=Tryz.func86.trans (congrArg some (by kernel_rfl))
 f286:=Tryz.func87.trans (congrArg some (by kernel_rfl))
 f287:=Tryz.func89.trans (congrArg some (by kernel_rfl))
 f316:=Tryz.func90.trans (congrArg some (by kernel_rfl))
 f317:=Tryz.func92.trans (congrArg some (by kernel_rfl))
 f318:=Tryz.func94.trans (congrArg some (by kernel_rfl))
 f319:=Tryz.func95.trans (congrArg some (by kernel_rfl))
 f320:=Tryz.func96.trans (congrArg some (by kernel_rfl))
 f321:=Tryz.func97.trans (congrArg some (by kernel_rfl))
 f322:=Tryz.func98.trans (congrArg some (by kernel_rfl))
 f337:=Tryz.func99.trans (congrArg some (by kernel_rfl))
 f338:=Tryz.func100.trans (congrArg some (by kernel_rfl))
 t0:=Tryz.underlying0
 a0:=Tryz.isAgg0
 z0:=Tryz.sizeOf0
 v0:=Tryz.zeroValue0
 t2:=Tryz.underlying2
 a2:=Tryz.isAgg2
 z2:=Tryz.sizeOf2
 v2:=Tryz.zeroValue2
 t3:=Tryz.underlying3
 a3:=Tryz.isAgg3
 z3:=Tryz.sizeOf3
 v3:=Tryz.zeroValue3
 t4:=Tryz.underlying4
 a4:=Tryz.isAgg4
 z4:=Tryz.sizeOf4
 v4:=Tryz.zeroValue4
 t5:=Tryz.underlying5
 a5:=Tryz.isAgg5
 z5:=Tryz.sizeOf5
 v5:=Tryz.zeroValue5
 t9:=Tryz.underlying9
 a9:=Tryz.isAgg9
 z9:=Tryz.sizeOf9
 v9:=Tryz.zeroValue9
 t20:=Tryz.underlying20
 a20:=Tryz.isAgg20
 z20:=Tryz.sizeOf20
 v20:=Tryz.zeroValue20
 t21:=Tryz.underlying21
 a21:=Tryz.isAgg21
 z21:=Tryz.sizeOf21
 v21:=Tryz.zeroValue21
 t37:=Tryz.underlying35
 a37:=Tryz.isAgg35
 z37:=Tryz.sizeOf35
 v37:=Tryz.zeroValue35
 t46:=Tryz.underlying93
 a46:=Tryz.isAgg93
 z46:=Tryz.sizeOf93
 v46:=Tryz.zeroValue93
 t51:=Tryz.underlying117
 a51:=Tryz.isAgg117
 z51:=Tryz.sizeOf117
 v51:=Tryz.zeroValue117
 t53:=Tryz.underlying104
 a53:=Tryz.isAgg104
 z53:=Tryz.sizeOf104
 v53:=Tryz.zeroValue104
 t75:=Tryz.underlying84
 a75:=Tryz.isAgg84
 z75:=Tryz.sizeOf84
 v75:=Tryz.zeroValue84
 t76:=Tryz.underlying85
 a76:=Tryz.isAgg85
 z76:=Tryz.sizeOf85
 v76:=Tryz.zeroValue85
 t85:=Tryz.underlying98
 a85:=Tryz.isAgg98
 z85:=Tryz.sizeOf98
 v85:=Tryz.zeroValue98
 t127:=Tryz.underlying122
 a127:=Tryz.isAgg122
 z127:=Tryz.sizeOf122
 v127:=Tryz.zeroValue122
 t143:=Tryz.underlying123
 a143:=Tryz.isAgg123
 z143:=Tryz.sizeOf123
 v143:=Tryz.zeroValue123
 t145:=Tryz.underlying125
 a145:=Tryz.isAgg125
 z145:=Tryz.sizeOf125
 v145:=Tryz.zeroValue125
 t167:=Tryz.underlying97
 a167:=Tryz.isAgg97
 z167:=Tryz.sizeOf97
 v167:=Tryz.zeroValue97
 t168:=Tryz.underlying100
 a168:=Tryz.isAgg100
 z168:=Tryz.sizeOf100
 v168:=Tryz.zeroValue100
 t171:=Tryz.underlying103
 a171:=Tryz.isAgg103
 z171:=Tryz.sizeOf103
 v171:=Tryz.zeroValue103
 t173:=Tryz.underlying107
 a173:=Tryz.isAgg107
 z173:=Tryz.sizeOf107
 v173:=Tryz.zeroValue107
 t175:=Tryz.underlying109
 a175:=Tryz.isAgg109
 z175:=Tryz.sizeOf109
 v175:=Tryz.zeroValue109
 t210:=Tryz.underlying113
 a210:=Tryz.isAgg113
 z210:=Tryz.sizeOf113
 v210:=Tryz.zeroValue113
 t212:=Tryz.underlying116
 a212:=Tryz.isAgg116
 z212:=Tryz.sizeOf116
 v212:=Tryz.zeroValue116
 t213:=Tryz.underlying118
 a213:=Tryz.isAgg118
 z213:=Tryz.sizeOf118
 t232:=Tryz.underlying127
 a232:=Tryz.isAgg127
 z232:=Tryz.sizeOf127
 v232:=Tryz.zeroValue127
 t233:=Tryz.underlying128
 a233:=Tryz.isAgg128
 z233:=Tryz.sizeOf128
 v233:=Tryz.zeroValue128
 g15:=by kernel_rfl
 g16:=by kernel_rfl
 g17:=by kernel_rfl
 g18:=by kernel_rfl
 g19:=by kernel_rfl
 t80:=Tryz.underlying53
 a80:=Tryz.isAgg53
 z80:=Tryz.sizeOf53
 v80:=Tryz.zeroValue53
 i0:=by kernel_rfl
 i2:=by kernel_rfl
 i3:=by kernel_rfl
 i4:=by kernel_rfl
 i5:=by kernel_rfl
 i9:=by kernel_rfl
 i20:=by kernel_rfl
 i21:=by kernel_rfl
 i37:=by kernel_rfl
 i46:=by kernel_rfl
 i51:=by kernel_rfl
 i53:=by kernel_rfl
 i75:=by kernel_rfl
 i76:=by kernel_rfl
 i80:=by kernel_rfl
 i85:=by kernel_rfl
 i127:=by kernel_rfl
 i143:=by kernel_rfl
 i145:=by kernel_rfl
 i167:=by kernel_rfl
 i168:=by kernel_rfl
 i171:=by kernel_rfl
 i173:=by kernel_rfl
 i175:=by kernel_rfl
 i210:=by kernel_rfl
 i212:=by kernel_rfl
 i232:=by kernel_rfl
 i233:=by kernel_rfl
 m15:=by kernel_rfl
 m16:=by kernel_rfl
 m17:=by kernel_rfl
 m18:=by kernel_rfl
 m19:=by kernel_rfl
 c0:=by kernel_rfl
 c2:=by kernel_rfl
 c3:=by kernel_rfl
 c4:=by kernel_rfl
 c5:=by kernel_rfl
 c9:=by kernel_rfl
 c20:=by kernel_rfl
 c21:=by kernel_rfl
 c37:=by kernel_rfl
 c46:=by kernel_rfl
 c51:=by kernel_rfl
 c53:=by kernel_rfl
 c75:=by kernel_rfl
 c76:=by kernel_rfl
 c80:=by kernel_rfl
 c85:=by kernel_rfl
 c127:=by kernel_rfl
 c143:=by kernel_rfl
 c145:=by kernel_rfl
 c167:=by kernel_rfl
 c168:=by kernel_rfl
 c171:=by kernel_rfl
 c173:=by kernel_rfl
 c175:=by kernel_rfl
 c210:=by kernel_rfl
 c212:=by kernel_rfl
 c213:=by kernel_rfl
 c232:=by kernel_rfl
 c233:=by kernel_rfl }
open Go.RowKit in
theorem Tryz.strconv_Atoi_ok (s:ByteArray) (hmax:s.size≤9223372036854775806) (v:Int) (h:Lib.atoiAll s.data.toList=.ok v) (w:World) :
  Calls Tryz.prog 54 #[.string s] w fun e w'=>e=.returned (.tuple #[.int .i64 v,.nilIface])∧(w'=w∨∃t,w'=Lib.bytesWorld w 5 t):=Any.strconv_Atoi_ok Tryz.laysC172 s hmax v h w
open Go.RowKit in
theorem Tryz.strconv_Atoi_syntax (s:ByteArray) (hlim:s.size≤281474976710656) (h:Lib.atoiAll s.data.toList=.«syntax») (ev:Value) (w:World) (hv:w.cell? ⟨2,0,none⟩=some ev) (hev:ev=.nilIface∨∃te pe,ev=.iface te pe) :
  Calls Tryz.prog 54 #[.string s] w fun e w'=>∃N,e=.returned (.tuple #[.int .i64 (0),.iface 100 (.pointer (some ⟨N,0,none⟩))])∧w.heap.size≤N∧w'.heap[N]?=some (.cells #[.string ⟨#[65,116,111,105]⟩,.string s,ev] 113 (0,0))∧Below w.heap.size w w':=Any.strconv_Atoi_syntax Tryz.laysC172 s hlim h ev w hv hev
open Go.RowKit in
theorem Tryz.strconv_Atoi_range (s:ByteArray) (hlim:s.size≤281474976710656) (h:Lib.atoiAll s.data.toList=.range) (ev:Value) (w:World) (hv:w.cell? ⟨3,0,none⟩=some ev) (hev:ev=.nilIface∨∃te pe,ev=.iface te pe) :
  Calls Tryz.prog 54 #[.string s] w fun e w'=>∃N,e=.returned (.tuple #[.int .i64 (Lib.atoiSat s.data.toList),.iface 100 (.pointer (some ⟨N,0,none⟩))])∧w.heap.size≤N∧w'.heap[N]?=some (.cells #[.string ⟨#[65,116,111,105]⟩,.string s,ev] 113 (0,0))∧Below w.heap.size w w':=Any.strconv_Atoi_range Tryz.laysC172 s hlim h ev w hv hev
def Tryz.lays99_ren:Go.Shelf.Ren:=⟨fun | 99=>29 | 206=>53 | n=>n,fun | 9=>9 | 4=>4 | 3=>3 | n=>n,fun | n=>n⟩
theorem Tryz.lays99:Go.Proofs.Lays.n99 Tryz.prog Tryz.lays99_ren:={
 mixed:=by kernel_rfl
 f99:=Tryz.func29.trans (congrArg some (by kernel_rfl))
 f206:=Tryz.func53.trans (congrArg some (by kernel_rfl))
 t3:=Tryz.underlying3
 a3:=Tryz.isAgg3
 z3:=Tryz.sizeOf3
 v3:=Tryz.zeroValue3
 t4:=Tryz.underlying4
 a4:=Tryz.isAgg4
 z4:=Tryz.sizeOf4
 v4:=Tryz.zeroValue4
 t9:=Tryz.underlying9
 a9:=Tryz.isAgg9
 z9:=Tryz.sizeOf9
 v9:=Tryz.zeroValue9 }
open Go.RowKit Go.Lib in
theorem Tryz.strings_HasPrefix (s p:ByteArray) (w:World) :
  Calls Tryz.prog 29 #[.string s,.string p] w fun e w'=>e=.returned (.bool (Lib.hasPrefix s.data.toList p.data.toList))∧w'=w:=Any.strings_HasPrefix Tryz.lays99 s p w
def Tryz.lays152_ren:Go.Shelf.Ren:=⟨fun | 152=>49 | 137=>70 | 119=>71 | 224=>72 | 225=>73 | 217=>78 | 266=>88 | n=>n,fun | 9=>9 | 21=>21 | 3=>3 | 4=>4 | 5=>5 | 0=>0 | 46=>93 | n=>n,fun | n=>n⟩
theorem Tryz.lays152:Go.Proofs.Lays.n152 Tryz.prog Tryz.lays152_ren:={
 mixed:=by kernel_rfl
 f119:=Tryz.func71.trans (congrArg some (by kernel_rfl))
 f137:=Tryz.func70.trans (congrArg some (by kernel_rfl))
 f152:=Tryz.func49.trans (congrArg some (by kernel_rfl))
 f217:=Tryz.func78.trans (congrArg some (by kernel_rfl))
 f224:=Tryz.func72.trans (congrArg some (by kernel_rfl))
 f225:=Tryz.func73.trans (congrArg some (by kernel_rfl))
 f266:=Tryz.func88.trans (congrArg some (by kernel_rfl))
 t0:=Tryz.underlying0
 a0:=Tryz.isAgg0
 z0:=Tryz.sizeOf0
 v0:=Tryz.zeroValue0
 t3:=Tryz.underlying3
 a3:=Tryz.isAgg3
 z3:=Tryz.sizeOf3
 v3:=Tryz.zeroValue3
 t4:=Tryz.underlying4
 a4:=Tryz.isAgg4
 z4:=Tryz.sizeOf4
 v4:=Tryz.zeroValue4
 t5:=Tryz.underlying5
 a5:=Tryz.isAgg5
 z5:=Tryz.sizeOf5
 v5:=Tryz.zeroValue5
 t9:=Tryz.underlying9
 a9:=Tryz.isAgg9
 z9:=Tryz.sizeOf9
 v9:=Tryz.zeroValue9
 t21:=Tryz.underlying21
 a21:=Tryz.isAgg21
 z21:=Tryz.sizeOf21
 v21:=Tryz.zeroValue21
 t46:=Tryz.underlying93
 a46:=Tryz.isAgg93
 z46:=Tryz.sizeOf93
 v46:=Tryz.zeroValue93 }
open Go.RowKit Go.Lib in
theorem Tryz.strings_IndexRune_ascii (s:ByteArray) (r:Int) (w:World) (h0:0≤r) (h1:r<128) :
  Calls Tryz.prog 49 #[.string s,.int .i32 r] w fun e w'=>e=.returned (.int .i64 (Lib.indexByte s.data.toList r.toNat.toUInt8))∧w'=w:=Any.strings_IndexRune_ascii Tryz.lays152 s r w h0 h1
def Tryz.lays226_ren:Go.Shelf.Ren:=⟨fun | 226=>50 | n=>n,fun | 3=>3 | 4=>4 | n=>n,fun | n=>n⟩
theorem Tryz.lays226:Go.Proofs.Lays.n226 Tryz.prog Tryz.lays226_ren:={
 mixed:=by kernel_rfl
 f226:=Tryz.func50.trans (congrArg some (by kernel_rfl))
 t3:=Tryz.underlying3
 a3:=Tryz.isAgg3
 z3:=Tryz.sizeOf3
 v3:=Tryz.zeroValue3
 t4:=Tryz.underlying4
 a4:=Tryz.isAgg4
 z4:=Tryz.sizeOf4
 v4:=Tryz.zeroValue4 }
open Go.RowKit Go.Lib in
theorem Tryz.strings_shouldUseASCIISet (n:Int) (w:World) :
  Calls Tryz.prog 50 #[.int .i64 n] w fun e w'=>e=.returned (.bool (decide (8<n)))∧w'=w:=Any.strings_shouldUseASCIISet Tryz.lays226 n w
def Tryz.lays153_ren:Go.Shelf.Ren:=⟨fun | 153=>27 | 152=>49 | 226=>50 | 227=>51 | 228=>52 | 137=>70 | 119=>71 | 224=>72 | 225=>73 | 217=>78 | 266=>88 | n=>n,fun | 9=>9 | 3=>3 | 4=>4 | 5=>5 | 21=>21 | 117=>80 | 116=>79 | 0=>0 | 46=>93 | 124=>94 | n=>n,fun | n=>n⟩
theorem Tryz.lays153:Go.Proofs.Lays.n153 Tryz.prog Tryz.lays153_ren:={
 mixed:=by kernel_rfl
 f119:=Tryz.func71.trans (congrArg some (by kernel_rfl))
 f137:=Tryz.func70.trans (congrArg some (by kernel_rfl))
 f152:=Tryz.func49.trans (congrArg some (by kernel_rfl))
 f153:=Tryz.func27.trans (congrArg some (by kernel_rfl))
 f217:=Tryz.func78.trans (congrArg some (by kernel_rfl))
 f224:=Tryz.func72.trans (congrArg some (by kernel_rfl))
 f225:=Tryz.func73.trans (congrArg some (by kernel_rfl))
 f226:=Tryz.func50.trans (congrArg some (by kernel_rfl))
 f227:=Tryz.func51.trans (congrArg some (by kernel_rfl))
 f228:=Tryz.func52.trans (congrArg some (by kernel_rfl))
 f266:=Tryz.func88.trans (congrArg some (by kernel_rfl))
 t0:=Tryz.underlying0
 a0:=Tryz.isAgg0
 z0:=Tryz.sizeOf0
 v0:=Tryz.zeroValue0
 t3:=Tryz.underlying3
 a3:=Tryz.isAgg3
 z3:=Tryz.sizeOf3
 v3:=Tryz.zeroValue3
 t4:=Tryz.underlying4
 a4:=Tryz.isAgg4
 z4:=Tryz.sizeOf4
 v4:=Tryz.zeroValue4
 t5:=Tryz.underlying5
 a5:=Tryz.isAgg5
 z5:=Tryz.sizeOf5
 v5:=Tryz.zeroValue5
 t9:=Tryz.underlying9
 a9:=Tryz.isAgg9
 z9:=Tryz.sizeOf9
 v9:=Tryz.zeroValue9
 t21:=Tryz.underlying21
 a21:=Tryz.isAgg21
 z21:=Tryz.sizeOf21
 v21:=Tryz.zeroValue21
 t46:=Tryz.underlying93
 a46:=Tryz.isAgg93
 z46:=Tryz.sizeOf93
 v46:=Tryz.zeroValue93
 t116:=Tryz.underlying79
 a116:=Tryz.isAgg79
 z116:=Tryz.sizeOf79
 t117:=Tryz.underlying80
 a117:=Tryz.isAgg80
 z117:=Tryz.sizeOf80
 v117:=Tryz.zeroValue80
 t124:=Tryz.underlying94
 a124:=Tryz.isAgg94
 z124:=Tryz.sizeOf94
 v124:=Tryz.zeroValue94 }
open Go.RowKit Go.Lib in
theorem Tryz.strings_IndexAny_long (hv116:∀w,(zeroValue 79).run Tryz.prog w=.ok (.agg (Array.replicate 256 (.bool false))) w) (s chars:ByteArray) (w:World) (h2:2≤chars.size) (h8:8<s.size) (hs:s.size<4294967281) (hcs:chars.size<4294967281) (hascii:∀(j:Nat) b,chars.data.toList[j]?=some b→b.toNat<128) :
  Calls Tryz.prog 27 #[.string s,.string chars] w fun e w'=>e=.returned (.int .i64 (Lib.indexAny s.data.toList chars.data.toList))∧w'=((w.alloc (.cells (Lib.setCells chars.data.toList) 79)).alloc (.cells (Lib.setCells chars.data.toList) 79)):=Any.strings_IndexAny_long Tryz.lays153 hv116 (by kernel_rfl) s chars w h2 h8 hs hcs hascii
open Go.RowKit Go.Lib in
theorem Tryz.strings_IndexAny_laid (s chars:ByteArray) (w:World) (hs:s.size<4294967281) (hcs:chars.size<4294967281) (has:∀(j:Nat) b,s.data.toList[j]?=some b→b.toNat<128) (hac:∀(j:Nat) b,chars.data.toList[j]?=some b→b.toNat<128) :
  Calls Tryz.prog 27 #[.string s,.string chars] w fun e w'=>e=.returned (.int .i64 (Lib.indexAny s.data.toList chars.data.toList))∧Below w.heap.size w w':=Any.strings_IndexAny_laid Tryz.lays153 (by kernel_rfl) s chars w hs hcs has hac
end Go.Proofs
