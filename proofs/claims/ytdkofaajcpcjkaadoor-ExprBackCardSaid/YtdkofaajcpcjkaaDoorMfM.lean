/-
  Merged: Shelf.
-/
import Derived.Shelf.Small.Utf8
import Derived.Shelf.Small.Strs
import Derived.Shelf.Small.Wraps
import Derived.Shelf.Strconv.Atoi
import Derived.Shelf.Strconv.Itoa0
import Derived.Shelf.Strconv.Itoa1
import Derived.Shelf.LaysM
import Derived.Shelf.Strconv.Itoa2
import Derived.Shelf.Strconv.Itoa3
import Derived.Shelf.Strconv.AtoiErrFast
import Derived.Shelf.Strconv.ParseIntEmpty
import Derived.Shelf.Strconv.AtoiFail
import Derived.Shelf.Strconv.Clone
import Derived.Shelf.Strconv.SyntaxError
import Derived.Shelf.LaysC
import Derived.Shelf.Strconv.ToError
import Derived.Shelf.Strconv.Lower
import Derived.Shelf.Strconv.ParseUint10
import Derived.Shelf.Strconv.ParseUint10Empty
import Derived.Shelf.Strconv.ParseUint10Any
import Derived.Shelf.Strconv.ParseInt10
import Derived.Shelf.Strconv.AtoiLong
import Derived.Shelf.Strconv.AtoiInnerAll
import Derived.Shelf.Strconv.RangeError
import Derived.Shelf.Strconv.ToErrorRange
import Derived.Shelf.Strconv.AtoiAll
import Derived.Shelf.Strconv.ErrVarAll
import Derived.Shelf.Strings.Search1
import Derived.Shelf.Strings.Prefix
import Derived.Shelf.Strings.Runes
import Derived.Shelf.Strings.IndexAny
import Derived.Shelf.Strings.AsciiSet
import Derived.Shelf.Strings.IndexAnyAll
import Derived.Test.YtdkofaajcpcjkaaDoorProg
set_option linter.unusedSimpArgs false
set_option linter.unusedVariables false
namespace Go.Proofs
open Go.Shelf
def Tryd.lays119_ren:Go.Shelf.Ren:=⟨fun | 119=>74 | n=>n,fun | 21=>21 | 4=>4 | n=>n,fun | n=>n⟩
theorem Tryd.lays119:Go.Proofs.Lays.n119 Tryd.prog Tryd.lays119_ren:={
 mixed:=by kernel_rfl
 f119:=Tryd.func74.trans (congrArg some (by kernel_rfl))
 t4:=Tryd.underlying4
 a4:=Tryd.isAgg4
 z4:=Tryd.sizeOf4
 v4:=Tryd.zeroValue4
 t21:=Tryd.underlying21
 a21:=Tryd.isAgg21
 z21:=Tryd.sizeOf21
 v21:=Tryd.zeroValue21 }
theorem Tryd.utf8_ValidRune (r:Int) (w:World) :
  Calls Tryd.prog 74 #[.int .i32 r] w fun e w'=>e=.returned (.bool (Lib.validRune r))∧w'=w:=Any.utf8_ValidRune Tryd.lays119 r w
def Tryd.lays137_ren:Go.Shelf.Ren:=⟨fun | 137=>73 | 217=>80 | 266=>87 | n=>n,fun | 9=>9 | 5=>5 | 3=>3 | n=>n,fun | n=>n⟩
theorem Tryd.lays137:Go.Proofs.Lays.n137 Tryd.prog Tryd.lays137_ren:={
 mixed:=by kernel_rfl
 f137:=Tryd.func73.trans (congrArg some (by kernel_rfl))
 f217:=Tryd.func80.trans (congrArg some (by kernel_rfl))
 f266:=Tryd.func87.trans (congrArg some (by kernel_rfl))
 t3:=Tryd.underlying3
 a3:=Tryd.isAgg3
 z3:=Tryd.sizeOf3
 v3:=Tryd.zeroValue3
 t5:=Tryd.underlying5
 a5:=Tryd.isAgg5
 z5:=Tryd.sizeOf5
 v5:=Tryd.zeroValue5
 t9:=Tryd.underlying9
 a9:=Tryd.isAgg9
 z9:=Tryd.sizeOf9
 v9:=Tryd.zeroValue9 }
open Go.RowKit in
theorem Tryd.strings_IndexByte (s:ByteArray) (c:Int) (w:World) :
  Calls Tryd.prog 73 #[.string s,.int .u8 c] w fun e w'=>e=.returned (.int .i64 (Lib.indexByte s.data.toList c.toNat.toUInt8))∧w'=w:=Any.strings_IndexByte Tryd.lays137 s c w
def Tryd.lays210_ren:Go.Shelf.Ren:=⟨fun | 210=>62 | 206=>67 | n=>n,fun | 9=>9 | 4=>4 | 3=>3 | n=>n,fun | n=>n⟩
def Tryd.lays103_ren:Go.Shelf.Ren:=⟨fun | 103=>47 | 210=>62 | 206=>67 | n=>n,fun | 9=>9 | 4=>4 | 24=>42 | 3=>3 | n=>n,fun | n=>n⟩
theorem Tryd.lays103:Go.Proofs.Lays.n103 Tryd.prog Tryd.lays103_ren:={
 mixed:=by kernel_rfl
 f103:=Tryd.func47.trans (congrArg some (by kernel_rfl))
 f206:=Tryd.func67.trans (congrArg some (by kernel_rfl))
 f210:=Tryd.func62.trans (congrArg some (by kernel_rfl))
 t3:=Tryd.underlying3
 a3:=Tryd.isAgg3
 z3:=Tryd.sizeOf3
 v3:=Tryd.zeroValue3
 t4:=Tryd.underlying4
 a4:=Tryd.isAgg4
 z4:=Tryd.sizeOf4
 v4:=Tryd.zeroValue4
 t9:=Tryd.underlying9
 a9:=Tryd.isAgg9
 z9:=Tryd.sizeOf9
 v9:=Tryd.zeroValue9
 t24:=Tryd.underlying42
 a24:=Tryd.isAgg42
 z24:=Tryd.sizeOf42
 v24:=Tryd.zeroValue42 }
open Go.RowKit in
theorem Tryd.strings_CutPrefix (s p:ByteArray) (w:World) :
  Calls Tryd.prog 47 #[.string s,.string p] w fun e w'=>e=.returned (.tuple #[.string ⟨(Lib.trimPrefix s.data.toList p.data.toList).toArray⟩,.bool (Lib.hasPrefix s.data.toList p.data.toList)])∧w'=w:=Any.strings_CutPrefix Tryd.lays103 s p w
def Tryd.lays172_ren:Go.Shelf.Ren:=⟨fun | 172=>68 | 244=>77 | 245=>78 | 247=>81 | 279=>82 | 280=>83 | 281=>84 | 282=>85 | 287=>88 | 316=>89 | 171=>69 | 205=>90 | 321=>95 | 322=>96 | 243=>79 | 246=>86 | 283=>91 | 284=>92 | 285=>93 | 286=>94 | 129=>98 | 317=>97 | 318=>99 | 319=>100 | 320=>101 | 337=>102 | 338=>103 | n=>n,fun | 9=>9 | 3=>3 | 75=>91 | 76=>92 | 4=>4 | 5=>5 | 167=>102 | 37=>80 | 0=>0 | 85=>103 | 2=>2 | 168=>105 | 53=>109 | 175=>110 | 46=>99 | 210=>114 | 127=>123 | 145=>126 | 143=>124 | 21=>21 | 171=>116 | 173=>119 | 212=>128 | 51=>129 | 20=>20 | 213=>130 | 232=>133 | 233=>134 | 80=>70 | n=>n,fun | 15=>2 | 16=>3 | 17=>4 | 18=>5 | 19=>6 | n=>n⟩
def Tryd.lays318_ren:Go.Shelf.Ren:=⟨fun | 318=>99 | n=>n,fun | 3=>3 | 4=>4 | n=>n,fun | n=>n⟩
def Tryd.laysM246_ren:Go.Shelf.Ren:=⟨fun | 246=>86 | 283=>91 | 284=>92 | 285=>93 | 286=>94 | 129=>98 | 317=>97 | 318=>99 | 319=>100 | 320=>101 | 337=>102 | 338=>103 | n=>n,fun | 2=>2 | 3=>3 | 9=>9 | 4=>4 | 171=>116 | 0=>0 | 53=>109 | 37=>80 | 5=>5 | 173=>119 | 212=>128 | 51=>129 | 20=>20 | 213=>130 | 46=>99 | 232=>133 | 233=>134 | n=>n,fun | 17=>4 | 18=>5 | 19=>6 | n=>n⟩
def Tryd.laysM243_ren:Go.Shelf.Ren:=⟨fun | 243=>79 | 246=>86 | 283=>91 | 284=>92 | 285=>93 | 286=>94 | 129=>98 | 317=>97 | 318=>99 | 319=>100 | 320=>101 | 337=>102 | 338=>103 | n=>n,fun | 3=>3 | 9=>9 | 2=>2 | 4=>4 | 171=>116 | 0=>0 | 53=>109 | 37=>80 | 5=>5 | 173=>119 | 212=>128 | 51=>129 | 20=>20 | 213=>130 | 46=>99 | 232=>133 | 233=>134 | n=>n,fun | 17=>4 | 18=>5 | 19=>6 | n=>n⟩
def Tryd.laysM171_ren:Go.Shelf.Ren:=⟨fun | 171=>69 | 243=>79 | 246=>86 | 283=>91 | 284=>92 | 285=>93 | 286=>94 | 129=>98 | 317=>97 | 318=>99 | 319=>100 | 320=>101 | 337=>102 | 338=>103 | n=>n,fun | 3=>3 | 9=>9 | 2=>2 | 4=>4 | 171=>116 | 0=>0 | 53=>109 | 37=>80 | 5=>5 | 173=>119 | 212=>128 | 51=>129 | 20=>20 | 213=>130 | 46=>99 | 232=>133 | 233=>134 | n=>n,fun | 17=>4 | 18=>5 | 19=>6 | n=>n⟩
theorem Tryd.laysM171:Go.Proofs.LaysM.n171 Tryd.prog Tryd.laysM171_ren:={
 mixed:=by kernel_rfl
 f129:=Tryd.func98.trans (congrArg some (by kernel_rfl))
 f171:=Tryd.func69.trans (congrArg some (by kernel_rfl))
 f243:=Tryd.func79.trans (congrArg some (by kernel_rfl))
 f246:=Tryd.func86.trans (congrArg some (by kernel_rfl))
 f283:=Tryd.func91.trans (congrArg some (by kernel_rfl))
 f284:=Tryd.func92.trans (congrArg some (by kernel_rfl))
 f285:=Tryd.func93.trans (congrArg some (by kernel_rfl))
 f286:=Tryd.func94.trans (congrArg some (by kernel_rfl))
 f317:=Tryd.func97.trans (congrArg some (by kernel_rfl))
 f318:=Tryd.func99.trans (congrArg some (by kernel_rfl))
 f319:=Tryd.func100.trans (congrArg some (by kernel_rfl))
 f320:=Tryd.func101.trans (congrArg some (by kernel_rfl))
 f337:=Tryd.func102.trans (congrArg some (by kernel_rfl))
 f338:=Tryd.func103.trans (congrArg some (by kernel_rfl))
 t0:=Tryd.underlying0
 a0:=Tryd.isAgg0
 z0:=Tryd.sizeOf0
 v0:=Tryd.zeroValue0
 t2:=Tryd.underlying2
 a2:=Tryd.isAgg2
 z2:=Tryd.sizeOf2
 v2:=Tryd.zeroValue2
 t3:=Tryd.underlying3
 a3:=Tryd.isAgg3
 z3:=Tryd.sizeOf3
 v3:=Tryd.zeroValue3
 t4:=Tryd.underlying4
 a4:=Tryd.isAgg4
 z4:=Tryd.sizeOf4
 v4:=Tryd.zeroValue4
 t5:=Tryd.underlying5
 a5:=Tryd.isAgg5
 z5:=Tryd.sizeOf5
 v5:=Tryd.zeroValue5
 t9:=Tryd.underlying9
 a9:=Tryd.isAgg9
 z9:=Tryd.sizeOf9
 v9:=Tryd.zeroValue9
 t20:=Tryd.underlying20
 a20:=Tryd.isAgg20
 z20:=Tryd.sizeOf20
 v20:=Tryd.zeroValue20
 t37:=Tryd.underlying80
 a37:=Tryd.isAgg80
 z37:=Tryd.sizeOf80
 v37:=Tryd.zeroValue80
 t46:=Tryd.underlying99
 a46:=Tryd.isAgg99
 z46:=Tryd.sizeOf99
 v46:=Tryd.zeroValue99
 t51:=Tryd.underlying129
 a51:=Tryd.isAgg129
 z51:=Tryd.sizeOf129
 v51:=Tryd.zeroValue129
 t53:=Tryd.underlying109
 a53:=Tryd.isAgg109
 z53:=Tryd.sizeOf109
 v53:=Tryd.zeroValue109
 t171:=Tryd.underlying116
 a171:=Tryd.isAgg116
 z171:=Tryd.sizeOf116
 v171:=Tryd.zeroValue116
 t173:=Tryd.underlying119
 a173:=Tryd.isAgg119
 z173:=Tryd.sizeOf119
 v173:=Tryd.zeroValue119
 t212:=Tryd.underlying128
 a212:=Tryd.isAgg128
 z212:=Tryd.sizeOf128
 v212:=Tryd.zeroValue128
 t213:=Tryd.underlying130
 a213:=Tryd.isAgg130
 z213:=Tryd.sizeOf130
 t232:=Tryd.underlying133
 a232:=Tryd.isAgg133
 z232:=Tryd.sizeOf133
 v232:=Tryd.zeroValue133
 t233:=Tryd.underlying134
 a233:=Tryd.isAgg134
 z233:=Tryd.sizeOf134
 v233:=Tryd.zeroValue134
 g17:=by kernel_rfl
 g18:=by kernel_rfl
 g19:=by kernel_rfl
 i0:=by kernel_rfl
 i2:=by kernel_rfl
 i3:=by kernel_rfl
 i4:=by kernel_rfl
 i5:=by kernel_rfl
 i9:=by kernel_rfl
 i20:=by kernel_rfl
 i37:=by kernel_rfl
 i46:=by kernel_rfl
 i51:=by kernel_rfl
 i53:=by kernel_rfl
 i171:=by kernel_rfl
 i173:=by kernel_rfl
 i212:=by kernel_rfl
 i232:=by kernel_rfl
 i233:=by kernel_rfl
 m17:=by kernel_rfl
 m18:=by kernel_rfl
 m19:=by kernel_rfl }
open Go.RowKit Go.Sort Go.Lib in
theorem Tryd.strconv_Itoa (n : Int) (h0 : -9223372036854775808 ≤ n) (h1 : n ≤ 9223372036854775807) (w : World) (htab : Lib.TabIs Tryd.prog w "internal/strconv.uint64pow10" .u64 Lib.pow10Tab) :
  Calls Tryd.prog 69 #[.int .i64 n] w fun e w'=>e=.returned (.string ⟨(Lib.itoa n).toArray⟩)∧∃k os,w'=grow (w.drewN k) os:=Any.strconv_Itoa Tryd.laysM171 n h0 h1 w htab
def Tryd.laysC172_ren:Go.Shelf.Ren:=⟨fun | 172=>68 | 244=>77 | 245=>78 | 247=>81 | 279=>82 | 280=>83 | 281=>84 | 282=>85 | 287=>88 | 316=>89 | 171=>69 | 205=>90 | 321=>95 | 322=>96 | 243=>79 | 246=>86 | 283=>91 | 284=>92 | 285=>93 | 286=>94 | 129=>98 | 317=>97 | 318=>99 | 319=>100 | 320=>101 | 337=>102 | 338=>103 | n=>n,fun | 9=>9 | 3=>3 | 75=>91 | 76=>92 | 4=>4 | 5=>5 | 167=>102 | 37=>80 | 0=>0 | 85=>103 | 2=>2 | 168=>105 | 53=>109 | 175=>110 | 46=>99 | 210=>114 | 127=>123 | 145=>126 | 143=>124 | 21=>21 | 171=>116 | 173=>119 | 212=>128 | 51=>129 | 20=>20 | 213=>130 | 232=>133 | 233=>134 | 80=>70 | n=>n,fun | 15=>2 | 16=>3 | 17=>4 | 18=>5 | 19=>6 | n=>n⟩
theorem Tryd.laysC172:Go.Proofs.LaysC.n172 Tryd.prog Tryd.laysC172_ren:={
 mixed:=by kernel_rfl
 f129:=Tryd.func98.trans (congrArg some (by kernel_rfl))
 f171:=Tryd.func69.trans (congrArg some (by kernel_rfl))
 f172:=Tryd.func68.trans (congrArg some (by kernel_rfl))
 f205:=Tryd.func90.trans (congrArg some (by kernel_rfl))
 f243:=Tryd.func79.trans (congrArg some (by kernel_rfl))
 f244:=Tryd.func77.trans (congrArg some (by kernel_rfl))
 f245:=Tryd.func78.trans (congrArg some (by kernel_rfl))
 f246:=Tryd.func86.trans (congrArg some (by kernel_rfl))
 f247:=Tryd.func81.trans (congrArg some (by kernel_rfl))
 f279:=Tryd.func82.trans (congrArg some (by kernel_rfl))
 f280:=Tryd.func83.trans (congrArg some (by kernel_rfl))
 f281:=Tryd.func84.trans (congrArg some (by kernel_rfl))
 f282:=Tryd.func85.trans (congrArg some (by kernel_rfl))
 f283:=Tryd.func91.trans (congrArg some (by kernel_rfl))
 f284:=Tryd.func92.trans (congrArg some (by kernel_rfl))
 f285:=Tryd.func93.trans (congrArg some (by kernel_rfl))
 f286:=Tryd.func94.trans (congrArg some (by kernel_rfl))
 f287:=Tryd.func88.trans (congrArg some (by kernel_rfl))
 f316:=Tryd.func89.trans (congrArg some (by kernel_rfl))
 f317:=Tryd.func97.trans (congrArg some (by kernel_rfl))
 f318:=Tryd.func99.trans (congrArg some (by kernel_rfl))
 f319:=Tryd.func100.trans (congrArg some (by kernel_rfl))
 f320:=Tryd.func101.trans (congrArg some (by kernel_rfl))
 f321:=Tryd.func95.trans (congrArg some (by kernel_rfl))
 f322:=Tryd.func96.trans (congrArg some (by kernel_rfl))
 f337:=Tryd.func102.trans (congrArg some (by kernel_rfl))
 f338:=Tryd.func103.trans (congrArg some (by kernel_rfl))
 t0:=Tryd.underlying0
 a0:=Tryd.isAgg0
 z0:=Tryd.sizeOf0
 v0:=Tryd.zeroValue0
 t2:=Tryd.underlying2
 a2:=Tryd.isAgg2
 z2:=Tryd.sizeOf2
 v2:=Tryd.zeroValue2
 t3:=Tryd.underlying3
 a3:=Tryd.isAgg3
 z3:=Tryd.sizeOf3
 v3:=Tryd.zeroValue3
 t4:=Tryd.underlying4
 a4:=Tryd.isAgg4
 z4:=Tryd.sizeOf4
 v4:=Tryd.zeroValue4
 t5:=Tryd.underlying5
 a5:=Tryd.isAgg5
 z5:=Tryd.sizeOf5
 v5:=Tryd.zeroValue5
 t9:=Tryd.underlying9
 a9:=Tryd.isAgg9
 z9:=Tryd.sizeOf9
 v9:=Tryd.zeroValue9
 t20:=Tryd.underlying20
 a20:=Tryd.isAgg20
 z20:=Tryd.sizeOf20
 v20:=Tryd.zeroValue20
 t21:=Tryd.underlying21
 a21:=Tryd.isAgg21
 z21:=Tryd.sizeOf21
 v21:=Tryd.zeroValue21
 t37:=Tryd.underlying80
 a37:=Tryd.isAgg80
 z37:=Tryd.sizeOf80
 v37:=Tryd.zeroValue80
 t46:=Tryd.underlying99
 a46:=Tryd.isAgg99
 z46:=Tryd.sizeOf99
 v46:=Tryd.zeroValue99
 t51:=Tryd.underlying129
 a51:=Tryd.isAgg129
 z51:=Tryd.sizeOf129
 v51:=Tryd.zeroValue129
 t53:=Tryd.underlying109
 a53:=Tryd.isAgg109
 z53:=Tryd.sizeOf109
 v53:=Tryd.zeroValue109
 t75:=Tryd.underlying91
 a75:=Tryd.isAgg91
 z75:=Tryd.sizeOf91
 v75:=Tryd.zeroValue91
 t76:=Tryd.underlying92
 a76:=Tryd.isAgg92
 z76:=Tryd.sizeOf92
 v76:=Tryd.zeroValue92
 t85:=Tryd.underlying103
 a85:=Tryd.isAgg103
 z85:=Tryd.sizeOf103
 v85:=Tryd.zeroValue103
 t127:=Tryd.underlying123
 a127:=Tryd.isAgg123
 z127:=Tryd.sizeOf123
 v127:=Tryd.zeroValue123
 t143:=Tryd.underlying124
 a143:=Tryd.isAgg124
 z143:=Tryd.sizeOf124
 v143:=Tryd.zeroValue124
 t145:=Tryd.underlying126
 a145:=Tryd.isAgg126
 z145:=Tryd.sizeOf126
 v145:=Tryd.zeroValue126
 t167:=Tryd.underlying102
 a167:=Tryd.isAgg102
 z167:=Tryd.sizeOf102
 v167:=Tryd.zeroValue102
 t168:=Tryd.underlying105
 a168:=Tryd.isAgg105
 z168:=Tryd.sizeOf105
 v168:=Tryd.zeroValue105
 t171:=Tryd.underlying116
 a171:=Tryd.isAgg116
 z171:=Tryd.sizeOf116
 v171:=Tryd.zeroValue116
 t173:=Tryd.underlying119
 a173:=Tryd.isAgg119
 z173:=Tryd.sizeOf119
 v173:=Tryd.zeroValue119
 t175:=Tryd.underlying110
 a175:=Tryd.isAgg110
 z175:=Tryd.sizeOf110
 v175:=Tryd.zeroValue110
 t210:=Tryd.underlying114
 a210:=Tryd.isAgg114
 z210:=Tryd.sizeOf114
 v210:=Tryd.zeroValue114
 t212:=Tryd.underlying128
 a212:=Tryd.isAgg128
 z212:=Tryd.sizeOf128
 v212:=Tryd.zeroValue128
 t213:=Tryd.underlying130
 a213:=Tryd.isAgg130
 z213:=Tryd.sizeOf130
 t232:=Tryd.underlying133
 a232:=Tryd.isAgg133
 z232:=Tryd.sizeOf133
 v232:=Tryd.zeroValue133
 t233:=Tryd.underlying134
 a233:=Tryd.isAgg134
 z233:=Tryd.sizeOf134
 v233:=Tryd.zeroValue134
 g15:=by kernel_rfl
 g16:=by kernel_rfl
 g17:=by kernel_rfl
 g18:=by kernel_rfl
 g19:=by kernel_rfl
 t80:=Tryd.underlying70
 a80:=Tryd.isAgg70
 z80:=Tryd.sizeOf70
 v80:=Tryd.zeroValue70
 i0:=by kernel_rfl
 i2:=by kernel_rfl
 i3:=by kernel_rfl
 i4:=by kernel_rfl
 i5:=by kernel_rfl
 i9:=by kernel_rfl
 i20:=by kernel_rfl
 i21:=by kernel_rfl
 i37:=by kernel_rfl
 i46:=by kernel_rfl
 i51:=by kernel_rfl
 i53:=by kernel_rfl
 i75:=by kernel_rfl
 i76:=by kernel_rfl
 i80:=by kernel_rfl
 i85:=by kernel_rfl
 i127:=by kernel_rfl
 i143:=by kernel_rfl
 i145:=by kernel_rfl
 i167:=by kernel_rfl
 i168:=by kernel_rfl
 i171:=by kernel_rfl
 i173:=by kernel_rfl
 i175:=by kernel_rfl
 i210:=by kernel_rfl
 i212:=by kernel_rfl
 i232:=by kernel_rfl
 i233:=by kernel_rfl
 m15:=by kernel_rfl
 m16:=by kernel_rfl
 m17:=by kernel_rfl
 m18:=by kernel_rfl
 m19:=by kernel_rfl
 c0:=by kernel_rfl
 c2:=by kernel_rfl
 c3:=by kernel_rfl
 c4:=by kernel_rfl
 c5:=by kernel_rfl
 c9:=by kernel_rfl
 c20:=by kernel_rfl
 c21:=by kernel_rfl
 c37:=by kernel_rfl
 c46:=by kernel_rfl
 c51:=by kernel_rfl
 c53:=by kernel_rfl
 c75:=by kernel_rfl
 c76:=by kernel_rfl
 c80:=by kernel_rfl
 c85:=by kernel_rfl
 c127:=by kernel_rfl
 c143:=by kernel_rfl
 c145:=by kernel_rfl
 c167:=by kernel_rfl
 c168:=by kernel_rfl
 c171:=by kernel_rfl
 c173:=by kernel_rfl
 c175:=by kernel_rfl
 c210:=by kernel_rfl
 c212:=by kernel_rfl
 c213:=by kernel_rfl
 c232:=by kernel_rfl
 c233:=by kernel_rfl }
open Go.RowKit in
theorem Tryd.strconv_Atoi_ok (s:ByteArray) (hmax:s.size≤9223372036854775806) (v:Int) (h:Lib.atoiAll s.data.toList=.ok v) (w:World) :
  Calls Tryd.prog 68 #[.string s] w fun e w'=>e=.returned (.tuple #[.int .i64 v,.nilIface])∧(w'=w∨∃t,w'=Lib.bytesWorld w 5 t):=Any.strconv_Atoi_ok Tryd.laysC172 s hmax v h w
open Go.RowKit in
theorem Tryd.strconv_Atoi_syntax (s:ByteArray) (hlim:s.size≤281474976710656) (h:Lib.atoiAll s.data.toList=.«syntax») (ev:Value) (w:World) (hv:w.cell? ⟨2,0,none⟩=some ev) (hev:ev=.nilIface∨∃te pe,ev=.iface te pe) :
  Calls Tryd.prog 68 #[.string s] w fun e w'=>∃N,e=.returned (.tuple #[.int .i64 (0),.iface 105 (.pointer (some ⟨N,0,none⟩))])∧w.heap.size≤N∧w'.heap[N]?=some (.cells #[.string ⟨#[65,116,111,105]⟩,.string s,ev] 114 (0,0))∧Below w.heap.size w w':=Any.strconv_Atoi_syntax Tryd.laysC172 s hlim h ev w hv hev
open Go.RowKit in
theorem Tryd.strconv_Atoi_range (s:ByteArray) (hlim:s.size≤281474976710656) (h:Lib.atoiAll s.data.toList=.range) (ev:Value) (w:World) (hv:w.cell? ⟨3,0,none⟩=some ev) (hev:ev=.nilIface∨∃te pe,ev=.iface te pe) :
  Calls Tryd.prog 68 #[.string s] w fun e w'=>∃N,e=.returned (.tuple #[.int .i64 (Lib.atoiSat s.data.toList),.iface 105 (.pointer (some ⟨N,0,none⟩))])∧w.heap.size≤N∧w'.heap[N]?=some (.cells #[.string ⟨#[65,116,111,105]⟩,.string s,ev] 114 (0,0))∧Below w.heap.size w w':=Any.strconv_Atoi_range Tryd.laysC172 s hlim h ev w hv hev
def Tryd.lays99_ren:Go.Shelf.Ren:=⟨fun | 99=>51 | 206=>67 | n=>n,fun | 9=>9 | 4=>4 | 3=>3 | n=>n,fun | n=>n⟩
theorem Tryd.lays99:Go.Proofs.Lays.n99 Tryd.prog Tryd.lays99_ren:={
 mixed:=by kernel_rfl
 f99:=Tryd.func51.trans (congrArg some (by kernel_rfl))
 f206:=Tryd.func67.trans (congrArg some (by kernel_rfl))
 t3:=Tryd.underlying3
 a3:=Tryd.isAgg3
 z3:=Tryd.sizeOf3
 v3:=Tryd.zeroValue3
 t4:=Tryd.underlying4
 a4:=Tryd.isAgg4
 z4:=Tryd.sizeOf4
 v4:=Tryd.zeroValue4
 t9:=Tryd.underlying9
 a9:=Tryd.isAgg9
 z9:=Tryd.sizeOf9
 v9:=Tryd.zeroValue9 }
open Go.RowKit Go.Lib in
theorem Tryd.strings_HasPrefix (s p:ByteArray) (w:World) :
  Calls Tryd.prog 51 #[.string s,.string p] w fun e w'=>e=.returned (.bool (Lib.hasPrefix s.data.toList p.data.toList))∧w'=w:=Any.strings_HasPrefix Tryd.lays99 s p w
def Tryd.lays152_ren:Go.Shelf.Ren:=⟨fun | 152=>63 | 137=>73 | 119=>74 | 224=>75 | 225=>76 | 217=>80 | 266=>87 | n=>n,fun | 9=>9 | 21=>21 | 3=>3 | 4=>4 | 5=>5 | 0=>0 | 46=>99 | n=>n,fun | n=>n⟩
theorem Tryd.lays152:Go.Proofs.Lays.n152 Tryd.prog Tryd.lays152_ren:={
 mixed:=by kernel_rfl
 f119:=Tryd.func74.trans (congrArg some (by kernel_rfl))
 f137:=Tryd.func73.trans (congrArg some (by kernel_rfl))
 f152:=Tryd.func63.trans (congrArg some (by kernel_rfl))
 f217:=Tryd.func80.trans (congrArg some (by kernel_rfl))
 f224:=Tryd.func75.trans (congrArg some (by kernel_rfl))
 f225:=Tryd.func76.trans (congrArg some (by kernel_rfl))
 f266:=Tryd.func87.trans (congrArg some (by kernel_rfl))
 t0:=Tryd.underlying0
 a0:=Tryd.isAgg0
 z0:=Tryd.sizeOf0
 v0:=Tryd.zeroValue0
 t3:=Tryd.underlying3
 a3:=Tryd.isAgg3
 z3:=Tryd.sizeOf3
 v3:=Tryd.zeroValue3
 t4:=Tryd.underlying4
 a4:=Tryd.isAgg4
 z4:=Tryd.sizeOf4
 v4:=Tryd.zeroValue4
 t5:=Tryd.underlying5
 a5:=Tryd.isAgg5
 z5:=Tryd.sizeOf5
 v5:=Tryd.zeroValue5
 t9:=Tryd.underlying9
 a9:=Tryd.isAgg9
 z9:=Tryd.sizeOf9
 v9:=Tryd.zeroValue9
 t21:=Tryd.underlying21
 a21:=Tryd.isAgg21
 z21:=Tryd.sizeOf21
 v21:=Tryd.zeroValue21
 t46:=Tryd.underlying99
 a46:=Tryd.isAgg99
 z46:=Tryd.sizeOf99
 v46:=Tryd.zeroValue99 }
open Go.RowKit Go.Lib in
theorem Tryd.strings_IndexRune_ascii (s:ByteArray) (r:Int) (w:World) (h0:0≤r) (h1:r<128) :
  Calls Tryd.prog 63 #[.string s,.int .i32 r] w fun e w'=>e=.returned (.int .i64 (Lib.indexByte s.data.toList r.toNat.toUInt8))∧w'=w:=Any.strings_IndexRune_ascii Tryd.lays152 s r w h0 h1
def Tryd.lays226_ren:Go.Shelf.Ren:=⟨fun | 226=>64 | n=>n,fun | 3=>3 | 4=>4 | n=>n,fun | n=>n⟩
theorem Tryd.lays226:Go.Proofs.Lays.n226 Tryd.prog Tryd.lays226_ren:={
 mixed:=by kernel_rfl
 f226:=Tryd.func64.trans (congrArg some (by kernel_rfl))
 t3:=Tryd.underlying3
 a3:=Tryd.isAgg3
 z3:=Tryd.sizeOf3
 v3:=Tryd.zeroValue3
 t4:=Tryd.underlying4
 a4:=Tryd.isAgg4
 z4:=Tryd.sizeOf4
 v4:=Tryd.zeroValue4 }
open Go.RowKit Go.Lib in
theorem Tryd.strings_shouldUseASCIISet (n:Int) (w:World) :
  Calls Tryd.prog 64 #[.int .i64 n] w fun e w'=>e=.returned (.bool (decide (8<n)))∧w'=w:=Any.strings_shouldUseASCIISet Tryd.lays226 n w
def Tryd.lays153_ren:Go.Shelf.Ren:=⟨fun | 153=>49 | 152=>63 | 226=>64 | 227=>65 | 228=>66 | 137=>73 | 119=>74 | 224=>75 | 225=>76 | 217=>80 | 266=>87 | n=>n,fun | 9=>9 | 3=>3 | 4=>4 | 5=>5 | 21=>21 | 117=>87 | 116=>86 | 0=>0 | 46=>99 | 124=>100 | n=>n,fun | n=>n⟩
theorem Tryd.lays153:Go.Proofs.Lays.n153 Tryd.prog Tryd.lays153_ren:={
 mixed:=by kernel_rfl
 f119:=Tryd.func74.trans (congrArg some (by kernel_rfl))
 f137:=Tryd.func73.trans (congrArg some (by kernel_rfl))
 f152:=Tryd.func63.trans (congrArg some (by kernel_rfl))
 f153:=Tryd.func49.trans (congrArg some (by kernel_rfl))
 f217:=Tryd.func80.trans (congrArg some (by kernel_rfl))
 f224:=Tryd.func75.trans (congrArg some (by kernel_rfl))
 f225:=Tryd.func76.trans (congrArg some (by kernel_rfl))
 f226:=Tryd.func64.trans (congrArg some (by kernel_rfl))
 f227:=Tryd.func65.trans (congrArg some (by kernel_rfl))
 f228:=Tryd.func66.trans (congrArg some (by kernel_rfl))
 f266:=Tryd.func87.trans (congrArg some (by kernel_rfl))
 t0:=Tryd.underlying0
 a0:=Tryd.isAgg0
 z0:=Tryd.sizeOf0
 v0:=Tryd.zeroValue0
 t3:=Tryd.underlying3
 a3:=Tryd.isAgg3
 z3:=Tryd.sizeOf3
 v3:=Tryd.zeroValue3
 t4:=Tryd.underlying4
 a4:=Tryd.isAgg4
 z4:=Tryd.sizeOf4
 v4:=Tryd.zeroValue4
 t5:=Tryd.underlying5
 a5:=Tryd.isAgg5
 z5:=Tryd.sizeOf5
 v5:=Tryd.zeroValue5
 t9:=Tryd.underlying9
 a9:=Tryd.isAgg9
 z9:=Tryd.sizeOf9
 v9:=Tryd.zeroValue9
 t21:=Tryd.underlying21
 a21:=Tryd.isAgg21
 z21:=Tryd.sizeOf21
 v21:=Tryd.zeroValue21
 t46:=Tryd.underlying99
 a46:=Tryd.isAgg99
 z46:=Tryd.sizeOf99
 v46:=Tryd.zeroValue99
 t116:=Tryd.underlying86
 a116:=Tryd.isAgg86
 z116:=Tryd.sizeOf86
 t117:=Tryd.underlying87
 a117:=Tryd.isAgg87
 z117:=Tryd.sizeOf87
 v117:=Tryd.zeroValue87
 t124:=Tryd.underlying100
 a124:=Tryd.isAgg100
 z124:=Tryd.sizeOf100
 v124:=Tryd.zeroValue100 }
open Go.RowKit Go.Lib in
theorem Tryd.strings_IndexAny_long (hv116:∀w,(zeroValue 86).run Tryd.prog w=.ok (.agg (Array.replicate 256 (.bool false))) w) (s chars:ByteArray) (w:World) (h2:2≤chars.size) (h8:8<s.size) (hs:s.size<4294967281) (hcs:chars.size<4294967281) (hascii:∀(j:Nat) b,chars.data.toList[j]?=some b→b.toNat<128) :
  Calls Tryd.prog 49 #[.string s,.string chars] w fun e w'=>e=.returned (.int .i64 (Lib.indexAny s.data.toList chars.data.toList))∧w'=((w.alloc (.cells (Lib.setCells chars.data.toList) 86)).alloc (.cells (Lib.setCells chars.data.toList) 86)):=Any.strings_IndexAny_long Tryd.lays153 hv116 (by kernel_rfl) s chars w h2 h8 hs hcs hascii
open Go.RowKit Go.Lib in
theorem Tryd.strings_IndexAny_laid (s chars:ByteArray) (w:World) (hs:s.size<4294967281) (hcs:chars.size<4294967281) (has:∀(j:Nat) b,s.data.toList[j]?=some b→b.toNat<128) (hac:∀(j:Nat) b,chars.data.toList[j]?=some b→b.toNat<128) :
  Calls Tryd.prog 49 #[.string s,.string chars] w fun e w'=>e=.returned (.int .i64 (Lib.indexAny s.data.toList chars.data.toList))∧Below w.heap.size w w':=Any.strings_IndexAny_laid Tryd.lays153 (by kernel_rfl) s chars w hs hcs has hac
end Go.Proofs
