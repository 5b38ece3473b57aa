/-
  Merged: Shelf.
-/
import Derived.Shelf.Strings.Builder1
import Derived.Shelf.Strings.Builder2
import Derived.Shelf.Small.Bits
import Derived.Shelf.Small.Wraps
import Derived.Shelf.Strings.BuilderF
import Derived.Shelf.Strconv.Itoa0
import Derived.Shelf.Strconv.Itoa1
import Derived.Shelf.LaysM
import Derived.Shelf.Strconv.Itoa2
import Derived.Shelf.Strconv.Itoa3
import Derived.Shelf.Strconv.Clone
import Derived.Shelf.Strconv.RangeError
import Derived.Shelf.LaysC
import Derived.Shelf.Strconv.ToErrorRange
import Derived.Ground.MpProg
import Derived.Shelf.Pu.ParseUintPublic10
import Derived.Shelf.Pu.ErrVarParseUint
import Derived.Shelf.Strings.Search1
import Derived.Shelf.Strings.Search2
import Derived.Shelf.Strings.Cut
import Derived.Shelf.Strings.Shaped
import Derived.Shelf.Strings.Prefix
import Derived.Shelf.Bits.Mul64
import Derived.Shelf.Strings.Repeat
import Derived.Ground.Names2Prog
import Derived.Shelf.Slices.SearchI
import Derived.Test.YtjcegdldgjphiaaGreatDoorProg
set_option linter.unusedSimpArgs false
set_option linter.unusedVariables false
namespace Go.Proofs
open Go.Shelf
def Tryz.lays128_ren:Go.Shelf.Ren:=⟨fun | 128=>148 | n=>n,fun | 51=>123 | 3=>3 | 4=>4 | 46=>73 | 5=>5 | 9=>9 | n=>n,fun | n=>n⟩
def Tryz.lays133_ren:Go.Shelf.Ren:=⟨fun | 133=>120 | 128=>148 | n=>n,fun | 51=>123 | 3=>3 | 4=>4 | 46=>73 | 5=>5 | 9=>9 | n=>n,fun | n=>n⟩
theorem Tryz.lays133:Go.Proofs.Lays.n133 Tryz.prog Tryz.lays133_ren:={
 mixed:=by kernel_rfl
 f128:=Tryz.func148.trans (congrArg some (by kernel_rfl))
 f133:=Tryz.func120.trans (congrArg some (by kernel_rfl))
 t3:=Tryz.underlying3
 a3:=Tryz.isAgg3
 z3:=Tryz.sizeOf3
 v3:=Tryz.zeroValue3
 t4:=Tryz.underlying4
 a4:=Tryz.isAgg4
 z4:=Tryz.sizeOf4
 v4:=Tryz.zeroValue4
 t5:=Tryz.underlying5
 a5:=Tryz.isAgg5
 z5:=Tryz.sizeOf5
 v5:=Tryz.zeroValue5
 t9:=Tryz.underlying9
 a9:=Tryz.isAgg9
 z9:=Tryz.sizeOf9
 v9:=Tryz.zeroValue9
 t46:=Tryz.underlying73
 a46:=Tryz.isAgg73
 z46:=Tryz.sizeOf73
 v46:=Tryz.zeroValue73
 t51:=Tryz.underlying123
 a51:=Tryz.isAgg123
 z51:=Tryz.sizeOf123
 v51:=Tryz.zeroValue123 }
theorem Tryz.bits_LeadingZeros32 (x:Int) (w:World) (h0:0≤x) (h1:x≤4294967295) :
  Calls Tryz.prog 120 #[.int .u32 x] w fun e w'=>e=.returned (.int .i64 (32 - (Lib.bitLen x.toNat:Int)))∧w'=w:=Any.bits_LeadingZeros32 Tryz.lays133 x w h0 h1
def Tryz.lays103_ren:Go.Shelf.Ren:=⟨fun | 103=>136 | 210=>160 | 206=>156 | n=>n,fun | 9=>9 | 4=>4 | 24=>157 | 3=>3 | n=>n,fun | n=>n⟩
theorem Tryz.lays103:Go.Proofs.Lays.n103 Tryz.prog Tryz.lays103_ren:={
 mixed:=by kernel_rfl
 f103:=Tryz.func136.trans (congrArg some (by kernel_rfl))
 f206:=Tryz.func156.trans (congrArg some (by kernel_rfl))
 f210:=Tryz.func160.trans (congrArg some (by kernel_rfl))
 t3:=Tryz.underlying3
 a3:=Tryz.isAgg3
 z3:=Tryz.sizeOf3
 v3:=Tryz.zeroValue3
 t4:=Tryz.underlying4
 a4:=Tryz.isAgg4
 z4:=Tryz.sizeOf4
 v4:=Tryz.zeroValue4
 t9:=Tryz.underlying9
 a9:=Tryz.isAgg9
 z9:=Tryz.sizeOf9
 v9:=Tryz.zeroValue9
 t24:=Tryz.underlying157
 a24:=Tryz.isAgg157
 z24:=Tryz.sizeOf157
 v24:=Tryz.zeroValue157 }
open Go.RowKit in
theorem Tryz.strings_CutPrefix (s p:ByteArray) (w:World) :
  Calls Tryz.prog 136 #[.string s,.string p] w fun e w'=>e=.returned (.tuple #[.string ⟨(Lib.trimPrefix s.data.toList p.data.toList).toArray⟩,.bool (Lib.hasPrefix s.data.toList p.data.toList)])∧w'=w:=Any.strings_CutPrefix Tryz.lays103 s p w
def Tryz.lays283_ren:Go.Shelf.Ren:=⟨fun | 283=>150 | n=>n,fun | 3=>3 | 9=>9 | 4=>4 | n=>n,fun | n=>n⟩
theorem Tryz.lays283:Go.Proofs.Lays.n283 Tryz.prog Tryz.lays283_ren:={
 mixed:=by kernel_rfl
 f283:=Tryz.func150.trans (congrArg some (by kernel_rfl))
 t3:=Tryz.underlying3
 a3:=Tryz.isAgg3
 z3:=Tryz.sizeOf3
 v3:=Tryz.zeroValue3
 t4:=Tryz.underlying4
 a4:=Tryz.isAgg4
 z4:=Tryz.sizeOf4
 v4:=Tryz.zeroValue4
 t9:=Tryz.underlying9
 a9:=Tryz.isAgg9
 z9:=Tryz.sizeOf9
 v9:=Tryz.zeroValue9 }
open Go.Lib in
theorem Tryz.internal_strconv_small (i:Nat) (h:i<100) (w:World) :
  Calls Tryz.prog 150 #[.int .i64 i] w fun e w'=>e=.returned (.string ⟨(Lib.decDigits i).toArray⟩)∧w'=w:=Any.internal_strconv_small Tryz.lays283 i h w
def Tryz.laysM284_ren:Go.Shelf.Ren:=⟨fun | 284=>151 | 129=>165 | 317=>164 | 318=>166 | n=>n,fun | 53=>72 | 3=>3 | 212=>182 | 0=>0 | 4=>4 | 46=>73 | 5=>5 | 9=>9 | n=>n,fun | 17=>1 | n=>n⟩
theorem Tryz.laysM284:Go.Proofs.LaysM.n284 Tryz.prog Tryz.laysM284_ren:={
 mixed:=by kernel_rfl
 f129:=Tryz.func165.trans (congrArg some (by kernel_rfl))
 f284:=Tryz.func151.trans (congrArg some (by kernel_rfl))
 f317:=Tryz.func164.trans (congrArg some (by kernel_rfl))
 f318:=Tryz.func166.trans (congrArg some (by kernel_rfl))
 t0:=Tryz.underlying0
 a0:=Tryz.isAgg0
 z0:=Tryz.sizeOf0
 v0:=Tryz.zeroValue0
 t3:=Tryz.underlying3
 a3:=Tryz.isAgg3
 z3:=Tryz.sizeOf3
 v3:=Tryz.zeroValue3
 t4:=Tryz.underlying4
 a4:=Tryz.isAgg4
 z4:=Tryz.sizeOf4
 v4:=Tryz.zeroValue4
 t5:=Tryz.underlying5
 a5:=Tryz.isAgg5
 z5:=Tryz.sizeOf5
 v5:=Tryz.zeroValue5
 t9:=Tryz.underlying9
 a9:=Tryz.isAgg9
 z9:=Tryz.sizeOf9
 v9:=Tryz.zeroValue9
 t46:=Tryz.underlying73
 a46:=Tryz.isAgg73
 z46:=Tryz.sizeOf73
 v46:=Tryz.zeroValue73
 t53:=Tryz.underlying72
 a53:=Tryz.isAgg72
 z53:=Tryz.sizeOf72
 v53:=Tryz.zeroValue72
 t212:=Tryz.underlying182
 a212:=Tryz.isAgg182
 z212:=Tryz.sizeOf182
 v212:=Tryz.zeroValue182
 g17:=by kernel_rfl
 i0:=by kernel_rfl
 i3:=by kernel_rfl
 i4:=by kernel_rfl
 i5:=by kernel_rfl
 i9:=by kernel_rfl
 i46:=by kernel_rfl
 i53:=by kernel_rfl
 i212:=by kernel_rfl
 m17:=by kernel_rfl }
open Go.Lib in
theorem Tryz.internal_strconv_numDigits (u : Nat) (h1 : 1 ≤ u) (h2 : u < 18446744073709551616) (w : World) (htab : Lib.TabIs Tryz.prog w "internal/strconv.uint64pow10" .u64 Lib.pow10Tab) :
  Calls Tryz.prog 151 #[.int .u64 u] w fun e w'=>e=.returned (.int .i64 (Lib.nDigits u))∧w'=w:=Any.internal_strconv_numDigits Tryz.laysM284 u h1 h2 w htab
def Tryz.lays285_ren:Go.Shelf.Ren:=⟨fun | 285=>152 | n=>n,fun | 37=>43 | 53=>72 | 3=>3 | 4=>4 | 51=>123 | 9=>9 | 5=>5 | 0=>0 | n=>n,fun | n=>n⟩
theorem Tryz.lays285:Go.Proofs.Lays.n285 Tryz.prog Tryz.lays285_ren:={
 mixed:=by kernel_rfl
 f285:=Tryz.func152.trans (congrArg some (by kernel_rfl))
 t0:=Tryz.underlying0
 a0:=Tryz.isAgg0
 z0:=Tryz.sizeOf0
 v0:=Tryz.zeroValue0
 t3:=Tryz.underlying3
 a3:=Tryz.isAgg3
 z3:=Tryz.sizeOf3
 v3:=Tryz.zeroValue3
 t4:=Tryz.underlying4
 a4:=Tryz.isAgg4
 z4:=Tryz.sizeOf4
 v4:=Tryz.zeroValue4
 t5:=Tryz.underlying5
 a5:=Tryz.isAgg5
 z5:=Tryz.sizeOf5
 v5:=Tryz.zeroValue5
 t9:=Tryz.underlying9
 a9:=Tryz.isAgg9
 z9:=Tryz.sizeOf9
 v9:=Tryz.zeroValue9
 t37:=Tryz.underlying43
 a37:=Tryz.isAgg43
 z37:=Tryz.sizeOf43
 v37:=Tryz.zeroValue43
 t51:=Tryz.underlying123
 a51:=Tryz.isAgg123
 z51:=Tryz.sizeOf123
 v51:=Tryz.zeroValue123
 t53:=Tryz.underlying72
 a53:=Tryz.isAgg72
 z53:=Tryz.sizeOf72
 v53:=Tryz.zeroValue72 }
open Go.RowKit Go.Sort Go.Lib in
theorem Tryz.internal_strconv_formatBase10 (blk off cap:Nat) (u:Nat) (d:Array UInt8) (w:World) (hH:Holds (fun (b:UInt8)=>Value.int .u8 (b.toNat:Int)) w blk off d) (hu:u<10 ^ d.size) (hu64:u<18446744073709551616) (hsz:d.size<4611686018427387904) :
  Calls Tryz.prog 152 #[.slice (some ⟨blk,off,none⟩) d.size cap,.int .u64 u] w fun e w' =>
   e=.returned (.tuple #[])∧∃(n v':Nat) (dk:Array UInt8),w'=(putRow (fun (b:UInt8)=>Value.int .u8 (b.toNat:Int)) w blk off dk).drewN n∧FmtInv d.size u 0 v' dk:=Any.internal_strconv_formatBase10 Tryz.lays285 blk off cap u d w hH hu hu64 hsz
def Tryz.laysPu14_ren:Go.Shelf.Ren:=⟨fun | 14=>137 | 16=>161 | 17=>162 | 19=>174 | 20=>175 | 21=>176 | 22=>177 | 23=>178 | 24=>179 | 25=>184 | 27=>186 | 26=>185 | 28=>187 | 29=>188 | 30=>150 | 31=>151 | 32=>152 | 33=>153 | 35=>165 | 34=>164 | 36=>166 | 37=>167 | 38=>168 | 39=>180 | 40=>181 | n=>n,fun | 9=>9 | 3=>3 | 22=>72 | 24=>105 | 25=>159 | 4=>4 | 34=>187 | 5=>5 | 36=>73 | 37=>43 | 0=>0 | 39=>190 | 21=>21 | 44=>195 | 47=>135 | 50=>201 | 48=>199 | 2=>2 | 52=>169 | 55=>172 | 59=>182 | 60=>123 | 20=>20 | 61=>183 | 65=>197 | 66=>198 | 67=>38 | n=>n,fun | 0=>3 | 1=>4 | 2=>1 | 3=>5 | 4=>6 | n=>n⟩
theorem Tryz.laysPu14:Go.Proofs.LaysPu.n14 Tryz.prog Tryz.laysPu14_ren:={
 mixed:=by kernel_rfl
 f14:=Tryz.func137.trans (congrArg some (by kernel_rfl))
 f16:=Tryz.func161.trans (congrArg some (by kernel_rfl))
 f17:=Tryz.func162.trans (congrArg some (by kernel_rfl))
 f19:=Tryz.func174.trans (congrArg some (by kernel_rfl))
 f20:=Tryz.func175.trans (congrArg some (by kernel_rfl))
 f21:=Tryz.func176.trans (congrArg some (by kernel_rfl))
 f22:=Tryz.func177.trans (congrArg some (by kernel_rfl))
 f23:=Tryz.func178.trans (congrArg some (by kernel_rfl))
 f24:=Tryz.func179.trans (congrArg some (by kernel_rfl))
 f25:=Tryz.func184.trans (congrArg some (by kernel_rfl))
 f26:=Tryz.func185.trans (congrArg some (by kernel_rfl))
 f27:=Tryz.func186.trans (congrArg some (by kernel_rfl))
 f28:=Tryz.func187.trans (congrArg some (by kernel_rfl))
 f29:=Tryz.func188.trans (congrArg some (by kernel_rfl))
 f30:=Tryz.func150.trans (congrArg some (by kernel_rfl))
 f31:=Tryz.func151.trans (congrArg some (by kernel_rfl))
 f32:=Tryz.func152.trans (congrArg some (by kernel_rfl))
 f33:=Tryz.func153.trans (congrArg some (by kernel_rfl))
 f34:=Tryz.func164.trans (congrArg some (by kernel_rfl))
 f35:=Tryz.func165.trans (congrArg some (by kernel_rfl))
 f36:=Tryz.func166.trans (congrArg some (by kernel_rfl))
 f37:=Tryz.func167.trans (congrArg some (by kernel_rfl))
 f38:=Tryz.func168.trans (congrArg some (by kernel_rfl))
 f39:=Tryz.func180.trans (congrArg some (by kernel_rfl))
 f40:=Tryz.func181.trans (congrArg some (by kernel_rfl))
 t0:=Tryz.underlying0
 a0:=Tryz.isAgg0
 z0:=Tryz.sizeOf0
 v0:=Tryz.zeroValue0
 i0:=by kernel_rfl
 t2:=Tryz.underlying2
 a2:=Tryz.isAgg2
 z2:=Tryz.sizeOf2
 v2:=Tryz.zeroValue2
 i2:=by kernel_rfl
 t3:=Tryz.underlying3
 a3:=Tryz.isAgg3
 z3:=Tryz.sizeOf3
 v3:=Tryz.zeroValue3
 i3:=by kernel_rfl
 t4:=Tryz.underlying4
 a4:=Tryz.isAgg4
 z4:=Tryz.sizeOf4
 v4:=Tryz.zeroValue4
 i4:=by kernel_rfl
 t5:=Tryz.underlying5
 a5:=Tryz.isAgg5
 z5:=Tryz.sizeOf5
 v5:=Tryz.zeroValue5
 i5:=by kernel_rfl
 t9:=Tryz.underlying9
 a9:=Tryz.isAgg9
 z9:=Tryz.sizeOf9
 v9:=Tryz.zeroValue9
 i9:=by kernel_rfl
 t20:=Tryz.underlying20
 a20:=Tryz.isAgg20
 z20:=Tryz.sizeOf20
 v20:=Tryz.zeroValue20
 i20:=by kernel_rfl
 t21:=Tryz.underlying21
 a21:=Tryz.isAgg21
 z21:=Tryz.sizeOf21
 v21:=Tryz.zeroValue21
 i21:=by kernel_rfl
 t22:=Tryz.underlying72
 a22:=Tryz.isAgg72
 z22:=Tryz.sizeOf72
 v22:=Tryz.zeroValue72
 i22:=by kernel_rfl
 t24:=Tryz.underlying105
 a24:=Tryz.isAgg105
 z24:=Tryz.sizeOf105
 v24:=Tryz.zeroValue105
 i24:=by kernel_rfl
 t25:=Tryz.underlying159
 a25:=Tryz.isAgg159
 z25:=Tryz.sizeOf159
 v25:=Tryz.zeroValue159
 i25:=by kernel_rfl
 t34:=Tryz.underlying187
 a34:=Tryz.isAgg187
 z34:=Tryz.sizeOf187
 v34:=Tryz.zeroValue187
 i34:=by kernel_rfl
 c34:=by kernel_rfl
 t36:=Tryz.underlying73
 a36:=Tryz.isAgg73
 z36:=Tryz.sizeOf73
 v36:=Tryz.zeroValue73
 i36:=by kernel_rfl
 t37:=Tryz.underlying43
 a37:=Tryz.isAgg43
 z37:=Tryz.sizeOf43
 v37:=Tryz.zeroValue43
 i37:=by kernel_rfl
 t39:=Tryz.underlying190
 a39:=Tryz.isAgg190
 z39:=Tryz.sizeOf190
 v39:=Tryz.zeroValue190
 i39:=by kernel_rfl
 t44:=Tryz.underlying195
 a44:=Tryz.isAgg195
 z44:=Tryz.sizeOf195
 v44:=Tryz.zeroValue195
 i44:=by kernel_rfl
 t47:=Tryz.underlying135
 a47:=Tryz.isAgg135
 z47:=Tryz.sizeOf135
 v47:=Tryz.zeroValue135
 i47:=by kernel_rfl
 t48:=Tryz.underlying199
 a48:=Tryz.isAgg199
 z48:=Tryz.sizeOf199
 v48:=Tryz.zeroValue199
 i48:=by kernel_rfl
 t50:=Tryz.underlying201
 a50:=Tryz.isAgg201
 z50:=Tryz.sizeOf201
 v50:=Tryz.zeroValue201
 i50:=by kernel_rfl
 t52:=Tryz.underlying169
 a52:=Tryz.isAgg169
 z52:=Tryz.sizeOf169
 v52:=Tryz.zeroValue169
 i52:=by kernel_rfl
 t55:=Tryz.underlying172
 a55:=Tryz.isAgg172
 z55:=Tryz.sizeOf172
 v55:=Tryz.zeroValue172
 i55:=by kernel_rfl
 t59:=Tryz.underlying182
 a59:=Tryz.isAgg182
 z59:=Tryz.sizeOf182
 v59:=Tryz.zeroValue182
 i59:=by kernel_rfl
 t60:=Tryz.underlying123
 a60:=Tryz.isAgg123
 z60:=Tryz.sizeOf123
 v60:=Tryz.zeroValue123
 i60:=by kernel_rfl
 t61:=Tryz.underlying183
 a61:=Tryz.isAgg183
 z61:=Tryz.sizeOf183
 t65:=Tryz.underlying197
 a65:=Tryz.isAgg197
 z65:=Tryz.sizeOf197
 v65:=Tryz.zeroValue197
 i65:=by kernel_rfl
 t66:=Tryz.underlying198
 a66:=Tryz.isAgg198
 z66:=Tryz.sizeOf198
 v66:=Tryz.zeroValue198
 i66:=by kernel_rfl
 t67:=Tryz.underlying38
 a67:=Tryz.isAgg38
 z67:=Tryz.sizeOf38
 v67:=Tryz.zeroValue38
 i67:=by kernel_rfl
 g0:=by kernel_rfl
 m0:=by kernel_rfl
 g1:=by kernel_rfl
 m1:=by kernel_rfl
 g2:=by kernel_rfl
 m2:=by kernel_rfl
 g3:=by kernel_rfl
 m3:=by kernel_rfl
 g4:=by kernel_rfl
 m4:=by kernel_rfl }
open Go.RowKit in
theorem Tryz.strconv_ParseUint_10_at32_ok (s:ByteArray) (hmax:s.size≤9223372036854775806) (u:Nat) (h:Lib.parseUintB 32 s.data.toList=.ok u) (w:World) :
  Calls Tryz.prog 137 #[.string s,.int .i64 10,.int .i64 32] w fun e w'=>e=.returned (.tuple #[.int .u64 u,.nilIface])∧(w'=w∨w'=Lib.bytesWorld w 5 s):=Any.strconv_ParseUint_10_at32_ok Tryz.laysPu14 s hmax u h w
open Go.RowKit in
theorem Tryz.strconv_ParseUint_10_at32_syntax (s:ByteArray) (hlim:s.size≤281474976710656) (h:Lib.parseUintB 32 s.data.toList=.«syntax») (ev:Value) (w:World) (hv:w.cell? ⟨3,0,none⟩=some ev) (hev:ev=.nilIface∨∃te pe,ev=.iface te pe) :
  Calls Tryz.prog 137 #[.string s,.int .i64 10,.int .i64 32] w fun e w'=>∃N,e=.returned (.tuple #[.int .u64 0,.iface 190 (.pointer (some ⟨N,0,none⟩))])∧w.heap.size≤N∧w'.heap[N]?=some (.cells #[.string ⟨#[80,97,114,115,101,85,105,110,116]⟩,.string s,ev] 195 (0,0))∧Below w.heap.size w w':=Any.strconv_ParseUint_10_at32_syntax Tryz.laysPu14 s hlim h ev w hv hev
def Tryz.lays219_ren:Go.Shelf.Ren:=⟨fun | 219=>159 | 217=>170 | 225=>171 | 224=>172 | 267=>173 | 266=>182 | 314=>183 | n=>n,fun | 9=>9 | 3=>3 | 4=>4 | 5=>5 | 46=>73 | 146=>145 | 51=>123 | n=>n,fun | 1=>2 | n=>n⟩
def Tryz.lays145_ren:Go.Shelf.Ren:=⟨fun | 145=>108 | 220=>135 | 219=>159 | 217=>170 | 225=>171 | 224=>172 | 267=>173 | 266=>182 | 314=>183 | n=>n,fun | 9=>9 | 4=>4 | 59=>132 | 3=>3 | 5=>5 | 46=>73 | 146=>145 | 51=>123 | n=>n,fun | 1=>2 | n=>n⟩
theorem Tryz.lays145:Go.Proofs.Lays.n145 Tryz.prog Tryz.lays145_ren:={
 mixed:=by kernel_rfl
 f145:=Tryz.func108.trans (congrArg some (by kernel_rfl))
 f217:=Tryz.func170.trans (congrArg some (by kernel_rfl))
 f219:=Tryz.func159.trans (congrArg some (by kernel_rfl))
 f220:=Tryz.func135.trans (congrArg some (by kernel_rfl))
 f224:=Tryz.func172.trans (congrArg some (by kernel_rfl))
 f225:=Tryz.func171.trans (congrArg some (by kernel_rfl))
 f266:=Tryz.func182.trans (congrArg some (by kernel_rfl))
 f267:=Tryz.func173.trans (congrArg some (by kernel_rfl))
 f314:=Tryz.func183.trans (congrArg some (by kernel_rfl))
 t3:=Tryz.underlying3
 a3:=Tryz.isAgg3
 z3:=Tryz.sizeOf3
 v3:=Tryz.zeroValue3
 t4:=Tryz.underlying4
 a4:=Tryz.isAgg4
 z4:=Tryz.sizeOf4
 v4:=Tryz.zeroValue4
 t5:=Tryz.underlying5
 a5:=Tryz.isAgg5
 z5:=Tryz.sizeOf5
 v5:=Tryz.zeroValue5
 t9:=Tryz.underlying9
 a9:=Tryz.isAgg9
 z9:=Tryz.sizeOf9
 v9:=Tryz.zeroValue9
 t46:=Tryz.underlying73
 a46:=Tryz.isAgg73
 z46:=Tryz.sizeOf73
 v46:=Tryz.zeroValue73
 t51:=Tryz.underlying123
 a51:=Tryz.isAgg123
 z51:=Tryz.sizeOf123
 v51:=Tryz.zeroValue123
 t59:=Tryz.underlying132
 a59:=Tryz.isAgg132
 z59:=Tryz.sizeOf132
 v59:=Tryz.zeroValue132
 t146:=Tryz.underlying145
 a146:=Tryz.isAgg145
 z146:=Tryz.sizeOf145
 v146:=Tryz.zeroValue145
 g1:=by kernel_rfl }
open Go.RowKit Go.Lib in
theorem Tryz.strings_Cut (s sep:ByteArray) (m:Int) (w:World) (hs:s.size<4294967281) (hm:w.cell? ⟨2,0,none⟩=some (.int .i64 m)) :
  Calls Tryz.prog 108 #[.string s,.string sep] w fun e w'=>e=.returned (.tuple #[.string ⟨(Lib.cut s.data.toList sep.data.toList).1.toArray⟩,.string ⟨(Lib.cut s.data.toList sep.data.toList).2.1.toArray⟩,.bool (Lib.cut s.data.toList sep.data.toList).2.2])∧∃n,w'=w.drewN n:=Any.strings_Cut Tryz.lays145 s sep m w hs hm
def Tryz.laysM145_ren:Go.Shelf.Ren:=⟨fun | 145=>108 | 220=>135 | 219=>159 | 217=>170 | 225=>171 | 224=>172 | 267=>173 | 266=>182 | 314=>183 | n=>n,fun | 9=>9 | 4=>4 | 59=>132 | 3=>3 | 5=>5 | 46=>73 | 146=>145 | 51=>123 | n=>n,fun | 1=>2 | n=>n⟩
theorem Tryz.laysM145:Go.Proofs.LaysM.n145 Tryz.prog Tryz.laysM145_ren:={
 mixed:=by kernel_rfl
 f145:=Tryz.func108.trans (congrArg some (by kernel_rfl))
 f217:=Tryz.func170.trans (congrArg some (by kernel_rfl))
 f219:=Tryz.func159.trans (congrArg some (by kernel_rfl))
 f220:=Tryz.func135.trans (congrArg some (by kernel_rfl))
 f224:=Tryz.func172.trans (congrArg some (by kernel_rfl))
 f225:=Tryz.func171.trans (congrArg some (by kernel_rfl))
 f266:=Tryz.func182.trans (congrArg some (by kernel_rfl))
 f267:=Tryz.func173.trans (congrArg some (by kernel_rfl))
 f314:=Tryz.func183.trans (congrArg some (by kernel_rfl))
 t3:=Tryz.underlying3
 a3:=Tryz.isAgg3
 z3:=Tryz.sizeOf3
 v3:=Tryz.zeroValue3
 t4:=Tryz.underlying4
 a4:=Tryz.isAgg4
 z4:=Tryz.sizeOf4
 v4:=Tryz.zeroValue4
 t5:=Tryz.underlying5
 a5:=Tryz.isAgg5
 z5:=Tryz.sizeOf5
 v5:=Tryz.zeroValue5
 t9:=Tryz.underlying9
 a9:=Tryz.isAgg9
 z9:=Tryz.sizeOf9
 v9:=Tryz.zeroValue9
 t46:=Tryz.underlying73
 a46:=Tryz.isAgg73
 z46:=Tryz.sizeOf73
 v46:=Tryz.zeroValue73
 t51:=Tryz.underlying123
 a51:=Tryz.isAgg123
 z51:=Tryz.sizeOf123
 v51:=Tryz.zeroValue123
 t59:=Tryz.underlying132
 a59:=Tryz.isAgg132
 z59:=Tryz.sizeOf132
 v59:=Tryz.zeroValue132
 t146:=Tryz.underlying145
 a146:=Tryz.isAgg145
 z146:=Tryz.sizeOf145
 v146:=Tryz.zeroValue145
 g1:=by kernel_rfl
 i3:=by kernel_rfl
 i4:=by kernel_rfl
 i5:=by kernel_rfl
 i9:=by kernel_rfl
 i46:=by kernel_rfl
 i51:=by kernel_rfl
 i59:=by kernel_rfl
 i146:=by kernel_rfl
 m1:=by kernel_rfl
 s1_3:=fun w h=>Go.Proofs.cell_of_shapedOpen_int (zero:=#[.int .i64 0]) (t:=3) h (of_decide_eq_true (by kernel_rfl)) (by kernel_rfl) rfl (by kernel_rfl) (by kernel_rfl) Tryz.underlying3 }
def Tryz.lays105_ren:Go.Shelf.Ren:=⟨fun | 105=>104 | 212=>125 | 99=>126 | 165=>127 | 166=>88 | 170=>128 | 169=>89 | 263=>154 | 264=>155 | 206=>156 | 240=>111 | 241=>157 | 276=>142 | 277=>169 | n=>n,fun | 9=>9 | 3=>3 | 4=>4 | 20=>20 | 0=>0 | 46=>73 | 109=>147 | 5=>5 | 72=>103 | 76=>106 | 51=>123 | 146=>145 | 53=>72 | 148=>175 | 70=>101 | 37=>43 | 75=>105 | 127=>135 | 164=>162 | 80=>38 | n=>n,fun | n=>n⟩
theorem Tryz.lays105:Go.Proofs.Lays.n105 Tryz.prog Tryz.lays105_ren:={
 mixed:=by kernel_rfl
 f99:=Tryz.func126.trans (congrArg some (by kernel_rfl))
 f105:=Tryz.func104.trans (congrArg some (by kernel_rfl))
 f165:=Tryz.func127.trans (congrArg some (by kernel_rfl))
 f166:=Tryz.func88.trans (congrArg some (by kernel_rfl))
 f169:=Tryz.func89.trans (congrArg some (by kernel_rfl))
 f170:=Tryz.func128.trans (congrArg some (by kernel_rfl))
 f206:=Tryz.func156.trans (congrArg some (by kernel_rfl))
 f212:=Tryz.func125.trans (congrArg some (by kernel_rfl))
 f240:=Tryz.func111.trans (congrArg some (by kernel_rfl))
 f241:=Tryz.func157.trans (congrArg some (by kernel_rfl))
 f263:=Tryz.func154.trans (congrArg some (by kernel_rfl))
 f264:=Tryz.func155.trans (congrArg some (by kernel_rfl))
 f276:=Tryz.func142.trans (congrArg some (by kernel_rfl))
 f277:=Tryz.func169.trans (congrArg some (by kernel_rfl))
 t0:=Tryz.underlying0
 a0:=Tryz.isAgg0
 z0:=Tryz.sizeOf0
 v0:=Tryz.zeroValue0
 t3:=Tryz.underlying3
 a3:=Tryz.isAgg3
 z3:=Tryz.sizeOf3
 v3:=Tryz.zeroValue3
 t4:=Tryz.underlying4
 a4:=Tryz.isAgg4
 z4:=Tryz.sizeOf4
 v4:=Tryz.zeroValue4
 t5:=Tryz.underlying5
 a5:=Tryz.isAgg5
 z5:=Tryz.sizeOf5
 v5:=Tryz.zeroValue5
 t9:=Tryz.underlying9
 a9:=Tryz.isAgg9
 z9:=Tryz.sizeOf9
 v9:=Tryz.zeroValue9
 t20:=Tryz.underlying20
 a20:=Tryz.isAgg20
 z20:=Tryz.sizeOf20
 v20:=Tryz.zeroValue20
 t37:=Tryz.underlying43
 a37:=Tryz.isAgg43
 z37:=Tryz.sizeOf43
 v37:=Tryz.zeroValue43
 t46:=Tryz.underlying73
 a46:=Tryz.isAgg73
 z46:=Tryz.sizeOf73
 v46:=Tryz.zeroValue73
 t51:=Tryz.underlying123
 a51:=Tryz.isAgg123
 z51:=Tryz.sizeOf123
 v51:=Tryz.zeroValue123
 t53:=Tryz.underlying72
 a53:=Tryz.isAgg72
 z53:=Tryz.sizeOf72
 v53:=Tryz.zeroValue72
 t70:=Tryz.underlying101
 a70:=Tryz.isAgg101
 z70:=Tryz.sizeOf101
 v70:=Tryz.zeroValue101
 t72:=Tryz.underlying103
 a72:=Tryz.isAgg103
 z72:=Tryz.sizeOf103
 v72:=Tryz.zeroValue103
 t75:=Tryz.underlying105
 a75:=Tryz.isAgg105
 z75:=Tryz.sizeOf105
 v75:=Tryz.zeroValue105
 t76:=Tryz.underlying106
 a76:=Tryz.isAgg106
 z76:=Tryz.sizeOf106
 v76:=Tryz.zeroValue106
 t109:=Tryz.underlying147
 a109:=Tryz.isAgg147
 z109:=Tryz.sizeOf147
 v109:=Tryz.zeroValue147
 t127:=Tryz.underlying135
 a127:=Tryz.isAgg135
 z127:=Tryz.sizeOf135
 v127:=Tryz.zeroValue135
 t146:=Tryz.underlying145
 a146:=Tryz.isAgg145
 z146:=Tryz.sizeOf145
 v146:=Tryz.zeroValue145
 t148:=Tryz.underlying175
 a148:=Tryz.isAgg175
 z148:=Tryz.sizeOf175
 v148:=Tryz.zeroValue175
 t164:=Tryz.underlying162
 a164:=Tryz.isAgg162
 z164:=Tryz.sizeOf162
 v164:=Tryz.zeroValue162 }
theorem Tryz.Builder_Extra_105:Builder.Extra Tryz.prog Tryz.lays105_ren:={
 sizeBuilder:=by kernel_rfl
 liesBuilder:=by kernel_rfl
 t5:=Tryz.underlying5
 a5:=Tryz.isAgg5
 z5:=Tryz.sizeOf5
 v5:=Tryz.zeroValue5
 infoByte:=by kernel_rfl
 cellsByte:=by kernel_rfl
 sizeByte:=by kernel_rfl
 neB5:=by decide }
open Go.RowKit Go.Lib in
theorem Tryz.strings_Repeat (s:ByteArray) (c:Nat) (w:World) (hc:c≤9223372036854775807) (hlen:s.size*c≤140737488355328) :
  Calls Tryz.prog 104 #[.string s,.int .i64 c] w fun e w'=>e=.returned (.string ⟨(Lib.repeatL s.data.toList c).toArray⟩)∧Below w.heap.size w w':=Any.strings_Repeat Tryz.lays105 Tryz.Builder_Extra_105 s c w hc hlen
end Go.Proofs
