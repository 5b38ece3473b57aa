/-
  Merged: Shelf, PtL, PtM, PtN, PtO, PtP, PtQ, PtR, PtS.
-/
import Derived.Shelf.Utf8.RuneCount
import Derived.Shelf.Strings.Search1
import Derived.Shelf.Strings.Search2
import Derived.Shelf.Strings.Search3
import Derived.Shelf.Strings.Count
import Derived.Shelf.LaysM
import Derived.Shelf.Strings.Shaped
import Derived.Shelf.GgClosure.StringsIndexFunc
import Derived.Ground.GgwProg
import Derived.Shelf.GgClosure.StringsIndexFuncTop
import Derived.Shelf.GgClosure.StringsRunes
import Derived.Shelf.Strings.Prefix
import Derived.Shelf.Strings.Split
import Derived.Shelf.Strings.SplitShaped
import Derived.Shelf.Unicode.Decode
import Derived.Shelf.Strings.RuneCount
import Derived.Shelf.Strings.Explode
import Derived.Shelf.Unicode.DecodeSlow
import Derived.Shelf.Unicode.DecodeAny
import Derived.Shelf.Strings.FuncGrows
import Derived.Test.YteimplkdcjapdaaGreatDoorProg
import Derived.Test.YteimplkdcjapdaaGreatDoorPuK
import Derived.Test.YteimplkdcjapdaaGreatDoorPuN
import Derived.Test.YteimplkdcjapdaaGreatDoorPuM
set_option linter.unusedSimpArgs false
set_option linter.unusedVariables false
set_option maxRecDepth 100000
namespace Go.Proofs
open Go.Shelf
def Tryz.lays219_ren:Go.Shelf.Ren:=⟨fun | 219=>167 | 217=>169 | 225=>170 | 224=>171 | 267=>172 | 266=>173 | 314=>174 | n=>n,fun | 9=>9 | 3=>3 | 4=>4 | 5=>5 | 46=>209 | 146=>215 | 51=>214 | n=>n,fun | 1=>1 | n=>n⟩
def Tryz.laysM219_ren:Go.Shelf.Ren:=⟨fun | 219=>167 | 217=>169 | 225=>170 | 224=>171 | 267=>172 | 266=>173 | 314=>174 | n=>n,fun | 9=>9 | 3=>3 | 4=>4 | 5=>5 | 46=>209 | 146=>215 | 51=>214 | n=>n,fun | 1=>1 | n=>n⟩
theorem Tryz.laysM219:Go.Proofs.LaysM.n219 Tryz.prog Tryz.laysM219_ren:={
 mixed:=by kernel_rfl
 f217:=Tryz.func169.trans (congrArg some (by kernel_rfl))
 f219:=Tryz.func167.trans (congrArg some (by kernel_rfl))
 f224:=Tryz.func171.trans (congrArg some (by kernel_rfl))
 f225:=Tryz.func170.trans (congrArg some (by kernel_rfl))
 f266:=Tryz.func173.trans (congrArg some (by kernel_rfl))
 f267:=Tryz.func172.trans (congrArg some (by kernel_rfl))
 f314:=Tryz.func174.trans (congrArg some (by kernel_rfl))
 t3:=Tryz.underlying3
 a3:=Tryz.isAgg3
 z3:=Tryz.sizeOf3
 v3:=Tryz.zeroValue3
 t4:=Tryz.underlying4
 a4:=Tryz.isAgg4
 z4:=Tryz.sizeOf4
 v4:=Tryz.zeroValue4
 t5:=Tryz.underlying5
 a5:=Tryz.isAgg5
 z5:=Tryz.sizeOf5
 v5:=Tryz.zeroValue5
 t9:=Tryz.underlying9
 a9:=Tryz.isAgg9
 z9:=Tryz.sizeOf9
 v9:=Tryz.zeroValue9
 t46:=Tryz.underlying209
 a46:=Tryz.isAgg209
 z46:=Tryz.sizeOf209
 v46:=Tryz.zeroValue209
 t51:=Tryz.underlying214
 a51:=Tryz.isAgg214
 z51:=Tryz.sizeOf214
 v51:=Tryz.zeroValue214
 t146:=Tryz.underlying215
 a146:=Tryz.isAgg215
 z146:=Tryz.sizeOf215
 v146:=Tryz.zeroValue215
 g1:=by kernel_rfl
 i3:=by kernel_rfl
 i4:=by kernel_rfl
 i5:=by kernel_rfl
 i9:=by kernel_rfl
 i46:=by kernel_rfl
 i51:=by kernel_rfl
 i146:=by kernel_rfl
 m1:=by kernel_rfl
 s1_3:=fun w h=>Go.Proofs.cell_of_shapedOpen_int (zero:=#[.int .i64 0]) (t:=3) h (of_decide_eq_true (by kernel_rfl)) (by kernel_rfl) rfl (by kernel_rfl) (by kernel_rfl) Tryz.underlying3 }
def Tryz.laysGw17_ren:Go.Shelf.Ren:=⟨fun | 17=>101 | 15=>127 | 20=>150 | n=>n,fun | 9=>9 | 23=>157 | 4=>4 | 3=>3 | 0=>0 | 21=>21 | n=>n,fun | n=>n⟩
theorem Tryz.laysGw17:Go.Proofs.LaysGw.n17 Tryz.prog Tryz.laysGw17_ren:={
 mixed:=by kernel_rfl
 f15:=Tryz.func127.trans (congrArg some (by kernel_rfl))
 f17:=Tryz.func101.trans (congrArg some (by kernel_rfl))
 f20:=Tryz.func150.trans (congrArg some (by kernel_rfl))
 t0:=Tryz.underlying0
 a0:=Tryz.isAgg0
 z0:=Tryz.sizeOf0
 v0:=Tryz.zeroValue0
 i0:=by kernel_rfl
 t3:=Tryz.underlying3
 a3:=Tryz.isAgg3
 z3:=Tryz.sizeOf3
 v3:=Tryz.zeroValue3
 i3:=by kernel_rfl
 t4:=Tryz.underlying4
 a4:=Tryz.isAgg4
 z4:=Tryz.sizeOf4
 v4:=Tryz.zeroValue4
 i4:=by kernel_rfl
 t9:=Tryz.underlying9
 a9:=Tryz.isAgg9
 z9:=Tryz.sizeOf9
 v9:=Tryz.zeroValue9
 i9:=by kernel_rfl
 t21:=Tryz.underlying21
 a21:=Tryz.isAgg21
 z21:=Tryz.sizeOf21
 v21:=Tryz.zeroValue21
 i21:=by kernel_rfl
 t23:=Tryz.underlying157
 a23:=Tryz.isAgg157
 z23:=Tryz.sizeOf157
 v23:=Tryz.zeroValue157
 i23:=by kernel_rfl }
open Go.RowKit Go.Lib in
theorem Tryz.strings_ContainsFunc (g:Nat) (lb:Array Value) (eg:∀args w,(callFunc g args).run Tryz.prog w=.ok (.enter g args) w) (p:Nat→Bool) (s:ByteArray) (w:World) (hp:PredAt Tryz.prog g lb encR p w) :
  Calls Tryz.prog 101 #[.string s,.func (.func g) #[] lb] w fun e w'=>e=.returned (.bool (decide (0≤Lib.idxFunc p true s)))∧Below w.heap.size w w':=Any.strings_ContainsFunc Tryz.laysGw17 g lb eg p s w hp
def Tryz.lays207_ren:Go.Shelf.Ren:=⟨fun | 207=>152 | n=>n,fun | 9=>9 | 4=>4 | 3=>3 | n=>n,fun | n=>n⟩
def Tryz.lays100_ren:Go.Shelf.Ren:=⟨fun | 100=>129 | 207=>152 | n=>n,fun | 9=>9 | 4=>4 | 3=>3 | n=>n,fun | n=>n⟩
theorem Tryz.lays100:Go.Proofs.Lays.n100 Tryz.prog Tryz.lays100_ren:={
 mixed:=by kernel_rfl
 f100:=Tryz.func129.trans (congrArg some (by kernel_rfl))
 f207:=Tryz.func152.trans (congrArg some (by kernel_rfl))
 t3:=Tryz.underlying3
 a3:=Tryz.isAgg3
 z3:=Tryz.sizeOf3
 v3:=Tryz.zeroValue3
 t4:=Tryz.underlying4
 a4:=Tryz.isAgg4
 z4:=Tryz.sizeOf4
 v4:=Tryz.zeroValue4
 t9:=Tryz.underlying9
 a9:=Tryz.isAgg9
 z9:=Tryz.sizeOf9
 v9:=Tryz.zeroValue9 }
open Go.RowKit Go.Lib in
theorem Tryz.strings_HasSuffix (s p:ByteArray) (w:World) (hs:s.size≤9223372036854775807) :
  Calls Tryz.prog 129 #[.string s,.string p] w fun e w'=>e=.returned (.bool (Lib.hasSuffix s.data.toList p.data.toList))∧w'=w:=Any.strings_HasSuffix Tryz.lays100 s p w hs
def Tryz.lays221_ren:Go.Shelf.Ren:=⟨fun | 221=>158 | 268=>161 | 138=>162 | 143=>163 | 195=>164 | 197=>165 | 218=>166 | 219=>167 | 260=>168 | 217=>169 | 225=>170 | 224=>171 | 267=>172 | 266=>173 | 314=>174 | n=>n,fun | 9=>9 | 3=>3 | 31=>95 | 4=>4 | 0=>0 | 105=>206 | 21=>21 | 5=>5 | 46=>209 | 119=>210 | 139=>213 | 138=>212 | 146=>215 | 51=>214 | n=>n,fun | 1=>1 | 3=>2 | 4=>3 | n=>n⟩
def Tryz.lays146_ren:Go.Shelf.Ren:=⟨fun | 146=>151 | 221=>158 | 268=>161 | 138=>162 | 143=>163 | 195=>164 | 197=>165 | 218=>166 | 219=>167 | 260=>168 | 217=>169 | 225=>170 | 224=>171 | 267=>172 | 266=>173 | 314=>174 | n=>n,fun | 9=>9 | 31=>95 | 3=>3 | 4=>4 | 0=>0 | 105=>206 | 21=>21 | 5=>5 | 46=>209 | 119=>210 | 139=>213 | 138=>212 | 146=>215 | 51=>214 | n=>n,fun | 1=>1 | 3=>2 | 4=>3 | n=>n⟩
theorem Tryz.lays146:Go.Proofs.Lays.n146 Tryz.prog Tryz.lays146_ren:={
 mixed:=by kernel_rfl
 f138:=Tryz.func162.trans (congrArg some (by kernel_rfl))
 f143:=Tryz.func163.trans (congrArg some (by kernel_rfl))
 f146:=Tryz.func151.trans (congrArg some (by kernel_rfl))
 f195:=Tryz.func164.trans (congrArg some (by kernel_rfl))
 f197:=Tryz.func165.trans (congrArg some (by kernel_rfl))
 f217:=Tryz.func169.trans (congrArg some (by kernel_rfl))
 f218:=Tryz.func166.trans (congrArg some (by kernel_rfl))
 f219:=Tryz.func167.trans (congrArg some (by kernel_rfl))
 f221:=Tryz.func158.trans (congrArg some (by kernel_rfl))
 f224:=Tryz.func171.trans (congrArg some (by kernel_rfl))
 f225:=Tryz.func170.trans (congrArg some (by kernel_rfl))
 f260:=Tryz.func168.trans (congrArg some (by kernel_rfl))
 f266:=Tryz.func173.trans (congrArg some (by kernel_rfl))
 f267:=Tryz.func172.trans (congrArg some (by kernel_rfl))
 f268:=Tryz.func161.trans (congrArg some (by kernel_rfl))
 f314:=Tryz.func174.trans (congrArg some (by kernel_rfl))
 t0:=Tryz.underlying0
 a0:=Tryz.isAgg0
 z0:=Tryz.sizeOf0
 v0:=Tryz.zeroValue0
 t3:=Tryz.underlying3
 a3:=Tryz.isAgg3
 z3:=Tryz.sizeOf3
 v3:=Tryz.zeroValue3
 t4:=Tryz.underlying4
 a4:=Tryz.isAgg4
 z4:=Tryz.sizeOf4
 v4:=Tryz.zeroValue4
 t5:=Tryz.underlying5
 a5:=Tryz.isAgg5
 z5:=Tryz.sizeOf5
 v5:=Tryz.zeroValue5
 t9:=Tryz.underlying9
 a9:=Tryz.isAgg9
 z9:=Tryz.sizeOf9
 v9:=Tryz.zeroValue9
 t21:=Tryz.underlying21
 a21:=Tryz.isAgg21
 z21:=Tryz.sizeOf21
 v21:=Tryz.zeroValue21
 t31:=Tryz.underlying95
 a31:=Tryz.isAgg95
 z31:=Tryz.sizeOf95
 v31:=Tryz.zeroValue95
 t46:=Tryz.underlying209
 a46:=Tryz.isAgg209
 z46:=Tryz.sizeOf209
 v46:=Tryz.zeroValue209
 t51:=Tryz.underlying214
 a51:=Tryz.isAgg214
 z51:=Tryz.sizeOf214
 v51:=Tryz.zeroValue214
 t105:=Tryz.underlying206
 a105:=Tryz.isAgg206
 z105:=Tryz.sizeOf206
 v105:=Tryz.zeroValue206
 t119:=Tryz.underlying210
 a119:=Tryz.isAgg210
 z119:=Tryz.sizeOf210
 t138:=Tryz.underlying212
 a138:=Tryz.isAgg212
 z138:=Tryz.sizeOf212
 v138:=Tryz.zeroValue212
 t139:=Tryz.underlying213
 a139:=Tryz.isAgg213
 z139:=Tryz.sizeOf213
 v139:=Tryz.zeroValue213
 t146:=Tryz.underlying215
 a146:=Tryz.isAgg215
 z146:=Tryz.sizeOf215
 v146:=Tryz.zeroValue215
 g1:=by kernel_rfl
 g3:=by kernel_rfl
 g4:=by kernel_rfl }
open Go.RowKit Go.Lib in
theorem Tryz.strings_Split (s sep:ByteArray) (m:Int) (w:World) (hs:s.size<4294967281) (hm:w.cell? ⟨1,0,none⟩=some (.int .i64 m)) (h1:1≤sep.size) :
  Calls Tryz.prog 151 #[.string s,.string sep] w fun e w' =>
   e=.returned (.slice (some ⟨w.heap.size,0,none⟩) (Lib.countB s sep+1) (Lib.countB s sep+1))∧w'=w.alloc (.cells ((Lib.splitB sep 0 (Lib.countB s sep) s).map Value.string).toArray 9):=Any.strings_Split Tryz.lays146 (by kernel_rfl) s sep m w hs hm h1
end Go.Proofs
namespace Go.Proofs.YteimplkdcjapdaaGreatDoor
open Go.RowKit Go.Shelf
theorem z_hp {K:Kit} {F F':Fact} {bs rs:List Nat} {n m:Nat} {p:OPred} (h:F.o n=p) (h':F'.o m=p):∀(β:Loc) (a:Act) (W:World),(Atom.hp bs rs n).ok K F β a W→(Atom.hp bs rs m).ok K F' β a W:=fun β a W k=>⟨by rw [h',← h];exact k.1,k.2⟩
def cFm (f:Frmt):List Pred:=[pI f.1,pI f.2.1,pS f.2.2.1,pI f.2.2.2]
theorem ziE {w0:World} (f:Frmt):FineAll (KN w0) (cFm f):=⟨zb,zb,zb,zb,trivial⟩
def cSs (s:List UInt8):List Pred:=[pS s]
theorem znu {w0:World} (s:List UInt8):FineAll (KN w0) (cSs s):=⟨zb,trivial⟩
structure LibP (w0:World):Prop where
 max:∃m,w0.cell? ⟨1,0,none⟩=some (.int .i64 m)
 fms:pLs cFm zg (.slice (some ⟨0,0,none⟩) 7 7) w0 fun q=>q<w0.heap.size
theorem zfM {w0 W:World} {D:Dat} (hL:LibP w0) (hb:Below w0.heap.size w0 W) (hD:∀q,q<w0.heap.size→D q):pLs cFm zg (.slice (some ⟨0,0,none⟩) 7 7) W D:=by
 rcases hL.fms with ⟨_,h2,_⟩ | ⟨q,o,c,T,cs,fz,e,hq,hh,hk,hn⟩
 ·cases h2
 ·exact .inr ⟨q,o,c,T,cs,fz,e,hD q hq,(hb.block q hq).trans hh,zaz (K:=KN w0) (S:=fun _=>False) (fun _ h=>h.elim) (⟨hb.os,hb.tape,hb.output,hb.size,fun k hk _=>hb.block k hk⟩) (fun q hq=>hD q hq) (FineAll.of fun p hp=>by
   obtain ⟨x,_,h⟩:=List.mem_flatMap.1 hp
   exact (ziE x).mem p h) hk,hn⟩
theorem e_scF {w0:World} (hL:LibP w0) {F:Fact} {T E:TypeId} {o:Lf} (hT:Tryz.prog.underlying T=some (.array 7 E)) (hz:szOf Tryz.prog E=some 4) (ho:Says F o (pLs cFm zg)):(Ent.op (.sc T false false false) [LF (.k (.pointer (some ⟨0,0,none⟩)))] [] (LF o)).sound (KN w0) Tryz.prog F:=by
 intro β W vs hs _ hg
 match vs,hs with
 | [v],⟨h1,_⟩ =>
  have hv:v=.pointer (some ⟨0,0,none⟩):=h1
  subst hv
  refine ⟨.slice (some ⟨0,0,none⟩) 7 7,?_,(ho β _ W).2 (zfM hL hg.bel hg.low)⟩
  simp [Sig.sem,Instr.sliceAt,Instr.sureAddr,Instr.sliceBounds,Instr.sliceBound,run_underlying hT,qn hz,Addr.add]
 | [],h=>exact h.elim
 | _::_::_,h=>exact h.2.elim
theorem e_iaF {w0:World} (hL:LibP w0) {F:Fact} {T E:TypeId} {y o:Lf} {i:Int} {j:Nat} {f:Frmt} (hT:Tryz.prog.underlying T=some (.array 7 E)) (hz:szOf Tryz.prog E=some 4) (hy:Gives F y (.int .i64 i)) (hi:i=(j:Int)) (hf:zg[j]?=some f) (ho:Says F o (pP (cFm f))):(Ent.op (.ia T) [LF (.k (.pointer (some ⟨0,0,none⟩))),LF y] [] (LF o)).sound (KN w0) Tryz.prog F:=by
 subst hi
 intro β W vs hs _ hg
 match vs,hs with
 | [v,v2],⟨h1,h2,_⟩ =>
  have hv:v=.pointer (some ⟨0,0,none⟩):=h1
  subst hv
  have e2:v2=.int .i64 (j:Int):=(hy β v2 W).1 h2
  subst e2
  have hj:j<7:=(List.getElem?_eq_some_iff.1 hf).1
  rcases zfM hL hg.bel hg.low with ⟨_,h2,_⟩ | ⟨q,p,c,U,cs,fz,e,hD,hh,hc,hn⟩
  ·cases h2
  ·obtain ⟨us,rs,e1,e2⟩:=zgY (c:=cFm) (z:=4) (fun _=>rfl) hf
   simp only [Value.slice.injEq,Option.some.injEq,Addr.mk.injEq] at e
   obtain ⟨⟨rfl,rfl,-⟩,-,rfl⟩:=e
   refine ⟨.pointer (some ⟨0,0+j*4,none⟩),?_,(ho β _ W).2 ⟨_,0+j*4,U,cs,fz,rfl,hD,hh,?_⟩⟩
   ·simp only [Sig.sem,Instr.indexAt,Sem.run_bind,asIntOf,run_underlying hT,Result.andThen_ok,Sem.run_pure,Instr.sureAddr]
    rw [if_pos ⟨Int.natCast_nonneg j,by omega⟩,Sem.run_bind,qn hz,Result.andThen_ok,Int.toNat_natCast,qW];rfl
   ·rw [e1] at hc
    have:=(qm (qm hc).2).1
    rw [e2,List.drop_drop] at this
    exact this
 | [],h=>exact h.elim
 | [_],h=>exact h.2.elim
 | _::_::_::_,h=>exact h.2.2.elim
theorem zsp {w0:World} (s p:List UInt8) (o:Bool) (ho:Lib.hasSuffix s p=o) (hs:s.length≤1000000):Fun (KN w0) Tryz.prog 129 [.o (.c (pS s)),.o (.c (pS p))] (.o (.c (pB o))):=by
 subst ho
 intro W D vs hv hf
 match vs,hv with
 | [v,u],⟨h1,h2,_⟩ =>
  obtain rfl:v=.string ⟨s.toArray⟩:=h1
  obtain rfl:u=.string ⟨p.toArray⟩:=h2
  refine (Tryz.strings_HasSuffix ⟨s.toArray⟩ ⟨p.toArray⟩ W (by simp [ByteArray.size];omega)).mono fun e W' hr=>?_
  obtain ⟨rfl,rfl⟩:=hr
  exact ⟨_,D,rfl,rfl,Kept.refl hf⟩
 | [],h=>exact h.elim
 | [_],h=>exact h.2.elim
 | _::_::_::_,h=>exact h.2.2.elim
theorem zi5 (W:World) (D:Dat):∀l:List (List UInt8),okp (l.flatMap cSs) (l.map fun s=>Value.string ⟨s.toArray⟩) W D
 | []=>trivial
 | s::l=>⟨rfl,zi5 W D l⟩
theorem zhH:∀f∈zg,Lib.splitB ⟨#[44]⟩ 0 (Lib.countB ⟨f.2.2.1.toArray⟩ ⟨#[44]⟩) ⟨f.2.2.1.toArray⟩=(zbf f.2.2.1).map (fun s=>⟨s.toArray⟩)∧Lib.countB ⟨f.2.2.1.toArray⟩ ⟨#[44]⟩+1=(zbf f.2.2.1).length:=by
 intro f hf
 simp only [zg,List.mem_cons,List.not_mem_nil,or_false] at hf
 rcases hf with rfl | rfl | rfl | rfl | rfl | rfl | rfl<;>exact ⟨by kernel_rfl,by kernel_rfl⟩
theorem zfL:∀f∈zg,f.2.2.1.length≤100:=by decide
theorem zre {w0:World} (hL:LibP w0) (s p:List UInt8) (r:List (List UInt8)) (hr:zbf s=r) (hs:p=[44]∧∃f∈zg,f.2.2.1=s):Fun (KN w0) Tryz.prog 151 [.o (.c (pS s)),.o (.c (pS p))] (.o (.c (pLs cSs r))):=by
 obtain ⟨rfl,f,hf,rfl⟩:=hs
 subst hr
 obtain ⟨e1,e2⟩:=zhH f hf
 have hl:=zfL f hf
 obtain ⟨m,hm⟩:=hL.max
 intro W D vs hv hfit
 match vs,hv with
 | [v,u],⟨h1,h2,_⟩ =>
  obtain rfl:v=.string ⟨f.2.2.1.toArray⟩:=h1
  obtain rfl:u=.string ⟨#[44]⟩:=h2
  have hg:1<w0.heap.size:=by
   rcases Nat.lt_or_ge 1 w0.heap.size with h | h
   ·exact h
   ·simp [World.cell?,Array.getElem?_eq_none h] at hm
  have hm2:=(hfit.bel.cell (p:=⟨1,0,none⟩) hg).trans hm
  refine (Tryz.strings_Split ⟨f.2.2.1.toArray⟩ ⟨#[44]⟩ m W (by simp [ByteArray.size];omega) hm2 (by decide)).mono fun e W' hr=>?_
  obtain ⟨rfl,rfl⟩:=hr
  rw [e1,e2]
  have hb:Below W.heap.size W (W.alloc (.cells (((zbf f.2.2.1).map fun s=>(⟨s.toArray⟩:ByteArray)).map Value.string).toArray 9)):=Below.alloc (Below.refl _ _) (Nat.le_refl _) _
  refine ⟨_,fun q=>D q∨q=W.heap.size,rfl,.inr ⟨W.heap.size,0,_,9,_,(0,0),rfl,.inr rfl,heap_alloc_new _ _,?_,Nat.le_refl _⟩,⟨hb,fun _ h=>.inl h,fun q h=>h.imp id fun e=>by omega,?_⟩⟩
  ·rw [List.drop_zero,List.map_map]
   exact zi5 _ _ _
  ·rintro q (h | rfl)
   ·have:=hfit.dlt q h;rw [World.size_alloc];omega
   ·rw [World.size_alloc];omega
 | [],h=>exact h.elim
 | [_],h=>exact h.2.elim
 | _::_::_::_,h=>exact h.2.2.elim
def kFm (x:Frmt):List SV:=[sI x.1,sI x.2.1,sS x.2.2.1,sI x.2.2.2]
instance {w0:World} {x:Frmt}:FiL (KN w0) (kFm x):=inferInstanceAs (FiL (KN w0) [_,_,_,_])
instance {w0:World} {xs:List Frmt}:Fi (KN w0) (.ls 4 cFm kFm xs):=fi_ls (fun _=>rfl) (fun _=>inferInstance) (fun _=>rfl)
instance {w0:World} {xs:List Frmt}:FiP (KN w0) (pG cFm xs):=⟨qc (ziE)⟩
def kSs (x:List UInt8):List SV:=[sS x]
instance {w0:World} {x:List UInt8}:FiL (KN w0) (kSs x):=inferInstanceAs (FiL (KN w0) [_])
instance {w0:World} {xs:List (List UInt8)}:Fi (KN w0) (.ls 1 cSs kSs xs):=fi_ls (fun _=>rfl) (fun _=>inferInstance) (fun _=>rfl)
instance {w0:World} {xs:List (List UInt8)}:FiP (KN w0) (pG cSs xs):=⟨qc (znu)⟩
end Go.Proofs.YteimplkdcjapdaaGreatDoor
namespace Go.Proofs.YteimplkdcjapdaaGreatDoor
open Go.RowKit Go.Shelf Go.Lib
theorem zlx (w:World):PredAt Tryz.prog 100 #[] encR oddR w:=fun W r _=>by
 unfold FnGives
 by_cases h1:r<97<;>by_cases h2:r > 122<;>by_cases h3:r<48<;>by_cases h4:r > 57
 all_goals
  have z1:(r:Int)<97↔r<97:=by omega
  have z2:(r:Int) > 122↔r > 122:=by omega
  have z3:(r:Int)<48↔r<48:=by omega
  have z4:(r:Int) > 57↔r > 57:=by omega
  go_enter Tryz.func100,Tryz.ntmps100
  go_wp2
  all_goals first | (exfalso;omega) | (go_ret;exact ⟨by simp [oddR,h1,h2,h3,h4],0,rfl⟩)
theorem zpJ {w0:World} (s:List UInt8) (o:Bool) (ho:nameB s=o):Fun (KN w0) Tryz.prog 73 [.o (.c (pS s))] (.o (.c (pB o))):=by
 subst ho
 intro W D vs hv hf
 match vs,hv with
 | [v],⟨h1,_⟩ =>
  obtain rfl:v=.string ⟨s.toArray⟩:=h1
  have hC:=fun W=>Tryz.strings_ContainsFunc 100 #[] (enters_of Tryz.func100 (by kernel_rfl) rfl) oddR ⟨s.toArray⟩ W (zlx W)
  rw [zqm] at hC
  by_cases he:s=[]
  ·subst he
   go_enter Tryz.func73,Tryz.ntmps73
   go_wp2
   go_ret
   exact ⟨_,D,rfl,rfl,Kept.refl hf⟩
  ·have he2:((⟨s.toArray⟩:ByteArray) == ⟨#[]⟩)=false:=by
    cases s with
    | nil=>exact absurd rfl he
    | cons b r=>rfl
   by_cases hl:s.length≤12
   ·go_enter Tryz.func73,Tryz.ntmps73
    go_wp2_with (go_at_call 101;refine (hC _).mono ?_;rintro e w' ⟨rfl,hb⟩)
    go_ret
    refine ⟨_,D,rfl,?_,⟨hb,fun _ h=>h,fun _ h=>.inl h,fun q hq=>Nat.lt_of_lt_of_le (hf.dlt q hq) hb.size⟩⟩
    have e:nameB s=(!s.isEmpty && s.all fun b=>!oddR b.toNat):=by
     cases s with
     | nil=>exact absurd rfl he
     | cons b r=>unfold nameB;rw [decide_eq_true hl,Bool.true_and];rfl
    rw [e];rfl
   ·go_enter Tryz.func73,Tryz.ntmps73
    go_wp2
    go_ret
    have e:nameB s=false:=by unfold nameB;simp [hl]
    rw [e]
    exact ⟨_,rfl,D,rfl,Kept.refl hf⟩
 | [],h=>exact h.elim
 | _::_::_,h=>exact h.2.elim
end Go.Proofs.YteimplkdcjapdaaGreatDoor
namespace Go.Proofs.YteimplkdcjapdaaGreatDoor
open Go.RowKit Go.Shelf
theorem zjD (p:Addr) (w:World) :
  CallsD Tryz.prog 99 #[.pointer (some p)] .returning w fun e u' w'=>e=.returned (.tuple #[])∧u'=.returning∧w'=w:=by
 refine callsD_of_wpS Tryz.func99 rfl fun c₀ cs hu=>?_
 apply wpS_seq
 apply wpS_region
 simp [wpOpsS,go_sem,recoverD,hu,Tryz.ntmps99,Exit.thenS]
 refine wpS_of_wp ?_
 simp only [Array.replicate_succ,Array.replicate_zero,List.push_toArray,List.append_toArray,List.nil_append,List.cons_append,List.setIfInBounds_toArray,List.set_cons_succ,List.set_cons_zero]
 go_wp2
 cases c₀
 simp_all [bodyPostS,results,Tryz.results99]
theorem znx {w0:World} {g:FuncId} {caps:List (Nat×Nat)} {pre post:List (TypeId×List ALf)} (he:∀args w,(callFunc g args).run Tryz.prog w=.ok (.enter g args) w)
  (h:BFun false (KN w0) Tryz.prog g (caps.map fun x=>.o (.c (.p x.1 x.2))) pre (.t []) post) (hf:FinX (KN w0) pre) (hg:FinX (KN w0) post) :
  BFun false (KN w0) Tryz.prog 70 [.o (.c (.q g caps))] pre (.o (.c (.d (pV (.int .i64 0))))) post:=by
 intro W D vs qs hnd ha hpre hfit
 match vs,ha with
 | [v],⟨⟨cs,hv,hpts⟩,_⟩ =>
  subst hv
  have hmf:∀(fn:Fn) (first cap:Array Value) (w:World),(Instr.makeFunc fn first cap).run Tryz.prog w=.ok (.func fn first cap) w:=fun _ _ _ _=>rfl
  go_enter_defers Tryz.func70,Tryz.ntmps70
  go_wp2
  have hN:W.heap.size ∉ qs:=fun hm=>Nat.lt_irrefl _ (qT hpre _ hm).2.2
  have hND:¬ D W.heap.size:=fun hm=>Nat.lt_irrefl _ (hfit.dlt _ hm)
  have hO1:Oth (fun _=>False) W (W.alloc (.cells #[.int .i64 0] 37)):=zi8 ((Below.refl _ W).alloc (Nat.le_refl _) _)
  have hsz:(W.alloc (.cells #[.int .i64 0] 37)).heap.size=W.heap.size+1:=by simp
  have hpre1:=zfU (K:=KN w0) (fun q h=>h.elim) hO1 (fun q h=>h) hf (fun q hq=>⟨fun h=>h,(qT hpre q hq).2.1⟩) hpre
  refine (h _ D cs.toList qs hnd (zcF hpts) hpre1 ⟨hfit.bel.trans ((hO1.below fun _ h=>h.elim).mono hfit.bel.size),fun q hq=>by rw [hsz];exact Nat.lt_succ_of_lt (hfit.dlt q hq),hfit.low⟩).mono ?_
  rintro e W2 ⟨v,D2,rfl,hv,hpost,hk⟩
  obtain ⟨vs2,rfl,hv2⟩:=hv
  have hE:W2.heap[W.heap.size]?=some (.cells #[.int .i64 0] 37 (0,0)):=by
   rw [hk.oth.block _ (by rw [hsz];exact Nat.lt_succ_self _) hN,World.alloc];simp
  have hcell:W2.cell? ⟨W.heap.size,0,none⟩=some (.int .i64 0):=by rw [zq hE];rfl
  have hfr:W2.frozen? ⟨W.heap.size,0,none⟩=false:=by unfold World.frozen?;rw [hE];simp
  simp only [endOf,Bool.false_eq_true,if_false]
  go_wp2
  refine leaves_cons (f:=99) (args:=#[.pointer (some ⟨W.heap.size,0,none⟩)]) (by simp) (by simp [go_sem]) ?_
  refine (zjD ⟨W.heap.size,0,none⟩ _).mono ?_
  rintro e u' w'' ⟨rfl,rfl,rfl⟩
  have hE3:=Lib.heap_setCell_same (i:=0) hE (.int .i64 0)
  have hc3:(W2.setCell ⟨W.heap.size,0,none⟩ (.int .i64 0)).cell? ⟨W.heap.size,0,none⟩=some (.int .i64 0):=by rw [zq hE3];rfl
  have hO3:Oth (fun q=>q=W.heap.size) W2 (W2.setCell ⟨W.heap.size,0,none⟩ (.int .i64 0)):=⟨rfl,rfl,rfl,by simp [World.setCell],fun q hq hne=>heap_setCell_other _ _ _ _ hne⟩
  have fin:=zcY hN hND hfit hO1 hsz hE hO3 hg hpost hk
  simp [Leaves,settle,results,Tryz.results70,go_sem,hc3]
  exact ⟨_,rfl,D2,rfl,fin⟩
end Go.Proofs.YteimplkdcjapdaaGreatDoor
namespace Go.Proofs.YteimplkdcjapdaaGreatDoor
open Go.RowKit
def zmx:Tr:=.s [(4,.call 151 [2,LF (.k (.string ⟨#[44]⟩))] (.o .c))] (.z (.ret false (4) []))
theorem zrb {w0:World} (hL:LibP w0) (f:Frmt) (r:List (List UInt8)) (hr:zbf f.2.2.1=r) (hf:f∈zg):Fun (KN w0) Tryz.prog 128 [.o (.g [pI f.1,pI f.2.1,pS f.2.2.1,pI f.2.2.2])] (.o (.c (pLs cSs r))):=by
 refine tfn w0 128 ⟨[.o (.g [0,1,2,3])],[],[],0,0⟩ ⟨4,[sI f.2.2.2,sS f.2.2.1,sI f.2.1,sI f.1],[],[]⟩ zmx (by kernel_rfl) ?_
 obtain ⟨v1,e1⟩:=LX (zbf f.2.2.1)
 have s2:([44]:List UInt8)=[44]∧∃g∈zg,g.2.2.1=f.2.2.1:=by exact ⟨rfl,f,hf,rfl⟩
 refine cx (.o (.c (.ls 1 cSs kSs v1))) (zre hL f.2.2.1 [44] v1 e1 s2) rfl ?_
 intro hc
 refine Fun.fin (r:=.o (.c (pLs cSs v1))) (zc (hc)) (fun v W D h=>?_)
 have r0:r=v1:=by
  rw [← hr];simp_all
 rw [r0];exact h
theorem zhh:∀f∈zg,Lib.hasSuffix f.2.2.1 [61]=zaf f:=by decide
def zmu:Tr:=.s [(4,.call 129 [2,LF (.k (.string ⟨#[61]⟩))] (.o .c))] (.z (.ret false (4) []))
theorem zhR {w0:World} (f:Frmt) (r:Bool) (hr:zaf f=r) (hf:f∈zg):Fun (KN w0) Tryz.prog 105 [.o (.g [pI f.1,pI f.2.1,pS f.2.2.1,pI f.2.2.2])] (.o (.c (pB r))):=by
 refine tfn w0 105 ⟨[.o (.g [0,1,2,3])],[],[],0,0⟩ ⟨4,[sI f.2.2.2,sS f.2.2.1,sI f.2.1,sI f.1],[],[]⟩ zmu (by kernel_rfl) ?_
 obtain ⟨v1,e1⟩:=LX (Lib.hasSuffix f.2.2.1 [61])
 have s2:f.2.2.1.length≤1000000:=by (have q:=zfL f hf;omega)
 refine cx (.o (.c (sB v1))) (zsp f.2.2.1 [61] v1 e1 s2) rfl ?_
 intro hc
 refine Fun.fin (r:=.o (.c (pB v1))) (zc (hc)) (fun v W D h=>?_)
 have r0:r=v1:=by
  have q:=zhh f hf;simp_all
 rw [r0];exact h
theorem zir {l:List (List UInt8)} {n:Nat} {x:List UInt8} (h:l[n]?=some x):(l.take (n+1)).countP (· == [])=(l.take n).countP (· == [])+if x == [] then 1 else 0:=by
 rw [List.take_add_one,h,List.countP_append]
 cases x<;>rfl
theorem zg1:∀f∈zg,(zbf f.2.2.1).length≤100:=by decide
def zhc:List Atom:=[.sl 2 (.o (.c (.k (.int .i64 0)))),.sl 3 7,.sl 7 4,.sl 8 5,.sl 9 6,.bx 0 162 [.h 0,.h 1,.h 2,.h 3]]
def mnA_S:LoopS:=⟨3,zhc.map (tnA (jf (hZ 6 [kI 0,kI 0])) (kf []) (kf [])),(.x 0),(drs [4] zhc).map (tnA (jf (hZ 7 [6])) (kf []) (kf []))⟩
def mnA_t:Tr:=.s [(5000,.bin .lss 3 6 5)] (.b 8 (.s [(5001,.ia 95 9 1 4 6),(5002,.ld 9 0 9),(5005,.bin .eql 9 10 (.k (.string ⟨#[]⟩)))] (.b 11 (.s [(5007,.bin .add 3 7 (kI 1)),(5009,.bin .add 3 6 (kI 1))] (.z (.nx (hZ 6 [13,12]) [] []))) (.s [(5006,.bin .add 3 6 (kI 1))] (.z (.nx (hZ 6 [12,7]) [] []))))) (.z (.xt (.x 0) (hZ 6 [7]) [] [])))
theorem zrQ {w0:World} (f:Frmt) (v1:(List (List UInt8))) (v3:Int) (c2:Int) (hb:v1.length≤100) (hv:(v1.length:Int)=v3) (hO:c2=((v1.countP (· == []):Nat):Int)):LpH (KN w0) Tryz.prog 104 ⟨ntOf Tryz.prog 104,[],[]⟩ mnA_S 0 ⟨7,[sI c2,sI v3,.ls 1 cSs kSs v1,sI f.2.2.2,sS f.2.2.1,sI f.2.1,sI f.1],[],[]⟩:=by
 refine zi _ ⟨zhc,mnA_S,(8,0,0),(7,0,0),5000⟩ (T:=Int×Int) (fun t=>⟨8,[sI t.2,sI t.1,sI v3,.ls 1 cSs kSs v1,sI f.2.2.2,sS f.2.2.1,sI f.2.1,sI f.1],[],[]⟩) (fun (i,c)=>∃k:Nat,i=(k:Int)∧k≤v1.length∧c=(((v1.take k).countP (· == []):Nat):Int)) (fun (i,c)=>(v3 - i).toNat) ((0:Int),(0:Int)) (hZ 6 [kI 0,kI 0]) [] [] mnA_t mixed ⟨0,rfl,Nat.zero_le _,rfl⟩ rfl rfl rfl rfl (fun _=>rfl) rfl rfl (by kernel_rfl) ?_
 rintro ⟨i,c⟩ hJ
 dsimp only at hJ ⊢
 obtain ⟨k,hi,hk,hc⟩:=hJ
 have hcl:=List.countP_le_length (p:=(· == [])) (l:=v1.take k)
 rw [List.length_take] at hcl
 intro v501 e501
 refine ai (fun h502=>?_) fun h502=>?_
 ·
  refine ai (by (have dh502:=LD e501 h502;have hlt:k<v1.length:=(by omega);exact ⟨k,_,hi,List.getElem?_eq_getElem hlt⟩)) fun n503 x504 s505 s506=>?_
  intro v507 e507
  refine ai (fun h508=>?_) fun h508=>?_
  ·
   intro v509 e509 v510 e510
   refine nxl (v510,v509) ?_ ?_ rfl
   all_goals (have dh502:=LD e501 h502;have dh508:=eq_of_beq (e507.trans h508);have hkn:n503=k:=(by omega);subst hkn;have hlt:=(List.getElem?_eq_some_iff.1 s506).1;have hs:=zir s506;have hx:(x504 == [])=true:=e507.trans h508;rw [hx] at hs;have x3:v510=((n503+1:Nat):Int):=(by rw [← e510,hi,wri (by omega)];omega);have hc1:v509=c+1:=(by rw [← e509,wri (by omega)]))
   ·show (v3 - v510).toNat<(v3 - i).toNat
    omega
   ·refine ⟨n503+1,x3,by omega,?_⟩
    rw [hs];simp only [if_true,Bool.false_eq_true,if_false];omega
  ·
   intro v509 e509
   refine nxl (v509,c) ?_ ?_ rfl
   all_goals (have dh502:=LD e501 h502;have dh508:=ne_of_beq_false (e507.trans h508);have hkn:n503=k:=(by omega);subst hkn;have hlt:=(List.getElem?_eq_some_iff.1 s506).1;have hs:=zir s506;have hx:(x504 == [])=false:=e507.trans h508;rw [hx] at hs;have x3:v509=((n503+1:Nat):Int):=(by rw [← e509,hi,wri (by omega)];omega);have hc1:c=c+0:=(by omega))
   ·show (v3 - v509).toNat<(v3 - i).toNat
    omega
   ·refine ⟨n503+1,x3,by omega,?_⟩
    rw [hs];simp only [if_true,Bool.false_eq_true,if_false];omega
 ·
  have hq:((c)=c2)∧True:=by
   refine ⟨?_,trivial⟩
   (have dh502:=LE e501 h502;have hkl:k=v1.length:=(by omega);rw [hkl,List.take_length] at hc;exact hc.trans hO.symm)
  obtain ⟨q0,-⟩:=hq
  rw [← q0]
  rfl
def zoo:Tr:=.s [(4,.call 128 [.o (.g [0,1,2,3])] (.o .c)),(5,.ln 95 3 4),(0,.lp mnA_S 0 1)] (.z (.ret false (6) []))
theorem zpI {w0:World} (hL:LibP w0) (f:Frmt) (r:Int) (hr:manyF f=r) (hf:f∈zg):Fun (KN w0) Tryz.prog 104 [.o (.g [pI f.1,pI f.2.1,pS f.2.2.1,pI f.2.2.2])] (.o (.c (pI r))):=by
 refine tfn w0 104 ⟨[.o (.g [0,1,2,3])],[],[],0,0⟩ ⟨4,[sI f.2.2.2,sS f.2.2.1,sI f.2.1,sI f.1],[],[]⟩ zoo (by kernel_rfl) ?_
 obtain ⟨v1,e1⟩:=LX (zbf f.2.2.1)
 have s2:f∈zg:=by exact hf
 refine cx (.o (.c (.ls 1 cSs kSs v1))) (zrb hL f v1 e1 s2) rfl ?_
 intro v3 e3
 obtain ⟨c2,hO_mnA⟩:∃(c2:Int),c2=((v1.countP (· == []):Nat):Int):=⟨_,rfl⟩
 refine rx [sI c2] [] [] (zrQ f v1 v3  c2  (by rw [← e1];exact zg1 f hf) e3 hO_mnA) ?_
 intro hc
 refine Fun.fin (r:=.o (.c (pI c2))) (zc (hc)) (fun v W D h=>?_)
 have r0:r=c2:=by
  rw [← hr,hO_mnA,← e1];rfl
 rw [r0];exact h
def ql (s:Stm):Nat→List Frmt→Int
 | _,[]=>-1
 | k,f::r=>if zae s f then (k:Int) else ql s (k+1) r
theorem zeF {s:Stm} {n:Nat} {x:Frmt} (h:zg[n]?=some x):ql s n (zg.drop n)=if zae s x then (n:Int) else ql s (n+1) (zg.drop (n+1)):=by
 obtain ⟨hk,rfl⟩:=List.getElem?_eq_some_iff.1 h
 rw [List.drop_eq_getElem_cons hk,ql]
def zq2:Tr:=.s [(6,.bin .eql 3 0 4)] (.b 8 (.s [(12,.bin .eql 3 1 5)] (.z (.ret false (9) [.bx 900 62 [.h 4,.h 5,.h 6,.h 7]]))) (.z (.ret false (LF (kB false)) [.bx 900 62 [.h 4,.h 5,.h 6,.h 7]])))
theorem t_isf {w0:World} (f:Frmt) (s:Stm) (r:Bool) (hr:zae s f=r):BFun false (KN w0) Tryz.prog 103 [.o (.g [.d (pI f.1),.d (pI f.2.1),.d (pS f.2.2.1),.d (pI f.2.2.2)]),.o (.c (.p 0 0))] [(62,[.d (pI s.1),.d (pI s.2.1),.d (pS s.2.2.1),.d (pLs cE s.2.2.2)])] (.o (.c (.d (pB r)))) [(62,[.d (pI s.1),.d (pI s.2.1),.d (pS s.2.2.1),.d (pLs cE s.2.2.2)])]:=by
 refine tfn w0 103 ⟨[.o (.g [0,1,2,3]),LF (.p 900 0)],[.bx 900 62 [.h 4,.h 5,.h 6,.h 7]],[],0,0⟩ ⟨8,[.ls 3 cE kE s.2.2.2,sS s.2.2.1,sI s.2.1,sI s.1,sI f.2.2.2,sS f.2.2.1,sI f.2.1,sI f.1],[],[]⟩ zq2 (by kernel_rfl) ?_
 intro v1 e1
 refine ai (fun h2=>?_) fun h2=>?_
 ·
  intro v3 e3
  intro hc
  have r0:r=v3:=by
   rw [← hr];unfold zae;simp_all
  rw [r0];exact con_b (pan:=false) (hc)
 ·
  intro hc
  have r0:r=false:=by
   rw [← hr];unfold zae;simp_all
  rw [r0];exact con_b (pan:=false) (hc)
def zbB:List Atom:=[.sl 0 0,.sl 1 (.o (.c (.q 103 [(900,0)]))),.sl 7 5,.sl 8 6,.bx 900 62 [.h 1,.h 2,.h 3,.h 4]]
def zdy:LoopS:=⟨2,zbB.map (tnA (jf (hZ 6 [kI 0])) (kf []) (kf [])),(.x 0),(drs [3] zbB)⟩
def zmq:Tr:=.s [(5000,.bin .lss 3 6 5)] (.b 7 (.s [(5006,.ia 160 162 4 0 6),(5007,.ld 162 4 8),(0,.raw [(1005008,.call ⟨103,[.o (.g [9,10,11,12]),.o (.c (.p 900 0))],[.bx 900 62 [.h 1,.h 2,.h 3,.h 4]],13,[.bx 900 62 [.h 1,.h 2,.h 3,.h 4]]⟩)] 1)] (.b 13 (.z .no) (.s [(5009,.bin .add 3 6 (kI 1))] (.z (.nx (hZ 6 [14]) [] []))))) (.z (.xt (.x 0) (hZ 6 []) [] [])))
theorem zjS {w0:World} (s:Stm) (v1:Int) (hb:zg.length<9223372036854775808) (hO:ql s 0 (zg.drop 0)=-1) (hlen:(zg.length:Int)=v1):LpH (KN w0) Tryz.prog 102 ⟨ntOf Tryz.prog 102,[900],[]⟩ zdy 0 ⟨6,[sI v1,.ls 3 cE kE s.2.2.2,sS s.2.2.1,sI s.2.1,sI s.1,.ls 4 cFm kFm zg],[],[]⟩:=by
 refine zi _ ⟨zbB,zdy,(7,0,0),(6,0,0),5000⟩ (T:=Int) (fun t=>⟨7,[sI t,sI v1,.ls 3 cE kE s.2.2.2,sS s.2.2.1,sI s.2.1,sI s.1,.ls 4 cFm kFm zg],[],[]⟩) (fun i=>∃k:Nat,i=(k:Int)∧k≤zg.length∧ql s k (zg.drop k)=-1) (fun i=>((zg.length:Int) - i).toNat) (0:Int) (hZ 6 [kI 0]) [] [] zmq mixed ⟨0,rfl,Nat.zero_le _,hO⟩ rfl rfl rfl rfl (fun _=>rfl) rfl rfl (by kernel_rfl) ?_
 intro i hJ
 obtain ⟨k,hi,hk,hs⟩:=hJ
 intro v501 e501
 refine ai (fun h502=>?_) fun h502=>?_
 ·
  refine ai (by (have dh502:=LD e501 h502;have hz:=hlen;have hlt:k<zg.length:=(by omega);exact ⟨k,_,hi,List.getElem?_eq_getElem hlt⟩)) fun n503 x504 s505 s506=>?_
  obtain ⟨v507,e507⟩:=LX (zae s x504)
  refine rx [sB v507] [] [] (fun t u w=>⟨b_con (pan:=false) (t_isf x504 s v507 e507),trivial⟩) ?_
  refine ai (fun h508=>?_) fun h508=>?_
  ·
   exfalso
   (have dh502:=LD e501 h502;have dh508:=e507.trans h508;have hz:=hlen;have hkn:n503=k:=(by omega);subst hkn;have hlt:n503<zg.length:=(List.getElem?_eq_some_iff.1 s506).1;have hd:=zeF (s:=s) s506;rw [hs] at hd;simp only [dh508,if_true] at hd;exfalso;first | omega | (split at hd<;>omega))
  ·
   intro v509 e509
   refine nxl v509 ?_ ?_ rfl
   all_goals (have dh502:=LD e501 h502;have dh508:=e507.trans h508;have hz:=hlen;have hkn:n503=k:=(by omega);subst hkn;have hlt:n503<zg.length:=(List.getElem?_eq_some_iff.1 s506).1;have hd:=zeF (s:=s) s506;rw [hs] at hd;simp only [dh508,Bool.false_eq_true,if_false] at hd;have x3:v509=((n503+1:Nat):Int):=(by rw [← e509,hi,wri (by omega)];omega);have hn:ql s (n503+1) (zg.drop (n503+1))=-1:=(by first | omega | (split at hd<;>omega)))
   ·show ((zg.length:Int) - v509).toNat<((zg.length:Int) - i).toNat
    omega
   ·exact ⟨n503+1,x3,by omega,hn⟩
 ·
  rfl
def zbC:List Atom:=[.sl 0 0,.sl 1 (.o (.c (.q 103 [(900,0)]))),.sl 7 5,.sl 8 6,.bx 900 62 [.h 1,.h 2,.h 3,.h 4]]
def zdz:LoopS:=⟨2,zbC.map (tnA (jf (hZ 6 [kI 0])) (kf []) (kf [])),.r,(drs [3] zbC)++[.sl 4 6]⟩
def zmr:Tr:=.s [(5000,.bin .lss 3 6 5)] (.b 7 (.s [(5006,.ia 160 162 4 0 6),(5007,.ld 162 4 8),(0,.raw [(1005008,.call ⟨103,[.o (.g [9,10,11,12]),.o (.c (.p 900 0))],[.bx 900 62 [.h 1,.h 2,.h 3,.h 4]],13,[.bx 900 62 [.h 1,.h 2,.h 3,.h 4]]⟩)] 1)] (.b 13 (.z (.xt .r (hZ 7 []) [] [])) (.s [(5009,.bin .add 3 6 (kI 1))] (.z (.nx (hZ 6 [14]) [] []))))) (.z .no))
theorem zjT {w0:World} (s:Stm) (v1:Int) (o:Int) (hb:zg.length<9223372036854775808) (hO:ql s 0 (zg.drop 0)=o) (ho:o≠-1) (hlen:(zg.length:Int)=v1):LpH (KN w0) Tryz.prog 102 ⟨ntOf Tryz.prog 102,[900],[]⟩ zdz 0 ⟨7,[sI o,sI v1,.ls 3 cE kE s.2.2.2,sS s.2.2.1,sI s.2.1,sI s.1,.ls 4 cFm kFm zg],[],[]⟩:=by
 refine zi _ ⟨zbC,zdz,(7,0,0),(7,0,0),5000⟩ (T:=Int) (fun t=>⟨7,[sI t,sI v1,.ls 3 cE kE s.2.2.2,sS s.2.2.1,sI s.2.1,sI s.1,.ls 4 cFm kFm zg],[],[]⟩) (fun i=>∃k:Nat,i=(k:Int)∧k≤zg.length∧ql s k (zg.drop k)=o) (fun i=>((zg.length:Int) - i).toNat) (0:Int) (hZ 6 [kI 0]) [] [] zmr mixed ⟨0,rfl,Nat.zero_le _,hO⟩ rfl rfl rfl rfl (fun _=>rfl) rfl rfl (by kernel_rfl) ?_
 intro i hJ
 obtain ⟨k,hi,hk,hs⟩:=hJ
 intro v501 e501
 refine ai (fun h502=>?_) fun h502=>?_
 ·
  refine ai (by (have dh502:=LD e501 h502;have hz:=hlen;have hlt:k<zg.length:=(by omega);exact ⟨k,_,hi,List.getElem?_eq_getElem hlt⟩)) fun n503 x504 s505 s506=>?_
  obtain ⟨v507,e507⟩:=LX (zae s x504)
  refine rx [sB v507] [] [] (fun t u w=>⟨b_con (pan:=false) (t_isf x504 s v507 e507),trivial⟩) ?_
  refine ai (fun h508=>?_) fun h508=>?_
  ·
   have hq:((i)=o)∧True:=by
    refine ⟨?_,trivial⟩
    (have dh502:=LD e501 h502;have dh508:=e507.trans h508;have hz:=hlen;have hkn:n503=k:=(by omega);subst hkn;have hlt:n503<zg.length:=(List.getElem?_eq_some_iff.1 s506).1;have hd:=zeF (s:=s) s506;rw [hs] at hd;simp only [dh508,if_true] at hd;first | omega | (split at hd<;>omega))
   obtain ⟨q0,-⟩:=hq
   rw [← q0]
   rfl
  ·
   intro v509 e509
   refine nxl v509 ?_ ?_ rfl
   all_goals (have dh502:=LD e501 h502;have dh508:=e507.trans h508;have hz:=hlen;have hkn:n503=k:=(by omega);subst hkn;have hlt:n503<zg.length:=(List.getElem?_eq_some_iff.1 s506).1;have hd:=zeF (s:=s) s506;rw [hs] at hd;simp only [dh508,Bool.false_eq_true,if_false] at hd;have x3:v509=((n503+1:Nat):Int):=(by rw [← e509,hi,wri (by omega)];omega);have hn:ql s (n503+1) (zg.drop (n503+1))=o:=(by first | omega | (split at hd<;>omega)))
   ·show ((zg.length:Int) - v509).toNat<((zg.length:Int) - i).toNat
    omega
   ·exact ⟨n503+1,x3,by omega,hn⟩
 ·
  exfalso
  (have dh502:=LE e501 h502;have hz:=hlen;have hkl:k=zg.length:=(by omega);rw [hkl] at hs;exact absurd (hs.symm.trans (by rw [List.drop_length];rfl)) ho)
def zq3:Tr:=.s [(2,.ln 160 3 0)] (.r (.s [(0,.lp zdy 0 0)] (.z (.ret false (LF (kI (-1))) [.bx 900 62 [.h 1,.h 2,.h 3,.h 4]]))) (.s [(0,.lp zdz 0 1)] (.z (.ret false (6) [.bx 900 62 [.h 1,.h 2,.h 3,.h 4]]))))
theorem t_ixf {w0:World} (hb_:zg.length<9223372036854775808) (s:Stm) (r:Int) (hr:ql s 0 (zg.drop 0)=r):BFun false (KN w0) Tryz.prog 102 [.o (.c (.d (pLs cFm zg))),.o (.c (.q 103 [(0,0)]))] [(62,[.d (pI s.1),.d (pI s.2.1),.d (pS s.2.2.1),.d (pLs cE s.2.2.2)])] (.o (.c (.d (pI r)))) [(62,[.d (pI s.1),.d (pI s.2.1),.d (pS s.2.2.1),.d (pLs cE s.2.2.2)])]:=by
 refine tfn w0 102 ⟨[0,LF (.q 103 [(900,0)])],[.bx 900 62 [.h 1,.h 2,.h 3,.h 4]],[],0,0⟩ ⟨5,[.ls 3 cE kE s.2.2.2,sS s.2.2.1,sI s.2.1,sI s.1,.ls 4 cFm kFm zg],[],[]⟩ zq3 (by kernel_rfl) ?_
 intro v1 e1
 by_cases c2:ql s 0 (zg.drop 0)=-1
 ·
  refine Or.inl ?_
  refine rx [] [] [] (zjS s v1    hb_ c2  e1) ?_
  intro hc
  have r0:r=(-1:Int):=by
   rw [← hr];exact c2
  rw [r0];exact con_b (pan:=false) (hc)
 ·
  refine Or.inr ?_
  obtain ⟨o,hO_t_ixf_B⟩:∃(o:Int),ql s 0 (zg.drop 0)=o∧o≠-1:=⟨_,rfl,by simpa using c2⟩
  refine rx [sI o] [] [] (zjT s v1  o  hb_ hO_t_ixf_B.1 hO_t_ixf_B.2  e1) ?_
  intro hc
  have r0:r=o:=by
   rw [← hr];exact hO_t_ixf_B.1
  rw [r0];exact con_b (pan:=false) (hc)
theorem t_ixg {w0:World} (l:List Frmt) (s:Stm) (r:Int) (hr:ql s 0 (l.drop 0)=r) (hl:l=zg):BFun false (KN w0) Tryz.prog 102 [.o (.c (.d (pLs cFm l))),.o (.c (.q 103 [(0,0)]))] [(62,[.d (pI s.1),.d (pI s.2.1),.d (pS s.2.2.1),.d (pLs cE s.2.2.2)])] (.o (.c (.d (pI r)))) [(62,[.d (pI s.1),.d (pI s.2.1),.d (pS s.2.2.1),.d (pLs cE s.2.2.2)])]:=by
 subst hl
 exact t_ixf (by decide) s r hr
theorem zbg {w0:World} (b:Bool) (e:Int) (hb:b=false):Fun (KN w0) Tryz.prog 72 [.o (.c (pB b)),.o (.c (pI e))] (.t []):=by
 subst hb
 intro W D vs hv hf
 match vs,hv with
 | [v,u],⟨h1,h2,_⟩ =>
  obtain rfl:v=.bool false:=h1
  obtain rfl:u=.int .i64 e:=h2
  go_enter Tryz.func72,Tryz.ntmps72
  go_wp2
  exact ⟨rfl,.tuple #[],by simp [results,Tryz.results72],_,D,rfl,⟨_,rfl,trivial⟩,Kept.refl hf⟩
 | [],h=>exact h.elim
 | [_],h=>exact h.2.elim
 | _::_::_::_,h=>exact h.2.2.elim
theorem zlj (s:Stm):∀(l:List Frmt) (k:Nat),(l.find? (zae s)=none∧ql s k l=-1)∨∃j f,l.find? (zae s)=some f∧l[j]?=some f∧ql s k l=((k+j:Nat):Int)
 | [],_=>.inl ⟨rfl,rfl⟩
 | f::r,k=>by
  rw [ql,List.find?_cons]
  cases hf:zae s f with
  | true=>exact .inr ⟨0,f,rfl,rfl,rfl⟩
  | false =>
   rcases zlj s r (k+1) with ⟨h1,h2⟩ | ⟨j,g,h1,h2,h3⟩
   ·exact .inl ⟨h1,h2⟩
   ·exact .inr ⟨j+1,g,h1,h2,by simp only [Bool.false_eq_true,if_false];rw [h3];congr 1;omega⟩
theorem ziB {a:Int}:∀{l:List Xp},zbb a l=0→∀e∈l,z6 e a=0
 | [],_,e,h=>by cases h
 | x::r,h,e,he=>by
  rw [zbb] at h
  split at h
  ·contradiction
  ·rename_i h0
   rcases List.mem_cons.1 he with rfl | he
   ·exact Classical.not_not.1 h0
   ·exact ziB h e he
theorem st_ix {s:Stm} {a:Int} (h:stmE a s=0):∃(n:Nat) (x:Frmt),ql s 0 (zg.drop 0)=(n:Int)∧zg[n]?=some x∧fitsF s x=true∧(zaf x=true→nameB s.2.2.1=true)∧zbb a s.2.2.2=0:=by
 unfold stmE at h
 rcases zlj s zg 0 with ⟨h1,_⟩ | ⟨j,f,h1,h2,h3⟩
 ·rw [h1] at h;simp at h
 ·rw [h1] at h
  simp only at h
  refine ⟨j,f,by simpa using h3,h2,?_⟩
  cases hf:fitsF s f with
  | false=>rw [hf] at h;simp at h
  | true =>
   rw [hf] at h
   simp only [if_true] at h
   split at h
   ·simp at h
   ·rename_i hn
    refine ⟨rfl,fun q=>?_,h⟩
    rw [q] at hn
    simpa using hn
theorem st_at {s:Stm} {a v:Int} {n:Nat} {x:Frmt} (h:stmE a s=0) (hv:ql s 0 (zg.drop 0)=v) (hn:v=(n:Int)) (hx:zg[n]?=some x):x∈zg∧¬ (s.2.2.2.length:Int)<manyF x∧¬ (s.2.2.2.length:Int) > manyF x+x.2.2.2∧(zaf x=false→s.2.2.1=[])∧(zaf x=true→nameB s.2.2.1=true):=by
 obtain ⟨m,y,h1,h2,h3,h4,_⟩:=st_ix h
 have e:n=m:=by rw [h1] at hv;omega
 subst e
 obtain rfl:=Option.some.inj (hx.symm.trans h2)
 refine ⟨List.mem_of_getElem? hx,?_,?_,?_,h4⟩<;>unfold fitsF at h3<;>simp at h3<;>first | omega | (intro q;rw [q] at h3;simpa using h3.2)
theorem zjF:∀f∈zg,0≤manyF f+f.2.2.2∧manyF f+f.2.2.2≤1000:=by decide
def zhI:List Atom:=[.sl 1 4,.sl 56 3,.sl 57 24,.sl 58 25,.bx 0 62 [.h 0,.h 1,.h 2,.h 3],.bx 11 162 [.h 9,.h 10,.h 11,.h 12]]
def stA_S:LoopS:=⟨7,zhI.map (tnA (jf (hZ 25 [kI 0])) (kf []) (kf [])),(.x 0),(drs [3] zhI)⟩
def stA_t:Tr:=.s [(0,.fb 15 false),(0,.fb 19 false),(0,.fb 21 true),(0,.fb 23 false),(5000,.bin .lss 3 25 24)] (.b 26 (.s [(5001,.ia 58 60 3 3 25),(5002,.ld 60 3 27),(5007,.call 106 [.o (.g [28,29,30]),4] (.o .c)),(5010,.bin .neq 37 31 (kI 0)),(5012,.call 72 [32,31] (.t [])),(5013,.bin .add 3 25 (kI 1))] (.z (.nx (hZ 25 [33]) [] []))) (.z (.xt (.x 0) (hZ 25 []) [] [])))
theorem zsk {w0:World} (s:Stm) (a:Int) (v1:Int) (v3:Bool) (n5:Nat) (x7:Frmt) (v9:Int) (v10:Int) (v12:Bool) (v14:Int) (v15:Int) (v17:Int) (v18:Bool) (v20:Bool) (v22:Bool) (v24:Bool) (v26:Bool) (v30:Int) (s13:v12=false) (s19:v18=false) (h23:v22=true) (s28:v26=false) (hv:(s.2.2.2.length:Int)=v30) (hc:∀e∈s.2.2.2,z6 e a=0) (hN:∀e∈s.2.2.2,nodes e≤1000000) (hl:s.2.2.2.length≤1000000):LpH (KN w0) Tryz.prog 74 ⟨ntOf Tryz.prog 74,[],[]⟩ stA_S 0 ⟨25,[sI v30,sB v26,sB v24,sB v22,sB v20,sB v18,sI v17,sI v15,sI v14,sB v12,sI v10,sI v9,sI x7.2.2.2,sS x7.2.2.1,sI x7.2.1,sI x7.1,.p (kFm x7),sB v3,sI v1,.ls 4 cFm kFm zg,sI a,.ls 3 cE kE s.2.2.2,sS s.2.2.1,sI s.2.1,sI s.1],[],[]⟩:=by
 refine zi _ ⟨zhI,stA_S,(26,0,0),(25,0,0),5000⟩ (T:=Int) (fun t=>⟨26,[sI t,sI v30,sB v26,sB v24,sB v22,sB v20,sB v18,sI v17,sI v15,sI v14,sB v12,sI v10,sI v9,sI x7.2.2.2,sS x7.2.2.1,sI x7.2.1,sI x7.1,.p (kFm x7),sB v3,sI v1,.ls 4 cFm kFm zg,sI a,.ls 3 cE kE s.2.2.2,sS s.2.2.1,sI s.2.1,sI s.1],[],[]⟩) (fun i=>∃k:Nat,i=(k:Int)∧k≤s.2.2.2.length) (fun i=>(v30 - i).toNat) (0:Int) (hZ 25 [kI 0]) [] [] stA_t mixed ⟨0,rfl,Nat.zero_le _⟩ rfl rfl rfl rfl (fun _=>rfl) rfl rfl (by kernel_rfl) ?_
 intro i hJ
 obtain ⟨k,hi,hk⟩:=hJ
 refine ai s13 ?_
 refine ai s19 ?_
 refine ai h23 ?_
 refine ai s28 ?_
 intro v501 e501
 refine ai (fun h502=>?_) fun h502=>?_
 ·
  refine ai (by (have dh502:=LD e501 h502;have hlt:k<s.2.2.2.length:=(by omega);exact ⟨k,_,hi,List.getElem?_eq_getElem hlt⟩)) fun n503 x504 s505 s506=>?_
  obtain ⟨v507,e507⟩:=LX (z6 x504 a)
  have s508:nodes x504≤1000000:=by exact hN _ (List.mem_of_getElem? s506)
  refine cx (.o (.c (sI v507))) (zdD x504 a v507 e507 s508) rfl ?_
  intro v509 e509
  have s510:v509=false:=by (rw [← e509,← e507,hc _ (List.mem_of_getElem? s506)];rfl)
  refine cx (.t []) (zbg v509 v507   s510) rfl ?_
  intro v511 e511
  refine nxl v511 ?_ ?_ rfl
  all_goals (have dh502:=LD e501 h502;have hkn:n503=k:=(by omega);have hlt:=(List.getElem?_eq_some_iff.1 s506).1;have x3:v511=((n503+1:Nat):Int):=(by rw [← e511,hi,wri (by omega)];omega))
  ·show (v30 - v511).toNat<(v30 - i).toNat
   omega
  ·exact ⟨n503+1,x3,by omega⟩
 ·
  rfl
def zhJ:List Atom:=[.sl 1 4,.sl 56 3,.sl 57 25,.sl 58 26,.bx 0 62 [.h 0,.h 1,.h 2,.h 3],.bx 11 162 [.h 9,.h 10,.h 11,.h 12]]
def stB_S:LoopS:=⟨7,zhJ.map (tnA (jf (hZ 26 [kI 0])) (kf []) (kf [])),(.x 0),(drs [3] zhJ)⟩
def stB_t:Tr:=.s [(0,.fb 15 false),(0,.fb 19 false),(0,.fb 21 false),(0,.fb 22 true),(5000,.bin .lss 3 26 25)] (.b 27 (.s [(5001,.ia 58 60 3 3 26),(5002,.ld 60 3 28),(5007,.call 106 [.o (.g [29,30,31]),4] (.o .c)),(5010,.bin .neq 37 32 (kI 0)),(5012,.call 72 [33,32] (.t [])),(5013,.bin .add 3 26 (kI 1))] (.z (.nx (hZ 26 [34]) [] []))) (.z (.xt (.x 0) (hZ 26 []) [] [])))
theorem zsl {w0:World} (s:Stm) (a:Int) (v1:Int) (v3:Bool) (n5:Nat) (x7:Frmt) (v9:Int) (v10:Int) (v12:Bool) (v14:Int) (v15:Int) (v17:Int) (v18:Bool) (v20:Bool) (v22:Bool) (v25:Bool) (v28:Bool) (v29:Bool) (v31:Int) (s13:v12=false) (s19:v18=false) (h23:v22=false) (s27:v25=true) (hv:(s.2.2.2.length:Int)=v31) (hc:∀e∈s.2.2.2,z6 e a=0) (hN:∀e∈s.2.2.2,nodes e≤1000000) (hl:s.2.2.2.length≤1000000):LpH (KN w0) Tryz.prog 74 ⟨ntOf Tryz.prog 74,[],[]⟩ stB_S 0 ⟨26,[sI v31,sB v29,sB v28,sB v25,sB v22,sB v20,sB v18,sI v17,sI v15,sI v14,sB v12,sI v10,sI v9,sI x7.2.2.2,sS x7.2.2.1,sI x7.2.1,sI x7.1,.p (kFm x7),sB v3,sI v1,.ls 4 cFm kFm zg,sI a,.ls 3 cE kE s.2.2.2,sS s.2.2.1,sI s.2.1,sI s.1],[],[]⟩:=by
 refine zi _ ⟨zhJ,stB_S,(27,0,0),(26,0,0),5000⟩ (T:=Int) (fun t=>⟨27,[sI t,sI v31,sB v29,sB v28,sB v25,sB v22,sB v20,sB v18,sI v17,sI v15,sI v14,sB v12,sI v10,sI v9,sI x7.2.2.2,sS x7.2.2.1,sI x7.2.1,sI x7.1,.p (kFm x7),sB v3,sI v1,.ls 4 cFm kFm zg,sI a,.ls 3 cE kE s.2.2.2,sS s.2.2.1,sI s.2.1,sI s.1],[],[]⟩) (fun i=>∃k:Nat,i=(k:Int)∧k≤s.2.2.2.length) (fun i=>(v31 - i).toNat) (0:Int) (hZ 26 [kI 0]) [] [] stB_t mixed ⟨0,rfl,Nat.zero_le _⟩ rfl rfl rfl rfl (fun _=>rfl) rfl rfl (by kernel_rfl) ?_
 intro i hJ
 obtain ⟨k,hi,hk⟩:=hJ
 refine ai s13 ?_
 refine ai s19 ?_
 refine ai h23 ?_
 refine ai s27 ?_
 intro v501 e501
 refine ai (fun h502=>?_) fun h502=>?_
 ·
  refine ai (by (have dh502:=LD e501 h502;have hlt:k<s.2.2.2.length:=(by omega);exact ⟨k,_,hi,List.getElem?_eq_getElem hlt⟩)) fun n503 x504 s505 s506=>?_
  obtain ⟨v507,e507⟩:=LX (z6 x504 a)
  have s508:nodes x504≤1000000:=by exact hN _ (List.mem_of_getElem? s506)
  refine cx (.o (.c (sI v507))) (zdD x504 a v507 e507 s508) rfl ?_
  intro v509 e509
  have s510:v509=false:=by (rw [← e509,← e507,hc _ (List.mem_of_getElem? s506)];rfl)
  refine cx (.t []) (zbg v509 v507   s510) rfl ?_
  intro v511 e511
  refine nxl v511 ?_ ?_ rfl
  all_goals (have dh502:=LD e501 h502;have hkn:n503=k:=(by omega);have hlt:=(List.getElem?_eq_some_iff.1 s506).1;have x3:v511=((n503+1:Nat):Int):=(by rw [← e511,hi,wri (by omega)];omega))
  ·show (v31 - v511).toNat<(v31 - i).toNat
   omega
  ·exact ⟨n503+1,x3,by omega⟩
 ·
  rfl
def zoB:Tr:=.s [(0,.raw [(1000001,.op (.sc 163 false false false) [LF (.k (.pointer (some ⟨0,0,none⟩)))] [] 5)] 1),(0,.raw [(1000003,.call ⟨102,[5,.o (.c (.q 103 [(0,0)]))],[.bx 0 62 [.h 0,.h 1,.h 2,.h 3]],6,[.bx 0 62 [.h 0,.h 1,.h 2,.h 3]]⟩)] 1),(6,.bin .lss 3 6 (kI 0)),(7,.call 72 [7,LF (kI 4)] (.t [])),(0,.raw [(1000009,.op (.ia 163) [LF (.k (.pointer (some ⟨0,0,none⟩))),6] [] 8)] 1),(10,.ld 162 4 8),(15,.ln 58 3 3),(17,.call 104 [.o (.g [9,10,11,12])] (.o .c)),(18,.bin .lss 3 13 14),(0,.fb 15 false),(22,.ln 58 3 3),(24,.call 104 [.o (.g [9,10,11,12])] (.o .c)),(27,.bin .add 3 17 12),(28,.bin .gtr 3 16 18),(0,.fb 19 false),(32,.call 105 [.o (.g [9,10,11,12])] (.o .c)),(33,.un .not 20)] (.b 21 (.s [(37,.bin .neq 9 2 (.k (.string ⟨#[]⟩))),(40,.call 72 [22,LF (kI 4)] (.t [])),(42,.call 105 [.o (.g [9,10,11,12])] (.o .c)),(0,.fb 23 false),(49,.call 72 [LF (kB false),LF (kI 10)] (.t [])),(52,.ln 58 3 3),(0,.lp stA_S 0 0)] (.z (.ret false (.t []) []))) (.s [(40,.call 72 [LF (kB false),LF (kI 4)] (.t [])),(42,.call 105 [.o (.g [9,10,11,12])] (.o .c)),(0,.fb 22 true),(46,.call 73 [2] (.o .c)),(47,.un .not 23),(49,.call 72 [24,LF (kI 10)] (.t [])),(52,.ln 58 3 3),(0,.lp stB_S 0 0)] (.z (.ret false (.t []) []))))
theorem zsv {w0:World} (hL:LibP w0) (s:Stm) (a:Int) (h:stmE a s=0) (hN:∀e∈s.2.2.2,nodes e≤1000000) (hl:s.2.2.2.length≤1000000):Fun (KN w0) Tryz.prog 74 [.o (.g [pI s.1,pI s.2.1,pS s.2.2.1,pLs cE s.2.2.2]),.o (.c (pI a))] (.t []):=by
 have hce:=ziB (by obtain ⟨n,x,_,_,_,_,q⟩:=st_ix h;exact q)
 refine tfn w0 74 ⟨[.o (.g [0,1,2,3]),4],[],[],0,0⟩ ⟨5,[sI a,.ls 3 cE kE s.2.2.2,sS s.2.2.1,sI s.2.1,sI s.1],[],[]⟩ zoB (by kernel_rfl) ?_
 refine rx [.ls 4 cFm kFm zg] [] [] (fun t u w=>⟨e_scF hL (E:=162) (by kernel_rfl) (by kernel_rfl) (zm rfl),trivial⟩) ?_
 obtain ⟨v1,e1⟩:=LX (ql s 0 (zg.drop 0))
 have s2:zg=zg:=by rfl
 refine rx [sI v1] [] [] (fun t u w=>⟨b_con (pan:=false) (t_ixg zg s v1 e1 s2),trivial⟩) ?_
 intro v3 e3
 have s4:v3=false:=by (obtain ⟨n,x,q1,q2,_⟩:=st_ix h;rw [← e3,← e1,q1];exact decide_eq_false (by omega))
 refine cx (.t []) (zbg v3 (4:Int)   s4) rfl ?_
 obtain ⟨n5,s6⟩:∃(n5:Nat),v1=(n5:Int):=by (obtain ⟨n,x,q1,q2,_⟩:=st_ix h;exact ⟨n,by rw [← e1,q1]⟩)
 obtain ⟨x7,s8⟩:∃(x7:Frmt),zg[n5]?=some x7:=by (obtain ⟨n,x,q1,q2,_⟩:=st_ix h;have hn:n5=n:=(by rw [q1] at e1;omega);exact ⟨x,by rw [hn,q2]⟩)
 refine rx [.p (kFm x7)] [] [] (fun t u w=>⟨e_iaF hL (E:=162) (by kernel_rfl) (by kernel_rfl) (za rfl) s6 s8 (zm rfl),trivial⟩) ?_
 intro v9 e9
 obtain ⟨v10,e10⟩:=LX (manyF x7)
 have s11:x7∈zg:=by (have q:=st_at h e1 s6 s8;exact q.1)
 refine cx (.o (.c (sI v10))) (zpI hL x7 v10 e10 s11) rfl ?_
 intro v12 e12
 have s13:v12=false:=by (have q:=st_at h e1 s6 s8;rw [← e12,← e9,← e10];exact decide_eq_false q.2.1)
 refine ai s13 ?_
 intro v14 e14
 obtain ⟨v15,e15⟩:=LX (manyF x7)
 have s16:x7∈zg:=by (have q:=st_at h e1 s6 s8;exact q.1)
 refine cx (.o (.c (sI v15))) (zpI hL x7 v15 e15 s16) rfl ?_
 intro v17 e17 v18 e18
 have s19:v18=false:=by (have q:=st_at h e1 s6 s8;have q2:=zjF _ q.1;rw [← e18,← e14,← e17,← e15,wri (by omega)];exact decide_eq_false q.2.2.1)
 refine ai s19 ?_
 obtain ⟨v20,e20⟩:=LX (zaf x7)
 have s21:x7∈zg:=by (have q:=st_at h e1 s6 s8;exact q.1)
 refine cx (.o (.c (sB v20))) (zhR x7 v20 e20 s21) rfl ?_
 intro v22 e22
 refine ai (fun h23=>?_) fun h23=>?_
 ·
  intro v24 e24
  have s25:v24=false:=by (have q:=st_at h e1 s6 s8;have hz:zaf x7=false:=(by rw [e20];simpa using e22.trans h23);rw [← e24,q.2.2.2.1 hz];rfl)
  refine cx (.t []) (zbg v24 (4:Int)   s25) rfl ?_
  obtain ⟨v26,e26⟩:=LX (zaf x7)
  have s27:x7∈zg:=by (have q:=st_at h e1 s6 s8;exact q.1)
  refine cx (.o (.c (sB v26))) (zhR x7 v26 e26 s27) rfl ?_
  have s28:v26=false:=by (have dh23:=(Bool.not_eq_true' _).mp (e22.trans h23);rw [← e26,e20];simpa using e22.trans h23)
  refine ai s28 ?_
  have s29:false=false:=by rfl
  refine cx (.t []) (zbg false (10:Int)   s29) rfl ?_
  intro v30 e30
  refine rx [] [] [] (zsk s a v1 v3 n5 x7 v9 v10 v12 v14 v15 v17 v18 v20 v22 v24 v26 v30 s13 s19 h23 s28   e30 hce hN hl) ?_
  intro hc
  refine Fun.fin (r:=.t []) (zc (hc)) (fun v W D h=>?_)
  rw [];exact h
 ·
  have s24:false=false:=by rfl
  refine cx (.t []) (zbg false (4:Int)   s24) rfl ?_
  obtain ⟨v25,e25⟩:=LX (zaf x7)
  have s26:x7∈zg:=by (have q:=st_at h e1 s6 s8;exact q.1)
  refine cx (.o (.c (sB v25))) (zhR x7 v25 e25 s26) rfl ?_
  have s27:v25=true:=by (have dh23:=(Bool.not_eq_false' _).mp (e22.trans h23);rw [← e25,e20];simpa using e22.trans h23)
  refine ai s27 ?_
  obtain ⟨v28,e28⟩:=LX (nameB s.2.2.1)
  refine cx (.o (.c (sB v28))) (zpJ s.2.2.1 v28 e28) rfl ?_
  intro v29 e29
  have s30:v29=false:=by (have q:=st_at h e1 s6 s8;have hz:zaf x7=true:=(by rw [e20];simpa using e22.trans h23);rw [← e29,← e28,q.2.2.2.2 hz];rfl)
  refine cx (.t []) (zbg v29 (10:Int)   s30) rfl ?_
  intro v31 e31
  refine rx [] [] [] (zsl s a v1 v3 n5 x7 v9 v10 v12 v14 v15 v17 v18 v20 v22 v25 v28 v29 v31 s13 s19 h23 s27   e31 hce hN hl) ?_
  intro hc
  refine Fun.fin (r:=.t []) (zc (hc)) (fun v W D h=>?_)
  rw [];exact h
end Go.Proofs.YteimplkdcjapdaaGreatDoor
namespace Go.Proofs.YteimplkdcjapdaaGreatDoor
open Go.RowKit Go.Shelf
def ents {α:Type} (cv:α→Pred):List (List UInt8×α)→List MapEntry→World→Dat→Prop
 | [],[],_,_=>True
 | x::l,e::es,W,D=>e.key=.string ⟨x.1.toArray⟩∧cv x.2 e.val W D∧ents cv l es W D
 | _,_,_,_=>False
def oMap {α:Type} (cv:α→Pred) (l:List (List UInt8×α)):OPred:=fun gs _ W D=>∃v q es c,gs=[v]∧v.ownBlock=some q∧W.heap[q]?=some (.map es c)∧ents cv l es.toList W D
section
variable {α:Type} {cv:α→Pred} {K:Kit}
theorem zcZ (hc:∀x,FineM K (cv x)) {W W':World} {D D':Dat} {S:Nat→Prop} (hS:∀q,S q→Mlq K D W q) (hO:Oth S W W') (hD:∀q,D q→D' q):∀{l:List (List UInt8×α)} {es:List MapEntry},ents cv l es W D→ents cv l es W' D'
 | [],[],_=>trivial
 | x::l,e::es,h=>⟨h.1,hc x.2 hS hO hD h.2.1,zcZ hc hS hO hD h.2.2⟩
 | [],_::_,h=>h.elim
 | _::_,[],h=>h.elim
theorem qR (hc:∀x,FineM K (cv x)) {l:List (List UInt8×α)}:FineO K (oMap cv l):=by
 intro gs rs W W' D D' S hS hN hO hD ⟨v,q,es,c,h1,h2,h3,h4⟩
 subst h1
 exact ⟨v,q,es,c,rfl,h2,(hO.block q (Array.getElem?_eq_some_iff.1 h3).1 (hN v (List.mem_singleton.2 rfl) q h2)).trans h3,zcZ hc hS hO hD h4⟩
theorem zrB (s t:List UInt8):((⟨s.toArray⟩:ByteArray) == ⟨t.toArray⟩)=(s == t):=by
 rw [Bool.eq_iff_iff,MapKept.bytes_beq,beq_iff_eq]
 simp
theorem zaH {W:World} {D:Dat} (s:List UInt8):∀{l:List (List UInt8×α)} {es:List MapEntry} (i:Nat),ents cv l es W D →
  (l.find? (fun x=>x.1 == s)=none∧Instr.findNow .string (.string ⟨s.toArray⟩) es i=some none)∨∃x j v,l.find? (fun x=>x.1 == s)=some x∧Instr.findNow .string (.string ⟨s.toArray⟩) es i=some (some (j,v))∧cv x.2 v W D
 | [],[],_,_=>.inl ⟨rfl,rfl⟩
 | x::l,e::es,i,h=>by
  have hs:Instr.sameNow .string (.string ⟨s.toArray⟩) e.key=some (s == x.1):=by rw [h.1];show some _=_;rw [zrB]
  have hc:(x.1 == s)=(s == x.1):=by rw [Bool.eq_iff_iff,beq_iff_eq,beq_iff_eq];exact eq_comm
  rw [List.find?_cons,hc]
  unfold Instr.findNow
  rw [hs]
  cases hx:s == x.1 with
  | true=>exact .inr ⟨x,i,e.val,rfl,rfl,h.2.1⟩
  | false=>exact zaH s (i+1) h.2.2
 | [],_::_,_,h=>h.elim
 | _::_,[],_,h=>h.elim
theorem zfE {W:World} {D:Dat} {s:List UInt8} {a:α} {e:MapEntry} (hk:e.key=.string ⟨s.toArray⟩) (hv:cv a e.val W D):∀{l:List (List UInt8×α)} {es:List MapEntry},ents cv l es W D→ents cv (l++[(s,a)]) (es++[e]) W D
 | [],[],_=>⟨hk,hv,trivial⟩
 | x::l,y::es,h=>⟨h.1,h.2.1,zfE hk hv h.2.2⟩
 | [],_::_,h=>h.elim
 | _::_,[],h=>h.elim
variable {P:Program} {F:Fact}
theorem e_mkm {n:Nat} (h:F.o n=oMap cv []):Ent.sound K P F (.mkm n):=by
 intro v q W D h1 h2
 rw [h]
 exact ⟨v,q,#[],0,rfl,h1,h2,trivial⟩
theorem e_upM (hc:∀x,FineM K (cv x)) {T Kt E:TypeId} {b n m:Nat} {l l':List (List UInt8×α)} {s:List UInt8} {a:α} {k:Lf} {y:Sh} (hT:P.underlying T=some (.map Kt E)) (hK:P.underlying Kt=some .string)
  (hn:F.o n=oMap cv l) (hm':F.o m=oMap cv l') (hl:l++[(s,a)]=l') (hk:Gives F k (.string ⟨s.toArray⟩)) (hy:∀β v W,y.ok F β v W→cv a v W β.D) (hf:l.find? (fun x=>x.1 == s)=none) :
  Ent.sound K P F (.up T [b] (LF (.mp b)) (LF k) y [.hp [b] [] n] [.hp [b] [] m]):=by
 subst hl
 intro β W vx vk vy hx hk' hy' hpre hg
 have hp:HP K F β [b] [] n W:=hpre _ (List.mem_singleton.2 rfl)
 obtain ⟨q,hb,rfl⟩:∃q,β b=some q∧vx=.map (some q):=hx
 obtain rfl:=(hk β vk W).1 hk'
 have hp1:F.o n [gv β b] [] W β.D:=hp.1
 rw [hn] at hp1
 obtain ⟨v,q',es,c,h1,h2,h3,h4⟩:=hp1
 obtain rfl:gv β b=v:=by simpa using h1
 rw [zad,hb] at h2
 obtain rfl:=Option.some.inj h2
 have hml:=HP.ml hg hp (List.mem_singleton.2 rfl) hb
 have hS:∀r,(∃b'∈[b],β b'=some r)→Mlq K β.D W r:=by
  rintro r ⟨b',hb',hr⟩
  obtain rfl:=List.mem_singleton.1 hb'
  rw [hb] at hr;obtain rfl:=Option.some.inj hr
  exact hml
 have hfind:Instr.findNow .string (.string ⟨s.toArray⟩) es.toList 0=some none:=by
  rcases zaH s 0 h4 with ⟨_,h⟩ | ⟨x,j,v,h,_⟩
  ·exact h
  ·rw [hf] at h;cases h
 have hO:Oth (fun r=>∃b'∈[b],β b'=some r) W { W with heap:=W.heap.setIfInBounds q (.map (es.push { key:=.string ⟨s.toArray⟩,val:=vy,born:=c }) (c+1)) } :=
  ⟨rfl,rfl,rfl,by simp,fun r hr hne=>(MapKept.heap_set h3).2 r fun e=>hne ⟨b,List.mem_singleton.2 rfl,e ▸ hb⟩⟩
 refine ⟨_,?_,hO,?_⟩
 ·simp [Instr.mapUpdate,run_underlying hT,MapKept.run_getObj_map h3,MapKept.run_checkKey hK (k:=.string ⟨s.toArray⟩) (by trivial),MapKept.run_findKey hK hfind,MapKept.run_setObj_map _ h3,Result.andThen]
 ·intro z hz
  obtain rfl:=List.mem_singleton.1 hz
  refine ⟨?_,fun b' hb' q2 hq2=>?_⟩
  ·show F.o m [gv β b] [] _ β.D
   rw [hm']
   refine ⟨gv β b,q,_,_,rfl,by rw [zad];exact hb,(MapKept.heap_set h3).1,?_⟩
   rw [Array.toList_push]
   exact zfE rfl (hc a hS hO (fun _ h=>h) (hy β vy W hy')) (zcZ hc hS hO (fun _ h=>h) h4)
  ·obtain rfl:=List.mem_singleton.1 hb'
   rw [hb] at hq2;obtain rfl:=Option.some.inj hq2
   exact ⟨hml.1,_,(MapKept.heap_set h3).1,rfl⟩
theorem e_lkM {T Kt E:TypeId} {b n:Nat} {l:List (List UInt8×α)} {s:List UInt8} {k:Lf} {out:Sh} {z:Value} (hT:P.underlying T=some (.map Kt E)) (hK:P.underlying Kt=some .string) (hz:∀W,(zeroValue E).run P W=.ok z W)
  (hn:F.o n=oMap cv l) (hk:Gives F k (.string ⟨s.toArray⟩)) (hout:∀β W v,(∀x,l.find? (fun x=>x.1 == s)=some x→cv x.2 v W β.D)→(l.find? (fun x=>x.1 == s)=none→v=z)→out.ok F β v W) :
  Ent.sound K P F (.op (.lk T false) [LF (.mp b),LF k] [.hp [b] [] n] out):=by
 intro β W vs hs hpre hg
 match vs,hs with
 | [vx,vk],⟨hx,hk',_⟩ =>
  have hp:HP K F β [b] [] n W:=hpre _ (List.mem_singleton.2 rfl)
  obtain ⟨q,hb,rfl⟩:∃q,β b=some q∧vx=.map (some q):=hx
  obtain rfl:=(hk β vk W).1 hk'
  have hp1:F.o n [gv β b] [] W β.D:=hp.1
  rw [hn] at hp1
  obtain ⟨v,q',es,c,h1,h2,h3,h4⟩:=hp1
  obtain rfl:gv β b=v:=by simpa using h1
  rw [zad,hb] at h2
  obtain rfl:=Option.some.inj h2
  rcases zaH s 0 h4 with ⟨h5,h6⟩ | ⟨x,j,v,h5,h6,h7⟩
  ·refine ⟨z,?_,hout β W z (fun x hx=>by rw [h5] at hx;cases hx) fun _=>rfl⟩
   simp [Sig.sem,Instr.lookup,run_underlying hT,MapKept.run_getObj_map h3,MapKept.run_checkKey hK (k:=.string ⟨s.toArray⟩) (by trivial),MapKept.run_findKey hK h6,Result.andThen,hz]
  ·refine ⟨v,?_,hout β W v (fun y hy=>by rw [h5] at hy;obtain rfl:=Option.some.inj hy;exact h7) fun hy=>by rw [h5] at hy;cases hy⟩
   simp [Sig.sem,Instr.lookup,run_underlying hT,MapKept.run_getObj_map h3,MapKept.run_checkKey hK (k:=.string ⟨s.toArray⟩) (by trivial),MapKept.run_findKey hK h6,Result.andThen]
 | [],h=>exact h.elim
 | [_],h=>exact h.2.elim
 | _::_::_::_,h=>exact h.2.2.elim
end
def cTrue (_:Unit):Pred:=pB true
theorem zdW {K:Kit} (x:Unit):FineM K (cTrue x):=fun _ _ _ h=>h
def oKn (known:List (List UInt8)):OPred:=oMap cTrue (known.map fun s=>(s,()))
theorem znv {K:Kit} {known:List (List UInt8)}:FineO K (oKn known):=qR zdW
theorem zg6 (s:List UInt8):∀known:List (List UInt8),((known.map fun s=>(s,())).find? (fun x=>x.1 == s)).isSome=known.contains s
 | []=>rfl
 | x::r=>by
  have h:=zg6 s r
  have e:(x == s)=(s == x):=by rw [Bool.eq_iff_iff,beq_iff_eq,beq_iff_eq];exact eq_comm
  rw [List.map_cons,List.find?_cons,List.contains_cons,← e]
  cases x == s with
  | true=>rfl
  | false=>simpa using h
theorem e_upK {K:Kit} {P:Program} {F:Fact} {T Kt E:TypeId} {b n m:Nat} {known known':List (List UInt8)} {s:List UInt8} {k y:Lf} (hT:P.underlying T=some (.map Kt E)) (hK:P.underlying Kt=some .string) (hn:F.o n=oKn known) (hm:F.o m=oKn known') (hl:known++[s]=known') (hk:Gives F k (.string ⟨s.toArray⟩)) (hy:Gives F y (.bool true)) (hf:known.contains s=false) :
  Ent.sound K P F (.up T [b] (LF (.mp b)) (LF k) (LF y) [.hp [b] [] n] [.hp [b] [] m]):=by
 subst hl
 refine e_upM zdW (a:=()) hT hK hn (hm.trans (by unfold oKn;rw [List.map_append];rfl)) rfl hk (fun β v W h=>(hy β v W).1 h) ?_
 rw [← Option.isNone_iff_eq_none,← Option.not_isSome,zg6,hf]
 rfl
theorem e_lkK {K:Kit} {P:Program} {F:Fact} {T Kt E:TypeId} {b n:Nat} {known:List (List UInt8)} {s:List UInt8} {k o:Lf} (hT:P.underlying T=some (.map Kt E)) (hK:P.underlying Kt=some .string) (hz:∀W,(zeroValue E).run P W=.ok (.bool false) W) (hn:F.o n=oKn known) (hk:Gives F k (.string ⟨s.toArray⟩)) (ho:Gives F o (.bool (known.contains s))) :
  Ent.sound K P F (.op (.lk T false) [LF (.mp b),LF k] [.hp [b] [] n] (LF o)):=by
 refine e_lkM hT hK hz hn hk fun β W v h1 h2=>(ho β v W).2 ?_
 have h:=zg6 s known
 cases hf:(known.map fun s=>(s,())).find? (fun x=>x.1 == s) with
 | none=>rw [hf] at h;rw [h2 hf,← h];rfl
 | some x=>rw [hf] at h;rw [← h];exact h1 x hf
instance {w0:World} {l:List (List UInt8)}:FiQ (KN w0) (oKn l):=⟨znv⟩
end Go.Proofs.YteimplkdcjapdaaGreatDoor
namespace Go.Proofs.YteimplkdcjapdaaGreatDoor
open Go.RowKit
def SbW (l:List Sb):Prop:=l.length≤1000000∧∀s∈l,s.2.2.length≤1000000∧∀t∈s.2.2,t.2.2.2.length≤1000000∧∀e∈t.2.2.2,nodes e≤1000000
theorem zhK {a:Int}:∀{l:List Stm},stmsE a l=0→∀s∈l,stmE a s=0
 | [],_,s,h=>by cases h
 | x::r,h,s,hs=>by
  rw [stmsE] at h
  split at h
  ·contradiction
  ·rename_i h0
   rcases List.mem_cons.1 hs with rfl | hs
   ·exact Classical.not_not.1 h0
   ·exact zhK h s hs
theorem zaa {l:List Sb} {kn:List (List UInt8)} {k:Nat} {x:Sb} (h:l[k]?=some x) (hs:subsE kn (l.drop k)=0):nameB x.1=true∧kn.contains x.1=false∧¬ x.2.1<0∧¬ x.2.1 > 4∧stmsE x.2.1 x.2.2=0∧subsE (kn++[x.1]) (l.drop (k+1))=0:=by
 obtain ⟨hk,rfl⟩:=List.getElem?_eq_some_iff.1 h
 rw [List.drop_eq_getElem_cons hk,subsE] at hs
 split at hs
 ·simp at hs
 ·rename_i h1
  split at hs
  ·simp at hs
  ·rename_i h2
   split at hs
   ·simp at hs
   ·rename_i h3
    split at hs
    ·contradiction
    ·rename_i h4
     exact ⟨by simpa using h1,by simpa using h2,by omega,by omega,Classical.not_not.1 h4,hs⟩
def zgM:List Atom:=[.sl 1 (.o (.c (.mp 0))),.sl 3 (.o (.c (.p 5003 0))),.sl 7 0,.sl 8 1,.sl 9 2,.sl 36 7,.sl 37 13,.sl 38 14,.bx 900 28 [.h 0],.bx 5003 56 [.h 5,.h 6,.h 7],.hp [0] [] 2]
def ckI_S:LoopS:=⟨9,zgM.map (tnA (jf (hZ 14 [kI 0])) (kf []) (kf [0,1,2])),(.x 2),(drs [7] zgM)⟩
def ckI_t:Tr:=.s [(0,.fb 3 true),(0,.fb 11 false),(7000,.bin .lss 3 14 13)] (.b 15 (.s [(7001,.ia 54 62 4 7 14),(7002,.ld 62 4 16),(7008,.call 74 [.o (.g [17,18,19,20]),6] (.t [])),(7009,.bin .add 3 14 (kI 1))] (.z (.nx (hZ 14 [21]) [] [0,1,2]))) (.z (.xt (.x 2) (hZ 14 []) [] [0,1,2])))
theorem zrF {w0:World} (hL:LibP w0) (l:(List Sb)) (v1:Int) (i:Int) (kn:(List (List UInt8))) (v501:Bool) (n503:Nat) (x504:Sb) (v507:Bool) (v508:Bool) (v510:Bool) (v512:(List (List UInt8))) (v514:Bool) (v516:Bool) (v518:Int) (h502:v501=true) (s515:v514=false) (hv:(x504.2.2.length:Int)=v518) (hc:∀s∈x504.2.2,stmE x504.2.1 s=0) (hw:x504.2.2.length≤1000000∧∀t∈x504.2.2,t.2.2.2.length≤1000000∧∀e∈t.2.2.2,nodes e≤1000000):LpH (KN w0) Tryz.prog 71 ⟨ntOf Tryz.prog 71,[900],[]⟩ ckI_S 1 ⟨14,[sI v518,sB v516,sB v514,sB v510,sB v508,sB v507,.ls 4 cSt kSt x504.2.2,sI x504.2.1,sS x504.1,.p (kSb x504),sB v501,sI i,sI v1,.ls 3 cSb kSb l],[],[oKn [],oKn kn,oKn v512]⟩:=by
 refine zi _ ⟨zgM,ckI_S,(15,0,3),(14,0,3),7000⟩ (T:=Int) (fun t=>⟨15,[sI t,sI v518,sB v516,sB v514,sB v510,sB v508,sB v507,.ls 4 cSt kSt x504.2.2,sI x504.2.1,sS x504.1,.p (kSb x504),sB v501,sI i,sI v1,.ls 3 cSb kSb l],[],[oKn [],oKn kn,oKn v512]⟩) (fun j=>∃k:Nat,j=(k:Int)∧k≤x504.2.2.length) (fun j=>(v518 - j).toNat) (0:Int) (hZ 14 [kI 0]) [] [0,1,2] ckI_t mixed ⟨0,rfl,Nat.zero_le _⟩ rfl rfl rfl rfl (fun _=>rfl) rfl rfl (by kernel_rfl) ?_
 intro j hJ
 obtain ⟨k,hi,hk⟩:=hJ
 refine ai h502 ?_
 refine ai s515 ?_
 intro v1001 e1001
 refine ai (fun h1002=>?_) fun h1002=>?_
 ·
  refine ai (by (have dh1002:=LD e1001 h1002;have hlt:k<x504.2.2.length:=(by omega);exact ⟨k,_,hi,List.getElem?_eq_getElem hlt⟩)) fun n1003 x1004 s1005 s1006=>?_
  have s1007:stmE x504.2.1 x1004=0:=by exact hc _ (List.mem_of_getElem? s1006)
  have s1008:∀e∈x1004.2.2.2,nodes e≤1000000:=by exact (hw.2 _ (List.mem_of_getElem? s1006)).2
  have s1009:x1004.2.2.2.length≤1000000:=by exact (hw.2 _ (List.mem_of_getElem? s1006)).1
  refine cx (.t []) (zsv hL x1004 x504.2.1   s1007 s1008 s1009) rfl ?_
  intro v1010 e1010
  refine nxl v1010 ?_ ?_ rfl
  all_goals (have dh1002:=LD e1001 h1002;have hkn:n1003=k:=(by omega);have hlt:=(List.getElem?_eq_some_iff.1 s1006).1;have x3:v1010=((n1003+1:Nat):Int):=(by rw [← e1010,hi,wri (by omega)];omega))
  ·show (v518 - v1010).toNat<(v518 - j).toNat
   omega
  ·exact ⟨n1003+1,x3,by omega⟩
 ·
  rfl
def zgN:List Atom:=[.sl 1 (.o (.c (.mp 0))),.sl 7 0,.sl 8 1,.sl 9 2,.bx 900 28 [.h 0],.hp [0] [] 1]
def ckO_S:LoopS:=⟨2,zgN.map (tnA (jf [0,1,kI 0]) (kf []) (kf [0,0])),(.x 0),(drs [3,5] zgN)⟩
def ckO_t:Tr:=.s [(5000,.bin .lss 3 2 1)] (.b 3 (.s [(5001,.ia 28 56 3 0 2),(5002,.ld 56 3 4),(5007,.call 73 [5] (.o .c)),(5008,.un .not 8),(5009,.call 72 [9,LF (kI 10)] (.t [])),(0,.raw [(1005013,.op (.lk 120 false) [LF (.mp 0),5] [.hp [0] [] 1] 10)] 1),(5014,.call 72 [10,LF (kI 6)] (.t [])),(0,.raw [(1005018,.up 120 [0] (LF (.mp 0)) 5 (LF (.k (.bool true))) [.hp [0] [] 1] [.hp [0] [] 2])] 0),(5021,.bin .lss 3 6 (kI 0)),(0,.fb 11 false),(5025,.bin .gtr 3 6 (kI 4)),(5027,.call 72 [12,LF (kI 3)] (.t [])),(5030,.ln 54 3 7),(0,.lp ckI_S 1 0),(6032,.bin .add 3 2 (kI 1))] (.z (.nx [0,1,14] [] [0,2]))) (.z (.xt (.x 0) [0,1] [] [0])))
theorem zrG {w0:World} (hL:LibP w0) (l:(List Sb)) (v1:Int) (hv:(l.length:Int)=v1) (h0:subsE [] l=0) (hw:SbW l):LpH (KN w0) Tryz.prog 71 ⟨ntOf Tryz.prog 71,[900],[]⟩ ckO_S 0 ⟨2,[sI v1,.ls 3 cSb kSb l],[],[oKn []]⟩:=by
 refine zi _ ⟨zgN,ckO_S,(3,0,2),(2,0,1),5000⟩ (T:=Int×(List (List UInt8))) (fun t=>⟨3,[sI t.1,sI v1,.ls 3 cSb kSb l],[],[oKn [],oKn t.2]⟩) (fun (i,kn)=>∃k:Nat,i=(k:Int)∧k≤l.length∧subsE kn (l.drop k)=0) (fun (i,kn)=>(v1 - i).toNat) ((0:Int),[]) [0,1,kI 0] [] [0,0] ckO_t mixed ⟨0,rfl,Nat.zero_le _,h0⟩ rfl rfl rfl rfl (fun _=>rfl) rfl rfl (by kernel_rfl) ?_
 rintro ⟨i,kn⟩ hJ
 dsimp only at hJ ⊢
 obtain ⟨k,hi,hk,hs⟩:=hJ
 intro v501 e501
 refine ai (fun h502=>?_) fun h502=>?_
 ·
  refine ai (by (have dh502:=LD e501 h502;have hlt:k<l.length:=(by omega);exact ⟨k,_,hi,List.getElem?_eq_getElem hlt⟩)) fun n503 x504 s505 s506=>?_
  obtain ⟨v507,e507⟩:=LX (nameB x504.1)
  refine cx (.o (.c (sB v507))) (zpJ x504.1 v507 e507) rfl ?_
  intro v508 e508
  have s509:v508=false:=by (have hkn:n503=k:=(by omega);subst hkn;have q:=zaa s506 hs;rw [← e508,← e507,q.1];rfl)
  refine cx (.t []) (zbg v508 (10:Int)   s509) rfl ?_
  obtain ⟨v510,e510⟩:=LX (kn.contains x504.1)
  refine rx [sB v510] [] [] (fun t u w=>⟨e_lkK (s:=x504.1) (Kt:=9) (E:=4) (by kernel_rfl) (by kernel_rfl) (fun W=>by kernel_rfl) rfl (za rfl) (za (by rw [e510];rfl)),trivial⟩) ?_
  have s511:v510=false:=by (have hkn:n503=k:=(by omega);subst hkn;have q:=zaa s506 hs;rw [← e510];exact q.2.1)
  refine cx (.t []) (zbg v510 (6:Int)   s511) rfl ?_
  obtain ⟨v512,e512⟩:=LX (kn++[x504.1])
  have s513:kn.contains x504.1=false:=by (have hkn:n503=k:=(by omega);subst hkn;have q:=zaa s506 hs;exact q.2.1)
  refine rx [] [] [oKn v512] (fun t u w=>⟨e_upK (Kt:=9) (E:=4) (by kernel_rfl) (by kernel_rfl) rfl rfl e512 (za rfl) zf s513,trivial⟩) ?_
  intro v514 e514
  have s515:v514=false:=by (have hkn:n503=k:=(by omega);subst hkn;have q:=zaa s506 hs;rw [← e514];exact decide_eq_false q.2.2.1)
  refine ai s515 ?_
  intro v516 e516
  have s517:v516=false:=by (have hkn:n503=k:=(by omega);subst hkn;have q:=zaa s506 hs;rw [← e516];exact decide_eq_false q.2.2.2.1)
  refine cx (.t []) (zbg v516 (3:Int)   s517) rfl ?_
  intro v518 e518
  refine rx [] [] [] (zrF hL l v1 i kn v501 n503 x504 v507 v508 v510 v512 v514 v516 v518 h502 s515   e518 (zhK (by have hkn:n503=k:=(by omega);subst hkn;have q:=zaa s506 hs;exact q.2.2.2.2.1)) (hw.2 _ (List.mem_of_getElem? s506))) ?_
  intro v519 e519
  refine nxl (v519,v512) ?_ ?_ rfl
  all_goals (have dh502:=LD e501 h502;have hkn:n503=k:=(by omega);subst hkn;have q:=zaa s506 hs;have hlt:=(List.getElem?_eq_some_iff.1 s506).1;have hl6:=hw.1;have x3:v519=((n503+1:Nat):Int):=(by rw [← e519,hi,wri (by omega)];omega))
  ·show (v1 - v519).toNat<(v1 - i).toNat
   omega
  ·exact ⟨n503+1,x3,by omega,by rw [← e512];exact q.2.2.2.2.2⟩
 ·
  rfl
def zqY:Tr:=.s [(0,.raw [(1000000,.mkm 0)] 0),(3,.ln 28 3 0),(0,.lp ckO_S 0 0)] (.z (.ret false (.t []) [.bx 900 28 [.h 0]]))
theorem t_ck1 {w0:World} (hL:LibP w0) (l:List Sb) (h0:subsE [] l=0) (hw:SbW l):BFun false (KN w0) Tryz.prog 71 [.o (.c (.p 0 0))] [(28,[.d (pLs cSb l)])] (.t []) [(28,[.d (pLs cSb l)])]:=by
 refine tfn w0 71 ⟨[LF (.p 900 0)],[.bx 900 28 [.h 0]],[],0,0⟩ ⟨1,[.ls 3 cSb kSb l],[],[]⟩ zqY (by kernel_rfl) ?_
 refine rx [] [] [oKn []] (fun t u w=>⟨e_mkm rfl,trivial⟩) ?_
 intro v1 e1
 refine rx [] [] [] (zrG hL l v1    e1 h0 hw) ?_
 intro hc
 exact con_b (pan:=false) (hc)
theorem zq1 {w0:World} (hL:LibP w0) (l:List Sb) (r:Int) (hr:(0:Int)=r) (h0:subsE [] l=0) (hw:SbW l):BFun false (KN w0) Tryz.prog 70 [.o (.c (.q 71 [(0,0)]))] [(28,[.d (pLs cSb l)])] (.o (.c (.d (pI r)))) [(28,[.d (pLs cSb l)])]:=by
 subst hr
 exact znx (caps:=[(0,0)]) (fun _ _=>qO (by kernel_rfl)) (t_ck1 hL l h0 hw) ⟨⟨zx qg,trivial⟩,trivial⟩ ⟨⟨zx qg,trivial⟩,trivial⟩
def qZ (l:List Sb) (k:Nat):Nat:=2*l.length+((l.take k).map fun s=>s.2.2.length).sum
theorem zg9 {l:List Sb} {n:Nat} {x:Sb} (h:l[n]?=some x):qZ l (n+1)=qZ l n+x.2.2.length:=by
 unfold qZ
 rw [List.take_add_one,h,List.map_append,List.sum_append]
 simp
 omega
theorem zco:∀l:List Sb,zay l=2*l.length+(l.map fun s=>s.2.2.length).sum
 | []=>rfl
 | s::r=>by rw [zay,zco r];simp;omega
theorem zjE (l:List Sb):qZ l l.length=zay l:=by unfold qZ;rw [List.take_length,zco]
theorem zbX (l:List Sb) (k:Nat):qZ l k≤zay l:=by
 rw [zco]
 unfold qZ
 have h:(l.map fun s=>s.2.2.length).sum=((l.take k).map fun s=>s.2.2.length).sum+((l.drop k).map fun s=>s.2.2.length).sum:=by
  rw [← List.sum_append,← List.map_append,List.take_append_drop]
 omega
theorem qX {l:List Sb} (h:zD l=0):zay l≠0∧zay l≤120∧subsE [] l=0:=by
 unfold zD at h
 split at h
 ·simp at h
 ·exact ⟨by omega,by omega,h⟩
def zgK:List Atom:=[.sl 1 (.o (.c (.p 0 0))),.sl 2 (.o (.c (.k (.int .i64 0)))),.sl 3 5,.sl 9 0,.sl 10 3,.sl 11 4,.bx 0 28 [.h 0]]
def chA_S:LoopS:=⟨3,zgK.map (tnA (jf (hZ 4 [kI 0,2])) (kf []) (kf [])),(.x 0),(drs [5] zgK).map (tnA (jf (hZ 5 [4])) (kf []) (kf []))⟩
def chA_t:Tr:=.s [(5000,.bin .lss 3 4 3)] (.b 6 (.s [(5001,.ia 28 56 3 0 4),(5002,.ld 56 3 7),(5008,.ln 54 3 10),(5009,.bin .add 3 5 11),(5011,.bin .add 3 4 (kI 1))] (.z (.nx (hZ 4 [13,12]) [] []))) (.z (.xt (.x 0) (hZ 4 [5]) [] [])))
theorem zrC {w0:World} (l:(List Sb)) (v1:Int) (v2:Int) (v3:Int) (n2:Int) (hv:(l.length:Int)=v3) (hm:v2=(qZ l 0:Int)) (h:zD l=0) (hO:n2=(zay l:Int)):LpH (KN w0) Tryz.prog 31 ⟨ntOf Tryz.prog 31,[],[]⟩ chA_S 0 ⟨5,[sI n2,sI v3,sI v2,sI v1,.ls 3 cSb kSb l],[],[]⟩:=by
 refine zi _ ⟨zgK,chA_S,(6,0,0),(5,0,0),5000⟩ (T:=Int×Int) (fun t=>⟨6,[sI t.2,sI t.1,sI v3,sI v2,sI v1,.ls 3 cSb kSb l],[],[]⟩) (fun (i,n)=>∃k:Nat,i=(k:Int)∧k≤l.length∧n=(qZ l k:Int)) (fun (i,n)=>((l.length:Int) - i).toNat) ((0:Int),v2) (hZ 4 [kI 0,2]) [] [] chA_t mixed ⟨0,rfl,Nat.zero_le _,hm⟩ rfl rfl rfl rfl (fun _=>rfl) rfl rfl (by kernel_rfl) ?_
 rintro ⟨i,n⟩ hJ
 dsimp only at hJ ⊢
 obtain ⟨k,hi,hk,hn⟩:=hJ
 have hkl:=zbX l k
 intro v501 e501
 refine ai (fun h502=>?_) fun h502=>?_
 ·
  refine ai (by (have dh502:=LD e501 h502;have hlt:k<l.length:=(by omega);exact ⟨k,_,hi,List.getElem?_eq_getElem hlt⟩)) fun n503 x504 s505 s506=>?_
  intro v507 e507 v508 e508 v509 e509
  refine nxl (v509,v508) ?_ ?_ rfl
  all_goals (have dh502:=LD e501 h502;have hkn:n503=k:=(by omega);subst hkn;have hlt:=(List.getElem?_eq_some_iff.1 s506).1;have hc:=qX h;have hll:=zbX l (n503+1);have hs:=zg9 s506;have hlen:2*l.length≤qZ l 0:=(by unfold qZ;omega);have hl0:=zbX l 0;have x3:v509=((n503+1:Nat):Int):=(by rw [← e509,hi,wri (by omega)];omega);have x4:v508=(qZ l (n503+1):Int):=(by rw [← e508,← e507,hn,wri (by omega)];omega))
  ·show ((l.length:Int) - v509).toNat<((l.length:Int) - i).toNat
   omega
  ·exact ⟨n503+1,x3,by omega,x4⟩
 ·
  have hq:((n)=n2)∧True:=by
   refine ⟨?_,trivial⟩
   (have dh502:=LE e501 h502;have hkl2:k=l.length:=(by omega);rw [hkl2,zjE] at hn;exact hn.trans hO.symm)
  obtain ⟨q0,-⟩:=hq
  rw [← q0]
  rfl
def zmk:Tr:=.s [(3,.ln 28 3 0),(4,.bin .mul 3 (kI 2) 1),(7,.ln 28 3 0),(0,.lp chA_S 0 1),(1010,.bin .eql 3 4 (kI 0)),(0,.fb 5 false),(1013,.bin .gtr 3 4 (kI 120)),(0,.fb 6 false),(0,.raw [(1001016,.call ⟨70,[.o (.c (.q 71 [(0,0)]))],[.bx 0 28 [.h 0]],7,[.bx 0 28 [.h 0]]⟩)] 1)] (.z (.ret false (7) []))
theorem zqW {w0:World} (hL:LibP w0) (l:List Sb) (r:Int) (hr:(0:Int)=r) (h:zD l=0) (hw:SbW l):Fun (KN w0) Tryz.prog 31 [.o (.c (pLs cSb l))] (.o (.c (pI r))):=by
 refine tfn w0 31 ⟨[0],[],[],0,0⟩ ⟨1,[.ls 3 cSb kSb l],[],[]⟩ zmk (by kernel_rfl) ?_
 intro v1 e1 v2 e2 v3 e3
 obtain ⟨n2,hO_chA⟩:∃(n2:Int),n2=(zay l:Int):=⟨_,rfl⟩
 refine rx [sI n2] [] [] (zrC l v1 v2 v3  n2  e3 (by have hc:=qX h;have hl0:=zbX l 0;have e0:qZ l 0=2*l.length:=(by unfold qZ;simp);rw [← e2,← e1,wri (by omega)];omega) h hO_chA) ?_
 intro v4 e4
 have s5:v4=false:=by (have hc:=qX h;rw [← e4];exact beq_eq_false_iff_ne.2 (by omega))
 refine ai s5 ?_
 intro v6 e6
 have s7:v6=false:=by (have hc:=qX h;rw [← e6];exact decide_eq_false (by omega))
 refine ai s7 ?_
 obtain ⟨v8,e8⟩:=LX ((0:Int))
 have s9:subsE [] l=0:=by exact (qX h).2.2
 have s10:SbW l:=by exact hw
 refine rx [sI v8] [] [] (fun t u w=>⟨b_con (pan:=false) (zq1 hL l v8 e8 s9 s10),trivial⟩) ?_
 intro hc
 refine Fun.fin (r:=.o (.c (pI v8))) (zc (hc)) (fun v W D h=>?_)
 have r0:r=v8:=by
  rw [← hr];simp_all
 rw [r0];exact h
end Go.Proofs.YteimplkdcjapdaaGreatDoor
