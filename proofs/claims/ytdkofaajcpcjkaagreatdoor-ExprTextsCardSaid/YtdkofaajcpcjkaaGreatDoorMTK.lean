/-
  Merged: ExH.
-/
import Derived.Test.YtdkofaajcpcjkaaGreatDoorMTJ
import Derived.MapKept
set_option linter.unusedSimpArgs false
set_option linter.unusedVariables false
set_option maxRecDepth 100000
namespace Go.Proofs.YtdkofaajcpcjkaaGreatDoor
open Go.RowKit
theorem ziv {w0:World} (a:Int) (b:Int) (v1:Int) (e1:(IntKind.i64.wrap (a+b))=v1):Fun (KN w0) Tryz.prog 58 [.o (.c (pI a)),.o (.c (pI b))] (.o (.c (pI v1))):=
 zk (zr (F:=FL [pI a,pI b,pI v1] []) (C:=[(1000003,.bin .add 3 (yh 0) (yh 1) (yh 2))]) (k:=⟨58,[yh 0,yh 1],[],yh 2,[]⟩) 0 (zg ⟨za,za,za,trivial⟩) ⟨e_bin (zb rfl) (zb rfl) (zb rfl) (r_ar (congrArg some e1)),
  trivial⟩ mixed (by kernel_rfl))
theorem zkU {w0:World} (a b:Int) (r:Int) (hr:operX 3 a b=r) (ha:valB a=true) (hb:valB b=true):Fun (KN w0) Tryz.prog 58 [.o (.c (pI a)),.o (.c (pI b))] (.o (.c (pI r))):=by
 obtain ⟨v1,e1⟩:∃v,(IntKind.i64.wrap (a+b))=v:=⟨_,rfl⟩
 refine Fun.imp (ziv a b v1 e1) (fun _ _ _ h=>h) (fun v W D h=>?_)
 have r0:r=v1:=by
  (rw [← hr,← e1,← wri (op_in 3 ha hb)];rfl)
 rw [r0];exact h
theorem ziw {w0:World} (a:Int) (b:Int) (v1:Int) (e1:(IntKind.i64.wrap (a - b))=v1):Fun (KN w0) Tryz.prog 59 [.o (.c (pI a)),.o (.c (pI b))] (.o (.c (pI v1))):=
 zk (zr (F:=FL [pI a,pI b,pI v1] []) (C:=[(1000003,.bin .sub 3 (yh 0) (yh 1) (yh 2))]) (k:=⟨59,[yh 0,yh 1],[],yh 2,[]⟩) 0 (zg ⟨za,za,za,trivial⟩) ⟨e_bin (zb rfl) (zb rfl) (zb rfl) (r_ar (congrArg some e1)),
  trivial⟩ mixed (by kernel_rfl))
theorem zkV {w0:World} (a b:Int) (r:Int) (hr:operX 4 a b=r) (ha:valB a=true) (hb:valB b=true):Fun (KN w0) Tryz.prog 59 [.o (.c (pI a)),.o (.c (pI b))] (.o (.c (pI r))):=by
 obtain ⟨v1,e1⟩:∃v,(IntKind.i64.wrap (a - b))=v:=⟨_,rfl⟩
 refine Fun.imp (ziw a b v1 e1) (fun _ _ _ h=>h) (fun v W D h=>?_)
 have r0:r=v1:=by
  (rw [← hr,← e1,← wri (op_in 4 ha hb)];rfl)
 rw [r0];exact h
theorem zix {w0:World} (a:Int) (b:Int) (v1:Int) (e1:(IntKind.i64.wrap (a*b))=v1):Fun (KN w0) Tryz.prog 60 [.o (.c (pI a)),.o (.c (pI b))] (.o (.c (pI v1))):=
 zk (zr (F:=FL [pI a,pI b,pI v1] []) (C:=[(1000003,.bin .mul 3 (yh 0) (yh 1) (yh 2))]) (k:=⟨60,[yh 0,yh 1],[],yh 2,[]⟩) 0 (zg ⟨za,za,za,trivial⟩) ⟨e_bin (zb rfl) (zb rfl) (zb rfl) (r_ar (congrArg some e1)),
  trivial⟩ mixed (by kernel_rfl))
theorem zkW {w0:World} (a b:Int) (r:Int) (hr:operX 5 a b=r) (ha:valB a=true) (hb:valB b=true):Fun (KN w0) Tryz.prog 60 [.o (.c (pI a)),.o (.c (pI b))] (.o (.c (pI r))):=by
 obtain ⟨v1,e1⟩:∃v,(IntKind.i64.wrap (a*b))=v:=⟨_,rfl⟩
 refine Fun.imp (zix a b v1 e1) (fun _ _ _ h=>h) (fun v W D h=>?_)
 have r0:r=v1:=by
  (rw [← hr,← e1,← wri (op_in 5 ha hb)];rfl)
 rw [r0];exact h
theorem ziy {w0:World} (a:Int) (b:Int) (v1:Int) (e1:((if b<a then b else a))=v1):Fun (KN w0) Tryz.prog 61 [.o (.c (pI a)),.o (.c (pI b))] (.o (.c (pI v1))):=
 zk (zr (F:=FL [pI a,pI b,pI v1] []) (C:=[(1000003,.op (.min [3,3] 3) [yh 0,yh 1] [] (yh 2))]) (k:=⟨61,[yh 0,yh 1],[],yh 2,[]⟩) 0 (zg ⟨za,za,za,trivial⟩) ⟨e_op2 (zb rfl) (zb rfl) (zb rfl) (fun W=>by rw [← e1];exact zaV W),
  trivial⟩ mixed (by kernel_rfl))
theorem zkX {w0:World} (a b:Int) (r:Int) (hr:operX 6 a b=r) (ha:valB a=true) (hb:valB b=true):Fun (KN w0) Tryz.prog 61 [.o (.c (pI a)),.o (.c (pI b))] (.o (.c (pI r))):=by
 obtain ⟨v1,e1⟩:∃v,((if b<a then b else a))=v:=⟨_,rfl⟩
 refine Fun.imp (ziy a b v1 e1) (fun _ _ _ h=>h) (fun v W D h=>?_)
 have r0:r=v1:=by
  (rw [← hr,← e1];show min a b=_;split<;>omega)
 rw [r0];exact h
theorem ziz {w0:World} (a:Int) (b:Int) (v1:Int) (e1:((if b > a then b else a))=v1):Fun (KN w0) Tryz.prog 62 [.o (.c (pI a)),.o (.c (pI b))] (.o (.c (pI v1))):=
 zk (zr (F:=FL [pI a,pI b,pI v1] []) (C:=[(1000003,.op (.max [3,3] 3) [yh 0,yh 1] [] (yh 2))]) (k:=⟨62,[yh 0,yh 1],[],yh 2,[]⟩) 0 (zg ⟨za,za,za,trivial⟩) ⟨e_op2 (zb rfl) (zb rfl) (zb rfl) (fun W=>by rw [← e1];exact zo8 W),
  trivial⟩ mixed (by kernel_rfl))
theorem zkY {w0:World} (a b:Int) (r:Int) (hr:operX 7 a b=r) (ha:valB a=true) (hb:valB b=true):Fun (KN w0) Tryz.prog 62 [.o (.c (pI a)),.o (.c (pI b))] (.o (.c (pI r))):=by
 obtain ⟨v1,e1⟩:∃v,((if b > a then b else a))=v:=⟨_,rfl⟩
 refine Fun.imp (ziz a b v1 e1) (fun _ _ _ h=>h) (fun v W D h=>?_)
 have r0:r=v1:=by
  (rw [← hr,← e1];show max a b=_;split<;>omega)
 rw [r0];exact h
def doesE:Array MapEntry:=#[⟨.int .i64 3,.func (.func 58) #[] #[],0⟩,⟨.int .i64 4,.func (.func 59) #[] #[],1⟩,⟨.int .i64 5,.func (.func 60) #[] #[],2⟩,⟨.int .i64 6,.func (.func 61) #[] #[],3⟩,⟨.int .i64 7,.func (.func 62) #[] #[],4⟩]
def pM:Pred:=fun v W D=>∃r,v=.map (some r)∧D r∧W.heap[r]?=some (.map doesE 5)
theorem zR {K:Kit}:FineC K pM:=⟨fun hS hO hD ⟨r,h1,h2,h3⟩=>⟨r,h1,hD r h2,(hO.block r (Array.getElem?_eq_some_iff.1 h3).1 fun hs=>(hS r hs).2.1 h2).trans h3⟩,fun ⟨r,h1,_⟩=>by rw [h1];rfl⟩
theorem e_lk {w0:World} {F:Fact} {x k:Lf} {n:Int} {g:FuncId} {i:Nat} (hx:Says F x pM) (hk:Gives F k (.int .i64 n)) (h:Instr.findNow (.int .i64) (.int .i64 n) doesE.toList 0=some (some (i,.func (.func g) #[] #[]))):(Ent.op (.lk 88 false) [LF x,LF k] [] (.o (.c (.q g [])))).sound (KN w0) Tryz.prog F:=by
 intro β W vs hs _ _
 match vs,hs with
 | [v,u],⟨h1,h2,_⟩ =>
  obtain ⟨r,hv,hD,hh⟩:=(hx β v W).1 h1
  have hu:u=.int .i64 n:=(hk β u W).1 h2
  subst hv;subst hu
  refine ⟨.func (.func g) #[] #[],?_,⟨#[],rfl,trivial⟩⟩
  simp only [Sig.sem]
  have hm:Tryz.prog.underlying 88=some (.map 3 70):=by kernel_rfl
  have hd:Tryz.prog.underlying 3=some (.int .i64):=by kernel_rfl
  simp [Instr.lookup,run_underlying hm,MapKept.run_getObj_map hh,MapKept.run_checkKey hd (k:=.int .i64 n) (by trivial),MapKept.run_findKey hd h,Result.andThen]
 | [],h=>exact h.elim
 | [_],h=>exact h.2.elim
 | _::_::_::_,h=>exact h.2.2.elim
theorem find3:Instr.findNow (.int .i64) (.int .i64 3) doesE.toList 0=some (some (0,.func (.func 58) #[] #[])):=by kernel_rfl
theorem find4:Instr.findNow (.int .i64) (.int .i64 4) doesE.toList 0=some (some (1,.func (.func 59) #[] #[])):=by kernel_rfl
theorem find5:Instr.findNow (.int .i64) (.int .i64 5) doesE.toList 0=some (some (2,.func (.func 60) #[] #[])):=by kernel_rfl
theorem find6:Instr.findNow (.int .i64) (.int .i64 6) doesE.toList 0=some (some (3,.func (.func 61) #[] #[])):=by kernel_rfl
theorem find7:Instr.findNow (.int .i64) (.int .i64 7) doesE.toList 0=some (some (4,.func (.func 62) #[] #[])):=by kernel_rfl
theorem zaD {w0:World} (k r:Int) (hr:k=r):BFun true (KN w0) Tryz.prog 25 [.o (.c (.d (pI k)))] [] (.o (.c (.d (pV (.iface 44 (.int .i64 r)))))) []:=by
 subst hr
 intro W D vs qs hnd ha hpre hfit
 match vs,qs,ha,hpre with
 | [v],[],⟨hv,_⟩,_ =>
  obtain rfl:v=.int .i64 k:=hv
  have hp:∀w:World,(Instr.panic (.iface 44 (.int .i64 k))).run Tryz.prog w=.halt (.panic (.iface 44 (.int .i64 k))) w:=fun w=>rfl
  go_enter Tryz.func25,Tryz.ntmps25
  go_wp2
  exact ⟨rfl,_,D,rfl,rfl,trivial,⟨Oth.refl _ _,fun _ h=>h,fun _ h=>.inl h,hfit.dlt⟩⟩
end Go.Proofs.YtdkofaajcpcjkaaGreatDoor
