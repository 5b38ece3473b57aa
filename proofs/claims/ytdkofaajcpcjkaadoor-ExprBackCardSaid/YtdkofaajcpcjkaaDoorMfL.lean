/-
  Merged: ExH.
-/
import Derived.Test.YtdkofaajcpcjkaaDoorMfK
import Derived.MapKept
set_option linter.unusedSimpArgs false
set_option linter.unusedVariables false
set_option maxRecDepth 100000
namespace Go.Proofs.YtdkofaajcpcjkaaDoor
open Go.RowKit
theorem zh2 {w0:World} (a:Int) (b:Int) (v1:Int) (e1:(IntKind.i64.wrap (a+b))=v1):Fun (KN w0) Tryd.prog 34 [.o (.c (pI a)),.o (.c (pI b))] (.o (.c (pI v1))):=
 zi (zk (F:=FL [pI a,pI b,pI v1] []) (C:=[(1000003,.bin .add 3 (yh 0) (yh 1) (yh 2))]) (k:=⟨34,[yh 0,yh 1],[],yh 2,[]⟩) 0 (zg ⟨za,za,za,trivial⟩) ⟨e_bin (zb rfl) (zb rfl) (zb rfl) (r_ar (congrArg some e1)),
  trivial⟩ mixed (by kernel_rfl))
theorem zks {w0:World} (a b:Int) (r:Int) (hr:operX 3 a b=r) (ha:valB a=true) (hb:valB b=true):Fun (KN w0) Tryd.prog 34 [.o (.c (pI a)),.o (.c (pI b))] (.o (.c (pI r))):=by
 obtain ⟨v1,e1⟩:∃v,(IntKind.i64.wrap (a+b))=v:=⟨_,rfl⟩
 refine Fun.imp (zh2 a b v1 e1) (fun _ _ _ h=>h) (fun v W D h=>?_)
 have r0:r=v1:=by
  (rw [← hr,← e1,← wri (op_in 3 ha hb)];rfl)
 rw [r0];exact h
theorem zh3 {w0:World} (a:Int) (b:Int) (v1:Int) (e1:(IntKind.i64.wrap (a - b))=v1):Fun (KN w0) Tryd.prog 35 [.o (.c (pI a)),.o (.c (pI b))] (.o (.c (pI v1))):=
 zi (zk (F:=FL [pI a,pI b,pI v1] []) (C:=[(1000003,.bin .sub 3 (yh 0) (yh 1) (yh 2))]) (k:=⟨35,[yh 0,yh 1],[],yh 2,[]⟩) 0 (zg ⟨za,za,za,trivial⟩) ⟨e_bin (zb rfl) (zb rfl) (zb rfl) (r_ar (congrArg some e1)),
  trivial⟩ mixed (by kernel_rfl))
theorem zkt {w0:World} (a b:Int) (r:Int) (hr:operX 4 a b=r) (ha:valB a=true) (hb:valB b=true):Fun (KN w0) Tryd.prog 35 [.o (.c (pI a)),.o (.c (pI b))] (.o (.c (pI r))):=by
 obtain ⟨v1,e1⟩:∃v,(IntKind.i64.wrap (a - b))=v:=⟨_,rfl⟩
 refine Fun.imp (zh3 a b v1 e1) (fun _ _ _ h=>h) (fun v W D h=>?_)
 have r0:r=v1:=by
  (rw [← hr,← e1,← wri (op_in 4 ha hb)];rfl)
 rw [r0];exact h
theorem zh4 {w0:World} (a:Int) (b:Int) (v1:Int) (e1:(IntKind.i64.wrap (a*b))=v1):Fun (KN w0) Tryd.prog 36 [.o (.c (pI a)),.o (.c (pI b))] (.o (.c (pI v1))):=
 zi (zk (F:=FL [pI a,pI b,pI v1] []) (C:=[(1000003,.bin .mul 3 (yh 0) (yh 1) (yh 2))]) (k:=⟨36,[yh 0,yh 1],[],yh 2,[]⟩) 0 (zg ⟨za,za,za,trivial⟩) ⟨e_bin (zb rfl) (zb rfl) (zb rfl) (r_ar (congrArg some e1)),
  trivial⟩ mixed (by kernel_rfl))
theorem zku {w0:World} (a b:Int) (r:Int) (hr:operX 5 a b=r) (ha:valB a=true) (hb:valB b=true):Fun (KN w0) Tryd.prog 36 [.o (.c (pI a)),.o (.c (pI b))] (.o (.c (pI r))):=by
 obtain ⟨v1,e1⟩:∃v,(IntKind.i64.wrap (a*b))=v:=⟨_,rfl⟩
 refine Fun.imp (zh4 a b v1 e1) (fun _ _ _ h=>h) (fun v W D h=>?_)
 have r0:r=v1:=by
  (rw [← hr,← e1,← wri (op_in 5 ha hb)];rfl)
 rw [r0];exact h
theorem zh5 {w0:World} (a:Int) (b:Int) (v1:Int) (e1:((if b<a then b else a))=v1):Fun (KN w0) Tryd.prog 37 [.o (.c (pI a)),.o (.c (pI b))] (.o (.c (pI v1))):=
 zi (zk (F:=FL [pI a,pI b,pI v1] []) (C:=[(1000003,.op (.min [3,3] 3) [yh 0,yh 1] [] (yh 2))]) (k:=⟨37,[yh 0,yh 1],[],yh 2,[]⟩) 0 (zg ⟨za,za,za,trivial⟩) ⟨e_op2 (zb rfl) (zb rfl) (zb rfl) (fun W=>by rw [← e1];exact zaB W),
  trivial⟩ mixed (by kernel_rfl))
theorem zkv {w0:World} (a b:Int) (r:Int) (hr:operX 6 a b=r) (ha:valB a=true) (hb:valB b=true):Fun (KN w0) Tryd.prog 37 [.o (.c (pI a)),.o (.c (pI b))] (.o (.c (pI r))):=by
 obtain ⟨v1,e1⟩:∃v,((if b<a then b else a))=v:=⟨_,rfl⟩
 refine Fun.imp (zh5 a b v1 e1) (fun _ _ _ h=>h) (fun v W D h=>?_)
 have r0:r=v1:=by
  (rw [← hr,← e1];show min a b=_;split<;>omega)
 rw [r0];exact h
theorem zh6 {w0:World} (a:Int) (b:Int) (v1:Int) (e1:((if b > a then b else a))=v1):Fun (KN w0) Tryd.prog 38 [.o (.c (pI a)),.o (.c (pI b))] (.o (.c (pI v1))):=
 zi (zk (F:=FL [pI a,pI b,pI v1] []) (C:=[(1000003,.op (.max [3,3] 3) [yh 0,yh 1] [] (yh 2))]) (k:=⟨38,[yh 0,yh 1],[],yh 2,[]⟩) 0 (zg ⟨za,za,za,trivial⟩) ⟨e_op2 (zb rfl) (zb rfl) (zb rfl) (fun W=>by rw [← e1];exact zmI W),
  trivial⟩ mixed (by kernel_rfl))
theorem zkw {w0:World} (a b:Int) (r:Int) (hr:operX 7 a b=r) (ha:valB a=true) (hb:valB b=true):Fun (KN w0) Tryd.prog 38 [.o (.c (pI a)),.o (.c (pI b))] (.o (.c (pI r))):=by
 obtain ⟨v1,e1⟩:∃v,((if b > a then b else a))=v:=⟨_,rfl⟩
 refine Fun.imp (zh6 a b v1 e1) (fun _ _ _ h=>h) (fun v W D h=>?_)
 have r0:r=v1:=by
  (rw [← hr,← e1];show max a b=_;split<;>omega)
 rw [r0];exact h
def doesE:Array MapEntry:=#[⟨.int .i64 3,.func (.func 34) #[] #[],0⟩,⟨.int .i64 4,.func (.func 35) #[] #[],1⟩,⟨.int .i64 5,.func (.func 36) #[] #[],2⟩,⟨.int .i64 6,.func (.func 37) #[] #[],3⟩,⟨.int .i64 7,.func (.func 38) #[] #[],4⟩]
def pM:Pred:=fun v W D=>∃r,v=.map (some r)∧D r∧W.heap[r]?=some (.map doesE 5)
theorem zN {K:Kit}:FineC K pM:=⟨fun hS hO hD ⟨r,h1,h2,h3⟩=>⟨r,h1,hD r h2,(hO.block r (Array.getElem?_eq_some_iff.1 h3).1 fun hs=>(hS r hs).2.1 h2).trans h3⟩,fun ⟨r,h1,_⟩=>by rw [h1];rfl⟩
theorem e_lk {w0:World} {F:Fact} {x k:Lf} {n:Int} {g:FuncId} {i:Nat} (hx:Says F x pM) (hk:Gives F k (.int .i64 n)) (h:Instr.findNow (.int .i64) (.int .i64 n) doesE.toList 0=some (some (i,.func (.func g) #[] #[]))):(Ent.op (.lk 60 false) [LF x,LF k] [] (.o (.c (.q g [])))).sound (KN w0) Tryd.prog F:=by
 intro β W vs hs _ _
 match vs,hs with
 | [v,u],⟨h1,h2,_⟩ =>
  obtain ⟨r,hv,hD,hh⟩:=(hx β v W).1 h1
  have hu:u=.int .i64 n:=(hk β u W).1 h2
  subst hv;subst hu
  refine ⟨.func (.func g) #[] #[],?_,⟨#[],rfl,trivial⟩⟩
  simp only [Sig.sem]
  have hm:Tryd.prog.underlying 60=some (.map 3 32):=by kernel_rfl
  have hd:Tryd.prog.underlying 3=some (.int .i64):=by kernel_rfl
  simp [Instr.lookup,run_underlying hm,MapKept.run_getObj_map hh,MapKept.run_checkKey hd (k:=.int .i64 n) (by trivial),MapKept.run_findKey hd h,Result.andThen]
 | [],h=>exact h.elim
 | [_],h=>exact h.2.elim
 | _::_::_::_,h=>exact h.2.2.elim
theorem find3:Instr.findNow (.int .i64) (.int .i64 3) doesE.toList 0=some (some (0,.func (.func 34) #[] #[])):=by kernel_rfl
theorem find4:Instr.findNow (.int .i64) (.int .i64 4) doesE.toList 0=some (some (1,.func (.func 35) #[] #[])):=by kernel_rfl
theorem find5:Instr.findNow (.int .i64) (.int .i64 5) doesE.toList 0=some (some (2,.func (.func 36) #[] #[])):=by kernel_rfl
theorem find6:Instr.findNow (.int .i64) (.int .i64 6) doesE.toList 0=some (some (3,.func (.func 37) #[] #[])):=by kernel_rfl
theorem find7:Instr.findNow (.int .i64) (.int .i64 7) doesE.toList 0=some (some (4,.func (.func 38) #[] #[])):=by kernel_rfl
theorem zai {w0:World} (k r:Int) (hr:k=r):BFun true (KN w0) Tryd.prog 41 [.o (.c (.d (pI k)))] [] (.o (.c (.d (pV (.iface 33 (.int .i64 r)))))) []:=by
 subst hr
 intro W D vs qs hnd ha hpre hfit
 match vs,qs,ha,hpre with
 | [v],[],⟨hv,_⟩,_ =>
  obtain rfl:v=.int .i64 k:=hv
  have hp:∀w:World,(Instr.panic (.iface 33 (.int .i64 k))).run Tryd.prog w=.halt (.panic (.iface 33 (.int .i64 k))) w:=fun w=>rfl
  go_enter Tryd.func41,Tryd.ntmps41
  go_wp2
  exact ⟨rfl,_,D,rfl,rfl,trivial,⟨Oth.refl _ _,fun _ h=>h,fun _ h=>.inl h,hfit.dlt⟩⟩
end Go.Proofs.YtdkofaajcpcjkaaDoor
