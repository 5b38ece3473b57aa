/-
  Merged: ExH.
-/
import Derived.Test.YteimplkdcjapdaaGreatDoorPuK
import Derived.MapKept
set_option linter.unusedSimpArgs false
set_option linter.unusedVariables false
set_option maxRecDepth 100000
namespace Go.Proofs.YteimplkdcjapdaaGreatDoor
open Go.RowKit
def zm1:Tr:=.s [(3,.bin .add 3 0 1)] (.z (.ret false (2) []))
theorem zm0 {w0:World} (a b:Int) (r:Int) (hr:operX 3 a b=r) (ha:valB a=true) (hb:valB b=true):Fun (KN w0) Tryz.prog 135 [.o (.c (pI a)),.o (.c (pI b))] (.o (.c (pI r))):=by
 refine tfn w0 135 ⟨[0,1],[],[],0,0⟩ ⟨2,[sI b,sI a],[],[]⟩ zm1 (by kernel_rfl) ?_
 intro v1 e1
 intro hc
 refine Fun.fin (r:=.o (.c (pI v1))) (zc (hc)) (fun v W D h=>?_)
 have r0:r=v1:=by
  (rw [← hr,← e1,← wri (op_in 3 ha hb)];rfl)
 rw [r0];exact h
def zm3:Tr:=.s [(3,.bin .sub 3 0 1)] (.z (.ret false (2) []))
theorem zm2 {w0:World} (a b:Int) (r:Int) (hr:operX 4 a b=r) (ha:valB a=true) (hb:valB b=true):Fun (KN w0) Tryz.prog 136 [.o (.c (pI a)),.o (.c (pI b))] (.o (.c (pI r))):=by
 refine tfn w0 136 ⟨[0,1],[],[],0,0⟩ ⟨2,[sI b,sI a],[],[]⟩ zm3 (by kernel_rfl) ?_
 intro v1 e1
 intro hc
 refine Fun.fin (r:=.o (.c (pI v1))) (zc (hc)) (fun v W D h=>?_)
 have r0:r=v1:=by
  (rw [← hr,← e1,← wri (op_in 4 ha hb)];rfl)
 rw [r0];exact h
def zm5:Tr:=.s [(3,.bin .mul 3 0 1)] (.z (.ret false (2) []))
theorem zm4 {w0:World} (a b:Int) (r:Int) (hr:operX 5 a b=r) (ha:valB a=true) (hb:valB b=true):Fun (KN w0) Tryz.prog 137 [.o (.c (pI a)),.o (.c (pI b))] (.o (.c (pI r))):=by
 refine tfn w0 137 ⟨[0,1],[],[],0,0⟩ ⟨2,[sI b,sI a],[],[]⟩ zm5 (by kernel_rfl) ?_
 intro v1 e1
 intro hc
 refine Fun.fin (r:=.o (.c (pI v1))) (zc (hc)) (fun v W D h=>?_)
 have r0:r=v1:=by
  (rw [← hr,← e1,← wri (op_in 5 ha hb)];rfl)
 rw [r0];exact h
def zm7:Tr:=.s [(0,.raw [(1000003,.op (.min [3,3] 3) [0,1] [] 2)] 1)] (.z (.ret false (2) []))
theorem zm6 {w0:World} (a b:Int) (r:Int) (hr:operX 6 a b=r) (ha:valB a=true) (hb:valB b=true):Fun (KN w0) Tryz.prog 138 [.o (.c (pI a)),.o (.c (pI b))] (.o (.c (pI r))):=by
 refine tfn w0 138 ⟨[0,1],[],[],0,0⟩ ⟨2,[sI b,sI a],[],[]⟩ zm7 (by kernel_rfl) ?_
 obtain ⟨v1,e1⟩:=LX ((if b<a then b else a))
 refine rx [sI v1] [] [] (fun t u w=>⟨e_op2 (za rfl) (za rfl) (za rfl) (fun W=>by rw [← e1];exact zlW W),trivial⟩) ?_
 intro hc
 refine Fun.fin (r:=.o (.c (pI v1))) (zc (hc)) (fun v W D h=>?_)
 have r0:r=v1:=by
  (rw [← hr,← e1];show min a b=_;split<;>omega)
 rw [r0];exact h
def zm9:Tr:=.s [(0,.raw [(1000003,.op (.max [3,3] 3) [0,1] [] 2)] 1)] (.z (.ret false (2) []))
theorem zm8 {w0:World} (a b:Int) (r:Int) (hr:operX 7 a b=r) (ha:valB a=true) (hb:valB b=true):Fun (KN w0) Tryz.prog 139 [.o (.c (pI a)),.o (.c (pI b))] (.o (.c (pI r))):=by
 refine tfn w0 139 ⟨[0,1],[],[],0,0⟩ ⟨2,[sI b,sI a],[],[]⟩ zm9 (by kernel_rfl) ?_
 obtain ⟨v1,e1⟩:=LX ((if b > a then b else a))
 refine rx [sI v1] [] [] (fun t u w=>⟨e_op2 (za rfl) (za rfl) (za rfl) (fun W=>by rw [← e1];exact zfZ W),trivial⟩) ?_
 intro hc
 refine Fun.fin (r:=.o (.c (pI v1))) (zc (hc)) (fun v W D h=>?_)
 have r0:r=v1:=by
  (rw [← hr,← e1];show max a b=_;split<;>omega)
 rw [r0];exact h
def doesE:Array MapEntry:=#[⟨.int .i64 3,.func (.func 135) #[] #[],0⟩,⟨.int .i64 4,.func (.func 136) #[] #[],1⟩,⟨.int .i64 5,.func (.func 137) #[] #[],2⟩,⟨.int .i64 6,.func (.func 138) #[] #[],3⟩,⟨.int .i64 7,.func (.func 139) #[] #[],4⟩]
def pM:Pred:=fun v W D=>∃r,v=.map (some r)∧D r∧W.heap[r]?=some (.map doesE 5)
theorem zan {K:Kit}:FineC K pM:=⟨fun hS hO hD ⟨r,h1,h2,h3⟩=>⟨r,h1,hD r h2,(hO.block r (Array.getElem?_eq_some_iff.1 h3).1 fun hs=>(hS r hs).2.1 h2).trans h3⟩,fun ⟨r,h1,_⟩=>by rw [h1];rfl⟩
instance {K:Kit}:Fi K (.q pM):=⟨by rw [SV.fine];exact zan⟩
theorem e_lk {w0:World} {F:Fact} {x k:Lf} {n:Int} {g:FuncId} {i:Nat} (hx:Says F x pM) (hk:Gives F k (.int .i64 n)) (h:Instr.findNow (.int .i64) (.int .i64 n) doesE.toList 0=some (some (i,.func (.func g) #[] #[]))):(Ent.op (.lk 192 false) [LF x,LF k] [] (.o (.c (.q g [])))).sound (KN w0) Tryz.prog F:=by
 intro β W vs hs _ _
 match vs,hs with
 | [v,u],⟨h1,h2,_⟩ =>
  obtain ⟨r,hv,hD,hh⟩:=(hx β v W).1 h1
  have hu:u=.int .i64 n:=(hk β u W).1 h2
  subst hv;subst hu
  refine ⟨.func (.func g) #[] #[],?_,⟨#[],rfl,trivial⟩⟩
  simp only [Sig.sem]
  have hm:Tryz.prog.underlying 192=some (.map 3 33):=by kernel_rfl
  have hd:Tryz.prog.underlying 3=some (.int .i64):=by kernel_rfl
  simp [Instr.lookup,run_underlying hm,MapKept.run_getObj_map hh,MapKept.run_checkKey hd (k:=.int .i64 n) (by trivial),MapKept.run_findKey hd h,Result.andThen]
 | [],h=>exact h.elim
 | [_],h=>exact h.2.elim
 | _::_::_::_,h=>exact h.2.2.elim
theorem find3:Instr.findNow (.int .i64) (.int .i64 3) doesE.toList 0=some (some (0,.func (.func 135) #[] #[])):=by kernel_rfl
theorem find4:Instr.findNow (.int .i64) (.int .i64 4) doesE.toList 0=some (some (1,.func (.func 136) #[] #[])):=by kernel_rfl
theorem find5:Instr.findNow (.int .i64) (.int .i64 5) doesE.toList 0=some (some (2,.func (.func 137) #[] #[])):=by kernel_rfl
theorem find6:Instr.findNow (.int .i64) (.int .i64 6) doesE.toList 0=some (some (3,.func (.func 138) #[] #[])):=by kernel_rfl
theorem find7:Instr.findNow (.int .i64) (.int .i64 7) doesE.toList 0=some (some (4,.func (.func 139) #[] #[])):=by kernel_rfl
theorem zbI {w0:World} (k r:Int) (hr:k=r):BFun true (KN w0) Tryz.prog 142 [.o (.c (.d (pI k)))] [] (.o (.c (.d (pV (.iface 37 (.int .i64 r)))))) []:=by
 subst hr
 intro W D vs qs hnd ha hpre hfit
 match vs,qs,ha,hpre with
 | [v],[],⟨hv,_⟩,_ =>
  obtain rfl:v=.int .i64 k:=hv
  have hp:∀w:World,(Instr.panic (.iface 37 (.int .i64 k))).run Tryz.prog w=.halt (.panic (.iface 37 (.int .i64 k))) w:=fun w=>rfl
  go_enter Tryz.func142,Tryz.ntmps142
  go_wp2
  exact ⟨rfl,_,D,rfl,rfl,trivial,⟨Oth.refl _ _,fun _ h=>h,fun _ h=>.inl h,hfit.dlt⟩⟩
end Go.Proofs.YteimplkdcjapdaaGreatDoor
