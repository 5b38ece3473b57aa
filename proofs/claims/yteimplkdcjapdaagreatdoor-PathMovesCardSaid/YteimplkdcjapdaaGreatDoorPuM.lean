/-
  Merged: ExD, ExI, ExJ, PtT, PtA, PtB, PtC, PtD.
-/
import Derived.Test.YteimplkdcjapdaaGreatDoorPuG
import Derived.Recover
import Derived.Defers
import Derived.Lib.BufferMore
import Derived.Test.YteimplkdcjapdaaGreatDoorPuL
import Derived.Test.YteimplkdcjapdaaGreatDoorPuK
import Derived.Test.YteimplkdcjapdaaGreatDoorPuJ
set_option linter.unusedSimpArgs false
set_option linter.unusedVariables false
set_option maxRecDepth 100000
namespace Go.Proofs.YteimplkdcjapdaaGreatDoor
open Go.RowKit
def ALf.fin (K:Kit):ALf→Prop
 | .d x=>FineC K x
 | _=>True
def FinL (K:Kit):List ALf→Prop
 | []=>True
 | a::r=>a.fin K∧FinL K r
def FinX (K:Kit):List (TypeId×List ALf)→Prop
 | []=>True
 | x::r=>FinL K x.2∧FinX K r
section
variable {K:Kit} {qs:List Nat} {W W':World} {D D':Dat} {S:Nat→Prop} (hS:∀q,S q→Mlq K D W q) (hO:Oth S W W') (hD:∀q,D q→D' q)
include hS hO hD
theorem zcU:∀{ls:List ALf} {vs:List Value},FinL K ls→aokl qs ls vs W D→aokl qs ls vs W' D'
 | [],[],_,_=>trivial
 | ALf.d _::_,_::_,hf,h=>⟨hf.1.mv hS hO hD h.1,zcU hf.2 h.2⟩
 | ALf.p _ _::_,_::_,hf,h=>⟨h.1,zcU hf.2 h.2⟩
 | ALf.q _ _::_,_::_,hf,h=>⟨h.1,zcU hf.2 h.2⟩
 | ALf.m _ _ _::_,_::_,hf,h=>⟨h.1,zcU hf.2 h.2⟩
 | [],_::_,_,h=>h.elim
 | _::_,[],_,h=>h.elim
theorem zfU:∀{l:List (TypeId×List ALf)} {rs:List Nat},FinX K l→(∀q∈rs,¬ S q∧¬ D' q)→okX K qs l rs W D→okX K qs l rs W' D'
 | [],[],_,_,_=>trivial
 | x::xs,q::r,hf,hn,h=>by
  obtain ⟨⟨h1,h2,h3,us,h4,h5,h6⟩,h7⟩:=h
  have hq:=hn q (List.mem_cons_self ..)
  exact ⟨⟨h1,hq.2,h3,us,(hO.block q (Array.getElem?_eq_some_iff.1 h4).1 hq.1).trans h4,h5,zcU hS hO hD hf.1 h6⟩,zfU hf.2 (fun p hp=>hn p (List.mem_cons_of_mem _ hp)) h7⟩
 | [],_::_,_,_,h=>h.elim
 | _::_,[],_,_,h=>h.elim
end
theorem zcF {qs:List Nat} {W:World} {D:Dat}:∀{l:List (Nat×Nat)} {vs:List Value},apts qs l vs→aoka qs (l.map fun x=>.o (.c (.p x.1 x.2))) vs W D
 | [],[],_=>trivial
 | _::_,_::_,h=>⟨h.1,zcF h.2⟩
 | [],_::_,h=>h.elim
 | _::_,[],h=>h.elim
theorem zi8 {W W':World} (h:Below W.heap.size W W'):Oth (fun _=>False) W W':=⟨h.os,h.tape,h.output,h.size,fun k hk _=>h.block k hk⟩
theorem zjy (p:Addr) (w:World) :
  CallsD Tryz.prog 154 #[.pointer (some p)] .returning w fun e u' w'=>e=.returned (.tuple #[])∧u'=.returning∧w'=w:=by
 refine callsD_of_wpS Tryz.func154 rfl fun c₀ cs hu=>?_
 apply wpS_seq
 apply wpS_region
 simp [wpOpsS,go_sem,recoverD,hu,Tryz.ntmps154,Exit.thenS]
 refine wpS_of_wp ?_
 simp only [Array.replicate_succ,Array.replicate_zero,List.push_toArray,List.append_toArray,List.nil_append,List.cons_append,List.setIfInBounds_toArray,List.set_cons_succ,List.set_cons_zero]
 go_wp2
 cases c₀
 simp_all [bodyPostS,results,Tryz.results154]
theorem zkz (p:Nat) (k:Int) (older:List PanicEntry) (w:World) (hc:w.heap[p]?=some (.cells #[.int .i64 0] 37 (0,0))) :
  CallsD Tryz.prog 154 #[.pointer (some ⟨p,0,none⟩)] (.panicking ({ v:=.iface 37 (.int .i64 k),recovered:=false }::older)) w fun e u' w'=>e=.returned (.tuple #[])∧u'=.panicking ({ v:=.iface 37 (.int .i64 k),recovered:=true }::older)∧w'=w.setCell ⟨p,0,none⟩ (.int .i64 k):=by
 have hcell:w.cell? ⟨p,0,none⟩=some (.int .i64 0):=by rw [zq hc];rfl
 have hfr:w.frozen? ⟨p,0,none⟩=false:=by unfold World.frozen?;rw [hc];simp
 have hta:∀w:World,(Instr.typeAssert (.iface 37 (.int .i64 k)) 20 37 true).run Tryz.prog w=.ok (.tuple #[.int .i64 k,.bool true]) w:=fun w=>by kernel_rfl
 refine callsD_of_wpS Tryz.func154 rfl fun c₀ cs hu=>?_
 apply wpS_seq
 apply wpS_region
 simp [wpOpsS,go_sem,recoverD,hu,Tryz.ntmps154,Exit.thenS]
 refine wpS_of_wp ?_
 simp only [Array.replicate_succ,Array.replicate_zero,List.push_toArray,List.append_toArray,List.nil_append,List.cons_append,List.setIfInBounds_toArray,List.set_cons_succ,List.set_cons_zero]
 go_wp2
 cases c₀
 simp_all [bodyPostS,results,Tryz.results154]
theorem zcY {w0 W W1 W2 W3:World} {D D2:Dat} {qs:List Nat} {post:List (TypeId×List ALf)} (hN:W.heap.size ∉ qs) (hND:¬ D W.heap.size) (hfit:Fit (KN w0) W D) (hO1:Oth (fun _=>False) W W1) (hsz:W1.heap.size=W.heap.size+1) (hE:W2.heap[W.heap.size]?=some (.cells #[.int .i64 0] 37 (0,0)))
  (hO3:Oth (fun q=>q=W.heap.size) W2 W3) (hg:FinX (KN w0) post) (hpost:okX (KN w0) qs post qs W2 D2) (hk:KeptX qs W1 D W2 D2):okX (KN w0) qs post qs W3 D2∧KeptX qs W D W3 D2:=by
 have hND2:¬ D2 W.heap.size:=fun h=>by
  rcases hk.dn _ h with h | h
  ·exact hND h
  ·rw [hsz] at h;omega
 refine ⟨zfU (S:=fun q=>q=W.heap.size) (fun q hq=>?_) hO3 (fun _ h=>h) hg (fun q hq=>⟨fun h=>hN (h ▸ hq),(qT hpost q hq).2.1⟩) hpost,⟨?_,hk.dm,fun q hq=>?_,fun q hq=>Nat.lt_of_lt_of_le (hk.dlt q hq) hO3.size⟩⟩
 ·subst hq
  exact ⟨hfit.bel.size,hND2,_,hE,by rfl⟩
 ·have h1:Oth (fun q=>q∈qs) W W1:=⟨hO1.os,hO1.tape,hO1.output,hO1.size,fun k hk _=>hO1.block k hk fun h=>h⟩
  have h12:Oth (fun q=>q∈qs) W W2:=h1.trans hk.oth (fun q hq _=>hq)
  exact h12.trans hO3 fun q hq hlt=>by omega
 ·rcases hk.dn q hq with h | h
  ·exact .inl h
  ·exact .inr (by omega)
theorem zp7 {w0:World} {g:FuncId} {caps:List (Nat×Nat)} {pre post:List (TypeId×List ALf)} (he:∀args w,(callFunc g args).run Tryz.prog w=.ok (.enter g args) w)
  (h:BFun false (KN w0) Tryz.prog g (caps.map fun x=>.o (.c (.p x.1 x.2))) pre (.t []) post) (hf:FinX (KN w0) pre) (hg:FinX (KN w0) post) :
  BFun false (KN w0) Tryz.prog 143 [.o (.c (.q g caps))] pre (.o (.c (.d (pV (.int .i64 0))))) post:=by
 intro W D vs qs hnd ha hpre hfit
 match vs,ha with
 | [v],⟨⟨cs,hv,hpts⟩,_⟩ =>
  subst hv
  have hmf:∀(fn:Fn) (first cap:Array Value) (w:World),(Instr.makeFunc fn first cap).run Tryz.prog w=.ok (.func fn first cap) w:=fun _ _ _ _=>rfl
  go_enter_defers Tryz.func143,Tryz.ntmps143
  go_wp2
  have hN:W.heap.size ∉ qs:=fun hm=>Nat.lt_irrefl _ (qT hpre _ hm).2.2
  have hND:¬ D W.heap.size:=fun hm=>Nat.lt_irrefl _ (hfit.dlt _ hm)
  have hO1:Oth (fun _=>False) W (W.alloc (.cells #[.int .i64 0] 37)):=zi8 ((Below.refl _ W).alloc (Nat.le_refl _) _)
  have hsz:(W.alloc (.cells #[.int .i64 0] 37)).heap.size=W.heap.size+1:=by simp
  have hpre1:=zfU (K:=KN w0) (fun q h=>h.elim) hO1 (fun q h=>h) hf (fun q hq=>⟨fun h=>h,(qT hpre q hq).2.1⟩) hpre
  refine (h _ D cs.toList qs hnd (zcF hpts) hpre1 ⟨hfit.bel.trans ((hO1.below fun _ h=>h.elim).mono hfit.bel.size),fun q hq=>by rw [hsz];exact Nat.lt_succ_of_lt (hfit.dlt q hq),hfit.low⟩).mono ?_
  rintro e W2 ⟨v,D2,rfl,hv,hpost,hk⟩
  obtain ⟨vs2,rfl,hv2⟩:=hv
  have hE:W2.heap[W.heap.size]?=some (.cells #[.int .i64 0] 37 (0,0)):=by
   rw [hk.oth.block _ (by rw [hsz];exact Nat.lt_succ_self _) hN,World.alloc];simp
  have hcell:W2.cell? ⟨W.heap.size,0,none⟩=some (.int .i64 0):=by rw [zq hE];rfl
  have hfr:W2.frozen? ⟨W.heap.size,0,none⟩=false:=by unfold World.frozen?;rw [hE];simp
  simp only [endOf,Bool.false_eq_true,if_false]
  go_wp2
  refine leaves_cons (f:=154) (args:=#[.pointer (some ⟨W.heap.size,0,none⟩)]) (by simp) (by simp [go_sem]) ?_
  refine (zjy ⟨W.heap.size,0,none⟩ _).mono ?_
  rintro e u' w'' ⟨rfl,rfl,rfl⟩
  have hE3:=Lib.heap_setCell_same (i:=0) hE (.int .i64 0)
  have hc3:(W2.setCell ⟨W.heap.size,0,none⟩ (.int .i64 0)).cell? ⟨W.heap.size,0,none⟩=some (.int .i64 0):=by rw [zq hE3];rfl
  have hO3:Oth (fun q=>q=W.heap.size) W2 (W2.setCell ⟨W.heap.size,0,none⟩ (.int .i64 0)):=⟨rfl,rfl,rfl,by simp [World.setCell],fun q hq hne=>heap_setCell_other _ _ _ _ hne⟩
  have fin:=zcY hN hND hfit hO1 hsz hE hO3 hg hpost hk
  simp [Leaves,settle,results,Tryz.results143,go_sem,hc3]
  exact ⟨_,rfl,D2,rfl,fin⟩
theorem znq {w0:World} {g:FuncId} {caps:List (Nat×Nat)} {pre post:List (TypeId×List ALf)} (he:∀args w,(callFunc g args).run Tryz.prog w=.ok (.enter g args) w)
  (k:Int) (h:BFun true (KN w0) Tryz.prog g (caps.map fun x=>.o (.c (.p x.1 x.2))) pre (.o (.c (.d (pV (.iface 37 (.int .i64 k)))))) post) (hf:FinX (KN w0) pre) (hg:FinX (KN w0) post) :
  BFun false (KN w0) Tryz.prog 143 [.o (.c (.q g caps))] pre (.o (.c (.d (pV (.int .i64 k))))) post:=by
 intro W D vs qs hnd ha hpre hfit
 match vs,ha with
 | [v],⟨⟨cs,hv,hpts⟩,_⟩ =>
  subst hv
  have hmf:∀(fn:Fn) (first cap:Array Value) (w:World),(Instr.makeFunc fn first cap).run Tryz.prog w=.ok (.func fn first cap) w:=fun _ _ _ _=>rfl
  go_enter_defers Tryz.func143,Tryz.ntmps143
  go_wp2
  have hN:W.heap.size ∉ qs:=fun hm=>Nat.lt_irrefl _ (qT hpre _ hm).2.2
  have hND:¬ D W.heap.size:=fun hm=>Nat.lt_irrefl _ (hfit.dlt _ hm)
  have hO1:Oth (fun _=>False) W (W.alloc (.cells #[.int .i64 0] 37)):=zi8 ((Below.refl _ W).alloc (Nat.le_refl _) _)
  have hsz:(W.alloc (.cells #[.int .i64 0] 37)).heap.size=W.heap.size+1:=by simp
  have hpre1:=zfU (K:=KN w0) (fun q h=>h.elim) hO1 (fun q h=>h) hf (fun q hq=>⟨fun h=>h,(qT hpre q hq).2.1⟩) hpre
  refine (h _ D cs.toList qs hnd (zcF hpts) hpre1 ⟨hfit.bel.trans ((hO1.below fun _ h=>h.elim).mono hfit.bel.size),fun q hq=>by rw [hsz];exact Nat.lt_succ_of_lt (hfit.dlt q hq),hfit.low⟩).mono ?_
  rintro e W2 ⟨v,D2,rfl,hv,hpost,hk⟩
  obtain rfl:v=.iface 37 (.int .i64 k):=hv
  have hE:W2.heap[W.heap.size]?=some (.cells #[.int .i64 0] 37 (0,0)):=by
   rw [hk.oth.block _ (by rw [hsz];exact Nat.lt_succ_self _) hN,World.alloc];simp
  have hcell:W2.cell? ⟨W.heap.size,0,none⟩=some (.int .i64 0):=by rw [zq hE];rfl
  have hfr:W2.frozen? ⟨W.heap.size,0,none⟩=false:=by unfold World.frozen?;rw [hE];simp
  simp only [endOf,if_true]
  refine leaves_cons (f:=154) (args:=#[.pointer (some ⟨W.heap.size,0,none⟩)]) (by simp) (by simp [go_sem]) ?_
  refine (zkz W.heap.size k _ _ hE).mono ?_
  rintro e u' w'' ⟨rfl,rfl,rfl⟩
  have hE3:=Lib.heap_setCell_same (i:=0) hE (.int .i64 k)
  have hc3:(W2.setCell ⟨W.heap.size,0,none⟩ (.int .i64 k)).cell? ⟨W.heap.size,0,none⟩=some (.int .i64 k):=by rw [zq hE3];rfl
  have hO3:Oth (fun q=>q=W.heap.size) W2 (W2.setCell ⟨W.heap.size,0,none⟩ (.int .i64 k)):=⟨rfl,rfl,rfl,by simp [World.setCell],fun q hq hne=>heap_setCell_other _ _ _ _ hne⟩
  have fin:=zcY hN hND hfit hO1 hsz hE hO3 hg hpost hk
  simp [Leaves,settle,results,Tryz.results143,go_sem,hc3]
  exact ⟨_,rfl,D2,rfl,fin⟩
theorem zkU {args:List Int} {k:Int} {e:Xp} (h:Vx k e) (ho:e.op=1):evalX args e=valO e.n:=by cases e;simp only [Xp.op] at ho;rw [ho,zc2];rfl
theorem zkT {args:List Int} {k:Int} {e:Xp} (h:Vx k e) (ho:e.op=2):evalX args e=valO (args.getD e.n.toNat 0):=by cases e;simp only [Xp.op] at ho;rw [ho,zc1];rfl
theorem qQ {args:List Int} {k:Int} {e x y:Xp} {n m:Nat} (h:Vx k e) (h1:¬ e.op=1) (h2:¬ e.op=2) (hn:(0:Int)=n) (hm:(1:Int)=m) (hx:e.l[n]?=some x) (hy:e.l[m]?=some y):evalX args e=(evalX args x).bind fun a=>(evalX args y).bind fun b=>valO (operX e.op a b):=by
 obtain ⟨a,b,he,h3,_⟩:=vx_op h h1 h2
 obtain rfl:n=0:=by omega
 obtain rfl:m=1:=by omega
 have ex:x=a:=by rw [he] at hx;injection hx with hx;exact hx.symm
 have ey:y=b:=by rw [he] at hy;injection hy with hy;exact hy.symm
 subst ex;subst ey
 rw [he,zcH args h3]
 cases evalX args x<;>cases evalX args y<;>rfl
theorem zcg {args:List Int} {k:Int} {e x:Xp} {n:Nat} (h:Vx k e) (h1:¬ e.op=1) (h2:¬ e.op=2) (hx:e.l[n]?=some x) (hv:(evalX args x).isSome=false):evalX args e=none:=by
 obtain ⟨a,b,he,h3,_⟩:=vx_op h h1 h2
 have hv:evalX args x=none:=by cases q:evalX args x with
  | none=>rfl
  | some _=>rw [q] at hv;cases hv
 rw [he,zcH args h3]
 rw [he] at hx
 match n,hx with
 | 0,hx=>injection hx with hx;rw [hx,hv]
 | 1,hx=>injection hx with hx;rw [hx,hv];cases evalX args a<;>rfl
 | _+2,hx=>simp [Xp.l] at hx
theorem zy {o:Option Int} {v:Int} (h:o.isSome=true) (hv:o.getD 0=v):o=some v:=by cases o with
 | none=>cases h
 | some x=>exact congrArg some hv
theorem qk {args:List Int} {k v:Int} {x:Xp} (h:Vx k x) (h1:(evalX args x).isSome=true) (hv:(evalX args x).getD 0=v):valB v=true:=zkV h v (zy h1 hv)
theorem qV {n v:Int} (h:valO n=some v):valB n=true:=(zX h).1 ▸ (zX h).2
theorem qU {n:Int} (h:valO n=none):valB n=false:=by
 unfold valO at h
 split at h
 ·cases h
 ·cases hb:valB n with
  | true=>exact absurd hb (by assumption)
  | false=>rfl
def zdF (w0:World) (args:List Int) (N:Nat):Prop:=∀x:Xp,Vx args.length x→nodes x≤N →
 (∀v,(evalX args x).isSome=true→(evalX args x).getD 0=v→BFun false (KN w0) Tryz.prog 140 [.o (.g [.d (pI x.op),.d (pI x.n),.d (pLs cE x.l)]),.o (.c (.p 0 0)),.o (.c (.p 1 0)),.o (.c (.p 2 0))] [(24,[.d (pLs cI args)]),(193,[.q 140 [(0,0),(1,0),(2,0)]]),(192,[.d pM])] (.o (.c (.d (pI v)))) [(24,[.d (pLs cI args)]),(193,[.q 140 [(0,0),(1,0),(2,0)]]),(192,[.d pM])]) ∧
 (∀k:Int,(3:Int)=k→(evalX args x).isSome=false→BFun true (KN w0) Tryz.prog 140 [.o (.g [.d (pI x.op),.d (pI x.n),.d (pLs cE x.l)]),.o (.c (.p 0 0)),.o (.c (.p 1 0)),.o (.c (.p 2 0))] [(24,[.d (pLs cI args)]),(193,[.q 140 [(0,0),(1,0),(2,0)]]),(192,[.d pM])] (.o (.c (.d (pV (.iface 37 (.int .i64 k)))))) [(24,[.d (pLs cI args)]),(193,[.q 140 [(0,0),(1,0),(2,0)]]),(192,[.d pM])])
theorem qM {w0:World} {N:Nat} {args:List Int} (IH:zdF w0 args N) (x:Xp) (args':List Int) (v:Int) (e:(evalX args x).getD 0=v) (h1:(evalX args x).isSome=true) (h2:Vx args.length x) (h3:nodes x≤N):BFun false (KN w0) Tryz.prog 140 [.o (.g [.d (pI x.op),.d (pI x.n),.d (pLs cE x.l)]),.o (.c (.p 0 0)),.o (.c (.p 1 0)),.o (.c (.p 2 0))] [(24,[.d (pLs cI args)]),(193,[.q 140 [(0,0),(1,0),(2,0)]]),(192,[.d pM])] (.o (.c (.d (pI v)))) [(24,[.d (pLs cI args)]),(193,[.q 140 [(0,0),(1,0),(2,0)]]),(192,[.d pM])]:=(IH x h2 h3).1 v h1 e
theorem za9 {w0:World} {N:Nat} {args:List Int} (IH:zdF w0 args N) (x:Xp) (args':List Int) (v:Int) (e:(3:Int)=v) (h1:(evalX args x).isSome=false) (h2:Vx args.length x) (h3:nodes x≤N):BFun true (KN w0) Tryz.prog 140 [.o (.g [.d (pI x.op),.d (pI x.n),.d (pLs cE x.l)]),.o (.c (.p 0 0)),.o (.c (.p 1 0)),.o (.c (.p 2 0))] [(24,[.d (pLs cI args)]),(193,[.q 140 [(0,0),(1,0),(2,0)]]),(192,[.d pM])] (.o (.c (.d (pV (.iface 37 (.int .i64 v)))))) [(24,[.d (pLs cI args)]),(193,[.q 140 [(0,0),(1,0),(2,0)]]),(192,[.d pM])]:=(IH x h2 h3).2 v e h1
def zif:Tr:=.s [(7,.bin .eql 3 0 (kI 1))] (.b 5 (.s [(10,.call 141 [1] (.o .c)),(11,.un .not 6)] (.b 7 (.z .no) (.z (.ret false (1) [.bx 900 24 [.h 3],.bx 901 193 [.q 140 [(900,0),(901,0),(902,0)]],.bx 902 192 [.h 4]])))) (.s [(9,.bin .eql 3 0 (kI 2))] (.b 6 (.s [(14,.ia 24 3 1 3 1),(15,.ld 3 0 7),(18,.call 141 [8] (.o .c)),(19,.un .not 9)] (.b 10 (.z .no) (.z (.ret false (8) [.bx 900 24 [.h 3],.bx 901 193 [.q 140 [(900,0),(901,0),(902,0)]],.bx 902 192 [.h 4]])))) (.s [(14,.ia 58 60 3 2 (kI 0)),(15,.ld 60 3 7)] (.r (.s [(0,.raw [(1000016,.call ⟨140,[.o (.g [8,9,10]),.o (.c (.p 900 0)),.o (.c (.p 901 0)),.o (.c (.p 902 0))],[.bx 900 24 [.h 3],.bx 901 193 [.q 140 [(900,0),(901,0),(902,0)]],.bx 902 192 [.h 4]],11,[.bx 900 24 [.h 3],.bx 901 193 [.q 140 [(900,0),(901,0),(902,0)]],.bx 902 192 [.h 4]]⟩)] 1)] (.r (.s [(0,.raw [(1000021,.op (.lk 192 false) [4,0] [] (LF (.q 135 [])))] 0),(26,.ia 58 60 3 2 (kI 1)),(27,.ld 60 3 12)] (.r (.s [(0,.raw [(1000028,.call ⟨140,[.o (.g [13,14,15]),.o (.c (.p 900 0)),.o (.c (.p 901 0)),.o (.c (.p 902 0))],[.bx 900 24 [.h 3],.bx 901 193 [.q 140 [(900,0),(901,0),(902,0)]],.bx 902 192 [.h 4]],16,[.bx 900 24 [.h 3],.bx 901 193 [.q 140 [(900,0),(901,0),(902,0)]],.bx 902 192 [.h 4]]⟩)] 1),(29,.call 135 [11,16] (.o .c)),(32,.call 141 [17] (.o .c)),(33,.un .not 18)] (.b 19 (.z .no) (.z (.ret false (17) [.bx 900 24 [.h 3],.bx 901 193 [.q 140 [(900,0),(901,0),(902,0)]],.bx 902 192 [.h 4]])))) (.z .no))) (.r (.s [(0,.raw [(1000021,.op (.lk 192 false) [4,0] [] (LF (.q 136 [])))] 0),(26,.ia 58 60 3 2 (kI 1)),(27,.ld 60 3 12)] (.r (.s [(0,.raw [(1000028,.call ⟨140,[.o (.g [13,14,15]),.o (.c (.p 900 0)),.o (.c (.p 901 0)),.o (.c (.p 902 0))],[.bx 900 24 [.h 3],.bx 901 193 [.q 140 [(900,0),(901,0),(902,0)]],.bx 902 192 [.h 4]],16,[.bx 900 24 [.h 3],.bx 901 193 [.q 140 [(900,0),(901,0),(902,0)]],.bx 902 192 [.h 4]]⟩)] 1),(29,.call 136 [11,16] (.o .c)),(32,.call 141 [17] (.o .c)),(33,.un .not 18)] (.b 19 (.z .no) (.z (.ret false (17) [.bx 900 24 [.h 3],.bx 901 193 [.q 140 [(900,0),(901,0),(902,0)]],.bx 902 192 [.h 4]])))) (.z .no))) (.r (.s [(0,.raw [(1000021,.op (.lk 192 false) [4,0] [] (LF (.q 137 [])))] 0),(26,.ia 58 60 3 2 (kI 1)),(27,.ld 60 3 12)] (.r (.s [(0,.raw [(1000028,.call ⟨140,[.o (.g [13,14,15]),.o (.c (.p 900 0)),.o (.c (.p 901 0)),.o (.c (.p 902 0))],[.bx 900 24 [.h 3],.bx 901 193 [.q 140 [(900,0),(901,0),(902,0)]],.bx 902 192 [.h 4]],16,[.bx 900 24 [.h 3],.bx 901 193 [.q 140 [(900,0),(901,0),(902,0)]],.bx 902 192 [.h 4]]⟩)] 1),(29,.call 137 [11,16] (.o .c)),(32,.call 141 [17] (.o .c)),(33,.un .not 18)] (.b 19 (.z .no) (.z (.ret false (17) [.bx 900 24 [.h 3],.bx 901 193 [.q 140 [(900,0),(901,0),(902,0)]],.bx 902 192 [.h 4]])))) (.z .no))) (.r (.s [(0,.raw [(1000021,.op (.lk 192 false) [4,0] [] (LF (.q 138 [])))] 0),(26,.ia 58 60 3 2 (kI 1)),(27,.ld 60 3 12)] (.r (.s [(0,.raw [(1000028,.call ⟨140,[.o (.g [13,14,15]),.o (.c (.p 900 0)),.o (.c (.p 901 0)),.o (.c (.p 902 0))],[.bx 900 24 [.h 3],.bx 901 193 [.q 140 [(900,0),(901,0),(902,0)]],.bx 902 192 [.h 4]],16,[.bx 900 24 [.h 3],.bx 901 193 [.q 140 [(900,0),(901,0),(902,0)]],.bx 902 192 [.h 4]]⟩)] 1),(29,.call 138 [11,16] (.o .c)),(32,.call 141 [17] (.o .c)),(33,.un .not 18)] (.b 19 (.z .no) (.z (.ret false (17) [.bx 900 24 [.h 3],.bx 901 193 [.q 140 [(900,0),(901,0),(902,0)]],.bx 902 192 [.h 4]])))) (.z .no))) (.s [(0,.raw [(1000021,.op (.lk 192 false) [4,0] [] (LF (.q 139 [])))] 0),(26,.ia 58 60 3 2 (kI 1)),(27,.ld 60 3 12)] (.r (.s [(0,.raw [(1000028,.call ⟨140,[.o (.g [13,14,15]),.o (.c (.p 900 0)),.o (.c (.p 901 0)),.o (.c (.p 902 0))],[.bx 900 24 [.h 3],.bx 901 193 [.q 140 [(900,0),(901,0),(902,0)]],.bx 902 192 [.h 4]],16,[.bx 900 24 [.h 3],.bx 901 193 [.q 140 [(900,0),(901,0),(902,0)]],.bx 902 192 [.h 4]]⟩)] 1),(29,.call 139 [11,16] (.o .c)),(32,.call 141 [17] (.o .c)),(33,.un .not 18)] (.b 19 (.z .no) (.z (.ret false (17) [.bx 900 24 [.h 3],.bx 901 193 [.q 140 [(900,0),(901,0),(902,0)]],.bx 902 192 [.h 4]])))) (.z .no)))))))) (.z .no))))))
theorem zna {w0:World} {N:Nat} {args:List Int} (IH:zdF w0 args N) (e:Xp) (r:Int) (hs:evalX args e=some r) (hx:Vx args.length e) (hN:nodes e≤N+1):BFun false (KN w0) Tryz.prog 140 [.o (.g [.d (pI e.op),.d (pI e.n),.d (pLs cE e.l)]),.o (.c (.p 0 0)),.o (.c (.p 1 0)),.o (.c (.p 2 0))] [(24,[.d (pLs cI args)]),(193,[.q 140 [(0,0),(1,0),(2,0)]]),(192,[.d pM])] (.o (.c (.d (pI r)))) [(24,[.d (pLs cI args)]),(193,[.q 140 [(0,0),(1,0),(2,0)]]),(192,[.d pM])]:=by
 refine tfn w0 140 ⟨[.o (.g [0,1,2]),LF (.p 900 0),LF (.p 901 0),LF (.p 902 0)],[.bx 900 24 [.h 3],.bx 901 193 [.q 140 [(900,0),(901,0),(902,0)]],.bx 902 192 [.h 4]],[],0,0⟩ ⟨5,[.q (pM),.ls 1 cI kIc args,.ls 3 cE kE e.l,sI e.n,sI e.op],[],[]⟩ zif (by kernel_rfl) ?_
 intro v1 e1
 refine ai (fun h2=>?_) fun h2=>?_
 ·
  obtain ⟨v3,e3⟩:=LX (valB e.n)
  refine cx (.o (.c (sB v3))) (qj e.n v3 e3) rfl ?_
  intro v4 e4
  refine ai (fun h5=>?_) fun h5=>?_
  ·
   exfalso;have dh2:=eq_of_beq (e1.trans h2);have q:=zkU (args:=args) hx (by assumption);rw [hs] at q;have z:=qV q.symm;simp_all
  ·
   intro hc
   have r0:r=e.n:=by
    have dh2:=eq_of_beq (e1.trans h2);have q:=zkU (args:=args) hx (by assumption);rw [hs] at q;have z:=(zX q.symm).1;exact z
   rw [r0];exact con_b (pan:=false) (hc)
 ·
  intro v3 e3
  refine ai (fun h4=>?_) fun h4=>?_
  ·
   refine ai (by (have dh2:=ne_of_beq_false (e1.trans h2);have dh4:=eq_of_beq (e3.trans h4);have q:=zpV (args:=args) hx (by assumption);exact ⟨e.n.toNat,_,by omega,List.getElem?_eq_getElem (by omega)⟩)) fun n5 x6 s7 s8=>?_
   obtain ⟨v9,e9⟩:=LX (valB x6)
   refine cx (.o (.c (sB v9))) (qj x6 v9 e9) rfl ?_
   intro v10 e10
   refine ai (fun h11=>?_) fun h11=>?_
   ·
    exfalso;have dh2:=ne_of_beq_false (e1.trans h2);have dh4:=eq_of_beq (e3.trans h4);have q:=zkT (args:=args) hx (by assumption);rw [zg3 s7 s8] at q;rw [hs] at q;have z:=qV q.symm;simp_all
   ·
    intro hc
    have r0:r=x6:=by
     have dh2:=ne_of_beq_false (e1.trans h2);have dh4:=eq_of_beq (e3.trans h4);have q:=zkT (args:=args) hx (by assumption);rw [zg3 s7 s8] at q;rw [hs] at q;have z:=(zX q.symm).1;exact z
    rw [r0];exact con_b (pan:=false) (hc)
  ·
   refine ai (by (have dh2:=ne_of_beq_false (e1.trans h2);have dh4:=ne_of_beq_false (e3.trans h4);obtain ⟨a,b,q1,q2⟩:=zaB (n:=0) (m:=0) hx (by assumption) (by assumption);exact ⟨0,_,rfl,q1⟩)) fun n5 x6 s7 s8=>?_
   cases h9:(evalX args x6).isSome with
   | true =>
    refine Or.inl ?_
    obtain ⟨v10,e10⟩:=LX ((evalX args x6).getD 0)
    have s11:(evalX args x6).isSome=true:=by assumption
    have s12:Vx args.length x6:=by exact vx_at hx s8
    have s13:nodes x6≤N:=by exact zA hN s8
    refine rx [sI v10] [] [] (fun t u w=>⟨b_con (pan:=false) (qM IH x6 args v10 e10 s11 s12 s13),trivial⟩) ?_
    cases h14:(e.op == (3:Int)) with
    | true =>
     refine Or.inl ?_
     refine rx [] [] [] (fun t u w=>⟨e_lk (zm rfl) (za (show pI e.op=pV (.int .i64 3) by rw [eq_of_beq h14])) find3,trivial⟩) ?_
     refine ai (by (have dh2:=ne_of_beq_false (e1.trans h2);have dh4:=ne_of_beq_false (e3.trans h4);have dh14:=eq_of_beq h14;obtain ⟨a,b,q1,q2⟩:=zaB (n:=0) (m:=0) hx (by assumption) (by assumption);exact ⟨1,_,rfl,q2⟩)) fun n15 x16 s17 s18=>?_
     cases h19:(evalX args x16).isSome with
     | true =>
      refine Or.inl ?_
      obtain ⟨v20,e20⟩:=LX ((evalX args x16).getD 0)
      have s21:(evalX args x16).isSome=true:=by assumption
      have s22:Vx args.length x16:=by exact vx_at hx s18
      have s23:nodes x16≤N:=by exact zA hN s18
      refine rx [sI v20] [] [] (fun t u w=>⟨b_con (pan:=false) (qM IH x16 args v20 e20 s21 s22 s23),trivial⟩) ?_
      obtain ⟨v24,e24⟩:=LX (operX 3 v10 v20)
      have s25:valB v10=true:=by exact qk (vx_at hx s8) s11 e10
      have s26:valB v20=true:=by exact qk (vx_at hx s18) s21 e20
      refine cx (.o (.c (sI v24))) (zm0 v10 v20 v24 e24 s25 s26) rfl ?_
      obtain ⟨v27,e27⟩:=LX (valB v24)
      refine cx (.o (.c (sB v27))) (qj v24 v27 e27) rfl ?_
      intro v28 e28
      refine ai (fun h29=>?_) fun h29=>?_
      ·
       exfalso;have dh2:=ne_of_beq_false (e1.trans h2);have dh4:=ne_of_beq_false (e3.trans h4);have dh14:=eq_of_beq h14;have q:=qQ (args:=args) hx (by assumption) (by assumption) s7 s17 s8 s18;rw [zy s11 e10,zy s21 e20] at q;have q:evalX args e=valO (operX e.op _ _):=q;rw [dh14] at q;rw [hs] at q;have z:=qV q.symm;rw [e24] at z;simp_all
      ·
       intro hc
       have r0:r=v24:=by
        have dh2:=ne_of_beq_false (e1.trans h2);have dh4:=ne_of_beq_false (e3.trans h4);have dh14:=eq_of_beq h14;have q:=qQ (args:=args) hx (by assumption) (by assumption) s7 s17 s8 s18;rw [zy s11 e10,zy s21 e20] at q;have q:evalX args e=valO (operX e.op _ _):=q;rw [dh14] at q;rw [hs] at q;have z:=(zX q.symm).1;rw [z,e24]
       rw [r0];exact con_b (pan:=false) (hc)
     | false =>
      refine Or.inr ?_
      exfalso;have dh2:=ne_of_beq_false (e1.trans h2);have dh4:=ne_of_beq_false (e3.trans h4);have dh14:=eq_of_beq h14;rw [zcg (args:=args) hx (by assumption) (by assumption) s18 h19] at hs;cases hs
    | false =>
     refine Or.inr ?_
     cases h15:(e.op == (4:Int)) with
     | true =>
      refine Or.inl ?_
      refine rx [] [] [] (fun t u w=>⟨e_lk (zm rfl) (za (show pI e.op=pV (.int .i64 4) by rw [eq_of_beq h15])) find4,trivial⟩) ?_
      refine ai (by (have dh2:=ne_of_beq_false (e1.trans h2);have dh4:=ne_of_beq_false (e3.trans h4);have dh14:=ne_of_beq_false h14;have dh15:=eq_of_beq h15;obtain ⟨a,b,q1,q2⟩:=zaB (n:=0) (m:=0) hx (by assumption) (by assumption);exact ⟨1,_,rfl,q2⟩)) fun n16 x17 s18 s19=>?_
      cases h20:(evalX args x17).isSome with
      | true =>
       refine Or.inl ?_
       obtain ⟨v21,e21⟩:=LX ((evalX args x17).getD 0)
       have s22:(evalX args x17).isSome=true:=by assumption
       have s23:Vx args.length x17:=by exact vx_at hx s19
       have s24:nodes x17≤N:=by exact zA hN s19
       refine rx [sI v21] [] [] (fun t u w=>⟨b_con (pan:=false) (qM IH x17 args v21 e21 s22 s23 s24),trivial⟩) ?_
       obtain ⟨v25,e25⟩:=LX (operX 4 v10 v21)
       have s26:valB v10=true:=by exact qk (vx_at hx s8) s11 e10
       have s27:valB v21=true:=by exact qk (vx_at hx s19) s22 e21
       refine cx (.o (.c (sI v25))) (zm2 v10 v21 v25 e25 s26 s27) rfl ?_
       obtain ⟨v28,e28⟩:=LX (valB v25)
       refine cx (.o (.c (sB v28))) (qj v25 v28 e28) rfl ?_
       intro v29 e29
       refine ai (fun h30=>?_) fun h30=>?_
       ·
        exfalso;have dh2:=ne_of_beq_false (e1.trans h2);have dh4:=ne_of_beq_false (e3.trans h4);have dh14:=ne_of_beq_false h14;have dh15:=eq_of_beq h15;have q:=qQ (args:=args) hx (by assumption) (by assumption) s7 s18 s8 s19;rw [zy s11 e10,zy s22 e21] at q;have q:evalX args e=valO (operX e.op _ _):=q;rw [dh15] at q;rw [hs] at q;have z:=qV q.symm;rw [e25] at z;simp_all
       ·
        intro hc
        have r0:r=v25:=by
         have dh2:=ne_of_beq_false (e1.trans h2);have dh4:=ne_of_beq_false (e3.trans h4);have dh14:=ne_of_beq_false h14;have dh15:=eq_of_beq h15;have q:=qQ (args:=args) hx (by assumption) (by assumption) s7 s18 s8 s19;rw [zy s11 e10,zy s22 e21] at q;have q:evalX args e=valO (operX e.op _ _):=q;rw [dh15] at q;rw [hs] at q;have z:=(zX q.symm).1;rw [z,e25]
        rw [r0];exact con_b (pan:=false) (hc)
      | false =>
       refine Or.inr ?_
       exfalso;have dh2:=ne_of_beq_false (e1.trans h2);have dh4:=ne_of_beq_false (e3.trans h4);have dh14:=ne_of_beq_false h14;have dh15:=eq_of_beq h15;rw [zcg (args:=args) hx (by assumption) (by assumption) s19 h20] at hs;cases hs
     | false =>
      refine Or.inr ?_
      cases h16:(e.op == (5:Int)) with
      | true =>
       refine Or.inl ?_
       refine rx [] [] [] (fun t u w=>⟨e_lk (zm rfl) (za (show pI e.op=pV (.int .i64 5) by rw [eq_of_beq h16])) find5,trivial⟩) ?_
       refine ai (by (have dh2:=ne_of_beq_false (e1.trans h2);have dh4:=ne_of_beq_false (e3.trans h4);have dh14:=ne_of_beq_false h14;have dh15:=ne_of_beq_false h15;have dh16:=eq_of_beq h16;obtain ⟨a,b,q1,q2⟩:=zaB (n:=0) (m:=0) hx (by assumption) (by assumption);exact ⟨1,_,rfl,q2⟩)) fun n17 x18 s19 s20=>?_
       cases h21:(evalX args x18).isSome with
       | true =>
        refine Or.inl ?_
        obtain ⟨v22,e22⟩:=LX ((evalX args x18).getD 0)
        have s23:(evalX args x18).isSome=true:=by assumption
        have s24:Vx args.length x18:=by exact vx_at hx s20
        have s25:nodes x18≤N:=by exact zA hN s20
        refine rx [sI v22] [] [] (fun t u w=>⟨b_con (pan:=false) (qM IH x18 args v22 e22 s23 s24 s25),trivial⟩) ?_
        obtain ⟨v26,e26⟩:=LX (operX 5 v10 v22)
        have s27:valB v10=true:=by exact qk (vx_at hx s8) s11 e10
        have s28:valB v22=true:=by exact qk (vx_at hx s20) s23 e22
        refine cx (.o (.c (sI v26))) (zm4 v10 v22 v26 e26 s27 s28) rfl ?_
        obtain ⟨v29,e29⟩:=LX (valB v26)
        refine cx (.o (.c (sB v29))) (qj v26 v29 e29) rfl ?_
        intro v30 e30
        refine ai (fun h31=>?_) fun h31=>?_
        ·
         exfalso;have dh2:=ne_of_beq_false (e1.trans h2);have dh4:=ne_of_beq_false (e3.trans h4);have dh14:=ne_of_beq_false h14;have dh15:=ne_of_beq_false h15;have dh16:=eq_of_beq h16;have q:=qQ (args:=args) hx (by assumption) (by assumption) s7 s19 s8 s20;rw [zy s11 e10,zy s23 e22] at q;have q:evalX args e=valO (operX e.op _ _):=q;rw [dh16] at q;rw [hs] at q;have z:=qV q.symm;rw [e26] at z;simp_all
        ·
         intro hc
         have r0:r=v26:=by
          have dh2:=ne_of_beq_false (e1.trans h2);have dh4:=ne_of_beq_false (e3.trans h4);have dh14:=ne_of_beq_false h14;have dh15:=ne_of_beq_false h15;have dh16:=eq_of_beq h16;have q:=qQ (args:=args) hx (by assumption) (by assumption) s7 s19 s8 s20;rw [zy s11 e10,zy s23 e22] at q;have q:evalX args e=valO (operX e.op _ _):=q;rw [dh16] at q;rw [hs] at q;have z:=(zX q.symm).1;rw [z,e26]
         rw [r0];exact con_b (pan:=false) (hc)
       | false =>
        refine Or.inr ?_
        exfalso;have dh2:=ne_of_beq_false (e1.trans h2);have dh4:=ne_of_beq_false (e3.trans h4);have dh14:=ne_of_beq_false h14;have dh15:=ne_of_beq_false h15;have dh16:=eq_of_beq h16;rw [zcg (args:=args) hx (by assumption) (by assumption) s20 h21] at hs;cases hs
      | false =>
       refine Or.inr ?_
       cases h17:(e.op == (6:Int)) with
       | true =>
        refine Or.inl ?_
        refine rx [] [] [] (fun t u w=>⟨e_lk (zm rfl) (za (show pI e.op=pV (.int .i64 6) by rw [eq_of_beq h17])) find6,trivial⟩) ?_
        refine ai (by (have dh2:=ne_of_beq_false (e1.trans h2);have dh4:=ne_of_beq_false (e3.trans h4);have dh14:=ne_of_beq_false h14;have dh15:=ne_of_beq_false h15;have dh16:=ne_of_beq_false h16;have dh17:=eq_of_beq h17;obtain ⟨a,b,q1,q2⟩:=zaB (n:=0) (m:=0) hx (by assumption) (by assumption);exact ⟨1,_,rfl,q2⟩)) fun n18 x19 s20 s21=>?_
        cases h22:(evalX args x19).isSome with
        | true =>
         refine Or.inl ?_
         obtain ⟨v23,e23⟩:=LX ((evalX args x19).getD 0)
         have s24:(evalX args x19).isSome=true:=by assumption
         have s25:Vx args.length x19:=by exact vx_at hx s21
         have s26:nodes x19≤N:=by exact zA hN s21
         refine rx [sI v23] [] [] (fun t u w=>⟨b_con (pan:=false) (qM IH x19 args v23 e23 s24 s25 s26),trivial⟩) ?_
         obtain ⟨v27,e27⟩:=LX (operX 6 v10 v23)
         have s28:valB v10=true:=by exact qk (vx_at hx s8) s11 e10
         have s29:valB v23=true:=by exact qk (vx_at hx s21) s24 e23
         refine cx (.o (.c (sI v27))) (zm6 v10 v23 v27 e27 s28 s29) rfl ?_
         obtain ⟨v30,e30⟩:=LX (valB v27)
         refine cx (.o (.c (sB v30))) (qj v27 v30 e30) rfl ?_
         intro v31 e31
         refine ai (fun h32=>?_) fun h32=>?_
         ·
          exfalso;have dh2:=ne_of_beq_false (e1.trans h2);have dh4:=ne_of_beq_false (e3.trans h4);have dh14:=ne_of_beq_false h14;have dh15:=ne_of_beq_false h15;have dh16:=ne_of_beq_false h16;have dh17:=eq_of_beq h17;have q:=qQ (args:=args) hx (by assumption) (by assumption) s7 s20 s8 s21;rw [zy s11 e10,zy s24 e23] at q;have q:evalX args e=valO (operX e.op _ _):=q;rw [dh17] at q;rw [hs] at q;have z:=qV q.symm;rw [e27] at z;simp_all
         ·
          intro hc
          have r0:r=v27:=by
           have dh2:=ne_of_beq_false (e1.trans h2);have dh4:=ne_of_beq_false (e3.trans h4);have dh14:=ne_of_beq_false h14;have dh15:=ne_of_beq_false h15;have dh16:=ne_of_beq_false h16;have dh17:=eq_of_beq h17;have q:=qQ (args:=args) hx (by assumption) (by assumption) s7 s20 s8 s21;rw [zy s11 e10,zy s24 e23] at q;have q:evalX args e=valO (operX e.op _ _):=q;rw [dh17] at q;rw [hs] at q;have z:=(zX q.symm).1;rw [z,e27]
          rw [r0];exact con_b (pan:=false) (hc)
        | false =>
         refine Or.inr ?_
         exfalso;have dh2:=ne_of_beq_false (e1.trans h2);have dh4:=ne_of_beq_false (e3.trans h4);have dh14:=ne_of_beq_false h14;have dh15:=ne_of_beq_false h15;have dh16:=ne_of_beq_false h16;have dh17:=eq_of_beq h17;rw [zcg (args:=args) hx (by assumption) (by assumption) s21 h22] at hs;cases hs
       | false =>
        refine Or.inr ?_
        have s18:(e.op == (7:Int))=true:=by (have dh2:=ne_of_beq_false (e1.trans h2);have dh4:=ne_of_beq_false (e3.trans h4);have dh14:=ne_of_beq_false h14;have dh15:=ne_of_beq_false h15;have dh16:=ne_of_beq_false h16;have dh17:=ne_of_beq_false h17;obtain ⟨a,b,q1,q2,q3,_⟩:=vx_op hx (by assumption) (by assumption);exact beq_iff_eq.2 (by omega))
        refine rx [] [] [] (fun t u w=>⟨e_lk (zm rfl) (za (show pI e.op=pV (.int .i64 7) by rw [eq_of_beq s18])) find7,trivial⟩) ?_
        refine ai (by (have dh2:=ne_of_beq_false (e1.trans h2);have dh4:=ne_of_beq_false (e3.trans h4);have dh14:=ne_of_beq_false h14;have dh15:=ne_of_beq_false h15;have dh16:=ne_of_beq_false h16;have dh17:=ne_of_beq_false h17;obtain ⟨a,b,q1,q2⟩:=zaB (n:=0) (m:=0) hx (by assumption) (by assumption);exact ⟨1,_,rfl,q2⟩)) fun n19 x20 s21 s22=>?_
        cases h23:(evalX args x20).isSome with
        | true =>
         refine Or.inl ?_
         obtain ⟨v24,e24⟩:=LX ((evalX args x20).getD 0)
         have s25:(evalX args x20).isSome=true:=by assumption
         have s26:Vx args.length x20:=by exact vx_at hx s22
         have s27:nodes x20≤N:=by exact zA hN s22
         refine rx [sI v24] [] [] (fun t u w=>⟨b_con (pan:=false) (qM IH x20 args v24 e24 s25 s26 s27),trivial⟩) ?_
         obtain ⟨v28,e28⟩:=LX (operX 7 v10 v24)
         have s29:valB v10=true:=by exact qk (vx_at hx s8) s11 e10
         have s30:valB v24=true:=by exact qk (vx_at hx s22) s25 e24
         refine cx (.o (.c (sI v28))) (zm8 v10 v24 v28 e28 s29 s30) rfl ?_
         obtain ⟨v31,e31⟩:=LX (valB v28)
         refine cx (.o (.c (sB v31))) (qj v28 v31 e31) rfl ?_
         intro v32 e32
         refine ai (fun h33=>?_) fun h33=>?_
         ·
          exfalso;have dh2:=ne_of_beq_false (e1.trans h2);have dh4:=ne_of_beq_false (e3.trans h4);have dh14:=ne_of_beq_false h14;have dh15:=ne_of_beq_false h15;have dh16:=ne_of_beq_false h16;have dh17:=ne_of_beq_false h17;have q:=qQ (args:=args) hx (by assumption) (by assumption) s7 s21 s8 s22;rw [zy s11 e10,zy s25 e24] at q;have q:evalX args e=valO (operX e.op _ _):=q;rw [(eq_of_beq s18)] at q;rw [hs] at q;have z:=qV q.symm;rw [e28] at z;simp_all
         ·
          intro hc
          have r0:r=v28:=by
           have dh2:=ne_of_beq_false (e1.trans h2);have dh4:=ne_of_beq_false (e3.trans h4);have dh14:=ne_of_beq_false h14;have dh15:=ne_of_beq_false h15;have dh16:=ne_of_beq_false h16;have dh17:=ne_of_beq_false h17;have q:=qQ (args:=args) hx (by assumption) (by assumption) s7 s21 s8 s22;rw [zy s11 e10,zy s25 e24] at q;have q:evalX args e=valO (operX e.op _ _):=q;rw [(eq_of_beq s18)] at q;rw [hs] at q;have z:=(zX q.symm).1;rw [z,e28]
          rw [r0];exact con_b (pan:=false) (hc)
        | false =>
         refine Or.inr ?_
         exfalso;have dh2:=ne_of_beq_false (e1.trans h2);have dh4:=ne_of_beq_false (e3.trans h4);have dh14:=ne_of_beq_false h14;have dh15:=ne_of_beq_false h15;have dh16:=ne_of_beq_false h16;have dh17:=ne_of_beq_false h17;rw [zcg (args:=args) hx (by assumption) (by assumption) s22 h23] at hs;cases hs
   | false =>
    refine Or.inr ?_
    exfalso;have dh2:=ne_of_beq_false (e1.trans h2);have dh4:=ne_of_beq_false (e3.trans h4);rw [zcg (args:=args) hx (by assumption) (by assumption) s8 h9] at hs;cases hs
def zgE:Tr:=.s [(7,.bin .eql 3 0 (kI 1))] (.b 5 (.s [(10,.call 141 [1] (.o .c)),(11,.un .not 6)] (.b 7 (.s [(0,.raw [(1000012,.pan ⟨142,[.o (.c (.k (.int .i64 3)))],[],8,[]⟩)] 1)] (.z (.ret true (8) [.bx 900 24 [.h 3],.bx 901 193 [.q 140 [(900,0),(901,0),(902,0)]],.bx 902 192 [.h 4]]))) (.z .no))) (.s [(9,.bin .eql 3 0 (kI 2))] (.b 6 (.s [(14,.ia 24 3 1 3 1),(15,.ld 3 0 7),(18,.call 141 [8] (.o .c)),(19,.un .not 9)] (.b 10 (.s [(0,.raw [(1000020,.pan ⟨142,[.o (.c (.k (.int .i64 3)))],[],11,[]⟩)] 1)] (.z (.ret true (11) [.bx 900 24 [.h 3],.bx 901 193 [.q 140 [(900,0),(901,0),(902,0)]],.bx 902 192 [.h 4]]))) (.z .no))) (.s [(14,.ia 58 60 3 2 (kI 0)),(15,.ld 60 3 7)] (.r (.s [(0,.raw [(1000016,.call ⟨140,[.o (.g [8,9,10]),.o (.c (.p 900 0)),.o (.c (.p 901 0)),.o (.c (.p 902 0))],[.bx 900 24 [.h 3],.bx 901 193 [.q 140 [(900,0),(901,0),(902,0)]],.bx 902 192 [.h 4]],11,[.bx 900 24 [.h 3],.bx 901 193 [.q 140 [(900,0),(901,0),(902,0)]],.bx 902 192 [.h 4]]⟩)] 1)] (.r (.s [(0,.raw [(1000021,.op (.lk 192 false) [4,0] [] (LF (.q 135 [])))] 0),(26,.ia 58 60 3 2 (kI 1)),(27,.ld 60 3 12)] (.r (.s [(0,.raw [(1000028,.call ⟨140,[.o (.g [13,14,15]),.o (.c (.p 900 0)),.o (.c (.p 901 0)),.o (.c (.p 902 0))],[.bx 900 24 [.h 3],.bx 901 193 [.q 140 [(900,0),(901,0),(902,0)]],.bx 902 192 [.h 4]],16,[.bx 900 24 [.h 3],.bx 901 193 [.q 140 [(900,0),(901,0),(902,0)]],.bx 902 192 [.h 4]]⟩)] 1),(29,.call 135 [11,16] (.o .c)),(32,.call 141 [17] (.o .c)),(33,.un .not 18)] (.b 19 (.s [(0,.raw [(1000034,.pan ⟨142,[.o (.c (.k (.int .i64 3)))],[],20,[]⟩)] 1)] (.z (.ret true (20) [.bx 900 24 [.h 3],.bx 901 193 [.q 140 [(900,0),(901,0),(902,0)]],.bx 902 192 [.h 4]]))) (.z .no))) (.s [(0,.raw [(1000028,.pan ⟨140,[.o (.g [13,14,15]),.o (.c (.p 900 0)),.o (.c (.p 901 0)),.o (.c (.p 902 0))],[.bx 900 24 [.h 3],.bx 901 193 [.q 140 [(900,0),(901,0),(902,0)]],.bx 902 192 [.h 4]],16,[.bx 900 24 [.h 3],.bx 901 193 [.q 140 [(900,0),(901,0),(902,0)]],.bx 902 192 [.h 4]]⟩)] 1)] (.z (.ret true (16) [.bx 900 24 [.h 3],.bx 901 193 [.q 140 [(900,0),(901,0),(902,0)]],.bx 902 192 [.h 4]]))))) (.r (.s [(0,.raw [(1000021,.op (.lk 192 false) [4,0] [] (LF (.q 136 [])))] 0),(26,.ia 58 60 3 2 (kI 1)),(27,.ld 60 3 12)] (.r (.s [(0,.raw [(1000028,.call ⟨140,[.o (.g [13,14,15]),.o (.c (.p 900 0)),.o (.c (.p 901 0)),.o (.c (.p 902 0))],[.bx 900 24 [.h 3],.bx 901 193 [.q 140 [(900,0),(901,0),(902,0)]],.bx 902 192 [.h 4]],16,[.bx 900 24 [.h 3],.bx 901 193 [.q 140 [(900,0),(901,0),(902,0)]],.bx 902 192 [.h 4]]⟩)] 1),(29,.call 136 [11,16] (.o .c)),(32,.call 141 [17] (.o .c)),(33,.un .not 18)] (.b 19 (.s [(0,.raw [(1000034,.pan ⟨142,[.o (.c (.k (.int .i64 3)))],[],20,[]⟩)] 1)] (.z (.ret true (20) [.bx 900 24 [.h 3],.bx 901 193 [.q 140 [(900,0),(901,0),(902,0)]],.bx 902 192 [.h 4]]))) (.z .no))) (.s [(0,.raw [(1000028,.pan ⟨140,[.o (.g [13,14,15]),.o (.c (.p 900 0)),.o (.c (.p 901 0)),.o (.c (.p 902 0))],[.bx 900 24 [.h 3],.bx 901 193 [.q 140 [(900,0),(901,0),(902,0)]],.bx 902 192 [.h 4]],16,[.bx 900 24 [.h 3],.bx 901 193 [.q 140 [(900,0),(901,0),(902,0)]],.bx 902 192 [.h 4]]⟩)] 1)] (.z (.ret true (16) [.bx 900 24 [.h 3],.bx 901 193 [.q 140 [(900,0),(901,0),(902,0)]],.bx 902 192 [.h 4]]))))) (.r (.s [(0,.raw [(1000021,.op (.lk 192 false) [4,0] [] (LF (.q 137 [])))] 0),(26,.ia 58 60 3 2 (kI 1)),(27,.ld 60 3 12)] (.r (.s [(0,.raw [(1000028,.call ⟨140,[.o (.g [13,14,15]),.o (.c (.p 900 0)),.o (.c (.p 901 0)),.o (.c (.p 902 0))],[.bx 900 24 [.h 3],.bx 901 193 [.q 140 [(900,0),(901,0),(902,0)]],.bx 902 192 [.h 4]],16,[.bx 900 24 [.h 3],.bx 901 193 [.q 140 [(900,0),(901,0),(902,0)]],.bx 902 192 [.h 4]]⟩)] 1),(29,.call 137 [11,16] (.o .c)),(32,.call 141 [17] (.o .c)),(33,.un .not 18)] (.b 19 (.s [(0,.raw [(1000034,.pan ⟨142,[.o (.c (.k (.int .i64 3)))],[],20,[]⟩)] 1)] (.z (.ret true (20) [.bx 900 24 [.h 3],.bx 901 193 [.q 140 [(900,0),(901,0),(902,0)]],.bx 902 192 [.h 4]]))) (.z .no))) (.s [(0,.raw [(1000028,.pan ⟨140,[.o (.g [13,14,15]),.o (.c (.p 900 0)),.o (.c (.p 901 0)),.o (.c (.p 902 0))],[.bx 900 24 [.h 3],.bx 901 193 [.q 140 [(900,0),(901,0),(902,0)]],.bx 902 192 [.h 4]],16,[.bx 900 24 [.h 3],.bx 901 193 [.q 140 [(900,0),(901,0),(902,0)]],.bx 902 192 [.h 4]]⟩)] 1)] (.z (.ret true (16) [.bx 900 24 [.h 3],.bx 901 193 [.q 140 [(900,0),(901,0),(902,0)]],.bx 902 192 [.h 4]]))))) (.r (.s [(0,.raw [(1000021,.op (.lk 192 false) [4,0] [] (LF (.q 138 [])))] 0),(26,.ia 58 60 3 2 (kI 1)),(27,.ld 60 3 12)] (.r (.s [(0,.raw [(1000028,.call ⟨140,[.o (.g [13,14,15]),.o (.c (.p 900 0)),.o (.c (.p 901 0)),.o (.c (.p 902 0))],[.bx 900 24 [.h 3],.bx 901 193 [.q 140 [(900,0),(901,0),(902,0)]],.bx 902 192 [.h 4]],16,[.bx 900 24 [.h 3],.bx 901 193 [.q 140 [(900,0),(901,0),(902,0)]],.bx 902 192 [.h 4]]⟩)] 1),(29,.call 138 [11,16] (.o .c)),(32,.call 141 [17] (.o .c)),(33,.un .not 18)] (.b 19 (.s [(0,.raw [(1000034,.pan ⟨142,[.o (.c (.k (.int .i64 3)))],[],20,[]⟩)] 1)] (.z (.ret true (20) [.bx 900 24 [.h 3],.bx 901 193 [.q 140 [(900,0),(901,0),(902,0)]],.bx 902 192 [.h 4]]))) (.z .no))) (.s [(0,.raw [(1000028,.pan ⟨140,[.o (.g [13,14,15]),.o (.c (.p 900 0)),.o (.c (.p 901 0)),.o (.c (.p 902 0))],[.bx 900 24 [.h 3],.bx 901 193 [.q 140 [(900,0),(901,0),(902,0)]],.bx 902 192 [.h 4]],16,[.bx 900 24 [.h 3],.bx 901 193 [.q 140 [(900,0),(901,0),(902,0)]],.bx 902 192 [.h 4]]⟩)] 1)] (.z (.ret true (16) [.bx 900 24 [.h 3],.bx 901 193 [.q 140 [(900,0),(901,0),(902,0)]],.bx 902 192 [.h 4]]))))) (.s [(0,.raw [(1000021,.op (.lk 192 false) [4,0] [] (LF (.q 139 [])))] 0),(26,.ia 58 60 3 2 (kI 1)),(27,.ld 60 3 12)] (.r (.s [(0,.raw [(1000028,.call ⟨140,[.o (.g [13,14,15]),.o (.c (.p 900 0)),.o (.c (.p 901 0)),.o (.c (.p 902 0))],[.bx 900 24 [.h 3],.bx 901 193 [.q 140 [(900,0),(901,0),(902,0)]],.bx 902 192 [.h 4]],16,[.bx 900 24 [.h 3],.bx 901 193 [.q 140 [(900,0),(901,0),(902,0)]],.bx 902 192 [.h 4]]⟩)] 1),(29,.call 139 [11,16] (.o .c)),(32,.call 141 [17] (.o .c)),(33,.un .not 18)] (.b 19 (.s [(0,.raw [(1000034,.pan ⟨142,[.o (.c (.k (.int .i64 3)))],[],20,[]⟩)] 1)] (.z (.ret true (20) [.bx 900 24 [.h 3],.bx 901 193 [.q 140 [(900,0),(901,0),(902,0)]],.bx 902 192 [.h 4]]))) (.z .no))) (.s [(0,.raw [(1000028,.pan ⟨140,[.o (.g [13,14,15]),.o (.c (.p 900 0)),.o (.c (.p 901 0)),.o (.c (.p 902 0))],[.bx 900 24 [.h 3],.bx 901 193 [.q 140 [(900,0),(901,0),(902,0)]],.bx 902 192 [.h 4]],16,[.bx 900 24 [.h 3],.bx 901 193 [.q 140 [(900,0),(901,0),(902,0)]],.bx 902 192 [.h 4]]⟩)] 1)] (.z (.ret true (16) [.bx 900 24 [.h 3],.bx 901 193 [.q 140 [(900,0),(901,0),(902,0)]],.bx 902 192 [.h 4]])))))))))) (.s [(0,.raw [(1000016,.pan ⟨140,[.o (.g [8,9,10]),.o (.c (.p 900 0)),.o (.c (.p 901 0)),.o (.c (.p 902 0))],[.bx 900 24 [.h 3],.bx 901 193 [.q 140 [(900,0),(901,0),(902,0)]],.bx 902 192 [.h 4]],11,[.bx 900 24 [.h 3],.bx 901 193 [.q 140 [(900,0),(901,0),(902,0)]],.bx 902 192 [.h 4]]⟩)] 1)] (.z (.ret true (11) [.bx 900 24 [.h 3],.bx 901 193 [.q 140 [(900,0),(901,0),(902,0)]],.bx 902 192 [.h 4]]))))))))
theorem zkc {w0:World} {N:Nat} {args:List Int} (IH:zdF w0 args N) (e:Xp) (k:Int) (hk:(3:Int)=k) (hs:evalX args e=none) (hx:Vx args.length e) (hN:nodes e≤N+1):BFun true (KN w0) Tryz.prog 140 [.o (.g [.d (pI e.op),.d (pI e.n),.d (pLs cE e.l)]),.o (.c (.p 0 0)),.o (.c (.p 1 0)),.o (.c (.p 2 0))] [(24,[.d (pLs cI args)]),(193,[.q 140 [(0,0),(1,0),(2,0)]]),(192,[.d pM])] (.o (.c (.d (pV (.iface 37 (.int .i64 k)))))) [(24,[.d (pLs cI args)]),(193,[.q 140 [(0,0),(1,0),(2,0)]]),(192,[.d pM])]:=by
 refine tfn w0 140 ⟨[.o (.g [0,1,2]),LF (.p 900 0),LF (.p 901 0),LF (.p 902 0)],[.bx 900 24 [.h 3],.bx 901 193 [.q 140 [(900,0),(901,0),(902,0)]],.bx 902 192 [.h 4]],[],0,0⟩ ⟨5,[.q (pM),.ls 1 cI kIc args,.ls 3 cE kE e.l,sI e.n,sI e.op],[],[]⟩ zgE (by kernel_rfl) ?_
 intro v1 e1
 refine ai (fun h2=>?_) fun h2=>?_
 ·
  obtain ⟨v3,e3⟩:=LX (valB e.n)
  refine cx (.o (.c (sB v3))) (qj e.n v3 e3) rfl ?_
  intro v4 e4
  refine ai (fun h5=>?_) fun h5=>?_
  ·
   obtain ⟨v6,e6⟩:=LX ((3:Int))
   refine rx [.v (.iface 37 (.int .i64 v6))] [] [] (fun t u w=>⟨b_con (pan:=true) (zbI (3:Int) v6 e6),trivial⟩) ?_
   intro hc
   have r0:k=v6:=by
    rw [← hk];assumption
   rw [r0];exact con_b (pan:=true) (hc)
  ·
   exfalso;have dh2:=eq_of_beq (e1.trans h2);have q:=zkU (args:=args) hx (by assumption);rw [hs] at q;have z:=qU q.symm;simp_all
 ·
  intro v3 e3
  refine ai (fun h4=>?_) fun h4=>?_
  ·
   refine ai (by (have dh2:=ne_of_beq_false (e1.trans h2);have dh4:=eq_of_beq (e3.trans h4);have q:=zpV (args:=args) hx (by assumption);exact ⟨e.n.toNat,_,by omega,List.getElem?_eq_getElem (by omega)⟩)) fun n5 x6 s7 s8=>?_
   obtain ⟨v9,e9⟩:=LX (valB x6)
   refine cx (.o (.c (sB v9))) (qj x6 v9 e9) rfl ?_
   intro v10 e10
   refine ai (fun h11=>?_) fun h11=>?_
   ·
    obtain ⟨v12,e12⟩:=LX ((3:Int))
    refine rx [.v (.iface 37 (.int .i64 v12))] [] [] (fun t u w=>⟨b_con (pan:=true) (zbI (3:Int) v12 e12),trivial⟩) ?_
    intro hc
    have r0:k=v12:=by
     rw [← hk];assumption
    rw [r0];exact con_b (pan:=true) (hc)
   ·
    exfalso;have dh2:=ne_of_beq_false (e1.trans h2);have dh4:=eq_of_beq (e3.trans h4);have q:=zkT (args:=args) hx (by assumption);rw [zg3 s7 s8] at q;rw [hs] at q;have z:=qU q.symm;simp_all
  ·
   refine ai (by (have dh2:=ne_of_beq_false (e1.trans h2);have dh4:=ne_of_beq_false (e3.trans h4);obtain ⟨a,b,q1,q2⟩:=zaB (n:=0) (m:=0) hx (by assumption) (by assumption);exact ⟨0,_,rfl,q1⟩)) fun n5 x6 s7 s8=>?_
   cases h9:(evalX args x6).isSome with
   | true =>
    refine Or.inl ?_
    obtain ⟨v10,e10⟩:=LX ((evalX args x6).getD 0)
    have s11:(evalX args x6).isSome=true:=by assumption
    have s12:Vx args.length x6:=by exact vx_at hx s8
    have s13:nodes x6≤N:=by exact zA hN s8
    refine rx [sI v10] [] [] (fun t u w=>⟨b_con (pan:=false) (qM IH x6 args v10 e10 s11 s12 s13),trivial⟩) ?_
    cases h14:(e.op == (3:Int)) with
    | true =>
     refine Or.inl ?_
     refine rx [] [] [] (fun t u w=>⟨e_lk (zm rfl) (za (show pI e.op=pV (.int .i64 3) by rw [eq_of_beq h14])) find3,trivial⟩) ?_
     refine ai (by (have dh2:=ne_of_beq_false (e1.trans h2);have dh4:=ne_of_beq_false (e3.trans h4);have dh14:=eq_of_beq h14;obtain ⟨a,b,q1,q2⟩:=zaB (n:=0) (m:=0) hx (by assumption) (by assumption);exact ⟨1,_,rfl,q2⟩)) fun n15 x16 s17 s18=>?_
     cases h19:(evalX args x16).isSome with
     | true =>
      refine Or.inl ?_
      obtain ⟨v20,e20⟩:=LX ((evalX args x16).getD 0)
      have s21:(evalX args x16).isSome=true:=by assumption
      have s22:Vx args.length x16:=by exact vx_at hx s18
      have s23:nodes x16≤N:=by exact zA hN s18
      refine rx [sI v20] [] [] (fun t u w=>⟨b_con (pan:=false) (qM IH x16 args v20 e20 s21 s22 s23),trivial⟩) ?_
      obtain ⟨v24,e24⟩:=LX (operX 3 v10 v20)
      have s25:valB v10=true:=by exact qk (vx_at hx s8) s11 e10
      have s26:valB v20=true:=by exact qk (vx_at hx s18) s21 e20
      refine cx (.o (.c (sI v24))) (zm0 v10 v20 v24 e24 s25 s26) rfl ?_
      obtain ⟨v27,e27⟩:=LX (valB v24)
      refine cx (.o (.c (sB v27))) (qj v24 v27 e27) rfl ?_
      intro v28 e28
      refine ai (fun h29=>?_) fun h29=>?_
      ·
       obtain ⟨v30,e30⟩:=LX ((3:Int))
       refine rx [.v (.iface 37 (.int .i64 v30))] [] [] (fun t u w=>⟨b_con (pan:=true) (zbI (3:Int) v30 e30),trivial⟩) ?_
       intro hc
       have r0:k=v30:=by
        rw [← hk];assumption
       rw [r0];exact con_b (pan:=true) (hc)
      ·
       exfalso;have dh2:=ne_of_beq_false (e1.trans h2);have dh4:=ne_of_beq_false (e3.trans h4);have dh14:=eq_of_beq h14;have q:=qQ (args:=args) hx (by assumption) (by assumption) s7 s17 s8 s18;rw [zy s11 e10,zy s21 e20] at q;have q:evalX args e=valO (operX e.op _ _):=q;rw [dh14] at q;rw [hs] at q;have z:=qU q.symm;rw [e24] at z;simp_all
     | false =>
      refine Or.inr ?_
      obtain ⟨v20,e20⟩:=LX ((3:Int))
      have s21:(evalX args x16).isSome=false:=by assumption
      have s22:Vx args.length x16:=by exact vx_at hx s18
      have s23:nodes x16≤N:=by exact zA hN s18
      refine rx [.v (.iface 37 (.int .i64 v20))] [] [] (fun t u w=>⟨b_con (pan:=true) (za9 IH x16 args v20 e20 s21 s22 s23),trivial⟩) ?_
      intro hc
      have r0:k=v20:=by
       rw [← hk];assumption
      rw [r0];exact con_b (pan:=true) (hc)
    | false =>
     refine Or.inr ?_
     cases h15:(e.op == (4:Int)) with
     | true =>
      refine Or.inl ?_
      refine rx [] [] [] (fun t u w=>⟨e_lk (zm rfl) (za (show pI e.op=pV (.int .i64 4) by rw [eq_of_beq h15])) find4,trivial⟩) ?_
      refine ai (by (have dh2:=ne_of_beq_false (e1.trans h2);have dh4:=ne_of_beq_false (e3.trans h4);have dh14:=ne_of_beq_false h14;have dh15:=eq_of_beq h15;obtain ⟨a,b,q1,q2⟩:=zaB (n:=0) (m:=0) hx (by assumption) (by assumption);exact ⟨1,_,rfl,q2⟩)) fun n16 x17 s18 s19=>?_
      cases h20:(evalX args x17).isSome with
      | true =>
       refine Or.inl ?_
       obtain ⟨v21,e21⟩:=LX ((evalX args x17).getD 0)
       have s22:(evalX args x17).isSome=true:=by assumption
       have s23:Vx args.length x17:=by exact vx_at hx s19
       have s24:nodes x17≤N:=by exact zA hN s19
       refine rx [sI v21] [] [] (fun t u w=>⟨b_con (pan:=false) (qM IH x17 args v21 e21 s22 s23 s24),trivial⟩) ?_
       obtain ⟨v25,e25⟩:=LX (operX 4 v10 v21)
       have s26:valB v10=true:=by exact qk (vx_at hx s8) s11 e10
       have s27:valB v21=true:=by exact qk (vx_at hx s19) s22 e21
       refine cx (.o (.c (sI v25))) (zm2 v10 v21 v25 e25 s26 s27) rfl ?_
       obtain ⟨v28,e28⟩:=LX (valB v25)
       refine cx (.o (.c (sB v28))) (qj v25 v28 e28) rfl ?_
       intro v29 e29
       refine ai (fun h30=>?_) fun h30=>?_
       ·
        obtain ⟨v31,e31⟩:=LX ((3:Int))
        refine rx [.v (.iface 37 (.int .i64 v31))] [] [] (fun t u w=>⟨b_con (pan:=true) (zbI (3:Int) v31 e31),trivial⟩) ?_
        intro hc
        have r0:k=v31:=by
         rw [← hk];assumption
        rw [r0];exact con_b (pan:=true) (hc)
       ·
        exfalso;have dh2:=ne_of_beq_false (e1.trans h2);have dh4:=ne_of_beq_false (e3.trans h4);have dh14:=ne_of_beq_false h14;have dh15:=eq_of_beq h15;have q:=qQ (args:=args) hx (by assumption) (by assumption) s7 s18 s8 s19;rw [zy s11 e10,zy s22 e21] at q;have q:evalX args e=valO (operX e.op _ _):=q;rw [dh15] at q;rw [hs] at q;have z:=qU q.symm;rw [e25] at z;simp_all
      | false =>
       refine Or.inr ?_
       obtain ⟨v21,e21⟩:=LX ((3:Int))
       have s22:(evalX args x17).isSome=false:=by assumption
       have s23:Vx args.length x17:=by exact vx_at hx s19
       have s24:nodes x17≤N:=by exact zA hN s19
       refine rx [.v (.iface 37 (.int .i64 v21))] [] [] (fun t u w=>⟨b_con (pan:=true) (za9 IH x17 args v21 e21 s22 s23 s24),trivial⟩) ?_
       intro hc
       have r0:k=v21:=by
        rw [← hk];assumption
       rw [r0];exact con_b (pan:=true) (hc)
     | false =>
      refine Or.inr ?_
      cases h16:(e.op == (5:Int)) with
      | true =>
       refine Or.inl ?_
       refine rx [] [] [] (fun t u w=>⟨e_lk (zm rfl) (za (show pI e.op=pV (.int .i64 5) by rw [eq_of_beq h16])) find5,trivial⟩) ?_
       refine ai (by (have dh2:=ne_of_beq_false (e1.trans h2);have dh4:=ne_of_beq_false (e3.trans h4);have dh14:=ne_of_beq_false h14;have dh15:=ne_of_beq_false h15;have dh16:=eq_of_beq h16;obtain ⟨a,b,q1,q2⟩:=zaB (n:=0) (m:=0) hx (by assumption) (by assumption);exact ⟨1,_,rfl,q2⟩)) fun n17 x18 s19 s20=>?_
       cases h21:(evalX args x18).isSome with
       | true =>
        refine Or.inl ?_
        obtain ⟨v22,e22⟩:=LX ((evalX args x18).getD 0)
        have s23:(evalX args x18).isSome=true:=by assumption
        have s24:Vx args.length x18:=by exact vx_at hx s20
        have s25:nodes x18≤N:=by exact zA hN s20
        refine rx [sI v22] [] [] (fun t u w=>⟨b_con (pan:=false) (qM IH x18 args v22 e22 s23 s24 s25),trivial⟩) ?_
        obtain ⟨v26,e26⟩:=LX (operX 5 v10 v22)
        have s27:valB v10=true:=by exact qk (vx_at hx s8) s11 e10
        have s28:valB v22=true:=by exact qk (vx_at hx s20) s23 e22
        refine cx (.o (.c (sI v26))) (zm4 v10 v22 v26 e26 s27 s28) rfl ?_
        obtain ⟨v29,e29⟩:=LX (valB v26)
        refine cx (.o (.c (sB v29))) (qj v26 v29 e29) rfl ?_
        intro v30 e30
        refine ai (fun h31=>?_) fun h31=>?_
        ·
         obtain ⟨v32,e32⟩:=LX ((3:Int))
         refine rx [.v (.iface 37 (.int .i64 v32))] [] [] (fun t u w=>⟨b_con (pan:=true) (zbI (3:Int) v32 e32),trivial⟩) ?_
         intro hc
         have r0:k=v32:=by
          rw [← hk];assumption
         rw [r0];exact con_b (pan:=true) (hc)
        ·
         exfalso;have dh2:=ne_of_beq_false (e1.trans h2);have dh4:=ne_of_beq_false (e3.trans h4);have dh14:=ne_of_beq_false h14;have dh15:=ne_of_beq_false h15;have dh16:=eq_of_beq h16;have q:=qQ (args:=args) hx (by assumption) (by assumption) s7 s19 s8 s20;rw [zy s11 e10,zy s23 e22] at q;have q:evalX args e=valO (operX e.op _ _):=q;rw [dh16] at q;rw [hs] at q;have z:=qU q.symm;rw [e26] at z;simp_all
       | false =>
        refine Or.inr ?_
        obtain ⟨v22,e22⟩:=LX ((3:Int))
        have s23:(evalX args x18).isSome=false:=by assumption
        have s24:Vx args.length x18:=by exact vx_at hx s20
        have s25:nodes x18≤N:=by exact zA hN s20
        refine rx [.v (.iface 37 (.int .i64 v22))] [] [] (fun t u w=>⟨b_con (pan:=true) (za9 IH x18 args v22 e22 s23 s24 s25),trivial⟩) ?_
        intro hc
        have r0:k=v22:=by
         rw [← hk];assumption
        rw [r0];exact con_b (pan:=true) (hc)
      | false =>
       refine Or.inr ?_
       cases h17:(e.op == (6:Int)) with
       | true =>
        refine Or.inl ?_
        refine rx [] [] [] (fun t u w=>⟨e_lk (zm rfl) (za (show pI e.op=pV (.int .i64 6) by rw [eq_of_beq h17])) find6,trivial⟩) ?_
        refine ai (by (have dh2:=ne_of_beq_false (e1.trans h2);have dh4:=ne_of_beq_false (e3.trans h4);have dh14:=ne_of_beq_false h14;have dh15:=ne_of_beq_false h15;have dh16:=ne_of_beq_false h16;have dh17:=eq_of_beq h17;obtain ⟨a,b,q1,q2⟩:=zaB (n:=0) (m:=0) hx (by assumption) (by assumption);exact ⟨1,_,rfl,q2⟩)) fun n18 x19 s20 s21=>?_
        cases h22:(evalX args x19).isSome with
        | true =>
         refine Or.inl ?_
         obtain ⟨v23,e23⟩:=LX ((evalX args x19).getD 0)
         have s24:(evalX args x19).isSome=true:=by assumption
         have s25:Vx args.length x19:=by exact vx_at hx s21
         have s26:nodes x19≤N:=by exact zA hN s21
         refine rx [sI v23] [] [] (fun t u w=>⟨b_con (pan:=false) (qM IH x19 args v23 e23 s24 s25 s26),trivial⟩) ?_
         obtain ⟨v27,e27⟩:=LX (operX 6 v10 v23)
         have s28:valB v10=true:=by exact qk (vx_at hx s8) s11 e10
         have s29:valB v23=true:=by exact qk (vx_at hx s21) s24 e23
         refine cx (.o (.c (sI v27))) (zm6 v10 v23 v27 e27 s28 s29) rfl ?_
         obtain ⟨v30,e30⟩:=LX (valB v27)
         refine cx (.o (.c (sB v30))) (qj v27 v30 e30) rfl ?_
         intro v31 e31
         refine ai (fun h32=>?_) fun h32=>?_
         ·
          obtain ⟨v33,e33⟩:=LX ((3:Int))
          refine rx [.v (.iface 37 (.int .i64 v33))] [] [] (fun t u w=>⟨b_con (pan:=true) (zbI (3:Int) v33 e33),trivial⟩) ?_
          intro hc
          have r0:k=v33:=by
           rw [← hk];assumption
          rw [r0];exact con_b (pan:=true) (hc)
         ·
          exfalso;have dh2:=ne_of_beq_false (e1.trans h2);have dh4:=ne_of_beq_false (e3.trans h4);have dh14:=ne_of_beq_false h14;have dh15:=ne_of_beq_false h15;have dh16:=ne_of_beq_false h16;have dh17:=eq_of_beq h17;have q:=qQ (args:=args) hx (by assumption) (by assumption) s7 s20 s8 s21;rw [zy s11 e10,zy s24 e23] at q;have q:evalX args e=valO (operX e.op _ _):=q;rw [dh17] at q;rw [hs] at q;have z:=qU q.symm;rw [e27] at z;simp_all
        | false =>
         refine Or.inr ?_
         obtain ⟨v23,e23⟩:=LX ((3:Int))
         have s24:(evalX args x19).isSome=false:=by assumption
         have s25:Vx args.length x19:=by exact vx_at hx s21
         have s26:nodes x19≤N:=by exact zA hN s21
         refine rx [.v (.iface 37 (.int .i64 v23))] [] [] (fun t u w=>⟨b_con (pan:=true) (za9 IH x19 args v23 e23 s24 s25 s26),trivial⟩) ?_
         intro hc
         have r0:k=v23:=by
          rw [← hk];assumption
         rw [r0];exact con_b (pan:=true) (hc)
       | false =>
        refine Or.inr ?_
        have s18:(e.op == (7:Int))=true:=by (have dh2:=ne_of_beq_false (e1.trans h2);have dh4:=ne_of_beq_false (e3.trans h4);have dh14:=ne_of_beq_false h14;have dh15:=ne_of_beq_false h15;have dh16:=ne_of_beq_false h16;have dh17:=ne_of_beq_false h17;obtain ⟨a,b,q1,q2,q3,_⟩:=vx_op hx (by assumption) (by assumption);exact beq_iff_eq.2 (by omega))
        refine rx [] [] [] (fun t u w=>⟨e_lk (zm rfl) (za (show pI e.op=pV (.int .i64 7) by rw [eq_of_beq s18])) find7,trivial⟩) ?_
        refine ai (by (have dh2:=ne_of_beq_false (e1.trans h2);have dh4:=ne_of_beq_false (e3.trans h4);have dh14:=ne_of_beq_false h14;have dh15:=ne_of_beq_false h15;have dh16:=ne_of_beq_false h16;have dh17:=ne_of_beq_false h17;obtain ⟨a,b,q1,q2⟩:=zaB (n:=0) (m:=0) hx (by assumption) (by assumption);exact ⟨1,_,rfl,q2⟩)) fun n19 x20 s21 s22=>?_
        cases h23:(evalX args x20).isSome with
        | true =>
         refine Or.inl ?_
         obtain ⟨v24,e24⟩:=LX ((evalX args x20).getD 0)
         have s25:(evalX args x20).isSome=true:=by assumption
         have s26:Vx args.length x20:=by exact vx_at hx s22
         have s27:nodes x20≤N:=by exact zA hN s22
         refine rx [sI v24] [] [] (fun t u w=>⟨b_con (pan:=false) (qM IH x20 args v24 e24 s25 s26 s27),trivial⟩) ?_
         obtain ⟨v28,e28⟩:=LX (operX 7 v10 v24)
         have s29:valB v10=true:=by exact qk (vx_at hx s8) s11 e10
         have s30:valB v24=true:=by exact qk (vx_at hx s22) s25 e24
         refine cx (.o (.c (sI v28))) (zm8 v10 v24 v28 e28 s29 s30) rfl ?_
         obtain ⟨v31,e31⟩:=LX (valB v28)
         refine cx (.o (.c (sB v31))) (qj v28 v31 e31) rfl ?_
         intro v32 e32
         refine ai (fun h33=>?_) fun h33=>?_
         ·
          obtain ⟨v34,e34⟩:=LX ((3:Int))
          refine rx [.v (.iface 37 (.int .i64 v34))] [] [] (fun t u w=>⟨b_con (pan:=true) (zbI (3:Int) v34 e34),trivial⟩) ?_
          intro hc
          have r0:k=v34:=by
           rw [← hk];assumption
          rw [r0];exact con_b (pan:=true) (hc)
         ·
          exfalso;have dh2:=ne_of_beq_false (e1.trans h2);have dh4:=ne_of_beq_false (e3.trans h4);have dh14:=ne_of_beq_false h14;have dh15:=ne_of_beq_false h15;have dh16:=ne_of_beq_false h16;have dh17:=ne_of_beq_false h17;have q:=qQ (args:=args) hx (by assumption) (by assumption) s7 s21 s8 s22;rw [zy s11 e10,zy s25 e24] at q;have q:evalX args e=valO (operX e.op _ _):=q;rw [(eq_of_beq s18)] at q;rw [hs] at q;have z:=qU q.symm;rw [e28] at z;simp_all
        | false =>
         refine Or.inr ?_
         obtain ⟨v24,e24⟩:=LX ((3:Int))
         have s25:(evalX args x20).isSome=false:=by assumption
         have s26:Vx args.length x20:=by exact vx_at hx s22
         have s27:nodes x20≤N:=by exact zA hN s22
         refine rx [.v (.iface 37 (.int .i64 v24))] [] [] (fun t u w=>⟨b_con (pan:=true) (za9 IH x20 args v24 e24 s25 s26 s27),trivial⟩) ?_
         intro hc
         have r0:k=v24:=by
          rw [← hk];assumption
         rw [r0];exact con_b (pan:=true) (hc)
   | false =>
    refine Or.inr ?_
    obtain ⟨v10,e10⟩:=LX ((3:Int))
    have s11:(evalX args x6).isSome=false:=by assumption
    have s12:Vx args.length x6:=by exact vx_at hx s8
    have s13:nodes x6≤N:=by exact zA hN s8
    refine rx [.v (.iface 37 (.int .i64 v10))] [] [] (fun t u w=>⟨b_con (pan:=true) (za9 IH x6 args v10 e10 s11 s12 s13),trivial⟩) ?_
    intro hc
    have r0:k=v10:=by
     rw [← hk];assumption
    rw [r0];exact con_b (pan:=true) (hc)
theorem zcS {w0:World} {args:List Int}:∀N:Nat,zdF w0 args N
 | 0=>fun x _ h=>by have:=zag x;omega
 | N+1=>fun x hx h=>⟨fun v h1 h2=>zna (zcS N) x v (zy h1 h2) hx h,fun k hk h1=>zkc (zcS N) x k hk (by cases q:evalX args x with | none=>rfl | some _=>rw [q] at h1;cases h1) hx h⟩
theorem zrt {w0:World} {args:List Int} (x:Xp) (v:Int) (hv:evalX args x=some v) (hx:Vx args.length x):BFun false (KN w0) Tryz.prog 140 [.o (.g [.d (pI x.op),.d (pI x.n),.d (pLs cE x.l)]),.o (.c (.p 0 0)),.o (.c (.p 1 0)),.o (.c (.p 2 0))] [(24,[.d (pLs cI args)]),(193,[.q 140 [(0,0),(1,0),(2,0)]]),(192,[.d pM])] (.o (.c (.d (pI v)))) [(24,[.d (pLs cI args)]),(193,[.q 140 [(0,0),(1,0),(2,0)]]),(192,[.d pM])]:=(zcS (nodes x) x hx (Nat.le_refl _)).1 v (by rw [hv];rfl) (by rw [hv];rfl)
theorem zoP {w0:World} {args:List Int} (x:Xp) (hv:evalX args x=none) (hx:Vx args.length x):BFun true (KN w0) Tryz.prog 140 [.o (.g [.d (pI x.op),.d (pI x.n),.d (pLs cE x.l)]),.o (.c (.p 0 0)),.o (.c (.p 1 0)),.o (.c (.p 2 0))] [(24,[.d (pLs cI args)]),(193,[.q 140 [(0,0),(1,0),(2,0)]]),(192,[.d pM])] (.o (.c (.d (pV (.iface 37 (.int .i64 3)))))) [(24,[.d (pLs cI args)]),(193,[.q 140 [(0,0),(1,0),(2,0)]]),(192,[.d pM])]:=(zcS (nodes x) x hx (Nat.le_refl _)).2 3 rfl (by rw [hv];rfl)
theorem zoO {w0:World} (x:Xp) (args:List Int) (v:Int) (e:(evalX args x).getD 0=v) (h1:(evalX args x).isSome=true) (h2:Vx args.length x):BFun false (KN w0) Tryz.prog 140 [.o (.g [.d (pI x.op),.d (pI x.n),.d (pLs cE x.l)]),.o (.c (.p 0 0)),.o (.c (.p 1 0)),.o (.c (.p 2 0))] [(24,[.d (pLs cI args)]),(193,[.q 140 [(0,0),(1,0),(2,0)]]),(192,[.d pM])] (.o (.c (.d (pI v)))) [(24,[.d (pLs cI args)]),(193,[.q 140 [(0,0),(1,0),(2,0)]]),(192,[.d pM])]:=zrt x v (zy h1 e) h2
theorem znb {w0:World} (x:Xp) (args:List Int) (v:Int) (e:(3:Int)=v) (h1:evalX args x=none) (h2:Vx args.length x):BFun true (KN w0) Tryz.prog 140 [.o (.g [.d (pI x.op),.d (pI x.n),.d (pLs cE x.l)]),.o (.c (.p 0 0)),.o (.c (.p 1 0)),.o (.c (.p 2 0))] [(24,[.d (pLs cI args)]),(193,[.q 140 [(0,0),(1,0),(2,0)]]),(192,[.d pM])] (.o (.c (.d (pV (.iface 37 (.int .i64 v)))))) [(24,[.d (pLs cI args)]),(193,[.q 140 [(0,0),(1,0),(2,0)]]),(192,[.d pM])]:=e ▸ zoP x h1 h2
theorem zoQ {w0:World} (args:(List Int)) (e:Xp) (n:Int) (v1:Int) (e1:((evalX args e).getD 0)=v1) (s2:(evalX args e).isSome=true) (s3:Vx args.length e):BFun false (KN w0) Tryz.prog 144 [.o (.c (.p 1 0)),.o (.c (.p 3 0)),.o (.c (.p 4 0))] [(24,[.d (pLs cI args)]),(193,[.q 140 [(0,0),(1,0),(2,0)]]),(192,[.d (pM)]),(60,[.d (pI e.op),.d (pI e.n),.d (pLs cE e.l)]),(3,[.d (pI n)])] (.t []) [(24,[.d (pLs cI args)]),(193,[.q 140 [(0,0),(1,0),(2,0)]]),(192,[.d (pM)]),(60,[.d (pI e.op),.d (pI e.n),.d (pLs cE e.l)]),(3,[.d (pI v1)])] :=
 con_b (pan:=false) (zba (F:=FL [pLs cI args,pM,pI e.op,pI e.n,pLs cE e.l,pI n,pI v1] []) (C:=[(1000002,.call ⟨140,[.o (.g [.h 2,.h 3,.h 4]),.o (.c (.p 900 0)),.o (.c (.p 901 0)),.o (.c (.p 902 0))],[.bx 900 24 [.h 0],.bx 901 193 [.q 140 [(900,0),(901,0),(902,0)]],.bx 902 192 [.h 1]],yh 6,[.bx 900 24 [.h 0],.bx 901 193 [.q 140 [(900,0),(901,0),(902,0)]],.bx 902 192 [.h 1]]⟩)]) (k:=⟨144,[.o (.c (.p 901 0)),.o (.c (.p 903 0)),.o (.c (.p 904 0))],[.bx 900 24 [.h 0],.bx 901 193 [.q 140 [(900,0),(901,0),(902,0)]],.bx 902 192 [.h 1],.bx 903 60 [.h 2,.h 3,.h 4],.bx 904 3 [.h 5]],.t [],[.bx 900 24 [.h 0],.bx 901 193 [.q 140 [(900,0),(901,0),(902,0)]],.bx 902 192 [.h 1],.bx 903 60 [.h 2,.h 3,.h 4],.bx 904 3 [.h 6]]⟩) 0 (zw ⟨(zx zR),zan,zb,zb,(zx (zz rfl)),zb,zb,trivial⟩) ⟨b_con (pan:=false) (zoO e args v1 e1 s2 s3),
  trivial⟩ mixed (by kernel_rfl))
theorem znc {w0:World} (args:(List Int)) (e:Xp) (n:Int) (v1:Int) (e1:((3:Int))=v1) (s2:evalX args e=none) (s3:Vx args.length e):BFun true (KN w0) Tryz.prog 144 [.o (.c (.p 1 0)),.o (.c (.p 3 0)),.o (.c (.p 4 0))] [(24,[.d (pLs cI args)]),(193,[.q 140 [(0,0),(1,0),(2,0)]]),(192,[.d (pM)]),(60,[.d (pI e.op),.d (pI e.n),.d (pLs cE e.l)]),(3,[.d (pI n)])] (.o (.c (.d (pV (.iface 37 (.int .i64 v1)))))) [(24,[.d (pLs cI args)]),(193,[.q 140 [(0,0),(1,0),(2,0)]]),(192,[.d (pM)]),(60,[.d (pI e.op),.d (pI e.n),.d (pLs cE e.l)]),(3,[.d (pI n)])] :=
 con_b (pan:=true) (zp6 (F:=FL [pLs cI args,pM,pI e.op,pI e.n,pLs cE e.l,pI n,pV (.iface 37 (.int .i64 v1))] []) (C:=[(1000002,.pan ⟨140,[.o (.g [.h 2,.h 3,.h 4]),.o (.c (.p 900 0)),.o (.c (.p 901 0)),.o (.c (.p 902 0))],[.bx 900 24 [.h 0],.bx 901 193 [.q 140 [(900,0),(901,0),(902,0)]],.bx 902 192 [.h 1]],yh 6,[.bx 900 24 [.h 0],.bx 901 193 [.q 140 [(900,0),(901,0),(902,0)]],.bx 902 192 [.h 1]]⟩)]) (k:=⟨144,[.o (.c (.p 901 0)),.o (.c (.p 903 0)),.o (.c (.p 904 0))],[.bx 900 24 [.h 0],.bx 901 193 [.q 140 [(900,0),(901,0),(902,0)]],.bx 902 192 [.h 1],.bx 903 60 [.h 2,.h 3,.h 4],.bx 904 3 [.h 5]],yh 6,[.bx 900 24 [.h 0],.bx 901 193 [.q 140 [(900,0),(901,0),(902,0)]],.bx 902 192 [.h 1],.bx 903 60 [.h 2,.h 3,.h 4],.bx 904 3 [.h 5]]⟩) ⟨[],[],0⟩ [] 0 (zw ⟨(zx zR),zan,zb,zb,(zx (zz rfl)),zb,zb,trivial⟩) ⟨b_con (pan:=true) (znb e args v1 e1 s2 s3),
  trivial⟩ mixed trivial (fun _ _ _ _ _ hs=>by cases hs) (by kernel_rfl))
theorem zqh {K:Kit} {F:Fact} {R:Frm} {st:List Atom} {a a':Act} {W W':World} {b q r d:Nat} {T:TypeId} {ls:List Lf} {vs:Array Value} (hF:Fine K F) (hI:Inv K F R st a W) (hsz:a'.tmps.size=R.pm.nt) (hdf:a'.defers=R.dfs) (hsl:∀s x,Atom.sl s x∈st→a'.tmps.getD s undef=a.tmps.getD s undef) (hb:b ∉ R.pm.pn) (hnb:∀A∈st,A.has b=false) (hB:Below W.heap.size W W') (hr:W.heap.size≤r∧r<W'.heap.size) (hq:W.heap.size≤q∧q<W'.heap.size∧q≠r) (hc:W'.heap[q]?=some (.cells vs T (0,0))) (hl:∀β:Loc,β.D r→oks F β ls vs.toList W') (hck:vs.toList.all K.ck=true) (hbt:K.bt T=true) (hd:a'.tmps.getD d undef=.pointer (some ⟨q,0,none⟩)):Inv K F R (.sl d (.o (.c (.p b 0)))::.bx b T ls::st) a' W':=by
 obtain ⟨h1,h2,β,hE,hA⟩:=hI
 have hO:=zi8 hB
 have hs0:=hE.oth.size
 have hs1:=hE.geo.bel.size
 let β':Loc:=⟨(set β b q).bx,β.len,fun k=>β.D k∨k=r⟩
 have hne:∀c,c≠b→β.same β' c:=fun c hc=>⟨zb3 hc,rfl⟩
 have hse:∀c p,β' c=some p→c=b∧p=q∨c≠b∧β c=some p:=by
  intro c p hp
  by_cases h:c=b
  ·subst h
   have:(set β c q).bx c=some p:=hp
   rw [zQ] at this;injection this with this
   exact .inl ⟨rfl,this.symm⟩
  ·exact .inr ⟨h,(hne c h).1.symm.trans hp⟩
 refine ⟨hsz,hdf,β',⟨⟨fun c p hp=>?_,fun c d p hp hp2=>?_,hE.geo.bel.trans (hB.mono hs1),fun c p hp hD=>?_,fun p hp=>?_,fun p hp=>.inl (hE.geo.low p hp)⟩,hE.oth.trans hO (fun _ h=>h.elim),fun c hcn p hp=>?_,fun c hcn hcg=>?_,fun c hcn p hp=>?_,fun p hp=>.inl (hE.dm p hp),fun p hp=>?_⟩,fun A hAm=>?_⟩
 ·rcases hse c p hp with ⟨_,rfl⟩ | ⟨_,h⟩
  ·exact hq.2.1
  ·exact Nat.lt_of_lt_of_le (hE.geo.lt c p h) hB.size
 ·rcases hse c p hp with ⟨rfl,rfl⟩ | ⟨_,h⟩
  ·rcases hse d p hp2 with ⟨rfl,_⟩ | ⟨_,h⟩
   ·rfl
   ·have:=hE.geo.lt d p h;omega
  ·rcases hse d p hp2 with ⟨rfl,rfl⟩ | ⟨_,h'⟩
   ·have:=hE.geo.lt c p h;omega
   ·exact hE.geo.inj c d p h h'
 ·rcases hse c p hp with ⟨_,rfl⟩ | ⟨_,h⟩
  ·rcases hD with hD | hD
   ·have:=hE.geo.dlt p hD;omega
   ·exact hq.2.2 hD
  ·rcases hD with hD | hD
   ·exact hE.geo.dis c p h hD
   ·have:=hE.geo.lt c p h;omega
 ·rcases hp with hp | rfl
  ·exact Nat.lt_of_lt_of_le (hE.geo.dlt p hp) hB.size
  ·exact hr.2
 ·rcases hse c p hp with ⟨_,rfl⟩ | ⟨_,h⟩
  ·omega
  ·exact hE.own c hcn p h
 ·have h3:=hE.same c hcn hcg
  have h4:=hne c (fun e=>hb (e ▸ hcn))
  exact ⟨h4.1.trans h3.1,h4.2.trans h3.2⟩
 ·exact hE.mvd c hcn p ((hne c (fun e=>hb (e ▸ hcn))).1.symm.trans hp)
 ·rcases hp with hp | rfl
  ·exact hE.dn p hp
  ·exact .inr (.inl (by omega))
 ·rcases List.mem_cons.1 hAm with rfl | hAm
  ·exact ⟨q,zQ ..,hd⟩
  ·rcases List.mem_cons.1 hAm with rfl | hAn
   ·exact ⟨q,vs,zQ ..,hc,hl β' (.inr rfl),hck,hbt,by omega⟩
   ·exact Atom.mv (β:=β) (β':=β') hF (fun _ h=>h.elim) hO (fun p hp=>.inl hp) (fun s x e=>hsl s x (e ▸ hAn)) (fun c hc=>hne c fun e=>by rw [e,hnb A hAn] at hc;cases hc) (hA A hAn) (fun _ _ _ _ _ h=>h.elim)
theorem arr25 {t:Array Value} (h:t.size=25):∃x0 x1 x2 x3 x4 x5 x6 x7 x8 x9 x10 x11 x12 x13 x14 x15 x16 x17 x18 x19 x20 x21 x22 x23 x24,t=#[x0,x1,x2,x3,x4,x5,x6,x7,x8,x9,x10,x11,x12,x13,x14,x15,x16,x17,x18,x19,x20,x21,x22,x23,x24]:=by
 obtain ⟨l⟩:=t
 match l,h with
 | [x0,x1,x2,x3,x4,x5,x6,x7,x8,x9,x10,x11,x12,x13,x14,x15,x16,x17,x18,x19,x20,x21,x22,x23,x24],_=>exact ⟨x0,x1,x2,x3,x4,x5,x6,x7,x8,x9,x10,x11,x12,x13,x14,x15,x16,x17,x18,x19,x20,x21,x22,x23,x24,rfl⟩
theorem zqg {W:World} {r n:Nat} {es:Array MapEntry} {k:Int} {v:Value} (hh:W.heap[r]?=some (.map es n)) (h:Instr.findNow (.int .i64) (.int .i64 k) es.toList 0=some none):(Instr.mapUpdate 192 (.map (some r)) (.int .i64 k) v).run Tryz.prog W=.ok () { W with heap:=W.heap.setIfInBounds r (.map (es.push ⟨.int .i64 k,v,n⟩) (n+1)) }:=by
 have hm:Tryz.prog.underlying 192=some (.map 3 33):=by kernel_rfl
 have hd:Tryz.prog.underlying 3=some (.int .i64):=by kernel_rfl
 simp [Instr.mapUpdate,run_underlying hm,MapKept.run_getObj_map hh,MapKept.run_checkKey hd (k:=.int .i64 k) (by trivial),MapKept.run_findKey hd h,MapKept.run_setObj_map _ hh,Result.andThen]
theorem zbU {B:Nat} {W0 W:World} {r n:Nat} {es:Array MapEntry} (k:Int) (v:Value) (hb:Below B W0 W) (hr:B≤r) (hh:W.heap[r]?=some (.map es n)) (h:Instr.findNow (.int .i64) (.int .i64 k) es.toList 0=some none):∃W',(Instr.mapUpdate 192 (.map (some r)) (.int .i64 k) v).run Tryz.prog W=.ok () W'∧Below B W0 W'∧W'.heap[r]?=some (.map (es.push ⟨.int .i64 k,v,n⟩) (n+1))∧W'.heap.size=W.heap.size:=by
 refine ⟨_,zqg hh h,⟨hb.os,hb.tape,hb.output,by simpa using hb.size,fun j hj=>?_⟩,?_,by simp⟩
 ·rw [← hb.block j hj]
  show (W.heap.setIfInBounds r _)[j]?=_
  rw [Array.getElem?_setIfInBounds_ne (by omega)]
 ·have hlt:r<W.heap.size:=(Array.getElem?_eq_some_iff.1 hh).1
  show (W.heap.setIfInBounds r _)[r]?=_
  simp [hlt]
theorem zfF {w0:World} {F:Fact} {ca cb c cd:Code} (hc:Tryz.f113.body=some (.seq ca (.seq cb (.seq c cd)))) (hF:Fine (KN w0) F) (h7:F.c 7=pM) (R:Frm) (hR:R.pm=⟨ntOf Tryz.prog 113,[],[]⟩):Goes (KN w0) Tryz.prog R c F [.sl 2 (.o (.c (.p 0 0))),.sl 3 (.o (.c (.p 1 0))),.bx 0 60 [.h 0,.h 1,.h 2],.bx 1 24 [.h 3]] .n F (.sl 7 (.o (.c (.p 18 0)))::.bx 18 192 [.h 7]::[.sl 2 (.o (.c (.p 0 0))),.sl 3 (.o (.c (.p 1 0))),.bx 0 60 [.h 0,.h 1,.h 2],.bx 1 24 [.h 3]]):=by
 intro Q a W hI hQ
 have hI0:=hI
 obtain ⟨hsz,hdf,β,hE,hA⟩:=hI
 have hnt:R.pm.nt=25:=by rw [hR];kernel_rfl
 obtain ⟨t,ds⟩:=a
 dsimp only at hsz hdf
 subst hdf
 obtain ⟨x0,x1,x2,x3,x4,x5,x6,x7,x8,x9,x10,x11,x12,x13,x14,x15,x16,x17,x18,x19,x20,x21,x22,x23,x24,rfl⟩:=arr25 (hsz.trans hnt)
 have h0:Tryz.f113.body=some _:=rfl
 rw [h0] at hc
 injection hc with hc
 injection hc with _ hc
 injection hc with _ hc
 injection hc with hc _
 subst hc
 have hB0:Below W.heap.size W (W.alloc (.map #[] 0)):=(Below.refl _ W).alloc (Nat.le_refl _) _
 have hh0:(W.alloc (.map #[] 0)).heap[W.heap.size]?=some (.map #[] 0):=heap_alloc_new _ _
 have hs0:(W.alloc (.map #[] 0)).heap.size=W.heap.size+1:=by simp
 obtain ⟨W1,i1,hB1,hh1,hs1⟩:=zbU 3 (.func (.func 135) #[] #[]) hB0 (Nat.le_refl _) hh0 (by kernel_rfl)
 obtain ⟨W2,i2,hB2,hh2,hs2⟩:=zbU 4 (.func (.func 136) #[] #[]) hB1 (Nat.le_refl _) hh1 (by kernel_rfl)
 obtain ⟨W3,i3,hB3,hh3,hs3⟩:=zbU 5 (.func (.func 137) #[] #[]) hB2 (Nat.le_refl _) hh2 (by kernel_rfl)
 obtain ⟨W4,i4,hB4,hh4,hs4⟩:=zbU 6 (.func (.func 138) #[] #[]) hB3 (Nat.le_refl _) hh3 (by kernel_rfl)
 obtain ⟨W5,i5,hB5,hh5,hs5⟩:=zbU 7 (.func (.func 139) #[] #[]) hB4 (Nat.le_refl _) hh4 (by kernel_rfl)
 have hmk:=run_makeMap (P:=Tryz.prog) 192
 go_wp2
 refine hQ _ _ ?_
 have hsz5:W5.heap.size=W.heap.size+1:=by omega
 have hB5:=hB5.alloc (Nat.le_of_lt (by omega:W.heap.size<W5.heap.size)) (.cells #[.map (some W.heap.size)] 192)
 have hsz6:(W5.alloc (.cells #[.map (some W.heap.size)] 192)).heap.size=W.heap.size+2:=by simp;omega
 refine zqh (q:=W.heap.size+1) (r:=W.heap.size) (vs:=#[.map (some W.heap.size)]) hF hI0 ?_ rfl ?_ ?_ ?_ hB5 ?_ ?_ ?_ ?_ rfl rfl rfl
 ·rw [hnt];rfl
 ·intro s x hm
  simp only [List.mem_cons,List.not_mem_nil,or_false,Atom.sl.injEq,reduceCtorEq,false_or] at hm
  rcases hm with ⟨rfl,_⟩ | ⟨rfl,_⟩<;>rfl
 ·rw [hR];exact fun h=>by cases h
 ·intro A hm
  simp only [List.mem_cons,List.not_mem_nil,or_false] at hm
  rcases hm with rfl | rfl | rfl | rfl<;>rfl
 ·omega
 ·omega
 ·rw [show W.heap.size+1=W5.heap.size by omega];exact heap_alloc_new _ _
 ·intro β hD
  refine ⟨?_,trivial⟩
  show F.c 7 _ _ _
  rw [h7]
  exact ⟨_,rfl,hD,by rw [heap_alloc_old _ _ (by omega)];exact hh5⟩
theorem zmW {w0:World} (e:Xp) (args:(List Int)) (v1:Int) (v2:Int) (v4:Bool) (e1:((args.length:Int))=v1) (e2:(z6 e v1)=v2) (e4:((v2 != (0:Int)))=v4) (s3:nodes e≤1000000) (h5:v4=true):Fun (KN w0) Tryz.prog 113 [.o (.g [pI e.op,pI e.n,pLs cE e.l]),.o (.c (pLs cI args))] (.t [.c (pV (.int .i64 0)),.c (pI v2)]):=
 zc (zba (F:=FL [pI e.op,pI e.n,pLs cE e.l,pLs cI args,pI v1,pI v2,pB v4] []) (C:=[(1000006,.op (.len [24] 3) [yh 3] [] (yh 4)),
  (1000007,.call ⟨106,[.o (.g [.h 0,.h 1,.h 2]),yh 4],[],yh 5,[]⟩),
  (1000010,.bin .neq 37 (yh 5) (LF (.k (.int .i64 0))) (yh 6)),
  (10006,.fb 6 true)]) (k:=⟨113,[.o (.g [.h 0,.h 1,.h 2]),yh 3],[],.t [.c (.k (.int .i64 0)),.c (.h 5)],[]⟩) 0 (zw ⟨zb,zb,(zx (zz rfl)),(zx zR),zb,zb,zb,trivial⟩) ⟨zcA (E:=3) (by kernel_rfl) (zm rfl) (za (by rw [e1];rfl)),
  zE (zdD e v1 v2 e2 s3),
  e_bin (za rfl) zf (za rfl) (r_cmp (LO e4)),
  e_fbv h5,
  trivial⟩ mixed (by kernel_rfl))
theorem zmX {w0:World} (e:Xp) (args:(List Int)) (v1:Int) (v2:Int) (v4:Bool) (v9:Int) (e1:((args.length:Int))=v1) (e2:(z6 e v1)=v2) (e4:((v2 != (0:Int)))=v4) (e9:((evalX args e).getD 0)=v9) (s3:nodes e≤1000000) (h5:v4=false) (h6:(evalX args e).isSome=true) (s7:(evalX args e).isSome=true) (s8:Vx args.length e):Fun (KN w0) Tryz.prog 113 [.o (.g [pI e.op,pI e.n,pLs cE e.l]),.o (.c (pLs cI args))] (.t [.c (pI v9),.c (pV (.int .i64 0))]):=by
 have hF:Fine (KN w0) (FL [pI e.op,pI e.n,pLs cE e.l,pLs cI args,pI v1,pI v2,pB v4,pM,pI v9] []):=zw ⟨zb,zb,(zx (zz rfl)),(zx zR),zb,zb,zb,zan,zb,trivial⟩
 have hC:Sound (KN w0) Tryz.prog (FL [pI e.op,pI e.n,pLs cE e.l,pLs cI args,pI v1,pI v2,pB v4,pM,pI v9] []) [(1000006,.op (.len [24] 3) [yh 3] [] (yh 4)),
  (1000007,.call ⟨106,[.o (.g [.h 0,.h 1,.h 2]),yh 4],[],yh 5,[]⟩),
  (1000010,.bin .neq 37 (yh 5) (LF (.k (.int .i64 0))) (yh 6)),
  (10006,.fb 6 false),
  (1000026,.call ⟨143,[.o (.c (.q 144 [(20,0),(0,0),(23,0)]))],[.bx 1 24 [.h 3],.bx 20 193 [.q 140 [(1,0),(20,0),(18,0)]],.bx 18 192 [.h 7],.bx 0 60 [.h 0,.h 1,.h 2],.bx 23 3 [.k (.int .i64 0)]],.o (.c (.k (.int .i64 0))),[.bx 1 24 [.h 3],.bx 20 193 [.q 140 [(1,0),(20,0),(18,0)]],.bx 18 192 [.h 7],.bx 0 60 [.h 0,.h 1,.h 2],.bx 23 3 [.h 8]]⟩)]:=⟨zcA (E:=3) (by kernel_rfl) (zm rfl) (za (by rw [e1];rfl)),
  zE (zdD e v1 v2 e2 s3),
  e_bin (za rfl) zf (za rfl) (r_cmp (LO e4)),
  e_fbv h5,
  b_con (pan:=false) (zp7 (caps:=[(1,0),(3,0),(4,0)]) (fun _ _=>qO (by kernel_rfl)) (zoQ args e (0:Int) v9 e9 s7 s8) ⟨⟨zx zR,trivial⟩,⟨trivial,trivial⟩,⟨zan,trivial⟩,⟨zb,zb,zx (zz rfl),trivial⟩,⟨zb,trivial⟩,trivial⟩ ⟨⟨zx zR,trivial⟩,⟨trivial,trivial⟩,⟨zan,trivial⟩,⟨zb,zb,zx (zz rfl),trivial⟩,⟨zb,trivial⟩,trivial⟩),
  trivial⟩
 refine zc (F:=FL [pI e.op,pI e.n,pLs cE e.l,pLs cI args,pI v1,pI v2,pB v4,pM,pI v9] []) (as':=[.o (.g [.h 0,.h 1,.h 2]),yh 3]) (res':=.t [.c (.h 8),.c (.k (.int .i64 0))]) (zgP (k:=⟨113,[.o (.g [.h 0,.h 1,.h 2]),yh 3],[],.t [.c (.h 8),.c (.k (.int .i64 0))],[]⟩) [] false hF Tryz.func113 rfl (by kernel_rfl) fun R hR=>⟨.r,[.sl 4 (yh 8),.sl 5 (.o (.c (.k (.int .i64 0))))],by kernel_rfl,?_⟩) rfl rfl rfl rfl
 have hR:R.pm=⟨ntOf Tryz.prog 113,[],[]⟩:=hR
 refine za3 (goes (x:=.n) (y:=.n) (Fb:=FL [pI e.op,pI e.n,pLs cE e.l,pLs cI args,pI v1,pI v2,pB v4,pM,pI v9] []) (stb:=[.sl 0 (.o (.g [.h 0,.h 1,.h 2])),.sl 1 (yh 3)]) (tl:=[.sl 2 (.o (.c (.p 0 0))),.sl 3 (.o (.c (.p 1 0))),.sl 4 (.o (.c (.k (.int .i64 0)))),.sl 5 (.o (.c (.k (.int .i64 0)))),.sl 0 (.o (.g [.h 0,.h 1,.h 2])),.sl 1 (yh 3),.bx 0 60 [.h 0,.h 1,.h 2],.bx 1 24 [.h 3]]) (H:=.no) (C:=([(1000006,.op (.len [24] 3) [yh 3] [] (yh 4)),
  (1000007,.call ⟨106,[.o (.g [.h 0,.h 1,.h 2]),yh 4],[],yh 5,[]⟩),
  (1000010,.bin .neq 37 (yh 5) (LF (.k (.int .i64 0))) (yh 6)),
  (10006,.fb 6 false),
  (1000026,.call ⟨143,[.o (.c (.q 144 [(20,0),(0,0),(23,0)]))],[.bx 1 24 [.h 3],.bx 20 193 [.q 140 [(1,0),(20,0),(18,0)]],.bx 18 192 [.h 7],.bx 0 60 [.h 0,.h 1,.h 2],.bx 23 3 [.k (.int .i64 0)]],.o (.c (.k (.int .i64 0))),[.bx 1 24 [.h 3],.bx 20 193 [.q 140 [(1,0),(20,0),(18,0)]],.bx 18 192 [.h 7],.bx 0 60 [.h 0,.h 1,.h 2],.bx 23 3 [.h 8]]⟩)]:List (Nat×Ent))) 0 (fun _ _ _ _ h=>h) hF hC mixed hR trivial (fun _ _ _ hs=>by cases hs) (by kernel_rfl) rfl (fun _ _ _ _ h=>h)) (za3 (goes (x:=.n) (y:=.n) (Fb:=FL [pI e.op,pI e.n,pLs cE e.l,pLs cI args,pI v1,pI v2,pB v4,pM,pI v9] []) (stb:=[.sl 2 (.o (.c (.p 0 0))),.sl 3 (.o (.c (.p 1 0))),.sl 4 (.o (.c (.k (.int .i64 0)))),.sl 5 (.o (.c (.k (.int .i64 0)))),.sl 0 (.o (.g [.h 0,.h 1,.h 2])),.sl 1 (yh 3),.bx 0 60 [.h 0,.h 1,.h 2],.bx 1 24 [.h 3]]) (tl:=[.sl 2 (.o (.c (.p 0 0))),.sl 3 (.o (.c (.p 1 0))),.bx 0 60 [.h 0,.h 1,.h 2],.bx 1 24 [.h 3]]) (H:=.no) (C:=([(1000006,.op (.len [24] 3) [yh 3] [] (yh 4)),
  (1000007,.call ⟨106,[.o (.g [.h 0,.h 1,.h 2]),yh 4],[],yh 5,[]⟩),
  (1000010,.bin .neq 37 (yh 5) (LF (.k (.int .i64 0))) (yh 6)),
  (10006,.fb 6 false),
  (1000026,.call ⟨143,[.o (.c (.q 144 [(20,0),(0,0),(23,0)]))],[.bx 1 24 [.h 3],.bx 20 193 [.q 140 [(1,0),(20,0),(18,0)]],.bx 18 192 [.h 7],.bx 0 60 [.h 0,.h 1,.h 2],.bx 23 3 [.k (.int .i64 0)]],.o (.c (.k (.int .i64 0))),[.bx 1 24 [.h 3],.bx 20 193 [.q 140 [(1,0),(20,0),(18,0)]],.bx 18 192 [.h 7],.bx 0 60 [.h 0,.h 1,.h 2],.bx 23 3 [.h 8]]⟩)]:List (Nat×Ent))) 4 (fun _ _ _ _ h=>h) hF hC mixed hR trivial (fun _ _ _ hs=>by cases hs) (by kernel_rfl) rfl (fun _ _ _ _ h=>h)) (za3 (zfF hF rfl R hR (hc:=rfl)) (goes (x:=.r) (y:=.r) (Fb:=FL [pI e.op,pI e.n,pLs cE e.l,pLs cI args,pI v1,pI v2,pB v4,pM,pI v9] []) (stb:=(.sl 7 (.o (.c (.p 18 0)))::.bx 18 192 [.h 7]::[.sl 2 (.o (.c (.p 0 0))),.sl 3 (.o (.c (.p 1 0))),.bx 0 60 [.h 0,.h 1,.h 2],.bx 1 24 [.h 3]])) (tl:=[.sl 4 (yh 8),.sl 5 (.o (.c (.k (.int .i64 0))))]) (H:=.no) (C:=([(1000006,.op (.len [24] 3) [yh 3] [] (yh 4)),
  (1000007,.call ⟨106,[.o (.g [.h 0,.h 1,.h 2]),yh 4],[],yh 5,[]⟩),
  (1000010,.bin .neq 37 (yh 5) (LF (.k (.int .i64 0))) (yh 6)),
  (10006,.fb 6 false),
  (1000026,.call ⟨143,[.o (.c (.q 144 [(20,0),(0,0),(23,0)]))],[.bx 1 24 [.h 3],.bx 20 193 [.q 140 [(1,0),(20,0),(18,0)]],.bx 18 192 [.h 7],.bx 0 60 [.h 0,.h 1,.h 2],.bx 23 3 [.k (.int .i64 0)]],.o (.c (.k (.int .i64 0))),[.bx 1 24 [.h 3],.bx 20 193 [.q 140 [(1,0),(20,0),(18,0)]],.bx 18 192 [.h 7],.bx 0 60 [.h 0,.h 1,.h 2],.bx 23 3 [.h 8]]⟩)]:List (Nat×Ent))) 20 (fun _ _ _ _ h=>h) hF hC mixed hR trivial (fun _ _ _ hs=>by cases hs) (by kernel_rfl) rfl (fun _ _ _ _ h=>h))))
theorem zmY {w0:World} (e:Xp) (args:(List Int)) (v1:Int) (v2:Int) (v4:Bool) (v9:Int) (e1:((args.length:Int))=v1) (e2:(z6 e v1)=v2) (e4:((v2 != (0:Int)))=v4) (e9:((3:Int))=v9) (s3:nodes e≤1000000) (h5:v4=false) (h6:(evalX args e).isSome=false) (s7:(evalX args e).isSome=false) (s8:Vx args.length e):Fun (KN w0) Tryz.prog 113 [.o (.g [pI e.op,pI e.n,pLs cE e.l]),.o (.c (pLs cI args))] (.t [.c (pV (.int .i64 0)),.c (pI v9)]):=by
 have hF:Fine (KN w0) (FL [pI e.op,pI e.n,pLs cE e.l,pLs cI args,pI v1,pI v2,pB v4,pM,pI v9] []):=zw ⟨zb,zb,(zx (zz rfl)),(zx zR),zb,zb,zb,zan,zb,trivial⟩
 have hC:Sound (KN w0) Tryz.prog (FL [pI e.op,pI e.n,pLs cE e.l,pLs cI args,pI v1,pI v2,pB v4,pM,pI v9] []) [(1000006,.op (.len [24] 3) [yh 3] [] (yh 4)),
  (1000007,.call ⟨106,[.o (.g [.h 0,.h 1,.h 2]),yh 4],[],yh 5,[]⟩),
  (1000010,.bin .neq 37 (yh 5) (LF (.k (.int .i64 0))) (yh 6)),
  (10006,.fb 6 false),
  (1000026,.call ⟨143,[.o (.c (.q 144 [(20,0),(0,0),(23,0)]))],[.bx 1 24 [.h 3],.bx 20 193 [.q 140 [(1,0),(20,0),(18,0)]],.bx 18 192 [.h 7],.bx 0 60 [.h 0,.h 1,.h 2],.bx 23 3 [.k (.int .i64 0)]],yh 8,[.bx 1 24 [.h 3],.bx 20 193 [.q 140 [(1,0),(20,0),(18,0)]],.bx 18 192 [.h 7],.bx 0 60 [.h 0,.h 1,.h 2],.bx 23 3 [.k (.int .i64 0)]]⟩)]:=⟨zcA (E:=3) (by kernel_rfl) (zm rfl) (za (by rw [e1];rfl)),
  zE (zdD e v1 v2 e2 s3),
  e_bin (za rfl) zf (za rfl) (r_cmp (LO e4)),
  e_fbv h5,
  b_con (pan:=false) (znq (caps:=[(1,0),(3,0),(4,0)]) (fun _ _=>qO (by kernel_rfl)) v9 (znc args e (0:Int) v9 e9 (by revert s7;cases evalX args e with | none=>exact fun _=>rfl | some _=>exact fun h=>by cases h) s8) ⟨⟨zx zR,trivial⟩,⟨trivial,trivial⟩,⟨zan,trivial⟩,⟨zb,zb,zx (zz rfl),trivial⟩,⟨zb,trivial⟩,trivial⟩ ⟨⟨zx zR,trivial⟩,⟨trivial,trivial⟩,⟨zan,trivial⟩,⟨zb,zb,zx (zz rfl),trivial⟩,⟨zb,trivial⟩,trivial⟩),
  trivial⟩
 refine zc (F:=FL [pI e.op,pI e.n,pLs cE e.l,pLs cI args,pI v1,pI v2,pB v4,pM,pI v9] []) (as':=[.o (.g [.h 0,.h 1,.h 2]),yh 3]) (res':=.t [.c (.k (.int .i64 0)),.c (.h 8)]) (zgP (k:=⟨113,[.o (.g [.h 0,.h 1,.h 2]),yh 3],[],.t [.c (.k (.int .i64 0)),.c (.h 8)],[]⟩) [] false hF Tryz.func113 rfl (by kernel_rfl) fun R hR=>⟨.r,[.sl 4 (.o (.c (.k (.int .i64 0)))),.sl 5 (yh 8)],by kernel_rfl,?_⟩) rfl rfl rfl rfl
 have hR:R.pm=⟨ntOf Tryz.prog 113,[],[]⟩:=hR
 refine za3 (goes (x:=.n) (y:=.n) (Fb:=FL [pI e.op,pI e.n,pLs cE e.l,pLs cI args,pI v1,pI v2,pB v4,pM,pI v9] []) (stb:=[.sl 0 (.o (.g [.h 0,.h 1,.h 2])),.sl 1 (yh 3)]) (tl:=[.sl 2 (.o (.c (.p 0 0))),.sl 3 (.o (.c (.p 1 0))),.sl 4 (.o (.c (.k (.int .i64 0)))),.sl 5 (.o (.c (.k (.int .i64 0)))),.sl 0 (.o (.g [.h 0,.h 1,.h 2])),.sl 1 (yh 3),.bx 0 60 [.h 0,.h 1,.h 2],.bx 1 24 [.h 3]]) (H:=.no) (C:=([(1000006,.op (.len [24] 3) [yh 3] [] (yh 4)),
  (1000007,.call ⟨106,[.o (.g [.h 0,.h 1,.h 2]),yh 4],[],yh 5,[]⟩),
  (1000010,.bin .neq 37 (yh 5) (LF (.k (.int .i64 0))) (yh 6)),
  (10006,.fb 6 false),
  (1000026,.call ⟨143,[.o (.c (.q 144 [(20,0),(0,0),(23,0)]))],[.bx 1 24 [.h 3],.bx 20 193 [.q 140 [(1,0),(20,0),(18,0)]],.bx 18 192 [.h 7],.bx 0 60 [.h 0,.h 1,.h 2],.bx 23 3 [.k (.int .i64 0)]],yh 8,[.bx 1 24 [.h 3],.bx 20 193 [.q 140 [(1,0),(20,0),(18,0)]],.bx 18 192 [.h 7],.bx 0 60 [.h 0,.h 1,.h 2],.bx 23 3 [.k (.int .i64 0)]]⟩)]:List (Nat×Ent))) 0 (fun _ _ _ _ h=>h) hF hC mixed hR trivial (fun _ _ _ hs=>by cases hs) (by kernel_rfl) rfl (fun _ _ _ _ h=>h)) (za3 (goes (x:=.n) (y:=.n) (Fb:=FL [pI e.op,pI e.n,pLs cE e.l,pLs cI args,pI v1,pI v2,pB v4,pM,pI v9] []) (stb:=[.sl 2 (.o (.c (.p 0 0))),.sl 3 (.o (.c (.p 1 0))),.sl 4 (.o (.c (.k (.int .i64 0)))),.sl 5 (.o (.c (.k (.int .i64 0)))),.sl 0 (.o (.g [.h 0,.h 1,.h 2])),.sl 1 (yh 3),.bx 0 60 [.h 0,.h 1,.h 2],.bx 1 24 [.h 3]]) (tl:=[.sl 2 (.o (.c (.p 0 0))),.sl 3 (.o (.c (.p 1 0))),.bx 0 60 [.h 0,.h 1,.h 2],.bx 1 24 [.h 3]]) (H:=.no) (C:=([(1000006,.op (.len [24] 3) [yh 3] [] (yh 4)),
  (1000007,.call ⟨106,[.o (.g [.h 0,.h 1,.h 2]),yh 4],[],yh 5,[]⟩),
  (1000010,.bin .neq 37 (yh 5) (LF (.k (.int .i64 0))) (yh 6)),
  (10006,.fb 6 false),
  (1000026,.call ⟨143,[.o (.c (.q 144 [(20,0),(0,0),(23,0)]))],[.bx 1 24 [.h 3],.bx 20 193 [.q 140 [(1,0),(20,0),(18,0)]],.bx 18 192 [.h 7],.bx 0 60 [.h 0,.h 1,.h 2],.bx 23 3 [.k (.int .i64 0)]],yh 8,[.bx 1 24 [.h 3],.bx 20 193 [.q 140 [(1,0),(20,0),(18,0)]],.bx 18 192 [.h 7],.bx 0 60 [.h 0,.h 1,.h 2],.bx 23 3 [.k (.int .i64 0)]]⟩)]:List (Nat×Ent))) 4 (fun _ _ _ _ h=>h) hF hC mixed hR trivial (fun _ _ _ hs=>by cases hs) (by kernel_rfl) rfl (fun _ _ _ _ h=>h)) (za3 (zfF hF rfl R hR (hc:=rfl)) (goes (x:=.r) (y:=.r) (Fb:=FL [pI e.op,pI e.n,pLs cE e.l,pLs cI args,pI v1,pI v2,pB v4,pM,pI v9] []) (stb:=(.sl 7 (.o (.c (.p 18 0)))::.bx 18 192 [.h 7]::[.sl 2 (.o (.c (.p 0 0))),.sl 3 (.o (.c (.p 1 0))),.bx 0 60 [.h 0,.h 1,.h 2],.bx 1 24 [.h 3]])) (tl:=[.sl 4 (.o (.c (.k (.int .i64 0)))),.sl 5 (yh 8)]) (H:=.no) (C:=([(1000006,.op (.len [24] 3) [yh 3] [] (yh 4)),
  (1000007,.call ⟨106,[.o (.g [.h 0,.h 1,.h 2]),yh 4],[],yh 5,[]⟩),
  (1000010,.bin .neq 37 (yh 5) (LF (.k (.int .i64 0))) (yh 6)),
  (10006,.fb 6 false),
  (1000026,.call ⟨143,[.o (.c (.q 144 [(20,0),(0,0),(23,0)]))],[.bx 1 24 [.h 3],.bx 20 193 [.q 140 [(1,0),(20,0),(18,0)]],.bx 18 192 [.h 7],.bx 0 60 [.h 0,.h 1,.h 2],.bx 23 3 [.k (.int .i64 0)]],yh 8,[.bx 1 24 [.h 3],.bx 20 193 [.q 140 [(1,0),(20,0),(18,0)]],.bx 18 192 [.h 7],.bx 0 60 [.h 0,.h 1,.h 2],.bx 23 3 [.k (.int .i64 0)]]⟩)]:List (Nat×Ent))) 20 (fun _ _ _ _ h=>h) hF hC mixed hR trivial (fun _ _ _ hs=>by cases hs) (by kernel_rfl) rfl (fun _ _ _ _ h=>h))))
theorem zpX {w0:World} (e:Xp) (args:List Int) (r k:Int) (hr:(evalE e args).1=r) (hk:(evalE e args).2=k) (hn:nodes e≤1000000):Fun (KN w0) Tryz.prog 113 [.o (.g [pI e.op,pI e.n,pLs cE e.l]),.o (.c (pLs cI args))] (.t [.c (pI r),.c (pI k)]):=by
 obtain ⟨v1,e1⟩:=LX ((args.length:Int))
 obtain ⟨v2,e2⟩:=LX (z6 e v1)
 have s3:nodes e≤1000000:=by exact hn
 obtain ⟨v4,e4⟩:=LX ((v2 != (0:Int)))
 cases h5:v4 with
 | true =>
  refine Fun.imp (zmW e args v1 v2 v4 e1 e2 e4 s3 h5) (fun _ _ _ h=>h) (fun v W D h=>?_)
  have r0:r=(0:Int):=by
   (have dh5:=bne_iff_ne.1 (e4.trans h5);unfold evalE at hr hk;simp_all)
  have r1:k=v2:=by
   (have dh5:=bne_iff_ne.1 (e4.trans h5);unfold evalE at hr hk;simp_all)
  rw [r0,r1];exact h
 | false =>
  cases h6:(evalX args e).isSome with
  | true =>
   have s7:(evalX args e).isSome=true:=by assumption
   have s8:Vx args.length e:=by (rw [← e1] at e2;exact (zdT.1 (e2.trans (by simp_all))).2)
   obtain ⟨v9,e9⟩:=LX ((evalX args e).getD 0)
   refine Fun.imp (zmX e args v1 v2 v4 v9 e1 e2 e4 e9 s3 h5 h6 s7 s8) (fun _ _ _ h=>h) (fun v W D h=>?_)
   have r0:r=v9:=by
    (have dh5:=bne_eq_false_iff_eq.1 (e4.trans h5);unfold evalE at hr hk;rw [if_neg (by rw [e1,e2];simp_all)] at hr hk;rw [zy h6 e9] at hr hk;simp_all)
   have r1:k=(0:Int):=by
    (have dh5:=bne_eq_false_iff_eq.1 (e4.trans h5);unfold evalE at hr hk;rw [if_neg (by rw [e1,e2];simp_all)] at hr hk;rw [zy h6 e9] at hr hk;simp_all)
   rw [r0,r1];exact h
  | false =>
   have s7:(evalX args e).isSome=false:=by assumption
   have s8:Vx args.length e:=by (rw [← e1] at e2;exact (zdT.1 (e2.trans (by simp_all))).2)
   obtain ⟨v9,e9⟩:=LX ((3:Int))
   refine Fun.imp (zmY e args v1 v2 v4 v9 e1 e2 e4 e9 s3 h5 h6 s7 s8) (fun _ _ _ h=>h) (fun v W D h=>?_)
   have r0:r=(0:Int):=by
    (have dh5:=bne_eq_false_iff_eq.1 (e4.trans h5);unfold evalE at hr hk;rw [if_neg (by rw [e1,e2];simp_all)] at hr hk;rw [show evalX args e=none from (by revert h6;cases evalX args e with | none=>exact fun _=>rfl | some _=>exact fun h=>by cases h)] at hr hk;simp_all)
   have r1:k=v9:=by
    (have dh5:=bne_eq_false_iff_eq.1 (e4.trans h5);unfold evalE at hr hk;rw [if_neg (by rw [e1,e2];simp_all)] at hr hk;rw [show evalX args e=none from (by revert h6;cases evalX args e with | none=>exact fun _=>rfl | some _=>exact fun h=>by cases h)] at hr hk;simp_all)
   rw [r0,r1];exact h
abbrev Str:=Vec×Int×List Vec×List Int
abbrev Rn:=Vec×List Mov×Int×Option Str
abbrev RE:=Except Int Rn
def isOk {α:Type}:Except Int α→Bool
 | .ok _=>true
 | .error _=>false
def errOf {α:Type}:Except Int α→Int
 | .ok _=>0
 | .error e=>e
def okOf {α:Type} [Inhabited α]:Except Int α→α
 | .ok x=>x
 | .error _=>default
theorem ok_of {α:Type} [Inhabited α] {x:Except Int α} {y:α} (h:isOk x=true) (e:okOf x=y):x=.ok y:=by
 cases x with
 | ok z=>exact congrArg _ e
 | error k=>cases h
theorem zn {α:Type} {x:Except Int α} {k:Int} (h:isOk x=false) (e:errOf x=k):x=.error k:=by
 cases x with
 | ok z=>cases h
 | error z=>exact congrArg _ e
def addS (m:Mov) (s:Rn):RE:=if m.1≠3∧s.1=m.2.2.1 then .ok s else if 40<(s.2.1.length:Int)+1 then .error 2 else .ok (m.2.2.1,s.2.1++[(m.1,s.1,m.2.2)],s.2.2)
def vecOf (v:List Int) (k:Nat):Vec:=(v.getD k 0,v.getD (k+1) 0,v.getD (k+2) 0)
def zJ (v:List Int) (s:Rn):RE:=if s.2.2.2.isSome then .error 17 else if inV (vecOf v 0) then addS (1,(0,0,0),vecOf v 0,(0,0,0),0) s else .error 3
def lineS (v:List Int) (s:Rn):RE:=if inV (vecOf v 0) && (decide (1≤v.getD 3 0) && decide (v.getD 3 0≤100)) then
  match s.2.2.2 with
  | none=>addS (2,(0,0,0),vecOf v 0,(0,0,0),v.getD 3 0) s
  | some c=>if vecOf v 0=s.1 then .ok s else if headV s.1 (vecOf v 0)=(0,0,0) then .error 17 else .ok (vecOf v 0,s.2.1,s.2.2.1,some (c.1,c.2.1,c.2.2.1++[vecOf v 0],c.2.2.2++[v.getD 3 0]))
 else .error 3
def arcM (v:List Int) (s:Rn):Mov:=(3,s.1,vecOf v 3,vecOf v 0,v.getD 6 0)
def arcS (v:List Int) (s:Rn):RE:=if s.2.2.2.isSome then .error 17 else if chkM (arcM v s)≠0 then .error (chkM (arcM v s)) else addS (arcM v s) s
def waysL (at_:Vec):List Vec→List Vec
 | []=>[]
 | p::r=>headV at_ p::waysL p r
def zuf (left:Int) (w:Vec):Vec:=(wI (wI (0 - left)*w.2.1),wI (left*w.1),0)
def qF (left:Int):List Vec→List Vec→List Vec
 | p::r,w::ws=>(match ws with
   | u::_=>if u≠w then addV (addV p (zuf left w)) (zuf left u) else addV p (zuf left w)
   | []=>addV p (zuf left w))::qF left r ws
 | _,_=>[]
def zL (c:Str):List Vec:=addV c.1 (zuf c.2.1 ((waysL c.1 c.2.2.1).headD (0,0,0)))::qF c.2.1 c.2.2.1 (waysL c.1 c.2.2.1)
def backL:List Vec→Bool
 | a::b::r=>decide (addV a b=(0,0,0)) || backL (b::r)
 | _=>false
def turnL:List Vec→List Vec→Bool
 | p::q::r,w::ws=>!decide (headV p q=w) || turnL (q::r) ws
 | _,_=>false
def addsL (feeds:List Int):Nat→List Vec→Rn→RE
 | _,[],s=>.ok s
 | k,p::r,s=>match addS (2,(0,0,0),p,(0,0,0),feeds.getD (k - 1) 0) s with
  | .ok t=>addsL feeds (k+1) r t
  | .error e=>.error e
def offS (s:Rn):RE:=match s.2.2.2 with
 | none=>.ok s
 | some c=>if c.2.2.1=[] then .ok (s.1,s.2.1,s.2.2.1,none) else if backL (waysL c.1 c.2.2.1) then .error 17 else if turnL (zL c) (waysL c.1 c.2.2.1) then .error 17 else if (zL c).all inV then addsL c.2.2.2 0 (zL c) (c.1,s.2.1,s.2.2.1,none) else .error 3
def turnS (n:Int) (v:List Int) (s:Rn):RE:=if n=0 then offS s else if s.2.2.2.isSome then .error 17 else if v.getD 0 0<1∨v.getD 0 0 > 24 then .error 3 else .ok (s.1,s.2.1,s.2.2.1,some (s.1,wI (v.getD 0 0*wI (3 - wI (2*n))),[],[]))
def valsE (args:List Int):List Xp→Except Int (List Int)
 | []=>.ok []
 | x::r=>if (evalE x args).2≠0 then .error (evalE x args).2 else match valsE args r with
  | .ok l=>.ok ((evalE x args).1::l)
  | .error e=>.error e
def handS (x:Stm) (v:List Int) (s:Rn):RE:=if x.1=1 then zJ v s else if x.1=2 then lineS v s else if x.1=3 then arcS v s else turnS x.2.1 v s
def zB (subs:List (List UInt8×Sb)):Nat→List Stm→List Int→Rn→RE
 | 0,_,_,s=>.ok s
 | n+1,l,args,s=>l.foldlM (m:=Except Int) (fun s x =>
   if s.2.2.1 ≥ 1000 then .error 9
   else if x.1≠5 then
    match valsE args x.2.2.2 with
    | .ok v=>handS x v (s.1,s.2.1,s.2.2.1+1,s.2.2.2)
    | .error e=>.error e
   else match subs.find? (fun y=>y.1 == x.2.2.1) with
    | none=>.error 18
    | some y=>if y.2.2.1≠x.2.2.2.length∨n=0 then .error 18 else match valsE args x.2.2.2 with
     | .ok v=>zB subs n y.2.2.2 v (s.1,s.2.1,s.2.2.1+1,s.2.2.2)
     | .error e=>.error e) s
def runS (l:List Sb) (args:List Int) (start:Vec):Except Int (List Mov):=
 if zD l≠0 then .error (zD l) else if !inV start then .error 3 else match l with
 | []=>.error 2
 | m::_=>if m.2.1≠args.length then .error 18 else match zB (l.map fun s=>(s.1,s)) 7 m.2.2 args (start,[],0,none) with
  | .error e=>.error e
  | .ok s=>match offS s with
   | .error e=>.error e
   | .ok t=>.ok t.2.1
def zqT:Tr:=.s [(7,.bin .add 3 0 3),(12,.bin .add 3 1 4),(17,.bin .add 3 2 5)] (.z (.ret false (.o (.g [6,7,8])) []))
theorem t_add {w0:World} (a b r:Vec) (hr:addV a b=r):Fun (KN w0) Tryz.prog 20 [.o (.g [pI a.1,pI a.2.1,pI a.2.2]),.o (.g [pI b.1,pI b.2.1,pI b.2.2])] (.o (.g [pI r.1,pI r.2.1,pI r.2.2])):=by
 refine tfn w0 20 ⟨[.o (.g [0,1,2]),.o (.g [3,4,5])],[],[],0,0⟩ ⟨6,[sI b.2.2,sI b.2.1,sI b.1,sI a.2.2,sI a.2.1,sI a.1],[],[]⟩ zqT (by kernel_rfl) ?_
 intro v1 e1 v2 e2 v3 e3
 intro hc
 refine Fun.fin (r:=.o (.g [pI v1,pI v2,pI v3])) (zc (hc)) (fun v W D h=>?_)
 have r0:r=(v1,v2,v3):=by
  (rw [← hr];unfold addV;simp_all)
 rw [r0];exact h
def zov:Tr:=.s [(7,.bin .add 3 0 3),(12,.bin .add 3 1 4),(17,.bin .add 3 2 5)] (.z (.ret false (.o (.g [6,7,8])) []))
theorem zpM {w0:World} (a b r:Vec) (hr:addV a b=r):Fun (KN w0) Tryz.prog 64 [.o (.g [pI a.1,pI a.2.1,pI a.2.2]),.o (.g [pI b.1,pI b.2.1,pI b.2.2])] (.o (.g [pI r.1,pI r.2.1,pI r.2.2])):=by
 refine tfn w0 64 ⟨[.o (.g [0,1,2]),.o (.g [3,4,5])],[],[],0,0⟩ ⟨6,[sI b.2.2,sI b.2.1,sI b.1,sI a.2.2,sI a.2.1,sI a.1],[],[]⟩ zov (by kernel_rfl) ?_
 intro v1 e1 v2 e2 v3 e3
 intro hc
 refine Fun.fin (r:=.o (.g [pI v1,pI v2,pI v3])) (zc (hc)) (fun v W D h=>?_)
 have r0:r=(v1,v2,v3):=by
  (rw [← hr];unfold addV;simp_all)
 rw [r0];exact h
def zrg:Tr:=.s [(7,.bin .sub 3 0 3),(12,.bin .sub 3 1 4),(17,.bin .sub 3 2 5)] (.z (.ret false (.o (.g [6,7,8])) []))
theorem t_sub {w0:World} (a b r:Vec) (hr:subV a b=r):Fun (KN w0) Tryz.prog 39 [.o (.g [pI a.1,pI a.2.1,pI a.2.2]),.o (.g [pI b.1,pI b.2.1,pI b.2.2])] (.o (.g [pI r.1,pI r.2.1,pI r.2.2])):=by
 refine tfn w0 39 ⟨[.o (.g [0,1,2]),.o (.g [3,4,5])],[],[],0,0⟩ ⟨6,[sI b.2.2,sI b.2.1,sI b.1,sI a.2.2,sI a.2.1,sI a.1],[],[]⟩ zrg (by kernel_rfl) ?_
 intro v1 e1 v2 e2 v3 e3
 intro hc
 refine Fun.fin (r:=.o (.g [pI v1,pI v2,pI v3])) (zc (hc)) (fun v W D h=>?_)
 have r0:r=(v1,v2,v3):=by
  (rw [← hr];unfold subV;simp_all)
 rw [r0];exact h
def zv5:Tr:=.s [(7,.bin .sub 3 0 3),(12,.bin .sub 3 1 4),(17,.bin .sub 3 2 5)] (.z (.ret false (.o (.g [6,7,8])) []))
theorem zuG {w0:World} (a b r:Vec) (hr:subV a b=r):Fun (KN w0) Tryz.prog 63 [.o (.g [pI a.1,pI a.2.1,pI a.2.2]),.o (.g [pI b.1,pI b.2.1,pI b.2.2])] (.o (.g [pI r.1,pI r.2.1,pI r.2.2])):=by
 refine tfn w0 63 ⟨[.o (.g [0,1,2]),.o (.g [3,4,5])],[],[],0,0⟩ ⟨6,[sI b.2.2,sI b.2.1,sI b.1,sI a.2.2,sI a.2.1,sI a.1],[],[]⟩ zv5 (by kernel_rfl) ?_
 intro v1 e1 v2 e2 v3 e3
 intro hc
 refine Fun.fin (r:=.o (.g [pI v1,pI v2,pI v3])) (zc (hc)) (fun v W D h=>?_)
 have r0:r=(v1,v2,v3):=by
  (rw [← hr];unfold subV;simp_all)
 rw [r0];exact h
def zq0:Tr:=.s [(7,.bin .mul 3 0 3),(12,.bin .mul 3 1 4),(13,.bin .add 3 6 7),(18,.bin .mul 3 2 5),(19,.bin .add 3 8 9)] (.z (.ret false (10) []))
theorem t_dot {w0:World} (a b:Vec) (r:Int) (hr:dotV a b=r):Fun (KN w0) Tryz.prog 38 [.o (.g [pI a.1,pI a.2.1,pI a.2.2]),.o (.g [pI b.1,pI b.2.1,pI b.2.2])] (.o (.c (pI r))):=by
 refine tfn w0 38 ⟨[.o (.g [0,1,2]),.o (.g [3,4,5])],[],[],0,0⟩ ⟨6,[sI b.2.2,sI b.2.1,sI b.1,sI a.2.2,sI a.2.1,sI a.1],[],[]⟩ zq0 (by kernel_rfl) ?_
 intro v1 e1 v2 e2 v3 e3 v4 e4 v5 e5
 intro hc
 refine Fun.fin (r:=.o (.c (pI v5))) (zc (hc)) (fun v W D h=>?_)
 have r0:r=v5:=by
  (rw [← hr];unfold dotV;simp_all)
 rw [r0];exact h
def zv4:Tr:=.s [(7,.bin .mul 3 0 3),(12,.bin .mul 3 1 4),(13,.bin .add 3 6 7),(18,.bin .mul 3 2 5),(19,.bin .add 3 8 9)] (.z (.ret false (10) []))
theorem zwF {w0:World} (a b:Vec) (r:Int) (hr:dotV a b=r):Fun (KN w0) Tryz.prog 125 [.o (.g [pI a.1,pI a.2.1,pI a.2.2]),.o (.g [pI b.1,pI b.2.1,pI b.2.2])] (.o (.c (pI r))):=by
 refine tfn w0 125 ⟨[.o (.g [0,1,2]),.o (.g [3,4,5])],[],[],0,0⟩ ⟨6,[sI b.2.2,sI b.2.1,sI b.1,sI a.2.2,sI a.2.1,sI a.1],[],[]⟩ zv4 (by kernel_rfl) ?_
 intro v1 e1 v2 e2 v3 e3 v4 e4 v5 e5
 intro hc
 refine Fun.fin (r:=.o (.c (pI v5))) (zc (hc)) (fun v W D h=>?_)
 have r0:r=v5:=by
  (rw [← hr];unfold dotV;simp_all)
 rw [r0];exact h
def zqS:Tr:=.s [(3,.un .neg 0),(0,.raw [(1000004,.op (.max [3,3] 3) [0,1] [] 2)] 1)] (.z (.ret false (2) []))
theorem t_abs {w0:World} (n r:Int) (hr:(n.natAbs:Int)=r) (hn:-9223372036854775808<n∧n<9223372036854775808):Fun (KN w0) Tryz.prog 155 [.o (.c (pI n))] (.o (.c (pI r))):=by
 refine tfn w0 155 ⟨[0],[],[],0,0⟩ ⟨1,[sI n],[],[]⟩ zqS (by kernel_rfl) ?_
 intro v1 e1
 obtain ⟨v2,e2⟩:=LX ((if v1 > n then v1 else n))
 refine rx [sI v2] [] [] (fun t u w=>⟨e_op2 (za rfl) (za rfl) (za rfl) (fun W=>by rw [← e2];exact zfZ W),trivial⟩) ?_
 intro hc
 refine Fun.fin (r:=.o (.c (pI v2))) (zc (hc)) (fun v W D h=>?_)
 have r0:r=v2:=by
  (have q:∀m:Int,-9223372036854775808<m∧m≤9223372036854775808→True:=(fun _ _=>trivial);subst_vars;first | (rw [wri (by omega)];split<;>omega) | (rw [wri (by omega)];omega) | omega)
 rw [r0];exact h
def zv1:Tr:=.s [(2,.bin .lss 3 0 (kI 0))] (.b 1 (.s [(4,.un .neg 0)] (.z (.ret false (2) []))) (.z (.ret false (0) [])))
theorem zuI {w0:World} (n r:Int) (hr:(n.natAbs:Int)=r) (hn:-9223372036854775808<n∧n<9223372036854775808):Fun (KN w0) Tryz.prog 149 [.o (.c (pI n))] (.o (.c (pI r))):=by
 refine tfn w0 149 ⟨[0],[],[],0,0⟩ ⟨1,[sI n],[],[]⟩ zv1 (by kernel_rfl) ?_
 intro v1 e1
 refine ai (fun h2=>?_) fun h2=>?_
 ·
  intro v3 e3
  intro hc
  refine Fun.fin (r:=.o (.c (pI v3))) (zc (hc)) (fun v W D h=>?_)
  have r0:r=v3:=by
   (have dh2:=LD e1 h2;have q:∀m:Int,-9223372036854775808<m∧m≤9223372036854775808→True:=(fun _ _=>trivial);subst_vars;first | (rw [wri (by omega)];split<;>omega) | (rw [wri (by omega)];omega) | omega)
  rw [r0];exact h
 ·
  intro hc
  refine Fun.fin (r:=.o (.c (pI n))) (zc (hc)) (fun v W D h=>?_)
  have r0:r=n:=by
   (have dh2:=LE e1 h2;have q:∀m:Int,-9223372036854775808<m∧m≤9223372036854775808→True:=(fun _ _=>trivial);subst_vars;first | (rw [wri (by omega)];split<;>omega) | (rw [wri (by omega)];omega) | omega)
  rw [r0];exact h
def zj8:Tr:=.s [(0,.raw [(1000002,.op (.len [24] 3) [0] [] (LF (.k (.int .i64 3))))] 0),(0,.raw [(1000005,.op (.ia 24) [0,LF (.k (.int .i64 0))] [] 1)] 1),(6,.ld 3 0 1),(0,.raw [(1000010,.un .neg (LF (.k (.int .i64 24))) (LF (.k (.int .i64 (-24)))))] 0),(11,.bin .lss 3 2 (kI (-24)))] (.b 3 (.z (.ret false (LF (kB false)) [])) (.s [(15,.bin .gtr 3 2 (kI 24))] (.b 4 (.z (.ret false (LF (kB false)) [])) (.s [(0,.raw [(1000017,.bin .add 3 (LF (.k (.int .i64 0))) (LF (.k (.int .i64 1))) (LF (.k (.int .i64 1))))] 0),(0,.raw [(1000020,.op (.ia 24) [0,LF (.k (.int .i64 1))] [] 5)] 1),(21,.ld 3 0 5),(0,.raw [(1000025,.un .neg (LF (.k (.int .i64 24))) (LF (.k (.int .i64 (-24)))))] 0),(26,.bin .lss 3 6 (kI (-24)))] (.b 7 (.z (.ret false (LF (kB false)) [])) (.s [(30,.bin .gtr 3 6 (kI 24))] (.b 8 (.z (.ret false (LF (kB false)) [])) (.s [(0,.raw [(1000032,.bin .add 3 (LF (.k (.int .i64 1))) (LF (.k (.int .i64 1))) (LF (.k (.int .i64 2))))] 0),(0,.raw [(1000035,.op (.ia 24) [0,LF (.k (.int .i64 2))] [] 9)] 1),(36,.ld 3 0 9),(0,.raw [(1000040,.un .neg (LF (.k (.int .i64 24))) (LF (.k (.int .i64 (-24)))))] 0),(41,.bin .lss 3 10 (kI (-24)))] (.b 11 (.z (.ret false (LF (kB false)) [])) (.s [(45,.bin .gtr 3 10 (kI 24))] (.b 12 (.z (.ret false (LF (kB false)) [])) (.s [(0,.raw [(1000047,.bin .add 3 (LF (.k (.int .i64 2))) (LF (.k (.int .i64 1))) (LF (.k (.int .i64 3))))] 0)] (.z (.ret false (LF (kB true)) []))))))))))))))
theorem zoH {w0:World} (x y z:Int) (r:Bool) (hr:(inC x && (inC y && inC z))=r):Fun (KN w0) Tryz.prog 75 [.o (.c (pV (.int .i64 24))),.o (.c (pLs cI [x,y,z]))] (.o (.c (pB r))):=by
 refine tfn w0 75 ⟨[LF (kI 24),0],[],[],0,4⟩ ⟨1,[.ls 1 cI kIc [x,y,z]],[],[]⟩ zj8 (by kernel_rfl) ?_
 refine rx [] [] [] (fun t u w=>⟨zcA (E:=3) (by kernel_rfl) (zm rfl) zf,trivial⟩) ?_
 refine rx [.p (kIc x)] [] [] (fun t u w=>⟨e_iaL (E:=3) (z:=1) (fun _=>rfl) (by kernel_rfl) (by kernel_rfl) (zm rfl) zf (show (0:Int)=((0:Nat):Int) from rfl) rfl (zm rfl),trivial⟩) ?_
 refine rx [] [] [] (fun t u w=>⟨e_un zf zf (fun W=>r_neg W),trivial⟩) ?_
 intro v1 e1
 refine ai (fun h2=>?_) fun h2=>?_
 ·
  intro hc
  refine Fun.fin (r:=.o (.c (pV (.bool false)))) (zc (hc)) (fun v W D h=>?_)
  have r0:r=false:=by
   (have dh2:=LD e1 h2;rw [← hr];unfold inC;simp;omega)
  rw [r0];exact h
 ·
  intro v3 e3
  refine ai (fun h4=>?_) fun h4=>?_
  ·
   intro hc
   refine Fun.fin (r:=.o (.c (pV (.bool false)))) (zc (hc)) (fun v W D h=>?_)
   have r0:r=false:=by
    (have dh2:=LE e1 h2;have dh4:=LD e3 h4;rw [← hr];unfold inC;simp;omega)
   rw [r0];exact h
  ·
   refine rx [] [] [] (fun t u w=>⟨e_bin zf zf zf (r_ar rfl),trivial⟩) ?_
   refine rx [.p (kIc y)] [] [] (fun t u w=>⟨e_iaL (E:=3) (z:=1) (fun _=>rfl) (by kernel_rfl) (by kernel_rfl) (zm rfl) zf (show (1:Int)=((1:Nat):Int) from rfl) rfl (zm rfl),trivial⟩) ?_
   refine rx [] [] [] (fun t u w=>⟨e_un zf zf (fun W=>r_neg W),trivial⟩) ?_
   intro v5 e5
   refine ai (fun h6=>?_) fun h6=>?_
   ·
    intro hc
    refine Fun.fin (r:=.o (.c (pV (.bool false)))) (zc (hc)) (fun v W D h=>?_)
    have r0:r=false:=by
     (have dh2:=LE e1 h2;have dh4:=LE e3 h4;have dh6:=LD e5 h6;rw [← hr];unfold inC;simp;omega)
    rw [r0];exact h
   ·
    intro v7 e7
    refine ai (fun h8=>?_) fun h8=>?_
    ·
     intro hc
     refine Fun.fin (r:=.o (.c (pV (.bool false)))) (zc (hc)) (fun v W D h=>?_)
     have r0:r=false:=by
      (have dh2:=LE e1 h2;have dh4:=LE e3 h4;have dh6:=LE e5 h6;have dh8:=LD e7 h8;rw [← hr];unfold inC;simp;omega)
     rw [r0];exact h
    ·
     refine rx [] [] [] (fun t u w=>⟨e_bin zf zf zf (r_ar rfl),trivial⟩) ?_
     refine rx [.p (kIc z)] [] [] (fun t u w=>⟨e_iaL (E:=3) (z:=1) (fun _=>rfl) (by kernel_rfl) (by kernel_rfl) (zm rfl) zf (show (2:Int)=((2:Nat):Int) from rfl) rfl (zm rfl),trivial⟩) ?_
     refine rx [] [] [] (fun t u w=>⟨e_un zf zf (fun W=>r_neg W),trivial⟩) ?_
     intro v9 e9
     refine ai (fun h10=>?_) fun h10=>?_
     ·
      intro hc
      refine Fun.fin (r:=.o (.c (pV (.bool false)))) (zc (hc)) (fun v W D h=>?_)
      have r0:r=false:=by
       (have dh2:=LE e1 h2;have dh4:=LE e3 h4;have dh6:=LE e5 h6;have dh8:=LE e7 h8;have dh10:=LD e9 h10;rw [← hr];unfold inC;simp;omega)
      rw [r0];exact h
     ·
      intro v11 e11
      refine ai (fun h12=>?_) fun h12=>?_
      ·
       intro hc
       refine Fun.fin (r:=.o (.c (pV (.bool false)))) (zc (hc)) (fun v W D h=>?_)
       have r0:r=false:=by
        (have dh2:=LE e1 h2;have dh4:=LE e3 h4;have dh6:=LE e5 h6;have dh8:=LE e7 h8;have dh10:=LE e9 h10;have dh12:=LD e11 h12;rw [← hr];unfold inC;simp;omega)
       rw [r0];exact h
      ·
       refine rx [] [] [] (fun t u w=>⟨e_bin zf zf zf (r_ar rfl),trivial⟩) ?_
       intro hc
       refine Fun.fin (r:=.o (.c (pV (.bool true)))) (zc (hc)) (fun v W D h=>?_)
       have r0:r=true:=by
        (have dh2:=LE e1 h2;have dh4:=LE e3 h4;have dh6:=LE e5 h6;have dh8:=LE e7 h8;have dh10:=LE e9 h10;have dh12:=LE e11 h12;rw [← hr];unfold inC;simp;omega)
       rw [r0];exact h
theorem zmG {w0:World} (m:Int) (l:List Int) (r:Bool) (hr:l.all inC=r) (hs:m=24∧l.length=3):Fun (KN w0) Tryz.prog 75 [.o (.c (pI m)),.o (.c (pLs cI l))] (.o (.c (pB r))):=by
 obtain ⟨rfl,hl⟩:=hs
 match l,hl with
 | [x,y,z],_=>exact zoH x y z r (by simpa using hr)
theorem zkI {l:List Int} {k:Nat} {x:Int} (h:l[k]?=some x) (g:Nat):divL g (l.drop k)=if x=-9223372036854775808 then 0 else divL (g.gcd x.natAbs) (l.drop (k+1)):=by
 obtain ⟨hk,rfl⟩:=List.getElem?_eq_some_iff.1 h
 rw [List.drop_eq_getElem_cons hk,divL]
def zsq:Tr:=.s [(0,.raw [(1000008,.dat 3 3 [.h 0,.h 1,.h 2] 3)] 1),(9,.call 75 [LF (kI 24),3] (.o .c))] (.z (.ret false (4) []))
theorem t_in {w0:World} (a:Vec) (r:Bool) (hr:inV a=r):Fun (KN w0) Tryz.prog 34 [.o (.g [pI a.1,pI a.2.1,pI a.2.2])] (.o (.c (pB r))):=by
 refine tfn w0 34 ⟨[.o (.g [0,1,2])],[],[],0,0⟩ ⟨3,[sI a.2.2,sI a.2.1,sI a.1],[],[]⟩ zsq (by kernel_rfl) ?_
 obtain ⟨v1,e1⟩:=LX (([a.1,a.2.1,a.2.2]:List Int))
 refine rx [.ls 1 cI kIc v1] [] [] (fun t u w=>⟨e_dat (c:=cI) (l:=([a.1,a.2.1,a.2.2]:List Int)) (ps:=(pI a.1::pI a.2.1::pI a.2.2::[])) (qs:=(pI a.1::pI a.2.1::pI a.2.2::[])) (by rw [e1];rfl) rfl rfl rfl (pimps (fun _ _ _ h=>h) <| pimps (fun _ _ _ h=>h) <| pimps (fun _ _ _ h=>h) <| ze) rfl,trivial⟩) ?_
 obtain ⟨v2,e2⟩:=LX (v1.all inC)
 have s3:(24:Int)=24∧v1.length=3:=by (rw [← e1];exact ⟨rfl,rfl⟩)
 refine cx (.o (.c (sB v2))) (zmG (24:Int) v1 v2 e2 s3) rfl ?_
 intro hc
 refine Fun.fin (r:=.o (.c (pB v2))) (zc (hc)) (fun v W D h=>?_)
 have r0:r=v2:=by
  (rw [← hr,← e2,← e1];simp [inV])
 rw [r0];exact h
def zbA:List Atom:=[.sl 3 9,.sl 5 10,.sl 6 0,.sl 7 1,.sl 8 2]
def zb8:LoopS:=⟨8,zbA.map (tnA (jf (hZ 9 [3,8])) (kf []) (kf [])),(.x 2),(drs [1] zbA)⟩
def zmn:Tr:=.s [(0,.fb 4 true),(0,.fb 7 false),(8001,.bin .gtr 3 10 (kI 0))] (.b 11 (.s [(8005,.dv .rem 3 9 10)] (.z (.nx (hZ 9 [10,12]) [] []))) (.z (.xt (.x 2) (hZ 10 []) [] [])))
theorem zee {w0:World} (l:(List Int)) (v1:Int) (i:Int) (g:Int) (v501:Bool) (n503:Nat) (x504:Int) (v507:Bool) (v509:Int) (h502:v501=true) (h508:v507=false) (go:Int) (hg:0≤g) (hG:g<9223372036854775808) (hn:0≤v509) (hNN:v509<9223372036854775808) (hO:((g.toNat.gcd v509.toNat:Nat):Int)=go):LpH (KN w0) Tryz.prog 145 ⟨ntOf Tryz.prog 145,[],[]⟩ zb8 1 ⟨10,[sI go,sI v509,sB v507,sI x504,.p (kIc x504),sB v501,sI g,sI i,sI v1,.ls 1 cI kIc l],[],[]⟩:=by
 refine zi _ ⟨zbA,zb8,(11,0,0),(10,0,0),8000⟩ (T:=Int×Int) (fun t=>⟨11,[sI t.2,sI t.1,sI v509,sB v507,sI x504,.p (kIc x504),sB v501,sI g,sI i,sI v1,.ls 1 cI kIc l],[],[]⟩) (fun (gi,ni)=>0≤gi∧gi<9223372036854775808∧0≤ni∧ni<9223372036854775808∧((gi.toNat.gcd ni.toNat:Nat):Int)=go) (fun (gi,ni)=>ni.toNat) (g,v509) (hZ 9 [3,8]) [] [] zmn mixed ⟨hg,hG,hn,hNN,hO⟩ rfl rfl rfl rfl (fun _=>rfl) rfl rfl (by kernel_rfl) ?_
 rintro ⟨gi,ni⟩ hJ
 dsimp only at hJ ⊢
 obtain ⟨h1,h2,h3,h4,h5⟩:=hJ
 refine ai h502 ?_
 refine ai h508 ?_
 intro v1001 e1001
 refine ai (fun h1002=>?_) fun h1002=>?_
 ·
  have s1004:ni≠0:=by (have dh1002:=LD e1001 h1002;omega)
  refine ai s1004 fun v1003 e1003=>?_
  refine nxl (ni,v1003) ?_ ?_ rfl
  all_goals (have dh1002:=LD e1001 h1002;have hm:v1003=gi%ni:=(by rw [← e1003,Int.tmod_eq_emod_of_nonneg h1]);have hp:=Int.emod_nonneg gi (show ni≠0 by omega);have hq:=Int.emod_lt_of_pos gi (show 0<ni by omega);have ht:v1003.toNat=gi.toNat%ni.toNat:=(by rw [hm,Int.toNat_emod h1 h3]))
  ·show v1003.toNat<ni.toNat
   omega
  ·exact ⟨h3,h4,by omega,by omega,by rw [← h5,ht,Nat.gcd_comm gi.toNat,Nat.gcd_rec ni.toNat gi.toNat,Nat.gcd_comm]⟩
 ·
  have hq:((gi)=go)∧True:=by
   refine ⟨?_,trivial⟩
   (have dh1002:=LE e1001 h1002;have h0:ni=0:=(by omega);rw [← h5,h0,Int.toNat_zero,Nat.gcd_zero_right];omega)
  obtain ⟨q0,-⟩:=hq
  rw [← q0]
  rfl
def zby:List Atom:=[.sl 3 3,.sl 6 0,.sl 7 1,.sl 8 2]
def zdw:LoopS:=⟨3,zby.map (tnA (jf [0,1,kI 0,kI 0]) (kf []) (kf [])),(.x 0),(drs [3] zby).map (tnA (jf [0,1,2,2]) (kf []) (kf []))⟩
def zml:Tr:=.s [(5000,.bin .lss 3 2 1)] (.b 4 (.s [(5001,.ia 24 3 1 0 2),(5002,.ld 3 0 5),(5005,.bin .eql 3 6 (kI (-9223372036854775808)))] (.b 7 (.z .no) (.s [(5007,.call 155 [6] (.o .c)),(0,.lp zb8 1 1),(6009,.bin .add 3 2 (kI 1))] (.z (.nx [0,1,10,9] [] []))))) (.z (.xt (.x 0) [0,1,3] [] [])))
theorem zjQ {w0:World} (l:(List Int)) (v1:Int) (o:Int) (hlen:(l.length:Int)=v1) (hb:l.length<9223372036854775808) (hx:¬ (-9223372036854775808:Int)∈l) (hO:divL 0 l=o) (hR64:∀x∈l,-9223372036854775808≤x∧x<9223372036854775808):LpH (KN w0) Tryz.prog 145 ⟨ntOf Tryz.prog 145,[],[]⟩ zdw 0 ⟨3,[sI o,sI v1,.ls 1 cI kIc l],[],[]⟩:=by
 refine zi _ ⟨zby,zdw,(4,0,0),(3,0,0),5000⟩ (T:=Int×Int) (fun t=>⟨4,[sI t.2,sI t.1,sI v1,.ls 1 cI kIc l],[],[]⟩) (fun (i,g)=>∃k:Nat,i=(k:Int)∧k≤l.length∧0≤g∧g<9223372036854775808∧divL g.toNat (l.drop k)=o) (fun (i,g)=>((l.length:Int) - i).toNat) ((0:Int),(0:Int)) [0,1,kI 0,kI 0] [] [] zml mixed ⟨0,rfl,Nat.zero_le _,by decide,by decide,by rw [List.drop_zero];exact hO⟩ rfl rfl rfl rfl (fun _=>rfl) rfl rfl (by kernel_rfl) ?_
 rintro ⟨i,g⟩ hJ
 dsimp only at hJ ⊢
 obtain ⟨k,hi,hk,hg1,hg2,hs⟩:=hJ
 intro v501 e501
 refine ai (fun h502=>?_) fun h502=>?_
 ·
  refine ai (by (have dh502:=LD e501 h502;have hlt:k<l.length:=(by omega);exact ⟨k,_,hi,List.getElem?_eq_getElem hlt⟩)) fun n503 x504 s505 s506=>?_
  intro v507 e507
  refine ai (fun h508=>?_) fun h508=>?_
  ·
   exfalso
   (have dh502:=LD e501 h502;have dh508:=eq_of_beq (e507.trans h508);have hkn:n503=k:=(by omega);subst hkn;have hlt:n503<l.length:=(List.getElem?_eq_some_iff.1 s506).1;have hr:=hR64 _ (List.mem_of_getElem? s506);exact hx (List.mem_of_getElem? (by rw [s506];congr 1)))
  ·
   obtain ⟨v509,e509⟩:=LX ((x504.natAbs:Int))
   have s510:-9223372036854775808<x504∧x504<9223372036854775808:=by (have dh502:=LD e501 h502;have dh508:=ne_of_beq_false (e507.trans h508);have hr:=hR64 _ (List.mem_of_getElem? s506);omega)
   refine cx (.o (.c (sI v509))) (t_abs x504 v509 e509 s510) rfl ?_
   obtain ⟨go,hO_t_div_I⟩:∃(go:Int),((g.toNat.gcd v509.toNat:Nat):Int)=go:=⟨_,rfl⟩
   refine rx [sI go] [] [] (zee l v1 i g v501 n503 x504 v507 v509 h502 h508 go  hg1 hg2 (by rw [← e509];omega) (by rw [← e509];have hr:=hR64 _ (List.mem_of_getElem? s506);omega) hO_t_div_I) ?_
   intro v511 e511
   refine nxl (v511,go) ?_ ?_ rfl
   all_goals (have dh502:=LD e501 h502;have dh508:=ne_of_beq_false (e507.trans h508);have hkn:n503=k:=(by omega);subst hkn;have hlt:n503<l.length:=(List.getElem?_eq_some_iff.1 s506).1;have hr:=hR64 _ (List.mem_of_getElem? s506);have x3:v511=((n503+1:Nat):Int):=(by rw [← e511,hi,wri (by omega)];omega);have hgb:0≤go∧go<9223372036854775808:=(by rw [← hO_t_div_I];have q2:∀a b:Nat,a<9223372036854775808→b<9223372036854775808→a.gcd b<9223372036854775808:=(fun a b ha hb=>by rcases Nat.eq_zero_or_pos a with h | h;(· rw [h,Nat.gcd_zero_left];exact hb);exact Nat.lt_of_le_of_lt (Nat.gcd_le_left b h) ha);have q3:=q2 g.toNat v509.toNat (by omega) (by rw [← e509,Int.toNat_natCast];omega);omega);have hd:=zkI s506 g.toNat;rw [if_neg (by omega),hs] at hd;have ht:go.toNat=g.toNat.gcd x504.natAbs:=(by rw [← hO_t_div_I,← e509,Int.toNat_natCast,Int.toNat_natCast]))
   ·show ((l.length:Int) - v511).toNat<((l.length:Int) - i).toNat
    omega
   ·exact ⟨n503+1,x3,by omega,hgb.1,hgb.2,by rw [ht];exact hd.symm⟩
 ·
  have hq:((g)=o)∧True:=by
   refine ⟨?_,trivial⟩
   (have dh502:=LE e501 h502;have hkl:k=l.length:=(by omega);rw [hkl,List.drop_length,divL] at hs;omega)
  obtain ⟨q0,-⟩:=hq
  rw [← q0]
  rfl
def zbz:List Atom:=[.sl 3 3,.sl 6 0,.sl 7 1,.sl 8 2]
def zdx:LoopS:=⟨3,zbz.map (tnA (jf [0,1,kI 0,kI 0]) (kf []) (kf [])),.r,(drs [0,3] zbz)++[.sl 2 2]⟩
def zmm:Tr:=.s [(5000,.bin .lss 3 2 1)] (.b 4 (.s [(5001,.ia 24 3 1 0 2),(5002,.ld 3 0 5),(5005,.bin .eql 3 6 (kI (-9223372036854775808)))] (.b 7 (.z (.xt .r [0,1,kI 0] [] [])) (.s [(5007,.call 155 [6] (.o .c)),(0,.lp zb8 1 1),(6009,.bin .add 3 2 (kI 1))] (.z (.nx [0,1,10,9] [] []))))) (.z .no))
theorem zjR {w0:World} (l:(List Int)) (v1:Int) (o:Int) (hlen:(l.length:Int)=v1) (hb:l.length<9223372036854775808) (hx:(-9223372036854775808:Int)∈l) (ho:(0:Int)=o) (hR64:∀x∈l,-9223372036854775808≤x∧x<9223372036854775808):LpH (KN w0) Tryz.prog 145 ⟨ntOf Tryz.prog 145,[],[]⟩ zdx 0 ⟨3,[sI o,sI v1,.ls 1 cI kIc l],[],[]⟩:=by
 refine zi _ ⟨zbz,zdx,(4,0,0),(3,0,0),5000⟩ (T:=Int×Int) (fun t=>⟨4,[sI t.2,sI t.1,sI v1,.ls 1 cI kIc l],[],[]⟩) (fun (i,g)=>∃k:Nat,i=(k:Int)∧k≤l.length∧0≤g∧g<9223372036854775808∧(-9223372036854775808:Int)∈l.drop k) (fun (i,g)=>((l.length:Int) - i).toNat) ((0:Int),(0:Int)) [0,1,kI 0,kI 0] [] [] zmm mixed ⟨0,rfl,Nat.zero_le _,by decide,by decide,by rw [List.drop_zero];exact hx⟩ rfl rfl rfl rfl (fun _=>rfl) rfl rfl (by kernel_rfl) ?_
 rintro ⟨i,g⟩ hJ
 dsimp only at hJ ⊢
 obtain ⟨k,hi,hk,hg1,hg2,hs⟩:=hJ
 intro v501 e501
 refine ai (fun h502=>?_) fun h502=>?_
 ·
  refine ai (by (have dh502:=LD e501 h502;have hlt:k<l.length:=(by omega);exact ⟨k,_,hi,List.getElem?_eq_getElem hlt⟩)) fun n503 x504 s505 s506=>?_
  intro v507 e507
  refine ai (fun h508=>?_) fun h508=>?_
  ·
   have hq:(((0:Int))=o)∧True:=by
    refine ⟨?_,trivial⟩
    all_goals exact ho
   obtain ⟨q0,-⟩:=hq
   rw [← q0]
   rfl
  ·
   obtain ⟨v509,e509⟩:=LX ((x504.natAbs:Int))
   have s510:-9223372036854775808<x504∧x504<9223372036854775808:=by (have dh502:=LD e501 h502;have dh508:=ne_of_beq_false (e507.trans h508);have hr:=hR64 _ (List.mem_of_getElem? s506);omega)
   refine cx (.o (.c (sI v509))) (t_abs x504 v509 e509 s510) rfl ?_
   obtain ⟨go,hO_t_div_I⟩:∃(go:Int),((g.toNat.gcd v509.toNat:Nat):Int)=go:=⟨_,rfl⟩
   refine rx [sI go] [] [] (zee l v1 i g v501 n503 x504 v507 v509 h502 h508 go  hg1 hg2 (by rw [← e509];omega) (by rw [← e509];have hr:=hR64 _ (List.mem_of_getElem? s506);omega) hO_t_div_I) ?_
   intro v511 e511
   refine nxl (v511,go) ?_ ?_ rfl
   all_goals (have dh502:=LD e501 h502;have dh508:=ne_of_beq_false (e507.trans h508);have hkn:n503=k:=(by omega);subst hkn;have hlt:n503<l.length:=(List.getElem?_eq_some_iff.1 s506).1;have hr:=hR64 _ (List.mem_of_getElem? s506);have x3:v511=((n503+1:Nat):Int):=(by rw [← e511,hi,wri (by omega)];omega);have hgb:0≤go∧go<9223372036854775808:=(by rw [← hO_t_div_I];have q2:∀a b:Nat,a<9223372036854775808→b<9223372036854775808→a.gcd b<9223372036854775808:=(fun a b ha hb=>by rcases Nat.eq_zero_or_pos a with h | h;(· rw [h,Nat.gcd_zero_left];exact hb);exact Nat.lt_of_le_of_lt (Nat.gcd_le_left b h) ha);have q3:=q2 g.toNat v509.toNat (by omega) (by rw [← e509,Int.toNat_natCast];omega);omega);have hd:=hs;rw [List.drop_eq_getElem_cons hlt] at hd;have hm:=(List.mem_cons.1 hd).resolve_left (fun e=>by have q:=(List.getElem?_eq_some_iff.1 s506).2;omega))
   ·show ((l.length:Int) - v511).toNat<((l.length:Int) - i).toNat
    omega
   ·exact ⟨n503+1,x3,by omega,hgb.1,hgb.2,hm⟩
 ·
  exfalso
  (have dh502:=LE e501 h502;have hkl:k=l.length:=(by omega);rw [hkl,List.drop_length] at hs;cases hs)
theorem zit:∀{l:List Int} (g:Nat),(-9223372036854775808:Int)∈l→divL g l=0
 | [],_,h=>by cases h
 | x::r,g,h=>by
  unfold divL
  split
  ·rfl
  ·rename_i hx;exact zit _ ((List.mem_cons.1 h).resolve_left fun e=>hx e.symm)
def zqZ:Tr:=.s [(3,.ln 24 3 0)] (.r (.s [(0,.lp zdw 0 1)] (.z (.ret false (2) []))) (.s [(0,.lp zdx 0 1)] (.z (.ret false (2) []))))
theorem t_div {w0:World} (l:List Int) (r:Int) (hr:divL 0 l=r) (hb:l.length<9223372036854775808) (hR64:∀x∈l,-9223372036854775808≤x∧x<9223372036854775808):Fun (KN w0) Tryz.prog 145 [.o (.c (pLs cI l))] (.o (.c (pI r))):=by
 refine tfn w0 145 ⟨[0],[],[],0,0⟩ ⟨1,[.ls 1 cI kIc l],[],[]⟩ zqZ (by kernel_rfl) ?_
 intro v1 e1
 by_cases c3:¬ (-9223372036854775808:Int)∈l
 ·
  refine Or.inl ?_
  obtain ⟨o,hO_t_div_A⟩:∃(o:Int),divL 0 l=o:=⟨_,rfl⟩
  refine rx [sI o] [] [] (zjQ l v1  o  e1 hb c3 hO_t_div_A hR64) ?_
  intro hc
  refine Fun.fin (r:=.o (.c (pI o))) (zc (hc)) (fun v W D h=>?_)
  have r0:r=o:=by
   rw [← hr];exact hO_t_div_A
  rw [r0];exact h
 ·
  refine Or.inr ?_
  obtain ⟨o,hO_t_div_B⟩:∃(o:Int),(0:Int)=o:=⟨_,rfl⟩
  refine rx [sI o] [] [] (zjR l v1  o  e1 hb (by simpa using c3) hO_t_div_B hR64) ?_
  intro hc
  refine Fun.fin (r:=.o (.c (pI o))) (zc (hc)) (fun v W D h=>?_)
  have r0:r=o:=by
   rw [← hr,← hO_t_div_B];exact zit 0 (by simpa using c3)
  rw [r0];exact h
theorem zde (a b:Vec):okV (subV a b):=by
 unfold okV subV wI
 simp only [IntKind.wrap_i64]
 omega
def zos:Tr:=.s [(0,.raw [(1000009,.dat 3 3 [.h 0,.h 1,.h 2] 3)] 1),(10,.call 145 [3] (.o .c)),(13,.bin .eql 3 4 (kI 0))] (.b 5 (.z (.ret false (.t [.g [kI 0,kI 0,kI 0],.c (kI 0)]) [])) (.s [(17,.dv .quo 3 0 4),(21,.dv .quo 3 1 4),(25,.dv .quo 3 2 4)] (.z (.ret false (.t [.g [6,7,8],4]) []))))
theorem zgs {w0:World} (a:Vec) (r:Vec) (g:Int) (hr:(primV a).1=r) (hg:(primV a).2=g) (ha:okV a):Fun (KN w0) Tryz.prog 115 [.o (.g [pI a.1,pI a.2.1,pI a.2.2])] (.t [.g [pI r.1,pI r.2.1,pI r.2.2],.c (pI g)]):=by
 refine tfn w0 115 ⟨[.o (.g [0,1,2])],[],[],0,0⟩ ⟨3,[sI a.2.2,sI a.2.1,sI a.1],[],[]⟩ zos (by kernel_rfl) ?_
 obtain ⟨v1,e1⟩:=LX (([a.1,a.2.1,a.2.2]:List Int))
 refine rx [.ls 1 cI kIc v1] [] [] (fun t u w=>⟨e_dat (c:=cI) (l:=([a.1,a.2.1,a.2.2]:List Int)) (ps:=(pI a.1::pI a.2.1::pI a.2.2::[])) (qs:=(pI a.1::pI a.2.1::pI a.2.2::[])) (by rw [e1];rfl) rfl rfl rfl (pimps (fun _ _ _ h=>h) <| pimps (fun _ _ _ h=>h) <| pimps (fun _ _ _ h=>h) <| ze) rfl,trivial⟩) ?_
 obtain ⟨v2,e2⟩:=LX (divL 0 v1)
 have s3:v1.length<9223372036854775808:=by (rw [← e1];exact Nat.lt_of_lt_of_le (by decide:3<4) (by decide))
 have s4:∀x∈v1,-9223372036854775808≤x∧x<9223372036854775808:=by (rw [← e1];intro y hy;simp only [List.mem_cons,List.not_mem_nil,or_false] at hy;unfold okV at ha;rcases hy with rfl | rfl | rfl<;>omega)
 refine cx (.o (.c (sI v2))) (t_div v1 v2 e2 s3 s4) rfl ?_
 intro v5 e5
 refine ai (fun h6=>?_) fun h6=>?_
 ·
  intro hc
  refine Fun.fin (r:=.t [.g [pV (.int .i64 0),pV (.int .i64 0),pV (.int .i64 0)],.c (pV (.int .i64 0))]) (zc (hc)) (fun v W D h=>?_)
  have r0:r=((0:Int),(0:Int),(0:Int)):=by
   (have dh6:=eq_of_beq (e5.trans h6);first | (rw [← hr];unfold primV;simp_all;done) | (rw [← hg];unfold primV;simp_all))
  have r1:g=(0:Int):=by
   (have dh6:=eq_of_beq (e5.trans h6);first | (rw [← hr];unfold primV;simp_all;done) | (rw [← hg];unfold primV;simp_all))
  rw [r0,r1];exact h
 ·
  have s8:v2≠0:=by (have dh6:=ne_of_beq_false (e5.trans h6);omega)
  refine ai s8 fun v7 e7=>?_
  have s10:v2≠0:=by (have dh6:=ne_of_beq_false (e5.trans h6);omega)
  refine ai s10 fun v9 e9=>?_
  have s12:v2≠0:=by (have dh6:=ne_of_beq_false (e5.trans h6);omega)
  refine ai s12 fun v11 e11=>?_
  intro hc
  refine Fun.fin (r:=.t [.g [pI v7,pI v9,pI v11],.c (pI v2)]) (zc (hc)) (fun v W D h=>?_)
  have r0:r=(v7,v9,v11):=by
   (have dh6:=ne_of_beq_false (e5.trans h6);first | (rw [← hr];unfold primV;simp_all;done) | (rw [← hg];unfold primV;simp_all))
  have r1:g=v2:=by
   (have dh6:=ne_of_beq_false (e5.trans h6);first | (rw [← hr];unfold primV;simp_all;done) | (rw [← hg];unfold primV;simp_all))
  rw [r0,r1];exact h
def zom:Tr:=.s [(5,.call 39 [.o (.g [3,4,5]),.o (.g [0,1,2])] (.o (.g 3))),(10,.bin .neq 3 8 (kI 0))] (.b 9 (.z (.ret false (.o (.g [kI 0,kI 0,kI 0])) [])) (.s [(14,.bin .neq 3 6 (kI 0))] (.b 10 (.s [(18,.bin .neq 3 7 (kI 0))] (.b 11 (.z (.ret false (.o (.g [kI 0,kI 0,kI 0])) [])) (.s [(22,.call 115 [.o (.g [6,7,8])] (.t [.g 3,.c]))] (.z (.ret false (.o (.g [12,13,14])) []))))) (.s [(22,.call 115 [.o (.g [6,7,8])] (.t [.g 3,.c]))] (.z (.ret false (.o (.g [11,12,13])) []))))))
theorem zgj {w0:World} (a b r:Vec) (hr:headV a b=r):Fun (KN w0) Tryz.prog 84 [.o (.g [pI a.1,pI a.2.1,pI a.2.2]),.o (.g [pI b.1,pI b.2.1,pI b.2.2])] (.o (.g [pI r.1,pI r.2.1,pI r.2.2])):=by
 refine tfn w0 84 ⟨[.o (.g [0,1,2]),.o (.g [3,4,5])],[],[],0,0⟩ ⟨6,[sI b.2.2,sI b.2.1,sI b.1,sI a.2.2,sI a.2.1,sI a.1],[],[]⟩ zom (by kernel_rfl) ?_
 obtain ⟨v1,e1⟩:=LX (subV b a)
 refine cx (.o (.g [sI v1.1,sI v1.2.1,sI v1.2.2])) (t_sub b a v1 e1) rfl ?_
 intro v2 e2
 refine ai (fun h3=>?_) fun h3=>?_
 ·
  intro hc
  refine Fun.fin (r:=.o (.g [pV (.int .i64 0),pV (.int .i64 0),pV (.int .i64 0)])) (zc (hc)) (fun v W D h=>?_)
  have r0:r=((0:Int),(0:Int),(0:Int)):=by
   (have dh3:=bne_iff_ne.1 (e2.trans h3);rw [← hr];unfold headV;simp_all)
  rw [r0];exact h
 ·
  intro v4 e4
  refine ai (fun h5=>?_) fun h5=>?_
  ·
   intro v6 e6
   refine ai (fun h7=>?_) fun h7=>?_
   ·
    intro hc
    refine Fun.fin (r:=.o (.g [pV (.int .i64 0),pV (.int .i64 0),pV (.int .i64 0)])) (zc (hc)) (fun v W D h=>?_)
    have r0:r=((0:Int),(0:Int),(0:Int)):=by
     (have dh3:=bne_eq_false_iff_eq.1 (e2.trans h3);have dh5:=bne_iff_ne.1 (e4.trans h5);have dh7:=bne_iff_ne.1 (e6.trans h7);rw [← hr];unfold headV;simp_all)
    rw [r0];exact h
   ·
    obtain ⟨v8,e8⟩:=LX ((primV v1).1)
    obtain ⟨v9,e9⟩:=LX ((primV v1).2)
    have s10:okV v1:=by (rw [← e1];exact zde _ _)
    refine cx (.t [.g [sI v8.1,sI v8.2.1,sI v8.2.2],.c (sI v9)]) (zgs v1 v8 v9 e8 e9 s10) rfl ?_
    intro hc
    refine Fun.fin (r:=.o (.g [pI v8.1,pI v8.2.1,pI v8.2.2])) (zc (hc)) (fun v W D h=>?_)
    have r0:r=v8:=by
     (have dh3:=bne_eq_false_iff_eq.1 (e2.trans h3);have dh5:=bne_iff_ne.1 (e4.trans h5);have dh7:=bne_eq_false_iff_eq.1 (e6.trans h7);rw [← hr];unfold headV;simp_all)
    rw [r0];exact h
  ·
   obtain ⟨v6,e6⟩:=LX ((primV v1).1)
   obtain ⟨v7,e7⟩:=LX ((primV v1).2)
   have s8:okV v1:=by (rw [← e1];exact zde _ _)
   refine cx (.t [.g [sI v6.1,sI v6.2.1,sI v6.2.2],.c (sI v7)]) (zgs v1 v6 v7 e6 e7 s8) rfl ?_
   intro hc
   refine Fun.fin (r:=.o (.g [pI v6.1,pI v6.2.1,pI v6.2.2])) (zc (hc)) (fun v W D h=>?_)
   have r0:r=v6:=by
    (have dh3:=bne_eq_false_iff_eq.1 (e2.trans h3);have dh5:=bne_eq_false_iff_eq.1 (e4.trans h5);rw [← hr];unfold headV;simp_all)
   rw [r0];exact h
def zoq:Tr:=.s [(7,.bin .mul 3 6 3),(11,.bin .mul 3 6 4),(15,.bin .mul 3 6 5),(17,.call 20 [.o (.g [0,1,2]),.o (.g [7,8,9])] (.o (.g 3)))] (.z (.ret false (.o (.g [10,11,12])) []))
theorem zst {w0:World} (a b:Vec) (n:Int) (r:Vec) (hr:plusV a b n=r):Fun (KN w0) Tryz.prog 195 [.o (.g [pI a.1,pI a.2.1,pI a.2.2]),.o (.g [pI b.1,pI b.2.1,pI b.2.2]),.o (.c (pI n))] (.o (.g [pI r.1,pI r.2.1,pI r.2.2])):=by
 refine tfn w0 195 ⟨[.o (.g [0,1,2]),.o (.g [3,4,5]),6],[],[],0,0⟩ ⟨7,[sI n,sI b.2.2,sI b.2.1,sI b.1,sI a.2.2,sI a.2.1,sI a.1],[],[]⟩ zoq (by kernel_rfl) ?_
 intro v1 e1 v2 e2 v3 e3
 obtain ⟨v4,e4⟩:=LX (addV a (v1,v2,v3))
 refine cx (.o (.g [sI v4.1,sI v4.2.1,sI v4.2.2])) (t_add a (v1,v2,v3) v4 e4) rfl ?_
 intro hc
 refine Fun.fin (r:=.o (.g [pI v4.1,pI v4.2.1,pI v4.2.2])) (zc (hc)) (fun v W D h=>?_)
 have r0:r=v4:=by
  (rw [← hr];unfold plusV;simp_all)
 rw [r0];exact h
def zoC:Tr:=.s [(4,.call 38 [.o (.g [0,1,2]),.o (.g [0,1,2])] (.o .c)),(5,.bin .eql 3 3 (kI 1))] (.z (.ret false (4) []))
theorem zpO {w0:World} (a:Vec) (r:Bool) (hr:unitV a=r):Fun (KN w0) Tryz.prog 201 [.o (.g [pI a.1,pI a.2.1,pI a.2.2])] (.o (.c (pB r))):=by
 refine tfn w0 201 ⟨[.o (.g [0,1,2])],[],[],0,0⟩ ⟨3,[sI a.2.2,sI a.2.1,sI a.1],[],[]⟩ zoC (by kernel_rfl) ?_
 obtain ⟨v1,e1⟩:=LX (dotV a a)
 refine cx (.o (.c (sI v1))) (t_dot a a v1 e1) rfl ?_
 intro v2 e2
 intro hc
 refine Fun.fin (r:=.o (.c (pB v2))) (zc (hc)) (fun v W D h=>?_)
 have r0:r=v2:=by
  (rw [← hr];unfold unitV;simp_all)
 rw [r0];exact h
def zol:Tr:=.s [(0,.raw [(1000008,.bin .neq 26 (.o (.g [1,2,3])) (.o (.g [4,5,6])) 11)] 1)] (.b 11 (.s [(0,.raw [(1000014,.bin .eql 26 (.o (.g [7,8,9])) (.o (.g [.k (.int .i64 0),.k (.int .i64 0),.k (.int .i64 0)])) 12)] 1)] (.z (.ret false (12) []))) (.z (.ret false (LF (kB false)) [])))
theorem zpH {w0:World} (m:Mov) (r:Bool) (hr:fitS m=r):Fun (KN w0) Tryz.prog 190 [.o (.g [pI m.1,pI m.2.1.1,pI m.2.1.2.1,pI m.2.1.2.2,pI m.2.2.1.1,pI m.2.2.1.2.1,pI m.2.2.1.2.2,pI m.2.2.2.1.1,pI m.2.2.2.1.2.1,pI m.2.2.2.1.2.2,pI m.2.2.2.2])] (.o (.c (pB r))):=by
 refine tfn w0 190 ⟨[.o (.g [0,1,2,3,4,5,6,7,8,9,10])],[],[],0,0⟩ ⟨11,[sI m.2.2.2.2,sI m.2.2.2.1.2.2,sI m.2.2.2.1.2.1,sI m.2.2.2.1.1,sI m.2.2.1.2.2,sI m.2.2.1.2.1,sI m.2.2.1.1,sI m.2.1.2.2,sI m.2.1.2.1,sI m.2.1.1,sI m.1],[],[]⟩ zol (by kernel_rfl) ?_
 obtain ⟨v1,e1⟩:=LX (!decide (m.2.1=m.2.2.1))
 refine rx [sB v1] [] [] (fun t u w=>⟨e_eqV (x:=m.2.1) (y:=m.2.2.1) (neg:=true) ⟨(za rfl),(za rfl),(za rfl),trivial⟩ ⟨(za rfl),(za rfl),(za rfl),trivial⟩ (za (by rw [e1];rfl)),trivial⟩) ?_
 refine ai (fun h2=>?_) fun h2=>?_
 ·
  obtain ⟨v3,e3⟩:=LX (decide (m.2.2.2.1=((0:Int),(0:Int),(0:Int))))
  refine rx [sB v3] [] [] (fun t u w=>⟨e_eqV (x:=m.2.2.2.1) (y:=((0:Int),(0:Int),(0:Int))) (neg:=false) ⟨(za rfl),(za rfl),(za rfl),trivial⟩ ⟨zf,zf,zf,trivial⟩ (za (by rw [e3];rfl)),trivial⟩) ?_
  intro hc
  refine Fun.fin (r:=.o (.c (pB v3))) (zc (hc)) (fun v W D h=>?_)
  have r0:r=v3:=by
   (have dh2:=(Bool.not_eq_true' _).mp (e1.trans h2);rw [← hr];unfold fitS;simp_all)
  rw [r0];exact h
 ·
  intro hc
  refine Fun.fin (r:=.o (.c (pV (.bool false)))) (zc (hc)) (fun v W D h=>?_)
  have r0:r=false:=by
   (have dh2:=(Bool.not_eq_false' _).mp (e1.trans h2);rw [← hr];unfold fitS;simp_all)
  rw [r0];exact h
def zmB:Tr:=.s [(11,.call 39 [.o (.g [7,8,9]),.o (.g [4,5,6])] (.o (.g 3))),(12,.call 115 [.o (.g [11,12,13])] (.t [.g 3,.c])),(24,.call 39 [.o (.g [7,8,9]),.o (.g [1,2,3])] (.o (.g 3))),(25,.call 115 [.o (.g [18,19,20])] (.t [.g 3,.c]))] (.z (.ret false (.t [.g [14,15,16],.g [21,22,23],17,24]) []))
theorem zrd {w0:World} (m:Mov) (a b:Vec) (n k:Int) (ha:(sideA m).1=a) (hb:(sideB m).1=b) (hn:(sideA m).2=n) (hk:(sideB m).2=k):Fun (KN w0) Tryz.prog 200 [.o (.g [pI m.1,pI m.2.1.1,pI m.2.1.2.1,pI m.2.1.2.2,pI m.2.2.1.1,pI m.2.2.1.2.1,pI m.2.2.1.2.2,pI m.2.2.2.1.1,pI m.2.2.2.1.2.1,pI m.2.2.2.1.2.2,pI m.2.2.2.2])] (.t [.g [pI a.1,pI a.2.1,pI a.2.2],.g [pI b.1,pI b.2.1,pI b.2.2],.c (pI n),.c (pI k)]):=by
 refine tfn w0 200 ⟨[.o (.g [0,1,2,3,4,5,6,7,8,9,10])],[],[],0,0⟩ ⟨11,[sI m.2.2.2.2,sI m.2.2.2.1.2.2,sI m.2.2.2.1.2.1,sI m.2.2.2.1.1,sI m.2.2.1.2.2,sI m.2.2.1.2.1,sI m.2.2.1.1,sI m.2.1.2.2,sI m.2.1.2.1,sI m.2.1.1,sI m.1],[],[]⟩ zmB (by kernel_rfl) ?_
 obtain ⟨v1,e1⟩:=LX (subV m.2.2.2.1 m.2.2.1)
 refine cx (.o (.g [sI v1.1,sI v1.2.1,sI v1.2.2])) (t_sub m.2.2.2.1 m.2.2.1 v1 e1) rfl ?_
 obtain ⟨v2,e2⟩:=LX ((primV v1).1)
 obtain ⟨v3,e3⟩:=LX ((primV v1).2)
 have s4:okV v1:=by (rw [← e1];exact zde _ _)
 refine cx (.t [.g [sI v2.1,sI v2.2.1,sI v2.2.2],.c (sI v3)]) (zgs v1 v2 v3 e2 e3 s4) rfl ?_
 obtain ⟨v5,e5⟩:=LX (subV m.2.2.2.1 m.2.1)
 refine cx (.o (.g [sI v5.1,sI v5.2.1,sI v5.2.2])) (t_sub m.2.2.2.1 m.2.1 v5 e5) rfl ?_
 obtain ⟨v6,e6⟩:=LX ((primV v5).1)
 obtain ⟨v7,e7⟩:=LX ((primV v5).2)
 have s8:okV v5:=by (rw [← e5];exact zde _ _)
 refine cx (.t [.g [sI v6.1,sI v6.2.1,sI v6.2.2],.c (sI v7)]) (zgs v5 v6 v7 e6 e7 s8) rfl ?_
 intro hc
 refine Fun.fin (r:=.t [.g [pI v2.1,pI v2.2.1,pI v2.2.2],.g [pI v6.1,pI v6.2.1,pI v6.2.2],.c (pI v3),.c (pI v7)]) (zc (hc)) (fun v W D h=>?_)
 have r0:a=v2:=by
  (unfold sideA sideB at *;simp_all)
 have r1:b=v6:=by
  (unfold sideA sideB at *;simp_all)
 have r2:n=v3:=by
  (unfold sideA sideB at *;simp_all)
 have r3:k=v7:=by
  (unfold sideA sideB at *;simp_all)
 rw [r0,r1,r2,r3];exact h
def zok:Tr:=.s [(3,.call 200 [.o (.g [0,1,2,3,4,5,6,7,8,9,10])] (.t [.g 3,.g 3,.c,.c])),(16,.call 201 [.o (.g [11,12,13])] (.o .c))] (.b 19 (.s [(19,.call 201 [.o (.g [14,15,16])] (.o .c))] (.b 20 (.s [(24,.bin .eql 3 17 18)] (.b 21 (.s [(29,.call 38 [.o (.g [11,12,13]),.o (.g [14,15,16])] (.o .c)),(30,.bin .eql 3 22 (kI 0))] (.z (.ret false (23) []))) (.z (.ret false (LF (kB false)) [])))) (.z (.ret false (LF (kB false)) [])))) (.z (.ret false (LF (kB false)) [])))
theorem zpG {w0:World} (m:Mov) (r:Bool) (hr:fitA m=r):Fun (KN w0) Tryz.prog 196 [.o (.g [pI m.1,pI m.2.1.1,pI m.2.1.2.1,pI m.2.1.2.2,pI m.2.2.1.1,pI m.2.2.1.2.1,pI m.2.2.1.2.2,pI m.2.2.2.1.1,pI m.2.2.2.1.2.1,pI m.2.2.2.1.2.2,pI m.2.2.2.2])] (.o (.c (pB r))):=by
 refine tfn w0 196 ⟨[.o (.g [0,1,2,3,4,5,6,7,8,9,10])],[],[],0,0⟩ ⟨11,[sI m.2.2.2.2,sI m.2.2.2.1.2.2,sI m.2.2.2.1.2.1,sI m.2.2.2.1.1,sI m.2.2.1.2.2,sI m.2.2.1.2.1,sI m.2.2.1.1,sI m.2.1.2.2,sI m.2.1.2.1,sI m.2.1.1,sI m.1],[],[]⟩ zok (by kernel_rfl) ?_
 obtain ⟨v1,e1⟩:=LX ((sideA m).1)
 obtain ⟨v2,e2⟩:=LX ((sideB m).1)
 obtain ⟨v3,e3⟩:=LX ((sideA m).2)
 obtain ⟨v4,e4⟩:=LX ((sideB m).2)
 refine cx (.t [.g [sI v1.1,sI v1.2.1,sI v1.2.2],.g [sI v2.1,sI v2.2.1,sI v2.2.2],.c (sI v3),.c (sI v4)]) (zrd m v1 v2 v3 v4 e1 e2 e3 e4) rfl ?_
 obtain ⟨v5,e5⟩:=LX (unitV v1)
 refine cx (.o (.c (sB v5))) (zpO v1 v5 e5) rfl ?_
 refine ai (fun h6=>?_) fun h6=>?_
 ·
  obtain ⟨v7,e7⟩:=LX (unitV v2)
  refine cx (.o (.c (sB v7))) (zpO v2 v7 e7) rfl ?_
  refine ai (fun h8=>?_) fun h8=>?_
  ·
   intro v9 e9
   refine ai (fun h10=>?_) fun h10=>?_
   ·
    obtain ⟨v11,e11⟩:=LX (dotV v1 v2)
    refine cx (.o (.c (sI v11))) (t_dot v1 v2 v11 e11) rfl ?_
    intro v12 e12
    intro hc
    refine Fun.fin (r:=.o (.c (pB v12))) (zc (hc)) (fun v W D h=>?_)
    have r0:r=v12:=by
     (have dh6:=e5.trans h6;have dh8:=e7.trans h8;have dh10:=eq_of_beq (e9.trans h10);rw [← hr];unfold fitA;simp_all)
    rw [r0];exact h
   ·
    intro hc
    refine Fun.fin (r:=.o (.c (pV (.bool false)))) (zc (hc)) (fun v W D h=>?_)
    have r0:r=false:=by
     (have dh6:=e5.trans h6;have dh8:=e7.trans h8;have dh10:=ne_of_beq_false (e9.trans h10);rw [← hr];unfold fitA;simp_all)
    rw [r0];exact h
  ·
   intro hc
   refine Fun.fin (r:=.o (.c (pV (.bool false)))) (zc (hc)) (fun v W D h=>?_)
   have r0:r=false:=by
    (have dh6:=e5.trans h6;have dh8:=e7.trans h8;rw [← hr];unfold fitA;simp_all)
   rw [r0];exact h
 ·
  intro hc
  refine Fun.fin (r:=.o (.c (pV (.bool false)))) (zc (hc)) (fun v W D h=>?_)
  have r0:r=false:=by
   (have dh6:=e5.trans h6;rw [← hr];unfold fitA;simp_all)
  rw [r0];exact h
def isIf (P:Program) (T:TypeId):Bool:=match P.underlying T with
 | some (.interface _)=>true
 | _=>false
def zlQ (P:Program) (T:TypeId):Bool:=match P.underlying T with
 | some (.struct _)=>true
 | some (.int _)=>true
 | _=>false
section
variable {K:Kit} {P:Program} {F:Fact}
theorem zrP {T:TypeId} {W:World} {v:Value} (h:zlQ P T=true):(Instr.makeInterface T v).run P W=.ok (.iface T v) W:=by
 unfold zlQ at h
 unfold Instr.makeInterface
 rw [Sem.run_bind]
 split at h
 ·rename_i fs hu;rw [zW hu];rfl
 ·rename_i k hu;rw [zW hu];rfl
 ·cases h
theorem zlN {β:Loc} {W:World}:∀{ls:List Lf} {us:List Value},giv F ls us→oks F β ls us W
 | [],[],_=>trivial
 | _::_,u::_,h=>⟨(h.1 β u W).2 rfl,zlN h.2⟩
 | [],_::_,h=>h.elim
 | _::_,[],h=>h.elim
theorem e_mi {T:TypeId} {ls:List Lf} {o:Lf} {us:List Value} (hT:zlQ P T=true) (hx:giv F ls us) (ho:Gives F o (.iface T (.agg us.toArray))):Ent.sound K P F (.op (.mi T) [.o (.g ls)] [] (LF o)):=by
 intro β W vs hs _ _
 match vs,hs with
 | [v],h =>
  obtain ⟨⟨xs,rfl,h1⟩,_⟩:=h
  obtain rfl:=zkp (fun v h=>zck hx h) h1
  exact ⟨_,zrP hT,(ho β _ W).2 rfl⟩
 | [],h=>exact h.elim
 | _::_::_,h=>exact h.2.elim
theorem e_inv {x:Lf} {T:TypeId} {ls:List Lf} {us:List Value} {c:Con} (hc:c.sound K P F) (hx:Gives F x (.iface T (.agg us.toArray))) (hl:giv F ls us):Ent.sound K P F (.inv x T (.o (.g ls)) c):=
 ⟨hc,fun β W v h=>⟨.agg us.toArray,(hx β v W).1 h,us.toArray,rfl,by simpa using zlN hl⟩⟩
theorem zqe {T:TypeId} {W:World} {v:Value} {U:TypeId} (h:isIf P T=true):(Op.equal T (.iface U v) .nilIface).run P W=.ok false W:=by
 unfold isIf at h
 unfold Op.equal Op.maxDepth Op.equalIn
 rw [Sem.run_bind]
 split at h
 ·rename_i fs hu;rw [zW hu];rfl
 ·cases h
theorem ziQ {T:TypeId} {W:World} (h:isIf P T=true):(Op.equal T .nilIface .nilIface).run P W=.ok true W:=by
 unfold isIf at h
 unfold Op.equal Op.maxDepth Op.equalIn
 rw [Sem.run_bind]
 split at h
 ·rename_i fs hu;rw [zW hu];rfl
 ·cases h
theorem e_ifn {T:TypeId} {x:Lf} {U:TypeId} {u:Value} (hT:isIf P T=true) (hx:Gives F x (.iface U u)):Ent.sound K P F (.bic .eql T (LF x) .nilIface (LF (.k (.bool false)))):=by
 intro β W v h
 obtain rfl:=(hx β v W).1 h
 refine ⟨.bool false,fun X=>?_,rfl⟩
 simp only [eqGuard,binOp,Sem.run_bind,Sem.run_pure,zqe hT]
 rfl
theorem zo8 {T:TypeId} (hT:isIf P T=true):Ent.sound K P F (.bic .eql T (LF (.k .nilIface)) .nilIface (LF (.k (.bool true)))):=by
 intro β W v h
 obtain rfl:v=.nilIface:=h
 refine ⟨.bool true,fun X=>?_,rfl⟩
 simp only [eqGuard,binOp,Sem.run_bind,Sem.run_pure,ziQ hT]
 simp [Sem.run_pure,ziQ hT]
end
theorem zq7 {w0:World} (m:Mov) (v1:Bool) (e1:((m.1 == (1:Int)))=v1) (h2:v1=true):Fun (KN w0) Tryz.prog 77 [.o (.g [pI m.1,pI m.2.1.1,pI m.2.1.2.1,pI m.2.1.2.2,pI m.2.2.1.1,pI m.2.2.1.2.1,pI m.2.2.1.2.2,pI m.2.2.2.1.1,pI m.2.2.2.1.2.1,pI m.2.2.2.1.2.2,pI m.2.2.2.2])] (.o (.c (pV (.iface 169 (.agg (mcs m).toArray))))):=
 zc (zba (F:=FL [pI m.1,pI m.2.1.1,pI m.2.1.2.1,pI m.2.1.2.2,pI m.2.2.1.1,pI m.2.2.1.2.1,pI m.2.2.1.2.2,pI m.2.2.2.1.1,pI m.2.2.2.1.2.1,pI m.2.2.2.1.2.2,pI m.2.2.2.2,pB v1,pV (.iface 169 (.agg (mcs m).toArray))] []) (C:=[(1000004,.bin .eql 3 (yh 0) (LF (.k (.int .i64 1))) (yh 11)),
  (10011,.fb 11 true),
  (1000008,.op (.mi 169) [.o (.g [.h 0,.h 1,.h 2,.h 3,.h 4,.h 5,.h 6,.h 7,.h 8,.h 9,.h 10])] [] (yh 12))]) (k:=⟨77,[.o (.g [.h 0,.h 1,.h 2,.h 3,.h 4,.h 5,.h 6,.h 7,.h 8,.h 9,.h 10])],[],yh 12,[]⟩) 0 (zw ⟨zb,zb,zb,zb,zb,zb,zb,zb,zb,zb,zb,zb,zb,trivial⟩) ⟨e_bin (za rfl) zf (za rfl) (r_cmp (LO e1)),
  e_fbv h2,
  e_mi (us:=mcs m) (by kernel_rfl) ⟨(za rfl),(za rfl),(za rfl),(za rfl),(za rfl),(za rfl),(za rfl),(za rfl),(za rfl),(za rfl),(za rfl),trivial⟩ (za rfl),
  trivial⟩ mixed (by kernel_rfl))
theorem zq8 {w0:World} (m:Mov) (v1:Bool) (v3:Bool) (e1:((m.1 == (1:Int)))=v1) (e3:((m.1 == (2:Int)))=v3) (h2:v1=false) (h4:v3=true):Fun (KN w0) Tryz.prog 77 [.o (.g [pI m.1,pI m.2.1.1,pI m.2.1.2.1,pI m.2.1.2.2,pI m.2.2.1.1,pI m.2.2.1.2.1,pI m.2.2.1.2.2,pI m.2.2.2.1.1,pI m.2.2.2.1.2.1,pI m.2.2.2.1.2.2,pI m.2.2.2.2])] (.o (.c (pV (.iface 169 (.agg (mcs m).toArray))))):=
 zc (zba (F:=FL [pI m.1,pI m.2.1.1,pI m.2.1.2.1,pI m.2.1.2.2,pI m.2.2.1.1,pI m.2.2.1.2.1,pI m.2.2.1.2.2,pI m.2.2.2.1.1,pI m.2.2.2.1.2.1,pI m.2.2.2.1.2.2,pI m.2.2.2.2,pB v1,pB v3,pV (.iface 169 (.agg (mcs m).toArray))] []) (C:=[(1000004,.bin .eql 3 (yh 0) (LF (.k (.int .i64 1))) (yh 11)),
  (10011,.fb 11 false),
  (1000006,.bin .eql 3 (yh 0) (LF (.k (.int .i64 2))) (yh 12)),
  (10012,.fb 12 true),
  (1000010,.op (.mi 169) [.o (.g [.h 0,.h 1,.h 2,.h 3,.h 4,.h 5,.h 6,.h 7,.h 8,.h 9,.h 10])] [] (yh 13))]) (k:=⟨77,[.o (.g [.h 0,.h 1,.h 2,.h 3,.h 4,.h 5,.h 6,.h 7,.h 8,.h 9,.h 10])],[],yh 13,[]⟩) 0 (zw ⟨zb,zb,zb,zb,zb,zb,zb,zb,zb,zb,zb,zb,zb,zb,trivial⟩) ⟨e_bin (za rfl) zf (za rfl) (r_cmp (LO e1)),
  e_fbv h2,
  e_bin (za rfl) zf (za rfl) (r_cmp (LO e3)),
  e_fbv h4,
  e_mi (us:=mcs m) (by kernel_rfl) ⟨(za rfl),(za rfl),(za rfl),(za rfl),(za rfl),(za rfl),(za rfl),(za rfl),(za rfl),(za rfl),(za rfl),trivial⟩ (za rfl),
  trivial⟩ mixed (by kernel_rfl))
theorem zq9 {w0:World} (m:Mov) (v1:Bool) (v3:Bool) (v5:Bool) (e1:((m.1 == (1:Int)))=v1) (e3:((m.1 == (2:Int)))=v3) (e5:((m.1 == (3:Int)))=v5) (h2:v1=false) (h4:v3=false) (h6:v5=true):Fun (KN w0) Tryz.prog 77 [.o (.g [pI m.1,pI m.2.1.1,pI m.2.1.2.1,pI m.2.1.2.2,pI m.2.2.1.1,pI m.2.2.1.2.1,pI m.2.2.1.2.2,pI m.2.2.2.1.1,pI m.2.2.2.1.2.1,pI m.2.2.2.1.2.2,pI m.2.2.2.2])] (.o (.c (pV (.iface 170 (.agg (mcs m).toArray))))):=
 zc (zba (F:=FL [pI m.1,pI m.2.1.1,pI m.2.1.2.1,pI m.2.1.2.2,pI m.2.2.1.1,pI m.2.2.1.2.1,pI m.2.2.1.2.2,pI m.2.2.2.1.1,pI m.2.2.2.1.2.1,pI m.2.2.2.1.2.2,pI m.2.2.2.2,pB v1,pB v3,pB v5,pV (.iface 170 (.agg (mcs m).toArray))] []) (C:=[(1000004,.bin .eql 3 (yh 0) (LF (.k (.int .i64 1))) (yh 11)),
  (10011,.fb 11 false),
  (1000006,.bin .eql 3 (yh 0) (LF (.k (.int .i64 2))) (yh 12)),
  (10012,.fb 12 false),
  (1000008,.bin .eql 3 (yh 0) (LF (.k (.int .i64 3))) (yh 13)),
  (10013,.fb 13 true),
  (1000012,.op (.mi 170) [.o (.g [.h 0,.h 1,.h 2,.h 3,.h 4,.h 5,.h 6,.h 7,.h 8,.h 9,.h 10])] [] (yh 14))]) (k:=⟨77,[.o (.g [.h 0,.h 1,.h 2,.h 3,.h 4,.h 5,.h 6,.h 7,.h 8,.h 9,.h 10])],[],yh 14,[]⟩) 0 (zw ⟨zb,zb,zb,zb,zb,zb,zb,zb,zb,zb,zb,zb,zb,zb,zb,trivial⟩) ⟨e_bin (za rfl) zf (za rfl) (r_cmp (LO e1)),
  e_fbv h2,
  e_bin (za rfl) zf (za rfl) (r_cmp (LO e3)),
  e_fbv h4,
  e_bin (za rfl) zf (za rfl) (r_cmp (LO e5)),
  e_fbv h6,
  e_mi (us:=mcs m) (by kernel_rfl) ⟨(za rfl),(za rfl),(za rfl),(za rfl),(za rfl),(za rfl),(za rfl),(za rfl),(za rfl),(za rfl),(za rfl),trivial⟩ (za rfl),
  trivial⟩ mixed (by kernel_rfl))
theorem zra {w0:World} (m:Mov) (v1:Bool) (v3:Bool) (v5:Bool) (e1:((m.1 == (1:Int)))=v1) (e3:((m.1 == (2:Int)))=v3) (e5:((m.1 == (3:Int)))=v5) (h2:v1=false) (h4:v3=false) (h6:v5=false):Fun (KN w0) Tryz.prog 77 [.o (.g [pI m.1,pI m.2.1.1,pI m.2.1.2.1,pI m.2.1.2.2,pI m.2.2.1.1,pI m.2.2.1.2.1,pI m.2.2.1.2.2,pI m.2.2.2.1.1,pI m.2.2.2.1.2.1,pI m.2.2.2.1.2.2,pI m.2.2.2.2])] (.o (.c (pV (.nilIface)))):=
 zc (zba (F:=FL [pI m.1,pI m.2.1.1,pI m.2.1.2.1,pI m.2.1.2.2,pI m.2.2.1.1,pI m.2.2.1.2.1,pI m.2.2.1.2.2,pI m.2.2.2.1.1,pI m.2.2.2.1.2.1,pI m.2.2.2.1.2.2,pI m.2.2.2.2,pB v1,pB v3,pB v5] []) (C:=[(1000004,.bin .eql 3 (yh 0) (LF (.k (.int .i64 1))) (yh 11)),
  (10011,.fb 11 false),
  (1000006,.bin .eql 3 (yh 0) (LF (.k (.int .i64 2))) (yh 12)),
  (10012,.fb 12 false),
  (1000008,.bin .eql 3 (yh 0) (LF (.k (.int .i64 3))) (yh 13)),
  (10013,.fb 13 false)]) (k:=⟨77,[.o (.g [.h 0,.h 1,.h 2,.h 3,.h 4,.h 5,.h 6,.h 7,.h 8,.h 9,.h 10])],[],.o (.c (.k (.nilIface))),[]⟩) 0 (zw ⟨zb,zb,zb,zb,zb,zb,zb,zb,zb,zb,zb,zb,zb,zb,trivial⟩) ⟨e_bin (za rfl) zf (za rfl) (r_cmp (LO e1)),
  e_fbv h2,
  e_bin (za rfl) zf (za rfl) (r_cmp (LO e3)),
  e_fbv h4,
  e_bin (za rfl) zf (za rfl) (r_cmp (LO e5)),
  e_fbv h6,
  trivial⟩ mixed (by kernel_rfl))
theorem zpK {w0:World} (m:Mov) (h:strM m=true):Fun (KN w0) Tryz.prog 77 [.o (.g [pI m.1,pI m.2.1.1,pI m.2.1.2.1,pI m.2.1.2.2,pI m.2.2.1.1,pI m.2.2.1.2.1,pI m.2.2.1.2.2,pI m.2.2.2.1.1,pI m.2.2.2.1.2.1,pI m.2.2.2.1.2.2,pI m.2.2.2.2])] (.o (.c (pV (.iface 169 (.agg (mcs m).toArray))))):=by
 unfold strM at h
 cases h1:(m.1 == 1) with
 | true=>exact zq7 m true h1 rfl
 | false=>exact zq8 m false true h1 (by rw [h1,Bool.false_or] at h;exact h) rfl rfl
theorem zsr {w0:World} (m:Mov) (h:strM m=false) (h3:(m.1 == 3)=true):Fun (KN w0) Tryz.prog 77 [.o (.g [pI m.1,pI m.2.1.1,pI m.2.1.2.1,pI m.2.1.2.2,pI m.2.2.1.1,pI m.2.2.1.2.1,pI m.2.2.1.2.2,pI m.2.2.2.1.1,pI m.2.2.2.1.2.1,pI m.2.2.2.1.2.2,pI m.2.2.2.2])] (.o (.c (pV (.iface 170 (.agg (mcs m).toArray))))):=by
 unfold strM at h
 rw [Bool.or_eq_false_iff] at h
 exact zq9 m false false true h.1 h.2 h3 rfl rfl rfl
theorem zss {w0:World} (m:Mov) (h:strM m=false) (h3:(m.1 == 3)=false):Fun (KN w0) Tryz.prog 77 [.o (.g [pI m.1,pI m.2.1.1,pI m.2.1.2.1,pI m.2.1.2.2,pI m.2.2.1.1,pI m.2.2.1.2.1,pI m.2.2.1.2.2,pI m.2.2.2.1.1,pI m.2.2.2.1.2.1,pI m.2.2.2.1.2.2,pI m.2.2.2.2])] (.o (.c (pV .nilIface))):=by
 unfold strM at h
 rw [Bool.or_eq_false_iff] at h
 exact zra m false false false h.1 h.2 h3 rfl rfl rfl
def zqX:Tr:=.r (.s [(3,.call 77 [.o (.g [0,1,2,3,4,5,6,7,8,9,10])] (.o .c)),(9,.bin .eql 3 0 (kI 1))] (.b 12 (.s [(0,.raw [(1000013,.bic .eql 128 11 .nilIface (LF (.k (.bool false))))] 0),(17,.call 34 [.o (.g [1,2,3])] (.o .c)),(18,.un .not 13)] (.b 14 (.z (.ret false (LF (kI 3)) [])) (.s [(22,.call 34 [.o (.g [4,5,6])] (.o .c)),(23,.un .not 15)] (.b 16 (.z (.ret false (LF (kI 3)) [])) (.s [(28,.call 34 [.o (.g [7,8,9])] (.o .c)),(29,.un .not 17)] (.b 18 (.z (.ret false (LF (kI 3)) [])) (.s [(35,.bin .lss 3 10 (kI 0))] (.b 19 (.z (.ret false (LF (kI 3)) [])) (.s [(41,.bin .gtr 3 10 (kI 0))] (.b 20 (.z (.ret false (LF (kI 3)) [])) (.s [(0,.raw [(1000045,.inv (.h 11) 169 (.o (.g [21,22,23,24,25,26,27,28,29,30,31])) ⟨190,[.o (.g [21,22,23,24,25,26,27,28,29,30,31])],[],32,[]⟩)] 12),(46,.un .not 32)] (.b 33 (.z (.ret false (LF (kI 16)) [])) (.z (.ret false (LF (kI 0)) [])))))))))))))) (.s [(0,.raw [(1000011,.bic .eql 128 11 .nilIface (LF (.k (.bool false))))] 0),(15,.call 34 [.o (.g [1,2,3])] (.o .c)),(16,.un .not 13)] (.b 14 (.z (.ret false (LF (kI 3)) [])) (.s [(20,.call 34 [.o (.g [4,5,6])] (.o .c)),(21,.un .not 15)] (.b 16 (.z (.ret false (LF (kI 3)) [])) (.s [(26,.call 34 [.o (.g [7,8,9])] (.o .c)),(27,.un .not 17)] (.b 18 (.z (.ret false (LF (kI 3)) [])) (.s [(33,.bin .lss 3 10 (kI 1))] (.b 19 (.z (.ret false (LF (kI 3)) [])) (.s [(39,.bin .gtr 3 10 (kI 100))] (.b 20 (.z (.ret false (LF (kI 3)) [])) (.s [(0,.raw [(1000043,.inv (.h 11) 169 (.o (.g [21,22,23,24,25,26,27,28,29,30,31])) ⟨190,[.o (.g [21,22,23,24,25,26,27,28,29,30,31])],[],32,[]⟩)] 12),(44,.un .not 32)] (.b 33 (.z (.ret false (LF (kI 16)) [])) (.z (.ret false (LF (kI 0)) [])))))))))))))))) (.r (.s [(3,.call 77 [.o (.g [0,1,2,3,4,5,6,7,8,9,10])] (.o .c)),(9,.bin .eql 3 0 (kI 1))] (.b 12 (.s [(0,.raw [(1000013,.bic .eql 128 11 .nilIface (LF (.k (.bool false))))] 0),(17,.call 34 [.o (.g [1,2,3])] (.o .c)),(18,.un .not 13)] (.b 14 (.z (.ret false (LF (kI 3)) [])) (.s [(22,.call 34 [.o (.g [4,5,6])] (.o .c)),(23,.un .not 15)] (.b 16 (.z (.ret false (LF (kI 3)) [])) (.s [(28,.call 34 [.o (.g [7,8,9])] (.o .c)),(29,.un .not 17)] (.b 18 (.z (.ret false (LF (kI 3)) [])) (.s [(35,.bin .lss 3 10 (kI 0))] (.b 19 (.z (.ret false (LF (kI 3)) [])) (.s [(41,.bin .gtr 3 10 (kI 0))] (.b 20 (.z (.ret false (LF (kI 3)) [])) (.s [(0,.raw [(1000045,.inv (.h 11) 170 (.o (.g [21,22,23,24,25,26,27,28,29,30,31])) ⟨196,[.o (.g [21,22,23,24,25,26,27,28,29,30,31])],[],32,[]⟩)] 12),(46,.un .not 32)] (.b 33 (.z (.ret false (LF (kI 16)) [])) (.z (.ret false (LF (kI 0)) [])))))))))))))) (.s [(0,.raw [(1000011,.bic .eql 128 11 .nilIface (LF (.k (.bool false))))] 0),(15,.call 34 [.o (.g [1,2,3])] (.o .c)),(16,.un .not 13)] (.b 14 (.z (.ret false (LF (kI 3)) [])) (.s [(20,.call 34 [.o (.g [4,5,6])] (.o .c)),(21,.un .not 15)] (.b 16 (.z (.ret false (LF (kI 3)) [])) (.s [(26,.call 34 [.o (.g [7,8,9])] (.o .c)),(27,.un .not 17)] (.b 18 (.z (.ret false (LF (kI 3)) [])) (.s [(33,.bin .lss 3 10 (kI 1))] (.b 19 (.z (.ret false (LF (kI 3)) [])) (.s [(39,.bin .gtr 3 10 (kI 100))] (.b 20 (.z (.ret false (LF (kI 3)) [])) (.s [(0,.raw [(1000043,.inv (.h 11) 170 (.o (.g [21,22,23,24,25,26,27,28,29,30,31])) ⟨196,[.o (.g [21,22,23,24,25,26,27,28,29,30,31])],[],32,[]⟩)] 12),(44,.un .not 32)] (.b 33 (.z (.ret false (LF (kI 16)) [])) (.z (.ret false (LF (kI 0)) [])))))))))))))))) (.s [(0,.raw [(1000003,.call ⟨77,[.o (.g [0,1,2,3,4,5,6,7,8,9,10])],[],.o (.c (.k (.nilIface))),[]⟩)] 0),(9,.bin .eql 3 0 (kI 1))] (.b 11 (.s [(0,.raw [(1000013,.bic .eql 128 (LF (.k (.nilIface))) .nilIface (LF (.k (.bool true))))] 0)] (.z (.ret false (LF (kI 16)) []))) (.s [(0,.raw [(1000011,.bic .eql 128 (LF (.k (.nilIface))) .nilIface (LF (.k (.bool true))))] 0)] (.z (.ret false (LF (kI 16)) []))))))
theorem t_chk {w0:World} (m:Mov) (r:Int) (hr:chkM m=r):Fun (KN w0) Tryz.prog 66 [.o (.g [pI m.1,pI m.2.1.1,pI m.2.1.2.1,pI m.2.1.2.2,pI m.2.2.1.1,pI m.2.2.1.2.1,pI m.2.2.1.2.2,pI m.2.2.2.1.1,pI m.2.2.2.1.2.1,pI m.2.2.2.1.2.2,pI m.2.2.2.2])] (.o (.c (pI r))):=by
 refine tfn w0 66 ⟨[.o (.g [0,1,2,3,4,5,6,7,8,9,10])],[],[],0,0⟩ ⟨11,[sI m.2.2.2.2,sI m.2.2.2.1.2.2,sI m.2.2.2.1.2.1,sI m.2.2.2.1.1,sI m.2.2.1.2.2,sI m.2.2.1.2.1,sI m.2.2.1.1,sI m.2.1.2.2,sI m.2.1.2.1,sI m.2.1.1,sI m.1],[],[]⟩ zqX (by kernel_rfl) ?_
 cases h1:strM m with
 | true =>
  refine Or.inl ?_
  refine cx (.o (.c (.v (.iface 169 (.agg (mcs m).toArray))))) (zpK m h1) rfl ?_
  intro v2 e2
  refine ai (fun h3=>?_) fun h3=>?_
  ·
   refine rx [] [] [] (fun t u w=>⟨e_ifn (by kernel_rfl) (za rfl),trivial⟩) ?_
   obtain ⟨v4,e4⟩:=LX (inV m.2.1)
   refine cx (.o (.c (sB v4))) (t_in m.2.1 v4 e4) rfl ?_
   intro v5 e5
   refine ai (fun h6=>?_) fun h6=>?_
   ·
    intro hc
    refine Fun.fin (r:=.o (.c (pV (.int .i64 3)))) (zc (hc)) (fun v W D h=>?_)
    have r0:r=(3:Int):=by
     (have dh3:=eq_of_beq (e2.trans h3);have dh6:=(Bool.not_eq_true' _).mp (e5.trans h6);rw [← hr];unfold chkM lowM highM;simp_all<;>omega)
    rw [r0];exact h
   ·
    obtain ⟨v7,e7⟩:=LX (inV m.2.2.1)
    refine cx (.o (.c (sB v7))) (t_in m.2.2.1 v7 e7) rfl ?_
    intro v8 e8
    refine ai (fun h9=>?_) fun h9=>?_
    ·
     intro hc
     refine Fun.fin (r:=.o (.c (pV (.int .i64 3)))) (zc (hc)) (fun v W D h=>?_)
     have r0:r=(3:Int):=by
      (have dh3:=eq_of_beq (e2.trans h3);have dh6:=(Bool.not_eq_false' _).mp (e5.trans h6);have dh9:=(Bool.not_eq_true' _).mp (e8.trans h9);rw [← hr];unfold chkM lowM highM;simp_all<;>omega)
     rw [r0];exact h
    ·
     obtain ⟨v10,e10⟩:=LX (inV m.2.2.2.1)
     refine cx (.o (.c (sB v10))) (t_in m.2.2.2.1 v10 e10) rfl ?_
     intro v11 e11
     refine ai (fun h12=>?_) fun h12=>?_
     ·
      intro hc
      refine Fun.fin (r:=.o (.c (pV (.int .i64 3)))) (zc (hc)) (fun v W D h=>?_)
      have r0:r=(3:Int):=by
       (have dh3:=eq_of_beq (e2.trans h3);have dh6:=(Bool.not_eq_false' _).mp (e5.trans h6);have dh9:=(Bool.not_eq_false' _).mp (e8.trans h9);have dh12:=(Bool.not_eq_true' _).mp (e11.trans h12);rw [← hr];unfold chkM lowM highM;simp_all<;>omega)
      rw [r0];exact h
     ·
      intro v13 e13
      refine ai (fun h14=>?_) fun h14=>?_
      ·
       intro hc
       refine Fun.fin (r:=.o (.c (pV (.int .i64 3)))) (zc (hc)) (fun v W D h=>?_)
       have r0:r=(3:Int):=by
        (have dh3:=eq_of_beq (e2.trans h3);have dh6:=(Bool.not_eq_false' _).mp (e5.trans h6);have dh9:=(Bool.not_eq_false' _).mp (e8.trans h9);have dh12:=(Bool.not_eq_false' _).mp (e11.trans h12);have dh14:=LD e13 h14;rw [← hr];unfold chkM lowM highM;simp_all<;>omega)
       rw [r0];exact h
      ·
       intro v15 e15
       refine ai (fun h16=>?_) fun h16=>?_
       ·
        intro hc
        refine Fun.fin (r:=.o (.c (pV (.int .i64 3)))) (zc (hc)) (fun v W D h=>?_)
        have r0:r=(3:Int):=by
         (have dh3:=eq_of_beq (e2.trans h3);have dh6:=(Bool.not_eq_false' _).mp (e5.trans h6);have dh9:=(Bool.not_eq_false' _).mp (e8.trans h9);have dh12:=(Bool.not_eq_false' _).mp (e11.trans h12);have dh14:=LE e13 h14;have dh16:=LD e15 h16;rw [← hr];unfold chkM lowM highM;simp_all<;>omega)
        rw [r0];exact h
       ·
        obtain ⟨v17,e17⟩:=LX (fitS m)
        refine rx [sI m.1,sI m.2.1.1,sI m.2.1.2.1,sI m.2.1.2.2,sI m.2.2.1.1,sI m.2.2.1.2.1,sI m.2.2.1.2.2,sI m.2.2.2.1.1,sI m.2.2.2.1.2.1,sI m.2.2.2.1.2.2,sI m.2.2.2.2,sB v17] [] [] (fun t u w=>⟨e_inv (us:=mcs m) (zE (zpH m v17 e17)) (za rfl) ⟨za rfl,za rfl,za rfl,za rfl,za rfl,za rfl,za rfl,za rfl,za rfl,za rfl,za rfl,trivial⟩,trivial⟩) ?_
        intro v18 e18
        refine ai (fun h19=>?_) fun h19=>?_
        ·
         intro hc
         refine Fun.fin (r:=.o (.c (pV (.int .i64 16)))) (zc (hc)) (fun v W D h=>?_)
         have r0:r=(16:Int):=by
          (have dh3:=eq_of_beq (e2.trans h3);have dh6:=(Bool.not_eq_false' _).mp (e5.trans h6);have dh9:=(Bool.not_eq_false' _).mp (e8.trans h9);have dh12:=(Bool.not_eq_false' _).mp (e11.trans h12);have dh14:=LE e13 h14;have dh16:=LE e15 h16;have dh19:=(Bool.not_eq_true' _).mp (e18.trans h19);rw [← hr];unfold chkM lowM highM;simp_all<;>omega)
         rw [r0];exact h
        ·
         intro hc
         refine Fun.fin (r:=.o (.c (pV (.int .i64 0)))) (zc (hc)) (fun v W D h=>?_)
         have r0:r=(0:Int):=by
          (have dh3:=eq_of_beq (e2.trans h3);have dh6:=(Bool.not_eq_false' _).mp (e5.trans h6);have dh9:=(Bool.not_eq_false' _).mp (e8.trans h9);have dh12:=(Bool.not_eq_false' _).mp (e11.trans h12);have dh14:=LE e13 h14;have dh16:=LE e15 h16;have dh19:=(Bool.not_eq_false' _).mp (e18.trans h19);rw [← hr];unfold chkM lowM highM;simp_all<;>omega)
         rw [r0];exact h
  ·
   refine rx [] [] [] (fun t u w=>⟨e_ifn (by kernel_rfl) (za rfl),trivial⟩) ?_
   obtain ⟨v4,e4⟩:=LX (inV m.2.1)
   refine cx (.o (.c (sB v4))) (t_in m.2.1 v4 e4) rfl ?_
   intro v5 e5
   refine ai (fun h6=>?_) fun h6=>?_
   ·
    intro hc
    refine Fun.fin (r:=.o (.c (pV (.int .i64 3)))) (zc (hc)) (fun v W D h=>?_)
    have r0:r=(3:Int):=by
     (have dh3:=ne_of_beq_false (e2.trans h3);have dh6:=(Bool.not_eq_true' _).mp (e5.trans h6);rw [← hr];unfold chkM lowM highM;simp_all<;>omega)
    rw [r0];exact h
   ·
    obtain ⟨v7,e7⟩:=LX (inV m.2.2.1)
    refine cx (.o (.c (sB v7))) (t_in m.2.2.1 v7 e7) rfl ?_
    intro v8 e8
    refine ai (fun h9=>?_) fun h9=>?_
    ·
     intro hc
     refine Fun.fin (r:=.o (.c (pV (.int .i64 3)))) (zc (hc)) (fun v W D h=>?_)
     have r0:r=(3:Int):=by
      (have dh3:=ne_of_beq_false (e2.trans h3);have dh6:=(Bool.not_eq_false' _).mp (e5.trans h6);have dh9:=(Bool.not_eq_true' _).mp (e8.trans h9);rw [← hr];unfold chkM lowM highM;simp_all<;>omega)
     rw [r0];exact h
    ·
     obtain ⟨v10,e10⟩:=LX (inV m.2.2.2.1)
     refine cx (.o (.c (sB v10))) (t_in m.2.2.2.1 v10 e10) rfl ?_
     intro v11 e11
     refine ai (fun h12=>?_) fun h12=>?_
     ·
      intro hc
      refine Fun.fin (r:=.o (.c (pV (.int .i64 3)))) (zc (hc)) (fun v W D h=>?_)
      have r0:r=(3:Int):=by
       (have dh3:=ne_of_beq_false (e2.trans h3);have dh6:=(Bool.not_eq_false' _).mp (e5.trans h6);have dh9:=(Bool.not_eq_false' _).mp (e8.trans h9);have dh12:=(Bool.not_eq_true' _).mp (e11.trans h12);rw [← hr];unfold chkM lowM highM;simp_all<;>omega)
      rw [r0];exact h
     ·
      intro v13 e13
      refine ai (fun h14=>?_) fun h14=>?_
      ·
       intro hc
       refine Fun.fin (r:=.o (.c (pV (.int .i64 3)))) (zc (hc)) (fun v W D h=>?_)
       have r0:r=(3:Int):=by
        (have dh3:=ne_of_beq_false (e2.trans h3);have dh6:=(Bool.not_eq_false' _).mp (e5.trans h6);have dh9:=(Bool.not_eq_false' _).mp (e8.trans h9);have dh12:=(Bool.not_eq_false' _).mp (e11.trans h12);have dh14:=LD e13 h14;rw [← hr];unfold chkM lowM highM;simp_all<;>omega)
       rw [r0];exact h
      ·
       intro v15 e15
       refine ai (fun h16=>?_) fun h16=>?_
       ·
        intro hc
        refine Fun.fin (r:=.o (.c (pV (.int .i64 3)))) (zc (hc)) (fun v W D h=>?_)
        have r0:r=(3:Int):=by
         (have dh3:=ne_of_beq_false (e2.trans h3);have dh6:=(Bool.not_eq_false' _).mp (e5.trans h6);have dh9:=(Bool.not_eq_false' _).mp (e8.trans h9);have dh12:=(Bool.not_eq_false' _).mp (e11.trans h12);have dh14:=LE e13 h14;have dh16:=LD e15 h16;rw [← hr];unfold chkM lowM highM;simp_all<;>omega)
        rw [r0];exact h
       ·
        obtain ⟨v17,e17⟩:=LX (fitS m)
        refine rx [sI m.1,sI m.2.1.1,sI m.2.1.2.1,sI m.2.1.2.2,sI m.2.2.1.1,sI m.2.2.1.2.1,sI m.2.2.1.2.2,sI m.2.2.2.1.1,sI m.2.2.2.1.2.1,sI m.2.2.2.1.2.2,sI m.2.2.2.2,sB v17] [] [] (fun t u w=>⟨e_inv (us:=mcs m) (zE (zpH m v17 e17)) (za rfl) ⟨za rfl,za rfl,za rfl,za rfl,za rfl,za rfl,za rfl,za rfl,za rfl,za rfl,za rfl,trivial⟩,trivial⟩) ?_
        intro v18 e18
        refine ai (fun h19=>?_) fun h19=>?_
        ·
         intro hc
         refine Fun.fin (r:=.o (.c (pV (.int .i64 16)))) (zc (hc)) (fun v W D h=>?_)
         have r0:r=(16:Int):=by
          (have dh3:=ne_of_beq_false (e2.trans h3);have dh6:=(Bool.not_eq_false' _).mp (e5.trans h6);have dh9:=(Bool.not_eq_false' _).mp (e8.trans h9);have dh12:=(Bool.not_eq_false' _).mp (e11.trans h12);have dh14:=LE e13 h14;have dh16:=LE e15 h16;have dh19:=(Bool.not_eq_true' _).mp (e18.trans h19);rw [← hr];unfold chkM lowM highM;simp_all<;>omega)
         rw [r0];exact h
        ·
         intro hc
         refine Fun.fin (r:=.o (.c (pV (.int .i64 0)))) (zc (hc)) (fun v W D h=>?_)
         have r0:r=(0:Int):=by
          (have dh3:=ne_of_beq_false (e2.trans h3);have dh6:=(Bool.not_eq_false' _).mp (e5.trans h6);have dh9:=(Bool.not_eq_false' _).mp (e8.trans h9);have dh12:=(Bool.not_eq_false' _).mp (e11.trans h12);have dh14:=LE e13 h14;have dh16:=LE e15 h16;have dh19:=(Bool.not_eq_false' _).mp (e18.trans h19);rw [← hr];unfold chkM lowM highM;simp_all<;>omega)
         rw [r0];exact h
 | false =>
  refine Or.inr ?_
  cases h2:(m.1 == 3) with
  | true =>
   refine Or.inl ?_
   refine cx (.o (.c (.v (.iface 170 (.agg (mcs m).toArray))))) (zsr m h1 h2) rfl ?_
   intro v3 e3
   refine ai (fun h4=>?_) fun h4=>?_
   ·
    refine rx [] [] [] (fun t u w=>⟨e_ifn (by kernel_rfl) (za rfl),trivial⟩) ?_
    obtain ⟨v5,e5⟩:=LX (inV m.2.1)
    refine cx (.o (.c (sB v5))) (t_in m.2.1 v5 e5) rfl ?_
    intro v6 e6
    refine ai (fun h7=>?_) fun h7=>?_
    ·
     intro hc
     refine Fun.fin (r:=.o (.c (pV (.int .i64 3)))) (zc (hc)) (fun v W D h=>?_)
     have r0:r=(3:Int):=by
      (have dh4:=eq_of_beq (e3.trans h4);have dh7:=(Bool.not_eq_true' _).mp (e6.trans h7);rw [← hr];unfold chkM lowM highM;simp_all<;>omega)
     rw [r0];exact h
    ·
     obtain ⟨v8,e8⟩:=LX (inV m.2.2.1)
     refine cx (.o (.c (sB v8))) (t_in m.2.2.1 v8 e8) rfl ?_
     intro v9 e9
     refine ai (fun h10=>?_) fun h10=>?_
     ·
      intro hc
      refine Fun.fin (r:=.o (.c (pV (.int .i64 3)))) (zc (hc)) (fun v W D h=>?_)
      have r0:r=(3:Int):=by
       (have dh4:=eq_of_beq (e3.trans h4);have dh7:=(Bool.not_eq_false' _).mp (e6.trans h7);have dh10:=(Bool.not_eq_true' _).mp (e9.trans h10);rw [← hr];unfold chkM lowM highM;simp_all<;>omega)
      rw [r0];exact h
     ·
      obtain ⟨v11,e11⟩:=LX (inV m.2.2.2.1)
      refine cx (.o (.c (sB v11))) (t_in m.2.2.2.1 v11 e11) rfl ?_
      intro v12 e12
      refine ai (fun h13=>?_) fun h13=>?_
      ·
       intro hc
       refine Fun.fin (r:=.o (.c (pV (.int .i64 3)))) (zc (hc)) (fun v W D h=>?_)
       have r0:r=(3:Int):=by
        (have dh4:=eq_of_beq (e3.trans h4);have dh7:=(Bool.not_eq_false' _).mp (e6.trans h7);have dh10:=(Bool.not_eq_false' _).mp (e9.trans h10);have dh13:=(Bool.not_eq_true' _).mp (e12.trans h13);rw [← hr];unfold chkM lowM highM;simp_all<;>omega)
       rw [r0];exact h
      ·
       intro v14 e14
       refine ai (fun h15=>?_) fun h15=>?_
       ·
        intro hc
        refine Fun.fin (r:=.o (.c (pV (.int .i64 3)))) (zc (hc)) (fun v W D h=>?_)
        have r0:r=(3:Int):=by
         (have dh4:=eq_of_beq (e3.trans h4);have dh7:=(Bool.not_eq_false' _).mp (e6.trans h7);have dh10:=(Bool.not_eq_false' _).mp (e9.trans h10);have dh13:=(Bool.not_eq_false' _).mp (e12.trans h13);have dh15:=LD e14 h15;rw [← hr];unfold chkM lowM highM;simp_all<;>omega)
        rw [r0];exact h
       ·
        intro v16 e16
        refine ai (fun h17=>?_) fun h17=>?_
        ·
         intro hc
         refine Fun.fin (r:=.o (.c (pV (.int .i64 3)))) (zc (hc)) (fun v W D h=>?_)
         have r0:r=(3:Int):=by
          (have dh4:=eq_of_beq (e3.trans h4);have dh7:=(Bool.not_eq_false' _).mp (e6.trans h7);have dh10:=(Bool.not_eq_false' _).mp (e9.trans h10);have dh13:=(Bool.not_eq_false' _).mp (e12.trans h13);have dh15:=LE e14 h15;have dh17:=LD e16 h17;rw [← hr];unfold chkM lowM highM;simp_all<;>omega)
         rw [r0];exact h
        ·
         obtain ⟨v18,e18⟩:=LX (fitA m)
         refine rx [sI m.1,sI m.2.1.1,sI m.2.1.2.1,sI m.2.1.2.2,sI m.2.2.1.1,sI m.2.2.1.2.1,sI m.2.2.1.2.2,sI m.2.2.2.1.1,sI m.2.2.2.1.2.1,sI m.2.2.2.1.2.2,sI m.2.2.2.2,sB v18] [] [] (fun t u w=>⟨e_inv (us:=mcs m) (zE (zpG m v18 e18)) (za rfl) ⟨za rfl,za rfl,za rfl,za rfl,za rfl,za rfl,za rfl,za rfl,za rfl,za rfl,za rfl,trivial⟩,trivial⟩) ?_
         intro v19 e19
         refine ai (fun h20=>?_) fun h20=>?_
         ·
          intro hc
          refine Fun.fin (r:=.o (.c (pV (.int .i64 16)))) (zc (hc)) (fun v W D h=>?_)
          have r0:r=(16:Int):=by
           (have dh4:=eq_of_beq (e3.trans h4);have dh7:=(Bool.not_eq_false' _).mp (e6.trans h7);have dh10:=(Bool.not_eq_false' _).mp (e9.trans h10);have dh13:=(Bool.not_eq_false' _).mp (e12.trans h13);have dh15:=LE e14 h15;have dh17:=LE e16 h17;have dh20:=(Bool.not_eq_true' _).mp (e19.trans h20);rw [← hr];unfold chkM lowM highM;simp_all<;>omega)
          rw [r0];exact h
         ·
          intro hc
          refine Fun.fin (r:=.o (.c (pV (.int .i64 0)))) (zc (hc)) (fun v W D h=>?_)
          have r0:r=(0:Int):=by
           (have dh4:=eq_of_beq (e3.trans h4);have dh7:=(Bool.not_eq_false' _).mp (e6.trans h7);have dh10:=(Bool.not_eq_false' _).mp (e9.trans h10);have dh13:=(Bool.not_eq_false' _).mp (e12.trans h13);have dh15:=LE e14 h15;have dh17:=LE e16 h17;have dh20:=(Bool.not_eq_false' _).mp (e19.trans h20);rw [← hr];unfold chkM lowM highM;simp_all<;>omega)
          rw [r0];exact h
   ·
    refine rx [] [] [] (fun t u w=>⟨e_ifn (by kernel_rfl) (za rfl),trivial⟩) ?_
    obtain ⟨v5,e5⟩:=LX (inV m.2.1)
    refine cx (.o (.c (sB v5))) (t_in m.2.1 v5 e5) rfl ?_
    intro v6 e6
    refine ai (fun h7=>?_) fun h7=>?_
    ·
     intro hc
     refine Fun.fin (r:=.o (.c (pV (.int .i64 3)))) (zc (hc)) (fun v W D h=>?_)
     have r0:r=(3:Int):=by
      (have dh4:=ne_of_beq_false (e3.trans h4);have dh7:=(Bool.not_eq_true' _).mp (e6.trans h7);rw [← hr];unfold chkM lowM highM;simp_all<;>omega)
     rw [r0];exact h
    ·
     obtain ⟨v8,e8⟩:=LX (inV m.2.2.1)
     refine cx (.o (.c (sB v8))) (t_in m.2.2.1 v8 e8) rfl ?_
     intro v9 e9
     refine ai (fun h10=>?_) fun h10=>?_
     ·
      intro hc
      refine Fun.fin (r:=.o (.c (pV (.int .i64 3)))) (zc (hc)) (fun v W D h=>?_)
      have r0:r=(3:Int):=by
       (have dh4:=ne_of_beq_false (e3.trans h4);have dh7:=(Bool.not_eq_false' _).mp (e6.trans h7);have dh10:=(Bool.not_eq_true' _).mp (e9.trans h10);rw [← hr];unfold chkM lowM highM;simp_all<;>omega)
      rw [r0];exact h
     ·
      obtain ⟨v11,e11⟩:=LX (inV m.2.2.2.1)
      refine cx (.o (.c (sB v11))) (t_in m.2.2.2.1 v11 e11) rfl ?_
      intro v12 e12
      refine ai (fun h13=>?_) fun h13=>?_
      ·
       intro hc
       refine Fun.fin (r:=.o (.c (pV (.int .i64 3)))) (zc (hc)) (fun v W D h=>?_)
       have r0:r=(3:Int):=by
        (have dh4:=ne_of_beq_false (e3.trans h4);have dh7:=(Bool.not_eq_false' _).mp (e6.trans h7);have dh10:=(Bool.not_eq_false' _).mp (e9.trans h10);have dh13:=(Bool.not_eq_true' _).mp (e12.trans h13);rw [← hr];unfold chkM lowM highM;simp_all<;>omega)
       rw [r0];exact h
      ·
       intro v14 e14
       refine ai (fun h15=>?_) fun h15=>?_
       ·
        intro hc
        refine Fun.fin (r:=.o (.c (pV (.int .i64 3)))) (zc (hc)) (fun v W D h=>?_)
        have r0:r=(3:Int):=by
         (have dh4:=ne_of_beq_false (e3.trans h4);have dh7:=(Bool.not_eq_false' _).mp (e6.trans h7);have dh10:=(Bool.not_eq_false' _).mp (e9.trans h10);have dh13:=(Bool.not_eq_false' _).mp (e12.trans h13);have dh15:=LD e14 h15;rw [← hr];unfold chkM lowM highM;simp_all<;>omega)
        rw [r0];exact h
       ·
        intro v16 e16
        refine ai (fun h17=>?_) fun h17=>?_
        ·
         intro hc
         refine Fun.fin (r:=.o (.c (pV (.int .i64 3)))) (zc (hc)) (fun v W D h=>?_)
         have r0:r=(3:Int):=by
          (have dh4:=ne_of_beq_false (e3.trans h4);have dh7:=(Bool.not_eq_false' _).mp (e6.trans h7);have dh10:=(Bool.not_eq_false' _).mp (e9.trans h10);have dh13:=(Bool.not_eq_false' _).mp (e12.trans h13);have dh15:=LE e14 h15;have dh17:=LD e16 h17;rw [← hr];unfold chkM lowM highM;simp_all<;>omega)
         rw [r0];exact h
        ·
         obtain ⟨v18,e18⟩:=LX (fitA m)
         refine rx [sI m.1,sI m.2.1.1,sI m.2.1.2.1,sI m.2.1.2.2,sI m.2.2.1.1,sI m.2.2.1.2.1,sI m.2.2.1.2.2,sI m.2.2.2.1.1,sI m.2.2.2.1.2.1,sI m.2.2.2.1.2.2,sI m.2.2.2.2,sB v18] [] [] (fun t u w=>⟨e_inv (us:=mcs m) (zE (zpG m v18 e18)) (za rfl) ⟨za rfl,za rfl,za rfl,za rfl,za rfl,za rfl,za rfl,za rfl,za rfl,za rfl,za rfl,trivial⟩,trivial⟩) ?_
         intro v19 e19
         refine ai (fun h20=>?_) fun h20=>?_
         ·
          intro hc
          refine Fun.fin (r:=.o (.c (pV (.int .i64 16)))) (zc (hc)) (fun v W D h=>?_)
          have r0:r=(16:Int):=by
           (have dh4:=ne_of_beq_false (e3.trans h4);have dh7:=(Bool.not_eq_false' _).mp (e6.trans h7);have dh10:=(Bool.not_eq_false' _).mp (e9.trans h10);have dh13:=(Bool.not_eq_false' _).mp (e12.trans h13);have dh15:=LE e14 h15;have dh17:=LE e16 h17;have dh20:=(Bool.not_eq_true' _).mp (e19.trans h20);rw [← hr];unfold chkM lowM highM;simp_all<;>omega)
          rw [r0];exact h
         ·
          intro hc
          refine Fun.fin (r:=.o (.c (pV (.int .i64 0)))) (zc (hc)) (fun v W D h=>?_)
          have r0:r=(0:Int):=by
           (have dh4:=ne_of_beq_false (e3.trans h4);have dh7:=(Bool.not_eq_false' _).mp (e6.trans h7);have dh10:=(Bool.not_eq_false' _).mp (e9.trans h10);have dh13:=(Bool.not_eq_false' _).mp (e12.trans h13);have dh15:=LE e14 h15;have dh17:=LE e16 h17;have dh20:=(Bool.not_eq_false' _).mp (e19.trans h20);rw [← hr];unfold chkM lowM highM;simp_all<;>omega)
          rw [r0];exact h
  | false =>
   refine Or.inr ?_
   refine rx [] [] [] (fun t u w=>⟨zE (zss m h1 h2),trivial⟩) ?_
   intro v3 e3
   refine ai (fun h4=>?_) fun h4=>?_
   ·
    refine rx [] [] [] (fun t u w=>⟨zo8 (by kernel_rfl),trivial⟩) ?_
    intro hc
    refine Fun.fin (r:=.o (.c (pV (.int .i64 16)))) (zc (hc)) (fun v W D h=>?_)
    have r0:r=(16:Int):=by
     (have dh4:=eq_of_beq (e3.trans h4);rw [← hr];unfold chkM lowM highM;simp_all<;>omega)
    rw [r0];exact h
   ·
    refine rx [] [] [] (fun t u w=>⟨zo8 (by kernel_rfl),trivial⟩) ?_
    intro hc
    refine Fun.fin (r:=.o (.c (pV (.int .i64 16)))) (zc (hc)) (fun v W D h=>?_)
    have r0:r=(16:Int):=by
     (have dh4:=ne_of_beq_false (e3.trans h4);rw [← hr];unfold chkM lowM highM;simp_all<;>omega)
    rw [r0];exact h
end Go.Proofs.YteimplkdcjapdaaGreatDoor
