/-
  Merged: ExD.
-/
import Derived.Test.YtdkofaajcpcjkaaGreatDoorMTG
import Derived.Recover
import Derived.Defers
import Derived.Lib.BufferMore
set_option linter.unusedSimpArgs false
set_option linter.unusedVariables false
set_option maxRecDepth 100000
namespace Go.Proofs.YtdkofaajcpcjkaaGreatDoor
open Go.RowKit
def ALf.fin (K:Kit):ALf→Prop
 | .d x=>FineC K x
 | _=>True
def FinL (K:Kit):List ALf→Prop
 | []=>True
 | a::r=>a.fin K∧FinL K r
def FinX (K:Kit):List (TypeId×List ALf)→Prop
 | []=>True
 | x::r=>FinL K x.2∧FinX K r
section
variable {K:Kit} {qs:List Nat} {W W':World} {D D':Dat} {S:Nat→Prop} (hS:∀q,S q→Mlq K D W q) (hO:Oth S W W') (hD:∀q,D q→D' q)
include hS hO hD
theorem zc7:∀{ls:List ALf} {vs:List Value},FinL K ls→aokl qs ls vs W D→aokl qs ls vs W' D'
 | [],[],_,_=>trivial
 | ALf.d _::_,_::_,hf,h=>⟨hf.1.mv hS hO hD h.1,zc7 hf.2 h.2⟩
 | ALf.p _ _::_,_::_,hf,h=>⟨h.1,zc7 hf.2 h.2⟩
 | ALf.q _ _::_,_::_,hf,h=>⟨h.1,zc7 hf.2 h.2⟩
 | ALf.m _ _ _::_,_::_,hf,h=>⟨h.1,zc7 hf.2 h.2⟩
 | [],_::_,_,h=>h.elim
 | _::_,[],_,h=>h.elim
theorem zhN:∀{l:List (TypeId×List ALf)} {rs:List Nat},FinX K l→(∀q∈rs,¬ S q∧¬ D' q)→okX K qs l rs W D→okX K qs l rs W' D'
 | [],[],_,_,_=>trivial
 | x::xs,q::r,hf,hn,h=>by
  obtain ⟨⟨h1,h2,h3,us,h4,h5,h6⟩,h7⟩:=h
  have hq:=hn q (List.mem_cons_self ..)
  exact ⟨⟨h1,hq.2,h3,us,(hO.block q (Array.getElem?_eq_some_iff.1 h4).1 hq.1).trans h4,h5,zc7 hS hO hD hf.1 h6⟩,zhN hf.2 (fun p hp=>hn p (List.mem_cons_of_mem _ hp)) h7⟩
 | [],_::_,_,_,h=>h.elim
 | _::_,[],_,_,h=>h.elim
end
theorem zes {qs:List Nat} {W:World} {D:Dat}:∀{l:List (Nat×Nat)} {vs:List Value},apts qs l vs→aoka qs (l.map fun x=>.o (.c (.p x.1 x.2))) vs W D
 | [],[],_=>trivial
 | _::_,_::_,h=>⟨h.1,zes h.2⟩
 | [],_::_,h=>h.elim
 | _::_,[],h=>h.elim
theorem zd5 {W W':World} (h:Below W.heap.size W W'):Oth (fun _=>False) W W':=⟨h.os,h.tape,h.output,h.size,fun k hk _=>h.block k hk⟩
theorem zh8 (p:Addr) (w:World) :
  CallsD Tryz.prog 55 #[.pointer (some p)] .returning w fun e u' w'=>e=.returned (.tuple #[])∧u'=.returning∧w'=w:=by
 refine callsD_of_wpS Tryz.func55 rfl fun c₀ cs hu=>?_
 apply wpS_seq
 apply wpS_region
 simp [wpOpsS,go_sem,recoverD,hu,Tryz.ntmps55,Exit.thenS]
 refine wpS_of_wp ?_
 simp only [Array.replicate_succ,Array.replicate_zero,List.push_toArray,List.append_toArray,List.nil_append,List.cons_append,List.setIfInBounds_toArray,List.set_cons_succ,List.set_cons_zero]
 go_wp2
 cases c₀
 simp_all [bodyPostS,results,Tryz.results55]
theorem zjq (p:Nat) (k:Int) (older:List PanicEntry) (w:World) (hc:w.heap[p]?=some (.cells #[.int .i64 0] 44 (0,0))) :
  CallsD Tryz.prog 55 #[.pointer (some ⟨p,0,none⟩)] (.panicking ({ v:=.iface 44 (.int .i64 k),recovered:=false }::older)) w fun e u' w'=>e=.returned (.tuple #[])∧u'=.panicking ({ v:=.iface 44 (.int .i64 k),recovered:=true }::older)∧w'=w.setCell ⟨p,0,none⟩ (.int .i64 k):=by
 have hcell:w.cell? ⟨p,0,none⟩=some (.int .i64 0):=by rw [qz hc];rfl
 have hfr:w.frozen? ⟨p,0,none⟩=false:=by unfold World.frozen?;rw [hc];simp
 have hta:∀w:World,(Instr.typeAssert (.iface 44 (.int .i64 k)) 20 44 true).run Tryz.prog w=.ok (.tuple #[.int .i64 k,.bool true]) w:=fun w=>by kernel_rfl
 refine callsD_of_wpS Tryz.func55 rfl fun c₀ cs hu=>?_
 apply wpS_seq
 apply wpS_region
 simp [wpOpsS,go_sem,recoverD,hu,Tryz.ntmps55,Exit.thenS]
 refine wpS_of_wp ?_
 simp only [Array.replicate_succ,Array.replicate_zero,List.push_toArray,List.append_toArray,List.nil_append,List.cons_append,List.setIfInBounds_toArray,List.set_cons_succ,List.set_cons_zero]
 go_wp2
 cases c₀
 simp_all [bodyPostS,results,Tryz.results55]
theorem zfm {w0 W W1 W2 W3:World} {D D2:Dat} {qs:List Nat} {post:List (TypeId×List ALf)} (hN:W.heap.size ∉ qs) (hND:¬ D W.heap.size) (hfit:Fit (KN w0) W D) (hO1:Oth (fun _=>False) W W1) (hsz:W1.heap.size=W.heap.size+1) (hE:W2.heap[W.heap.size]?=some (.cells #[.int .i64 0] 44 (0,0)))
  (hO3:Oth (fun q=>q=W.heap.size) W2 W3) (hg:FinX (KN w0) post) (hpost:okX (KN w0) qs post qs W2 D2) (hk:KeptX qs W1 D W2 D2):okX (KN w0) qs post qs W3 D2∧KeptX qs W D W3 D2:=by
 have hND2:¬ D2 W.heap.size:=fun h=>by
  rcases hk.dn _ h with h | h
  ·exact hND h
  ·rw [hsz] at h;omega
 refine ⟨zhN (S:=fun q=>q=W.heap.size) (fun q hq=>?_) hO3 (fun _ h=>h) hg (fun q hq=>⟨fun h=>hN (h ▸ hq),(zbc hpost q hq).2.1⟩) hpost,⟨?_,hk.dm,fun q hq=>?_,fun q hq=>Nat.lt_of_lt_of_le (hk.dlt q hq) hO3.size⟩⟩
 ·subst hq
  exact ⟨hfit.bel.size,hND2,_,hE,by rfl⟩
 ·have h1:Oth (fun q=>q∈qs) W W1:=⟨hO1.os,hO1.tape,hO1.output,hO1.size,fun k hk _=>hO1.block k hk fun h=>h⟩
  have h12:Oth (fun q=>q∈qs) W W2:=h1.trans hk.oth (fun q hq _=>hq)
  exact h12.trans hO3 fun q hq hlt=>by omega
 ·rcases hk.dn q hq with h | h
  ·exact .inl h
  ·exact .inr (by omega)
theorem zeA {w0:World} {g:FuncId} {caps:List (Nat×Nat)} {pre post:List (TypeId×List ALf)} (he:∀args w,(callFunc g args).run Tryz.prog w=.ok (.enter g args) w)
  (h:BFun false (KN w0) Tryz.prog g (caps.map fun x=>.o (.c (.p x.1 x.2))) pre (.t []) post) (hf:FinX (KN w0) pre) (hg:FinX (KN w0) post) :
  BFun false (KN w0) Tryz.prog 31 [.o (.c (.q g caps))] pre (.o (.c (.d (pV (.int .i64 0))))) post:=by
 intro W D vs qs hnd ha hpre hfit
 match vs,ha with
 | [v],⟨⟨cs,hv,hpts⟩,_⟩ =>
  subst hv
  have hmf:∀(fn:Fn) (first cap:Array Value) (w:World),(Instr.makeFunc fn first cap).run Tryz.prog w=.ok (.func fn first cap) w:=fun _ _ _ _=>rfl
  go_enter_defers Tryz.func31,Tryz.ntmps31
  go_wp2
  have hN:W.heap.size ∉ qs:=fun hm=>Nat.lt_irrefl _ (zbc hpre _ hm).2.2
  have hND:¬ D W.heap.size:=fun hm=>Nat.lt_irrefl _ (hfit.dlt _ hm)
  have hO1:Oth (fun _=>False) W (W.alloc (.cells #[.int .i64 0] 44)):=zd5 ((Below.refl _ W).alloc (Nat.le_refl _) _)
  have hsz:(W.alloc (.cells #[.int .i64 0] 44)).heap.size=W.heap.size+1:=by simp
  have hpre1:=zhN (K:=KN w0) (fun q h=>h.elim) hO1 (fun q h=>h) hf (fun q hq=>⟨fun h=>h,(zbc hpre q hq).2.1⟩) hpre
  refine (h _ D cs.toList qs hnd (zes hpts) hpre1 ⟨hfit.bel.trans ((hO1.below fun _ h=>h.elim).mono hfit.bel.size),fun q hq=>by rw [hsz];exact Nat.lt_succ_of_lt (hfit.dlt q hq),hfit.low⟩).mono ?_
  rintro e W2 ⟨v,D2,rfl,hv,hpost,hk⟩
  obtain ⟨vs2,rfl,hv2⟩:=hv
  have hE:W2.heap[W.heap.size]?=some (.cells #[.int .i64 0] 44 (0,0)):=by
   rw [hk.oth.block _ (by rw [hsz];exact Nat.lt_succ_self _) hN,World.alloc];simp
  have hcell:W2.cell? ⟨W.heap.size,0,none⟩=some (.int .i64 0):=by rw [qz hE];rfl
  have hfr:W2.frozen? ⟨W.heap.size,0,none⟩=false:=by unfold World.frozen?;rw [hE];simp
  simp only [endOf,Bool.false_eq_true,if_false]
  go_wp2
  refine leaves_cons (f:=55) (args:=#[.pointer (some ⟨W.heap.size,0,none⟩)]) (by simp) (by simp [go_sem]) ?_
  refine (zh8 ⟨W.heap.size,0,none⟩ _).mono ?_
  rintro e u' w'' ⟨rfl,rfl,rfl⟩
  have hE3:=Lib.heap_setCell_same (i:=0) hE (.int .i64 0)
  have hc3:(W2.setCell ⟨W.heap.size,0,none⟩ (.int .i64 0)).cell? ⟨W.heap.size,0,none⟩=some (.int .i64 0):=by rw [qz hE3];rfl
  have hO3:Oth (fun q=>q=W.heap.size) W2 (W2.setCell ⟨W.heap.size,0,none⟩ (.int .i64 0)):=⟨rfl,rfl,rfl,by simp [World.setCell],fun q hq hne=>heap_setCell_other _ _ _ _ hne⟩
  have fin:=zfm hN hND hfit hO1 hsz hE hO3 hg hpost hk
  simp [Leaves,settle,results,Tryz.results31,go_sem,hc3]
  exact ⟨_,rfl,D2,rfl,fin⟩
theorem zhv {w0:World} {g:FuncId} {caps:List (Nat×Nat)} {pre post:List (TypeId×List ALf)} (he:∀args w,(callFunc g args).run Tryz.prog w=.ok (.enter g args) w)
  (k:Int) (h:BFun true (KN w0) Tryz.prog g (caps.map fun x=>.o (.c (.p x.1 x.2))) pre (.o (.c (.d (pV (.iface 44 (.int .i64 k)))))) post) (hf:FinX (KN w0) pre) (hg:FinX (KN w0) post) :
  BFun false (KN w0) Tryz.prog 31 [.o (.c (.q g caps))] pre (.o (.c (.d (pV (.int .i64 k))))) post:=by
 intro W D vs qs hnd ha hpre hfit
 match vs,ha with
 | [v],⟨⟨cs,hv,hpts⟩,_⟩ =>
  subst hv
  have hmf:∀(fn:Fn) (first cap:Array Value) (w:World),(Instr.makeFunc fn first cap).run Tryz.prog w=.ok (.func fn first cap) w:=fun _ _ _ _=>rfl
  go_enter_defers Tryz.func31,Tryz.ntmps31
  go_wp2
  have hN:W.heap.size ∉ qs:=fun hm=>Nat.lt_irrefl _ (zbc hpre _ hm).2.2
  have hND:¬ D W.heap.size:=fun hm=>Nat.lt_irrefl _ (hfit.dlt _ hm)
  have hO1:Oth (fun _=>False) W (W.alloc (.cells #[.int .i64 0] 44)):=zd5 ((Below.refl _ W).alloc (Nat.le_refl _) _)
  have hsz:(W.alloc (.cells #[.int .i64 0] 44)).heap.size=W.heap.size+1:=by simp
  have hpre1:=zhN (K:=KN w0) (fun q h=>h.elim) hO1 (fun q h=>h) hf (fun q hq=>⟨fun h=>h,(zbc hpre q hq).2.1⟩) hpre
  refine (h _ D cs.toList qs hnd (zes hpts) hpre1 ⟨hfit.bel.trans ((hO1.below fun _ h=>h.elim).mono hfit.bel.size),fun q hq=>by rw [hsz];exact Nat.lt_succ_of_lt (hfit.dlt q hq),hfit.low⟩).mono ?_
  rintro e W2 ⟨v,D2,rfl,hv,hpost,hk⟩
  obtain rfl:v=.iface 44 (.int .i64 k):=hv
  have hE:W2.heap[W.heap.size]?=some (.cells #[.int .i64 0] 44 (0,0)):=by
   rw [hk.oth.block _ (by rw [hsz];exact Nat.lt_succ_self _) hN,World.alloc];simp
  have hcell:W2.cell? ⟨W.heap.size,0,none⟩=some (.int .i64 0):=by rw [qz hE];rfl
  have hfr:W2.frozen? ⟨W.heap.size,0,none⟩=false:=by unfold World.frozen?;rw [hE];simp
  simp only [endOf,if_true]
  refine leaves_cons (f:=55) (args:=#[.pointer (some ⟨W.heap.size,0,none⟩)]) (by simp) (by simp [go_sem]) ?_
  refine (zjq W.heap.size k _ _ hE).mono ?_
  rintro e u' w'' ⟨rfl,rfl,rfl⟩
  have hE3:=Lib.heap_setCell_same (i:=0) hE (.int .i64 k)
  have hc3:(W2.setCell ⟨W.heap.size,0,none⟩ (.int .i64 k)).cell? ⟨W.heap.size,0,none⟩=some (.int .i64 k):=by rw [qz hE3];rfl
  have hO3:Oth (fun q=>q=W.heap.size) W2 (W2.setCell ⟨W.heap.size,0,none⟩ (.int .i64 k)):=⟨rfl,rfl,rfl,by simp [World.setCell],fun q hq hne=>heap_setCell_other _ _ _ _ hne⟩
  have fin:=zfm hN hND hfit hO1 hsz hE hO3 hg hpost hk
  simp [Leaves,settle,results,Tryz.results31,go_sem,hc3]
  exact ⟨_,rfl,D2,rfl,fin⟩
end Go.Proofs.YtdkofaajcpcjkaaGreatDoor
