/-
  Merged: PtG.
-/
import Derived.Test.YteimplkdcjapdaaGreatDoorPuP
import Derived.Maps.AppendAt
set_option linter.unusedSimpArgs false
set_option linter.unusedVariables false
set_option maxRecDepth 100000
set_option maxHeartbeats 2000000
namespace Go.Proofs.YteimplkdcjapdaaGreatDoor
open Go.RowKit
attribute [local go_sem] Oper.semAt_some
theorem zfP {W W':World} {row:Option Nat} {g:Nat} {o:Obj} (h:W.heap[g]?=some o) (hc:o.isCells=true) (hg:W.grownBy W' row) (hr:∀r,row=some r→∃o:Obj,W.heap[r]?=some o∧o.isCells=false):W'.heap[g]?=some o:=
 (grownBy_keeps_cells hg hr h hc).trans h
theorem zf3 {W:World} {base:Nat} {e:TypeId} {size:Nat} {v:Value} {k:Nat} {xs:List Value} (h:W.ownsRow base e size v k xs) {j:Nat} {o:Obj} (hj:W.heap[j]?=some o) (hno:∀cur,o≠.cells cur e (0,0)):v.ownBlock=none∨v.ownBlock≠some j:=by
 rcases h.2 with ⟨rfl,_⟩ | ⟨g,cap,cur,rfl,_,hgb,_⟩
 ·exact .inl rfl
 ·refine .inr fun e'=>?_
  have:g=j:=by simpa [Value.ownBlock] using e'
  subst this;rw [hgb] at hj;cases hj;exact hno cur rfl
theorem zjc {W W':World} {row:Option Nat} {base:Nat} {e:TypeId} {size:Nat} {v:Value} {k:Nat} {xs:List Value} (h:W.ownsRow base e size v k xs) (hg:W.grownBy W' row) (hr:∀r,row=some r→∃o:Obj,W.heap[r]?=some o∧o.isCells=false):W'.ownsRow base e size v k xs:=by
 refine h.kept hg ?_
 rcases h.2 with ⟨rfl,_⟩ | ⟨g,cap,cur,rfl,_,hgb,_⟩
 ·exact .inl rfl
 ·refine .inr fun e'=>?_
  obtain ⟨o,ho,hw⟩:=hr g (by simpa [Value.ownBlock] using e'.symm)
  rw [hgb] at ho;cases ho;cases hw
def ApI (w:World) (pre:List Vec) (W:World):Prop:=
 (∃v,W.heap[w.heap.size]?=some (.cells #[v] 35 (0,0))∧W.ownsRow w.heap.size 26 3 v pre.length (pre.flatMap vcs))∧Below w.heap.size w W
theorem zks (w:World):OwnFrom (w.heap.size+1) (ApI w):=fun s W W' row ⟨⟨v,h1,h2⟩,h3⟩ hg hr =>
 ⟨⟨v,zfP h1 rfl hg (fun r e=>(hr r e).2),zjc h2 hg (fun r e=>(hr r e).2)⟩,h3.grown hg h3.size (fun k e=>by have:=(hr k e).1;omega)⟩
def ApX (w:World) (sv:Value) (x:Vec) (a:Act) (W:World):Prop:=
 ∃q,a={ tmps:=#[.slice none 0 0,sv,.pointer (some ⟨w.heap.size,0,none⟩),undef,.slice none 0 0,.pointer (some ⟨q,0,none⟩),sv,vagg x,undef,undef,undef,undef,undef],defers:=[] }∧w.heap.size<q∧W.heap[q]?=some (.cells (vcs x).toArray 26 (0,0))
theorem zpY (w:World) (sv:Value) (x:Vec) (a:Act):OwnFrom (w.heap.size+1) (fun (_:Unit) W=>ApX w sv x a W):=fun s W W' row ⟨q,h1,h2,h3⟩ hg hr =>
 ⟨q,h1,h2,zfP h3 rfl hg (fun r e=>(hr r e).2)⟩
theorem zjA (w:World) (x:Vec) (t:TypeId):∀j u,(vcs x)[j]?=some u→(w.alloc (.cells (vcs x).toArray t)).cell? ((⟨w.heap.size,0,none⟩:Addr).add j)=some u:=by
 intro j u hj
 rw [qW,zq (heap_alloc_new w _)]
 simpa using hj
theorem infoV:(Tryz.prog.info? 26).map (fun i=>(i.zero,i.size,i.bytes))=some (some (.agg #[.int .i64 0,.int .i64 0,.int .i64 0]),3,24):=by kernel_rfl
theorem zfy (n:Nat) (hn:2≤n) (g:Nat) (lb:Array Value) (eg:∀args w,(callFunc g args).run Tryz.prog w=.ok (.enter g args) w) (w w00:World) (bs:List Nat) (hbs:∀b∈bs,b<w.heap.size) (S Sp:List Vec→Prop) (N:Nat) (hN:N≤1000000)
  (hseq:SeqStopsK Fence.wide (n - 1) Tryz.prog g lb (fun x=>#[vagg x]) (KpS w.heap.size bs) S Sp N w) :
  CallsIn Fence.wide n Tryz.prog 132 #[.slice none 0 0,.func (.func g) #[] lb] w fun e w'=>∃(v:Value) (ss:List Vec),e=.returned v∧S ss∧w'.ownsRow w.heap.size 26 3 v ss.length (ss.flatMap vcs)∧Below w.heap.size w w':=by
 obtain ⟨i0,hi,hz0,hz1,hz2⟩:=info_parts infoV
 refine callsIn_of_wp_marks Tryz.func132 rfl trivial ?_ rfl
 simp only [Tryz.ntmps132,List.size_toArray,List.length_cons,List.length_nil,Nat.reduceAdd,Nat.reduceSub,Array.replicate_succ,Array.replicate_zero,List.push_toArray,List.append_toArray,List.nil_append,List.cons_append]
 gi_wp2
 obtain ⟨W0,hW0⟩:∃W0,w.alloc (.cells #[.slice none 0 0] 35)=W0:=⟨_,rfl⟩
 have hs0:W0.heap.size=w.heap.size+1:=by rw [← hW0];simp
 have hv0:W0.heap[w.heap.size]?=some (.cells #[.slice none 0 0] 35 (0,0)):=by rw [← hW0];exact heap_alloc_new w _
 have hb0:Below w.heap.size w W0:=by rw [← hW0];exact (Below.refl _ w).alloc (Nat.le_refl _) _
 rw [hW0]
 clear hW0
 refine wpIn_rangeFunc_ownH rfl (by omega) (gf:=g) (lb:=lb) rfl trivial eg hseq kpS_t (fun W l o o' hl h hc hw=>?_) hb0 (fun _=>rfl) (ApI w) (fun _ _ _=>False) (hs0 ▸ zks w) (fun _ _ _ _ _ hs _ _=>hs) ⟨⟨_,hv0,⟨rfl,.inl ⟨rfl,rfl⟩⟩⟩,hb0⟩ (ApX w (.func (.func g) #[] lb)) (fun x a'=>hs0 ▸ zpY w _ x a') ?assign ?body ?done ?stop
 case assign =>
  intro l pre x W K hI hK
  have hB1:Below W.heap.size W (W.alloc (.cells (vcs x).toArray 26)):=(Below.refl _ W).alloc (Nat.le_refl _) _
  have hlt:=hI.2.size
  have hn1:(W.alloc (.cells (vcs x).toArray 26)).heap[W.heap.size]?=some (.cells (vcs x).toArray 26 (0,0)):=heap_alloc_new _ _
  have hgr:=zbc hB1
  have hI1:=zks w pre W _ none hI hgr (fun _ e=>by cases e)
  have hb1:w.heap.size<W.heap.size:=(Array.getElem?_eq_some_iff.1 hI.1.choose_spec.1).1
  have hK1:=hK _ _ ⟨hB1.size,fun k o _ h _=>(hB1.block k (Array.getElem?_eq_some_iff.1 h).1).trans h⟩ ⟨hB1.mono hlt,fun b hb=>hB1.block b (Nat.lt_of_lt_of_le (hbs b hb) hlt)⟩ hI1 ⟨W.heap.size,rfl,hb1,hn1⟩
  clear hI1 hn1 hB1 hgr
  unfold vagg vcs at *
  gi_wp2
  exact hK1
 case body =>
  rintro l pre x a' W hl ⟨r0,hr0⟩ ⟨⟨v,hv,hrow⟩,hBW⟩ ⟨q,rfl,hq,hqh⟩ hlen
  have c0:W.cell? ⟨w.heap.size,0,none⟩=some v:=by rw [zq hv];rfl
  have f0:W.frozen? ⟨w.heap.size,0,none⟩=false:=by simp [World.frozen?,hv]
  have q0:W.cell? ⟨q,0,none⟩=some (.int .i64 x.1):=by rw [zq hqh];rfl
  have q1:W.cell? ⟨q,1,none⟩=some (.int .i64 x.2.1):=by rw [zq hqh];rfl
  have q2:W.cell? ⟨q,2,none⟩=some (.int .i64 x.2.2):=by rw [zq hqh];rfl
  gi_wp2_with (first
   | (gi_at_builtin;refine wpListIn_append_own _ rfl _ _ 35 rfl w.heap.size 26 i0 (.agg #[.int .i64 0,.int .i64 0,.int .i64 0]) 3 24 Tryz.underlying35 hi hz0 hz1 hz2 rfl (by decide) v pre.length (pre.flatMap vcs) rfl (hrow.alloc _) ⟨W.heap.size,0,none⟩ 1 1 (vcs x) rfl rfl (zjA _ _ _) (by simp [vcs,Value.oneCell']) (by simp only [maxLen];omega) (by omega) (by have:=hBW.size;simp;omega) ?_;intro v' w3 hown' hg3 hnil3;have hne:some w.heap.size≠v.ownBlock:=(fun e=>(zf3 hrow hv (fun cur e=>by cases e)).elim (fun h=>by rw [h] at e;cases e) (fun h=>h e.symm));have hlt:=(Array.getElem?_eq_some_iff.1 hv).1;have hv3:w3.heap[w.heap.size]?=some (.cells #[v] 35 (0,0)):=(hg3.block _ (by simp;omega) hne).trans ((Below.heap_alloc _ _ _ hlt).trans hv);have c3:w3.cell? ⟨w.heap.size,0,none⟩=some v:=(by rw [zq hv3];rfl);have f3:w3.frozen? ⟨w.heap.size,0,none⟩=false:=(by simp [World.frozen?,hv3]);obtain ⟨g',cap',cur',rfl,hgb'⟩:=hown'.2.resolve_left (fun h=>absurd h.2 (by omega));simp only [Act.put,List.setIfInBounds_toArray,List.set_cons_succ,List.set_cons_zero]))
  have hr1:∀(j:Nat) (o:Obj),v.ownBlock=some j→(W.alloc (.cells (vcs x).toArray 26)).heap[j]?=some o→o.isCells=true:=fun j o hj ho=>by
   rcases (hrow.alloc (.cells (vcs x).toArray 26)).2 with ⟨rfl,_⟩ | ⟨g2,cp2,cu2,rfl,_,hg2,_⟩
   ·cases hj
   ·have:g2=j:=by simpa [Value.ownBlock] using hj
    subst this;rw [hg2] at ho;cases ho;rfl
  have k1:KeepsOthers W (w3.setCell ⟨w.heap.size,0,none⟩ (.slice (some ⟨g',0,none⟩) (pre.length+1) cap')):=((KeepsOthers.alloc _ _).trans (KeepsOthers.of_grownBy hg3 hr1)).trans (KeepsOthers.setCell _ _ _)
  have k2:Below w.heap.size w3 (w3.setCell ⟨w.heap.size,0,none⟩ (.slice (some ⟨g',0,none⟩) (pre.length+1) cap')):=(Below.refl w.heap.size w3).grown (grownBy_setCell' _ _ _) (by have:=hg3.size;simp at this;omega) (fun k e=>by cases e;exact Nat.le_refl _)
  have k3:Below w.heap.size W w3:=((Below.refl w.heap.size W).alloc (by omega) (.cells (vcs x).toArray 26)).grown hg3 (by simp;omega) (fun k e=>(hrow.lt k e).1)
  refine ⟨k1.from _,⟨k3.trans k2,fun b hb=>(k3.trans k2).block b (hbs b hb)⟩,⟨_,Boxed.set _ hv3,?_⟩,hBW.trans (k3.trans k2)⟩
  have:=hown'.kept (grownBy_setCell' w3 w.heap.size (.slice (some ⟨g',0,none⟩) (pre.length+1) cap')) (zf3 hown' hv3 (fun cur e=>by cases e))
  simpa using this
 case done =>
  rintro D ys W hD hS ⟨⟨v,hv,hrow⟩,hBW⟩ hK
  have c0:W.cell? ⟨w.heap.size,0,none⟩=some v:=by rw [zq hv];rfl
  gi_wp2
  have hgr:=grownBy_putObj' W D (.deferred none)
  have hDr:∀r,some D=some r→∃o:Obj,W.heap[r]?=some o∧o.isCells=false:=fun r e=>by cases e;exact ⟨_,hK,rfl⟩
  refine ⟨by simp,.inl ⟨_,_,rfl,run_takeDeferred hK,?_⟩⟩
  exact ⟨_,results_tmp rfl _ _ _,_,_,rfl,hS,zjc hrow hgr hDr,hBW.grown hgr hBW.size (fun k e=>by cases e;omega)⟩
 case stop =>
  rintro D c pre W _ _ h _
  exact h.elim
 ·have hs:w.heap.size<l:=by omega
  refine ⟨((Below.refl w.heap.size W).grown (grownBy_putObj' W l o') (by have:=(Array.getElem?_eq_some_iff.1 h).1;omega) (fun k e=>by cases e;omega)),?_⟩
  intro b hb
  have hb':=hbs b hb
  have hl':=(Array.getElem?_eq_some_iff.1 h).1
  exact (grownBy_putObj' W l o').block b (by omega) (fun e=>by injection e with e;omega)
end Go.Proofs.YteimplkdcjapdaaGreatDoor
