/-
  Merged: ExCur, ExOw, ExOc, ExOx, ExOy, ExT, ExOd.
-/
import Derived.Test.YtdkofaajcpcjkaaGreatDoorMTQ
import Derived.Test.YtdkofaajcpcjkaaGreatDoorMTO
set_option linter.unusedSimpArgs false
set_option linter.unusedVariables false
set_option maxRecDepth 100000
set_option maxHeartbeats 4000000
namespace Go.Proofs.YtdkofaajcpcjkaaGreatDoor
open Go.RowKit
def Node (W:World) (A off:Nat) (o n:Int) (v:Value):Prop:=∃cur:Array Value,W.heap[A]?=some (.cells cur 32 (0,0))∧cur[off]?=some (.int .i64 o)∧cur[off+1]?=some (.int .i64 n)∧cur[off+2]?=some v
def Chg (W W':World) (A off:Nat) (y:Xp) (u:Value):Prop:=∃cur cur':Array Value,W.heap[A]?=some (.cells cur 32 (0,0))∧W'.heap[A]?=some (.cells cur' 32 (0,0))∧cur'.size=cur.size∧(∀i,i<off∨off+3≤i→cur'[i]?=cur[i]?)∧cur'[off]?=some (.int .i64 y.op)∧cur'[off+1]?=some (.int .i64 y.n)∧cur'[off+2]?=some u
def RootIs (W:World) (D:Dat) (B:Nat) (t:Xp):Prop:=∃v,Node W B 0 t.op t.n v∧pLs cE t.l v W D
structure Cur (w0 W:World) (D:Dat) (P0:Nat→Prop) (B:Nat) (x:Xp) (ctx:Xp→Xp) (A off:Nat) (v:Value) (S C:List Nat):Prop where
 node:Node W A off x.op x.n v
 ck:∀cur,W.heap[A]?=some (.cells cur 32 (0,0))→cur.toList.all (KN W).ck=true
 sp:SpS W x.l v S
 inA:A∈C
 inB:B∈C
 dis:∀q∈S,q ∉ C
 new:∀q,q∈C∨q∈S→D q∧¬ P0 q∧w0.heap.size≤q
 lt:∀q∈C,q<W.heap.size
 hole:∀(W':World) (D':Dat) (y:Xp) (u:Value),(∀q∈C,q≠A→W'.heap[q]?=W.heap[q]?)→Chg W W' A off y u→pLs cE y.l u W' D'→(∀q∈C,D' q)→RootIs W' D' B (ctx y)
theorem Node.mv {W W':World} {A off:Nat} {o n:Int} {v:Value} (h:Node W A off o n v) (e:W'.heap[A]?=W.heap[A]?):Node W' A off o n v:=by
 obtain ⟨cur,h1,h2⟩:=h
 exact ⟨cur,e.trans h1,h2⟩
theorem Cur.mv {w0 W W1:World} {D D1:Dat} {P0:Nat→Prop} {B:Nat} {x:Xp} {ctx:Xp→Xp} {A off:Nat} {v:Value} {S C:List Nat} (h:Cur w0 W D P0 B x ctx A off v S C) (hb:∀q,q∈C∨q∈S→W1.heap[q]?=W.heap[q]?) (hD:∀q,D q→D1 q) (hs:W.heap.size≤W1.heap.size):Cur w0 W1 D1 P0 B x ctx A off v S C where
 node:=h.node.mv (hb A (.inl h.inA))
 ck:=fun cur hc=>h.ck cur ((hb A (.inl h.inA)).symm.trans hc)
 sp:=h.sp.mv fun q hq=>hb q (.inr hq)
 inA:=h.inA
 inB:=h.inB
 dis:=h.dis
 new:=fun q hq=>⟨hD q (h.new q hq).1,(h.new q hq).2⟩
 lt:=fun q hq=>Nat.lt_of_lt_of_le (h.lt q hq) hs
 hole:=fun W' D' y u h1 h2=>h.hole W' D' y u (fun q hq hne=>(h1 q hq hne).trans (hb q (.inl hq))) (by
  obtain ⟨cur,cur',e1,e2⟩:=h2
  exact ⟨cur,cur',(hb A (.inl h.inA)).symm.trans e1,e2⟩)
theorem Cur.down {w0 W:World} {D:Dat} {P0:Nat→Prop} {B:Nat} {x y:Xp} {ctx:Xp→Xp} {A off j:Nat} {v:Value} {S C:List Nat} (h:Cur w0 W D P0 B x ctx A off v S C) (hj:x.l[j]?=some y) :
  ∃q cap v2 S2 C2,v=.slice (some ⟨q,0,none⟩) x.l.length cap∧Cur w0 W D P0 B y (fun z=>ctx (.mk x.op x.n (x.l.set j z))) q (j*3) v2 S2 C2∧∀p∈C,p∈C2:=by
 have hsp:=h.sp
 obtain ⟨l,hl⟩:∃l,x.l=l:=⟨_,rfl⟩
 rw [hl] at hsp hj ⊢
 cases hsp with
 | nil=>cases hj
 | @cons _ q cap cur S1 hq h1 h2 h3 hk hn hc =>
  obtain ⟨v2,S2,g1,g2,g3,g4,g5⟩:=SpC.at_ hc hj
  have hjl:j<l.length:=(List.getElem?_eq_some_iff.1 hj).1
  have tk:∀i,i<l.length*3→(cur.toList.take (l.length*3))[i]?=cur[i]?:=fun i hi=>by rw [List.getElem?_take,if_pos hi,Array.getElem?_toList]
  rw [tk _ (by omega)] at g1
  rw [tk _ (by omega)] at g2
  have g3':=g3
  rw [tk _ (by omega)] at g3'
  have hqS:q∈q::S1:=List.mem_cons_self ..
  refine ⟨q,cap,v2,S2,C++q::S1.filter (fun p=>!S2.contains p),rfl,⟨⟨cur,hq,g1,g2,g3'⟩,fun c hc=>(by rw [hq] at hc;injection hc with hc;injection hc with hc;subst hc;exact hk),g4,by simp,List.mem_append_left _ h.inB,fun p hp hpc=>?_,fun p hp=>?_,fun p hp=>?_,fun W' D' z u k1 k2 k3 k4=>?_⟩,fun p hp=>List.mem_append_left _ hp⟩
  ·rcases List.mem_append.1 hpc with k | k
   ·exact h.dis p (List.mem_cons_of_mem _ (g5 p hp)) k
   ·rcases List.mem_cons.1 k with rfl | k
    ·exact hn (g5 _ hp)
    ·rw [List.mem_filter] at k
     simp [hp] at k
  ·rcases hp with hp | hp
   ·rcases List.mem_append.1 hp with k | k
    ·exact h.new p (.inl k)
    ·rcases List.mem_cons.1 k with rfl | k
     ·exact h.new _ (.inr hqS)
     ·exact h.new p (.inr (List.mem_cons_of_mem _ (List.mem_filter.1 k).1))
   ·exact h.new p (.inr (List.mem_cons_of_mem _ (g5 p hp)))
  ·rcases List.mem_append.1 hp with k | k
   ·exact h.lt p k
   ·have hlt:=(SpS.cons hq h1 h2 h3 hk hn hc).lt
    rcases List.mem_cons.1 k with rfl | k
    ·exact hlt _ hqS
    ·exact hlt p (List.mem_cons_of_mem _ (List.mem_filter.1 k).1)
  ·obtain ⟨c1,c2,e1,e2,e3,e4,e5,e6,e7⟩:=k2
   rw [hq] at e1
   injection e1 with e1;injection e1 with e1
   subst e1
   have hAq:A≠q:=fun e=>h.dis q hqS (e ▸ h.inA)
   have hA:=k1 A (List.mem_append_left _ h.inA) hAq
   obtain ⟨cA,a1,a2,a3,a4⟩:=h.node
   refine h.hole W' D' _ _ (fun p hp hne=>?_) ⟨cA,cA,a1,hA.trans a1,rfl,fun _ _=>rfl,a2,a3,a4⟩ ?_ fun p hp=>k4 p (List.mem_append_left _ hp)
   ·exact k1 p (List.mem_append_left _ hp) fun e=>h.dis q hqS (e ▸ hp)
   ·show pLs cE (l.set j z) (.slice (some ⟨q,0,none⟩) l.length cap) W' D'
    refine .inr ⟨q,0,cap,_,c2,(0,0),by rw [List.length_set],k4 q (List.mem_append_right _ (List.mem_cons_self ..)),e2,?_,by rw [List.length_set];exact h1⟩
    show okl ((l.set j z).flatMap cE) ((c2.toList.drop 0).take ((l.set j z).flatMap cE).length) W' D'
    rw [List.drop_zero,q6 zj,List.length_set]
    have hlen:(c2.toList.take (l.length*3)).length=l.length*3:=by rw [List.length_take];exact Nat.min_eq_left (by rw [show c2.toList.length=c2.size from Array.length_toList,e3,h3];exact Nat.mul_le_mul_right 3 h1)
    have tk2:∀i,i<l.length*3→(c2.toList.take (l.length*3))[i]?=c2[i]?:=fun i hi=>by rw [List.getElem?_take,if_pos hi,Array.getElem?_toList]
    refine SpC.set hc hj g3 g4 (fun p hp hnp=>⟨k1 p (List.mem_append_right _ (List.mem_cons_of_mem _ (List.mem_filter.2 ⟨hp,by simp [hnp]⟩))) fun e=>hn (e ▸ hp),k4 p (List.mem_append_right _ (List.mem_cons_of_mem _ (List.mem_filter.2 ⟨hp,by simp [hnp]⟩)))⟩) ?_ (fun i hi=>?_) ?_ ?_ ?_ k3
    ·rw [hlen,SpC.len hc]
    ·by_cases hil:i<l.length*3
     ·rw [tk2 i hil,tk i hil]
      exact e4 i (by omega)
     ·rw [List.getElem?_eq_none (by rw [hlen];omega),List.getElem?_eq_none (by rw [SpC.len hc];omega)]
    ·rw [tk2 _ (by omega)];exact e5
    ·rw [tk2 _ (by omega)];exact e6
    ·rw [tk2 _ (by omega)];exact e7
theorem Cur.root {w0 W:World} {D:Dat} {P0:Nat→Prop} {B:Nat} {x:Xp} {v:Value} {S:List Nat} (hk:(KN W).ck v=true) (h:W.heap[B]?=some (.cells #[.int .i64 x.op,.int .i64 x.n,v] 32 (0,0))) (hs:SpS W x.l v S) (hB:B ∉ S) (hn:∀q,q=B∨q∈S→D q∧¬ P0 q∧w0.heap.size≤q):Cur w0 W D P0 B x id B 0 v S [B] where
 node:=⟨_,h,rfl,rfl,rfl⟩
 ck:=fun c hc=>by
  rw [h] at hc;injection hc with hc;injection hc with hc;subst hc
  simp only [List.all_cons,List.all_nil,Bool.and_true,Bool.and_eq_true]
  exact ⟨rfl,rfl,hk⟩
 sp:=hs
 inA:=by simp
 inB:=by simp
 dis:=fun q hq hb=>hB (by rw [List.mem_singleton] at hb;exact hb ▸ hq)
 new:=fun q hq=>hn q (hq.imp (fun h=>by simpa using h) id)
 lt:=fun q hq=>by rw [List.mem_singleton] at hq;subst hq;exact (Array.getElem?_eq_some_iff.1 h).1
 hole:=fun W' D' y u _ h2 h3 _=>by
  obtain ⟨c1,c2,_,e2,_,_,e5,e6,e7⟩:=h2
  exact ⟨u,⟨c2,e2,e5,e6,e7⟩,h3⟩
end Go.Proofs.YtdkofaajcpcjkaaGreatDoor
namespace Go.Proofs.YtdkofaajcpcjkaaGreatDoor
open Go.RowKit
def NodeL (vs:List Value) (off:Nat) (o n:Int) (u:Value) (xs:List Value):Prop:=
 xs.length=vs.length∧off+3≤vs.length∧(∀i,i<off∨off+3≤i→xs[i]?=vs[i]?)∧xs[off]?=some (.int .i64 o)∧xs[off+1]?=some (.int .i64 n)∧xs[off+2]?=some u
def oN (A off:Nat) (vs:List Value) (o n:Int) (l:List Xp):OPred:=fun gs _ W D=>∃c1 c2 cur u,gs=[.slice (some ⟨A,0,none⟩) c1 c2]∧W.heap[A]?=some (.cells cur 32 (0,0))∧NodeL vs off o n u cur.toList∧pLs cE l u W D
def oA (A off:Nat) (vs:List Value) (o n:Int) (st:Bool):OPred:=fun gs rs W D=>∃c1 c2 cur u,gs=[.slice (some ⟨A,0,none⟩) c1 c2]∧W.heap[A]?=some (.cells cur 32 (0,0))∧NodeL vs off o n u cur.toList∧(st=true→rs=[u])
def oL (w0:World) (l:List Xp):OPred:=fun gs _ W D=>∃v xs,gs=[v]∧W.ownsRow w0.heap.size 32 3 v l.length xs∧pG cE l xs W D
def pHole (B A off:Nat) (vs:List Value) (ctx:Xp→Xp):Pred:=fun v W D=>v=.pointer (some ⟨B,0,none⟩)∧∃C:List Nat,B∈C∧(∀q∈C,q≠A→D q∧q<W.heap.size) ∧
 ∀(W':World) (D':Dat) (o n:Int) (l:List Xp) (u:Value) (cur:Array Value),(∀q∈C,q≠A→W'.heap[q]?=W.heap[q]?)→W'.heap[A]?=some (.cells cur 32 (0,0))→NodeL vs off o n u cur.toList→pLs cE l u W' D'→(∀q∈C,D' q)→RootIs W' D' B (ctx (.mk o n l))
theorem qn {w0:World} {A off:Nat} {vs:List Value} {o n:Int} {l:List Xp}:FineO (KN w0) (oN A off vs o n l):=by
 intro gs rs W W' D D' S hS hg hO hD ⟨c1,c2,cur,u,e,h1,h2,h3⟩
 refine ⟨c1,c2,cur,u,e,(hO.block A (Array.getElem?_eq_some_iff.1 h1).1 (hg _ (by rw [e];exact List.mem_cons_self ..) A rfl)).trans h1,h2,(ze (K:=KN w0) (zf rfl)).mv hS hO hD h3⟩
theorem zco {w0:World} {A off:Nat} {vs:List Value} {o n:Int} {st:Bool}:FineO (KN w0) (oA A off vs o n st):=by
 intro gs rs W W' D D' S hS hg hO hD ⟨c1,c2,cur,u,e,h1,h2,h3⟩
 exact ⟨c1,c2,cur,u,e,(hO.block A (Array.getElem?_eq_some_iff.1 h1).1 (hg _ (by rw [e];exact List.mem_cons_self ..) A rfl)).trans h1,h2,h3⟩
theorem zcp {w0:World} {l:List Xp}:FineO (KN w0) (oL w0 l):=by
 intro gs rs W W' D D' S hS hg hO hD ⟨v,xs,e,h1,h2⟩
 refine ⟨v,xs,e,⟨h1.1,h1.2.imp id ?_⟩,(qO (K:=KN w0) (zf rfl)).mv hS hO hD h2⟩
 rintro ⟨g,cap,c,hv,hb,hh,hr⟩
 exact ⟨g,cap,c,hv,hb,(hO.block g (Array.getElem?_eq_some_iff.1 hh).1 (hg v (by rw [e];simp) g (by rw [hv];rfl))).trans hh,hr⟩
theorem qy {w0:World} {B A off:Nat} {vs:List Value} {ctx:Xp→Xp}:FineC (KN w0) (pHole B A off vs ctx):=by
 refine ⟨fun {v W W' D D' S} hS hO hD h=>?_,fun h=>by rw [h.1];rfl⟩
 obtain ⟨e,C,hB,h1,h2⟩:=h
 refine ⟨e,C,hB,fun q hq hne=>⟨hD q (h1 q hq hne).1,Nat.lt_of_lt_of_le (h1 q hq hne).2 hO.size⟩,fun W2 D2 o n l u cur g1 g2 g3 g4 g5=>h2 W2 D2 o n l u cur (fun q hq hne=>(g1 q hq hne).trans (hO.block q (h1 q hq hne).2 fun hs=>(hS q hs).2.1 (h1 q hq hne).1)) g2 g3 g4 g5⟩
theorem NodeL.set {vs xs:List Value} {off i:Nat} {o n o' n':Int} {u u' w:Value} (h:NodeL vs off o n u xs) (h0:i<3) (h1:(i=0∧w=.int .i64 o'∧n'=n∧u'=u)∨(i=1∧w=.int .i64 n'∧o'=o∧u'=u)∨(i=2∧w=u'∧o'=o∧n'=n)):NodeL vs off o' n' u' (spl xs (off+i) [w]):=by
 obtain ⟨g1,g2,g3,g4,g5,g6⟩:=h
 have hl:(spl xs (off+i) [w]).length=xs.length:=zcD (by simp;omega)
 have hs:spl xs (off+i) [w]=xs.set (off+i) w:=by
  rw [spl,List.set_eq_take_append_cons_drop,if_pos (by omega)];rfl
 rw [hs]
 refine ⟨by rw [List.length_set];exact g1,g2,fun j hj=>?_,?_,?_,?_⟩
 ·rw [List.getElem?_set_ne (by omega)];exact g3 j hj
 all_goals rw [List.getElem?_set]
 ·rcases h1 with ⟨rfl,rfl,_,_⟩ | ⟨rfl,_,rfl,_⟩ | ⟨rfl,_,rfl,_⟩
  ·rw [if_pos (by omega),if_pos (by omega)]
  ·rw [if_neg (by omega)];exact g4
  ·rw [if_neg (by omega)];exact g4
 ·rcases h1 with ⟨rfl,_,rfl,_⟩ | ⟨rfl,rfl,_,_⟩ | ⟨rfl,_,_,rfl⟩
  ·rw [if_neg (by omega)];exact g5
  ·rw [if_pos (by omega),if_pos (by omega)]
  ·rw [if_neg (by omega)];exact g5
 ·rcases h1 with ⟨rfl,_,_,rfl⟩ | ⟨rfl,_,_,rfl⟩ | ⟨rfl,rfl,_,_⟩
  ·rw [if_neg (by omega)];exact g6
  ·rw [if_neg (by omega)];exact g6
  ·rw [if_pos (by omega),if_pos (by omega)]
section
variable {w0:World} {K:Kit} {P:Program} {F:Fact}
theorem e_ncF {b k:Nat}:Ent.sound K P F (.op .nc [LF (.pf b k)] [] (LF (.pf b k))):=by
 intro β W vs hs _ _
 match vs,hs with
 | [v],⟨h1,_⟩ =>
  obtain ⟨q,o,h2,rfl,h3⟩:=id h1
  exact ⟨_,by simp [Sig.sem],h1⟩
 | [],h=>exact h.elim
 | _::_::_,h=>exact h.2.elim
theorem e_faF {T:TypeId} {b k k' m i off d0:Nat} (hT:P.underlying T=some (.struct (zbv P T))) (hd:((zbv P T)[i]?).map (fun d=>(d.offset,szOf P d.type))=some (d0,some (m+1))) (hk:F.c k=pI (off:Int)) (ho:F.c k'=pI ((off+d0:Nat):Int)):Ent.sound K P F (.op (.fa T i) [LF (.pf b k)] [] (LF (.pf b k'))):=by
 obtain ⟨d,h1,h2⟩:=Option.map_eq_some_iff.1 hd
 injection h2 with h2 h3
 intro β W vs hs _ _
 match vs,hs with
 | [v],⟨g1,_⟩ =>
  obtain ⟨q,o,g2,rfl,g3⟩:=g1
  rw [hk] at g3
  have g3:Value.int .i64 (o:Int)=.int .i64 (off:Int):=g3
  have e:o=off:=by injection g3 with _ g3;omega
  subst e
  refine ⟨.pointer (some ⟨q,o+d0,none⟩),?_,q,o+d0,g2,rfl,?_⟩
  ·simp only [Sig.sem,Instr.fieldAt,Sem.run_bind,run_underlying hT,Result.andThen_ok,h1,Instr.sureAddr,Sem.run_pure,fieldPlace,qU h3]
   rw [if_neg (by omega),zan,h2];rfl
  ·rw [ho];rfl
 | [],h=>exact h.elim
 | _::_::_,h=>exact h.2.elim
theorem pf_at {β:Loc} {W:World} {b k off:Nat} {v:Value} (hk:F.c k=pI (off:Int)) (h:(LF (.pf b k)).ok F β v W):∃q,β b=some q∧v=.pointer (some ⟨q,off,none⟩):=by
 obtain ⟨q,o,g2,rfl,g3⟩:=h
 rw [hk] at g3
 have g3:Value.int .i64 (o:Int)=.int .i64 (off:Int):=g3
 have e:o=off:=by injection g3 with _ g3;omega
 subst e
 exact ⟨q,g2,rfl⟩
theorem znF {β:Loc} {b q:Nat} (h:β b=some q):gv β b=.slice (some ⟨q,0,none⟩) (β.len b).1 (β.len b).2:=by unfold gv;rw [h]
theorem za9 {β:Loc} {b q c1 c2:Nat} (h:gv β b=.slice (some ⟨q,0,none⟩) c1 c2):β b=some q:=by
 have:=zhG (β:=β) (b:=b)
 rw [h] at this;exact this.symm
theorem zfH {W:World} {T U:TypeId} {q i:Nat} {v:Value} {vs:Array Value} (hz:szOf P T=some 1) (hck:K.ck v=true) (hh:W.heap[q]?=some (.cells vs U (0,0))) (hl:i<vs.size):∃W',(Instr.storeAt T (.pointer (some ⟨q,i,none⟩)) v).run P W=.ok () W'∧Put q (.cells (spl vs.toList i [v]).toArray U (0,0)) W W':=by
 obtain ⟨W',hrun,hput⟩:=zcd (P:=P) (o:=i) [v] 0 W vs hh (by simp;omega) (fun u hu=>by rw [List.mem_singleton.1 hu];exact zhp hck)
 refine ⟨W',?_,hput⟩
 simp only [Instr.storeAt,Instr.sureAddr,Sem.run_bind,Sem.run_pure,Result.andThen_ok,storeVar,qU hz,zho hck]
 rw [if_neg (by simp)]
 exact hrun
end
section
variable {w0:World} {P:Program} {F:Fact} {A off:Nat} {vs:List Value} {o n:Int} {l:List Xp}
theorem e_ldN {T:TypeId} {b k m r:Nat} (hA:aggOf P T=some false) (hk:F.c k=pI ((off+2:Nat):Int)) (hn:F.o m=oN A off vs o n l) (hr:F.c r=pLs cE l):Ent.sound (KN w0) P F (.op (.ld T) [LF (.pf b k)] [.hp [b] [] m] (LF (.h r))):=by
 intro β W ws hs hp _
 match ws,hs with
 | [v],⟨g1,_⟩ =>
  obtain ⟨q,g2,rfl⟩:=pf_at hk g1
  have h:=(hp _ (List.mem_cons_self ..)).1
  rw [hn] at h
  obtain ⟨c1,c2,cur,u,e,h1,h2,h3⟩:=h
  have e1:gv β b=_:=(List.cons.inj e).1
  have e2:=za9 e1
  rw [g2] at e2;injection e2 with e2;subst e2
  refine ⟨u,?_,?_⟩
  ·have hcc:cur[off+2]?=some u:=by rw [← Array.getElem?_toList];exact h2.2.2.2.2.2
   simp only [Sig.sem,Instr.loadAt,Instr.sureAddr,Sem.run_bind,Sem.run_pure,Result.andThen_ok,loadVar,zaO hA]
   simp [run_load,qz h1,hcc]
  ·show F.c r u W β.D
   rw [hr];exact h3
 | [],h=>exact h.elim
 | _::_::_,h=>exact h.2.elim
theorem zoT {T:TypeId} {b k m r1 r2 r3:Nat} (hz:szOf P T=some 3) (hA:aggOf P T=some true) (hk:F.c k=pI (off:Int)) (hn:F.o m=oN A off vs o n l) (h1:F.c r1=pI o) (h2:F.c r2=pI n) (h3:F.c r3=pLs cE l):Ent.sound (KN w0) P F (.op (.ld T) [LF (.pf b k)] [.hp [b] [] m] (.o (.g [.h r1,.h r2,.h r3]))):=by
 intro β W ws hs hp _
 match ws,hs with
 | [v],⟨g1,_⟩ =>
  obtain ⟨q,g2,rfl⟩:=pf_at hk g1
  have h:=(hp _ (List.mem_cons_self ..)).1
  rw [hn] at h
  obtain ⟨c1,c2,cur,u,e,k1,k2,k3⟩:=h
  have e1:gv β b=_:=(List.cons.inj e).1
  have e2:=za9 e1
  rw [g2] at e2;injection e2 with e2;subst e2
  obtain ⟨m1,m2,m3,m4,m5,m6⟩:=k2
  have hlen:off+3≤cur.size:=by rw [← Array.length_toList,m1];exact m2
  refine ⟨.agg ((cur.toList.drop off).take 3).toArray,?_,_,rfl,?_⟩
  ·simp only [Sig.sem,Instr.loadAt,Instr.sureAddr,Sem.run_bind,Sem.run_pure,Result.andThen_ok]
   exact zbO hz hA k1 hlen
  ·have e3:(cur.toList.drop off).take 3=[.int .i64 o,.int .i64 n,u]:=by
    apply List.ext_getElem?
    intro j
    rw [List.getElem?_take]
    match j with
    | 0=>rw [if_pos (by decide),List.getElem?_drop];exact m4
    | 1=>rw [if_pos (by decide),List.getElem?_drop];exact m5
    | 2=>rw [if_pos (by decide),List.getElem?_drop];exact m6
    | j+3=>rw [if_neg (by omega)];simp
   rw [List.toList_toArray,e3]
   refine ⟨?_,?_,?_,trivial⟩
   ·show F.c r1 _ W β.D
    rw [h1];rfl
   ·show F.c r2 _ W β.D
    rw [h2];rfl
   ·show F.c r3 _ W β.D
    rw [h3];exact k3
 | [],h=>exact h.elim
 | _::_::_,h=>exact h.2.elim
theorem e_stN {T:TypeId} {b k m m' i:Nat} {y:Lf} {o' n':Int} {l':List Xp} (hz:szOf P T=some 1) (hi:i<3) (hk:F.c k=pI ((off+i:Nat):Int)) (hn:F.o m=oN A off vs o n l) (hn':F.o m'=oN A off vs o' n' l')
  (hy:(i=0∧Gives F y (.int .i64 o')∧n'=n∧l'=l)∨(i=1∧Gives F y (.int .i64 n')∧o'=o∧l'=l)∨(i=2∧Says F y (pLs cE l')∧o'=o∧n'=n)):Ent.sound (KN w0) P F (.st T [b] (LF (.pf b k)) (LF y) [.hp [b] [] m] [.hp [b] [] m']):=by
 intro β W vx vy hx hyv hp hg
 obtain ⟨q,g2,rfl⟩:=pf_at hk hx
 have hpp:=hp _ (List.mem_cons_self ..)
 have h:=hpp.1
 rw [hn] at h
 obtain ⟨c1,c2,cur,u,e,k1,k2,k3⟩:=h
 have e1:gv β b=_:=(List.cons.inj e).1
 have e2:=za9 e1
 rw [g2] at e2;injection e2 with e2;subst e2
 have hlen:off+i<cur.size:=by have:=k2.1;have:=k2.2.1;rw [← Array.length_toList];omega
 obtain ⟨u',hck,hnode,hls⟩:∃u',(KN w0).ck vy=true∧NodeL vs off o' n' u' (spl cur.toList (off+i) [vy])∧pLs cE l' u' W β.D:=by
  rcases hy with ⟨rfl,gy,e3,e4⟩ | ⟨rfl,gy,e3,e4⟩ | ⟨rfl,gy,e3,e4⟩
  ·have ey:vy=.int .i64 o':=(gy β vy W).1 hyv
   subst e4
   exact ⟨u,by rw [ey];rfl,k2.set hi (.inl ⟨rfl,ey,e3,rfl⟩),k3⟩
  ·have ey:vy=.int .i64 n':=(gy β vy W).1 hyv
   subst e4
   exact ⟨u,by rw [ey];rfl,k2.set hi (.inr (.inl ⟨rfl,ey,e3,rfl⟩)),k3⟩
  ·have ey:pLs cE l' vy W β.D:=(gy β vy W).1 hyv
   exact ⟨vy,(ze (K:=KN w0) (zf rfl)).ck ey,k2.set hi (.inr (.inr ⟨rfl,rfl,e3,e4⟩)),ey⟩
 obtain ⟨W',hrun,hput⟩:=zfH (K:=KN w0) hz hck k1 hlen
 obtain ⟨hb1,ob,hb2,hb3⟩:=hpp.2 b (List.mem_cons_self ..) _ g2
 rw [k1] at hb2;injection hb2 with hb2;subst hb2
 simp only [ml,mlf,Bool.and_eq_true] at hb3
 have hml:∀r,r=q→Mlq (KN w0) β.D W r:=by
  rintro r rfl
  exact ⟨hb1,hg.dis b r g2,_,k1,by simp only [ml,mlf,hb3.1,hb3.2,Bool.and_true]⟩
 refine ⟨W',hrun,hput.oth.mono (fun r hr=>⟨b,by simp,by rw [hr];exact g2⟩),fun z hz=>?_⟩
 obtain rfl:=List.mem_singleton.1 hz
 refine ⟨?_,fun c hc r hr=>?_⟩
 ·rw [hn']
  exact ⟨c1,c2,_,u',by rw [List.map_cons,List.map_nil,e1],hput.here,by simpa using hnode,(ze (K:=KN w0) (zf rfl)).mv hml hput.oth (fun _ h=>h) hls⟩
 ·obtain rfl:=List.mem_singleton.1 hc
  have er:q=r:=Option.some.inj (g2.symm.trans hr)
  subst er
  exact ⟨hb1,_,hput.here,by simp only [ml,mlf,hb3.1,Bool.true_and];exact ze3 hb3.2 (by have hck:ckf (KN w0).bad vy=true:=hck;simp [hck])⟩
end
def Lf.pur (ns:List Nat):Lf→Bool
 | .h n=>ns.contains n
 | .pf _ _=>false
 | _=>true
def Cm.pur (ns:List Nat):Cm→Bool
 | .c l=>l.pur ns
 | .g l=>l.all (Lf.pur ns)
def Atom.pur (ns:List Nat):Atom→Bool
 | .sl _ (.o c)=>c.pur ns
 | .bx _ _ ls=>ls.all (Lf.pur ns)
 | _=>false
section
variable {K:Kit} {F:Fact} {ns:List Nat} (hn:∀n∈ns,∃x,F.c n=pV x) {β β':Loc} {W:World}
include hn
theorem Lf.pur_ok {l:Lf} {v:Value} (h:l.pur ns=true) (hb:∀c,l.has c=true→β.same β' c) (ho:l.ok F β v W):l.ok F β' v W:=by
 cases l with
 | h n =>
  obtain ⟨x,e⟩:=hn n (by simpa [Lf.pur] using h)
  have ho:F.c n v W β.D:=ho
  show F.c n v W β'.D
  rw [e] at ho ⊢;exact ho
 | k x=>exact ho
 | p b o=>obtain ⟨q,h1,h2⟩:=ho;exact ⟨q,(hb b (by simp [Lf.has])).1.trans h1,h2⟩
 | s b o n c=>obtain ⟨q,h1,h2⟩:=ho;exact ⟨q,(hb b (by simp [Lf.has])).1.trans h1,h2⟩
 | q e bs=>obtain ⟨cs,h1,h2⟩:=ho;exact ⟨cs,h1,zki hb h2⟩
 | m e b o=>obtain ⟨q,h1,h2⟩:=ho;exact ⟨q,(hb b (by simp [Lf.has])).1.trans h1,h2⟩
 | gr b=>show v=gv β' b;rw [(gv_sm (hb b (by simp [Lf.has]))).1];exact ho
 | pf b n=>cases h
theorem zgy:∀{ls:List Lf} {vs:List Value},ls.all (Lf.pur ns)=true→(∀c,lfs c ls=true→β.same β' c)→oks F β ls vs W→oks F β' ls vs W
 | [],[],_,_,_=>trivial
 | l::ls,_::_,h,hb,ho=>by
  rw [List.all_cons,Bool.and_eq_true] at h
  exact ⟨Lf.pur_ok hn h.1 (fun c hc=>hb c (by rw [lfs,List.any_cons,hc,Bool.true_or])) ho.1,zgy h.2 (fun c hc=>hb c (by rw [lfs,List.any_cons];rw [lfs] at hc;rw [hc,Bool.or_true])) ho.2⟩
 | [],_::_,_,_,h=>h.elim
 | _::_,[],_,_,h=>h.elim
theorem Atom.pur_ok {A:Atom} {a:Act} (h:A.pur ns=true) (hb:∀c,A.has c=true→β.same β' c) (ho:A.ok K F β a W):A.ok K F β' a W:=by
 cases A with
 | sl s x =>
  cases x with
  | o c =>
   cases c with
   | c l=>exact Lf.pur_ok (l:=l) hn h hb ho
   | g l=>obtain ⟨vs,e,h2⟩:=ho;exact ⟨vs,e,zgy hn h hb h2⟩
  | t l=>cases h
 | bx b T ls =>
  obtain ⟨q,vs,h1,h2,h3,h4⟩:=ho
  exact ⟨q,vs,(hb b (by simp [Atom.has])).1.trans h1,h2,zgy hn h (fun c hc=>hb c (by simp [Atom.has,hc])) h3,h4⟩
 | _=>cases h
end
theorem zeK {K:Kit} {α:Type} {F:Fact} {F2:α→Fact} {R:Frm} {st new rs rs':List Atom} {fr ns:List Nat} {a:Act} {W:World} (hrs:∀A∈rs,A∈st) (himp:∀s,Imp K F (F2 s) rs rs') (hpur:rs'.all (Atom.pur ns)=true) (hnum:∀s,∀n∈ns,∃x,(F2 s).c n=pV x)
  (hfr:∀c∈fr,c ∉ R.pm.pn) (hfr':rs'.all (fun A=>fr.all fun c=>!A.has c)=true)
  (hg:∀β,Env K R β W→(∀A∈st,A.ok K F β a W)→∃s β',Geo K β' W∧(∀c,c ∉ fr→β.same β' c)∧(∀q,β.D q→¬ β'.D q→¬ R.β0.D q)∧(∀q,β'.D q→β.D q)∧(∀c∈fr,∀q,β' c=some q→R.w0.heap.size≤q)∧∀A∈new,A.ok K (F2 s) β' a W)
  (hI:Inv K F R st a W):∃s,True∧Inv K (F2 s) R (new++rs') a W:=by
 obtain ⟨h1,h2,β,hE,h4⟩:=hI
 obtain ⟨s,β',g1,g2,g3,g4,g5,g6⟩:=hg β hE h4
 refine ⟨s,trivial,h1,h2,β',⟨g1,hE.oth,fun b hb q hq=>?_,fun b hb hbg=>?_,fun b hb q hq=>?_,fun q hq=>?_,fun q hq=>hE.dn q (g4 q hq)⟩,fun A hA=>?_⟩
 ·by_cases hc:b∈fr
  ·exact g5 b hc q hq
  ·exact hE.own b hb q ((g2 b hc).1.symm.trans hq)
 ·have e1:=g2 b (fun hc=>hfr b hc hb)
  have e2:=hE.same b hb hbg
  exact ⟨e1.1.trans e2.1,e1.2.trans e2.2⟩
 ·exact hE.mvd b hb q ((g2 b (fun hc=>hfr b hc hb)).1.symm.trans hq)
 ·exact Classical.byContradiction fun hn=>g3 q (hE.dm q hq) hn hq
 ·rcases List.mem_append.1 hA with hA | hA
  ·exact g6 A hA
  ·have h5:=himp s β a W hE.geo (fun B hB=>h4 B (hrs B hB)) A hA
   have h6:=List.all_eq_true.1 hfr' A hA
   refine Atom.pur_ok (hnum s) (List.all_eq_true.1 hpur A hA) (fun c hc=>g2 c fun hm=>?_) h5
   have:=List.all_eq_true.1 h6 c hm
   rw [hc] at this;cases this
theorem zhI {K:Kit} {F F2:Fact} {R:Frm} {st new rs rs':List Atom} {fr:List Nat} {a:Act} {W:World} (hF:Fine K F) (hrs:∀A∈rs,A∈st) (himp:Imp K F F2 rs rs') (hF2:Fine K F2)
  (hfr:∀c∈fr,c ∉ R.pm.pn) (hfr':rs'.all (fun A=>fr.all fun c=>!A.has c)=true)
  (hg:∀β,Geo K β W→(∀A∈st,A.ok K F β a W)→∀A∈new,A.ok K F2 ⟨fun c=>if c∈fr then none else β c,β.len,fun q=>β.D q∨∃c∈fr,β c=some q⟩ a W)
  (hI:Inv K F R st a W):Inv K F2 R (new++rs') a W:=by
 obtain ⟨h1,h2,β,hE,h4⟩:=hI
 let β':Loc:=⟨fun c=>if c∈fr then none else β c,β.len,fun q=>β.D q∨∃c∈fr,β c=some q⟩
 have hg':=hE.geo
 have g2:∀c,c ∉ fr→β.same β' c:=fun c hc=>⟨if_neg hc,rfl⟩
 have hsub:∀c q,β' c=some q→c ∉ fr∧β c=some q:=fun c q hq=>by
  have hq:(if c∈fr then none else β c)=some q:=hq
  split at hq
  ·cases hq
  ·rename_i h;exact ⟨h,hq⟩
 have hD:∀q,β.D q→β'.D q:=fun q h=>.inl h
 have hge:Geo K β' W:=⟨fun b q hq=>hg'.lt b q (hsub b q hq).2,fun b c q hb hc=>hg'.inj b c q (hsub b q hb).2 (hsub c q hc).2,hg'.bel,fun b q hq hd=>by
   obtain ⟨h5,h6⟩:=hsub b q hq
   rcases hd with hd | ⟨c,hc,hcq⟩
   ·exact hg'.dis b q h6 hd
   ·exact h5 (hg'.inj b c q h6 hcq ▸ hc),fun q hq=>hq.elim (hg'.dlt q) fun ⟨c,_,hcq⟩=>hg'.lt c q hcq,fun q hq=>.inl (hg'.low q hq)⟩
 refine ⟨h1,h2,β',⟨hge,hE.oth,fun b hb q hq=>hE.own b hb q (hsub b q hq).2,fun b hb hbg=>?_,fun b hb q hq=>hE.mvd b hb q (hsub b q hq).2,fun q hq=>.inl (hE.dm q hq),fun q hq=>?_⟩,fun A hA=>?_⟩
 ·have e1:=g2 b (fun hc=>hfr b hc hb)
  have e2:=hE.same b hb hbg
  exact ⟨e1.1.trans e2.1,e1.2.trans e2.2⟩
 ·rcases hq with hq | ⟨c,hc,hcq⟩
  ·exact hE.dn q hq
  ·exact .inr (hE.own c (fun h=>hfr c hc h) q hcq)
 ·rcases List.mem_append.1 hA with hA | hA
  ·exact hg β hg' h4 A hA
  ·have h5:=himp β a W hg' (fun B hB=>h4 B (hrs B hB)) A hA
   have h6:=List.all_eq_true.1 hfr' A hA
   refine Atom.mv (β:=β) (β':=β') hF2 (S:=fun _=>False) (fun _ h=>h.elim) (Oth.refl _ W) hD (fun _ _ _=>rfl) (fun c hc=>g2 c fun hm=>?_) h5 (fun _ _ _ _ _ h=>h.elim)
   have:=List.all_eq_true.1 h6 c hm
   rw [hc] at this;cases this
end Go.Proofs.YtdkofaajcpcjkaaGreatDoor
namespace Go.Proofs.YtdkofaajcpcjkaaGreatDoor
open Go.RowKit
def desc:Nat→Int→Xp×(Xp→Xp)→Xp×(Xp→Xp)
 | 0,_,c=>c
 | n+1,p,c=>if c.1.l≠[]∧0<p%3 then match c.1.l[(min (p%3 - 1) ((c.1.l.length:Int) - 1)).toNat]? with
   | some y=>desc n (p / 3) (y,fun z=>c.2 (.mk c.1.op c.1.n (c.1.l.set (min (p%3 - 1) ((c.1.l.length:Int) - 1)).toNat z)))
   | none=>c
  else c
theorem zfk {n:Nat} {p:Int} {c:Xp×(Xp→Xp)} (h:¬ (c.1.l≠[]∧0<p%3)):desc n p c=c:=by
 cases n with
 | zero=>rfl
 | succ n=>rw [desc,if_neg h]
theorem zjw {n j:Nat} {p:Int} {c:Xp×(Xp→Xp)} {y:Xp} (h:c.1.l≠[]∧0<p%3) (hj:(min (p%3 - 1) ((c.1.l.length:Int) - 1)).toNat=j) (hy:c.1.l[j]?=some y):desc (n+1) p c=desc n (p / 3) (y,fun z=>c.2 (.mk c.1.op c.1.n (c.1.l.set j z))):=by
 rw [desc,if_pos h,hj,hy]
def pCur (w0:World) (P0:Nat→Prop) (B:Nat) (c:Xp×(Xp→Xp)):Pred:=fun v W D=>∃A off u S C,v=.pointer (some ⟨A,off,none⟩)∧Cur w0 W D P0 B c.1 c.2 A off u S C
def pCurF (w0:World) (P0:Nat→Prop) (B:Nat) (c:Xp×(Xp→Xp)):Pred:=fun v W D=>∃A off u S C,v=.pointer (some ⟨A,off+2,none⟩)∧Cur w0 W D P0 B c.1 c.2 A off u S C
def pCurL (w0:World) (P0:Nat→Prop) (B:Nat) (c:Xp×(Xp→Xp)):Pred:=fun v W D=>∃A off S C,Cur w0 W D P0 B c.1 c.2 A off v S C
def pAt (w0:World) (P0:Nat→Prop) (B:Nat) (e:Xp):Pred:=fun v W D=>v=.pointer (some ⟨B,0,none⟩)∧∃(cur:Array Value) (u:Value) (S:List Nat),W.heap[B]?=some (.cells cur 32 (0,0))∧cur.toList=[.int .i64 e.op,.int .i64 e.n,u]∧(KN w0).ck u=true∧SpS W e.l u S∧B ∉ S∧∀q,q=B∨q∈S→D q∧¬ P0 q∧w0.heap.size≤q
section
variable {w0:World} {P:Program} {F:Fact} {P0:Nat→Prop} {B:Nat} {c:Xp×(Xp→Xp)}
theorem Cur.stay {K:Kit} {W W':World} {D D':Dat} {T:Nat→Prop} {x:Xp} {ctx:Xp→Xp} {A off:Nat} {u:Value} {S C:List Nat} (h:Cur w0 W D P0 B x ctx A off u S C) (hT:∀q,T q→Mlq K D W q) (hO:Oth T W W') (hD:∀q,D q→D' q):Cur w0 W' D' P0 B x ctx A off u S C:=
 h.mv (fun q hq=>hO.block q (hq.elim (h.lt q) (h.sp.lt q)) fun ht=>(hT q ht).2.1 (h.new q hq).1) hD hO.size
theorem qZ:FineC (KN w0) (pCur w0 P0 B c):=⟨fun hT hO hD ⟨A,off,u,S,C,e,h⟩=>⟨A,off,u,S,C,e,h.stay hT hO hD⟩,fun ⟨_,_,_,_,_,e,_⟩=>by rw [e];rfl⟩
theorem zaQ:FineC (KN w0) (pCurF w0 P0 B c):=⟨fun hT hO hD ⟨A,off,u,S,C,e,h⟩=>⟨A,off,u,S,C,e,h.stay hT hO hD⟩,fun ⟨_,_,_,_,_,e,_⟩=>by rw [e];rfl⟩
theorem zaR:FineC (KN w0) (pCurL w0 P0 B c):=⟨fun hT hO hD ⟨A,off,S,C,h⟩=>⟨A,off,S,C,h.stay hT hO hD⟩,fun ⟨_,_,_,_,h⟩=>h.sp.ck⟩
theorem zcY {e:Xp}:FineC (KN w0) (pAt w0 P0 B e):=by
 refine ⟨fun {v W W' D D' S} hS hO hD h=>?_,fun h=>by rw [h.1];rfl⟩
 obtain ⟨e1,cur,u,T,h1,h2,h3,h4,h5,h6⟩:=h
 have hb:=stay hS hO h4.lt fun q hq=>(h6 q (.inr hq)).1
 exact ⟨e1,cur,u,T,(hO.block B (Array.getElem?_eq_some_iff.1 h1).1 fun hs=>(hS B hs).2.1 (h6 B (.inl rfl)).1).trans h1,h2,h3,h4.mv hb,h5,fun q hq=>⟨hD q (h6 q hq).1,(h6 q hq).2⟩⟩
theorem e_ncC {K:Kit} {k:Nat} (hk:F.c k=pCur w0 P0 B c):Ent.sound K P F (.op .nc [LF (.h k)] [] (LF (.h k))):=by
 intro β W vs hs _ _
 match vs,hs with
 | [v],⟨h1,_⟩ =>
  have h2:F.c k v W β.D:=h1
  rw [hk] at h2
  obtain ⟨A,off,u,S,C,rfl,h⟩:=h2
  exact ⟨_,by simp [Sig.sem],h1⟩
 | [],h=>exact h.elim
 | _::_::_,h=>exact h.2.elim
theorem e_faC {K:Kit} {T:TypeId} {k o m:Nat} (hT:P.underlying T=some (.struct (zbv P T))) (hd:((zbv P T)[2]?).map (fun d=>(d.offset,szOf P d.type))=some (2,some (m+1))) (hk:F.c k=pCur w0 P0 B c) (ho:F.c o=pCurF w0 P0 B c):Ent.sound K P F (.op (.fa T 2) [LF (.h k)] [] (LF (.h o))):=by
 obtain ⟨d,h1,h2⟩:=Option.map_eq_some_iff.1 hd
 injection h2 with h2 h3
 intro β W vs hs _ _
 match vs,hs with
 | [v],⟨g1,_⟩ =>
  have g2:F.c k v W β.D:=g1
  rw [hk] at g2
  obtain ⟨A,off,u,S,C,rfl,h⟩:=g2
  refine ⟨.pointer (some ⟨A,off+2,none⟩),?_,?_⟩
  ·simp only [Sig.sem,Instr.fieldAt,Sem.run_bind,run_underlying hT,Result.andThen_ok,h1,Instr.sureAddr,Sem.run_pure,fieldPlace,qU h3]
   rw [if_neg (by omega),zan,h2];rfl
  ·show F.c o _ W β.D
   rw [ho]
   exact ⟨A,off,u,S,C,rfl,h⟩
 | [],h=>exact h.elim
 | _::_::_,h=>exact h.2.elim
theorem e_ldC {K:Kit} {T:TypeId} {k o:Nat} (hA:aggOf P T=some false) (hk:F.c k=pCurF w0 P0 B c) (ho:F.c o=pCurL w0 P0 B c):Ent.sound K P F (.op (.ld T) [LF (.h k)] [] (LF (.h o))):=by
 intro β W vs hs _ _
 match vs,hs with
 | [v],⟨g1,_⟩ =>
  have g2:F.c k v W β.D:=g1
  rw [hk] at g2
  obtain ⟨A,off,u,S,C,rfl,h⟩:=g2
  obtain ⟨cur,hh,_,_,hc⟩:=h.node
  refine ⟨u,?_,?_⟩
  ·simp only [Sig.sem,Instr.loadAt,Instr.sureAddr,Sem.run_bind,Sem.run_pure,Result.andThen_ok,loadVar,zaO hA]
   simp [run_load,qz hh,hc]
  ·show F.c o u W β.D
   rw [ho]
   exact ⟨A,off,S,C,h⟩
 | [],h=>exact h.elim
 | _::_::_,h=>exact h.2.elim
theorem SpS.slice {W:World} {l:List Xp} {v:Value} {S:List Nat} (h:SpS W l v S):∃A cap,v=.slice A l.length cap:=by cases h<;>exact ⟨_,_,rfl⟩
theorem zhx {K:Kit} {T R E:TypeId} {k:Nat} {o:Lf} (hT:P.underlying T=some (.slice E)) (hk:F.c k=pCurL w0 P0 B c) (ho:Gives F o (.int .i64 (c.1.l.length:Int))):Ent.sound K P F (.op (.len [T] R) [LF (.h k)] [] (LF o)):=by
 intro β W vs hs _ _
 match vs,hs with
 | [v],⟨g1,_⟩ =>
  have g2:F.c k v W β.D:=g1
  rw [hk] at g2
  obtain ⟨A,off,S,C,h⟩:=g2
  obtain ⟨A2,cap,rfl⟩:=h.sp.slice
  exact ⟨.int .i64 (c.1.l.length:Int),by simp [Sig.sem,Builtin.len_,run_underlying hT,goInt],(ho β _ W).2 rfl⟩
 | [],h=>exact h.elim
 | _::_::_,h=>exact h.2.elim
theorem e_iaC {K:Kit} {T E:TypeId} {k o j:Nat} {y:Lf} {i:Int} {x:Xp} {c2:Xp×(Xp→Xp)} (hT:P.underlying T=some (.slice E)) (hz:szOf P E=some 3) (hk:F.c k=pCurL w0 P0 B c) (hy:Gives F y (.int .i64 i)) (hi:i=(j:Int)) (hj:c.1.l[j]?=some x) (hc:(x,fun z=>c.2 (.mk c.1.op c.1.n (c.1.l.set j z)))=c2) (ho:F.c o=pCur w0 P0 B c2):Ent.sound K P F (.op (.ia T) [LF (.h k),LF y] [] (LF (.h o))):=by
 subst hi
 intro β W vs hs _ _
 match vs,hs with
 | [v,w],⟨g1,h2,_⟩ =>
  have g2:F.c k v W β.D:=g1
  rw [hk] at g2
  have e2:w=.int .i64 (j:Int):=(hy β w W).1 h2
  subst e2
  obtain ⟨A,off,S,C,h⟩:=g2
  obtain ⟨q,cap,v2,S2,C2,rfl,h3,_⟩:=h.down hj
  have hlt:=(List.getElem?_eq_some_iff.1 hj).1
  refine ⟨.pointer (some ⟨q,j*3,none⟩),?_,?_⟩
  ·simp only [Sig.sem,Instr.indexAt,Sem.run_bind,asIntOf,run_underlying hT,Result.andThen_ok,Sem.run_pure]
   rw [if_pos ⟨Int.natCast_nonneg j,Int.ofNat_lt.2 hlt⟩,Sem.run_bind,qU hz,Result.andThen_ok,Int.toNat_natCast,zan,Nat.zero_add];rfl
  ·show F.c o _ W β.D
   rw [ho]
   subst hc
   exact ⟨q,j*3,v2,S2,C2,rfl,h3⟩
 | [],h=>exact h.elim
 | [_],h=>exact h.2.elim
 | _::_::_::_,h=>exact h.2.2.elim
end
theorem znb {K:Kit} {α:Type} {F:Fact} {F1:α→Fact} {Pr:α→Prop} {R:Frm} {dead:List Nat} {st new rs:List Atom} {a:Act} {W:World} (hF:Fine K F) (hd:∀c∈dead,c ∉ R.pm.pn) (hst:∀A∈rs,A∈st∧zcL dead A=false) (himp:∀s,Imp K F (F1 s) rs rs)
  (hg:∀β,Env K R β W→(∀A∈st,A.ok K F β a W)→∃s,Pr s∧∃β',Geo K β' W∧(∀c,c ∉ dead→β.same β' c)∧(∀q,β.D q→β'.D q)∧(∀q,β'.D q→β.D q∨∃c∈dead,β c=some q)∧(∀c∈dead,∀q,β' c=some q→β c=some q)∧∀A∈new,A.ok K (F1 s) β' a W)
  (hI:Inv K F R st a W):∃s,Pr s∧Inv K (F1 s) R (new++rs) a W:=by
 obtain ⟨h1,h2,β,hE,h4⟩:=hI
 obtain ⟨s,hs,β',g1,g2,g3,g4,g5,g6⟩:=hg β hE h4
 have hsub:∀c q,β' c=some q→β c=some q:=fun c q hq=>by
  by_cases hc:c∈dead
  ·exact g5 c hc q hq
  ·exact (g2 c hc).1.symm.trans hq
 refine ⟨s,hs,h1,h2,β',⟨g1,hE.oth,fun b hb q hq=>hE.own b hb q (hsub b q hq),fun b hb hbg=>?_,fun b hb q hq=>hE.mvd b hb q (hsub b q hq),fun q hq=>g3 q (hE.dm q hq),fun q hq=>?_⟩,fun A hA=>?_⟩
 ·have e1:=g2 b (fun hb2=>hd b hb2 hb)
  have e2:=hE.same b hb hbg
  exact ⟨e1.1.trans e2.1,e1.2.trans e2.2⟩
 ·rcases g4 q hq with h | ⟨c,hc,h⟩
  ·exact hE.dn q h
  ·exact .inr (hE.own c (hd c hc) q h)
 ·rcases List.mem_append.1 hA with hA | hA
  ·exact g6 A hA
  ·refine himp s β' a W g1 (fun A hAr=>?_) A hA
   obtain ⟨m1,m2⟩:=hst A hAr
   refine Atom.mv hF (fun _ h=>h.elim) (Oth.refl (fun _=>False) W) g3 (fun _ _ _=>rfl) (fun c hc=>g2 c fun hd=>?_) (h4 A m1) (fun _ _ _ _ _ h=>h.elim)
   have h7:zcL dead A=true:=List.any_eq_true.2 ⟨c,hd,hc⟩
   rw [h7] at m2;cases m2
theorem qE {α:Type} {Pr:α→Prop} {K:Kit} {P:Program} {R:Frm} {c:Code} {F F':Fact} {F1:α→Fact} {st st1 st':List Atom} {x:Ex} (h1:∀a W,Inv K F R st a W→∃s,Pr s∧Inv K (F1 s) R st1 a W) (h3:∀s,Pr s→Goes K P R c (F1 s) st1 x F' st'):Goes K P R c F st x F' st':=by
 intro Q a W hI hQ
 obtain ⟨s,hs,hI2⟩:=h1 a W hI
 exact h3 s hs Q a W hI2 hQ
theorem qL {K:Kit} {P:Program} {R:Frm} {c d:Code} {F F':Fact} {st st1 st2:List Atom} {x:Ex} (h:Goes K P R c F st .n F st1) (h2:Goes K P R d F st1 x F' st2):Goes K P R (.seq c d) F st x F' st2:=
 fun Q a W hI hQ=>wp_seq (h _ a W hI fun a' W' hI'=>h2 Q a' W' hI' hQ)
theorem odd_A {w0:World} {F0:Fact} {F2:(Nat→Prop)→Fact} {st rs:List Atom} {b i j k k':Nat} {l:List Xp} (hF:Fine (KN w0) F0) (hbx:Atom.bx b 32 [.h i,.h j,.h k]∈st) (hst:∀A∈rs,A∈st∧zcL [] A=false) (himp:∀P,Imp (KN w0) F0 (F2 P) rs rs) (hk:F0.c k=pLs cE l) (hk':∀P,(F2 P).c k'=pLD P l) (hi:∀P,(F2 P).c i=F0.c i) (hj:∀P,(F2 P).c j=F0.c j) {R:Frm} {a:Act} {W:World} (hI:Inv (KN w0) F0 R st a W) :
  ∃P0,(∀q,R.β0.D q→P0 q)∧Inv (KN w0) (F2 P0) R ([.bx b 32 [.h i,.h j,.h k']]++rs) a W:=by
 refine znb (dead:=[]) hF (fun c hc=>by cases hc) hst himp (fun β hE hA=>?_) hI
 refine ⟨β.D,hE.dm,β,hE.geo,fun _ _=>Loc.same.rfl,fun _ h=>h,fun _ h=>.inl h,fun c hc=>(by cases hc),fun A hAm=>?_⟩
 obtain rfl:=List.mem_singleton.1 hAm
 obtain ⟨q,us,hq,hh,ho,hr⟩:=hA _ hbx
 refine ⟨q,us,hq,hh,?_,hr⟩
 match us.toList,ho with
 | [v1,v2,v3],⟨h1,h2,h3,_⟩ =>
  have h1:F0.c i v1 W β.D:=h1
  have h2:F0.c j v2 W β.D:=h2
  have h3:F0.c k v3 W β.D:=h3
  refine ⟨?_,?_,?_,trivial⟩
  ·show (F2 β.D).c i v1 W β.D
   rw [hi];exact h1
  ·show (F2 β.D).c j v2 W β.D
   rw [hj];exact h2
  ·show (F2 β.D).c k' v3 W β.D
   rw [hk'];rw [hk] at h3
   exact ⟨h3,fun q hq=>hq⟩
theorem odd_B {w0:World} {P0:Nat→Prop} {F:Fact} {F2:Nat→Fact} {st rs:List Atom} {rb b0 i j k i0 j0 k0 s1 s2 r cu:Nat} {e:Xp} {l0:List Xp} (hF:Fine (KN w0) F) (hbx:Atom.bx rb 32 [.h i,.h j,.h k]∈st) (hb0:Atom.bx b0 32 [.h i0,.h j0,.h k0]∈st) (hs1:Atom.sl s1 (.o (.c (.p rb 0)))∈st) (hs2:Atom.sl s2 (.o (.c (.p rb 0)))∈st) (hst:∀A∈rs,A∈st∧zcL [rb] A=false) (himp:∀B,Imp (KN w0) F (F2 B) rs rs)
  (hi:F.c i=pI e.op) (hj:F.c j=pI e.n) (hk:F.c k=pNew w0 P0 e.l) (hk0:F.c k0=pLD P0 l0) (hr:∀B,(F2 B).c r=pAt w0 P0 B e) (hcu:∀B,(F2 B).c cu=pCur w0 P0 B (e,id)) {R:Frm} (hR:R.pm.pn=[]) {a:Act} {W:World} (hI:Inv (KN w0) F R st a W) :
  ∃B:Nat,True∧Inv (KN w0) (F2 B) R ([.sl s1 (.o (.c (.h r))),.sl s2 (.o (.c (.h cu)))]++rs) a W:=by
 refine znb (dead:=[rb]) hF (fun c hc=>by rw [hR];exact fun h=>by cases h) hst himp (fun β hE hA=>?_) hI
 obtain ⟨q,us,hq,hh,ho,hck,hbt,hw0⟩:=hA _ hbx
 obtain ⟨_,us0,_,_,ho0,_⟩:=hA _ hb0
 obtain ⟨q1,hq1,hv1⟩:=hA _ hs1
 obtain ⟨q2,hq2,hv2⟩:=hA _ hs2
 have e1:q1=q:=Option.some.inj (hq1.symm.trans hq)
 have e2:q2=q:=Option.some.inj (hq2.symm.trans hq)
 subst e1;subst e2
 have hg:=hE.geo
 have hP:∀q,P0 q→β.D q:=by
  match us0.toList,ho0 with
  | [v1,v2,v3],⟨_,_,h3,_⟩ =>
   have h3:F.c k0 v3 W β.D:=h3
   rw [hk0] at h3
   exact h3.2
 let β':Loc:=⟨fun x=>if x=rb then none else β x,β.len,fun p=>β.D p∨p=q2⟩
 have hb:β' rb=none:=if_pos rfl
 have hne:∀x,x≠rb→β' x=β x:=fun x hx=>if_neg hx
 have hsub:∀x p,β' x=some p→x≠rb∧β x=some p:=fun x p hp=>by
  by_cases hx:x=rb
  ·subst hx;rw [hb] at hp;cases hp
  ·exact ⟨hx,by rw [← hne x hx];exact hp⟩
 refine ⟨q2,trivial,β',⟨fun x p hp=>hg.lt x p (hsub x p hp).2,fun x y p hx hy=>hg.inj x y p (hsub x p hx).2 (hsub y p hy).2,hg.bel,fun x p hp hD=>?_,fun p hp=>?_,fun p hp=>.inl (hg.low p hp)⟩,fun x hx=>⟨hne x (by simpa using hx),rfl⟩,fun p hp=>.inl hp,fun p hp=>hp.imp id fun h=>⟨rb,by simp,by rw [h];exact hq⟩,fun x hx p hp=>?_,fun A hAm=>?_⟩
 ·obtain ⟨h3,h4⟩:=hsub x p hp
  rcases hD with hD | rfl
  ·exact hg.dis x p h4 hD
  ·exact h3 (hg.inj x rb _ h4 hq)
 ·rcases hp with hp | rfl
  ·exact hg.dlt p hp
  ·exact hg.lt rb _ hq
 ·rw [List.mem_singleton] at hx
  subst hx
  rw [hb] at hp;cases hp
 ·obtain ⟨u3,hul,S,g3,g4⟩:∃u3,us.toList=[.int .i64 e.op,.int .i64 e.n,u3]∧pNew w0 P0 e.l u3 W β.D:=by
    match hu:us.toList,ho with
    | [v1,v2,v3],⟨k1,k2,k3,_⟩ =>
     have k1:F.c i v1 W β.D:=k1
     have k2:F.c j v2 W β.D:=k2
     have k3:F.c k v3 W β.D:=k3
     rw [hi] at k1;rw [hj] at k2;rw [hk] at k3
     have k1:v1=.int .i64 e.op:=k1
     have k2:v2=.int .i64 e.n:=k2
     exact ⟨v3,by rw [k1,k2],k3⟩
  have hus:us=#[.int .i64 e.op,.int .i64 e.n,u3]:=Array.toList_inj.1 hul
  have hcku:(KN w0).ck u3=true:=(by rw [hul] at hck;simp only [List.all_cons,List.all_nil,Bool.and_true,Bool.and_eq_true] at hck;exact hck.2.2)
  have hnn:∀p,p=q2∨p∈S→β'.D p∧¬ P0 p∧w0.heap.size≤p:=(fun p hp=>by
   rcases hp with rfl | hp
   ·exact ⟨.inr rfl,fun h=>hg.dis rb _ hq (hP _ h),hw0⟩
   ·exact ⟨.inl (g4 p hp).1,(g4 p hp).2⟩)
  have hnq:q2 ∉ S:=fun hm=>hg.dis rb q2 hq (g4 q2 hm).1
  simp only [List.mem_cons,List.not_mem_nil,or_false] at hAm
  rcases hAm with rfl | rfl
  ·show (F2 q2).c r (a.tmps.getD s1 undef) W β'.D
   rw [hr]
   exact ⟨hv1,us,u3,S,hh,hul,hcku,g3,hnq,hnn⟩
  ·show (F2 q2).c cu (a.tmps.getD s2 undef) W β'.D
   rw [hcu,hv2]
   rw [hus] at hh
   exact ⟨q2,0,u3,S,[q2],rfl,Cur.root hcku hh g3 hnq hnn⟩
end Go.Proofs.YtdkofaajcpcjkaaGreatDoor
namespace Go.Proofs.YtdkofaajcpcjkaaGreatDoor
open Go.RowKit
section
variable {F F':Fact}
theorem l_k {x:Value}:∀(β:Loc) v W,(Lf.k x).ok F β v W→(Lf.k x).ok F' β v W:=fun _ _ _ h=>h
theorem l_p {b o:Nat}:∀(β:Loc) v W,(Lf.p b o).ok F β v W→(Lf.p b o).ok F' β v W:=fun _ _ _ h=>h
theorem l_h {n n':Nat} (p:Pred) (h:F.c n=p) (h':F'.c n'=p):∀(β:Loc) v W,(Lf.h n).ok F β v W→(Lf.h n').ok F' β v W:=fun β v W hv=>by
 show F'.c n' v W β.D
 rw [h',← h];exact hv
end
section
variable {w0:World}
theorem RootIs.ptr {W:World} {D:Dat} {B:Nat} {t:Xp} {v:Value} (h:RootIs W D B t) (hv:v=.pointer (some ⟨B,0,none⟩)) (hB:D B):pP (cE t) v W D:=by
 obtain ⟨u,⟨cur,h1,h2,h3,h4⟩,h5⟩:=h
 refine ⟨B,0,_,cur,_,hv,hB,h1,?_⟩
 rw [List.drop_zero,cE_eq]
 match hc:cur.toList with
 | a::b::c::r =>
  rw [← Array.getElem?_toList,hc] at h2 h3 h4
  injection h2 with h2;injection h3 with h3;injection h4 with h4
  subst h2;subst h3;subst h4
  exact ⟨rfl,rfl,h5,trivial⟩
 | []=>rw [← Array.getElem?_toList,hc] at h2;cases h2
 | [a]=>rw [← Array.getElem?_toList,hc] at h3;cases h3
 | [a,b]=>rw [← Array.getElem?_toList,hc] at h4;cases h4
theorem NodeL.of {A off:Nat} {o n:Int} {u:Value} {W:World} (h:Node W A off o n u):∃cur:Array Value,W.heap[A]?=some (.cells cur 32 (0,0))∧NodeL cur.toList off o n u cur.toList:=by
 obtain ⟨cur,h1,h2,h3,h4⟩:=h
 have:=(Array.getElem?_eq_some_iff.1 h4).1
 exact ⟨cur,h1,rfl,by rw [Array.length_toList];omega,fun _ _=>rfl,by simpa using h2,by simpa using h3,by simpa using h4⟩
theorem Cur.hol {W:World} {D D2:Dat} {P0:Nat→Prop} {B A off:Nat} {x:Xp} {ctx:Xp→Xp} {u:Value} {S C:List Nat} {cur:Array Value} (h:Cur w0 W D P0 B x ctx A off u S C) (hc:W.heap[A]?=some (.cells cur 32 (0,0))) (hD:∀q∈C,q≠A→D2 q) {v:Value} (hv:v=.pointer (some ⟨B,0,none⟩)):pHole B A off cur.toList ctx v W D2:=by
 refine ⟨hv,C,h.inB,fun q hq hne=>⟨hD q hq hne,h.lt q hq⟩,fun W' D' o n l w c g1 g2 g3 g4 g5=>h.hole W' D' (.mk o n l) w g1 ⟨cur,c,hc,g2,?_,fun i hi=>?_,?_,?_,?_⟩ g4 g5⟩
 ·have:=g3.1;simpa using this
 ·have:=g3.2.2.1 i hi;simpa using this
 ·have:=g3.2.2.2.1;exact (by simpa using this:c[off]?=some (.int .i64 o))
 ·have:=g3.2.2.2.2.1;exact (by simpa using this:c[off+1]?=some (.int .i64 n))
 ·have:=g3.2.2.2.2.2;simpa using this
theorem zb5 {R:Frm} {K:Kit} {β:Loc} {W:World} {P0:Nat→Prop} {q:Nat} (hE:Env K R β W) (hP:∀q,R.β0.D q→P0 q) (hd:β.D q) (hn:¬ P0 q):R.w0.heap.size≤q:=(hE.dn q hd).resolve_left fun h=>hn (hP q h)
theorem ze5 {β:Loc} {W:World} {f:Nat→Option Nat} {ln:Nat→Nat×Nat} (Z:List Nat) (hg:Geo (KN w0) β W) (hf:∀c q,f c=some q→(β c=some q)∨(q∈Z∧β.D q)) (hz:∀c d q,f c=some q→f d=some q→q∈Z→c=d) (hn:∀q∈Z,w0.heap.size≤q):Geo (KN w0) ⟨f,ln,fun q=>β.D q∧q ∉ Z⟩ W:=by
 refine ⟨fun c q h=>?_,fun c d q h1 h2=>?_,hg.bel,fun c q h hd=>?_,fun q h=>hg.dlt q h.1,fun q h=>⟨hg.low q h,fun hm=>absurd (hn q hm) (Nat.not_le_of_lt h)⟩⟩
 ·rcases hf c q h with h | ⟨_,h⟩
  ·exact hg.lt c q h
  ·exact hg.dlt q h
 ·by_cases hm:q∈Z
  ·exact hz c d q h1 h2 hm
  ·exact hg.inj c d q ((hf c q h1).resolve_right fun h=>hm h.1) ((hf d q h2).resolve_right fun h=>hm h.1)
 ·exact hg.dis c q ((hf c q h).resolve_right fun h=>hd.2 h.1) hd.1
theorem gv_nm {f:Nat→Option Nat} {ln:Nat→Nat×Nat} {D:Dat} {b q:Nat} (h:f b=some q):gv ⟨f,ln,D⟩ b=.slice (some ⟨q,0,none⟩) (ln b).1 (ln b).2:=znF h
theorem thaw1 {P0:Nat→Prop} {B:Nat} {c:Xp×(Xp→Xp)} {F:Fact} {F2:Nat×Nat×List Value→Fact} {R:Frm} {st rs rs':List Atom} {ns:List Nat} {a:Act} {W:World} {s5 s6 r5 r6 k5 k6 hb no:Nat} {e:Xp}
  (h5:Atom.sl s5 (.o (.c (.h r5)))∈st) (h6:Atom.sl s6 (.o (.c (.h r6)))∈st) (hr5:F.c r5=pAt w0 P0 B e) (hr6:F.c r6=pCur w0 P0 B c) (hk5:∀s,(F2 s).c k5=pHole B s.1 s.2.1 s.2.2 c.2) (hk6:∀s,(F2 s).c k6=pI (s.2.1:Int)) (hno:∀s,(F2 s).o no=oN s.1 s.2.1 s.2.2 c.1.op c.1.n c.1.l)
  (hrs:∀A∈rs,A∈st) (himp:∀s,Imp (KN w0) F (F2 s) rs rs') (hpur:rs'.all (Atom.pur ns)=true) (hnum:∀s,∀n∈ns,∃x,(F2 s).c n=pV x) (hR:R.pm.pn=[]) (hfr':rs'.all (fun A=>[hb].all fun c=>!A.has c)=true) (hP:∀q,R.β0.D q→P0 q)
  (hI:Inv (KN w0) F R st a W):∃s,True∧Inv (KN w0) (F2 s) R ([.sl s5 (.o (.c (.h k5))),.sl s6 (.o (.c (.pf hb k6))),.hp [hb] [] no]++rs') a W:=by
 refine zeK (fr:=[hb]) hrs himp hpur hnum (fun c _=>by rw [hR];exact fun h=>by cases h) hfr' (fun β hE hA=>?_) hI
 have v5:F.c r5 (a.tmps.getD s5 undef) W β.D:=hA _ h5
 have v6:F.c r6 (a.tmps.getD s6 undef) W β.D:=hA _ h6
 rw [hr5] at v5;rw [hr6] at v6
 obtain ⟨A,off,u,S,C,e6,hc⟩:=v6
 obtain ⟨cur,hh,hnd⟩:=NodeL.of hc.node
 have hnA:=hc.new A (.inl hc.inA)
 have hge:Geo (KN w0) ⟨fun x=>if x=hb then some A else β x,β.len,fun q=>β.D q∧q ∉ [A]⟩ W:=ze5 [A] hE.geo (fun x q h=>by
   by_cases hx:x=hb
   ·rw [if_pos hx] at h;injection h with h;subst h;exact .inr ⟨by simp,hnA.1⟩
   ·rw [if_neg hx] at h;exact .inl h) (fun x y q h1 h2 hm=>by
   obtain rfl:=List.mem_singleton.1 hm
   have key:∀x,(if x=hb then some q else β x)=some q→x=hb:=fun x h=>Classical.byContradiction fun hx=>by
    rw [if_neg hx] at h;exact hE.geo.dis x q h hnA.1
   rw [key x h1,key y h2]) (fun q hm=>by obtain rfl:=List.mem_singleton.1 hm;exact hnA.2.2)
 refine ⟨(A,off,cur.toList),⟨fun x=>if x=hb then some A else β x,β.len,fun q=>β.D q∧q ∉ [A]⟩,hge,fun x hx=>⟨if_neg (by simpa using hx),rfl⟩,fun q h1 h2 h3=>?_,fun q h=>h.1,fun x hx q hq=>?_,fun X hX=>?_⟩
 ·have hq:q=A:=Classical.byContradiction fun hne=>h2 ⟨h1,by simpa using hne⟩
  subst hq
  exact hnA.2.1 (hP q h3)
 ·obtain rfl:=List.mem_singleton.1 hx
  have hq:(if x=x then some A else β x)=some q:=hq
  rw [if_pos rfl] at hq;injection hq with hq;subst hq
  exact zb5 hE hP hnA.1 hnA.2.1
 ·simp only [List.mem_cons,List.not_mem_nil,or_false] at hX
  rcases hX with rfl | rfl | rfl
  ·show (F2 _).c k5 _ W _
   rw [hk5]
   exact hc.hol hh (fun q hq hne=>⟨(hc.new q (.inl hq)).1,by simpa using hne⟩) v5.1
  ·exact ⟨A,off,if_pos rfl,e6,by rw [hk6];rfl⟩
  ·refine ⟨?_,fun x hx q hq=>?_⟩
   ·rw [hno]
    refine ⟨(β.len hb).1,(β.len hb).2,cur,u,by rw [List.map_cons,List.map_nil,gv_nm (if_pos rfl)],hh,hnd,hc.sp.reads fun q hq=>⟨(hc.new q (.inr hq)).1,fun hm=>hc.dis q hq (by rw [List.mem_singleton.1 hm];exact hc.inA)⟩⟩
   ·obtain rfl:=List.mem_singleton.1 hx
    have hq:(if x=x then some A else β x)=some q:=hq
    rw [if_pos rfl] at hq;injection hq with hq;subst hq
    exact ⟨hnA.2.2,_,hh,by simp only [ml,mlf,Bool.and_eq_true];exact ⟨rfl,hc.ck cur hh⟩⟩
theorem zeI {F F2:Fact} {R:Frm} {st rs rs':List Atom} {a:Act} {W:World} {s5 k5 r5 hb no A off B:Nat} {vs:List Value} {ctx:Xp→Xp} {o n:Int} {l:List Xp} (hF:Fine (KN w0) F) (hF2:Fine (KN w0) F2)
  (h5:Atom.sl s5 (.o (.c (.h k5)))∈st) (hh:Atom.hp [hb] [] no∈st) (hk5:F.c k5=pHole B A off vs ctx) (hno:F.o no=oN A off vs o n l) (hr5:F2.c r5=pP (cE (ctx (.mk o n l))))
  (hrs:∀A∈rs,A∈st) (himp:Imp (KN w0) F F2 rs rs') (hR:R.pm.pn=[]) (hfr':rs'.all (fun A=>[hb].all fun c=>!A.has c)=true) (hI:Inv (KN w0) F R st a W):Inv (KN w0) F2 R ([.sl s5 (.o (.c (.h r5)))]++rs') a W:=by
 refine zhI (fr:=[hb]) hF hrs himp hF2 (fun c _=>by rw [hR];exact fun h=>by cases h) hfr' (fun β hg hA X hX=>?_) hI
 obtain rfl:=List.mem_singleton.1 hX
 have v5:F.c k5 (a.tmps.getD s5 undef) W β.D:=hA _ h5
 have vh:=(hA _ hh:HP (KN w0) F β [hb] [] no W).1
 rw [hk5] at v5;rw [hno] at vh
 obtain ⟨e5,C,hB,g1,g2⟩:=v5
 obtain ⟨c1,c2,cur,u,e,k1,k2,k3⟩:=vh
 have e1:=za9 ((List.cons.inj e).1:gv β hb=_)
 have hD:∀q,β.D q→(β.D q∨∃c∈[hb],β c=some q):=fun q h=>.inl h
 have hC:∀q∈C,(β.D q∨∃c∈[hb],β c=some q):=fun q hq=>by
  by_cases hqA:q=A
  ·subst hqA;exact .inr ⟨hb,by simp,e1⟩
  ·exact .inl (g1 q hq hqA).1
 have hr:=g2 W (fun q=>β.D q∨∃c∈[hb],β c=some q) o n l u cur (fun _ _ _=>rfl) k1 k2 ((ze (K:=KN w0) (zf rfl)).mv (S:=fun _=>False) (fun _ h=>h.elim) (Oth.refl _ W) hD k3) hC
 show F2.c r5 _ W _
 rw [hr5]
 exact hr.ptr e5 (hC B hB)
theorem thaw5 {P0:Nat→Prop} {B:Nat} {F:Fact} {F2:Unit→Fact} {R:Frm} {st rs rs':List Atom} {ns:List Nat} {a:Act} {W:World} {s5 r5 ka kb kc hb:Nat} {e:Xp}
  (h5:Atom.sl s5 (.o (.c (.h r5)))∈st) (hr5:F.c r5=pAt w0 P0 B e) (hka:∀s,(F2 s).c ka=pI e.op) (hkb:∀s,(F2 s).c kb=pI e.n) (hkc:∀s,(F2 s).c kc=pLs cE e.l)
  (hrs:∀A∈rs,A∈st) (himp:∀s,Imp (KN w0) F (F2 s) rs rs') (hpur:rs'.all (Atom.pur ns)=true) (hnum:∀s,∀n∈ns,∃x,(F2 s).c n=pV x) (hR:R.pm.pn=[]) (hfr':rs'.all (fun A=>[hb].all fun c=>!A.has c)=true) (hP:∀q,R.β0.D q→P0 q)
  (hI:Inv (KN w0) F R st a W):∃s,True∧Inv (KN w0) (F2 s) R ([.sl s5 (.o (.c (.p hb 0))),.bx hb 32 [.h ka,.h kb,.h kc]]++rs') a W:=by
 refine zeK (fr:=[hb]) hrs himp hpur hnum (fun c _=>by rw [hR];exact fun h=>by cases h) hfr' (fun β hE hA=>?_) hI
 have v5:F.c r5 (a.tmps.getD s5 undef) W β.D:=hA _ h5
 rw [hr5] at v5
 obtain ⟨e5,cur,u,S,hh,hl,hcu,hs,hBS,hn⟩:=v5
 have hnB:=hn B (.inl rfl)
 have hge:Geo (KN w0) ⟨fun x=>if x=hb then some B else β x,β.len,fun q=>β.D q∧q ∉ [B]⟩ W:=ze5 [B] hE.geo (fun x q h=>by
   by_cases hx:x=hb
   ·rw [if_pos hx] at h;injection h with h;subst h;exact .inr ⟨by simp,hnB.1⟩
   ·rw [if_neg hx] at h;exact .inl h) (fun x y q h1 h2 hm=>by
   obtain rfl:=List.mem_singleton.1 hm
   have key:∀x,(if x=hb then some q else β x)=some q→x=hb:=fun x h=>Classical.byContradiction fun hx=>by
    rw [if_neg hx] at h;exact hE.geo.dis x q h hnB.1
   rw [key x h1,key y h2]) (fun q hm=>by obtain rfl:=List.mem_singleton.1 hm;exact hnB.2.2)
 refine ⟨(),⟨fun x=>if x=hb then some B else β x,β.len,fun q=>β.D q∧q ∉ [B]⟩,hge,fun x hx=>⟨if_neg (by simpa using hx),rfl⟩,fun q h1 h2 h3=>?_,fun q h=>h.1,fun x hx q hq=>?_,fun X hX=>?_⟩
 ·have hq:q=B:=Classical.byContradiction fun hne=>h2 ⟨h1,by simpa using hne⟩
  subst hq
  exact hnB.2.1 (hP q h3)
 ·obtain rfl:=List.mem_singleton.1 hx
  have hq:(if x=x then some B else β x)=some q:=hq
  rw [if_pos rfl] at hq;injection hq with hq;subst hq
  exact zb5 hE hP hnB.1 hnB.2.1
 ·simp only [List.mem_cons,List.not_mem_nil,or_false] at hX
  rcases hX with rfl | rfl
  ·exact ⟨B,if_pos rfl,e5⟩
  ·refine ⟨B,cur,if_pos rfl,hh,?_,?_,rfl,hnB.2.2⟩
   ·rw [hl]
    refine ⟨?_,?_,?_,trivial⟩
    ·show (F2 ()).c ka _ W _
     rw [hka];rfl
    ·show (F2 ()).c kb _ W _
     rw [hkb];rfl
    ·show (F2 ()).c kc _ W _
     rw [hkc]
     exact hs.reads fun q hq=>⟨(hn q (.inr hq)).1,fun hm=>hBS (by rw [← List.mem_singleton.1 hm];exact hq)⟩
   ·rw [hl]
    simp only [List.all_cons,List.all_nil,Bool.and_true,Bool.and_eq_true]
    exact ⟨rfl,rfl,hcu⟩
theorem thaw2 {P0:Nat→Prop} {B:Nat} {c:Xp×(Xp→Xp)} {F:Fact} {F2:Nat×Nat×List Value→Fact} {R:Frm} {st rs rs':List Atom} {ns:List Nat} {a:Act} {W:World} {s5 s6 r5 r6 k5 k6 ha hb no nl:Nat} {e:Xp} (hab:ha≠hb)
  (h5:Atom.sl s5 (.o (.c (.h r5)))∈st) (h6:Atom.sl s6 (.o (.c (.h r6)))∈st) (hr5:F.c r5=pAt w0 P0 B e) (hr6:F.c r6=pCur w0 P0 B c) (hk5:∀s,(F2 s).c k5=pHole B s.1 s.2.1 s.2.2 c.2) (hk6:∀s,(F2 s).c k6=pI (s.2.1:Int)) (hno:∀s,(F2 s).o no=oA s.1 s.2.1 s.2.2 c.1.op c.1.n true) (hnl:∀s,(F2 s).o nl=oL w0 c.1.l)
  (hrs:∀A∈rs,A∈st) (himp:∀s,Imp (KN w0) F (F2 s) rs rs') (hpur:rs'.all (Atom.pur ns)=true) (hnum:∀s,∀n∈ns,∃x,(F2 s).c n=pV x) (hR:R.pm.pn=[]) (hfr':rs'.all (fun A=>[ha,hb].all fun c=>!A.has c)=true) (hP:∀q,R.β0.D q→P0 q)
  (hI:Inv (KN w0) F R st a W):∃s,True∧Inv (KN w0) (F2 s) R ([.sl s5 (.o (.c (.h k5))),.sl s6 (.o (.c (.pf ha k6))),.hp [ha] [hb] no,.hp [hb] [] nl]++rs') a W:=by
 refine zeK (fr:=[ha,hb]) hrs himp hpur hnum (fun c _=>by rw [hR];exact fun h=>by cases h) hfr' (fun β hE hA=>?_) hI
 have v5:F.c r5 (a.tmps.getD s5 undef) W β.D:=hA _ h5
 have v6:F.c r6 (a.tmps.getD s6 undef) W β.D:=hA _ h6
 rw [hr5] at v5;rw [hr6] at v6
 obtain ⟨A,off,u,S,C,e6,hc⟩:=v6
 obtain ⟨cur,hh,hnd⟩:=NodeL.of hc.node
 have hnA:=hc.new A (.inl hc.inA)
 obtain ⟨oq,Z,ln,xs,hZ,hZA,hZq,hrow,hval,hxs,hmlq⟩:∃(oq:Option Nat) (Z:List Nat) (ln:Nat×Nat) (xs:List Value),(∀q,q∈Z↔q=A∨oq=some q)∧oq≠some A∧(∀q,oq=some q→q∈S)∧W.ownsRow w0.heap.size 32 3 u c.1.l.length xs∧(match oq with | none=>Value.slice none 0 0 | some q=>.slice (some ⟨q,0,none⟩) ln.1 ln.2)=u∧pG cE c.1.l xs W (fun q=>β.D q∧q ∉ Z)∧(∀q,oq=some q→∃o,W.heap[q]?=some o∧ml (KN w0) o=true):=by
  have hsp:=hc.sp
  have hnw:=fun q hq=>hc.new q (.inr hq)
  have hdis:=fun q hq=>hc.dis q hq
  generalize c.1.l=l at hsp ⊢
  cases hsp with
  | nil=>exact ⟨none,[A],(0,0),[],(fun q=>by simp),(by simp),(fun q h=>by cases h),⟨rfl,.inl ⟨rfl,rfl⟩⟩,rfl,trivial,(fun q h=>by cases h)⟩
  | @cons _ q cap cr S1 hq h1 h2 h3 hk hn hcc =>
   have hqA:q≠A:=fun h=>hdis q (List.mem_cons_self ..) (h ▸ hc.inA)
   refine ⟨some q,[A,q],(l.length,cap),_,fun p=>by simp [eq_comm],fun h=>hqA (Option.some.inj h),fun p h=>by rw [← Option.some.inj h];exact List.mem_cons_self ..,⟨?_,.inr ⟨q,cap,cr,rfl,(hnw q (List.mem_cons_self ..)).2.2,hq,h1,h2,h3,rfl⟩⟩,rfl,?_,fun p h=>?_⟩
   ·rw [List.length_take,show cr.toList.length=cr.size from Array.length_toList,h3];exact Nat.min_eq_left (Nat.mul_le_mul_right 3 h1)
   ·refine SpC.reads hcc fun p hp=>⟨(hnw p (List.mem_cons_of_mem _ hp)).1,fun hm=>?_⟩
    simp only [List.mem_cons,List.not_mem_nil,or_false] at hm
    rcases hm with rfl | rfl
    ·exact hdis p (List.mem_cons_of_mem _ hp) hc.inA
    ·exact hn hp
   ·injection h with h;subst h
    exact ⟨_,hq,by simp only [ml,mlf,Bool.and_eq_true];exact ⟨rfl,hk⟩⟩
 have hnq:∀q,oq=some q→β.D q∧¬ P0 q∧w0.heap.size≤q:=fun q hq=>hc.new q (.inr (hZq q hq))
 have hnZ:∀q∈Z,β.D q∧¬ P0 q∧w0.heap.size≤q:=fun q hq=>((hZ q).1 hq).elim (fun h=>h ▸ hnA) (hnq q)
 let f:Nat→Option Nat:=fun x=>if x=ha then some A else if x=hb then oq else β x
 have f1:f ha=some A:=if_pos rfl
 have f2:f hb=oq:=(if_neg (Ne.symm hab)).trans (if_pos rfl)
 have f3:∀x,x≠ha→x≠hb→f x=β x:=fun x h1 h2=>(if_neg h1).trans (if_neg h2)
 have hge:Geo (KN w0) ⟨f,fun x=>if x=hb then ln else β.len x,fun q=>β.D q∧q ∉ Z⟩ W:=ze5 Z hE.geo (fun x q h=>by
   by_cases hx:x=ha
   ·subst hx;rw [f1] at h;injection h with h;subst h;exact .inr ⟨(hZ _).2 (.inl rfl),hnA.1⟩
   ·by_cases hy:x=hb
    ·subst hy;rw [f2] at h;exact .inr ⟨(hZ _).2 (.inr h),(hnq q h).1⟩
    ·rw [f3 x hx hy] at h;exact .inl h) (fun x y q h1 h2 hm=>by
   have key:∀x,f x=some q→(q=A∧x=ha)∨(q≠A∧x=hb):=fun x h=>by
    by_cases hx:x=ha
    ·subst hx;rw [f1] at h;injection h with h;exact .inl ⟨h.symm,rfl⟩
    ·by_cases hy:x=hb
     ·subst hy;rw [f2] at h;exact .inr ⟨fun e=>hZA (e ▸ h),rfl⟩
     ·rw [f3 x hx hy] at h;exact absurd (hnZ q hm).1 (hE.geo.dis x q h)
   rcases key x h1 with ⟨p1,p2⟩ | ⟨p1,p2⟩<;>rcases key y h2 with ⟨p3,p4⟩ | ⟨p3,p4⟩
   ·rw [p2,p4]
   ·exact absurd p1 p3
   ·exact absurd p3 p1
   ·rw [p2,p4]) fun q hm=>(hnZ q hm).2.2
 refine ⟨(A,off,cur.toList),⟨f,fun x=>if x=hb then ln else β.len x,fun q=>β.D q∧q ∉ Z⟩,hge,fun x hx=>⟨f3 x (fun h=>hx (by simp [h])) (fun h=>hx (by simp [h])),if_neg fun h=>hx (by simp [h])⟩,fun q h1 h2 h3=>?_,fun q h=>h.1,fun x hx q hq=>?_,fun X hX=>?_⟩
 ·have hm:q∈Z:=Classical.byContradiction fun hne=>h2 ⟨h1,hne⟩
  exact (hnZ q hm).2.1 (hP q h3)
 ·have hq:f x=some q:=hq
  simp only [List.mem_cons,List.not_mem_nil,or_false] at hx
  rcases hx with rfl | rfl
  ·rw [f1] at hq;injection hq with hq;subst hq
   exact zb5 hE hP hnA.1 hnA.2.1
  ·rw [f2] at hq
   exact zb5 hE hP (hnq q hq).1 (hnq q hq).2.1
 ·simp only [List.mem_cons,List.not_mem_nil,or_false] at hX
  have e2:gv ⟨f,fun x=>if x=hb then ln else β.len x,fun q=>β.D q∧q ∉ Z⟩ hb=u:=by
   unfold gv
   show (match f hb with | none=>_ | some q=>_)=_
   rw [f2,← hval]
   simp
  rcases hX with rfl | rfl | rfl | rfl
  ·show (F2 _).c k5 _ W _
   rw [hk5]
   exact hc.hol hh (fun q hq hne=>⟨(hc.new q (.inl hq)).1,fun hm=>((hZ q).1 hm).elim hne fun h=>hc.dis q (hZq q h) hq⟩) v5.1
  ·exact ⟨A,off,f1,e6,by rw [hk6];rfl⟩
  ·refine ⟨?_,fun x hx q hq=>?_⟩
   ·rw [hno]
    exact ⟨_,_,cur,u,by rw [List.map_cons,List.map_nil,gv_nm f1],hh,hnd,fun _=>by rw [List.map_cons,List.map_nil,e2]⟩
   ·have hq:f x=some q:=hq
    obtain rfl:=List.mem_singleton.1 hx
    rw [f1] at hq;injection hq with hq;subst hq
    exact ⟨hnA.2.2,_,hh,by simp only [ml,mlf,Bool.and_eq_true];exact ⟨rfl,hc.ck cur hh⟩⟩
  ·refine ⟨?_,fun x hx q hq=>?_⟩
   ·rw [hnl]
    exact ⟨u,xs,by rw [List.map_cons,List.map_nil,e2],hrow,hxs⟩
   ·have hq:f x=some q:=hq
    obtain rfl:=List.mem_singleton.1 hx
    rw [f2] at hq
    exact ⟨(hnq q hq).2.2,hmlq q hq⟩
theorem znD {F F2:Fact} {R:Frm} {st rs rs':List Atom} {a:Act} {W:World} {s5 k5 r5 ha hb no nl A off B:Nat} {vs:List Value} {ctx:Xp→Xp} {o n:Int} {l:List Xp} (hF:Fine (KN w0) F) (hF2:Fine (KN w0) F2)
  (h5:Atom.sl s5 (.o (.c (.h k5)))∈st) (hh:Atom.hp [ha] [hb] no∈st) (hh2:Atom.hp [hb] [] nl∈st) (hk5:F.c k5=pHole B A off vs ctx) (hno:F.o no=oA A off vs o n true) (hnl:F.o nl=oL w0 l) (hr5:F2.c r5=pP (cE (ctx (.mk o n l))))
  (hrs:∀A∈rs,A∈st) (himp:Imp (KN w0) F F2 rs rs') (hR:R.pm.pn=[]) (hfr':rs'.all (fun A=>[ha,hb].all fun c=>!A.has c)=true) (hI:Inv (KN w0) F R st a W):Inv (KN w0) F2 R ([.sl s5 (.o (.c (.h r5)))]++rs') a W:=by
 refine zhI (fr:=[ha,hb]) hF hrs himp hF2 (fun c _=>by rw [hR];exact fun h=>by cases h) hfr' (fun β hg hA X hX=>?_) hI
 obtain rfl:=List.mem_singleton.1 hX
 have v5:F.c k5 (a.tmps.getD s5 undef) W β.D:=hA _ h5
 have vh:=(hA _ hh:HP (KN w0) F β [ha] [hb] no W).1
 have vl:=(hA _ hh2:HP (KN w0) F β [hb] [] nl W).1
 rw [hk5] at v5;rw [hno] at vh;rw [hnl] at vl
 obtain ⟨e5,C,hB,g1,g2⟩:=v5
 obtain ⟨c1,c2,cur,u,e,k1,k2,k5⟩:=vh
 obtain ⟨v2,xs,e3,k3,k4⟩:=vl
 have e1:=za9 ((List.cons.inj e).1:gv β ha=_)
 have e2:gv β hb=v2:=(List.cons.inj e3).1
 have k5:u=v2:=e2 ▸ ((List.cons.inj (k5 rfl)).1:gv β hb=u).symm
 have hD:∀q,β.D q→(β.D q∨∃c∈[ha,hb],β c=some q):=fun q h=>.inl h
 have hC:∀q∈C,(β.D q∨∃c∈[ha,hb],β c=some q):=fun q hq=>by
  by_cases hqA:q=A
  ·subst hqA;exact .inr ⟨ha,by simp,e1⟩
  ·exact .inl (g1 q hq hqA).1
 have hls:pLs cE l u W (fun q=>β.D q∨∃c∈[ha,hb],β c=some q):=by
  have hx:=(qO (K:=KN w0) (zf rfl)).mv (S:=fun _=>False) (fun _ h=>h.elim) (Oth.refl _ W) hD k4
  rw [k5]
  rcases k3.2 with ⟨hv,h0⟩ | ⟨q,cap,cr,hv,hb',hq,h1,h2,h3,h4⟩
  ·have:l=[]:=List.eq_nil_of_length_eq_zero h0
   subst this
   exact .inl ⟨⟨none,0,hv⟩,rfl,rfl⟩
  ·refine .inr ⟨q,0,cap,_,cr,(0,0),hv,.inr ⟨hb,by simp,za9 (e2.trans hv)⟩,hq,?_,h1⟩
   show okl (l.flatMap cE) ((cr.toList.drop 0).take (l.flatMap cE).length) W _
   rw [List.drop_zero,q6 zj,h4];exact hx
 have hr:=g2 W _ o n l u cur (fun _ _ _=>rfl) k1 k2 hls hC
 show F2.c r5 _ W _
 rw [hr5]
 exact hr.ptr e5 (hC B hB)
end
end Go.Proofs.YtdkofaajcpcjkaaGreatDoor
namespace Go.Proofs.YtdkofaajcpcjkaaGreatDoor
open Go.RowKit
section
variable {w0:World} {P:Program} {F:Fact} {A off:Nat} {vs:List Value} {o n:Int} {l:List Xp} {st:Bool} {ha hb m m':Nat}
theorem oA_at {β:Loc} {W:World} {rs:List Nat} (hn:F.o m=oA A off vs o n st) (h:HP (KN w0) F β [ha] rs m W):∃cur u,β ha=some A∧W.heap[A]?=some (.cells cur 32 (0,0))∧NodeL vs off o n u cur.toList∧(st=true→rs.map (gv β)=[u])∧(∃c1 c2,gv β ha=.slice (some ⟨A,0,none⟩) c1 c2):=by
 have h1:=h.1
 rw [hn] at h1
 obtain ⟨c1,c2,cur,u,e,k1,k2,k5⟩:=h1
 exact ⟨cur,u,za9 ((List.cons.inj e).1:gv β ha=_),k1,k2,k5,c1,c2,(List.cons.inj e).1⟩
theorem oL_at {β:Loc} {W:World} (hn:F.o m=oL w0 l) (h:HP (KN w0) F β [hb] [] m W):∃xs,W.ownsRow w0.heap.size 32 3 (gv β hb) l.length xs∧pG cE l xs W β.D:=by
 have h1:=h.1
 rw [hn] at h1
 obtain ⟨v,xs,e,k3,k4⟩:=h1
 have e2:gv β hb=v:=(List.cons.inj e).1
 exact ⟨xs,e2 ▸ k3,k4⟩
theorem e_ldM {T:TypeId} {k:Nat} (hA:aggOf P T=some false) (hk:F.c k=pI ((off+2:Nat):Int)) (hn:F.o m=oA A off vs o n true):Ent.sound (KN w0) P F (.op (.ld T) [LF (.pf ha k)] [.hp [ha] [hb] m] (LF (.gr hb))):=by
 intro β W ws hs hp _
 match ws,hs with
 | [v],⟨g1,_⟩ =>
  obtain ⟨q,g2,rfl⟩:=pf_at hk g1
  obtain ⟨cur,u,e2,h1,h2,h5,_⟩:=oA_at hn (hp _ (List.mem_cons_self ..))
  rw [g2] at e2;injection e2 with e2;subst e2
  refine ⟨u,?_,((List.cons.inj (h5 rfl)).1:gv β hb=u).symm⟩
  have hcc:cur[off+2]?=some u:=by rw [← Array.getElem?_toList];exact h2.2.2.2.2.2
  simp only [Sig.sem,Instr.loadAt,Instr.sureAddr,Sem.run_bind,Sem.run_pure,Result.andThen_ok,loadVar,zaO hA]
  simp [run_load,qz h1,hcc]
 | [],h=>exact h.elim
 | _::_::_,h=>exact h.2.elim
theorem zoV {T R E:TypeId} {y:Lf} (hT:P.underlying T=some (.slice E)) (hn:F.o m=oL w0 l) (hy:Gives F y (.int .i64 (l.length:Int))):Ent.sound (KN w0) P F (.op (.len [T] R) [LF (.gr hb)] [.hp [hb] [] m] (LF y)):=by
 intro β W ws hs hp _
 match ws,hs with
 | [v],⟨g1,_⟩ =>
  have g1:v=gv β hb:=g1
  obtain ⟨xs,h3,_⟩:=oL_at hn (hp _ (List.mem_cons_self ..))
  refine ⟨.int .i64 (l.length:Int),?_,(hy β _ W).2 rfl⟩
  rw [g1]
  rcases h3.2 with ⟨hv,h0⟩ | ⟨q,cap,cr,hv,_⟩
  ·rw [hv,h0];simp [Sig.sem,Builtin.len_,run_underlying hT,goInt]
  ·rw [hv];simp [Sig.sem,Builtin.len_,run_underlying hT,goInt]
 | [],h=>exact h.elim
 | _::_::_,h=>exact h.2.elim
theorem e_iaM {T:TypeId} {y:Lf} {j k:Nat} (hT:P.underlying T=some (.slice 32)) (hz:szOf P 32=some 3) (hn:F.o m=oL w0 l) (hy:Gives F y (.int .i64 (j:Int))) (hj:j<l.length) (hk:F.c k=pI ((j*3:Nat):Int)):Ent.sound (KN w0) P F (.op (.ia T) [LF (.gr hb),LF y] [.hp [hb] [] m] (LF (.pf hb k))):=by
 intro β W ws hs hp _
 match ws,hs with
 | [v,w],⟨g1,g2,_⟩ =>
  have g1:v=gv β hb:=g1
  have g2:w=.int .i64 (j:Int):=(hy β w W).1 g2
  obtain ⟨xs,h3,_⟩:=oL_at hn (hp _ (List.mem_cons_self ..))
  rcases h3.2 with ⟨hv,h0⟩ | ⟨q,cap,cr,hv,_⟩
  ·omega
  ·rw [g1,g2,hv]
   refine ⟨.pointer (some ⟨q,j*3,none⟩),?_,q,j*3,za9 hv,rfl,by rw [hk];rfl⟩
   simp only [Sig.sem,Instr.indexAt,Sem.run_bind,asIntOf,run_underlying hT,Result.andThen_ok,Sem.run_pure]
   rw [if_pos ⟨Int.natCast_nonneg j,Int.ofNat_lt.2 hj⟩,Sem.run_bind,qU hz,Result.andThen_ok,Int.toNat_natCast,zan,Nat.zero_add];rfl
 | [],h=>exact h.elim
 | [_],h=>exact h.2.elim
 | _::_::_::_,h=>exact h.2.2.elim
theorem e_stM {T:TypeId} {k:Nat} (hz:szOf P T=some 1) (hk:F.c k=pI ((off+2:Nat):Int)) (hn:F.o m=oA A off vs o n false) (hn':F.o m'=oA A off vs o n true):Ent.sound (KN w0) P F (.st T [ha] (LF (.pf ha k)) (LF (.gr hb)) [.hp [ha] [] m] [.hp [ha] [hb] m']):=by
 intro β W vx vy hx hyv hp hg
 obtain ⟨q,g2,rfl⟩:=pf_at hk hx
 have hyv:vy=gv β hb:=hyv
 have hpp:HP (KN w0) F β [ha] [] m W:=hp _ (List.mem_cons_self ..)
 obtain ⟨cur,u,e2,k1,k2,_,c1,c2,e1⟩:=oA_at hn hpp
 rw [g2] at e2;injection e2 with e2;subst e2
 have hlen:off+2<cur.size:=by have:=k2.1;have:=k2.2.1;rw [← Array.length_toList];omega
 have hck:(KN w0).ck vy=true:=by
  rw [hyv];unfold gv
  split<;>rfl
 obtain ⟨W',hrun,hput⟩:=zfH (K:=KN w0) hz hck k1 hlen
 obtain ⟨hb1,ob,hb2,hb3⟩:=hpp.2 ha (List.mem_cons_self ..) _ g2
 rw [k1] at hb2;injection hb2 with hb2;subst hb2
 simp only [ml,mlf,Bool.and_eq_true] at hb3
 refine ⟨W',hrun,hput.oth.mono (fun r hr=>⟨ha,by simp,by rw [hr];exact g2⟩),fun z hz=>?_⟩
 obtain rfl:=List.mem_singleton.1 hz
 refine ⟨?_,fun c hc r hr=>?_⟩
 ·rw [hn']
  exact ⟨c1,c2,_,vy,by rw [List.map_cons,List.map_nil,e1],hput.here,by simpa using k2.set (i:=2) (by decide) (.inr (.inr ⟨rfl,rfl,rfl,rfl⟩)),fun _=>by rw [List.map_cons,List.map_nil,hyv]⟩
 ·obtain rfl:=List.mem_singleton.1 hc
  have er:q=r:=Option.some.inj (g2.symm.trans hr)
  subst er
  exact ⟨hb1,_,hput.here,by simp only [ml,mlf,hb3.1,Bool.true_and];exact ze3 hb3.2 (by have hck:ckf (KN w0).bad vy=true:=hck;simp [hck])⟩
theorem zkz {K:Kit} {W:World} {T U:TypeId} {q i:Nat} {us:List Value} {vs:Array Value} (hz:szOf P T=some us.length) (hck:us.all K.ck=true) (hh:W.heap[q]?=some (.cells vs U (0,0))) (hl:i+us.length≤vs.size):∃W',(Instr.storeAt T (.pointer (some ⟨q,i,none⟩)) (.agg us.toArray)).run P W=.ok () W'∧Put q (.cells (spl vs.toList i us).toArray U (0,0)) W W':=by
 obtain ⟨W',hrun,hput⟩:=zcd (P:=P) (o:=i) us 0 W vs hh (by simpa using hl) (fun u hu=>zhp (List.all_eq_true.1 hck u hu))
 refine ⟨W',?_,hput⟩
 simp only [Instr.storeAt,Instr.sureAddr,Sem.run_bind,Sem.run_pure,Result.andThen_ok,storeVar,qU hz]
 have hc:(Value.agg us.toArray).cells=us.toArray:=rfl
 rw [hc,if_neg (by simp)]
 exact hrun
theorem e_stE {k:Nat} {e0:Xp} {x y:Int} (hz:szOf P 32=some 3) (hk:F.c k=pI ((l.length*3:Nat):Int)) (hn:F.o m=oL w0 (l++[e0])) (hn':F.o m'=oL w0 (l++[.mk x y []])):Ent.sound (KN w0) P F (.st 32 [hb] (LF (.pf hb k)) (.o (.g [.k (.int .i64 x),.k (.int .i64 y),.k (.slice none 0 0)])) [.hp [hb] [] m] [.hp [hb] [] m']):=by
 intro β W vx vy hx hyv hp hg
 obtain ⟨q,g2,rfl⟩:=pf_at hk hx
 obtain ⟨us,rfl,hus⟩:=hyv
 have hul:us=[.int .i64 x,.int .i64 y,.slice none 0 0].toArray:=by
  apply Array.ext'
  match hu:us.toList,hus with
  | [v1,v2,v3],⟨j1,j2,j3,_⟩ =>
   have j1:v1=.int .i64 x:=j1
   have j2:v2=.int .i64 y:=j2
   have j3:v3=.slice none 0 0:=j3
   rw [j1,j2,j3]
 subst hul
 have hpp:HP (KN w0) F β [hb] [] m W:=hp _ (List.mem_cons_self ..)
 obtain ⟨xs,k3,k4⟩:=oL_at hn hpp
 rcases k3.2 with ⟨_,h0⟩ | ⟨g,cap,cr,hv,hbb,hh,h1,h2,h3,h4⟩
 ·simp at h0
 have egq:g=q:=Option.some.inj ((za9 hv).symm.trans g2)
 subst egq
 rw [List.length_append,List.length_singleton] at h1 h4
 have hxl:=qF k4
 rw [q6 zj,List.length_append,List.length_singleton] at hxl
 obtain ⟨W',hrun,hput⟩:=zkz (K:=KN w0) (P:=P) (T:=32) (us:=[.int .i64 x,.int .i64 y,.slice none 0 0]) hz rfl hh (i:=l.length*3) (by simp;omega)
 obtain ⟨hb1,ob,hb2,hb3⟩:=hpp.2 hb (by simp) _ g2
 rw [hh] at hb2;injection hb2 with hb2;subst hb2
 simp only [ml,mlf,Bool.and_eq_true] at hb3
 have hml:∀r,r=g→Mlq (KN w0) β.D W r:=by
  rintro r rfl
  exact ⟨hb1,hg.dis hb r g2,_,hh,by simp only [ml,mlf,hb3.1,hb3.2,Bool.and_true]⟩
 have hsl:(spl cr.toList (l.length*3) [Value.int .i64 x,.int .i64 y,.slice none 0 0]).length=cr.toList.length:=zcD (by simp;omega)
 refine ⟨W',hrun,hput.oth.mono (fun r hr=>⟨hb,by simp,by rw [hr];exact g2⟩),fun z hz=>?_⟩
 obtain rfl:=List.mem_singleton.1 hz
 refine ⟨?_,fun c hc r hr=>?_⟩
 ·rw [hn']
  have htk:(spl cr.toList (l.length*3) [Value.int .i64 x,.int .i64 y,.slice none 0 0]).take ((l.length+1)*3)=xs.take (l.length*3)++[.int .i64 x,.int .i64 y,.slice none 0 0]:=by
   rw [← h4,List.take_take,Nat.min_eq_left (by omega)]
   unfold spl
   have hl3:(cr.toList.take (l.length*3)).length=l.length*3:=by rw [List.length_take];exact Nat.min_eq_left (by simp;omega)
   rw [List.take_append,hl3,List.take_of_length_le (by rw [hl3];omega),show (l.length+1)*3 - l.length*3=3 by omega]
   rfl
  refine ⟨gv β hb,xs.take (l.length*3)++[.int .i64 x,.int .i64 y,.slice none 0 0],rfl,⟨?_,.inr ⟨g,cap,_,by rw [hv];simp,hbb,hput.here,by simpa using h1,h2,by rw [List.size_toArray,hsl,Array.length_toList];exact h3,?_⟩⟩,?_⟩
  ·rw [List.length_append,List.length_take,List.length_append,Nat.min_eq_left (by omega)]
   simp [Nat.add_mul]
  ·rw [List.length_append,List.length_singleton];exact htk
  ·have hsp:=(qO (K:=KN w0) (zf rfl) (l:=l++[e0])).mv hml hput.oth (fun _ h=>h) k4
   unfold pG at hsp ⊢
   rw [List.flatMap_append] at hsp ⊢
   obtain ⟨s1,_⟩:=zdq hsp
   rw [q6 zj] at s1
   refine zau s1 ?_
   rw [List.flatMap_cons,List.flatMap_nil,List.append_nil,cE_eq]
   exact ⟨rfl,rfl,.inl ⟨⟨_,_,rfl⟩,rfl,rfl⟩,trivial⟩
 ·obtain rfl:=List.mem_singleton.1 hc
  have er:g=r:=Option.some.inj (g2.symm.trans hr)
  subst er
  exact ⟨hb1,_,hput.here,by simp only [ml,mlf,hb3.1,Bool.true_and];exact ze3 hb3.2 rfl⟩
theorem e_apM {t:TypeId} {b':Nat} {zs:List Value} {kb:Nat} (hab:ha≠hb) (hu:P.underlying t=some (.slice 32)) (hz:szOf P 32=some 3) (hzo:zcg P 32=some zs) (hby:zev P 32=some kb) (hkb:kb≤128) (hzl:zs.length=3) (hzck:zs.all (KN w0).ck=true) {n1 n2:Nat} (hl:l.length≤1000000) (hn:F.o m=oL w0 l) (hn':F.o m'=oL w0 (l++[.mk 0 0 []])) (hn1:F.o n1=oA A off vs o n st) (hn2:F.o n2=oA A off vs o n false):Ent.sound (KN w0) P F (.ap t [hb] (LF (.gr hb)) (.o (.c (.s b' 0 1 1))) (LF (.gr hb)) [.hp [hb] [] m,.hp [ha] [hb] n1,.bx b' 32 [.k (.int .i64 0),.k (.int .i64 0),.k (.slice none 0 0)]] [.hp [hb] [] m',.hp [ha] [] n2]):=by
 intro β W vx vy ty hx hy hp hg
 have hx:vx=gv β hb:=hx
 subst hx
 obtain ⟨q0,hq0,rfl⟩:=hy
 obtain ⟨q1,us,hq1,hh,hoks,hck,_,_⟩:=hp (.bx b' 32 [.k (.int .i64 0),.k (.int .i64 0),.k (.slice none 0 0)]) (by simp)
 have eq1:q1=q0:=Option.some.inj (hq1.symm.trans hq0)
 subst eq1
 have hul:us.toList=[.int .i64 0,.int .i64 0,.slice none 0 0]:=by
  match hu:us.toList,hoks with
  | [v1,v2,v3],⟨j1,j2,j3,_⟩ =>
   have j1:v1=.int .i64 0:=j1
   have j2:v2=.int .i64 0:=j2
   have j3:v3=.slice none 0 0:=j3
   rw [j1,j2,j3]
 have hpp:HP (KN w0) F β [hb] [] m W:=hp _ (List.mem_cons_self ..)
 have hpA:HP (KN w0) F β [ha] [hb] n1 W:=hp _ (List.mem_cons_of_mem _ (List.mem_cons_self ..))
 obtain ⟨xs,k3,k4⟩:=oL_at hn hpp
 obtain ⟨cur,u,eA,k1,k2,_,c1,c2,e1⟩:=oA_at hn1 hpA
 have hreads:zgf W 3 (.slice (some ⟨q1,0,none⟩) 1 1) us.toList:=.inr ⟨⟨q1,0,none⟩,1,1,rfl,by rw [hul];rfl,fun j w hw=>by
  rw [show (⟨q1,0,none⟩:Addr).add j=⟨q1,0+j,none⟩ from zan ..,Nat.zero_add,qz hh]
  simpa using hw⟩
 have hxl:=k3.1
 obtain ⟨v',W',n',hrun,ho2,hgb,hblk⟩:=zfe (K:=KN w0) (ty:=ty) hu hz hzo hby (by decide) hkb hzl hzck rfl k3 hg.bel.size hreads hck (by rw [List.length_append,hxl,hul];simp;omega) (fun q hq=>by
  rw [zhG] at hq
  exact (hpp.2 hb (by simp) q hq).2)
 have hnn:n'=l.length+1:=by
  have h1:=ho2.1
  rw [List.length_append,hxl,hul] at h1
  simp only [List.length_cons,List.length_nil] at h1
  omega
 subst hnn
 let cap:Nat:=match v' with
  | .slice _ _ c=>c
  | _=>0
 let β':Loc:=⟨fun c=>if c=hb then v'.ownBlock else β c,fun c=>if c=hb then (l.length+1,cap) else β.len c,β.D⟩
 have hsm:∀c,c≠hb→β.same β' c:=fun c hc=>⟨if_neg hc,if_neg hc⟩
 have hbb:β' hb=v'.ownBlock:=if_pos rfl
 have hlb:β'.len hb=(l.length+1,cap):=if_pos rfl
 have hown0:(gv β hb).ownBlock=β hb:=zhG
 have hO:Oth (fun q=>∃c∈[hb],β c=some q) W W':=by
  refine ⟨hgb.os,hgb.tape,hgb.output,hgb.size,fun q hq hS=>hgb.block q hq fun e=>hS ⟨hb,by simp,?_⟩⟩
  rw [hown0] at e;exact e.symm
 have hmls:∀q,(∃c∈[hb],β c=some q)→Mlq (KN w0) β.D W q:=fun q ⟨c,hc,hq⟩=>HP.ml hg hpp hc hq
 have hgv:gv β' hb=v':=by
  unfold gv
  rw [hbb,hlb]
  rcases ho2.2 with ⟨rfl,h⟩ | ⟨g,cp,cr,rfl,_⟩
  ·rfl
  ·rfl
 have hnew:∀q,β' hb=some q→β hb=some q∨W.heap.size≤q:=fun q hq=>by
  rw [hbb] at hq
  rw [← hown0];exact (hblk q hq).1
 have hlt':∀q,v'.ownBlock=some q→q<W'.heap.size:=fun q hq=>(ho2.lt q hq).2
 have hAk:W'.heap[A]?=W.heap[A]?:=hgb.block A (Array.getElem?_eq_some_iff.1 k1).1 fun e=>by
  rw [hown0] at e
  exact hab (hg.inj ha hb A eA e.symm)
 refine ⟨v',β',W',hrun,⟨fun c q hc=>?_,fun c d q hc hd=>?_,hg.bel.trans (hO.ofOth (fun q hq=>(hmls q hq).1) hg.bel.size),fun c q hc hD=>?_,fun q hq=>Nat.lt_of_lt_of_le (hg.dlt q hq) hO.size,hg.low⟩,fun c hc=>hsm c (fun e=>hc (by simp [e])),fun c hc q hq=>?_,hO,fun _ h=>h,fun _ h=>.inl h,hgv.symm,fun z hz=>?_⟩
 ·by_cases hcb:c=hb
  ·subst hcb;exact hlt' q (by rw [← hbb];exact hc)
  ·rw [(hsm c hcb).1] at hc
   exact Nat.lt_of_lt_of_le (hg.lt c q hc) hO.size
 ·by_cases hcb:c=hb
  ·by_cases hdb:d=hb
   ·rw [hcb,hdb]
   ·exfalso
    subst hcb
    rw [(hsm d hdb).1] at hd
    rcases hnew q hc with h | h
    ·exact hdb (hg.inj d c q hd h)
    ·have:=hg.lt d q hd;omega
  ·by_cases hdb:d=hb
   ·exfalso
    subst hdb
    rw [(hsm c hcb).1] at hc
    rcases hnew q hd with h | h
    ·exact hcb (hg.inj c d q hc h)
    ·have:=hg.lt c q hc;omega
   ·rw [(hsm c hcb).1] at hc
    rw [(hsm d hdb).1] at hd
    exact hg.inj c d q hc hd
 ·by_cases hcb:c=hb
  ·subst hcb
   rcases hnew q hc with h | h
   ·exact hg.dis c q h hD
   ·have:=hg.dlt q hD;omega
  ·rw [(hsm c hcb).1] at hc
   exact hg.dis c q hc hD
 ·obtain rfl:=List.mem_singleton.1 hc
  exact hnew q hq
 ·simp only [List.mem_cons,List.not_mem_nil,or_false] at hz
  rcases hz with rfl | rfl
  ·refine ⟨?_,fun c hc q hq=>?_⟩
   ·rw [hn']
    refine ⟨v',xs++us.toList,by rw [List.map_cons,List.map_nil,hgv],by rw [List.length_append,List.length_singleton];exact ho2,?_⟩
    have hsp:=(qO (K:=KN w0) (zf rfl) (l:=l)).mv hmls hO (fun _ h=>h) k4
    unfold pG at hsp ⊢
    rw [List.flatMap_append,hul]
    refine zau hsp ?_
    rw [List.flatMap_cons,List.flatMap_nil,List.append_nil,cE_eq]
    exact ⟨rfl,rfl,.inl ⟨⟨_,_,rfl⟩,rfl,rfl⟩,trivial⟩
   ·obtain rfl:=List.mem_singleton.1 hc
    rw [hbb] at hq
    exact ⟨(ho2.lt q hq).1,(hblk q hq).2⟩
  ·refine ⟨?_,fun c hc q hq=>?_⟩
   ·rw [hn2]
    exact ⟨c1,c2,cur,u,by rw [List.map_cons,List.map_nil,(gv_sm (hsm ha hab)).1,e1],hAk.trans k1,k2,fun h=>by cases h⟩
   ·obtain rfl:=List.mem_singleton.1 hc
    rw [(hsm c hab).1] at hq
    obtain ⟨p1,ob,p2,p3⟩:=hpA.2 c (by simp) q hq
    have:A=q:=Option.some.inj (eA.symm.trans hq)
    subst this
    exact ⟨p1,ob,hAk.trans p2,p3⟩
end
end Go.Proofs.YtdkofaajcpcjkaaGreatDoor
namespace Go.Proofs.YtdkofaajcpcjkaaGreatDoor
open Go.RowKit
theorem zmz {w0:World} (n:Int) (m:Int) (v1:Bool) (e1:(decide (m<(1:Int)))=v1) (h2:v1=true):Fun (KN w0) Tryz.prog 38 [.o (.c (pI n)),.o (.c (pI m))] (.o (.c (pV (.int .i64 0)))):=
 zk (zr (F:=FL [pI n,pI m,pB v1] []) (C:=[(1000002,.bin .lss 3 (yh 1) (LF (.k (.int .i64 1))) (yh 2)),
  (10002,.fb 2 true)]) (k:=⟨38,[yh 0,yh 1],[],.o (.c (.k (.int .i64 0))),[]⟩) 0 (zg ⟨za,za,za,trivial⟩) ⟨e_bin (zb rfl) zd (zb rfl) (r_cmp (congrArg some e1)),
  e_fbv h2,
  trivial⟩ mixed (by kernel_rfl))
theorem zmA {w0:World} (n:Int) (m:Int) (v1:Bool) (v3:Int) (v5:Int) (v6:Int) (e1:(decide (m<(1:Int)))=v1) (e3:((n:Int).tmod m)=v3) (e5:(IntKind.i64.wrap (v3+m))=v5) (e6:((v5:Int).tmod m)=v6) (h2:v1=false) (s4:m≠0) (s7:m≠0):Fun (KN w0) Tryz.prog 38 [.o (.c (pI n)),.o (.c (pI m))] (.o (.c (pI v6))):=
 zk (zr (F:=FL [pI n,pI m,pB v1,pI v3,pI v5,pI v6] []) (C:=[(1000002,.bin .lss 3 (yh 1) (LF (.k (.int .i64 1))) (yh 2)),
  (10002,.fb 2 false),
  (1000005,.bin .rem 3 (yh 0) (yh 1) (yh 3)),
  (1000007,.bin .add 3 (yh 3) (yh 1) (yh 4)),
  (1000009,.bin .rem 3 (yh 4) (yh 1) (yh 5))]) (k:=⟨38,[yh 0,yh 1],[],yh 5,[]⟩) 0 (zg ⟨za,za,za,za,za,za,trivial⟩) ⟨e_bin (zb rfl) zd (zb rfl) (r_cmp (congrArg some e1)),
  e_fbv h2,
  e_bin (zb rfl) (zb rfl) (zb rfl) (r_ar ((zaH s4).trans (congrArg some e3))),
  e_bin (zb rfl) (zb rfl) (zb rfl) (r_ar (congrArg some e5)),
  e_bin (zb rfl) (zb rfl) (zb rfl) (r_ar ((zaH s7).trans (congrArg some e6))),
  trivial⟩ mixed (by kernel_rfl))
theorem x_mod {w0:World} (n m:Int) (r:Int) (hr:modX n m=r):Fun (KN w0) Tryz.prog 38 [.o (.c (pI n)),.o (.c (pI m))] (.o (.c (pI r))):=by
 obtain ⟨v1,e1⟩:∃v,(decide (m<(1:Int)))=v:=⟨_,rfl⟩
 cases h2:v1 with
 | true =>
  refine Fun.imp (zmz n m v1 e1 h2) (fun _ _ _ h=>h) (fun v W D h=>?_)
  have r0:r=(0:Int):=by
   (have dh2:=of_decide_eq_true (e1.trans h2);rw [← hr];unfold modX;rw [if_pos (by omega)])
  rw [r0];exact h
 | false =>
  obtain ⟨v3,e3⟩:∃v,((n:Int).tmod m)=v:=⟨_,rfl⟩
  have s4:m≠0:=by first | (simp_all;done) | (simp_all;omega)
  obtain ⟨v5,e5⟩:∃v,(IntKind.i64.wrap (v3+m))=v:=⟨_,rfl⟩
  obtain ⟨v6,e6⟩:∃v,((v5:Int).tmod m)=v:=⟨_,rfl⟩
  have s7:m≠0:=by first | (simp_all;done) | (simp_all;omega)
  refine Fun.imp (zmA n m v1 v3 v5 v6 e1 e3 e5 e6 h2 s4 s7) (fun _ _ _ h=>h) (fun v W D h=>?_)
  have r0:r=v6:=by
   (have dh2:=of_decide_eq_false (e1.trans h2);rw [← hr];unfold modX;rw [if_neg (by omega)];simp_all)
  rw [r0];exact h
def posA (l r:List Int):Int:=(l.length:Int) - r.length
theorem zx {l r:List Int} {v:Int} (h:r <:+ l) (hv:posA l r=v):l.drop v.toNat=r∧0≤v∧v≤l.length:=by
 obtain ⟨t,rfl⟩:=h
 unfold posA at hv
 rw [List.length_append] at hv
 obtain rfl:v=t.length:=by omega
 exact ⟨by rw [Int.toNat_natCast,List.drop_left],by omega,by rw [List.length_append];omega⟩
theorem zm (l:List Int) (n:Int):(drawX l n).2 <:+ l:=by
 cases l with
 | nil=>exact List.suffix_refl _
 | cons x r=>exact List.suffix_cons ..
theorem qM (g:Int):∀(d:Nat) (l:List Int),(madeX g d l).2 <:+ l
 | 0,l=>by
  rw [madeX]
  split<;>exact (zm _ _).trans (zm _ _)
 | d+1,l=>by
  rw [madeX]
  split
  ·split<;>exact (zm _ _).trans (zm _ _)
  ·exact ((qM g d _).trans (qM g d _)).trans ((zm _ _).trans (zm _ _))
theorem zjx {l:List Int} {n:Nat} {x m:Int} (h:l[n]?=some x):drawX (l.drop n) m=(modX x m,l.drop (n+1)):=by
 obtain ⟨hk,rfl⟩:=List.getElem?_eq_some_iff.1 h
 rw [List.drop_eq_getElem_cons hk];rfl
theorem zhw {l:List Int} {n:Nat} (m:Int) (h:l.length≤n):drawX (l.drop n) m=(0,[]):=by rw [List.drop_of_length_le h];rfl
theorem zk9 {w0:World} (l:(List Int)) (a:Int) (n:Int) (v1:Int) (v2:Bool) (e1:((l.length:Int))=v1) (e2:(decide (a ≥ v1))=v2) (h3:v2=true):BFun false (KN w0) Tryz.prog 66 [.o (.c (.p 0 0)),.o (.c (.d (pI n)))] [(67,[.d (pLs cI l),.d (pI a)])] (.o (.c (.d (pV (.int .i64 0))))) [(67,[.d (pLs cI l),.d (pI a)])] :=
 con_b (pan:=false) (zr (F:=FL [pLs cI l,pI a,pI n,pI v1,pB v2] []) (C:=[(1000009,.op (.len [22] 3) [yh 0] [] (yh 3)),
  (1000010,.bin .geq 3 (yh 1) (yh 3) (yh 4)),
  (10004,.fb 4 true)]) (k:=⟨66,[.o (.c (.p 900 0)),yh 2],[.bx 900 67 [.h 0,.h 1]],.o (.c (.k (.int .i64 0))),[.bx 900 67 [.h 0,.h 1]]⟩) 0 (zg ⟨(ze zt),za,za,za,za,trivial⟩) ⟨zF (E:=3) (by kernel_rfl) (zc rfl) (zb (by rw [← e1];rfl)),
  e_bin (zb rfl) (zb rfl) (zb rfl) (r_cmp (congrArg some e2)),
  e_fbv h3,
  trivial⟩ mixed (by kernel_rfl))
theorem zla {w0:World} (l:(List Int)) (a:Int) (n:Int) (v1:Int) (v2:Bool) (v4:Int) (v5:Int) (n6:Nat) (x7:Int) (v10:Int) (e1:((l.length:Int))=v1) (e2:(decide (a ≥ v1))=v2) (e4:(IntKind.i64.wrap (a+(1:Int)))=v4) (e5:(IntKind.i64.wrap (v4 - (1:Int)))=v5) (e10:(modX x7 n)=v10) (h3:v2=false) (s8:v5=(n6:Int)) (s9:l[n6]?=some x7):BFun false (KN w0) Tryz.prog 66 [.o (.c (.p 0 0)),.o (.c (.d (pI n)))] [(67,[.d (pLs cI l),.d (pI a)])] (.o (.c (.d (pI v10)))) [(67,[.d (pLs cI l),.d (pI v4)])] :=
 con_b (pan:=false) (zr (F:=FL [pLs cI l,pI a,pI n,pI v1,pB v2,pI v4,pI v5,pP (cI x7),pI x7,pI v10] []) (C:=[(1000009,.op (.len [22] 3) [yh 0] [] (yh 3)),
  (1000010,.bin .geq 3 (yh 1) (yh 3) (yh 4)),
  (10004,.fb 4 false),
  (1000015,.bin .add 3 (yh 1) (LF (.k (.int .i64 1))) (yh 5)),
  (1000027,.bin .sub 3 (yh 5) (LF (.k (.int .i64 1))) (yh 6)),
  (1000028,.op (.ia 22) [yh 0,yh 6] [] (yh 7)),
  (1000029,.op (.ld 3) [yh 7] [] (yh 8)),
  (1000031,.call ⟨38,[yh 8,yh 2],[],yh 9,[]⟩)]) (k:=⟨66,[.o (.c (.p 900 0)),yh 2],[.bx 900 67 [.h 0,.h 1]],yh 9,[.bx 900 67 [.h 0,.h 5]]⟩) 0 (zg ⟨(ze zt),za,za,za,za,za,za,(zl (zt _)),za,za,trivial⟩) ⟨zF (E:=3) (by kernel_rfl) (zc rfl) (zb (by rw [← e1];rfl)),
  e_bin (zb rfl) (zb rfl) (zb rfl) (r_cmp (congrArg some e2)),
  e_fbv h3,
  e_bin (zb rfl) zd (zb rfl) (r_ar (congrArg some e4)),
  e_bin (zb rfl) zd (zb rfl) (r_ar (congrArg some e5)),
  e_iaL (E:=3) (z:=1) (fun _=>rfl) (by kernel_rfl) (by kernel_rfl) (zc rfl) (zb rfl) s8 s9 (zc rfl),
  e_ldP (by kernel_rfl) (zc rfl) (zc rfl),
  zh (x_mod x7 n v10 e10),
  trivial⟩ mixed (by kernel_rfl))
theorem zpz {w0:World} (l:List Int) (a n:Int) (r p:Int) (hr:(drawX (l.drop a.toNat) n).1=r) (hp:posA l (drawX (l.drop a.toNat) n).2=p) (ha:0≤a∧a≤l.length) (hl:l.length<9223372036854775807):BFun false (KN w0) Tryz.prog 66 [.o (.c (.p 0 0)),.o (.c (.d (pI n)))] [(67,[.d (pLs cI l),.d (pI a)])] (.o (.c (.d (pI r)))) [(67,[.d (pLs cI l),.d (pI p)])]:=by
 obtain ⟨v1,e1⟩:∃v,((l.length:Int))=v:=⟨_,rfl⟩
 obtain ⟨v2,e2⟩:∃v,(decide (a ≥ v1))=v:=⟨_,rfl⟩
 cases h3:v2 with
 | true =>
  have r0:r=(0:Int):=by
   (have dh3:=of_decide_eq_true (e2.trans h3);have hzv1:=e1;rw [zhw _ (by omega)] at hr hp;first | exact hr.symm | (rw [← hp];unfold posA;simp;omega))
  have r1:p=a:=by
   (have dh3:=of_decide_eq_true (e2.trans h3);have hzv1:=e1;rw [zhw _ (by omega)] at hr hp;first | exact hr.symm | (rw [← hp];unfold posA;simp;omega))
  rw [r0,r1];exact zk9 l a n v1 v2 e1 e2 h3
 | false =>
  obtain ⟨v4,e4⟩:∃v,(IntKind.i64.wrap (a+(1:Int)))=v:=⟨_,rfl⟩
  obtain ⟨v5,e5⟩:∃v,(IntKind.i64.wrap (v4 - (1:Int)))=v:=⟨_,rfl⟩
  obtain ⟨n6,x7,s8,s9⟩:∃(n6:Nat) (x7:Int),v5=(n6:Int)∧l[n6]?=some x7:=by (have dh3:=of_decide_eq_false (e2.trans h3);have hzv1:=e1;have qv4:v4=a+1:=(by rw [← e4,wri (by omega)]);have qv5:v5=a:=(by rw [← e5,wri (by omega)];omega);exact ⟨a.toNat,_,by omega,List.getElem?_eq_getElem (by omega)⟩)
  obtain ⟨v10,e10⟩:∃v,(modX x7 n)=v:=⟨_,rfl⟩
  have r0:r=v10:=by
   (have dh3:=of_decide_eq_false (e2.trans h3);have hzv1:=e1;have qv4:v4=a+1:=(by rw [← e4,wri (by omega)]);have qv5:v5=a:=(by rw [← e5,wri (by omega)];omega);have hn:a.toNat=n6:=(by omega);have hlt:=(List.getElem?_eq_some_iff.1 s9).1;rw [hn,zjx s9] at hr hp;first | (rw [← hr];assumption) | (rw [← hp];unfold posA;rw [List.length_drop];omega))
  have r1:p=v4:=by
   (have dh3:=of_decide_eq_false (e2.trans h3);have hzv1:=e1;have qv4:v4=a+1:=(by rw [← e4,wri (by omega)]);have qv5:v5=a:=(by rw [← e5,wri (by omega)];omega);have hn:a.toNat=n6:=(by omega);have hlt:=(List.getElem?_eq_some_iff.1 s9).1;rw [hn,zjx s9] at hr hp;first | (rw [← hr];assumption) | (rw [← hp];unfold posA;rw [List.length_drop];omega))
  rw [r0,r1];exact zla l a n v1 v2 v4 v5 n6 x7 v10 e1 e2 e4 e5 e10 h3 s8 s9
theorem zaa {w0:World} (n:Int) (l:List Int) (a:Int) (r p:Int) (hr:(drawX (l.drop a.toNat) n).1=r) (hp:posA l (drawX (l.drop a.toNat) n).2=p) (ha:0≤a∧a≤l.length) (hl:l.length<9223372036854775807):BFun false (KN w0) Tryz.prog 66 [.o (.c (.p 0 0)),.o (.c (.d (pI n)))] [(67,[.d (pLs cI l),.d (pI a)])] (.o (.c (.d (pI r)))) [(67,[.d (pLs cI l),.d (pI p)])]:=zpz l a n r p hr hp ha hl
end Go.Proofs.YtdkofaajcpcjkaaGreatDoor
namespace Go.Proofs.YtdkofaajcpcjkaaGreatDoor
open Go.RowKit
structure x_odd_A_T where
 c:(Xp×(Xp→Xp))
 p:Int
def qe:List Atom:=[.sl 0 (.o (.g [.h 0,.h 1,.h 2])),.sl 1 (.o (.g [.h 3,.h 4,.h 5])),.sl 2 (.o (.c (.p 0 0))),.sl 3 (.o (.c (.p 1 0))),.sl 4 (.o (.c (.p 2 0))),.sl 5 (yh 13),.sl 6 (yh 16),.sl 7 (yh 17),.sl 9 (.o (.g [.h 0,.h 1,.h 9])),.sl 10 (.o (.g [.h 10,.h 11,.h 12])),.sl 11 (.o (.c (.p 1 1))),.sl 12 (yh 4),.sl 13 (yh 15),.bx 0 32 [.h 0,.h 1,.h 9],.bx 1 23 [.h 3,.h 4,.h 5],.bx 2 32 [.k (.int .i64 0),.k (.int .i64 0),.k (.slice none 0 0)]]
def za3:LoopS:=⟨4,[.sl 0 (.o (.g [.h 0,.h 1,.h 2])),.sl 1 (.o (.g [.h 3,.h 4,.h 5])),.sl 2 (.o (.c (.p 0 0))),.sl 3 (.o (.c (.p 1 0))),.sl 4 (.o (.c (.p 2 0))),.sl 5 (yh 13),.sl 6 (yh 14),.sl 7 (yh 15),.sl 9 (.o (.g [.h 0,.h 1,.h 9])),.sl 10 (.o (.g [.h 10,.h 11,.h 12])),.sl 11 (.o (.c (.p 1 1))),.sl 12 (yh 4),.sl 13 (yh 15),.bx 0 32 [.h 0,.h 1,.h 9],.bx 1 23 [.h 3,.h 4,.h 5],.bx 2 32 [.k (.int .i64 0),.k (.int .i64 0),.k (.slice none 0 0)]],(.x 0),[.sl 0 (.o (.g [.h 0,.h 1,.h 2])),.sl 1 (.o (.g [.h 3,.h 4,.h 5])),.sl 2 (.o (.c (.p 0 0))),.sl 3 (.o (.c (.p 1 0))),.sl 4 (.o (.c (.p 2 0))),.sl 5 (yh 13),.sl 6 (yh 16),.sl 9 (.o (.g [.h 0,.h 1,.h 9])),.sl 10 (.o (.g [.h 10,.h 11,.h 12])),.sl 11 (.o (.c (.p 1 1))),.sl 12 (yh 4),.sl 13 (yh 15),.bx 0 32 [.h 0,.h 1,.h 9],.bx 1 23 [.h 3,.h 4,.h 5],.bx 2 32 [.k (.int .i64 0),.k (.int .i64 0),.k (.slice none 0 0)]]⟩
theorem ziH {w0:World} (e:Xp) (kk0:Int) (kk1:Int) (kk2:Int) (r:Xp) (P0:(Nat→Prop)) (B:Nat) (v3:Int) (c:(Xp×(Xp→Xp))) (p:Int) (v501:Int) (v502:Bool) (v504:Int) (v505:Bool) (v507:Int) (v508:Int) (v509:Int) (v510:Int) (v511:Int) (n512:Nat) (x513:Xp) (v516:(Xp×(Xp→Xp))) (v517:Int) (e501:((c.1.l.length:Int))=v501) (e502:(decide (v501 > (0:Int)))=v502) (e504:((p:Int).tmod (3:Int))=v504) (e505:(decide (v504 > (0:Int)))=v505) (e507:((p:Int).tmod (3:Int))=v507) (e508:(IntKind.i64.wrap (v507 - (1:Int)))=v508) (e509:((c.1.l.length:Int))=v509) (e510:(IntKind.i64.wrap (v509 - (1:Int)))=v510) (e511:((if v510<v508 then v510 else v508))=v511) (e516:((x513,fun z=>c.2 (Xp.mk c.1.op c.1.n (c.1.l.set n512 z))))=v516) (e517:(IntKind.i64.wrap ((p:Int).tdiv (3:Int)))=v517) (h503:v502=true) (h506:v505=true) (s514:v511=(n512:Int)) (s515:c.1.l[n512]?=some x513) (c':(Xp×(Xp→Xp))) (p':Int) (q0:(v516)=c') (q1:(v517)=p') (R:Frm) (hR:R.pm=⟨ntOf Tryz.prog 18,[],[]⟩):Goes (KN w0) Tryz.prog R (lp Tryz.prog 18 0) (FL [pI e.op,pI e.n,pLs cE e.l,pI kk0,pI kk1,pI kk2,pI r.op,pI r.n,pLs cE r.l,pLD P0 e.l,pI e.op,pI e.n,pNew w0 P0 e.l,pAt w0 P0 B e,pCur w0 P0 B (e,id),pI v3,pCur w0 P0 B c,pI p] []) qe .n (FL [pI e.op,pI e.n,pLs cE e.l,pI kk0,pI kk1,pI kk2,pI r.op,pI r.n,pLs cE r.l,pLD P0 e.l,pI e.op,pI e.n,pNew w0 P0 e.l,pAt w0 P0 B e,pCur w0 P0 B (e,id),pI v3,pCur w0 P0 B c',pI p'] []) qe:=
 goes (x:=.n) (y:=.n) (Fb:=FL [pI e.op,pI e.n,pLs cE e.l,pI kk0,pI kk1,pI kk2,pI r.op,pI r.n,pLs cE r.l,pLD P0 e.l,pI e.op,pI e.n,pNew w0 P0 e.l,pAt w0 P0 B e,pCur w0 P0 B (e,id),pI v3,pCur w0 P0 B c,pI p,pCurF w0 P0 B c,pCurL w0 P0 B c,pI v501,pB v502,pI v504,pB v505,pCurF w0 P0 B c,pCurL w0 P0 B c,pI v507,pI v508,pCurF w0 P0 B c,pCurL w0 P0 B c,pI v509,pI v510,pI v511,pCur w0 P0 B v516,pI v517] []) (stb:=qe) (tl:=[.sl 0 (.o (.g [.h 0,.h 1,.h 2])),.sl 1 (.o (.g [.h 3,.h 4,.h 5])),.sl 2 (.o (.c (.p 0 0))),.sl 3 (.o (.c (.p 1 0))),.sl 4 (.o (.c (.p 2 0))),.sl 5 (yh 13),.sl 6 (yh 33),.sl 7 (yh 34),.sl 9 (.o (.g [.h 0,.h 1,.h 9])),.sl 10 (.o (.g [.h 10,.h 11,.h 12])),.sl 11 (.o (.c (.p 1 1))),.sl 12 (yh 4),.sl 13 (yh 15),.bx 0 32 [.h 0,.h 1,.h 9],.bx 1 23 [.h 3,.h 4,.h 5],.bx 2 32 [.k (.int .i64 0),.k (.int .i64 0),.k (.slice none 0 0)]]) (C:=((1005001,.op (.nc) [yh 16] [] (yh 16)) ::
  (1005002,.op (.fa 32 2) [yh 16] [] (yh 18)) ::
  (1005003,.op (.ld 29) [yh 18] [] (yh 19)) ::
  (1005004,.op (.len [29] 3) [yh 19] [] (yh 20)) ::
  (1005005,.bin .gtr 3 (yh 20) (LF (.k (.int .i64 0))) (yh 21)) ::
  (10021,.fb 21 true) ::
  (1005008,.bin .rem 3 (yh 17) (LF (.k (.int .i64 3))) (yh 22)) ::
  (1005009,.bin .gtr 3 (yh 22) (LF (.k (.int .i64 0))) (yh 23)) ::
  (10023,.fb 23 true) ::
  (1005012,.op (.nc) [yh 16] [] (yh 16)) ::
  (1005013,.op (.fa 32 2) [yh 16] [] (yh 24)) ::
  (1005014,.op (.ld 29) [yh 24] [] (yh 25)) ::
  (1005016,.bin .rem 3 (yh 17) (LF (.k (.int .i64 3))) (yh 26)) ::
  (1005017,.bin .sub 3 (yh 26) (LF (.k (.int .i64 1))) (yh 27)) ::
  (1005019,.op (.nc) [yh 16] [] (yh 16)) ::
  (1005020,.op (.fa 32 2) [yh 16] [] (yh 28)) ::
  (1005021,.op (.ld 29) [yh 28] [] (yh 29)) ::
  (1005022,.op (.len [29] 3) [yh 29] [] (yh 30)) ::
  (1005023,.bin .sub 3 (yh 30) (LF (.k (.int .i64 1))) (yh 31)) ::
  (1005024,.op (.min [3,3] 3) [yh 27,yh 31] [] (yh 32)) ::
  (1005025,.op (.ia 29) [yh 25,yh 32] [] (yh 33)) ::
  (1005028,.bin .quo 3 (yh 17) (LF (.k (.int .i64 3))) (yh 34)) ::
  []:List (Nat×Ent))) (H:=.no) 5000 (zipA.imp ⟨z_g ⟨yy,yy,yy,trivial⟩,z_g ⟨yy,yy,yy,trivial⟩,z_c yy,z_c yy,z_c yy,z_c yy,z_c yy,z_c yy,z_g ⟨yy,yy,yy,trivial⟩,z_g ⟨yy,yy,yy,trivial⟩,z_c yy,z_c yy,z_c yy,z_b ⟨yy,yy,yy,trivial⟩,z_b ⟨yy,yy,yy,trivial⟩,z_b ⟨yy,yy,yy,trivial⟩,trivial⟩) (zg ⟨za,za,(ze (zf rfl)),za,za,za,za,za,(ze (zf rfl)),zam,za,za,zaS,zcY,qZ,za,qZ,za,zaQ,zaR,za,za,za,za,zaQ,zaR,za,za,zaQ,zaR,za,za,za,qZ,za,trivial⟩) ⟨e_ncC rfl,
  e_faC (m:=0) (by kernel_rfl) (by kernel_rfl) rfl rfl,
  e_ldC (by kernel_rfl) rfl rfl,
  zhx (E:=32) (by kernel_rfl) rfl (zb (by rw [← e501];rfl)),
  e_bin (zb rfl) zd (zb rfl) (r_cmp (congrArg some e502)),
  e_fbv h503,
  e_bin (zb rfl) zd (zb rfl) (r_ar ((zaH (by decide)).trans (congrArg some e504))),
  e_bin (zb rfl) zd (zb rfl) (r_cmp (congrArg some e505)),
  e_fbv h506,
  e_ncC rfl,
  e_faC (m:=0) (by kernel_rfl) (by kernel_rfl) rfl rfl,
  e_ldC (by kernel_rfl) rfl rfl,
  e_bin (zb rfl) zd (zb rfl) (r_ar ((zaH (by decide)).trans (congrArg some e507))),
  e_bin (zb rfl) zd (zb rfl) (r_ar (congrArg some e508)),
  e_ncC rfl,
  e_faC (m:=0) (by kernel_rfl) (by kernel_rfl) rfl rfl,
  e_ldC (by kernel_rfl) rfl rfl,
  zhx (E:=32) (by kernel_rfl) rfl (zb (by rw [← e509];rfl)),
  e_bin (zb rfl) zd (zb rfl) (r_ar (congrArg some e510)),
  e_op2 (zb rfl) (zb rfl) (zb rfl) (fun W=>by rw [← e511];exact zaV W),
  e_iaC (E:=32) (by kernel_rfl) (by kernel_rfl) rfl (zb rfl) s514 s515 e516 rfl,
  e_bin (zb rfl) zd (zb rfl) (r_ar ((zji (by decide)).trans (congrArg some e517))),
  trivial⟩ mixed hR trivial (fun _ _ _ hs=>by cases hs) (by kernel_rfl:zA (KN w0) Tryz.prog _ .no ⟨ntOf Tryz.prog 18,[],[]⟩ (lp Tryz.prog 18 0) 5000 qe .n [.sl 0 (.o (.g [.h 0,.h 1,.h 2])),.sl 1 (.o (.g [.h 3,.h 4,.h 5])),.sl 2 (.o (.c (.p 0 0))),.sl 3 (.o (.c (.p 1 0))),.sl 4 (.o (.c (.p 2 0))),.sl 5 (yh 13),.sl 6 (yh 33),.sl 7 (yh 34),.sl 9 (.o (.g [.h 0,.h 1,.h 9])),.sl 10 (.o (.g [.h 10,.h 11,.h 12])),.sl 11 (.o (.c (.p 1 1))),.sl 12 (yh 4),.sl 13 (yh 15),.bx 0 32 [.h 0,.h 1,.h 9],.bx 1 23 [.h 3,.h 4,.h 5],.bx 2 32 [.k (.int .i64 0),.k (.int .i64 0),.k (.slice none 0 0)]]=true) rfl (zipA.imp ⟨z_g ⟨yy,yy,yy,trivial⟩,z_g ⟨yy,yy,yy,trivial⟩,z_c yy,z_c yy,z_c yy,z_c yy,z_c (fun β v W h=>(zc rfl β v W).2 (by rw [← q0];exact h)),z_c (fun β v W h=>(zc rfl β v W).2 (by rw [← q1];exact h)),z_g ⟨yy,yy,yy,trivial⟩,z_g ⟨yy,yy,yy,trivial⟩,z_c yy,z_c yy,z_c yy,z_b ⟨yy,yy,yy,trivial⟩,z_b ⟨yy,yy,yy,trivial⟩,z_b ⟨yy,yy,yy,trivial⟩,trivial⟩)
theorem ziI {w0:World} (e:Xp) (kk0:Int) (kk1:Int) (kk2:Int) (r:Xp) (P0:(Nat→Prop)) (B:Nat) (v3:Int) (c:(Xp×(Xp→Xp))) (p:Int) (v501:Int) (v502:Bool) (v504:Int) (v505:Bool) (e501:((c.1.l.length:Int))=v501) (e502:(decide (v501 > (0:Int)))=v502) (e504:((p:Int).tmod (3:Int))=v504) (e505:(decide (v504 > (0:Int)))=v505) (h503:v502=true) (h506:v505=false) (c2:(Xp×(Xp→Xp))) (F:Fact) (u0:F.c 0=pI e.op) (u1:F.c 1=pI e.n) (u2:F.c 2=pLs cE e.l) (u3:F.c 3=pI kk0) (u4:F.c 4=pI kk1) (u5:F.c 5=pI kk2) (u9:F.c 9=pLD P0 e.l) (u10:F.c 10=pI e.op) (u11:F.c 11=pI e.n) (u12:F.c 12=pNew w0 P0 e.l) (u13:F.c 13=pAt w0 P0 B e) (u14:F.c 14=pCur w0 P0 B (e,id)) (u15:F.c 15=pI v3) (u16:F.c 16=pCur w0 P0 B c2) (q0:(c)=c2) (R:Frm) (hR:R.pm=⟨ntOf Tryz.prog 18,[],[]⟩):Goes (KN w0) Tryz.prog R (lp Tryz.prog 18 0) (FL [pI e.op,pI e.n,pLs cE e.l,pI kk0,pI kk1,pI kk2,pI r.op,pI r.n,pLs cE r.l,pLD P0 e.l,pI e.op,pI e.n,pNew w0 P0 e.l,pAt w0 P0 B e,pCur w0 P0 B (e,id),pI v3,pCur w0 P0 B c,pI p] []) qe (.x 0) F za3.out:=
 goes (x:=(.x 0)) (y:=(.x 0)) (Fb:=FL [pI e.op,pI e.n,pLs cE e.l,pI kk0,pI kk1,pI kk2,pI r.op,pI r.n,pLs cE r.l,pLD P0 e.l,pI e.op,pI e.n,pNew w0 P0 e.l,pAt w0 P0 B e,pCur w0 P0 B (e,id),pI v3,pCur w0 P0 B c,pI p,pCurF w0 P0 B c,pCurL w0 P0 B c,pI v501,pB v502,pI v504,pB v505] []) (stb:=qe) (tl:=[.sl 0 (.o (.g [.h 0,.h 1,.h 2])),.sl 1 (.o (.g [.h 3,.h 4,.h 5])),.sl 2 (.o (.c (.p 0 0))),.sl 3 (.o (.c (.p 1 0))),.sl 4 (.o (.c (.p 2 0))),.sl 5 (yh 13),.sl 6 (yh 16),.sl 9 (.o (.g [.h 0,.h 1,.h 9])),.sl 10 (.o (.g [.h 10,.h 11,.h 12])),.sl 11 (.o (.c (.p 1 1))),.sl 12 (yh 4),.sl 13 (yh 15),.bx 0 32 [.h 0,.h 1,.h 9],.bx 1 23 [.h 3,.h 4,.h 5],.bx 2 32 [.k (.int .i64 0),.k (.int .i64 0),.k (.slice none 0 0)]]) (C:=((1005001,.op (.nc) [yh 16] [] (yh 16)) ::
  (1005002,.op (.fa 32 2) [yh 16] [] (yh 18)) ::
  (1005003,.op (.ld 29) [yh 18] [] (yh 19)) ::
  (1005004,.op (.len [29] 3) [yh 19] [] (yh 20)) ::
  (1005005,.bin .gtr 3 (yh 20) (LF (.k (.int .i64 0))) (yh 21)) ::
  (10021,.fb 21 true) ::
  (1005008,.bin .rem 3 (yh 17) (LF (.k (.int .i64 3))) (yh 22)) ::
  (1005009,.bin .gtr 3 (yh 22) (LF (.k (.int .i64 0))) (yh 23)) ::
  (10023,.fb 23 false) ::
  []:List (Nat×Ent))) (H:=.no) 5000 (zipA.imp ⟨z_g ⟨yy,yy,yy,trivial⟩,z_g ⟨yy,yy,yy,trivial⟩,z_c yy,z_c yy,z_c yy,z_c yy,z_c yy,z_c yy,z_g ⟨yy,yy,yy,trivial⟩,z_g ⟨yy,yy,yy,trivial⟩,z_c yy,z_c yy,z_c yy,z_b ⟨yy,yy,yy,trivial⟩,z_b ⟨yy,yy,yy,trivial⟩,z_b ⟨yy,yy,yy,trivial⟩,trivial⟩) (zg ⟨za,za,(ze (zf rfl)),za,za,za,za,za,(ze (zf rfl)),zam,za,za,zaS,zcY,qZ,za,qZ,za,zaQ,zaR,za,za,za,za,trivial⟩) ⟨e_ncC rfl,
  e_faC (m:=0) (by kernel_rfl) (by kernel_rfl) rfl rfl,
  e_ldC (by kernel_rfl) rfl rfl,
  zhx (E:=32) (by kernel_rfl) rfl (zb (by rw [← e501];rfl)),
  e_bin (zb rfl) zd (zb rfl) (r_cmp (congrArg some e502)),
  e_fbv h503,
  e_bin (zb rfl) zd (zb rfl) (r_ar ((zaH (by decide)).trans (congrArg some e504))),
  e_bin (zb rfl) zd (zb rfl) (r_cmp (congrArg some e505)),
  e_fbv h506,
  trivial⟩ mixed hR trivial (fun _ _ _ hs=>by cases hs) (by kernel_rfl:zA (KN w0) Tryz.prog _ .no ⟨ntOf Tryz.prog 18,[],[]⟩ (lp Tryz.prog 18 0) 5000 qe (.x 0) [.sl 0 (.o (.g [.h 0,.h 1,.h 2])),.sl 1 (.o (.g [.h 3,.h 4,.h 5])),.sl 2 (.o (.c (.p 0 0))),.sl 3 (.o (.c (.p 1 0))),.sl 4 (.o (.c (.p 2 0))),.sl 5 (yh 13),.sl 6 (yh 16),.sl 9 (.o (.g [.h 0,.h 1,.h 9])),.sl 10 (.o (.g [.h 10,.h 11,.h 12])),.sl 11 (.o (.c (.p 1 1))),.sl 12 (yh 4),.sl 13 (yh 15),.bx 0 32 [.h 0,.h 1,.h 9],.bx 1 23 [.h 3,.h 4,.h 5],.bx 2 32 [.k (.int .i64 0),.k (.int .i64 0),.k (.slice none 0 0)]]=true) rfl (zipA.imp ⟨z_g ⟨fun β v W h=>(zc u0 β v W).2 h,fun β v W h=>(zc u1 β v W).2 h,fun β v W h=>(zc u2 β v W).2 h,trivial⟩,z_g ⟨fun β v W h=>(zc u3 β v W).2 h,fun β v W h=>(zc u4 β v W).2 h,fun β v W h=>(zc u5 β v W).2 h,trivial⟩,z_c yy,z_c yy,z_c yy,z_c (fun β v W h=>(zc u13 β v W).2 h),z_c (fun β v W h=>(zc u16 β v W).2 (by rw [← q0];exact h)),z_g ⟨fun β v W h=>(zc u0 β v W).2 h,fun β v W h=>(zc u1 β v W).2 h,fun β v W h=>(zc u9 β v W).2 h,trivial⟩,z_g ⟨fun β v W h=>(zc u10 β v W).2 h,fun β v W h=>(zc u11 β v W).2 h,fun β v W h=>(zc u12 β v W).2 h,trivial⟩,z_c yy,z_c (fun β v W h=>(zc u4 β v W).2 h),z_c (fun β v W h=>(zc u15 β v W).2 h),z_b ⟨fun β v W h=>(zc u0 β v W).2 h,fun β v W h=>(zc u1 β v W).2 h,fun β v W h=>(zc u9 β v W).2 h,trivial⟩,z_b ⟨fun β v W h=>(zc u3 β v W).2 h,fun β v W h=>(zc u4 β v W).2 h,fun β v W h=>(zc u5 β v W).2 h,trivial⟩,z_b ⟨yy,yy,yy,trivial⟩,trivial⟩)
theorem ziJ {w0:World} (e:Xp) (kk0:Int) (kk1:Int) (kk2:Int) (r:Xp) (P0:(Nat→Prop)) (B:Nat) (v3:Int) (c:(Xp×(Xp→Xp))) (p:Int) (v501:Int) (v502:Bool) (e501:((c.1.l.length:Int))=v501) (e502:(decide (v501 > (0:Int)))=v502) (h503:v502=false) (c2:(Xp×(Xp→Xp))) (F:Fact) (u0:F.c 0=pI e.op) (u1:F.c 1=pI e.n) (u2:F.c 2=pLs cE e.l) (u3:F.c 3=pI kk0) (u4:F.c 4=pI kk1) (u5:F.c 5=pI kk2) (u9:F.c 9=pLD P0 e.l) (u10:F.c 10=pI e.op) (u11:F.c 11=pI e.n) (u12:F.c 12=pNew w0 P0 e.l) (u13:F.c 13=pAt w0 P0 B e) (u14:F.c 14=pCur w0 P0 B (e,id)) (u15:F.c 15=pI v3) (u16:F.c 16=pCur w0 P0 B c2) (q0:(c)=c2) (R:Frm) (hR:R.pm=⟨ntOf Tryz.prog 18,[],[]⟩):Goes (KN w0) Tryz.prog R (lp Tryz.prog 18 0) (FL [pI e.op,pI e.n,pLs cE e.l,pI kk0,pI kk1,pI kk2,pI r.op,pI r.n,pLs cE r.l,pLD P0 e.l,pI e.op,pI e.n,pNew w0 P0 e.l,pAt w0 P0 B e,pCur w0 P0 B (e,id),pI v3,pCur w0 P0 B c,pI p] []) qe (.x 0) F za3.out:=
 goes (x:=(.x 0)) (y:=(.x 0)) (Fb:=FL [pI e.op,pI e.n,pLs cE e.l,pI kk0,pI kk1,pI kk2,pI r.op,pI r.n,pLs cE r.l,pLD P0 e.l,pI e.op,pI e.n,pNew w0 P0 e.l,pAt w0 P0 B e,pCur w0 P0 B (e,id),pI v3,pCur w0 P0 B c,pI p,pCurF w0 P0 B c,pCurL w0 P0 B c,pI v501,pB v502] []) (stb:=qe) (tl:=[.sl 0 (.o (.g [.h 0,.h 1,.h 2])),.sl 1 (.o (.g [.h 3,.h 4,.h 5])),.sl 2 (.o (.c (.p 0 0))),.sl 3 (.o (.c (.p 1 0))),.sl 4 (.o (.c (.p 2 0))),.sl 5 (yh 13),.sl 6 (yh 16),.sl 9 (.o (.g [.h 0,.h 1,.h 9])),.sl 10 (.o (.g [.h 10,.h 11,.h 12])),.sl 11 (.o (.c (.p 1 1))),.sl 12 (yh 4),.sl 13 (yh 15),.bx 0 32 [.h 0,.h 1,.h 9],.bx 1 23 [.h 3,.h 4,.h 5],.bx 2 32 [.k (.int .i64 0),.k (.int .i64 0),.k (.slice none 0 0)]]) (C:=((1005001,.op (.nc) [yh 16] [] (yh 16)) ::
  (1005002,.op (.fa 32 2) [yh 16] [] (yh 18)) ::
  (1005003,.op (.ld 29) [yh 18] [] (yh 19)) ::
  (1005004,.op (.len [29] 3) [yh 19] [] (yh 20)) ::
  (1005005,.bin .gtr 3 (yh 20) (LF (.k (.int .i64 0))) (yh 21)) ::
  (10021,.fb 21 false) ::
  []:List (Nat×Ent))) (H:=.no) 5000 (zipA.imp ⟨z_g ⟨yy,yy,yy,trivial⟩,z_g ⟨yy,yy,yy,trivial⟩,z_c yy,z_c yy,z_c yy,z_c yy,z_c yy,z_c yy,z_g ⟨yy,yy,yy,trivial⟩,z_g ⟨yy,yy,yy,trivial⟩,z_c yy,z_c yy,z_c yy,z_b ⟨yy,yy,yy,trivial⟩,z_b ⟨yy,yy,yy,trivial⟩,z_b ⟨yy,yy,yy,trivial⟩,trivial⟩) (zg ⟨za,za,(ze (zf rfl)),za,za,za,za,za,(ze (zf rfl)),zam,za,za,zaS,zcY,qZ,za,qZ,za,zaQ,zaR,za,za,trivial⟩) ⟨e_ncC rfl,
  e_faC (m:=0) (by kernel_rfl) (by kernel_rfl) rfl rfl,
  e_ldC (by kernel_rfl) rfl rfl,
  zhx (E:=32) (by kernel_rfl) rfl (zb (by rw [← e501];rfl)),
  e_bin (zb rfl) zd (zb rfl) (r_cmp (congrArg some e502)),
  e_fbv h503,
  trivial⟩ mixed hR trivial (fun _ _ _ hs=>by cases hs) (by kernel_rfl:zA (KN w0) Tryz.prog _ .no ⟨ntOf Tryz.prog 18,[],[]⟩ (lp Tryz.prog 18 0) 5000 qe (.x 0) [.sl 0 (.o (.g [.h 0,.h 1,.h 2])),.sl 1 (.o (.g [.h 3,.h 4,.h 5])),.sl 2 (.o (.c (.p 0 0))),.sl 3 (.o (.c (.p 1 0))),.sl 4 (.o (.c (.p 2 0))),.sl 5 (yh 13),.sl 6 (yh 16),.sl 9 (.o (.g [.h 0,.h 1,.h 9])),.sl 10 (.o (.g [.h 10,.h 11,.h 12])),.sl 11 (.o (.c (.p 1 1))),.sl 12 (yh 4),.sl 13 (yh 15),.bx 0 32 [.h 0,.h 1,.h 9],.bx 1 23 [.h 3,.h 4,.h 5],.bx 2 32 [.k (.int .i64 0),.k (.int .i64 0),.k (.slice none 0 0)]]=true) rfl (zipA.imp ⟨z_g ⟨fun β v W h=>(zc u0 β v W).2 h,fun β v W h=>(zc u1 β v W).2 h,fun β v W h=>(zc u2 β v W).2 h,trivial⟩,z_g ⟨fun β v W h=>(zc u3 β v W).2 h,fun β v W h=>(zc u4 β v W).2 h,fun β v W h=>(zc u5 β v W).2 h,trivial⟩,z_c yy,z_c yy,z_c yy,z_c (fun β v W h=>(zc u13 β v W).2 h),z_c (fun β v W h=>(zc u16 β v W).2 (by rw [← q0];exact h)),z_g ⟨fun β v W h=>(zc u0 β v W).2 h,fun β v W h=>(zc u1 β v W).2 h,fun β v W h=>(zc u9 β v W).2 h,trivial⟩,z_g ⟨fun β v W h=>(zc u10 β v W).2 h,fun β v W h=>(zc u11 β v W).2 h,fun β v W h=>(zc u12 β v W).2 h,trivial⟩,z_c yy,z_c (fun β v W h=>(zc u4 β v W).2 h),z_c (fun β v W h=>(zc u15 β v W).2 h),z_b ⟨fun β v W h=>(zc u0 β v W).2 h,fun β v W h=>(zc u1 β v W).2 h,fun β v W h=>(zc u9 β v W).2 h,trivial⟩,z_b ⟨fun β v W h=>(zc u3 β v W).2 h,fun β v W h=>(zc u4 β v W).2 h,fun β v W h=>(zc u5 β v W).2 h,trivial⟩,z_b ⟨yy,yy,yy,trivial⟩,trivial⟩)
def zld (e:Xp) (kk0:Int) (kk1:Int) (kk2:Int) (r:Xp) (P0:(Nat→Prop)) (B:Nat) (v3:Int) (t:x_odd_A_T) (c2:(Xp×(Xp→Xp))):Prop:=(∃(v501:Int),∃(v502:Bool),∃(v504:Int),∃(v505:Bool),(((t.c.1.l.length:Int))=v501)∧((decide (v501 > (0:Int)))=v502)∧(((t.p:Int).tmod (3:Int))=v504)∧((decide (v504 > (0:Int)))=v505)∧(v502=true)∧(v505=false)∧((t.c)=c2)∧True)∨(∃(v501:Int),∃(v502:Bool),(((t.c.1.l.length:Int))=v501)∧((decide (v501 > (0:Int)))=v502)∧(v502=false)∧((t.c)=c2)∧True)
def zlc (e:Xp) (kk0:Int) (kk1:Int) (kk2:Int) (r:Xp) (P0:(Nat→Prop)) (B:Nat) (v3:Int) (t t':x_odd_A_T):Prop:=(∃(v501:Int),∃(v502:Bool),∃(v504:Int),∃(v505:Bool),∃(v507:Int),∃(v508:Int),∃(v509:Int),∃(v510:Int),∃(v511:Int),∃(n512:Nat),∃(x513:Xp),∃(v516:(Xp×(Xp→Xp))),∃(v517:Int),(((t.c.1.l.length:Int))=v501)∧((decide (v501 > (0:Int)))=v502)∧(((t.p:Int).tmod (3:Int))=v504)∧((decide (v504 > (0:Int)))=v505)∧(((t.p:Int).tmod (3:Int))=v507)∧((IntKind.i64.wrap (v507 - (1:Int)))=v508)∧(((t.c.1.l.length:Int))=v509)∧((IntKind.i64.wrap (v509 - (1:Int)))=v510)∧(((if v510<v508 then v510 else v508))=v511)∧(((x513,fun z=>t.c.2 (Xp.mk t.c.1.op t.c.1.n (t.c.1.l.set n512 z))))=v516)∧((IntKind.i64.wrap ((t.p:Int).tdiv (3:Int)))=v517)∧(v502=true)∧(v505=true)∧(v511=(n512:Int))∧(t.c.1.l[n512]?=some x513)∧((v516)=t'.c)∧((v517)=t'.p)∧True)
theorem zf0 {w0:World} (e:Xp) (kk0:Int) (kk1:Int) (kk2:Int) (r:Xp) (P0:(Nat→Prop)) (B:Nat) (v3:Int) (c2:(Xp×(Xp→Xp))) {F:Fact} (u0:F.c 0=pI e.op) (u1:F.c 1=pI e.n) (u2:F.c 2=pLs cE e.l) (u3:F.c 3=pI kk0) (u4:F.c 4=pI kk1) (u5:F.c 5=pI kk2) (u9:F.c 9=pLD P0 e.l) (u10:F.c 10=pI e.op) (u11:F.c 11=pI e.n) (u12:F.c 12=pNew w0 P0 e.l) (u13:F.c 13=pAt w0 P0 B e) (u14:F.c 14=pCur w0 P0 B (e,id)) (u15:F.c 15=pI v3) (u16:F.c 16=pCur w0 P0 B c2) (R:Frm) (hR:R.pm=⟨ntOf Tryz.prog 18,[],[]⟩) (J:x_odd_A_T→Prop) (m:x_odd_A_T→Nat) (hJ:J { c:=(e,id),p:=v3 }) (rounds:∀t,J t→zld e kk0 kk1 kk2 r P0 B v3 t c2∨∃t',zlc e kk0 kk1 kk2 r P0 B v3 t t'∧m t'<m t∧J t'):zi (KN w0) Tryz.prog F R za3 (lp Tryz.prog 18 0):=by
 refine zB (T:=x_odd_A_T) (fun t=>FL [pI e.op,pI e.n,pLs cE e.l,pI kk0,pI kk1,pI kk2,pI r.op,pI r.n,pLs cE r.l,pLD P0 e.l,pI e.op,pI e.n,pNew w0 P0 e.l,pAt w0 P0 B e,pCur w0 P0 B (e,id),pI v3,pCur w0 P0 B t.c,pI t.p] []) J m { c:=(e,id),p:=v3 } qe hJ (zipA.imp ⟨z_g ⟨fun β v W h=>(zc u0 β v W).1 h,fun β v W h=>(zc u1 β v W).1 h,fun β v W h=>(zc u2 β v W).1 h,trivial⟩,z_g ⟨fun β v W h=>(zc u3 β v W).1 h,fun β v W h=>(zc u4 β v W).1 h,fun β v W h=>(zc u5 β v W).1 h,trivial⟩,z_c yy,z_c yy,z_c yy,z_c (fun β v W h=>(zc u13 β v W).1 h),z_c (fun β v W h=>(zc u14 β v W).1 h),z_c (fun β v W h=>(zc u15 β v W).1 h),z_g ⟨fun β v W h=>(zc u0 β v W).1 h,fun β v W h=>(zc u1 β v W).1 h,fun β v W h=>(zc u9 β v W).1 h,trivial⟩,z_g ⟨fun β v W h=>(zc u10 β v W).1 h,fun β v W h=>(zc u11 β v W).1 h,fun β v W h=>(zc u12 β v W).1 h,trivial⟩,z_c yy,z_c (fun β v W h=>(zc u4 β v W).1 h),z_c (fun β v W h=>(zc u15 β v W).1 h),z_b ⟨fun β v W h=>(zc u0 β v W).1 h,fun β v W h=>(zc u1 β v W).1 h,fun β v W h=>(zc u9 β v W).1 h,trivial⟩,z_b ⟨fun β v W h=>(zc u3 β v W).1 h,fun β v W h=>(zc u4 β v W).1 h,fun β v W h=>(zc u5 β v W).1 h,trivial⟩,z_b ⟨yy,yy,yy,trivial⟩,trivial⟩) rfl fun t ht=>?_
 rcases rounds t ht with hz_ | ⟨t',hz_,hm_,hj_⟩
 ·refine .inl ?_
  rcases hz_ with ⟨v501,v502,v504,v505,e501,e502,e504,e505,h503,h506,q0,_⟩ | ⟨v501,v502,e501,e502,h503,q0,_⟩
  ·exact ziI  e kk0 kk1 kk2 r P0 B v3  t.c t.p v501 v502 v504 v505 e501 e502 e504 e505 h503 h506 c2 F u0 u1 u2 u3 u4 u5 u9 u10 u11 u12 u13 u14 u15 u16 q0 R hR
  ·exact ziJ  e kk0 kk1 kk2 r P0 B v3  t.c t.p v501 v502 e501 e502 h503 c2 F u0 u1 u2 u3 u4 u5 u9 u10 u11 u12 u13 u14 u15 u16 q0 R hR
 ·refine .inr ⟨t',hm_,hj_,?_⟩
  rcases hz_ with ⟨v501,v502,v504,v505,v507,v508,v509,v510,v511,n512,x513,v516,v517,e501,e502,e504,e505,e507,e508,e509,e510,e511,e516,e517,h503,h506,s514,s515,q0,q1,_⟩
  ·exact ziH  e kk0 kk1 kk2 r P0 B v3  t.c t.p v501 v502 v504 v505 v507 v508 v509 v510 v511 n512 x513 v516 v517 e501 e502 e504 e505 e507 e508 e509 e510 e511 e516 e517 h503 h506 s514 s515 t'.c t'.p q0 q1 R hR
theorem ziG {w0:World} (e:Xp) (kk0:Int) (kk1:Int) (kk2:Int) (r:Xp) (P0:(Nat→Prop)) (B:Nat) (v3:Int) (c2:(Xp×(Xp→Xp))) {F:Fact} (u0:F.c 0=pI e.op) (u1:F.c 1=pI e.n) (u2:F.c 2=pLs cE e.l) (u3:F.c 3=pI kk0) (u4:F.c 4=pI kk1) (u5:F.c 5=pI kk2) (u9:F.c 9=pLD P0 e.l) (u10:F.c 10=pI e.op) (u11:F.c 11=pI e.n) (u12:F.c 12=pNew w0 P0 e.l) (u13:F.c 13=pAt w0 P0 B e) (u14:F.c 14=pCur w0 P0 B (e,id)) (u15:F.c 15=pI v3) (u16:F.c 16=pCur w0 P0 B c2) (R:Frm) (hR:R.pm=⟨ntOf Tryz.prog 18,[],[]⟩) (hp:0≤v3∧v3<64) (hn:nodes e≤1000000) (hO:desc 64 v3 (e,id)=c2):zi (KN w0) Tryz.prog F R za3 (lp Tryz.prog 18 0):=by
 refine zf0  e kk0 kk1 kk2 r P0 B v3  c2 u0 u1 u2 u3 u4 u5 u9 u10 u11 u12 u13 u14 u15 u16 R hR (fun ⟨c,p⟩=>(0≤p∧p<64)∧(∃n:Nat,p.toNat≤n∧desc n p c=c2)∧nodes c.1≤1000000) (fun ⟨c,p⟩=>p.toNat) ⟨hp,⟨64,by omega,hO⟩,hn⟩ fun t hJ=>?_
 obtain ⟨c,p⟩:=t
 dsimp only at hJ
 obtain ⟨hi,⟨m,hm,hs⟩,hnn⟩:=hJ
 obtain ⟨v501,e501⟩:∃v,((c.1.l.length:Int))=v:=⟨_,rfl⟩
 obtain ⟨v502,e502⟩:∃v,(decide (v501 > (0:Int)))=v:=⟨_,rfl⟩
 cases h503:v502 with
 | true =>
  obtain ⟨v504,e504⟩:∃v,((p:Int).tmod (3:Int))=v:=⟨_,rfl⟩
  obtain ⟨v505,e505⟩:∃v,(decide (v504 > (0:Int)))=v:=⟨_,rfl⟩
  cases h506:v505 with
  | true =>
   obtain ⟨v507,e507⟩:∃v,((p:Int).tmod (3:Int))=v:=⟨_,rfl⟩
   obtain ⟨v508,e508⟩:∃v,(IntKind.i64.wrap (v507 - (1:Int)))=v:=⟨_,rfl⟩
   obtain ⟨v509,e509⟩:∃v,((c.1.l.length:Int))=v:=⟨_,rfl⟩
   obtain ⟨v510,e510⟩:∃v,(IntKind.i64.wrap (v509 - (1:Int)))=v:=⟨_,rfl⟩
   obtain ⟨v511,e511⟩:∃v,((if v510<v508 then v510 else v508))=v:=⟨_,rfl⟩
   obtain ⟨n512,x513,s514,s515⟩:∃(n512:Nat) (x513:Xp),v511=(n512:Int)∧c.1.l[n512]?=some x513:=by (have hz:=e501;have hln:=qj c.1;have dh503:=of_decide_eq_true (e502.trans h503);have dh506:=of_decide_eq_true (e505.trans h506);have qv504:v504=p%3:=(by rw [← e504,Int.tmod_eq_emod_of_nonneg hi.1]);have qv507:v507=p%3:=(by rw [← e507,Int.tmod_eq_emod_of_nonneg hi.1]);have qv508:v508=v507 - 1:=(by rw [← e508,wri (by omega)]);have zv509:=e509;have qv510:v510=v509 - 1:=(by rw [← e510,wri (by omega)]);have qv511:v511=min (p%3 - 1) ((c.1.l.length:Int) - 1):=(by rw [← e511];split<;>omega);have hlt:v511.toNat<c.1.l.length:=(by omega);exact ⟨v511.toNat,_,(Int.toNat_of_nonneg (by omega)).symm,List.getElem?_eq_getElem hlt⟩)
   obtain ⟨v516,e516⟩:∃v,((x513,fun z=>c.2 (Xp.mk c.1.op c.1.n (c.1.l.set n512 z))))=v:=⟨_,rfl⟩
   obtain ⟨v517,e517⟩:∃v,(IntKind.i64.wrap ((p:Int).tdiv (3:Int)))=v:=⟨_,rfl⟩
   refine .inr ⟨⟨v516,v517⟩,⟨v501,v502,v504,v505,v507,v508,v509,v510,v511,n512,x513,v516,v517,e501,e502,e504,e505,e507,e508,e509,e510,e511,e516,e517,h503,h506,s514,s515,rfl,rfl,trivial⟩,?_,?_⟩
   all_goals (have hz:=e501;have hln:=qj c.1;have dh503:=of_decide_eq_true (e502.trans h503);have dh506:=of_decide_eq_true (e505.trans h506);have qv504:v504=p%3:=(by rw [← e504,Int.tmod_eq_emod_of_nonneg hi.1]);have qv507:v507=p%3:=(by rw [← e507,Int.tmod_eq_emod_of_nonneg hi.1]);have qv508:v508=v507 - 1:=(by rw [← e508,wri (by omega)]);have zv509:=e509;have qv510:v510=v509 - 1:=(by rw [← e510,wri (by omega)]);have qv511:v511=min (p%3 - 1) ((c.1.l.length:Int) - 1):=(by rw [← e511];split<;>omega);have qv517:v517=p / 3:=(by rw [← e517,Int.tdiv_eq_ediv_of_nonneg hi.1,wri (by omega)]);have hne:c.1.l≠[]:=(by intro h0;rw [h0] at hz;simp at hz;omega);obtain ⟨m',rfl⟩:∃m',m=m'+1:=⟨m - 1,by omega⟩;rw [zjw (j:=n512) ⟨hne,by omega⟩ (by omega) s515,e516,← qv517] at hs;have hnx:nodes x513≤1000000:=(by have:=zu (N:=nodes c.1 - 1) (by have:=qk c.1;omega) s515;omega))
   ·show v517.toNat<p.toNat
    omega
   ·exact ⟨by omega,⟨m',by omega,hs⟩,by rw [← e516];exact hnx⟩
  | false =>
   refine .inl (Or.inl (⟨v501,v502,v504,v505,e501,e502,e504,e505,h503,h506,?_,trivial⟩))
   (have hz:=e501;have hln:=qj c.1;have dh503:=of_decide_eq_true (e502.trans h503);have dh506:=of_decide_eq_false (e505.trans h506);have qv504:v504=p%3:=(by rw [← e504,Int.tmod_eq_emod_of_nonneg hi.1]);rw [zfk (fun h=>by omega)] at hs;exact hs)
 | false =>
  refine .inl (Or.inr (⟨v501,v502,e501,e502,h503,?_,trivial⟩))
  (have hz:=e501;have hln:=qj c.1;have dh503:=of_decide_eq_false (e502.trans h503);have hl0:c.1.l=[]:=(List.eq_nil_of_length_eq_zero (by omega));rw [zfk (fun h=>h.1 hl0)] at hs;exact hs)
def odd_F (w0:World) (e:Xp) (kk0 kk1 kk2:Int) (r:Xp) (v3:Int) (c2:Xp×(Xp→Xp)) (P0:Nat→Prop) (B:Nat):Fact:=FL [pI e.op,pI e.n,pLs cE e.l,pI kk0,pI kk1,pI kk2,pI r.op,pI r.n,pLs cE r.l,pLD P0 e.l,pI e.op,pI e.n,pNew w0 P0 e.l,pAt w0 P0 B e,pCur w0 P0 B (e,id),pI v3,pCur w0 P0 B c2] []
def zbI (e:Xp) (kk0 kk1 kk2:Int) (r:Xp) (v3:Int) (c2:Xp×(Xp→Xp)):Fact:=FL [pI e.op,pI e.n,pLs cE e.l,pI kk0,pI kk1,pI kk2,pI r.op,pI r.n,pLs cE r.l] []
theorem zb1 (w0:World) (e:Xp) (kk0 kk1 kk2:Int) (r:Xp) (v3:Int) (c2:Xp×(Xp→Xp)) (P0:Nat→Prop) (B:Nat):Fine (KN w0) (odd_F w0 e kk0 kk1 kk2 r v3 c2 P0 B):=zg ⟨za,za,(ze (zf rfl)),za,za,za,za,za,(ze (zf rfl)),zam,za,za,zaS,zcY,qZ,za,qZ,trivial⟩ trivial
theorem zdh (w0:World) (e:Xp) (kk0 kk1 kk2:Int) (r:Xp) (v3:Int) (c2:Xp×(Xp→Xp)):Fine (KN w0) (zbI e kk0 kk1 kk2 r v3 c2):=zg ⟨za,za,(ze (zf rfl)),za,za,za,za,za,(ze (zf rfl)),trivial⟩ trivial
theorem zd1 {α:Type} {l l':List α} {a:α} (h:a∈l) (e:l=l'):a∈l':=e ▸ h
def qp:List Atom:=[.sl 0 (.o (.g [.h 0,.h 1,.h 2])),.sl 1 (.o (.g [.h 3,.h 4,.h 5])),.sl 2 (.o (.c (.p 0 0))),.sl 3 (.o (.c (.p 1 0))),.sl 4 (.o (.c (.p 2 0))),.sl 5 (yh 13),.sl 6 (yh 16),.sl 9 (.o (.g [.h 0,.h 1,.h 9])),.sl 10 (.o (.g [.h 10,.h 11,.h 12])),.sl 11 (.o (.c (.p 1 1))),.sl 12 (yh 4),.sl 13 (yh 15),.bx 0 32 [.h 0,.h 1,.h 9],.bx 1 23 [.h 3,.h 4,.h 5],.bx 2 32 [.k (.int .i64 0),.k (.int .i64 0),.k (.slice none 0 0)]]
noncomputable def zbb:Code:=match Tryz.f18.body with
 | some (.seq _ (.seq _ (.seq _ (.seq _ (.seq _ c)))))=>c
 | _=>.skip
theorem zbF {w0:World} (e:Xp) (kk0 kk1 kk2:Int) (r:Xp) (v3:Int) (c2:Xp×(Xp→Xp)) (e3:modX kk1 (64:Int)=v3) (hn:nodes e≤1000000) (hO:desc 64 v3 (e,id)=c2)
  (rest:∀(R:Frm) (P0:Nat→Prop) (B:Nat),R.pm=⟨ntOf Tryz.prog 18,[],[]⟩→(∀q,R.β0.D q→P0 q)→Goes (KN w0) Tryz.prog R zbb (odd_F w0 e kk0 kk1 kk2 r v3 c2 P0 B) qp .r (zbI e kk0 kk1 kk2 r v3 c2) [.sl 4 (.o (.c (.p 2 0))),.bx 2 32 [.h 6,.h 7,.h 8]]):Fun (KN w0) Tryz.prog 18 [.o (.g [pI e.op,pI e.n,pLs cE e.l]),.o (.g [pI kk0,pI kk1,pI kk2])] (.o (.g [pI r.op,pI r.n,pLs cE r.l])):=by
 have hp:0≤v3∧v3<64:=e3 ▸ zeP (by decide) (by decide)
 refine zk (F:=zbI e kk0 kk1 kk2 r v3 c2) (as':=[.o (.g [.h 0,.h 1,.h 2]),.o (.g [.h 3,.h 4,.h 5])]) (res':=.o (.g [.h 6,.h 7,.h 8])) (zey (k:=⟨18,[.o (.g [.h 0,.h 1,.h 2]),.o (.g [.h 3,.h 4,.h 5])],[],.o (.g [.h 6,.h 7,.h 8]),[]⟩) [] false (zdh w0 e kk0 kk1 kk2 r v3 c2) Tryz.func18 rfl (by kernel_rfl) fun R hR=>⟨.r,[.sl 4 (.o (.c (.p 2 0))),.bx 2 32 [.h 6,.h 7,.h 8]],by kernel_rfl,?_⟩) rfl rfl rfl rfl
 have hR:R.pm=⟨ntOf Tryz.prog 18,[],[]⟩:=hR
 refine qL (st1:=[.sl 0 (.o (.g [.h 0,.h 1,.h 2])),.sl 1 (.o (.g [.h 3,.h 4,.h 5])),.sl 2 (.o (.c (.p 0 0))),.sl 3 (.o (.c (.p 1 0))),.sl 4 (.o (.c (.p 2 0))),.bx 0 32 [.h 0,.h 1,.h 2],.bx 1 23 [.h 3,.h 4,.h 5],.bx 2 32 [.k (.int .i64 0),.k (.int .i64 0),.k (.slice none 0 0)]]) (goes (x:=.n) (y:=.n) (tl:=[.sl 0 (.o (.g [.h 0,.h 1,.h 2])),.sl 1 (.o (.g [.h 3,.h 4,.h 5])),.sl 2 (.o (.c (.p 0 0))),.sl 3 (.o (.c (.p 1 0))),.sl 4 (.o (.c (.p 2 0))),.bx 0 32 [.h 0,.h 1,.h 2],.bx 1 23 [.h 3,.h 4,.h 5],.bx 2 32 [.k (.int .i64 0),.k (.int .i64 0),.k (.slice none 0 0)]]) (H:=.no) 0 (C:=([]:List (Nat×Ent))) (fun _ _ _ _ h=>h) (zdh w0 e kk0 kk1 kk2 r v3 c2) trivial mixed hR trivial (fun _ _ _ hs=>by cases hs) (by kernel_rfl) rfl (fun _ _ _ _ h=>h)) ?_
 refine qE (F1:=fun P0=>(odd_F w0 e kk0 kk1 kk2 r v3 c2 P0 0)) (fun a W hI=>odd_A (F0:=zbI e kk0 kk1 kk2 r v3 c2) (F2:=fun P0=>(odd_F w0 e kk0 kk1 kk2 r v3 c2 P0 0)) (rs:=[.sl 0 (.o (.g [.h 0,.h 1,.h 2])),.sl 1 (.o (.g [.h 3,.h 4,.h 5])),.sl 2 (.o (.c (.p 0 0))),.sl 3 (.o (.c (.p 1 0))),.sl 4 (.o (.c (.p 2 0))),.bx 1 23 [.h 3,.h 4,.h 5],.bx 2 32 [.k (.int .i64 0),.k (.int .i64 0),.k (.slice none 0 0)]]) (zdh w0 e kk0 kk1 kk2 r v3 c2) (b:=0) (i:=0) (j:=1) (k:=2) (k':=9) (by simp) (by simp [zcL]) (fun P0=>(zipA.imp ⟨z_g ⟨l_h (pI e.op) rfl rfl,l_h (pI e.n) rfl rfl,l_h (pLs cE e.l) rfl rfl,trivial⟩,z_g ⟨l_h (pI kk0) rfl rfl,l_h (pI kk1) rfl rfl,l_h (pI kk2) rfl rfl,trivial⟩,z_c (l_p),z_c (l_p),z_c (l_p),z_b ⟨l_h (pI kk0) rfl rfl,l_h (pI kk1) rfl rfl,l_h (pI kk2) rfl rfl,trivial⟩,z_b ⟨l_k,l_k,l_k,trivial⟩,trivial⟩)) rfl (fun _=>rfl) (fun _=>rfl) (fun _=>rfl) hI) fun P0 hP=>?_
 refine qL (st1:=[.sl 0 (.o (.g [.h 0,.h 1,.h 2])),.sl 1 (.o (.g [.h 3,.h 4,.h 5])),.sl 2 (.o (.c (.p 0 0))),.sl 3 (.o (.c (.p 1 0))),.sl 4 (.o (.c (.p 2 0))),.sl 5 (.o (.c (.p 5 0))),.sl 9 (.o (.g [.h 0,.h 1,.h 9])),.sl 10 (.o (.g [.h 10,.h 11,.h 12])),.bx 0 32 [.h 0,.h 1,.h 9],.bx 1 23 [.h 3,.h 4,.h 5],.bx 2 32 [.k (.int .i64 0),.k (.int .i64 0),.k (.slice none 0 0)],.bx 5 32 [.h 10,.h 11,.h 12]]) (goes (x:=.n) (y:=.n) (tl:=[.sl 0 (.o (.g [.h 0,.h 1,.h 2])),.sl 1 (.o (.g [.h 3,.h 4,.h 5])),.sl 2 (.o (.c (.p 0 0))),.sl 3 (.o (.c (.p 1 0))),.sl 4 (.o (.c (.p 2 0))),.sl 5 (.o (.c (.p 5 0))),.sl 9 (.o (.g [.h 0,.h 1,.h 9])),.sl 10 (.o (.g [.h 10,.h 11,.h 12])),.bx 0 32 [.h 0,.h 1,.h 9],.bx 1 23 [.h 3,.h 4,.h 5],.bx 2 32 [.k (.int .i64 0),.k (.int .i64 0),.k (.slice none 0 0)],.bx 5 32 [.h 10,.h 11,.h 12]]) (H:=.no) 3 (C:=([(1000004,.call ⟨37,[.o (.g [.h 0,.h 1,.h 9])],[],.o (.g [.h 10,.h 11,.h 12]),[]⟩)]:List (Nat×Ent))) (fun _ _ _ _ h=>h) (zb1 w0 e kk0 kk1 kk2 r v3 c2 P0 0) ⟨zh (zpv P0 e hn),trivial⟩ mixed hR trivial (fun _ _ _ hs=>by cases hs) (by kernel_rfl) rfl (fun _ _ _ _ h=>h)) ?_
 refine qL (st1:=[.sl 0 (.o (.g [.h 0,.h 1,.h 2])),.sl 1 (.o (.g [.h 3,.h 4,.h 5])),.sl 2 (.o (.c (.p 0 0))),.sl 3 (.o (.c (.p 1 0))),.sl 4 (.o (.c (.p 2 0))),.sl 5 (.o (.c (.p 5 0))),.sl 9 (.o (.g [.h 0,.h 1,.h 9])),.sl 10 (.o (.g [.h 10,.h 11,.h 12])),.bx 0 32 [.h 0,.h 1,.h 9],.bx 1 23 [.h 3,.h 4,.h 5],.bx 2 32 [.k (.int .i64 0),.k (.int .i64 0),.k (.slice none 0 0)],.bx 5 32 [.h 10,.h 11,.h 12],.sl 6 (.o (.c (.p 5 0)))]) (goes (x:=.n) (y:=.n) (tl:=[.sl 0 (.o (.g [.h 0,.h 1,.h 2])),.sl 1 (.o (.g [.h 3,.h 4,.h 5])),.sl 2 (.o (.c (.p 0 0))),.sl 3 (.o (.c (.p 1 0))),.sl 4 (.o (.c (.p 2 0))),.sl 5 (.o (.c (.p 5 0))),.sl 9 (.o (.g [.h 0,.h 1,.h 9])),.sl 10 (.o (.g [.h 10,.h 11,.h 12])),.bx 0 32 [.h 0,.h 1,.h 9],.bx 1 23 [.h 3,.h 4,.h 5],.bx 2 32 [.k (.int .i64 0),.k (.int .i64 0),.k (.slice none 0 0)],.bx 5 32 [.h 10,.h 11,.h 12],.sl 6 (.o (.c (.p 5 0)))]) (H:=.no) 7 (C:=([]:List (Nat×Ent))) (fun _ _ _ _ h=>h) (zb1 w0 e kk0 kk1 kk2 r v3 c2 P0 0) trivial mixed hR trivial (fun _ _ _ hs=>by cases hs) (by kernel_rfl) rfl (fun _ _ _ _ h=>h)) ?_
 refine qE (Pr:=fun _=>True) (F1:=fun B=>(odd_F w0 e kk0 kk1 kk2 r v3 c2 P0 B)) (fun a W hI=>odd_B (P0:=P0) (F:=(odd_F w0 e kk0 kk1 kk2 r v3 c2 P0 0)) (F2:=fun B=>(odd_F w0 e kk0 kk1 kk2 r v3 c2 P0 B)) (rs:=[.sl 0 (.o (.g [.h 0,.h 1,.h 2])),.sl 1 (.o (.g [.h 3,.h 4,.h 5])),.sl 2 (.o (.c (.p 0 0))),.sl 3 (.o (.c (.p 1 0))),.sl 4 (.o (.c (.p 2 0))),.sl 9 (.o (.g [.h 0,.h 1,.h 9])),.sl 10 (.o (.g [.h 10,.h 11,.h 12])),.bx 0 32 [.h 0,.h 1,.h 9],.bx 1 23 [.h 3,.h 4,.h 5],.bx 2 32 [.k (.int .i64 0),.k (.int .i64 0),.k (.slice none 0 0)]]) (e:=e) (l0:=e.l) (zb1 w0 e kk0 kk1 kk2 r v3 c2 P0 0) (rb:=5) (b0:=0) (i:=10) (j:=11) (k:=12) (i0:=0) (j0:=1) (k0:=9) (s1:=5) (s2:=6) (r:=13) (cu:=14) (by simp) (by simp) (by simp) (by simp) (by simp [zcL,Atom.has,Sh.has,Cm.has,Lf.has,lfs]) (fun B=>(zipA.imp ⟨z_g ⟨l_h (pI e.op) rfl rfl,l_h (pI e.n) rfl rfl,l_h (pLs cE e.l) rfl rfl,trivial⟩,z_g ⟨l_h (pI kk0) rfl rfl,l_h (pI kk1) rfl rfl,l_h (pI kk2) rfl rfl,trivial⟩,z_c (l_p),z_c (l_p),z_c (l_p),z_g ⟨l_h (pI e.op) rfl rfl,l_h (pI e.n) rfl rfl,l_h (pLD P0 e.l) rfl rfl,trivial⟩,z_g ⟨l_h (pI e.op) rfl rfl,l_h (pI e.n) rfl rfl,l_h (pNew w0 P0 e.l) rfl rfl,trivial⟩,z_b ⟨l_h (pI e.op) rfl rfl,l_h (pI e.n) rfl rfl,l_h (pLD P0 e.l) rfl rfl,trivial⟩,z_b ⟨l_h (pI kk0) rfl rfl,l_h (pI kk1) rfl rfl,l_h (pI kk2) rfl rfl,trivial⟩,z_b ⟨l_k,l_k,l_k,trivial⟩,trivial⟩)) rfl rfl rfl rfl (fun _=>rfl) (fun _=>rfl) (by rw [hR]) hI) fun B _=>?_
 refine qL (st1:=[.sl 0 (.o (.g [.h 0,.h 1,.h 2])),.sl 1 (.o (.g [.h 3,.h 4,.h 5])),.sl 2 (.o (.c (.p 0 0))),.sl 3 (.o (.c (.p 1 0))),.sl 4 (.o (.c (.p 2 0))),.sl 5 (yh 13),.sl 6 (yh 14),.sl 7 (yh 15),.sl 9 (.o (.g [.h 0,.h 1,.h 9])),.sl 10 (.o (.g [.h 10,.h 11,.h 12])),.sl 11 (.o (.c (.p 1 1))),.sl 12 (yh 4),.sl 13 (yh 15),.bx 0 32 [.h 0,.h 1,.h 9],.bx 1 23 [.h 3,.h 4,.h 5],.bx 2 32 [.k (.int .i64 0),.k (.int .i64 0),.k (.slice none 0 0)]]) (goes (x:=.n) (y:=.n) (tl:=[.sl 0 (.o (.g [.h 0,.h 1,.h 2])),.sl 1 (.o (.g [.h 3,.h 4,.h 5])),.sl 2 (.o (.c (.p 0 0))),.sl 3 (.o (.c (.p 1 0))),.sl 4 (.o (.c (.p 2 0))),.sl 5 (yh 13),.sl 6 (yh 14),.sl 7 (yh 15),.sl 9 (.o (.g [.h 0,.h 1,.h 9])),.sl 10 (.o (.g [.h 10,.h 11,.h 12])),.sl 11 (.o (.c (.p 1 1))),.sl 12 (yh 4),.sl 13 (yh 15),.bx 0 32 [.h 0,.h 1,.h 9],.bx 1 23 [.h 3,.h 4,.h 5],.bx 2 32 [.k (.int .i64 0),.k (.int .i64 0),.k (.slice none 0 0)]]) (H:=.no) 8 (C:=([(1000010,.call ⟨38,[yh 4,.o (.c (.k (.int .i64 64)))],[],yh 15,[]⟩)]:List (Nat×Ent))) (fun _ _ _ _ h=>h) (zb1 w0 e kk0 kk1 kk2 r v3 c2 P0 B) ⟨zh (x_mod kk1 (64:Int) v3 e3),trivial⟩ mixed hR trivial (fun _ _ _ hs=>by cases hs) (by kernel_rfl) rfl (fun _ _ _ _ h=>h)) ?_
 refine qL (st1:=qp) (goes (x:=.n) (y:=.n) (tl:=qp) (H:=⟨[za3],[],0⟩) 8 (C:=([]:List (Nat×Ent))) (fun _ _ _ _ h=>h) (zb1 w0 e kk0 kk1 kk2 r v3 c2 P0 B) trivial mixed hR trivial (fun p hp' s hs=>by
  have hp':=zd1 (l':=[(4,lp Tryz.prog 18 0)]) hp' (by kernel_rfl)
  obtain rfl:=List.mem_singleton.1 hp'
  have e:s=za3:=(Option.some.inj hs).symm
  subst e;exact ziG e kk0 kk1 kk2 r P0 B v3  c2 rfl rfl rfl rfl rfl rfl rfl rfl rfl rfl rfl rfl rfl rfl R hR hp hn hO) (by kernel_rfl) rfl (fun _ _ _ _ h=>h)) ?_
 exact rest R P0 B hR hP
end Go.Proofs.YtdkofaajcpcjkaaGreatDoor
