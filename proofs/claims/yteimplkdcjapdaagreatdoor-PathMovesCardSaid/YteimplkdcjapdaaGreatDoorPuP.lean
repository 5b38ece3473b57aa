/-
  Merged: PtE.
-/
import Derived.Test.YteimplkdcjapdaaGreatDoorPuM
import Derived.RangeFuncNested
import Derived.RangeFuncBound
import Derived.RangeFuncCalls
import Derived.RangeFuncLeaves
import Derived.RangeFuncBox
import Derived.OwnWalkIn
import Derived.TacticsInMore
import Derived.LoopNIn
import Derived.LoopIn
set_option linter.unusedSimpArgs false
set_option linter.unusedVariables false
set_option maxRecDepth 100000
set_option maxHeartbeats 2000000
namespace Go.Proofs.YteimplkdcjapdaaGreatDoor
open Go.RowKit
attribute [local go_sem] Oper.semAt_some
theorem zaL {P:Program} {f:FuncId} {az:List PSh} {res:PSh} (h:∀w0:World,Fun (KN w0) P f az res) (W:World) {vs:List Value} (ha:oka az vs W (fun q=>q<W.heap.size)) :
  Calls P f vs.toArray W fun e W'=>∃v D',e=.returned v∧res.ok v W' D'∧Below W.heap.size W W' :=
 (h W W (fun q=>q<W.heap.size) vs ha ⟨Below.refl _ _,fun _ h=>h,fun _ h=>h⟩).mono fun _ _ ⟨v,D',h1,h2,h3⟩=>⟨v,D',h1,h2,h3.bel⟩
def vagg (x:Vec):Value:=.agg (vcs x).toArray
theorem zhj {x:Vec} {vs:Array Value} {W:World} {D:Dat} (h:okl [pI x.1,pI x.2.1,pI x.2.2] vs.toList W D):vs=(vcs x).toArray:=by
 apply Array.ext'
 match hv:vs.toList,h with
 | [a,b,c],h =>
  obtain ⟨h1,h2,h3,_⟩:=h
  rw [h1,h2,h3];rfl
theorem znX (a b:Vec) (n:Int) (W:World):Calls Tryz.prog 195 #[vagg a,vagg b,.int .i64 n] W fun e W'=>e=.returned (vagg (plusV a b n))∧Below W.heap.size W W':=by
 refine (zaL (fun w0=>zst a b n _ rfl) W (vs:=[vagg a,vagg b,.int .i64 n]) ⟨⟨_,rfl,rfl,rfl,rfl,trivial⟩,⟨_,rfl,rfl,rfl,rfl,trivial⟩,rfl,trivial⟩).mono ?_
 rintro e W' ⟨v,D',rfl,⟨vs,rfl,h⟩,hb⟩
 rw [zhj h]
 exact ⟨rfl,hb⟩
theorem zbc {W W':World} (h:Below W.heap.size W W'):W.grownBy W' none:=⟨h.os,h.tape,h.output,h.size,fun k hk _=>h.block k hk⟩
def KpS (n₀:Nat) (bs:List Nat) (A B:World):Prop:=Below n₀ A B∧∀b∈bs,B.heap[b]?=A.heap[b]?
theorem kpS_t {n₀:Nat} {bs:List Nat} {A B C:World} (h:KpS n₀ bs A B) (k:KpS n₀ bs B C):KpS n₀ bs A C:=⟨h.1.trans k.1,fun b hb=>(k.2 b hb).trans (h.2 b hb)⟩
theorem znz (n₀:Nat) (bs:List Nat) (A:World):KpS n₀ bs A A:=⟨Below.refl _ _,fun _ _=>rfl⟩
theorem zll {n₀:Nat} {bs:List Nat} {A B:World} (h:Below A.heap.size A B) (hn:n₀≤A.heap.size) (hb:∀b∈bs,b<A.heap.size):KpS n₀ bs A B:=⟨h.mono hn,fun b hm=>h.block b (hb b hm)⟩
theorem zd2 {a d:Vec} {N r:Nat} (h:r≤N):(lineP a d N).take (r+1)=(lineP a d N).take r++[plusV a d (r:Int)]:=by
 have hl:(lineP a d N).length=N+1:=by simp [lineP]
 rw [List.take_succ_eq_append_getElem (by omega)]
 simp [lineP]
theorem zsm (n:Nat) (hn:1≤n) (ll b1 b2 b3 n₀:Nat) (m:Mov) (d:Vec) (N:Nat) (hN:N<4611686018427387904) (J Jx:List Vec→World→Prop) (W:World) (hJ:AbidesFrom W.heap.size J)
  (hY:∀pre x W,J pre W→pre.length<N+1→YieldAt Fence.wide (n - 1) Tryz.prog ll #[vagg x] W fun e W' =>
   (e=.returned (.bool true)∧J (pre++[x]) W'∧KpS n₀ [b1,b2,b3] W W')∨(e=.returned (.bool false)∧Jx (pre++[x]) W'))
  (h1:W.heap[b1]?=some (.cells #[.int .i64 (N:Int)] 3 (0,0))) (h2:W.heap[b2]?=some (.cells (mcs m).toArray 169 (0,0))) (h3:W.heap[b3]?=some (.cells (vcs d).toArray 26 (0,0))) (hn₀:n₀≤W.heap.size) (h0:J [] W) :
  CallsIn Fence.wide n Tryz.prog 194 #[.func (.yield ll) #[] #[],.pointer (some ⟨b1,0,none⟩),.pointer (some ⟨b2,0,none⟩),.pointer (some ⟨b3,0,none⟩)] W fun e W'=>(∃v,e=.returned v) ∧
   ((∃ys,ys=lineP m.2.1 d N∧J ys W')∨(∃pre,pre <+: lineP m.2.1 d N∧Jx pre W')):=by
 refine callsIn_of_wp Tryz.func194 rfl trivial ?_ rfl
 simp only [Tryz.ntmps194,List.size_toArray,List.length_cons,List.length_nil,Nat.reduceAdd,Nat.reduceSub,Array.replicate_succ,Array.replicate_zero,List.push_toArray,List.append_toArray,List.nil_append,List.cons_append]
 have c1:W.cell? ⟨b1,0,none⟩=some (.int .i64 (N:Int)):=by rw [zq h1];rfl
 gi_wp2
 gi_loopw [8] (fun i wr=>∃r:Nat,r≤N+1∧i=.int .i64 (r:Int)∧J ((lineP m.2.1 d N).take r) wr∧KpS n₀ [b1,b2,b3] W wr∧W.heap.size≤wr.heap.size)
  (fun i _=>(N+1 - intOf i).toNat)
 case atStart=>exact ⟨0,Nat.zero_le _,rfl,by simpa using h0,znz _ _ _,Nat.le_refl _⟩
 case round =>
  obtain ⟨r,hr,rfl,hJs,hK,hsz⟩:=hrel
  have h2':=(hK.2 b2 (by simp)).trans h2
  have h3':=(hK.2 b3 (by simp)).trans h3
  have ca:wr.cell? ⟨b2,1,none⟩=some (.int .i64 m.2.1.1):=by rw [zq h2'];rfl
  have cb:wr.cell? ⟨b2,2,none⟩=some (.int .i64 m.2.1.2.1):=by rw [zq h2'];rfl
  have cc:wr.cell? ⟨b2,3,none⟩=some (.int .i64 m.2.1.2.2):=by rw [zq h2'];rfl
  have cd:wr.cell? ⟨b3,0,none⟩=some (.int .i64 d.1):=by rw [zq h3'];rfl
  have ce:wr.cell? ⟨b3,1,none⟩=some (.int .i64 d.2.1):=by rw [zq h3'];rfl
  have cf:wr.cell? ⟨b3,2,none⟩=some (.int .i64 d.2.2):=by rw [zq h3'];rfl
  rcases Nat.lt_or_ge N r with hlt | hle
  ·obtain rfl:r=N+1:=by omega
   have hd:decide (((N+1:Nat):Int)<(N:Int)+1)=false:=by simp
   gi_wp2
   go_end0
   exact ⟨⟨_,rfl⟩,.inl ⟨_,List.take_of_length_le (by simp [lineP]),hJs⟩⟩
  ·have hd:decide ((r:Int)<(N:Int)+1)=true:=by simp;omega
   gi_wp2_with (refine ⟨trivial,?_⟩;gi_at_call 195;refine (callsIn_wide.2 (znX m.2.1 d (r:Int) _)).mono ?_;rintro e w1 ⟨rfl,hp1⟩;obtain ⟨fn,tmps,assign,body,hy,hR⟩:=hY _ (plusV m.2.1 d (r:Int)) w1 (hJ _ wr w1 none hJs (zbc hp1) (fun _ e=>by cases e)) (by rw [List.length_take];omega))
   refine hR.mono ?_
   have hkp:KpS n₀ [b1,b2,b3] wr w1:=zll hp1 (Nat.le_trans hn₀ hsz) (by
    have g1:=(Array.getElem?_eq_some_iff.1 h1).1
    have g2:=(Array.getElem?_eq_some_iff.1 h2).1
    have g3:=(Array.getElem?_eq_some_iff.1 h3).1
    intro b hb
    simp only [List.mem_cons,List.not_mem_nil,or_false] at hb
    rcases hb with rfl | rfl | rfl<;>omega)
   have hs1:=hp1.size
   rintro e W3 (⟨rfl,hJ3,hk3⟩ | ⟨rfl,hJx3⟩)
   ·gi_wp2
    go_roundw
    case rel=>exact ⟨r+1,by omega,by simp,by rw [zd2 hle];exact hJ3,kpS_t hK (kpS_t hkp hk3),Nat.le_trans hsz (Nat.le_trans hs1 hk3.1.size)⟩
    case measure=>simp [intOf];omega
   ·gi_wp2
    refine bodyPost_ret (results_none rfl _ _ _) rfl ?_
    exact ⟨⟨_,rfl⟩,.inr ⟨_,by rw [← zd2 hle];exact List.take_prefix _ _,hJx3⟩⟩
end Go.Proofs.YteimplkdcjapdaaGreatDoor
