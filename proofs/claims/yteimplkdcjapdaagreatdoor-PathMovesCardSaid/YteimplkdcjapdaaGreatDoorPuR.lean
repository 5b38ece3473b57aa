/-
  Merged: PtH.
-/
import Derived.Test.YteimplkdcjapdaaGreatDoorPuQ
import Derived.Lib.Hide
set_option linter.unusedSimpArgs false
set_option linter.unusedVariables false
set_option maxRecDepth 100000
set_option maxHeartbeats 2000000
namespace Go.Proofs.YteimplkdcjapdaaGreatDoor
open Go.RowKit
attribute [local go_sem] Oper.semAt_some
def magg (x:Mov):Value:=.agg (mcs x).toArray
theorem zlK (m:Mov) (W:World) (D:Dat):okl [pI m.1,pI m.2.1.1,pI m.2.1.2.1,pI m.2.1.2.2,pI m.2.2.1.1,pI m.2.2.1.2.1,pI m.2.2.1.2.2,pI m.2.2.2.1.1,pI m.2.2.2.1.2.1,pI m.2.2.2.1.2.2,pI m.2.2.2.2] (mcs m).toArray.toList W D:=⟨rfl,rfl,rfl,rfl,rfl,rfl,rfl,rfl,rfl,rfl,rfl,trivial⟩
theorem zkD (m:Mov) (W:World):Calls Tryz.prog 66 #[magg m] W fun e W'=>e=.returned (.int .i64 (chkM m))∧Below W.heap.size W W':=by
 refine (zaL (fun w0=>t_chk m _ rfl) W (vs:=[magg m]) ⟨⟨_,rfl,zlK m _ _⟩,trivial⟩).mono ?_
 rintro e W' ⟨v,D',rfl,h,hb⟩
 exact ⟨by rw [show v=_ from h],hb⟩
theorem zr4 (m:Mov) (hm:strM m=true) (W:World):Calls Tryz.prog 77 #[magg m] W fun e W'=>e=.returned (.iface 169 (magg m))∧Below W.heap.size W W':=by
 refine (zaL (fun w0=>zpK m hm) W (vs:=[magg m]) ⟨⟨_,rfl,zlK m _ _⟩,trivial⟩).mono ?_
 rintro e W' ⟨v,D',rfl,h,hb⟩
 exact ⟨by rw [show v=_ from h];rfl,hb⟩
theorem zqR (a b:Vec) (W:World):Calls Tryz.prog 39 #[vagg a,vagg b] W fun e W'=>e=.returned (vagg (subV a b))∧Below W.heap.size W W':=by
 refine (zaL (fun w0=>t_sub a b _ rfl) W (vs:=[vagg a,vagg b]) ⟨⟨_,rfl,rfl,rfl,rfl,trivial⟩,⟨_,rfl,rfl,rfl,rfl,trivial⟩,trivial⟩).mono ?_
 rintro e W' ⟨v,D',rfl,⟨vs,rfl,h⟩,hb⟩
 rw [zhj h]
 exact ⟨rfl,hb⟩
theorem znY (a:Vec) (ha:okV a) (W:World):Calls Tryz.prog 115 #[vagg a] W fun e W'=>e=.returned (.tuple #[vagg (primV a).1,.int .i64 (primV a).2])∧Below W.heap.size W W':=by
 refine (zaL (fun w0=>zgs a _ _ rfl rfl ha) W (vs:=[vagg a]) ⟨⟨_,rfl,rfl,rfl,rfl,trivial⟩,trivial⟩).mono ?_
 rintro e W' ⟨v,D',rfl,⟨vs,rfl,h⟩,hb⟩
 refine ⟨?_,hb⟩
 match hv:vs.toList,h with
 | [x,y],h =>
  obtain ⟨⟨us,rfl,h1⟩,h2,_⟩:=h
  have e1:vs=#[.agg us,y]:=Array.ext' (by rw [hv])
  rw [e1,zhj h1,show y=_ from h2]
  rfl
theorem zme (m:Mov) (W:World):Calls Tryz.prog 193 #[magg m] W fun e W'=>∃b1 b2 b3:Nat,e=.returned (.func (.func 194) #[] #[.pointer (some ⟨b1,0,none⟩),.pointer (some ⟨b2,0,none⟩),.pointer (some ⟨b3,0,none⟩)]) ∧
  W'.heap[b1]?=some (.cells #[.int .i64 (primV (subV m.2.2.1 m.2.1)).2] 3 (0,0))∧W'.heap[b2]?=some (.cells (mcs m).toArray 169 (0,0))∧W'.heap[b3]?=some (.cells (vcs (primV (subV m.2.2.1 m.2.1)).1).toArray 26 (0,0))∧Below W.heap.size W W'∧∀b∈[b1,b2,b3],W.heap.size≤b:=by
 unfold magg mcs
 go_enter Tryz.func193,Tryz.ntmps193
 go_wp2_with (first
  | (go_at_call 39;refine (zqR m.2.2.1 m.2.1 _).mono ?_;rintro e w1 ⟨rfl,hp1⟩)
  | (go_at_call 115;refine (znY _ (zde _ _) _).mono ?_;rintro e w2 ⟨rfl,hp2⟩;simp only [vagg,vcs]))
 go_ret
 have hB0:Below W.heap.size W (W.alloc (.cells (mcs m).toArray 169)):=(Below.refl _ W).alloc (Nat.le_refl _) _
 have hz0:(W.alloc (.cells (mcs m).toArray 169)).heap.size=W.heap.size+1:=by simp
 have hh0:(W.alloc (.cells (mcs m).toArray 169)).heap[W.heap.size]?=some (.cells (mcs m).toArray 169 (0,0)):=heap_alloc_new _ _
 have hp1':Below (W.heap.size+1) (W.alloc (.cells (mcs m).toArray 169)) w1:=by rw [← hz0];exact hp1
 have s1:=hp1'.size
 have s2:=hp2.size
 rw [hz0] at s1
 have h1:=(hp1'.block W.heap.size (by omega)).trans hh0
 have h2:=(hp2.block W.heap.size (by omega)).trans h1
 refine ⟨w2.heap.size+1,W.heap.size,w2.heap.size,rfl,?_,?_,?_,?_,fun b hb=>?_⟩
 ·have:=heap_alloc_new (w2.alloc (.cells (vcs (primV (subV m.2.2.1 m.2.1)).1).toArray 26)) (.cells #[.int .i64 (primV (subV m.2.2.1 m.2.1)).2] 3)
  rwa [World.size_alloc] at this
 ·exact (Below.heap_alloc _ _ _ (by simp;omega)).trans ((Below.heap_alloc _ _ _ (by omega)).trans h2)
 ·exact (Below.heap_alloc _ _ _ (by simp)).trans (heap_alloc_new w2 _)
 ·exact (((hB0.trans (hp1'.mono (by omega))).trans (hp2.mono (by omega))).alloc (by omega) _).alloc (by simp;omega) _
 ·simp only [List.mem_cons,List.not_mem_nil,or_false] at hb
  rcases hb with rfl | rfl | rfl<;>omega
theorem zqs (a:Vec):0≤(primV a).2:=by
 unfold primV
 split
 ·exact Int.le_refl 0
 ·exact zcX _ _
theorem zno (m:Mov) (N:Nat) (hN:N<1000000) (b1 b2 b3:Nat) (d:Vec) (W:World) (h1:W.heap[b1]?=some (.cells #[.int .i64 (N:Int)] 3 (0,0))) (h2:W.heap[b2]?=some (.cells (mcs m).toArray 169 (0,0))) (h3:W.heap[b3]?=some (.cells (vcs d).toArray 26 (0,0))) :
  Calls Tryz.prog 107 #[.func (.func 194) #[] #[.pointer (some ⟨b1,0,none⟩),.pointer (some ⟨b2,0,none⟩),.pointer (some ⟨b3,0,none⟩)]] W fun e W'=>∃v,e=.returned v∧W'.ownsRow W.heap.size 26 3 v (lineP m.2.1 d N).length ((lineP m.2.1 d N).flatMap vcs)∧Below W.heap.size W W':=by
 have g1:=(Array.getElem?_eq_some_iff.1 h1).1
 have g2:=(Array.getElem?_eq_some_iff.1 h2).1
 have g3:=(Array.getElem?_eq_some_iff.1 h3).1
 have hbs:∀b∈[b1,b2,b3],b<W.heap.size:=by
  intro b hb
  simp only [List.mem_cons,List.not_mem_nil,or_false] at hb
  rcases hb with rfl | rfl | rfl
  ·exact g1
  ·exact g2
  ·exact g3
 have hseq:SeqStopsK Fence.wide (3 - 1) Tryz.prog 194 #[.pointer (some ⟨b1,0,none⟩),.pointer (some ⟨b2,0,none⟩),.pointer (some ⟨b3,0,none⟩)] (fun x=>#[vagg x]) (KpS W.heap.size [b1,b2,b3]) (fun ys=>ys=lineP m.2.1 d N) (fun pre=>pre <+: lineP m.2.1 d N) (N+1) W:=
  fun l J Jx W1 hW hJ hJx hY h0=>zsm (3 - 1) (by omega) l b1 b2 b3 W.heap.size m d N (by omega) J Jx W1 hJ hY ((hW.block b1 g1).trans h1) ((hW.block b2 g2).trans h2) ((hW.block b3 g3).trans h3) hW.size h0
 refine (callsIn_wide (n:=4)).1 ?_
 refine callsIn_of_wp Tryz.func107 rfl trivial ?_ rfl
 simp only [Tryz.ntmps107,List.size_toArray,List.length_cons,List.length_nil,Nat.reduceAdd,Nat.reduceSub,Array.replicate_succ,Array.replicate_zero,List.push_toArray,List.append_toArray,List.nil_append,List.cons_append]
 gi_wp2_with (refine ⟨trivial,?_⟩;gi_at_call 132;refine (zfy 3 (by omega) _ _ (fun _ _=>qO (by kernel_rfl)) W W [b1,b2,b3] hbs _ _ (N+1) (by omega) hseq).mono ?_;rintro e w1 ⟨v,ss,rfl,rfl,hr,hp⟩)
 go_ret
 exact ⟨_,rfl,hr,hp⟩
theorem zjb {m:Mov} (h:strM m=true):ptsM m=lineP m.2.1 (primV (subV m.2.2.1 m.2.1)).1 (primV (subV m.2.2.1 m.2.1)).2.toNat:=by
 unfold ptsM
 rw [if_neg (fun e=>by unfold strM at h;rw [e] at h;cases h)]
theorem zob {W:World} {base base':Nat} {e:TypeId} {size:Nat} {v:Value} {k:Nat} {xs:List Value} (h:W.ownsRow base e size v k xs) (hb:base'≤base):W.ownsRow base' e size v k xs:=
 ⟨h.1,h.2.imp id fun ⟨g,cap,cur,h1,h2,h3⟩=>⟨g,cap,cur,h1,Nat.le_trans hb h2,h3⟩⟩
theorem znk {W w1:World} {cs:Array Value} {T:TypeId} (h:Below (W.alloc (.cells cs T)).heap.size (W.alloc (.cells cs T)) w1):w1.heap[W.heap.size]?=some (.cells cs T (0,0)):=
 (h.block W.heap.size (by simp)).trans (heap_alloc_new W _)
theorem zd7 (m:Mov) (hc:¬ chkM m=0) (W:World):Calls Tryz.prog 76 #[magg m] W fun e W'=>∃v,e=.returned v∧Below W.heap.size W W'∧∃l:List Vec,l=(if chkM m=0 then ptsM m else [])∧W'.ownsRow W.heap.size 26 3 v l.length (l.flatMap vcs):=by
 unfold magg mcs
 have hd:(chkM m != 0)=true:=by simpa using hc
 go_enter Tryz.func76,Tryz.ntmps76
 go_wp2_with (go_at_call 66;refine (zkD m _).mono ?_;rintro e w1 ⟨rfl,hp1⟩)
 go_ret
 have hB0:Below W.heap.size W (W.alloc (.cells (mcs m).toArray 45)):=(Below.refl _ W).alloc (Nat.le_refl _) _
 exact ⟨_,rfl,hB0.trans (hp1.mono (by simp)),rfl,.inl ⟨rfl,rfl⟩⟩
theorem zjI (m:Mov) (hm:strM m=true) (hN:(primV (subV m.2.2.1 m.2.1)).2<1000000) (W:World):Calls Tryz.prog 76 #[magg m] W fun e W'=>∃v,e=.returned v∧Below W.heap.size W W'∧∃l:List Vec,l=(if chkM m=0 then ptsM m else [])∧W'.ownsRow W.heap.size 26 3 v l.length (l.flatMap vcs):=by
 have hp0:=zqs (subV m.2.2.1 m.2.1)
 have eN:(((primV (subV m.2.2.1 m.2.1)).2.toNat:Nat):Int)=(primV (subV m.2.2.1 m.2.1)).2:=Int.toNat_of_nonneg hp0
 have hNN:(primV (subV m.2.2.1 m.2.1)).2.toNat<1000000:=by omega
 have H:=Lib.hid (zjb hm)
 have hme : ∀ (u : Value) (w : World), (method 338 169 u "collet/move.steps").run Tryz.prog w = .ok (193, u) w := fun u w => zlh (by kernel_rfl)
 unfold magg mcs
 by_cases hc:chkM m=0
 ·have hd:(chkM m != 0)=false:=by rw [hc];rfl
  go_enter Tryz.func76,Tryz.ntmps76
  go_wp2_with (first
   | (go_at_call 66;refine (zkD m _).mono ?_;rintro e w1 ⟨rfl,hp1⟩;have hb1:=znk hp1;have c0:w1.cell? ⟨W.heap.size,0,none⟩=some (.int .i64 m.1):=(by rw [zq hb1];rfl);have c1:w1.cell? ⟨W.heap.size,1,none⟩=some (.int .i64 m.2.1.1):=(by rw [zq hb1];rfl);have c2:w1.cell? ⟨W.heap.size,2,none⟩=some (.int .i64 m.2.1.2.1):=(by rw [zq hb1];rfl);have c3:w1.cell? ⟨W.heap.size,3,none⟩=some (.int .i64 m.2.1.2.2):=(by rw [zq hb1];rfl);have c4:w1.cell? ⟨W.heap.size,4,none⟩=some (.int .i64 m.2.2.1.1):=(by rw [zq hb1];rfl);have c5:w1.cell? ⟨W.heap.size,5,none⟩=some (.int .i64 m.2.2.1.2.1):=(by rw [zq hb1];rfl);have c6:w1.cell? ⟨W.heap.size,6,none⟩=some (.int .i64 m.2.2.1.2.2):=(by rw [zq hb1];rfl);have c7:w1.cell? ⟨W.heap.size,7,none⟩=some (.int .i64 m.2.2.2.1.1):=(by rw [zq hb1];rfl);have c8:w1.cell? ⟨W.heap.size,8,none⟩=some (.int .i64 m.2.2.2.1.2.1):=(by rw [zq hb1];rfl);have c9:w1.cell? ⟨W.heap.size,9,none⟩=some (.int .i64 m.2.2.2.1.2.2):=(by rw [zq hb1];rfl);have c10:w1.cell? ⟨W.heap.size,10,none⟩=some (.int .i64 m.2.2.2.2):=(by rw [zq hb1];rfl);skip)
   | (go_at_call 77;refine (zr4 m hm _).mono ?_;rintro e w2 ⟨rfl,hp2⟩)
   | (go_at_call 193;refine (zme m _).mono ?_;rintro e w3 ⟨b1,b2,b3,rfl,k1,k2,k3,hp3,-⟩;rw [← eN] at k1)
   | (go_at_call 107;refine (zno m _ hNN b1 b2 b3 _ _ k1 k2 k3).mono ?_;rintro e w4 ⟨v,rfl,hr,hp4⟩))
  go_ret
  have hB0:Below W.heap.size W (W.alloc (.cells (mcs m).toArray 45)):=(Below.refl _ W).alloc (Nat.le_refl _) _
  have hp1':Below W.heap.size (W.alloc (.cells (mcs m).toArray 45)) w1:=hp1.mono (by simp)
  have hB1:=hB0.trans hp1'
  have hB2:=hB1.trans (hp2.mono hB1.size)
  have hB3:=hB2.trans (hp3.mono hB2.size)
  refine ⟨_,rfl,hB3.trans (hp4.mono hB3.size),?_⟩
  rw [H.out]
  exact zob hr hB3.size
 ·have:=zd7 m hc W
  unfold magg mcs at this
  exact this
end Go.Proofs.YteimplkdcjapdaaGreatDoor
