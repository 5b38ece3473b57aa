/-
  Merged: PtEa, PtHa, PtI, PtJ, PtU, PtV, PtW, PtX, PtY, PtZ, PtZa, PtZb.
-/
import Derived.Test.YteimplkdcjapdaaGreatDoorPuP
import Derived.Stop.RegionWithIn
import Derived.Lib.Hide
import Derived.Test.YteimplkdcjapdaaGreatDoorPuR
import Derived.Test.YteimplkdcjapdaaGreatDoorPuN
import Derived.Test.YteimplkdcjapdaaGreatDoorPuM
import Derived.Test.YteimplkdcjapdaaGreatDoorPuO
set_option linter.unusedSimpArgs false
set_option linter.unusedVariables false
set_option maxRecDepth 100000
set_option maxHeartbeats 8000000
namespace Go.Proofs.YteimplkdcjapdaaGreatDoor
open Go.RowKit
attribute [local go_sem] Oper.semAt_some
theorem zs2 {c a b:Vec} {r k j i:Nat}:arcG c a b r (k+1) j i=(if downI (r*r) j i*downI (r*r) j i+j*j=r*r then [plusV (plusV c a (downI (r*r) j i)) b j] else [])++arcG c a b r k (j+1) (downI (r*r) j i):=rfl
theorem ztt {r j i:Nat} (h:r<(i+1)*(i+1)+j*j):downI r j (i+1)=downI r j i:=if_pos h
theorem ztu {r j i:Nat} (h:i=0∨¬ r<i*i+j*j):downI r j i=i:=by
 cases i with
 | zero=>rfl
 | succ i=>exact if_neg (h.resolve_left (by omega))
theorem ztg {c a b:Vec} {r:Nat}:∀{k j i:Nat},(arcG c a b r k j i).length≤k
 | 0,_,_=>Nat.le_refl 0
 | k+1,j,i=>by
  rw [zs2,List.length_append]
  have:=ztg (c:=c) (a:=a) (b:=b) (r:=r) (k:=k) (j:=j+1) (i:=downI (r*r) j i)
  split
  ·rw [List.length_singleton];omega
  ·rw [List.length_nil];omega
theorem cellV {W:World} {b:Nat} {T:TypeId} {x:Vec} (h:W.heap[b]?=some (.cells (vcs x).toArray T (0,0))):W.cell? ⟨b,0,none⟩=some (.int .i64 x.1)∧W.cell? ⟨b,1,none⟩=some (.int .i64 x.2.1)∧W.cell? ⟨b,2,none⟩=some (.int .i64 x.2.2):=
 ⟨by rw [zq h];rfl,by rw [zq h];rfl,by rw [zq h];rfl⟩
theorem ztS {e:Ending} {A B:Prop} (h:(e=.returned (.bool true)∧A)∨(e=.returned (.bool false)∧B)):∃c:Bool,e=.returned (.bool c)∧(c=true→A)∧(c=false→B):=by
 rcases h with ⟨h,a⟩ | ⟨h,b⟩
 ·exact ⟨true,h,fun _=>a,fun h=>by cases h⟩
 ·exact ⟨false,h,fun h=>(by cases h),fun _=>b⟩
theorem ztX (n:Nat) (hn:1≤n) (ll b1 b2 b3 b4 n₀:Nat) (c a b:Vec) (R:Nat) (hR:R≤1000) (J Jx:List Vec→World→Prop) (W:World) (hJ:AbidesFrom W.heap.size J)
  (hY:∀pre x W,J pre W→pre.length<R+1→YieldAt Fence.wide (n - 1) Tryz.prog ll #[vagg x] W fun e W' =>
   (e=.returned (.bool true)∧J (pre++[x]) W'∧KpS n₀ [b1,b2,b3,b4] W W')∨(e=.returned (.bool false)∧Jx (pre++[x]) W'))
  (h1:W.heap[b1]?=some (.cells #[.int .i64 (R:Int)] 3 (0,0))) (h2:W.heap[b2]?=some (.cells (vcs c).toArray 26 (0,0))) (h3:W.heap[b3]?=some (.cells (vcs a).toArray 26 (0,0))) (h4:W.heap[b4]?=some (.cells (vcs b).toArray 26 (0,0))) (hn₀:n₀≤W.heap.size) (h0:J [] W) :
  CallsIn Fence.wide n Tryz.prog 202 #[.func (.yield ll) #[] #[],.pointer (some ⟨b1,0,none⟩),.pointer (some ⟨b2,0,none⟩),.pointer (some ⟨b3,0,none⟩),.pointer (some ⟨b4,0,none⟩)] W fun e W'=>(∃v,e=.returned v) ∧
   ((∃ys,ys=arcG c a b R (R+1) 0 R∧J ys W')∨(∃pre,pre <+: arcG c a b R (R+1) 0 R∧Jx pre W')):=by
 refine callsIn_of_wp Tryz.func202 rfl trivial ?_ rfl
 simp only [Tryz.ntmps202,List.size_toArray,List.length_cons,List.length_nil,Nat.reduceAdd,Nat.reduceSub,Array.replicate_succ,Array.replicate_zero,List.push_toArray,List.append_toArray,List.nil_append,List.cons_append]
 have c1:W.cell? ⟨b1,0,none⟩=some (.int .i64 (R:Int)):=by rw [zq h1];rfl
 gi_wp2
 gi_loopw [6,11] (fun vi vj wr=>∃(i j:Nat) (pre:List Vec),(j≤R+1∧i≤R∧pre.length≤j)∧vi=.int .i64 (i:Int)∧vj=.int .i64 (j:Int)∧pre++arcG c a b R (R+1 - j) j i=arcG c a b R (R+1) 0 R∧J pre wr∧KpS n₀ [b1,b2,b3,b4] W wr∧W.heap.size≤wr.heap.size)
  (fun _ vj _=>(R+1 - intOf vj).toNat)
 case atStart=>exact ⟨R,0,[],⟨by omega,by omega,Nat.le_refl _⟩,rfl,rfl,rfl,h0,znz _ _ _,Nat.le_refl _⟩
 case round =>
  obtain ⟨i,j,pre,⟨hj,hi,hl⟩,rfl,rfl,hg,hJs,hK,hsz⟩:=hrel
  have h1':=(hK.2 b1 (by simp)).trans h1
  have h2':=(hK.2 b2 (by simp)).trans h2
  have h3':=(hK.2 b3 (by simp)).trans h3
  have h4':=(hK.2 b4 (by simp)).trans h4
  have d1:wr.cell? ⟨b1,0,none⟩=some (.int .i64 (R:Int)):=by rw [zq h1'];rfl
  rcases Nat.lt_or_ge R j with hlt | hle
  ·obtain rfl:j=R+1:=by omega
   have hd:decide (((R+1:Nat):Int)<(R:Int)+1)=false:=by simp
   gi_wp2
   go_end0
   rw [Nat.sub_self,arcG,List.append_nil] at hg
   exact ⟨⟨_,rfl⟩,.inl ⟨_,hg,hJs⟩⟩
  ·have hd:decide ((j:Int)<(R:Int)+1)=true:=by simp;omega
   gi_wp2
   gi_loopw [6] (fun vi w=>∃i':Nat,vi=.int .i64 (i':Int)∧i'≤i∧downI (R*R) j i'=downI (R*R) j i∧w=wr) (fun vi _=>(intOf vi).toNat)
   case atStart=>exact ⟨i,rfl,Nat.le_refl _,rfl,rfl⟩
   case round =>
    obtain ⟨i',rfl,hi',hdn,rfl⟩:=hrel
    have b1_:i'*i'≤1000000:=Nat.mul_le_mul (show i'≤1000 by omega) (show i'≤1000 by omega)
    have b2_:j*j≤1002001:=Nat.mul_le_mul (show j≤1001 by omega) (show j≤1001 by omega)
    have b3_:R*R≤1000000:=Nat.mul_le_mul hR hR
    have w1_:IntKind.i64.wrap ((i':Int)*(i':Int))=((i'*i':Nat):Int):=by rw [wri (by rw [← Int.natCast_mul];omega),Int.natCast_mul]
    have w2_:IntKind.i64.wrap ((j:Int)*(j:Int))=((j*j:Nat):Int):=by rw [wri (by rw [← Int.natCast_mul];omega),Int.natCast_mul]
    have w3_:IntKind.i64.wrap ((R:Int)*(R:Int))=((R*R:Nat):Int):=by rw [wri (by rw [← Int.natCast_mul];omega),Int.natCast_mul]
    have w4_:IntKind.i64.wrap (((i'*i':Nat):Int)+((j*j:Nat):Int))=((i'*i'+j*j:Nat):Int):=by rw [wri (by omega)];omega
    gi_wp2
    ·rename_i hc
     have hc':R*R<i'*i'+j*j:=by omega
     have hj2:j*j≤R*R:=Nat.mul_le_mul hle hle
     obtain ⟨k,rfl⟩:∃k,i'=k+1:=⟨i' - 1,by
      rcases Nat.eq_zero_or_pos i' with h | h
      ·subst h;omega
      ·omega⟩
     refine ⟨⟨k,?_,by omega,(ztt hc').symm.trans hdn,trivial⟩,?_⟩
     ·rw [show ((k+1:Nat):Int) - 1=(k:Int) by omega]
     ·simp [intOf]
    ·rename_i hc
     have hc':¬ R*R<i'*i'+j*j:=by omega
     have hdi:downI (R*R) j i=i':=by rw [← hdn];exact ztu (.inr hc')
     have hg':pre++((if i'*i'+j*j=R*R then [plusV (plusV c a i') b j] else [])++arcG c a b R (R - j) (j+1) i')=arcG c a b R (R+1) 0 R:=by
      rw [← hg,show R+1 - j=R - j+1 by omega,zs2,hdi]
     have hbs:∀b∈[b1,b2,b3,b4],b<W.heap.size:=by
      have g1:=(Array.getElem?_eq_some_iff.1 h1).1
      have g2:=(Array.getElem?_eq_some_iff.1 h2).1
      have g3:=(Array.getElem?_eq_some_iff.1 h3).1
      have g4:=(Array.getElem?_eq_some_iff.1 h4).1
      intro b hb
      simp only [List.mem_cons,List.not_mem_nil,or_false] at hb
      rcases hb with rfl | rfl | rfl | rfl<;>assumption
     have hBd:Below wr.heap.size wr wr.drew:=⟨rfl,rfl,rfl,Nat.le_refl _,fun _ _=>rfl⟩
     have hKd:KpS n₀ [b1,b2,b3,b4] W wr.drew:=kpS_t hK (zll hBd (Nat.le_trans hn₀ hsz) (fun b hb=>Nat.lt_of_lt_of_le (hbs b hb) hsz))
     have hszd:W.heap.size≤wr.drew.heap.size:=hsz
     obtain ⟨k20,k21,k22⟩:=cellV ((hKd.2 b2 (by simp)).trans h2)
     obtain ⟨k30,k31,k32⟩:=cellV ((hKd.2 b3 (by simp)).trans h3)
     obtain ⟨k40,k41,k42⟩:=cellV ((hKd.2 b4 (by simp)).trans h4)
     have d1d:wr.drew.cell? ⟨b1,0,none⟩=some (.int .i64 (R:Int)):=d1
     obtain ⟨X1,x1⟩:∃X:Int,IntKind.i64.wrap ((i':Int)*(i':Int))=X:=⟨_,rfl⟩
     obtain ⟨X2,x2⟩:∃X:Int,IntKind.i64.wrap ((j:Int)*(j:Int))=X:=⟨_,rfl⟩
     obtain ⟨X3,x3⟩:∃X:Int,IntKind.i64.wrap ((R:Int)*(R:Int))=X:=⟨_,rfl⟩
     obtain ⟨X4,x4⟩:∃X:Int,IntKind.i64.wrap (X1+X2)=X:=⟨_,rfl⟩
     have e4:X4=((i'*i'+j*j:Nat):Int):=by rw [← x4,← x1,← x2,w1_,w2_,w4_]
     have e3:X3=((R*R:Nat):Int):=by rw [← x3,w3_]
     have HX:=Lib.hid (And.intro e4 e3)
     have hpl:pre.length<R+1:=by omega
     have FY:=Lib.hid (show ∀(W3 w1:World),X4=X3→KpS n₀ [b1,b2,b3,b4] W w1→W.heap.size≤w1.heap.size→J (pre++[plusV (plusV c a (i':Int)) b (j:Int)]) W3∧KpS n₀ [b1,b2,b3,b4] w1 W3→∃(i_1 j_1:Nat) (pre_1:List Vec),(j_1≤R+1∧i_1≤R∧pre_1.length≤j_1)∧Value.int IntKind.i64 (i':Int)=Value.int IntKind.i64 (i_1:Int)∧Value.int IntKind.i64 ((j:Int)+1)=Value.int IntKind.i64 (j_1:Int)∧pre_1++arcG c a b R (R+1 - j_1) j_1 i_1=arcG c a b R (R+1) 0 R∧J pre_1 W3∧KpS n₀ [b1,b2,b3,b4] W W3∧W.heap.size≤W3.heap.size from fun W3 w1 he k1 s1 k2=>⟨i',j+1,pre++[plusV (plusV c a (i':Int)) b (j:Int)],⟨by omega,by omega,by rw [List.length_append,List.length_singleton];omega⟩,rfl,by rw [Int.natCast_succ],by rw [← hg',if_pos (show i'*i'+j*j=R*R by omega),List.append_assoc,show R+1 - (j+1)=R - j by omega],k2.1,kpS_t k1 k2.2,Nat.le_trans s1 k2.2.1.size⟩)
     have FN:=Lib.hid (show X4≠X3→∃(i_1 j_1:Nat) (pre_1:List Vec),(j_1≤R+1∧i_1≤R∧pre_1.length≤j_1)∧Value.int IntKind.i64 (i':Int)=Value.int IntKind.i64 (i_1:Int)∧Value.int IntKind.i64 ((j:Int)+1)=Value.int IntKind.i64 (j_1:Int)∧pre_1++arcG c a b R (R+1 - j_1) j_1 i_1=arcG c a b R (R+1) 0 R∧J pre_1 wr.drew∧KpS n₀ [b1,b2,b3,b4] W wr.drew∧W.heap.size≤wr.drew.heap.size from fun he=>⟨i',j+1,pre,⟨by omega,by omega,by omega⟩,rfl,by rw [Int.natCast_succ],by rw [← hg',if_neg (show ¬ (i'*i'+j*j=R*R) by omega),List.nil_append,show R+1 - (j+1)=R - j by omega],hJ _ wr _ none hJs (zbc hBd) (fun _ e=>by cases e),hKd,hszd⟩)
     have FP:=Lib.hid (show X4=X3→pre++[plusV (plusV c a (i':Int)) b (j:Int)] <+: arcG c a b R (R+1) 0 R from fun he=>⟨arcG c a b R (R - j) (j+1) i',by rw [← hg',if_pos (show i'*i'+j*j=R*R by omega),List.append_assoc]⟩)
     have FM:=Lib.hid (show ((R:Int)+1 - ((j:Int)+1)).toNat<((R:Int)+1 - (j:Int)).toNat by omega)
     clear w1_ w2_ w3_ w4_ b1_ b2_ b3_ e4 e3 hg' hdi hc' hdn hg hd d1 hi' hi hle
     have hmx:Tryz.prog.follows .mixedOrders=true:=by kernel_rfl
     by_cases he:X4=X3
     ·have hq:(X4 == X3)=true:=by simpa using he
      clear he
      refine wpIn_region_any hmx ?_
      refine wpAnyIn_take (i:=0) (v:=?_) rfl rfl (by kernel_rfl) (by kernel_rfl) (by kernel_rfl) (fun _ _ _ h=>h) ⟨Or.inl ⟨by kernel_rfl,?_⟩,fun _=>by kernel_rfl⟩ ?_;rotate_left 1;· (intro w;go_simp;try (with_reducible rfl))
      refine wpAnyIn_take (i:=1) (v:=?_) rfl rfl (by kernel_rfl) (by kernel_rfl) (by kernel_rfl) (fun _ _ _ h=>h) ⟨Or.inl ⟨by kernel_rfl,?_⟩,fun _=>by kernel_rfl⟩ ?_;rotate_left 1;· (intro w;go_simp;try (with_reducible rfl))
      refine wpAnyIn_take (i:=3) (v:=?_) rfl rfl (by kernel_rfl) (by kernel_rfl) (by kernel_rfl) (fun _ _ _ h=>h) ⟨Or.inl ⟨by kernel_rfl,?_⟩,fun _=>by kernel_rfl⟩ ?_;rotate_left 1;· (intro w;go_simp;try (with_reducible rfl))
      refine wpAnyIn_take (i:=4) (v:=?_) rfl rfl (by kernel_rfl) (by kernel_rfl) (by kernel_rfl) (fun _ _ _ h=>h) ⟨Or.inl ⟨by kernel_rfl,?_⟩,fun _=>by kernel_rfl⟩ ?_;rotate_left 1;· (intro w;go_simp;try (with_reducible rfl))
      refine wpAnyIn_take (i:=2) (v:=?_) rfl rfl (by kernel_rfl) (by kernel_rfl) (by kernel_rfl) (fun _ _ _ h=>h) ⟨Or.inl ⟨by kernel_rfl,?_⟩,fun _=>by kernel_rfl⟩ ?_;rotate_left 1;· (intro w;go_simp;try (with_reducible rfl))
      refine wpAnyIn_take (i:=5) (v:=?_) rfl rfl (by kernel_rfl) (by kernel_rfl) (by kernel_rfl) (fun _ _ _ h=>h) ⟨Or.inl ⟨by kernel_rfl,?_⟩,fun _=>by kernel_rfl⟩ ?_;rotate_left 1;· (intro w;go_simp;try (with_reducible rfl))
      refine wpAnyIn_take (i:=6) (v:=?_) rfl rfl (by kernel_rfl) (by kernel_rfl) (by kernel_rfl) (fun _ _ _ h=>h) ⟨Or.inl ⟨by kernel_rfl,?_⟩,fun _=>by kernel_rfl⟩ ?_;rotate_left 1;· (intro w;go_simp;try (with_reducible rfl))
      refine wpAnyIn_ready (rs:=[7,8]) (by decide +kernel) (by simp) (AllReadyIn.cons rfl (fun K hK=>?_) (AllReadyIn.cons rfl (fun K hK=>?_) AllReadyIn.nil))
      all_goals (go_simp;refine hK _ _ ?_;clear hK K)
      all_goals first
       | (refine wpAnyIn_ready (rs:=[7]) (by decide +kernel) (by simp) (AllReadyIn.cons rfl (fun K hK=>?_) AllReadyIn.nil);(go_simp;refine hK _ _ ?_;clear hK K))
       | (refine wpAnyIn_ready (rs:=[8]) (by decide +kernel) (by simp) (AllReadyIn.cons rfl (fun K hK=>?_) AllReadyIn.nil);(go_simp;refine hK _ _ ?_;clear hK K))
      all_goals (refine wpAnyIn_take (i:=9) (v:=?_) rfl rfl (by kernel_rfl) (by kernel_rfl) (by kernel_rfl) (fun _ _ _ h=>h) ⟨Or.inl ⟨by kernel_rfl,?_⟩,fun _=>by kernel_rfl⟩ ?_;rotate_left 1;· (intro w;go_simp;try (with_reducible rfl)))
      all_goals (refine wpAnyIn_take (i:=10) (v:=?_) rfl rfl (by kernel_rfl) (by kernel_rfl) (by kernel_rfl) (fun _ _ _ h=>h) ⟨Or.inl ⟨by kernel_rfl,?_⟩,fun _=>by kernel_rfl⟩ ?_;rotate_left 1;· (intro w;go_simp;try (with_reducible rfl)))
      all_goals (refine wpAnyIn_take (i:=11) (v:=?_) rfl rfl (by kernel_rfl) (by kernel_rfl) (by kernel_rfl) (fun _ _ _ h=>h) ⟨Or.inl ⟨by kernel_rfl,?_⟩,fun _=>by kernel_rfl⟩ ?_;rotate_left 1;· (intro w;go_simp;try (with_reducible rfl)))
      all_goals (refine wpAnyIn_take (i:=12) (v:=?_) rfl rfl (by kernel_rfl) (by kernel_rfl) (by kernel_rfl) (fun _ _ _ h=>h) ⟨Or.inl ⟨by kernel_rfl,?_⟩,fun _=>by kernel_rfl⟩ ?_;rotate_left 1;· (intro w;go_simp;try (with_reducible rfl)))
      all_goals (refine wpAnyIn_take (i:=15) (v:=?_) rfl rfl (by kernel_rfl) (by kernel_rfl) (by kernel_rfl) (fun _ _ _ h=>h) ⟨Or.inl ⟨by kernel_rfl,?_⟩,fun _=>by kernel_rfl⟩ ?_;rotate_left 1;· (intro w;go_simp;try (with_reducible rfl)))
      all_goals (refine wpAnyIn_take (i:=18) (v:=?_) rfl rfl (by kernel_rfl) (by kernel_rfl) (by kernel_rfl) (fun _ _ _ h=>h) ⟨Or.inl ⟨by kernel_rfl,?_⟩,fun _=>by kernel_rfl⟩ ?_;rotate_left 1;· (intro w;go_simp;try (with_reducible rfl)))
      repeat' first
       | (refine wpAnyIn_ready (rs:=[13,14,17]) (by decide +kernel) (by simp) (AllReadyIn.cons rfl (fun K hK=>?_) (AllReadyIn.cons rfl (fun K hK=>?_) (AllReadyIn.cons rfl (fun K hK=>?_) AllReadyIn.nil)))<;>(go_simp;refine hK _ _ ?_;clear hK K))
       | (refine wpAnyIn_ready (rs:=[14,17]) (by decide +kernel) (by simp) (AllReadyIn.cons rfl (fun K hK=>?_) (AllReadyIn.cons rfl (fun K hK=>?_) AllReadyIn.nil))<;>(go_simp;refine hK _ _ ?_;clear hK K))
       | (refine wpAnyIn_ready (rs:=[13,17]) (by decide +kernel) (by simp) (AllReadyIn.cons rfl (fun K hK=>?_) (AllReadyIn.cons rfl (fun K hK=>?_) AllReadyIn.nil))<;>(go_simp;refine hK _ _ ?_;clear hK K))
       | (refine wpAnyIn_ready (rs:=[13,14]) (by decide +kernel) (by simp) (AllReadyIn.cons rfl (fun K hK=>?_) (AllReadyIn.cons rfl (fun K hK=>?_) AllReadyIn.nil))<;>(go_simp;refine hK _ _ ?_;clear hK K))
       | (refine wpAnyIn_ready (rs:=[16]) (by decide +kernel) (by simp) (AllReadyIn.cons rfl (fun K hK=>?_) AllReadyIn.nil);go_simp;(refine ⟨trivial,?_⟩;gi_at_call 195;refine (callsIn_wide.2 (znX c a (i':Int) _)).mono ?_;rintro e w1 ⟨rfl,hp1⟩;have hK2:=kpS_t hKd (zll hp1 (Nat.le_trans hn₀ hszd) (fun b hb=>Nat.lt_of_lt_of_le (hbs b hb) hszd));have hBd:=hBd.trans (hp1.mono hBd.size);have hszd:=Nat.le_trans hszd hp1.size;clear hKd;have hKd:=hK2;clear hK2;obtain ⟨k40,k41,k42⟩:=cellV ((hKd.2 b4 (by simp)).trans h4);refine hK _ _ ?_;clear hK K))
       | (refine wpAnyIn_ready (rs:=[16,17]) (by decide +kernel) (by simp) (AllReadyIn.cons rfl (fun K hK=>?_) (AllReadyIn.cons rfl (fun K hK=>?_) AllReadyIn.nil))<;>go_simp<;>first | (refine hK _ _ ?_;clear hK K) | (refine ⟨trivial,?_⟩;gi_at_call 195;refine (callsIn_wide.2 (znX c a (i':Int) _)).mono ?_;rintro e w1 ⟨rfl,hp1⟩;have hK2:=kpS_t hKd (zll hp1 (Nat.le_trans hn₀ hszd) (fun b hb=>Nat.lt_of_lt_of_le (hbs b hb) hszd));have hBd:=hBd.trans (hp1.mono hBd.size);have hszd:=Nat.le_trans hszd hp1.size;clear hKd;have hKd:=hK2;clear hK2;obtain ⟨k40,k41,k42⟩:=cellV ((hKd.2 b4 (by simp)).trans h4);refine hK _ _ ?_;clear hK K))
       | (refine wpAnyIn_ready (rs:=[17]) (by decide +kernel) (by simp) (AllReadyIn.cons rfl (fun K hK=>?_) AllReadyIn.nil);(go_simp;refine hK _ _ ?_;clear hK K))
       | (refine wpAnyIn_ready (rs:=[14]) (by decide +kernel) (by simp) (AllReadyIn.cons rfl (fun K hK=>?_) AllReadyIn.nil);(go_simp;refine hK _ _ ?_;clear hK K))
       | (refine wpAnyIn_ready (rs:=[13]) (by decide +kernel) (by simp) (AllReadyIn.cons rfl (fun K hK=>?_) AllReadyIn.nil);(go_simp;refine hK _ _ ?_;clear hK K))
       | fail "no arm"
      all_goals (refine wpAnyIn_ready (rs:=[19]) (by decide +kernel) (by simp) (AllReadyIn.cons rfl (fun K hK=>?_) AllReadyIn.nil);go_simp;(refine ⟨trivial,?_⟩;gi_at_call 195;refine (callsIn_wide.2 (znX (plusV c a (i':Int)) b (j:Int) _)).mono ?_;rintro e w1 ⟨rfl,hp1⟩;have hK2:=kpS_t hKd (zll hp1 (Nat.le_trans hn₀ hszd) (fun b hb=>Nat.lt_of_lt_of_le (hbs b hb) hszd));have hBd:=hBd.trans (hp1.mono hBd.size);have hszd:=Nat.le_trans hszd hp1.size;clear hKd;have hKd:=hK2;clear hK2;refine hK _ _ ?_;clear hK K))
      all_goals (refine wpAnyIn_ready (rs:=[20]) (by decide +kernel) (by simp) (AllReadyIn.cons rfl (fun K hK=>?_) AllReadyIn.nil);go_simp;(obtain ⟨fn,tmps,assign,body,hy,hR2⟩:=hY pre (plusV (plusV c a (i':Int)) b (j:Int)) _ (hJ _ wr _ none hJs (zbc hBd) (fun _ e=>by cases e)) hpl;rw [hy];simp only [Oper.uponIn];refine ⟨?gg,hR2.mono ?_⟩;(case gg=>(first | trivial | rfl | omega | (trace_state;sorry)));rintro e W3 h3_;obtain ⟨cc,rfl,hT,hF⟩:=ztS h3_;clear h3_;refine hK _ _ ?_;clear hK K))
      all_goals (refine wpAnyIn_take (i:=21) (v:=?_) rfl rfl (by kernel_rfl) (by kernel_rfl) (by kernel_rfl) (fun _ _ _ h=>h) ⟨Or.inl ⟨by kernel_rfl,?_⟩,fun _=>by kernel_rfl⟩ ?_;rotate_left 1;· (intro w;go_simp;try (with_reducible rfl)))
      all_goals (refine wpAnyIn_take (i:=22) (v:=?_) rfl rfl (by kernel_rfl) (by kernel_rfl) (by kernel_rfl) (fun _ _ _ h=>h) ⟨Or.inl ⟨by kernel_rfl,?_⟩,fun _=>by kernel_rfl⟩ ?_;rotate_left 1;· (intro w;go_simp;try (with_reducible rfl)))
      all_goals (refine wpAnyIn_done (by decide +kernel) ?_ _)
      all_goals
       cases cc
       ·gi_wp2
        refine bodyPost_ret (results_none rfl _ _ _) rfl ?_
        exact ⟨⟨_,rfl⟩,.inr ⟨_,FP.out (by simpa using hq),hF trivial⟩⟩
       ·gi_wp2
        exact ⟨FY.out _ _ (by simpa using hq) hKd hszd (hT rfl),FM.out⟩
     ·have hq:(X4 == X3)=false:=by simpa using he
      clear he
      refine wpIn_region_any hmx ?_
      refine wpAnyIn_take (i:=0) (v:=?_) rfl rfl (by kernel_rfl) (by kernel_rfl) (by kernel_rfl) (fun _ _ _ h=>h) ⟨Or.inl ⟨by kernel_rfl,?_⟩,fun _=>by kernel_rfl⟩ ?_;rotate_left 1;· (intro w;go_simp;try (with_reducible rfl))
      refine wpAnyIn_take (i:=1) (v:=?_) rfl rfl (by kernel_rfl) (by kernel_rfl) (by kernel_rfl) (fun _ _ _ h=>h) ⟨Or.inl ⟨by kernel_rfl,?_⟩,fun _=>by kernel_rfl⟩ ?_;rotate_left 1;· (intro w;go_simp;try (with_reducible rfl))
      refine wpAnyIn_take (i:=3) (v:=?_) rfl rfl (by kernel_rfl) (by kernel_rfl) (by kernel_rfl) (fun _ _ _ h=>h) ⟨Or.inl ⟨by kernel_rfl,?_⟩,fun _=>by kernel_rfl⟩ ?_;rotate_left 1;· (intro w;go_simp;try (with_reducible rfl))
      refine wpAnyIn_take (i:=4) (v:=?_) rfl rfl (by kernel_rfl) (by kernel_rfl) (by kernel_rfl) (fun _ _ _ h=>h) ⟨Or.inl ⟨by kernel_rfl,?_⟩,fun _=>by kernel_rfl⟩ ?_;rotate_left 1;· (intro w;go_simp;try (with_reducible rfl))
      refine wpAnyIn_take (i:=2) (v:=?_) rfl rfl (by kernel_rfl) (by kernel_rfl) (by kernel_rfl) (fun _ _ _ h=>h) ⟨Or.inl ⟨by kernel_rfl,?_⟩,fun _=>by kernel_rfl⟩ ?_;rotate_left 1;· (intro w;go_simp;try (with_reducible rfl))
      refine wpAnyIn_take (i:=5) (v:=?_) rfl rfl (by kernel_rfl) (by kernel_rfl) (by kernel_rfl) (fun _ _ _ h=>h) ⟨Or.inl ⟨by kernel_rfl,?_⟩,fun _=>by kernel_rfl⟩ ?_;rotate_left 1;· (intro w;go_simp;try (with_reducible rfl))
      refine wpAnyIn_take (i:=6) (v:=?_) rfl rfl (by kernel_rfl) (by kernel_rfl) (by kernel_rfl) (fun _ _ _ h=>h) ⟨Or.inl ⟨by kernel_rfl,?_⟩,fun _=>by kernel_rfl⟩ ?_;rotate_left 1;· (intro w;go_simp;try (with_reducible rfl))
      refine wpAnyIn_ready (rs:=[7,8]) (by decide +kernel) (by simp) (AllReadyIn.cons rfl (fun K hK=>?_) (AllReadyIn.cons rfl (fun K hK=>?_) AllReadyIn.nil))
      all_goals (go_simp;refine hK _ _ ?_;clear hK K)
      all_goals first
       | (refine wpAnyIn_ready (rs:=[7]) (by decide +kernel) (by simp) (AllReadyIn.cons rfl (fun K hK=>?_) AllReadyIn.nil);(go_simp;refine hK _ _ ?_;clear hK K))
       | (refine wpAnyIn_ready (rs:=[8]) (by decide +kernel) (by simp) (AllReadyIn.cons rfl (fun K hK=>?_) AllReadyIn.nil);(go_simp;refine hK _ _ ?_;clear hK K))
      all_goals (refine wpAnyIn_take (i:=9) (v:=?_) rfl rfl (by kernel_rfl) (by kernel_rfl) (by kernel_rfl) (fun _ _ _ h=>h) ⟨Or.inl ⟨by kernel_rfl,?_⟩,fun _=>by kernel_rfl⟩ ?_;rotate_left 1;· (intro w;go_simp;try (with_reducible rfl)))
      all_goals (refine wpAnyIn_take (i:=10) (v:=?_) rfl rfl (by kernel_rfl) (by kernel_rfl) (by kernel_rfl) (fun _ _ _ h=>h) ⟨Or.inl ⟨by kernel_rfl,?_⟩,fun _=>by kernel_rfl⟩ ?_;rotate_left 1;· (intro w;go_simp;try (with_reducible rfl)))
      all_goals (refine wpAnyIn_take (i:=11) (v:=?_) rfl rfl (by kernel_rfl) (by kernel_rfl) (by kernel_rfl) (fun _ _ _ h=>h) ⟨Or.inl ⟨by kernel_rfl,?_⟩,fun _=>by kernel_rfl⟩ ?_;rotate_left 1;· (intro w;go_simp;try (with_reducible rfl)))
      all_goals (refine wpAnyIn_take (i:=12) (v:=undef) rfl rfl (by kernel_rfl) (by kernel_rfl) (by kernel_rfl) (fun _ _ _ h=>h) ⟨Or.inr ⟨by kernel_rfl,rfl⟩,fun _=>by kernel_rfl⟩ ?_)
      all_goals (refine wpAnyIn_take (i:=13) (v:=undef) rfl rfl (by kernel_rfl) (by kernel_rfl) (by kernel_rfl) (fun _ _ _ h=>h) ⟨Or.inr ⟨by kernel_rfl,rfl⟩,fun _=>by kernel_rfl⟩ ?_)
      all_goals (refine wpAnyIn_take (i:=14) (v:=undef) rfl rfl (by kernel_rfl) (by kernel_rfl) (by kernel_rfl) (fun _ _ _ h=>h) ⟨Or.inr ⟨by kernel_rfl,rfl⟩,fun _=>by kernel_rfl⟩ ?_)
      all_goals (refine wpAnyIn_take (i:=15) (v:=undef) rfl rfl (by kernel_rfl) (by kernel_rfl) (by kernel_rfl) (fun _ _ _ h=>h) ⟨Or.inr ⟨by kernel_rfl,rfl⟩,fun _=>by kernel_rfl⟩ ?_)
      all_goals (refine wpAnyIn_take (i:=17) (v:=undef) rfl rfl (by kernel_rfl) (by kernel_rfl) (by kernel_rfl) (fun _ _ _ h=>h) ⟨Or.inr ⟨by kernel_rfl,rfl⟩,fun _=>by kernel_rfl⟩ ?_)
      all_goals (refine wpAnyIn_take (i:=18) (v:=undef) rfl rfl (by kernel_rfl) (by kernel_rfl) (by kernel_rfl) (fun _ _ _ h=>h) ⟨Or.inr ⟨by kernel_rfl,rfl⟩,fun _=>by kernel_rfl⟩ ?_)
      all_goals (refine wpAnyIn_ready (rs:=[16]) (by decide +kernel) (by simp) (AllReadyIn.cons rfl (fun K hK=>?_) AllReadyIn.nil);go_simp;first | (refine hK _ _ ?_;clear hK K) | (refine ⟨trivial,hK _ _ ?_⟩;clear hK K) | (refine ⟨fun _ _=>trivial,hK _ _ ?_⟩;clear hK K))
      all_goals (refine wpAnyIn_ready (rs:=[19]) (by decide +kernel) (by simp) (AllReadyIn.cons rfl (fun K hK=>?_) AllReadyIn.nil);go_simp;first | (refine hK _ _ ?_;clear hK K) | (refine ⟨trivial,hK _ _ ?_⟩;clear hK K) | (refine ⟨fun _ _=>trivial,hK _ _ ?_⟩;clear hK K))
      all_goals (refine wpAnyIn_ready (rs:=[20]) (by decide +kernel) (by simp) (AllReadyIn.cons rfl (fun K hK=>?_) AllReadyIn.nil);go_simp;first | (refine hK _ _ ?_;clear hK K) | (refine ⟨trivial,hK _ _ ?_⟩;clear hK K) | (refine ⟨fun _ _=>trivial,hK _ _ ?_⟩;clear hK K))
      all_goals (refine wpAnyIn_take (i:=21) (v:=undef) rfl rfl (by kernel_rfl) (by kernel_rfl) (by kernel_rfl) (fun _ _ _ h=>h) ⟨Or.inr ⟨by kernel_rfl,rfl⟩,fun _=>by kernel_rfl⟩ ?_)
      all_goals (refine wpAnyIn_take (i:=22) (v:=?_) rfl rfl (by kernel_rfl) (by kernel_rfl) (by kernel_rfl) (fun _ _ _ h=>h) ⟨Or.inl ⟨by kernel_rfl,?_⟩,fun _=>by kernel_rfl⟩ ?_;rotate_left 1;· (intro w;go_simp;try (with_reducible rfl)))
      all_goals (refine wpAnyIn_done (by decide +kernel) ?_ _)
      all_goals
       gi_wp2
       exact ⟨FN.out (by simpa using hq),FM.out⟩
end Go.Proofs.YteimplkdcjapdaaGreatDoor
namespace Go.Proofs.YteimplkdcjapdaaGreatDoor
open Go.RowKit
attribute [local go_sem] Oper.semAt_some
theorem ztE (m:Mov) (hm:strM m=false) (h3:(m.1 == 3)=true) (W:World):Calls Tryz.prog 77 #[magg m] W fun e W'=>e=.returned (.iface 170 (magg m))∧Below W.heap.size W W':=by
 refine (zaL (fun w0=>zsr m hm h3) W (vs:=[magg m]) ⟨⟨_,rfl,zlK m _ _⟩,trivial⟩).mono ?_
 rintro e W' ⟨v,D',rfl,h,hb⟩
 exact ⟨by rw [show v=_ from h];rfl,hb⟩
theorem ztI (m:Mov) (W:World):Calls Tryz.prog 200 #[magg m] W fun e W'=>e=.returned (.tuple #[vagg (sideA m).1,vagg (sideB m).1,.int .i64 (sideA m).2,.int .i64 (sideB m).2])∧Below W.heap.size W W':=by
 refine (zaL (fun w0=>zrd m _ _ _ _ rfl rfl rfl rfl) W (vs:=[magg m]) ⟨⟨_,rfl,zlK m _ _⟩,trivial⟩).mono ?_
 rintro e W' ⟨v,D',rfl,⟨vs,rfl,h⟩,hb⟩
 refine ⟨?_,hb⟩
 match hv:vs.toList,h with
 | [x,y,z,u],h =>
  obtain ⟨⟨us,rfl,h1⟩,⟨ws,rfl,h2⟩,h3,h4,_⟩:=h
  have e1:vs=#[.agg us,.agg ws,z,u]:=Array.ext' (by rw [hv])
  rw [e1,zhj h1,zhj h2,show z=_ from h3,show u=_ from h4]
  rfl
theorem zsS {m:Mov} (h:(m.1 == 3)=true):ptsM m=arcG (plusV m.2.1 (sideA m).1 (wI (0 - (sideA m).2))) (sideA m).1 (sideB m).1 (sideA m).2.toNat ((sideA m).2.toNat+1) 0 (sideA m).2.toNat:=by
 unfold ptsM
 rw [if_pos (by simpa using h)]
theorem zsV (m:Mov) (W:World):Calls Tryz.prog 199 #[magg m] W fun e W'=>∃b1 b2 b3 b4:Nat,e=.returned (.func (.func 202) #[] #[.pointer (some ⟨b1,0,none⟩),.pointer (some ⟨b2,0,none⟩),.pointer (some ⟨b3,0,none⟩),.pointer (some ⟨b4,0,none⟩)]) ∧
  W'.heap[b1]?=some (.cells #[.int .i64 (sideA m).2] 3 (0,0))∧W'.heap[b2]?=some (.cells (vcs (plusV m.2.1 (sideA m).1 (wI (0 - (sideA m).2)))).toArray 26 (0,0))∧W'.heap[b3]?=some (.cells (vcs (sideA m).1).toArray 26 (0,0))∧W'.heap[b4]?=some (.cells (vcs (sideB m).1).toArray 26 (0,0))∧Below W.heap.size W W'∧∀b∈[b1,b2,b3,b4],W.heap.size≤b:=by
 have HS:=Lib.hid (ztI m)
 obtain ⟨N,hN⟩:∃N:Int,IntKind.i64.wrap (-(sideA m).2)=N:=⟨_,rfl⟩
 have hN2:wI (0 - (sideA m).2)=N:=by rw [← hN];show IntKind.i64.wrap (0 - (sideA m).2)=_;rw [Int.zero_sub]
 rw [hN2]
 clear hN2
 generalize sideA m=SA at *
 generalize sideB m=SB at *
 unfold magg mcs
 go_enter Tryz.func199,Tryz.ntmps199
 go_wp2_with (first
  | (go_at_call 200;refine (HS.out _).mono ?_;rintro e w1 ⟨rfl,hp1⟩;simp only [vagg,vcs];have hb1:=znk hp1;have hz:=hp1.size;rw [World.size_alloc] at hz;have hz':W.heap.size<w1.heap.size:=(by omega);have hv:∀o1 o2 o3:Obj,(((w1.alloc o1).alloc o2).alloc o3).heap[W.heap.size]?=some (.cells (mcs m).toArray 170 (0,0)):=fun o1 o2 o3=>(Below.heap_alloc _ _ _ (by simp;omega)).trans ((Below.heap_alloc _ _ _ (by simp;omega)).trans ((Below.heap_alloc _ _ _ hz').trans hb1));have c1:∀o1 o2 o3:Obj,(((w1.alloc o1).alloc o2).alloc o3).cell? ⟨W.heap.size,1,none⟩=some (.int .i64 m.2.1.1):=fun o1 o2 o3=>(by rw [zq (hv o1 o2 o3)];rfl);have c2:∀o1 o2 o3:Obj,(((w1.alloc o1).alloc o2).alloc o3).cell? ⟨W.heap.size,2,none⟩=some (.int .i64 m.2.1.2.1):=fun o1 o2 o3=>(by rw [zq (hv o1 o2 o3)];rfl);have c3:∀o1 o2 o3:Obj,(((w1.alloc o1).alloc o2).alloc o3).cell? ⟨W.heap.size,3,none⟩=some (.int .i64 m.2.1.2.2):=fun o1 o2 o3=>(by rw [zq (hv o1 o2 o3)];rfl))
  | (go_at_call 195;refine (znX m.2.1 SA.1 N _).mono ?_;rintro e w2 ⟨rfl,hp2⟩;simp only [vagg,vcs]))
 go_ret
 have hB0:Below W.heap.size W (W.alloc (.cells (mcs m).toArray 170)):=(Below.refl _ W).alloc (Nat.le_refl _) _
 have hp1':Below (W.heap.size+1) (W.alloc (.cells (mcs m).toArray 170)) w1:=by rw [← World.size_alloc];exact hp1
 have s1:=hp1'.size
 rw [World.size_alloc] at s1
 have s2:=hp2.size
 simp only [World.size_alloc] at s2
 have a1:=heap_alloc_new w1 (.cells (vcs SA.1).toArray 26)
 have a2:=heap_alloc_new (w1.alloc (.cells (vcs SA.1).toArray 26)) (.cells (vcs SB.1).toArray 26)
 have a3:=heap_alloc_new ((w1.alloc (.cells (vcs SA.1).toArray 26)).alloc (.cells (vcs SB.1).toArray 26)) (.cells #[.int .i64 SA.2] 3)
 simp only [World.size_alloc] at a2 a3
 refine ⟨w1.heap.size+1+1,w2.heap.size,w1.heap.size,w1.heap.size+1,rfl,?_,heap_alloc_new w2 _,?_,?_,?_,fun b hb=>?_⟩
 ·exact (Below.heap_alloc _ _ _ (by omega)).trans ((hp2.block _ (by simp)).trans a3)
 ·exact (Below.heap_alloc _ _ _ (by omega)).trans ((hp2.block _ (by simp;omega)).trans ((Below.heap_alloc _ _ _ (by simp;omega)).trans ((Below.heap_alloc _ _ _ (by simp)).trans a1)))
 ·exact (Below.heap_alloc _ _ _ (by omega)).trans ((hp2.block _ (by simp)).trans ((Below.heap_alloc _ _ _ (by simp)).trans a2))
 ·have b1:=hB0.trans (hp1'.mono (by omega))
  have b2:=((b1.alloc (by omega) (.cells (vcs SA.1).toArray 26)).alloc (by simp;omega) (.cells (vcs SB.1).toArray 26)).alloc (by simp;omega) (.cells #[.int .i64 SA.2] 3)
  exact (b2.trans (hp2.mono (by simp;omega))).alloc (by omega) _
 ·simp only [List.mem_cons,List.not_mem_nil,or_false] at hb
  rcases hb with rfl | rfl | rfl | rfl<;>omega
theorem ztO (c a b:Vec) (R:Nat) (hR:R≤1000) (b1 b2 b3 b4:Nat) (W:World) (h1:W.heap[b1]?=some (.cells #[.int .i64 (R:Int)] 3 (0,0))) (h2:W.heap[b2]?=some (.cells (vcs c).toArray 26 (0,0))) (h3:W.heap[b3]?=some (.cells (vcs a).toArray 26 (0,0))) (h4:W.heap[b4]?=some (.cells (vcs b).toArray 26 (0,0))) :
  Calls Tryz.prog 107 #[.func (.func 202) #[] #[.pointer (some ⟨b1,0,none⟩),.pointer (some ⟨b2,0,none⟩),.pointer (some ⟨b3,0,none⟩),.pointer (some ⟨b4,0,none⟩)]] W fun e W'=>∃v,e=.returned v∧W'.ownsRow W.heap.size 26 3 v (arcG c a b R (R+1) 0 R).length ((arcG c a b R (R+1) 0 R).flatMap vcs)∧Below W.heap.size W W':=by
 have g1:=(Array.getElem?_eq_some_iff.1 h1).1
 have g2:=(Array.getElem?_eq_some_iff.1 h2).1
 have g3:=(Array.getElem?_eq_some_iff.1 h3).1
 have g4:=(Array.getElem?_eq_some_iff.1 h4).1
 have hbs:∀b∈[b1,b2,b3,b4],b<W.heap.size:=by
  intro b hb
  simp only [List.mem_cons,List.not_mem_nil,or_false] at hb
  rcases hb with rfl | rfl | rfl | rfl
  ·exact g1
  ·exact g2
  ·exact g3
  ·exact g4
 have hseq:SeqStopsK Fence.wide (3 - 1) Tryz.prog 202 #[.pointer (some ⟨b1,0,none⟩),.pointer (some ⟨b2,0,none⟩),.pointer (some ⟨b3,0,none⟩),.pointer (some ⟨b4,0,none⟩)] (fun x=>#[vagg x]) (KpS W.heap.size [b1,b2,b3,b4]) (fun ys=>ys=arcG c a b R (R+1) 0 R) (fun pre=>pre <+: arcG c a b R (R+1) 0 R) (R+1) W:=
  fun l J Jx W1 hW hJ hJx hY h0=>ztX (3 - 1) (by omega) l b1 b2 b3 b4 W.heap.size c a b R hR J Jx W1 hJ hY ((hW.block b1 g1).trans h1) ((hW.block b2 g2).trans h2) ((hW.block b3 g3).trans h3) ((hW.block b4 g4).trans h4) hW.size h0
 refine (callsIn_wide (n:=4)).1 ?_
 refine callsIn_of_wp Tryz.func107 rfl trivial ?_ rfl
 simp only [Tryz.ntmps107,List.size_toArray,List.length_cons,List.length_nil,Nat.reduceAdd,Nat.reduceSub,Array.replicate_succ,Array.replicate_zero,List.push_toArray,List.append_toArray,List.nil_append,List.cons_append]
 gi_wp2_with (refine ⟨trivial,?_⟩;gi_at_call 132;refine (zfy 3 (by omega) _ _ (fun _ _=>qO (by kernel_rfl)) W W [b1,b2,b3,b4] hbs _ _ (R+1) (by omega) hseq).mono ?_;rintro e w1 ⟨v,ss,rfl,rfl,hr,hp⟩)
 go_ret
 exact ⟨_,rfl,hr,hp⟩
theorem ztd (m:Mov) (hm:strM m=false) (h3:(m.1 == 3)=true) (hN:(sideA m).2≤1000) (W:World):Calls Tryz.prog 76 #[magg m] W fun e W'=>∃v,e=.returned v∧Below W.heap.size W W'∧∃l:List Vec,l=(if chkM m=0 then ptsM m else [])∧W'.ownsRow W.heap.size 26 3 v l.length (l.flatMap vcs):=by
 have hp0:0≤(sideA m).2:=zqs _
 have eN:(((sideA m).2.toNat:Nat):Int)=(sideA m).2:=Int.toNat_of_nonneg hp0
 have hNN:(sideA m).2.toNat≤1000:=by omega
 have H:=Lib.hid (zsS h3)
 have hme : ∀ (u : Value) (w : World), (method 338 170 u "collet/move.steps").run Tryz.prog w = .ok (199, u) w := fun u w => zlh (by kernel_rfl)
 unfold magg mcs
 by_cases hc:chkM m=0
 ·have hd:(chkM m != 0)=false:=by rw [hc];rfl
  go_enter Tryz.func76,Tryz.ntmps76
  go_wp2_with (first
   | (go_at_call 66;refine (zkD m _).mono ?_;rintro e w1 ⟨rfl,hp1⟩;have hb1:=znk hp1;have c0:w1.cell? ⟨W.heap.size,0,none⟩=some (.int .i64 m.1):=(by rw [zq hb1];rfl);have c1:w1.cell? ⟨W.heap.size,1,none⟩=some (.int .i64 m.2.1.1):=(by rw [zq hb1];rfl);have c2:w1.cell? ⟨W.heap.size,2,none⟩=some (.int .i64 m.2.1.2.1):=(by rw [zq hb1];rfl);have c3:w1.cell? ⟨W.heap.size,3,none⟩=some (.int .i64 m.2.1.2.2):=(by rw [zq hb1];rfl);have c4:w1.cell? ⟨W.heap.size,4,none⟩=some (.int .i64 m.2.2.1.1):=(by rw [zq hb1];rfl);have c5:w1.cell? ⟨W.heap.size,5,none⟩=some (.int .i64 m.2.2.1.2.1):=(by rw [zq hb1];rfl);have c6:w1.cell? ⟨W.heap.size,6,none⟩=some (.int .i64 m.2.2.1.2.2):=(by rw [zq hb1];rfl);have c7:w1.cell? ⟨W.heap.size,7,none⟩=some (.int .i64 m.2.2.2.1.1):=(by rw [zq hb1];rfl);have c8:w1.cell? ⟨W.heap.size,8,none⟩=some (.int .i64 m.2.2.2.1.2.1):=(by rw [zq hb1];rfl);have c9:w1.cell? ⟨W.heap.size,9,none⟩=some (.int .i64 m.2.2.2.1.2.2):=(by rw [zq hb1];rfl);have c10:w1.cell? ⟨W.heap.size,10,none⟩=some (.int .i64 m.2.2.2.2):=(by rw [zq hb1];rfl);skip)
   | (go_at_call 77;refine (ztE m hm h3 _).mono ?_;rintro e w2 ⟨rfl,hp2⟩)
   | (go_at_call 199;refine (zsV m _).mono ?_;rintro e w3 ⟨b1,b2,b3,b4,rfl,k1,k2,k3,k4,hp3,-⟩;rw [← eN] at k1)
   | (go_at_call 107;refine (ztO _ _ _ _ hNN b1 b2 b3 b4 _ k1 k2 k3 k4).mono ?_;rintro e w4 ⟨v,rfl,hr,hp4⟩))
  go_ret
  have hB0:Below W.heap.size W (W.alloc (.cells (mcs m).toArray 45)):=(Below.refl _ W).alloc (Nat.le_refl _) _
  have hp1':Below W.heap.size (W.alloc (.cells (mcs m).toArray 45)) w1:=hp1.mono (by simp)
  have hB1:=hB0.trans hp1'
  have hB2:=hB1.trans (hp2.mono hB1.size)
  have hB3:=hB2.trans (hp3.mono hB2.size)
  refine ⟨_,rfl,hB3.trans (hp4.mono hB3.size),?_⟩
  rw [H.out]
  exact zob hr hB3.size
 ·have:=zd7 m hc W
  unfold magg mcs at this
  exact this
end Go.Proofs.YteimplkdcjapdaaGreatDoor
namespace Go.Proofs.YteimplkdcjapdaaGreatDoor
open Go.RowKit
theorem zlL (W:World) (D:Dat):∀l:List Vec,okl (l.flatMap cV) (l.flatMap vcs) W D
 | []=>trivial
 | x::r=>by
  rw [List.flatMap_cons,List.flatMap_cons]
  exact qB ⟨rfl,rfl,rfl,trivial⟩ (zlL W D r)
theorem zk2:∀l:List Vec,(l.flatMap cV).length=l.length*3
 | []=>rfl
 | x::r=>by
  rw [List.flatMap_cons,List.length_append,zk2 r,List.length_cons]
  show 3+_=_
  omega
theorem zoc {W:World} {D:Dat} {base:Nat} {v:Value} {l:List Vec} (h:W.ownsRow base 26 3 v l.length (l.flatMap vcs)) (hD:∀q,v.ownBlock=some q→D q):pLs cV l v W D:=by
 rcases h.2 with ⟨rfl,h0⟩ | ⟨g,cap,cur,rfl,hb,hh,hc,hm,hs,ht⟩
 ·have:l=[]:=List.length_eq_zero_iff.1 h0
  subst this
  exact .inl ⟨⟨_,_,rfl⟩,rfl,rfl⟩
 ·refine .inr ⟨g,0,cap,_,cur,(0,0),rfl,hD g rfl,hh,?_,hc⟩
  show okl _ ((cur.toList.drop 0).take _) W D
  rw [List.drop_zero,zk2,ht]
  exact zlL W D l
theorem zdU {B:Nat}:∀(l:List Int) (g:Nat),g≤B→(∀x∈l,x.natAbs≤B)→divL g l≤B
 | [],g,hg,_=>by unfold divL;omega
 | n::r,g,hg,h=>by
  unfold divL
  split
  ·omega
  ·have h1:=h n (List.mem_cons_self ..)
   refine zdU r _ ?_ fun x hx=>h x (List.mem_cons_of_mem _ hx)
   rcases Nat.eq_zero_or_pos g with h0 | h0
   ·rw [h0,Nat.gcd_zero_left];exact h1
   ·exact Nat.le_trans (Nat.gcd_le_left _ h0) hg
theorem zd8 {a:Vec} {B:Nat} (h:a.1.natAbs≤B∧a.2.1.natAbs≤B∧a.2.2.natAbs≤B):(primV a).2≤B:=by
 unfold primV
 split
 ·exact Int.natCast_nonneg B
 ·exact zdU _ 0 (Nat.zero_le _) fun x hx=>by
   simp only [List.mem_cons,List.not_mem_nil,or_false] at hx
   rcases hx with rfl | rfl | rfl
   ·exact h.1
   ·exact h.2.1
   ·exact h.2.2
theorem zge {a b:Vec} (ha:inV a=true) (hb:inV b=true):(subV a b).1.natAbs≤48∧(subV a b).2.1.natAbs≤48∧(subV a b).2.2.natAbs≤48:=by
 rw [zeD] at ha hb
 unfold subV wI
 simp only [IntKind.wrap_i64]
 omega
theorem zkB {m:Mov} (h:chkM m=0):inV m.2.1=true∧inV m.2.2.1=true∧inV m.2.2.2.1=true:=by
 unfold chkM at h
 split at h
 ·split at h
  ·rename_i h2;simp only [Bool.and_eq_true] at h2;exact ⟨h2.1,h2.2.1,h2.2.2.1⟩
  ·exact absurd h (by decide)
 ·split at h
  ·split at h
   ·rename_i h2;simp only [Bool.and_eq_true] at h2;exact ⟨h2.1,h2.2.1,h2.2.2.1⟩
   ·exact absurd h (by decide)
  ·exact absurd h (by decide)
theorem zfz {m:Mov} (h:chkM m=0) (h3:m.1≠3):strM m=true:=by
 unfold chkM at h
 split at h
 ·assumption
 ·exact absurd h (by simp)
def zbu (m:Mov):List Vec:=if chkM m=0 then ptsM m else []
def goodM (_:Mov):Prop:=True
theorem zsR (m:Mov) (h:chkM m=0):strM m=true∨(strM m=false∧(m.1 == 3)=true):=by
 by_cases h3:m.1=3
 ·exact .inr ⟨by unfold strM;rw [h3];rfl,by rw [h3];rfl⟩
 ·exact .inl (zfz h h3)
theorem zor {w0:World} (m:Mov) (r:List Vec) (hr:zbu m=r) (hm:goodM m):Fun (KN w0) Tryz.prog 76 [.o (.g [pI m.1,pI m.2.1.1,pI m.2.1.2.1,pI m.2.1.2.2,pI m.2.2.1.1,pI m.2.2.1.2.1,pI m.2.2.1.2.2,pI m.2.2.2.1.1,pI m.2.2.2.1.2.1,pI m.2.2.2.1.2.2,pI m.2.2.2.2])] (.o (.c (pLs cV r))):=by
 subst hr
 intro W D vs hs hf
 match vs,hs with
 | [v],⟨⟨us,hv,hu⟩,_⟩ =>
  have hus:us=(mcs m).toArray:=by
   apply Array.ext'
   match hl:us.toList,hu with
   | [a0,a1,a2,a3,a4,a5,a6,a7,a8,a9,a10],h =>
    obtain ⟨h0,h1,h2,h3,h4,h5,h6,h7,h8,h9,h10,_⟩:=h
    rw [h0,h1,h2,h3,h4,h5,h6,h7,h8,h9,h10];rfl
  subst hus
  have key:Calls Tryz.prog 76 #[magg m] W fun e W'=>∃v,e=.returned v∧Below W.heap.size W W'∧∃l:List Vec,l=zbu m∧W'.ownsRow W.heap.size 26 3 v l.length (l.flatMap vcs):=by
   by_cases hc:chkM m=0
   ·have hi:=zkB hc
    have hl:=zd8 (zge hi.2.1 hi.1)
    rcases zsR m hc with hk | ⟨hk,h3⟩
    ·exact zjI m hk (by omega) W
    ·have hl2:(sideA m).2≤((48:Nat):Int):=zd8 (zge hi.2.2 hi.2.1)
     exact ztd m hk h3 (by omega) W
   ·exact zd7 m hc W
  subst hv
  refine key.mono ?_
  rintro e W' ⟨v,rfl,hb,l,rfl,hrow⟩
  refine ⟨v,fun q=>D q∨v.ownBlock=some q,rfl,zoc hrow fun q hq=>.inr hq,hb,fun q hq=>.inl hq,fun q hq=>hq.imp id fun h=>(hrow.lt q h).1,fun q hq=>?_⟩
  rcases hq with hq | hq
  ·exact Nat.lt_of_lt_of_le (hf.dlt q hq) hb.size
  ·exact (hrow.lt q hq).2
end Go.Proofs.YteimplkdcjapdaaGreatDoor
set_option synthInstance.maxSize 2000
set_option synthInstance.maxHeartbeats 400000
namespace Go.Proofs.YteimplkdcjapdaaGreatDoor
open Go.RowKit
theorem zlU {m:Mov} (hm:goodM m):(zbu m).length≤49:=by
 unfold zbu
 split
 ·rename_i hc
  have hi:=zkB hc
  have hl:=zd8 (zge hi.2.1 hi.1)
  rcases zsR m hc with hk | ⟨hk,h3⟩
  ·rw [zjb hk]
   simp [lineP]
   omega
  ·rw [zsS h3]
   have hl2:(sideA m).2≤((48:Nat):Int):=zd8 (zge hi.2.2 hi.2.1)
   exact Nat.le_trans ztg (by omega)
 ·exact Nat.zero_le _
theorem zjk (m:Mov):stepM m=((zbu m).length - 1:Nat):=by
 unfold stepM zbu
 split<;>rfl
theorem zb5 {m:Mov} (hm:goodM m):0≤stepM m∧stepM m≤48:=by
 rw [zjk]
 have:=zlU hm
 omega
theorem zoj {l:List Mov} {k:Nat} {x:Mov} (h:l[k]?=some x):sumM (l.drop k)=stepM x+sumM (l.drop (k+1)):=by
 obtain ⟨hk,rfl⟩:=List.getElem?_eq_some_iff.1 h
 rw [List.drop_eq_getElem_cons hk,sumM]
theorem zbQ {l:List Mov} {k:Nat} {x:Mov} (h:l[k]?=some x) (s:Int):findL k (l.drop k) s=if s≤stepM x then ((k:Int),s,true) else findL (k+1) (l.drop (k+1)) (s - stepM x):=by
 obtain ⟨hk,rfl⟩:=List.getElem?_eq_some_iff.1 h
 rw [List.drop_eq_getElem_cons hk,findL]
theorem zer {l:List Mov} (h:chkP l=0):l.length≤40:=by
 unfold chkP at h
 split at h
 ·exact absurd h (by decide)
 ·omega
def zmC:Tr:=.s [(3,.call 76 [.o (.g [0,1,2,3,4,5,6,7,8,9,10])] (.o .c)),(4,.ln 35 3 11),(5,.bin .sub 3 12 (kI 1)),(0,.raw [(1000006,.op (.max [3,3] 3) [13,LF (.k (.int .i64 0))] [] 14)] 1)] (.z (.ret false (14) []))
theorem zh1 {w0:World} (m:Mov) (r:Int) (hr:stepM m=r) (hm:goodM m):Fun (KN w0) Tryz.prog 41 [.o (.g [pI m.1,pI m.2.1.1,pI m.2.1.2.1,pI m.2.1.2.2,pI m.2.2.1.1,pI m.2.2.1.2.1,pI m.2.2.1.2.2,pI m.2.2.2.1.1,pI m.2.2.2.1.2.1,pI m.2.2.2.1.2.2,pI m.2.2.2.2])] (.o (.c (pI r))):=by
 refine tfn w0 41 ⟨[.o (.g [0,1,2,3,4,5,6,7,8,9,10])],[],[],0,0⟩ ⟨11,[sI m.2.2.2.2,sI m.2.2.2.1.2.2,sI m.2.2.2.1.2.1,sI m.2.2.2.1.1,sI m.2.2.1.2.2,sI m.2.2.1.2.1,sI m.2.2.1.1,sI m.2.1.2.2,sI m.2.1.2.1,sI m.2.1.1,sI m.1],[],[]⟩ zmC (by kernel_rfl) ?_
 obtain ⟨v1,e1⟩:=LX (zbu m)
 have s2:goodM m:=by exact hm
 refine cx (.o (.c (.ls 3 cV kV v1))) (zor m v1 e1 s2) rfl ?_
 intro v3 e3 v4 e4
 obtain ⟨v5,e5⟩:=LX ((if (0:Int) > v4 then (0:Int) else v4))
 refine rx [sI v5] [] [] (fun t u w=>⟨e_op2 (za rfl) zf (za rfl) (fun W=>by rw [← e5];exact zfZ W),trivial⟩) ?_
 intro hc
 refine Fun.fin (r:=.o (.c (pI v5))) (zc (hc)) (fun v W D h=>?_)
 have r0:r=v5:=by
  (have hl:=zlU hm;rw [← hr,zjk];rw [e1] at hl ⊢;have hw:v4=v3 - 1:=(by rw [← e4,wri (by omega)]);rw [← e5];split<;>omega)
 rw [r0];exact h
def zab:List Atom:=[.sl 2 (.o (.c (.k (.int .i64 0)))),.sl 3 5,.sl 9 0,.sl 10 3,.sl 11 4]
def zaT:LoopS:=⟨5,zab.map (tnA (jf (hZ 4 [kI 0,kI 0])) (kf []) (kf [])),(.x 0),(drs [4] zab).map (tnA (jf (hZ 5 [4])) (kf []) (kf []))⟩
def zgt:Tr:=.s [(0,.fb 2 false),(5000,.bin .lss 3 4 3)] (.b 6 (.s [(5001,.ia 36 45 11 0 4),(5002,.ld 45 11 7),(5007,.call 41 [.o (.g [8,9,10,11,12,13,14,15,16,17,18])] (.o .c)),(5008,.bin .add 3 5 19),(5010,.bin .add 3 4 (kI 1))] (.z (.nx (hZ 4 [21,20]) [] []))) (.z (.xt (.x 0) (hZ 4 [5]) [] [])))
theorem zfe {w0:World} (l:(List Mov)) (v1:Int) (v3:Bool) (v5:Int) (h4:v3=false) (o:Int) (hlen:(l.length:Int)=v5) (hb:l.length≤40) (hg:∀x∈l,goodM x) (hO:sumM l=o):LpH (KN w0) Tryz.prog 24 ⟨ntOf Tryz.prog 24,[],[]⟩ zaT 0 ⟨5,[sI o,sI v5,sB v3,sI v1,.ls 11 cM kM l],[],[]⟩:=by
 refine zi _ ⟨zab,zaT,(6,0,0),(5,0,0),5000⟩ (T:=Int×Int) (fun t=>⟨6,[sI t.2,sI t.1,sI v5,sB v3,sI v1,.ls 11 cM kM l],[],[]⟩) (fun (i,n)=>∃k:Nat,i=(k:Int)∧k≤l.length∧0≤n∧n≤48*(k:Int)∧n+sumM (l.drop k)=o) (fun (i,n)=>((l.length:Int) - i).toNat) ((0:Int),(0:Int)) (hZ 4 [kI 0,kI 0]) [] [] zgt mixed ⟨0,rfl,Nat.zero_le _,by decide,by decide,by rw [List.drop_zero,Int.zero_add];exact hO⟩ rfl rfl rfl rfl (fun _=>rfl) rfl rfl (by kernel_rfl) ?_
 rintro ⟨i,n⟩ hJ
 dsimp only at hJ ⊢
 obtain ⟨k,hi,hk,hn0,hn1,hs⟩:=hJ
 refine ai h4 ?_
 intro v501 e501
 refine ai (fun h502=>?_) fun h502=>?_
 ·
  refine ai (by (have dh502:=LD e501 h502;have hlt:k<l.length:=(by omega);exact ⟨k,_,hi,List.getElem?_eq_getElem hlt⟩)) fun n503 x504 s505 s506=>?_
  obtain ⟨v507,e507⟩:=LX (stepM x504)
  have s508:goodM x504:=by exact hg _ (List.mem_of_getElem? s506)
  refine cx (.o (.c (sI v507))) (zh1 x504 v507 e507 s508) rfl ?_
  intro v509 e509 v510 e510
  refine nxl (v510,v509) ?_ ?_ rfl
  all_goals (have dh502:=LD e501 h502;have hkn:n503=k:=(by omega);subst hkn;have hlt:n503<l.length:=(List.getElem?_eq_some_iff.1 s506).1;have hd:=zoj s506;have hst:=zb5 (hg _ (List.mem_of_getElem? s506));have x3:v510=((n503+1:Nat):Int):=(by rw [← e510,hi,wri (by omega)];omega);have x4:v509=n+v507:=(by rw [← e509,wri (by omega)]))
  ·show ((l.length:Int) - v510).toNat<((l.length:Int) - i).toNat
   omega
  ·exact ⟨n503+1,x3,by omega,by omega,by omega,by omega⟩
 ·
  have hq:((n)=o)∧True:=by
   refine ⟨?_,trivial⟩
   (have dh502:=LE e501 h502;have hkl:k=l.length:=(by omega);rw [hkl,List.drop_length,sumM] at hs;omega)
  obtain ⟨q0,-⟩:=hq
  rw [← q0]
  rfl
def zj2:Tr:=.s [(2,.call 22 [0] (.o .c)),(3,.bin .neq 37 1 (kI 0))] (.b 2 (.z (.ret false (LF (kI 0)) [])) (.s [(6,.ln 36 3 0),(0,.lp zaT 0 1)] (.z (.ret false (4) []))))
theorem zou {w0:World} (l:List Mov) (r:Int) (hr:zjl l=r) (hb:l.length<9223372036854775808) (hg:∀x∈l,goodM x):Fun (KN w0) Tryz.prog 24 [.o (.c (pLs cM l))] (.o (.c (pI r))):=by
 refine tfn w0 24 ⟨[0],[],[],0,0⟩ ⟨1,[.ls 11 cM kM l],[],[]⟩ zj2 (by kernel_rfl) ?_
 obtain ⟨v1,e1⟩:=LX (chkP l)
 have s2:l.length<9223372036854775808:=by exact hb
 refine cx (.o (.c (sI v1))) (zpL l v1 e1 s2) rfl ?_
 intro v3 e3
 refine ai (fun h4=>?_) fun h4=>?_
 ·
  intro hc
  refine Fun.fin (r:=.o (.c (pV (.int .i64 0)))) (zc (hc)) (fun v W D h=>?_)
  have r0:r=(0:Int):=by
   (have dh4:=bne_iff_ne.1 (e3.trans h4);rw [← hr];unfold zjl;rw [e1];rw [if_neg (by omega)])
  rw [r0];exact h
 ·
  intro v5 e5
  obtain ⟨o,hO_t_psteps_L⟩:∃(o:Int),sumM l=o:=⟨_,rfl⟩
  refine rx [sI o] [] [] (zfe l v1 v3 v5 h4 o  e5 (zer (e1.trans (bne_eq_false_iff_eq.1 (e3.trans h4)))) hg hO_t_psteps_L) ?_
  intro hc
  refine Fun.fin (r:=.o (.c (pI o))) (zc (hc)) (fun v W D h=>?_)
  have r0:r=o:=by
   (have dh4:=bne_eq_false_iff_eq.1 (e3.trans h4);rw [← hr];unfold zjl;rw [e1];rw [if_pos (by omega)];exact hO_t_psteps_L)
  rw [r0];exact h
def zas:List Atom:=[.sl 1 7,.sl 17 0,.sl 18 5,.sl 19 6]
def zbD:LoopS:=⟨4,zas.map (tnA (jf (hZ 6 [kI 0,1])) (kf []) (kf [])),(.x 0),(drs [0,3] zas)⟩
def zhW:Tr:=.s [(0,.fb 3 false),(0,.fb 4 false),(5000,.bin .lss 3 6 5)] (.b 8 (.s [(5002,.ia 36 45 11 0 6),(5003,.ld 45 11 9),(5008,.call 41 [.o (.g [10,11,12,13,14,15,16,17,18,19,20])] (.o .c)),(5012,.bin .leq 3 7 21)] (.b 22 (.z .no) (.s [(5015,.bin .sub 3 7 21),(5017,.bin .add 3 6 (kI 1))] (.z (.nx (hZ 6 [24,23]) [] []))))) (.z (.xt (.x 0) (hZ 6 []) [] [])))
theorem zgq {w0:World} (l:(List Mov)) (s:Int) (v1:Int) (v3:Bool) (v5:Bool) (v7:Int) (h4:v3=false) (h6:v5=false) (hlen:(l.length:Int)=v7) (hb:l.length≤40) (hg:∀x∈l,goodM x) (hS:0≤s∧s<9223372036854775808) (hO:findL 0 (l.drop 0) s=((0:Int),(0:Int),false)):LpH (KN w0) Tryz.prog 26 ⟨ntOf Tryz.prog 26,[],[]⟩ zbD 0 ⟨6,[sI v7,sB v5,sB v3,sI v1,sI s,.ls 11 cM kM l],[],[]⟩:=by
 refine zi _ ⟨zas,zbD,(8,0,0),(6,0,0),5000⟩ (T:=Int×Int) (fun t=>⟨8,[sI t.2,sI t.1,sI v7,sB v5,sB v3,sI v1,sI s,.ls 11 cM kM l],[],[]⟩) (fun (i,st)=>∃k:Nat,i=(k:Int)∧k≤l.length∧-100000≤st∧st<9223372036854775808∧(k=0∨0≤st)∧findL k (l.drop k) st=((0:Int),(0:Int),false)) (fun (i,st)=>((l.length:Int) - i).toNat) ((0:Int),s) (hZ 6 [kI 0,1]) [] [] zhW mixed ⟨0,rfl,Nat.zero_le _,by omega,hS.2,.inl rfl,hO⟩ rfl rfl rfl rfl (fun _=>rfl) rfl rfl (by kernel_rfl) ?_
 rintro ⟨i,st⟩ hJ
 dsimp only at hJ ⊢
 obtain ⟨k,hi,hk,hs0,hs1,hs2,hs⟩:=hJ
 refine ai h4 ?_
 refine ai h6 ?_
 intro v501 e501
 refine ai (fun h502=>?_) fun h502=>?_
 ·
  refine ai (by (have dh502:=LD e501 h502;have hlt:k<l.length:=(by omega);exact ⟨k,_,hi,List.getElem?_eq_getElem hlt⟩)) fun n503 x504 s505 s506=>?_
  obtain ⟨v507,e507⟩:=LX (stepM x504)
  have s508:goodM x504:=by exact hg _ (List.mem_of_getElem? s506)
  refine cx (.o (.c (sI v507))) (zh1 x504 v507 e507 s508) rfl ?_
  intro v509 e509
  refine ai (fun h510=>?_) fun h510=>?_
  ·
   exfalso
   (have dh502:=LD e501 h502;have dh510:=LD e509 h510;have hkn:n503=k:=(by omega);subst hkn;have hlt:n503<l.length:=(List.getElem?_eq_some_iff.1 s506).1;have hd:=zbQ s506 st;have hst:=zb5 (hg _ (List.mem_of_getElem? s506));rw [hs] at hd;rw [if_pos (by omega)] at hd;exact absurd (congrArg (fun p=>p.2.2) hd) (by simp))
  ·
   intro v511 e511 v512 e512
   refine nxl (v512,v511) ?_ ?_ rfl
   all_goals (have dh502:=LD e501 h502;have dh510:=LE e509 h510;have hkn:n503=k:=(by omega);subst hkn;have hlt:n503<l.length:=(List.getElem?_eq_some_iff.1 s506).1;have hd:=zbQ s506 st;have hst:=zb5 (hg _ (List.mem_of_getElem? s506));rw [hs] at hd;rw [if_neg (by omega)] at hd;have x3:v512=((n503+1:Nat):Int):=(by rw [← e512,hi,wri (by omega)];omega);have x4:v511=st - stepM x504:=(by rw [← e511,e507,wri (by omega)]))
   ·show ((l.length:Int) - v512).toNat<((l.length:Int) - i).toNat
    omega
   ·exact ⟨n503+1,x3,by omega,by omega,by omega,.inr (by omega),by rw [x4];exact hd.symm⟩
 ·
  rfl
def zat:List Atom:=[.sl 1 7,.sl 17 0,.sl 18 5,.sl 19 6]
def zbE:LoopS:=⟨4,zat.map (tnA (jf (hZ 6 [kI 0,1])) (kf []) (kf [])),.r,(drs [0,3] zat)++[.sl 4 6,.sl 5 7,.sl 6 8]⟩
def zhX:Tr:=.s [(0,.fb 3 false),(0,.fb 4 false),(5000,.bin .lss 3 6 5)] (.b 8 (.s [(5002,.ia 36 45 11 0 6),(5003,.ld 45 11 9),(5008,.call 41 [.o (.g [10,11,12,13,14,15,16,17,18,19,20])] (.o .c)),(5012,.bin .leq 3 7 21)] (.b 22 (.z (.xt .r (hZ 8 [kB true]) [] [])) (.s [(5015,.bin .sub 3 7 21),(5017,.bin .add 3 6 (kI 1))] (.z (.nx (hZ 6 [24,23]) [] []))))) (.z .no))
theorem zgr {w0:World} (l:(List Mov)) (s:Int) (v1:Int) (v3:Bool) (v5:Bool) (v7:Int) (h4:v3=false) (h6:v5=false) (o1:Int) (o2:Int) (o3:Bool) (hlen:(l.length:Int)=v7) (hb:l.length≤40) (hg:∀x∈l,goodM x) (hS:0≤s∧s<9223372036854775808) (hO:findL 0 (l.drop 0) s=(o1,o2,o3)) (ho:(o1,o2,o3)≠((0:Int),(0:Int),false)):LpH (KN w0) Tryz.prog 26 ⟨ntOf Tryz.prog 26,[],[]⟩ zbE 0 ⟨9,[sB o3,sI o2,sI o1,sI v7,sB v5,sB v3,sI v1,sI s,.ls 11 cM kM l],[],[]⟩:=by
 refine zi _ ⟨zat,zbE,(8,0,0),(9,0,0),5000⟩ (T:=Int×Int) (fun t=>⟨8,[sI t.2,sI t.1,sI v7,sB v5,sB v3,sI v1,sI s,.ls 11 cM kM l],[],[]⟩) (fun (i,st)=>∃k:Nat,i=(k:Int)∧k≤l.length∧-100000≤st∧st<9223372036854775808∧(k=0∨0≤st)∧findL k (l.drop k) st=(o1,o2,o3)) (fun (i,st)=>((l.length:Int) - i).toNat) ((0:Int),s) (hZ 6 [kI 0,1]) [] [] zhX mixed ⟨0,rfl,Nat.zero_le _,by omega,hS.2,.inl rfl,hO⟩ rfl rfl rfl rfl (fun _=>rfl) rfl rfl (by kernel_rfl) ?_
 rintro ⟨i,st⟩ hJ
 dsimp only at hJ ⊢
 obtain ⟨k,hi,hk,hs0,hs1,hs2,hs⟩:=hJ
 refine ai h4 ?_
 refine ai h6 ?_
 intro v501 e501
 refine ai (fun h502=>?_) fun h502=>?_
 ·
  refine ai (by (have dh502:=LD e501 h502;have hlt:k<l.length:=(by omega);exact ⟨k,_,hi,List.getElem?_eq_getElem hlt⟩)) fun n503 x504 s505 s506=>?_
  obtain ⟨v507,e507⟩:=LX (stepM x504)
  have s508:goodM x504:=by exact hg _ (List.mem_of_getElem? s506)
  refine cx (.o (.c (sI v507))) (zh1 x504 v507 e507 s508) rfl ?_
  intro v509 e509
  refine ai (fun h510=>?_) fun h510=>?_
  ·
   have hq:((i)=o1)∧((st)=o2)∧((true)=o3)∧True:=by
    refine ⟨?_,?_,?_,trivial⟩
    all_goals (have dh502:=LD e501 h502;have dh510:=LD e509 h510;have hkn:n503=k:=(by omega);subst hkn;have hlt:n503<l.length:=(List.getElem?_eq_some_iff.1 s506).1;have hd:=zbQ s506 st;have hst:=zb5 (hg _ (List.mem_of_getElem? s506));rw [hs] at hd;rw [if_pos (by omega)] at hd;simp only [Prod.mk.injEq] at hd;obtain ⟨q1,q2,q3⟩:=hd;first | (rw [q1];exact hi) | exact q2.symm | exact q3.symm | (constructor<;>simp_all))
   obtain ⟨q0,q1,q2,-⟩:=hq
   rw [← q0,← q1,← q2]
   rfl
  ·
   intro v511 e511 v512 e512
   refine nxl (v512,v511) ?_ ?_ rfl
   all_goals (have dh502:=LD e501 h502;have dh510:=LE e509 h510;have hkn:n503=k:=(by omega);subst hkn;have hlt:n503<l.length:=(List.getElem?_eq_some_iff.1 s506).1;have hd:=zbQ s506 st;have hst:=zb5 (hg _ (List.mem_of_getElem? s506));rw [hs] at hd;rw [if_neg (by omega)] at hd;have x3:v512=((n503+1:Nat):Int):=(by rw [← e512,hi,wri (by omega)];omega);have x4:v511=st - stepM x504:=(by rw [← e511,e507,wri (by omega)]))
   ·show ((l.length:Int) - v512).toNat<((l.length:Int) - i).toNat
    omega
   ·exact ⟨n503+1,x3,by omega,by omega,by omega,.inr (by omega),by rw [x4];exact hd.symm⟩
 ·
  exfalso
  (have dh502:=LE e501 h502;have hkl:k=l.length:=(by omega);rw [hkl,List.drop_length,findL] at hs;exact absurd hs.symm ho)
def zmz:Tr:=.s [(4,.call 22 [0] (.o .c)),(5,.bin .neq 37 2 (kI 0))] (.b 3 (.z (.ret false (.t [.c (kI 0),.c (kI 0),.c (kB false)]) [])) (.s [(8,.bin .lss 3 1 (kI 0))] (.b 4 (.z (.ret false (.t [.c (kI 0),.c (kI 0),.c (kB false)]) [])) (.s [(11,.ln 36 3 0)] (.r (.s [(0,.lp zbD 0 0)] (.z (.ret false (.t [.c (kI 0),.c (kI 0),.c (kB false)]) []))) (.s [(0,.lp zbE 0 3)] (.z (.ret false (.t [6,7,8]) []))))))))
theorem zmy {w0:World} (l:List Mov) (s:Int) (r1 r2:Int) (r3:Bool) (h1:(findP l s).1=r1) (h2:(findP l s).2.1=r2) (h3:(findP l s).2.2=r3) (hb:l.length<9223372036854775808) (hg:∀x∈l,goodM x) (hs_:s<9223372036854775808):Fun (KN w0) Tryz.prog 26 [.o (.c (pLs cM l)),.o (.c (pI s))] (.t [.c (pI r1),.c (pI r2),.c (pB r3)]):=by
 refine tfn w0 26 ⟨[0,1],[],[],0,0⟩ ⟨2,[sI s,.ls 11 cM kM l],[],[]⟩ zmz (by kernel_rfl) ?_
 obtain ⟨v1,e1⟩:=LX (chkP l)
 have s2:l.length<9223372036854775808:=by exact hb
 refine cx (.o (.c (sI v1))) (zpL l v1 e1 s2) rfl ?_
 intro v3 e3
 refine ai (fun h4=>?_) fun h4=>?_
 ·
  intro hc
  refine Fun.fin (r:=.t [.c (pV (.int .i64 0)),.c (pV (.int .i64 0)),.c (pV (.bool false))]) (zc (hc)) (fun v W D h=>?_)
  have r0:r1=(0:Int):=by
   (have dh4:=bne_iff_ne.1 (e3.trans h4);have hz:findP l s=((0:Int),(0:Int),false):=(by unfold findP;rw [e1,if_neg (by omega)]);rw [hz] at h1 h2 h3;first | exact h1.symm | exact h2.symm | exact h3.symm)
  have r1:r2=(0:Int):=by
   (have dh4:=bne_iff_ne.1 (e3.trans h4);have hz:findP l s=((0:Int),(0:Int),false):=(by unfold findP;rw [e1,if_neg (by omega)]);rw [hz] at h1 h2 h3;first | exact h1.symm | exact h2.symm | exact h3.symm)
  have r2:r3=false:=by
   (have dh4:=bne_iff_ne.1 (e3.trans h4);have hz:findP l s=((0:Int),(0:Int),false):=(by unfold findP;rw [e1,if_neg (by omega)]);rw [hz] at h1 h2 h3;first | exact h1.symm | exact h2.symm | exact h3.symm)
  rw [r0,r1,r2];exact h
 ·
  intro v5 e5
  refine ai (fun h6=>?_) fun h6=>?_
  ·
   intro hc
   refine Fun.fin (r:=.t [.c (pV (.int .i64 0)),.c (pV (.int .i64 0)),.c (pV (.bool false))]) (zc (hc)) (fun v W D h=>?_)
   have r0:r1=(0:Int):=by
    (have dh4:=bne_eq_false_iff_eq.1 (e3.trans h4);have dh6:=LD e5 h6;have hz:findP l s=((0:Int),(0:Int),false):=(by unfold findP;rw [e1,if_neg (by omega)]);rw [hz] at h1 h2 h3;first | exact h1.symm | exact h2.symm | exact h3.symm)
   have r1:r2=(0:Int):=by
    (have dh4:=bne_eq_false_iff_eq.1 (e3.trans h4);have dh6:=LD e5 h6;have hz:findP l s=((0:Int),(0:Int),false):=(by unfold findP;rw [e1,if_neg (by omega)]);rw [hz] at h1 h2 h3;first | exact h1.symm | exact h2.symm | exact h3.symm)
   have r2:r3=false:=by
    (have dh4:=bne_eq_false_iff_eq.1 (e3.trans h4);have dh6:=LD e5 h6;have hz:findP l s=((0:Int),(0:Int),false):=(by unfold findP;rw [e1,if_neg (by omega)]);rw [hz] at h1 h2 h3;first | exact h1.symm | exact h2.symm | exact h3.symm)
   rw [r0,r1,r2];exact h
  ·
   intro v7 e7
   by_cases c4:findL 0 (l.drop 0) s=((0:Int),(0:Int),false)
   ·
    refine Or.inl ?_
    refine rx [] [] [] (zgq l s v1 v3 v5 v7 h4 h6   e7 (zer (e1.trans (bne_eq_false_iff_eq.1 (e3.trans h4)))) hg ⟨by have:=LE e5 h6;omega,hs_⟩ c4) ?_
    intro hc
    refine Fun.fin (r:=.t [.c (pV (.int .i64 0)),.c (pV (.int .i64 0)),.c (pV (.bool false))]) (zc (hc)) (fun v W D h=>?_)
    have r0:r1=(0:Int):=by
     (have dh4:=bne_eq_false_iff_eq.1 (e3.trans h4);have dh6:=LE e5 h6;have hz:=c4;have hy:findP l s=findL 0 (l.drop 0) s:=(by unfold findP;rw [e1,if_pos (by omega)];rfl);rw [hy,hz] at h1 h2 h3;first | exact h1.symm | exact h2.symm | exact h3.symm)
    have r1:r2=(0:Int):=by
     (have dh4:=bne_eq_false_iff_eq.1 (e3.trans h4);have dh6:=LE e5 h6;have hz:=c4;have hy:findP l s=findL 0 (l.drop 0) s:=(by unfold findP;rw [e1,if_pos (by omega)];rfl);rw [hy,hz] at h1 h2 h3;first | exact h1.symm | exact h2.symm | exact h3.symm)
    have r2:r3=false:=by
     (have dh4:=bne_eq_false_iff_eq.1 (e3.trans h4);have dh6:=LE e5 h6;have hz:=c4;have hy:findP l s=findL 0 (l.drop 0) s:=(by unfold findP;rw [e1,if_pos (by omega)];rfl);rw [hy,hz] at h1 h2 h3;first | exact h1.symm | exact h2.symm | exact h3.symm)
    rw [r0,r1,r2];exact h
   ·
    refine Or.inr ?_
    obtain ⟨o1,o2,o3,hO_t_pfind_B⟩:∃(o1:Int) (o2:Int) (o3:Bool),findL 0 (l.drop 0) s=(o1,o2,o3)∧(o1,o2,o3)≠((0:Int),(0:Int),false):=⟨(findL 0 (l.drop 0) s).1,(findL 0 (l.drop 0) s).2.1,(findL 0 (l.drop 0) s).2.2,rfl,c4⟩
    refine rx [sI o1,sI o2,sB o3] [] [] (zgr l s v1 v3 v5 v7 h4 h6 o1 o2 o3  e7 (zer (e1.trans (bne_eq_false_iff_eq.1 (e3.trans h4)))) hg ⟨by have:=LE e5 h6;omega,hs_⟩ hO_t_pfind_B.1 hO_t_pfind_B.2) ?_
    intro hc
    refine Fun.fin (r:=.t [.c (pI o1),.c (pI o2),.c (pB o3)]) (zc (hc)) (fun v W D h=>?_)
    have r0:r1=o1:=by
     (have dh4:=bne_eq_false_iff_eq.1 (e3.trans h4);have dh6:=LE e5 h6;have hz:=hO_t_pfind_B.1;have hy:findP l s=findL 0 (l.drop 0) s:=(by unfold findP;rw [e1,if_pos (by omega)];rfl);rw [hy,hz] at h1 h2 h3;first | exact h1.symm | exact h2.symm | exact h3.symm)
    have r1:r2=o2:=by
     (have dh4:=bne_eq_false_iff_eq.1 (e3.trans h4);have dh6:=LE e5 h6;have hz:=hO_t_pfind_B.1;have hy:findP l s=findL 0 (l.drop 0) s:=(by unfold findP;rw [e1,if_pos (by omega)];rfl);rw [hy,hz] at h1 h2 h3;first | exact h1.symm | exact h2.symm | exact h3.symm)
    have r2:r3=o3:=by
     (have dh4:=bne_eq_false_iff_eq.1 (e3.trans h4);have dh6:=LE e5 h6;have hz:=hO_t_pfind_B.1;have hy:findP l s=findL 0 (l.drop 0) s:=(by unfold findP;rw [e1,if_pos (by omega)];rfl);rw [hy,hz] at h1 h2 h3;first | exact h1.symm | exact h2.symm | exact h3.symm)
    rw [r0,r1,r2];exact h
end Go.Proofs.YteimplkdcjapdaaGreatDoor
namespace Go.Proofs.YteimplkdcjapdaaGreatDoor
open Go.RowKit Go.Shelf
def sln:Value→Nat
 | .slice _ n _=>n
 | _=>0
def oStr (w0:World):Option Str→OPred
 | none=>fun gs _ _ _=>∀v∈gs,v.ownBlock=none
 | some c=>fun gs _ W D=>∃v1 v2 v3 q us xs ys,gs=[v1,v2,v3]∧v1.ownBlock=some q∧W.heap[q]?=some (.cells us 141 (0,0))∧us.toList=[.int .i64 c.1.1,.int .i64 c.1.2.1,.int .i64 c.1.2.2,.int .i64 c.2.1,v2,v3]∧us.toList.all (KN w0).ck=true
   ∧ (W.ownsRow w0.heap.size 26 3 v2 (sln v2) xs∧pG cV c.2.2.1 xs W D)∧W.ownsRow w0.heap.size 3 1 v3 (sln v3) ys∧pG cI c.2.2.2 ys W D
theorem zpz {W W':World} {S:Nat→Prop} {b z n:Nat} {T:TypeId} {v:Value} {xs:List Value} (hO:Oth S W W') (hN:∀q,v.ownBlock=some q→¬ S q) (h:W.ownsRow b T z v n xs):W'.ownsRow b T z v n xs:=by
 refine ⟨h.1,h.2.imp id ?_⟩
 rintro ⟨g,cap,cur,rfl,hb,hh,hr⟩
 exact ⟨g,cap,cur,rfl,hb,(hO.block g (Array.getElem?_eq_some_iff.1 hh).1 (hN g rfl)).trans hh,hr⟩
theorem zaJ {w0:World} {o:Option Str}:FineO (KN w0) (oStr w0 o):=by
 intro gs rs W W' D D' S hS hN hO hD h
 cases o with
 | none=>exact h
 | some c =>
  obtain ⟨v1,v2,v3,q,us,xs,ys,rfl,h2,h3,h4,h5,⟨h6,h7⟩,h8,h9⟩:=h
  exact ⟨v1,v2,v3,q,us,xs,ys,rfl,h2,(hO.block q (Array.getElem?_eq_some_iff.1 h3).1 (hN v1 (by simp) q h2)).trans h3,h4,h5,
   ⟨zpz hO (hN v2 (by simp)) h6,(qc (K:=KN w0) (qy)).mv hS hO hD h7⟩,zpz hO (hN v3 (by simp)) h8,(qc (K:=KN w0) (zR)).mv hS hO hD h9⟩
section
variable {w0:World} {F:Fact}
theorem q5 {β:Loc} {W:World} {x y:Lf} (h:∀v,x.ok F β v W→y.ok F β v W):∀{ls:List Lf} {us:List Value},oks F β (ls++[x]) us W→oks F β (ls++[y]) us W
 | [],[u],hu=>⟨h u hu.1,trivial⟩
 | [],[],hu=>hu.elim
 | [],_::_::_,hu=>hu.2.elim
 | l::ls,u::us,hu=>⟨hu.1,q5 h hu.2⟩
 | _::_,[],hu=>hu.elim
theorem zcm {β:Loc} {b:Nat}:glen β b=sln (gv β b):=by
 unfold glen gv
 cases β b<;>rfl
theorem zd1 {id r n:Nat} {U:TypeId} {ls:List Lf} (hn:F.o n=oStr w0 none) :
  Gh.sound (KN w0) F ⟨id,[.bx r U (ls++[.po 902]),.hp [902,903,904] [] n],[.bx r U (ls++[.k (.pointer none)]),.gn 902,.gn 903,.gn 904],[]⟩:=by
 intro β a W hg hA
 obtain ⟨q,us,h1,h2,h3,h4⟩:=hA (.bx r U (ls++[.po 902])) (List.mem_cons_self ..)
 have hp:HP (KN w0) F β [902,903,904] [] n W:=hA _ (List.mem_cons_of_mem _ (List.mem_cons_self ..))
 have hp1:=hp.1
 rw [hn] at hp1
 have hb:∀b∈[902,903,904],β b=none:=fun b hb=>by
  have:=hp1 (gv β b) (List.mem_map_of_mem hb)
  rwa [zad] at this
 refine ⟨β,hg,fun _ _=>Loc.same.rfl,fun _ h=>h,fun _ h=>.inl h,fun c hc=>(by cases hc),fun A hAm=>?_⟩
 simp only [List.mem_cons,List.not_mem_nil,or_false] at hAm
 rcases hAm with rfl | rfl | rfl | rfl
 ·refine ⟨q,us,h1,h2,q5 (fun v hv=>?_) h3,h4⟩
  have hv:v=pov β 902:=hv
  show v=.pointer none
  rw [hv];unfold pov;rw [hb 902 (by simp)]
 ·exact hb 902 (by simp)
 ·exact hb 903 (by simp)
 ·exact hb 904 (by simp)
theorem qz {id r n:Nat} {U:TypeId} {ls:List Lf} (hn:F.o n=oStr w0 none) :
  Gh.sound (KN w0) F ⟨id,[.bx r U (ls++[.k (.pointer none)]),.gn 902,.gn 903,.gn 904],[.bx r U (ls++[.po 902]),.hp [902,903,904] [] n],[]⟩:=by
 intro β a W hg hA
 obtain ⟨q,us,h1,h2,h3,h4⟩:=hA (.bx r U (ls++[.k (.pointer none)])) (List.mem_cons_self ..)
 have b2:β 902=none:=hA (.gn 902) (by simp)
 have b3:β 903=none:=hA (.gn 903) (by simp)
 have b4:β 904=none:=hA (.gn 904) (by simp)
 have hb:∀b∈[902,903,904],β b=none:=fun b hb=>by
  simp only [List.mem_cons,List.not_mem_nil,or_false] at hb
  rcases hb with rfl | rfl | rfl<;>assumption
 refine ⟨β,hg,fun _ _=>Loc.same.rfl,fun _ h=>h,fun _ h=>.inl h,fun c hc=>(by cases hc),fun A hAm=>?_⟩
 simp only [List.mem_cons,List.not_mem_nil,or_false] at hAm
 rcases hAm with rfl | rfl
 ·refine ⟨q,us,h1,h2,q5 (fun v hv=>?_) h3,h4⟩
  have hv:v=.pointer none:=hv
  show v=pov β 902
  rw [hv];unfold pov;rw [b2]
 ·refine ⟨?_,fun b hbm q hq=>by rw [hb b hbm] at hq;cases hq⟩
  rw [hn]
  intro v hv
  obtain ⟨b,hbm,rfl⟩:=List.mem_map.1 hv
  rw [zad];exact hb b hbm
theorem zcD {id r n a b c d g g':Nat} {U:TypeId} {ls:List Lf} {s:Str} (hn:F.o n=oStr w0 (some s)) (ha:F.c a=pI s.1.1) (hb:F.c b=pI s.1.2.1) (hc:F.c c=pI s.1.2.2) (hd:F.c d=pI s.2.1) (hg:F.g g=pG cV s.2.2.1) (hg':F.g g'=pG cI s.2.2.2) :
  Gh.sound (KN w0) F ⟨id,[.bx r U (ls++[.p 902 0]),.bx 902 141 [.h a,.h b,.h c,.h d,.gr 903,.gr 904],.gl 903 26 3 g,.gl 904 3 1 g'],[.bx r U (ls++[.po 902]),.hp [902,903,904] [] n],[]⟩:=by
 intro β ac W hge hA
 obtain ⟨q,us,h1,h2,h3,h4⟩:=hA (.bx r U (ls++[.p 902 0])) (List.mem_cons_self ..)
 have hB:Box (KN w0) F β 902 141 [.h a,.h b,.h c,.h d,.gr 903,.gr 904] W:=hA (.bx 902 141 [.h a,.h b,.h c,.h d,.gr 903,.gr 904]) (by simp)
 have hG:GL (KN w0) F β 903 26 3 g W:=hA (.gl 903 26 3 g) (by simp)
 have hG':GL (KN w0) F β 904 3 1 g' W:=hA (.gl 904 3 1 g') (by simp)
 have hB2:=hB
 obtain ⟨q2,vs,e2,e3,e4,e5,e6,e7⟩:=hB2
 have hG2:=hG
 obtain ⟨xs,x1,x2,x3⟩:=hG2
 have hG3:=hG'
 obtain ⟨ys,y1,y2,y3⟩:=hG3
 refine ⟨β,hge,fun _ _=>Loc.same.rfl,fun _ h=>h,fun _ h=>.inl h,fun c hc=>(by cases hc),fun A hAm=>?_⟩
 simp only [List.mem_cons,List.not_mem_nil,or_false] at hAm
 rcases hAm with rfl | rfl
 ·refine ⟨q,us,h1,h2,q5 (fun v hv=>?_) h3,h4⟩
  obtain ⟨q3,e8,rfl⟩:∃q,β 902=some q∧v=.pointer (some ⟨q,0,none⟩):=hv
  show _=pov β 902
  unfold pov;rw [e8]
 ·refine ⟨?_,fun bb hbm qq hq=>?_⟩
  ·show F.o n [gv β 902,gv β 903,gv β 904] [] W β.D
   rw [hn]
   match hv:vs.toList,e4 with
   | [u1,u2,u3,u4,u5,u6],e4 =>
    obtain ⟨k1,k2,k3,k4,k5,k6,_⟩:=e4
    have k1:F.c a u1 W β.D:=k1
    have k2:F.c b u2 W β.D:=k2
    have k3:F.c c u3 W β.D:=k3
    have k4:F.c d u4 W β.D:=k4
    rw [ha] at k1;rw [hb] at k2;rw [hc] at k3;rw [hd] at k4
    obtain rfl:u1=_:=k1
    obtain rfl:u2=_:=k2
    obtain rfl:u3=_:=k3
    obtain rfl:u4=_:=k4
    obtain rfl:u5=gv β 903:=k5
    obtain rfl:u6=gv β 904:=k6
    refine ⟨_,_,_,q2,vs,xs,ys,rfl,by rw [zad];exact e2,e3,hv,e5,⟨?_,by rw [hg] at x2;exact x2⟩,?_,by rw [hg'] at y2;exact y2⟩
    ·rw [← zcm];exact x1
    ·rw [← zcm];exact y1
   | [],e4=>exact e4.elim
   | [_],e4=>exact e4.2.elim
   | [_,_],e4=>exact e4.2.2.elim
   | [_,_,_],e4=>exact e4.2.2.2.elim
   | [_,_,_,_],e4=>exact e4.2.2.2.2.elim
   | [_,_,_,_,_],e4=>exact e4.2.2.2.2.2.elim
   | _::_::_::_::_::_::_::_,e4=>exact e4.2.2.2.2.2.2.elim
  ·simp only [List.mem_cons,List.not_mem_nil,or_false] at hbm
   rcases hbm with rfl | rfl | rfl
   ·have:=Box.ml hge hB hq;exact ⟨this.1,this.2.2⟩
   ·have:=GL.ml hge hG hq;exact ⟨this.1,this.2.2⟩
   ·have:=GL.ml hge hG' hq;exact ⟨this.1,this.2.2⟩
theorem zc8 {K:Kit} {F F0:Fact} {β:Loc} {W:World} {l m:List Atom} (h:Imp K F F0 l m) (hg:Geo K β W) (hl:∀x∈l,x.okB K F β W):∀x∈m,x.okB K F0 β W:=h β ⟨#[],[]⟩ W hg hl
theorem zfA {K:Kit} {P:Program} {F F0:Fact} {f:FuncId} {az az0:List Sh} {pre pre0 post post0:List Atom} {res res0:Sh} (h:Con.sound K P F0 ⟨f,az0,pre0,res0,post0⟩) (hb:pre.all Atom.isB=true) (has:∀β W vs,shs F β az vs W→shs F0 β az0 vs W) (hpre:Imp K F F0 pre pre0) (hn:names pre0=names pre) (hg:zk pre0=zk pre) (hres:∀β v W,res0.ok F0 β v W→res.ok F β v W) (hpost:Imp K F0 F post0 post):Con.sound K P F ⟨f,az,pre,res,post⟩:=by
 refine ⟨hb,fun β W vs hs hp hge=>(h.2 β W vs (has β W vs hs) (zc8 hpre hge hp) hge).mono ?_⟩
 rintro e W' ⟨v,β',rfl,hB⟩
 exact ⟨v,β',rfl,⟨hres _ _ _ hB.res,by have:=hB.oth;rwa [hn] at this,zc8 hpost hB.geo hB.post,fun b hb=>hB.eqv b (by rw [hg];exact hb),hB.dm,fun q hq=>(hB.dn q hq).imp id (Or.imp id fun ⟨b,h1,h2⟩=>⟨b,by rw [← hg];exact h1,h2⟩),fun b hb=>hB.mvd b (by rw [hg];exact hb),hB.geo⟩⟩
theorem zkH {K:Kit} {P:Program} {F F0:Fact} {f:FuncId} {az az0:List Sh} {pre pre0 post post0:List Atom} {res res0:Sh} (h:Con.psound K P F0 ⟨f,az0,pre0,res0,post0⟩) (hb:pre.all Atom.isB=true) (has:∀β W vs,shs F β az vs W→shs F0 β az0 vs W) (hpre:Imp K F F0 pre pre0) (hn:names pre0=names pre) (hg:zk pre0=zk pre) (hres:∀β v W,res0.ok F0 β v W→res.ok F β v W) (hpost:Imp K F0 F post0 post):Con.psound K P F ⟨f,az,pre,res,post⟩:=by
 refine ⟨hb,fun β W vs hs hp hge=>(h.2 β W vs (has β W vs hs) (zc8 hpre hge hp) hge).mono ?_⟩
 rintro e W' ⟨v,β',rfl,hB⟩
 exact ⟨v,β',rfl,⟨hres _ _ _ hB.res,by have:=hB.oth;rwa [hn] at this,zc8 hpost hB.geo hB.post,fun b hb=>hB.eqv b (by rw [hg];exact hb),hB.dm,fun q hq=>(hB.dn q hq).imp id (Or.imp id fun ⟨b,h1,h2⟩=>⟨b,by rw [← hg];exact h1,h2⟩),fun b hb=>hB.mvd b (by rw [hg];exact hb),hB.geo⟩⟩
end
end Go.Proofs.YteimplkdcjapdaaGreatDoor
namespace Go.Proofs.YteimplkdcjapdaaGreatDoor
open Go.RowKit Go.Shelf
def pSbV (s:Sb):Pred:=fun v W D=>∃u,v=.agg #[.string ⟨s.1.toArray⟩,.int .i64 s.2.1,u]∧pLs cSt s.2.2 u W D
def pSu (l:List (List UInt8×Sb)):Pred:=fun v W D=>∃q es c,v=.map (some q)∧D q∧W.heap[q]?=some (.map es c)∧ents pSbV l es.toList W D
theorem l_hh {F F':Fact} {n n':Nat} (p:Pred) (h:F.c n=p) (h':F'.c n'=p):∀(β:Loc) v W,(Lf.h n).ok F β v W→(Lf.h n').ok F' β v W:=fun β v W hv=>by
 show F'.c n' v W β.D
 rw [h',← h];exact hv
section
variable {w0:World}
theorem qp (s:Sb):FineM (KN w0) (pSbV s):=by
 intro v W W' D D' S hS hO hD ⟨u,h1,h2⟩
 exact ⟨u,h1,(zx (K:=KN w0) z8).mv hS hO hD h2⟩
theorem ziF {l:List (List UInt8×Sb)}:FineC (KN w0) (pSu l):=
 ⟨fun hS hO hD ⟨q,es,c,h1,h2,h3,h4⟩=>⟨q,es,c,h1,hD q h2,(hO.block q (Array.getElem?_eq_some_iff.1 h3).1 fun hs=>(hS q hs).2.1 h2).trans h3,zcZ qp hS hO hD h4⟩,fun ⟨q,_,_,h,_⟩=>by rw [h];rfl⟩
abbrev rnA (n0 n1 n2 n3 n4 g o:Nat):List Atom:=[.bx 900 108 [.h n0,.h n1,.h n2,.h n3,.gr 901,.h n4,.po 902],.gl 901 45 11 g,.hp [902,903,904] [] o]
structure RnAt (w0:World) (su:List (List UInt8×Sb)) (F:Fact) (s:Rn) (n0 n1 n2 n3 n4 g o:Nat):Prop where
 c0:F.c n0=pSu su
 c1:F.c n1=pI s.1.1
 c2:F.c n2=pI s.1.2.1
 c3:F.c n3=pI s.1.2.2
 c4:F.c n4=pI s.2.2.1
 g0:F.g g=pG cM s.2.1
 o0:F.o o=oStr w0 s.2.2.2
theorem zlZ {su:List (List UInt8×Sb)} {F F0:Fact} {s:Rn} {n0 n1 n2 n3 n4 g o m0 m1 m2 m3 m4 h p:Nat} (a:RnAt w0 su F s n0 n1 n2 n3 n4 g o) (b:RnAt w0 su F0 s m0 m1 m2 m3 m4 h p):Imp (KN w0) F F0 (rnA n0 n1 n2 n3 n4 g o) (rnA m0 m1 m2 m3 m4 h p):=
 LZ ⟨z_b ⟨l_hh _ a.c0 b.c0,l_hh _ a.c1 b.c1,l_hh _ a.c2 b.c2,l_hh _ a.c3 b.c3,yy,l_hh _ a.c4 b.c4,yy,trivial⟩,z_gq a.g0 b.g0,z_hp a.o0 b.o0,trivial⟩
def RF (w0:World) (f:FuncId) (az:List PSh) (su:List (List UInt8×Sb)) (s s':Rn) (res:PSh):Prop:=
 ∀⦃F:Fact⦄ ⦃n0 n1 n2 n3 n4 g o m0 m1 m2 m3 m4 h p:Nat⦄ ⦃az':List Sh⦄ ⦃r:Sh⦄,RnAt w0 su F s n0 n1 n2 n3 n4 g o→RnAt w0 su F s' m0 m1 m2 m3 m4 h p→az'.map (Sh.pr F)=az→r.pr F=res→az'.all (Sh.low [])=true→r.low []=true →
  Con.sound (KN w0) Tryz.prog F ⟨f,LF (.p 900 0)::az',rnA n0 n1 n2 n3 n4 g o,r,rnA m0 m1 m2 m3 m4 h p⟩
def RP (w0:World) (f:FuncId) (az:List PSh) (su:List (List UInt8×Sb)) (s:Rn) (k:Int):Prop:=
 ∀⦃F:Fact⦄ ⦃n0 n1 n2 n3 n4 g o:Nat⦄ ⦃az':List Sh⦄ ⦃r:Nat⦄,RnAt w0 su F s n0 n1 n2 n3 n4 g o→F.c r=pV (.iface 37 (.int .i64 k))→az'.map (Sh.pr F)=az→az'.all (Sh.low [])=true →
  Con.psound (KN w0) Tryz.prog F ⟨f,LF (.p 900 0)::az',rnA n0 n1 n2 n3 n4 g o,LF (.h r),[]⟩
theorem zb4 {F F0:Fact} {az az0:List Sh} (h:az.map (Sh.pr F)=az0.map (Sh.pr F0)) (hl:az.all (Sh.low [])=true) (hl0:az0.all (Sh.low [])=true) (β:Loc) (W:World) (vs:List Value) (hs:shs F β (LF (.p 900 0)::az) vs W):shs F0 β (LF (.p 900 0)::az0) vs W:=by
 match vs,hs with
 | v::vs,⟨h1,h2⟩=>exact ⟨h1,(zbv hl0).2 (h ▸ (zbv hl).1 h2)⟩
 | [],hs=>exact hs.elim
theorem rf_of {f:FuncId} {az:List PSh} {su:List (List UInt8×Sb)} {s s':Rn} {res:PSh} {F0:Fact} {n0 n1 n2 n3 n4 g o m0 m1 m2 m3 m4 h p:Nat} {az0:List Sh} {r0:Sh} (hc:Con.sound (KN w0) Tryz.prog F0 ⟨f,LF (.p 900 0)::az0,rnA n0 n1 n2 n3 n4 g o,r0,rnA m0 m1 m2 m3 m4 h p⟩)
  (ha:RnAt w0 su F0 s n0 n1 n2 n3 n4 g o) (hb:RnAt w0 su F0 s' m0 m1 m2 m3 m4 h p) (hz:az0.map (Sh.pr F0)=az) (hr:r0.pr F0=res) (hl:az0.all (Sh.low [])=true) (hlr:r0.low []=true):RF w0 f az su s s' res:=by
 intro F _ _ _ _ _ _ _ _ _ _ _ _ _ _ az' r a b e1 e2 l1 l2
 refine zfA hc rfl (zb4 (e1.trans hz.symm) l1 hl) (zlZ a ha) rfl rfl (fun β v W h=>?_) (zlZ hb b)
 rw [Sh.pr_iff hlr,hr,← e2] at h
 exact (Sh.pr_iff l2).2 h
theorem rp_of {f:FuncId} {az:List PSh} {su:List (List UInt8×Sb)} {s:Rn} {k:Int} {F0:Fact} {n0 n1 n2 n3 n4 g o r0:Nat} {az0:List Sh} (hc:Con.psound (KN w0) Tryz.prog F0 ⟨f,LF (.p 900 0)::az0,rnA n0 n1 n2 n3 n4 g o,LF (.h r0),[]⟩)
  (ha:RnAt w0 su F0 s n0 n1 n2 n3 n4 g o) (hz:az0.map (Sh.pr F0)=az) (hr:F0.c r0=pV (.iface 37 (.int .i64 k))) (hl:az0.all (Sh.low [])=true):RP w0 f az su s k:=by
 intro F _ _ _ _ _ _ _ az' r a e2 e1 l1
 refine zkH hc rfl (zb4 (e1.trans hz.symm) l1 hl) (zlZ a ha) rfl rfl (fun β v W h=>?_) fun β a W _ _ B hB=>by cases hB
 have h2:F0.c r0 v W β.D:=h
 show F.c r v W β.D
 rw [e2,← hr];exact h2
end
instance {w0:World} {su:List (List UInt8×Sb)}:Fi (KN w0) (.q (pSu su)):=⟨by rw [SV.fine];exact ziF⟩
instance {w0:World} {c:Option Str}:FiQ (KN w0) (oStr w0 c):=⟨zaJ⟩
instance {w0:World} {l:List (List UInt8×Sb)}:FiQ (KN w0) (oMap pSbV l):=⟨qR qp⟩
end Go.Proofs.YteimplkdcjapdaaGreatDoor
namespace Go.Proofs.YteimplkdcjapdaaGreatDoor
open Go.RowKit Go.Shelf
section
variable {w0:World}
abbrev rnN (n0 n1 n2 n3 n4 g:Nat):List Atom:=[.bx 900 108 [.h n0,.h n1,.h n2,.h n3,.gr 901,.h n4,.k (.pointer none)],.gl 901 45 11 g]
abbrev rnS (n0 n1 n2 n3 n4 g a b c d g2 g3:Nat):List Atom:=[.bx 900 108 [.h n0,.h n1,.h n2,.h n3,.gr 901,.h n4,.p 902 0],.gl 901 45 11 g,.bx 902 141 [.h a,.h b,.h c,.h d,.gr 903,.gr 904],.gl 903 26 3 g2,.gl 904 3 1 g3]
structure RnN (su:List (List UInt8×Sb)) (F:Fact) (s:Rn) (n0 n1 n2 n3 n4 g:Nat):Prop where
 c0:F.c n0=pSu su
 c1:F.c n1=pI s.1.1
 c2:F.c n2=pI s.1.2.1
 c3:F.c n3=pI s.1.2.2
 c4:F.c n4=pI s.2.2.1
 g0:F.g g=pG cM s.2.1
structure StA (F:Fact) (c:Str) (n0 n1 n2 n3 g g':Nat):Prop where
 a0:F.c n0=pI c.1.1
 a1:F.c n1=pI c.1.2.1
 a2:F.c n2=pI c.1.2.2
 a3:F.c n3=pI c.2.1
 a4:F.g g=pG cV c.2.2.1
 a5:F.g g'=pG cI c.2.2.2
theorem zdp {su:List (List UInt8×Sb)} {F F0:Fact} {s:Rn} {n0 n1 n2 n3 n4 g m0 m1 m2 m3 m4 h:Nat} (a:RnN su F s n0 n1 n2 n3 n4 g) (b:RnN su F0 s m0 m1 m2 m3 m4 h):Imp (KN w0) F F0 (rnN n0 n1 n2 n3 n4 g) (rnN m0 m1 m2 m3 m4 h):=
 LZ ⟨z_b ⟨l_hh _ a.c0 b.c0,l_hh _ a.c1 b.c1,l_hh _ a.c2 b.c2,l_hh _ a.c3 b.c3,yy,l_hh _ a.c4 b.c4,yy,trivial⟩,z_gq a.g0 b.g0,trivial⟩
theorem zhy {su:List (List UInt8×Sb)} {F F0:Fact} {s:Rn} {c:Str} {n0 n1 n2 n3 n4 g m0 m1 m2 m3 m4 h a0 a1 a2 a3 g2 g3 b0 b1 b2 b3 h2 h3:Nat} (a:RnN su F s n0 n1 n2 n3 n4 g) (a':StA F c a0 a1 a2 a3 g2 g3) (b:RnN su F0 s m0 m1 m2 m3 m4 h) (b':StA F0 c b0 b1 b2 b3 h2 h3) :
  Imp (KN w0) F F0 (rnS n0 n1 n2 n3 n4 g a0 a1 a2 a3 g2 g3) (rnS m0 m1 m2 m3 m4 h b0 b1 b2 b3 h2 h3):=
 LZ ⟨z_b ⟨l_hh _ a.c0 b.c0,l_hh _ a.c1 b.c1,l_hh _ a.c2 b.c2,l_hh _ a.c3 b.c3,yy,l_hh _ a.c4 b.c4,yy,trivial⟩,z_gq a.g0 b.g0,z_b ⟨l_hh _ a'.a0 b'.a0,l_hh _ a'.a1 b'.a1,l_hh _ a'.a2 b'.a2,l_hh _ a'.a3 b'.a3,yy,yy,trivial⟩,z_gq a'.a4 b'.a4,z_gq a'.a5 b'.a5,trivial⟩
variable {f:FuncId} {az:List PSh} {su:List (List UInt8×Sb)} {s s':Rn} {c c':Str} {res:PSh} {k:Int}
def FN (w0:World) (f:FuncId) (az:List PSh) (su:List (List UInt8×Sb)) (s s':Rn) (res:PSh):Prop:=
 ∀⦃F:Fact⦄ ⦃n0 n1 n2 n3 n4 g m0 m1 m2 m3 m4 h:Nat⦄ ⦃az':List Sh⦄ ⦃r:Sh⦄,RnN su F s n0 n1 n2 n3 n4 g→RnN su F s' m0 m1 m2 m3 m4 h→az'.map (Sh.pr F)=az→r.pr F=res→az'.all (Sh.low [])=true→r.low []=true →
  Con.sound (KN w0) Tryz.prog F ⟨f,LF (.p 900 0)::az',rnN n0 n1 n2 n3 n4 g,r,rnN m0 m1 m2 m3 m4 h⟩
def PN (w0:World) (f:FuncId) (az:List PSh) (su:List (List UInt8×Sb)) (s:Rn) (k:Int):Prop:=
 ∀⦃F:Fact⦄ ⦃n0 n1 n2 n3 n4 g:Nat⦄ ⦃az':List Sh⦄ ⦃r:Nat⦄,RnN su F s n0 n1 n2 n3 n4 g→F.c r=pV (.iface 37 (.int .i64 k))→az'.map (Sh.pr F)=az→az'.all (Sh.low [])=true →
  Con.psound (KN w0) Tryz.prog F ⟨f,LF (.p 900 0)::az',rnN n0 n1 n2 n3 n4 g,LF (.h r),[]⟩
def FS (w0:World) (f:FuncId) (az:List PSh) (su:List (List UInt8×Sb)) (s:Rn) (c:Str) (s':Rn) (c':Str) (res:PSh):Prop:=
 ∀⦃F:Fact⦄ ⦃n0 n1 n2 n3 n4 g m0 m1 m2 m3 m4 h a0 a1 a2 a3 g2 g3 b0 b1 b2 b3 h2 h3:Nat⦄ ⦃az':List Sh⦄ ⦃r:Sh⦄,RnN su F s n0 n1 n2 n3 n4 g→StA F c a0 a1 a2 a3 g2 g3→RnN su F s' m0 m1 m2 m3 m4 h→StA F c' b0 b1 b2 b3 h2 h3→az'.map (Sh.pr F)=az→r.pr F=res→az'.all (Sh.low [])=true→r.low []=true →
  Con.sound (KN w0) Tryz.prog F ⟨f,LF (.p 900 0)::az',rnS n0 n1 n2 n3 n4 g a0 a1 a2 a3 g2 g3,r,rnS m0 m1 m2 m3 m4 h b0 b1 b2 b3 h2 h3⟩
def FG (w0:World) (f:FuncId) (az:List PSh) (su:List (List UInt8×Sb)) (s:Rn) (c:Str) (s':Rn) (res:PSh):Prop:=
 ∀⦃F:Fact⦄ ⦃n0 n1 n2 n3 n4 g m0 m1 m2 m3 m4 h a0 a1 a2 a3 g2 g3:Nat⦄ ⦃az':List Sh⦄ ⦃r:Sh⦄,RnN su F s n0 n1 n2 n3 n4 g→StA F c a0 a1 a2 a3 g2 g3→RnN su F s' m0 m1 m2 m3 m4 h→az'.map (Sh.pr F)=az→r.pr F=res→az'.all (Sh.low [])=true→r.low []=true →
  Con.sound (KN w0) Tryz.prog F ⟨f,LF (.p 900 0)::az',rnS n0 n1 n2 n3 n4 g a0 a1 a2 a3 g2 g3,r,rnN m0 m1 m2 m3 m4 h⟩
section
variable {F0:Fact} {n0 n1 n2 n3 n4 g m0 m1 m2 m3 m4 h a0 a1 a2 a3 g2 g3 b0 b1 b2 b3 h2 h3 r1:Nat} {az0:List Sh} {r0:Sh}
theorem zf2 {F:Fact} {r:Sh} (hr:r0.pr F0=res) (hlr:r0.low []=true) (e2:r.pr F=res) (l2:r.low []=true):∀β v W,r0.ok F0 β v W→r.ok F β v W:=fun β v W h=>by
 rw [Sh.pr_iff hlr,hr,← e2] at h
 exact (Sh.pr_iff l2).2 h
theorem zpa {F:Fact} {r:Nat} (hr:F0.c r1=pV (.iface 37 (.int .i64 k))) (e:F.c r=pV (.iface 37 (.int .i64 k))):∀β v W,(LF (.h r1)).ok F0 β v W→(LF (.h r)).ok F β v W:=fun β v W h=>by
 have h2:F0.c r1 v W β.D:=h
 show F.c r v W β.D
 rw [e,← hr];exact h2
theorem fn_of (hc:Con.sound (KN w0) Tryz.prog F0 ⟨f,LF (.p 900 0)::az0,rnN n0 n1 n2 n3 n4 g,r0,rnN m0 m1 m2 m3 m4 h⟩) (ha:RnN su F0 s n0 n1 n2 n3 n4 g) (hb:RnN su F0 s' m0 m1 m2 m3 m4 h) (hz:az0.map (Sh.pr F0)=az) (hr:r0.pr F0=res) (hl:az0.all (Sh.low [])=true) (hlr:r0.low []=true):FN w0 f az su s s' res:=
 fun _ _ _ _ _ _ _ _ _ _ _ _ _ _ _ a b e1 e2 l1 l2=>zfA hc rfl (zb4 (e1.trans hz.symm) l1 hl) (zdp a ha) rfl rfl (zf2 hr hlr e2 l2) (zdp hb b)
theorem pn_of (hc:Con.psound (KN w0) Tryz.prog F0 ⟨f,LF (.p 900 0)::az0,rnN n0 n1 n2 n3 n4 g,LF (.h r1),[]⟩) (ha:RnN su F0 s n0 n1 n2 n3 n4 g) (hz:az0.map (Sh.pr F0)=az) (hr:F0.c r1=pV (.iface 37 (.int .i64 k))) (hl:az0.all (Sh.low [])=true):PN w0 f az su s k:=
 fun _ _ _ _ _ _ _ _ _ a e2 e1 l1=>zkH hc rfl (zb4 (e1.trans hz.symm) l1 hl) (zdp a ha) rfl rfl (zpa hr e2) fun β a W _ _ B hB=>by cases hB
theorem fs_of (hc:Con.sound (KN w0) Tryz.prog F0 ⟨f,LF (.p 900 0)::az0,rnS n0 n1 n2 n3 n4 g a0 a1 a2 a3 g2 g3,r0,rnS m0 m1 m2 m3 m4 h b0 b1 b2 b3 h2 h3⟩) (ha:RnN su F0 s n0 n1 n2 n3 n4 g) (ha':StA F0 c a0 a1 a2 a3 g2 g3) (hb:RnN su F0 s' m0 m1 m2 m3 m4 h) (hb':StA F0 c' b0 b1 b2 b3 h2 h3) (hz:az0.map (Sh.pr F0)=az) (hr:r0.pr F0=res) (hl:az0.all (Sh.low [])=true) (hlr:r0.low []=true):FS w0 f az su s c s' c' res:=
 fun _ _ _ _ _ _ _ _ _ _ _ _ _ _ _ _ _ _ _ _ _ _ _ _ _ _ _ a a' b b' e1 e2 l1 l2=>zfA hc rfl (zb4 (e1.trans hz.symm) l1 hl) (zhy a a' ha ha') rfl rfl (zf2 hr hlr e2 l2) (zhy hb hb' b b')
theorem fg_of (hc:Con.sound (KN w0) Tryz.prog F0 ⟨f,LF (.p 900 0)::az0,rnS n0 n1 n2 n3 n4 g a0 a1 a2 a3 g2 g3,r0,rnN m0 m1 m2 m3 m4 h⟩) (ha:RnN su F0 s n0 n1 n2 n3 n4 g) (ha':StA F0 c a0 a1 a2 a3 g2 g3) (hb:RnN su F0 s' m0 m1 m2 m3 m4 h) (hz:az0.map (Sh.pr F0)=az) (hr:r0.pr F0=res) (hl:az0.all (Sh.low [])=true) (hlr:r0.low []=true):FG w0 f az su s c s' res:=
 fun _ _ _ _ _ _ _ _ _ _ _ _ _ _ _ _ _ _ _ _ _ a a' b e1 e2 l1 l2=>zfA hc rfl (zb4 (e1.trans hz.symm) l1 hl) (zhy a a' ha ha') rfl rfl (zf2 hr hlr e2 l2) (zdp hb b)
end
end
end Go.Proofs.YteimplkdcjapdaaGreatDoor
namespace Go.Proofs.YteimplkdcjapdaaGreatDoor
open Go.RowKit Go.Shelf
section
variable {w0:World} {F F0:Fact} {β:Loc} {W:World} {n0 n1 n2 n3 n4 g o m0 m1 m2 m3 m4 h p a0 a1 a2 a3 g2 g3 b0 b1 b2 b3 h2 h3 r1:Nat} {f:FuncId} {az:List PSh} {su:List (List UInt8×Sb)} {s s':Rn} {c c':Str} {res:PSh} {k:Int} {az0:List Sh} {r0:Sh}
theorem opN (hn:F.o o=oStr w0 none) (hA:∀x∈rnA n0 n1 n2 n3 n4 g o,x.okB (KN w0) F β W):(∀b∈[902,903,904],β b=none)∧∀x∈rnN n0 n1 n2 n3 n4 g,x.okB (KN w0) F β W:=by
 obtain ⟨q,us,h1,h2,h3,h4⟩:Box (KN w0) F β 900 108 [.h n0,.h n1,.h n2,.h n3,.gr 901,.h n4,.po 902] W:=hA _ (List.mem_cons_self ..)
 have hp:HP (KN w0) F β [902,903,904] [] o W:=hA (.hp [902,903,904] [] o) (by simp)
 have hp1:=hp.1
 rw [hn] at hp1
 have hb:∀b∈[902,903,904],β b=none:=fun b hb=>by
  have:=hp1 (gv β b) (List.mem_map_of_mem hb)
  rwa [zad] at this
 refine ⟨hb,fun x hx=>?_⟩
 simp only [List.mem_cons,List.not_mem_nil,or_false] at hx
 rcases hx with rfl | rfl
 ·refine ⟨q,us,h1,h2,q5 (ls:=[.h n0,.h n1,.h n2,.h n3,.gr 901,.h n4]) (fun v hv=>?_) h3,h4⟩
  have hv:v=pov β 902:=hv
  show v=.pointer none
  rw [hv];unfold pov;rw [hb 902 (by simp)]
 ·exact hA _ (by simp)
theorem clN (hn:F.o o=oStr w0 none) (hb:∀b∈[902,903,904],β b=none) (hA:∀x∈rnN n0 n1 n2 n3 n4 g,x.okB (KN w0) F β W):∀x∈rnA n0 n1 n2 n3 n4 g o,x.okB (KN w0) F β W:=by
 obtain ⟨q,us,h1,h2,h3,h4⟩:Box (KN w0) F β 900 108 [.h n0,.h n1,.h n2,.h n3,.gr 901,.h n4,.k (.pointer none)] W:=hA _ (List.mem_cons_self ..)
 intro x hx
 simp only [List.mem_cons,List.not_mem_nil,or_false] at hx
 rcases hx with rfl | rfl | rfl
 ·refine ⟨q,us,h1,h2,q5 (ls:=[.h n0,.h n1,.h n2,.h n3,.gr 901,.h n4]) (fun v hv=>?_) h3,h4⟩
  have hv:v=.pointer none:=hv
  show v=pov β 902
  rw [hv];unfold pov;rw [hb 902 (by simp)]
 ·exact hA _ (by simp)
 ·refine ⟨?_,fun b hbm q hq=>by rw [hb b hbm] at hq;cases hq⟩
  rw [hn]
  intro v hv
  obtain ⟨b,hbm,rfl⟩:=List.mem_map.1 hv
  rw [zad];exact hb b hbm
theorem opS (ha:RnAt w0 su F s n0 n1 n2 n3 n4 g o) (hs:s.2.2.2=some c) (hb:RnN su F0 s m0 m1 m2 m3 m4 h) (hc:StA F0 c a0 a1 a2 a3 g2 g3) (hA:∀x∈rnA n0 n1 n2 n3 n4 g o,x.okB (KN w0) F β W):∀x∈rnS m0 m1 m2 m3 m4 h a0 a1 a2 a3 g2 g3,x.okB (KN w0) F0 β W:=by
 obtain ⟨q,us,h1,h2,h3,h4⟩:Box (KN w0) F β 900 108 [.h n0,.h n1,.h n2,.h n3,.gr 901,.h n4,.po 902] W:=hA _ (List.mem_cons_self ..)
 have hp:HP (KN w0) F β [902,903,904] [] o W:=hA (.hp [902,903,904] [] o) (by simp)
 have hp1:F.o o [gv β 902,gv β 903,gv β 904] [] W β.D:=hp.1
 rw [ha.o0,hs] at hp1
 obtain ⟨v1,v2,v3,q2,vs,xs,ys,e1,e2,e3,e4,e5,⟨e6,e7⟩,e8,e9⟩:=hp1
 simp only [List.cons.injEq,and_true] at e1
 obtain ⟨rfl,rfl,rfl⟩:=e1
 rw [zad] at e2
 intro x hx
 simp only [List.mem_cons,List.not_mem_nil,or_false] at hx
 rcases hx with rfl | rfl | rfl | rfl | rfl
 ·refine ⟨q,us,h1,h2,?_,h4⟩
  have h3:=q5 (ls:=[.h n0,.h n1,.h n2,.h n3,.gr 901,.h n4]) (y:=.p 902 0) (fun v hv=>(⟨q2,e2,by rw [show v=pov β 902 from hv];unfold pov;rw [e2]⟩:∃q,β 902=some q∧v=.pointer (some ⟨q,0,none⟩))) h3
  match hu:us.toList,h3 with
  | [u0,u1,u2,u3,u4,u5,u6],⟨k0,k1,k2,k3,k4,k5,k6,_⟩ =>
   exact ⟨l_hh _ ha.c0 hb.c0 _ _ _ k0,l_hh _ ha.c1 hb.c1 _ _ _ k1,l_hh _ ha.c2 hb.c2 _ _ _ k2,l_hh _ ha.c3 hb.c3 _ _ _ k3,k4,l_hh _ ha.c4 hb.c4 _ _ _ k5,k6,trivial⟩
  | [],h3=>exact h3.elim
  | [_],h3=>exact h3.2.elim
  | [_,_],h3=>exact h3.2.2.elim
  | [_,_,_],h3=>exact h3.2.2.2.elim
  | [_,_,_,_],h3=>exact h3.2.2.2.2.elim
  | [_,_,_,_,_],h3=>exact h3.2.2.2.2.2.elim
  | [_,_,_,_,_,_],h3=>exact h3.2.2.2.2.2.2.elim
  | _::_::_::_::_::_::_::_::_,h3=>exact h3.2.2.2.2.2.2.2.elim
 ·exact z_gq ha.g0 hb.g0 β ⟨#[],[]⟩ W (hA (.gl 901 45 11 g) (by simp))
 ·refine ⟨q2,vs,e2,e3,?_,e5,by rfl,(hp.2 902 (by simp) q2 e2).1⟩
  rw [e4]
  refine ⟨?_,?_,?_,?_,rfl,rfl,trivial⟩
  ·show F0.c a0 _ _ _;rw [hc.a0];rfl
  ·show F0.c a1 _ _ _;rw [hc.a1];rfl
  ·show F0.c a2 _ _ _;rw [hc.a2];rfl
  ·show F0.c a3 _ _ _;rw [hc.a3];rfl
 ·refine ⟨xs,?_,by rw [hc.a4];exact e7,fun q hq=>(hp.2 903 (by simp) q hq).2⟩
  rw [zcm];exact e6
 ·refine ⟨ys,?_,by rw [hc.a5];exact e9,fun q hq=>(hp.2 904 (by simp) q hq).2⟩
  rw [zcm];exact e8
theorem clS (hge:Geo (KN w0) β W) (ha:RnAt w0 su F s n0 n1 n2 n3 n4 g o) (hs:s.2.2.2=some c) (hb:RnN su F0 s m0 m1 m2 m3 m4 h) (hc:StA F0 c a0 a1 a2 a3 g2 g3) (hA:∀x∈rnS m0 m1 m2 m3 m4 h a0 a1 a2 a3 g2 g3,x.okB (KN w0) F0 β W):∀x∈rnA n0 n1 n2 n3 n4 g o,x.okB (KN w0) F β W:=by
 obtain ⟨q,us,h1,h2,h3,h4⟩:Box (KN w0) F0 β 900 108 [.h m0,.h m1,.h m2,.h m3,.gr 901,.h m4,.p 902 0] W:=hA _ (List.mem_cons_self ..)
 have hB:Box (KN w0) F0 β 902 141 [.h a0,.h a1,.h a2,.h a3,.gr 903,.gr 904] W:=hA (.bx 902 141 [.h a0,.h a1,.h a2,.h a3,.gr 903,.gr 904]) (by simp)
 have hG:GL (KN w0) F0 β 903 26 3 g2 W:=hA (.gl 903 26 3 g2) (by simp)
 have hG':GL (KN w0) F0 β 904 3 1 g3 W:=hA (.gl 904 3 1 g3) (by simp)
 have hB2:=hB
 obtain ⟨q2,vs,e2,e3,e4,e5,e6,e7⟩:=hB2
 have hG2:=hG
 obtain ⟨xs,x1,x2,x3⟩:=hG2
 have hG3:=hG'
 obtain ⟨ys,y1,y2,y3⟩:=hG3
 intro x hx
 simp only [List.mem_cons,List.not_mem_nil,or_false] at hx
 rcases hx with rfl | rfl | rfl
 ·refine ⟨q,us,h1,h2,?_,h4⟩
  have h3:=q5 (ls:=[.h m0,.h m1,.h m2,.h m3,.gr 901,.h m4]) (y:=.po 902) (fun v hv=>by
   obtain ⟨q3,e8,rfl⟩:∃q,β 902=some q∧v=.pointer (some ⟨q,0,none⟩):=hv
   show _=pov β 902
   unfold pov;rw [e8]) h3
  match hu:us.toList,h3 with
  | [u0,u1,u2,u3,u4,u5,u6],⟨k0,k1,k2,k3,k4,k5,k6,_⟩ =>
   exact ⟨l_hh _ hb.c0 ha.c0 _ _ _ k0,l_hh _ hb.c1 ha.c1 _ _ _ k1,l_hh _ hb.c2 ha.c2 _ _ _ k2,l_hh _ hb.c3 ha.c3 _ _ _ k3,k4,l_hh _ hb.c4 ha.c4 _ _ _ k5,k6,trivial⟩
  | [],h3=>exact h3.elim
  | [_],h3=>exact h3.2.elim
  | [_,_],h3=>exact h3.2.2.elim
  | [_,_,_],h3=>exact h3.2.2.2.elim
  | [_,_,_,_],h3=>exact h3.2.2.2.2.elim
  | [_,_,_,_,_],h3=>exact h3.2.2.2.2.2.elim
  | [_,_,_,_,_,_],h3=>exact h3.2.2.2.2.2.2.elim
  | _::_::_::_::_::_::_::_::_,h3=>exact h3.2.2.2.2.2.2.2.elim
 ·exact z_gq hb.g0 ha.g0 β ⟨#[],[]⟩ W (hA (.gl 901 45 11 h) (by simp))
 ·refine ⟨?_,fun bb hbm qq hq=>?_⟩
  ·show F.o o [gv β 902,gv β 903,gv β 904] [] W β.D
   rw [ha.o0,hs]
   match hv:vs.toList,e4 with
   | [u1,u2,u3,u4,u5,u6],e4 =>
    obtain ⟨k1,k2,k3,k4,k5,k6,_⟩:=e4
    have k1:F0.c a0 u1 W β.D:=k1
    have k2:F0.c a1 u2 W β.D:=k2
    have k3:F0.c a2 u3 W β.D:=k3
    have k4:F0.c a3 u4 W β.D:=k4
    rw [hc.a0] at k1;rw [hc.a1] at k2;rw [hc.a2] at k3;rw [hc.a3] at k4
    obtain rfl:u1=_:=k1
    obtain rfl:u2=_:=k2
    obtain rfl:u3=_:=k3
    obtain rfl:u4=_:=k4
    obtain rfl:u5=gv β 903:=k5
    obtain rfl:u6=gv β 904:=k6
    refine ⟨_,_,_,q2,vs,xs,ys,rfl,by rw [zad];exact e2,e3,hv,e5,⟨?_,by rw [hc.a4] at x2;exact x2⟩,?_,by rw [hc.a5] at y2;exact y2⟩
    ·rw [← zcm];exact x1
    ·rw [← zcm];exact y1
   | [],e4=>exact e4.elim
   | [_],e4=>exact e4.2.elim
   | [_,_],e4=>exact e4.2.2.elim
   | [_,_,_],e4=>exact e4.2.2.2.elim
   | [_,_,_,_],e4=>exact e4.2.2.2.2.elim
   | [_,_,_,_,_],e4=>exact e4.2.2.2.2.2.elim
   | _::_::_::_::_::_::_::_,e4=>exact e4.2.2.2.2.2.2.elim
  ·simp only [List.mem_cons,List.not_mem_nil,or_false] at hbm
   rcases hbm with rfl | rfl | rfl
   ·have:=Box.ml hge hB hq;exact ⟨this.1,this.2.2⟩
   ·have:=GL.ml hge hG hq;exact ⟨this.1,this.2.2⟩
   ·have:=GL.ml hge hG' hq;exact ⟨this.1,this.2.2⟩
end
end Go.Proofs.YteimplkdcjapdaaGreatDoor
namespace Go.Proofs.YteimplkdcjapdaaGreatDoor
open Go.RowKit Go.Shelf
section
variable {w0:World} {F F0:Fact} {n0 n1 n2 n3 n4 g m0 m1 m2 m3 m4 h a0 a1 a2 a3 g2 g3 b0 b1 b2 b3 h2 h3 r1:Nat} {f:FuncId} {az:List PSh} {su:List (List UInt8×Sb)} {s s':Rn} {c c':Str} {res:PSh} {k:Int} {az0:List Sh} {r0:Sh}
theorem zpy {n0 n1 n2 n3 n4 g o:Nat}:zk (rnA n0 n1 n2 n3 n4 g o)=[901,902,903,904]:=rfl
theorem zeZ (hs:s.2.2.2=none) (hs':s'.2.2.2=none) (hf:FN w0 f az su s s' res):RF w0 f az su s s' res:=by
 intro F n0 n1 n2 n3 n4 g o m0 m1 m2 m3 m4 h p az' r a b e1 e2 l1 l2
 have hc:=hf ⟨a.c0,a.c1,a.c2,a.c3,a.c4,a.g0⟩ ⟨b.c0,b.c1,b.c2,b.c3,b.c4,b.g0⟩ e1 e2 l1 l2
 refine ⟨rfl,fun β W vs hv hp hge=>?_⟩
 obtain ⟨hn,hN⟩:=opN (a.o0.trans (by rw [hs])) hp
 refine (hc.2 β W vs hv hN hge).mono ?_
 rintro e W' ⟨v,β',rfl,hB⟩
 have sm:∀b∈[902,903,904],β.same β' b:=fun b hb=>hB.eqv b (by
  simp only [List.mem_cons,List.not_mem_nil,or_false] at hb
  rcases hb with rfl | rfl | rfl<;>simp [zk])
 refine ⟨v,β',rfl,⟨hB.res,hB.oth.mono fun q ⟨b,hb,hq⟩=>⟨b,(by simp [names] at hb ⊢;omega),hq⟩,clN (b.o0.trans (by rw [hs'])) (fun b hb=>(sm b hb).1.trans (hn b hb)) hB.post,fun b hb=>hB.eqv b (by simp [zk] at hb ⊢;omega),hB.dm,fun q hq=>(hB.dn q hq).imp id (Or.imp id fun ⟨b,h1,h2⟩=>⟨b,(by simp [zk] at h1 ⊢;omega),h2⟩),fun b hb q hq=>?_,hB.geo⟩⟩
 rw [zpy,List.mem_cons] at hb
 rcases hb with rfl | hb
 ·exact hB.mvd 901 (by simp [zk]) q hq
 ·rw [(sm b hb).1] at hq;exact .inl hq
theorem zhz (hs:s.2.2.2=none) (hf:PN w0 f az su s k):RP w0 f az su s k:=by
 intro F n0 n1 n2 n3 n4 g o az' r a e2 e1 l1
 have hc:=hf ⟨a.c0,a.c1,a.c2,a.c3,a.c4,a.g0⟩ e2 e1 l1
 refine ⟨rfl,fun β W vs hv hp hge=>?_⟩
 obtain ⟨hn,hN⟩:=opN (a.o0.trans (by rw [hs])) hp
 refine (hc.2 β W vs hv hN hge).mono ?_
 rintro e W' ⟨v,β',rfl,hB⟩
 have sm:∀b∈[902,903,904],β.same β' b:=fun b hb=>hB.eqv b (by
  simp only [List.mem_cons,List.not_mem_nil,or_false] at hb
  rcases hb with rfl | rfl | rfl<;>simp [zk])
 refine ⟨v,β',rfl,⟨hB.res,hB.oth.mono fun q ⟨b,hb,hq⟩=>⟨b,(by simp [names] at hb ⊢;omega),hq⟩,fun x hx=>(by cases hx),fun b hb=>hB.eqv b (by simp [zk] at hb ⊢;omega),hB.dm,fun q hq=>(hB.dn q hq).imp id (Or.imp id fun ⟨b,h1,h2⟩=>⟨b,(by simp [zk] at h1 ⊢;omega),h2⟩),fun b hb q hq=>?_,hB.geo⟩⟩
 rw [zpy,List.mem_cons] at hb
 rcases hb with rfl | hb
 ·exact hB.mvd 901 (by simp [zk]) q hq
 ·rw [(sm b hb).1] at hq;exact .inl hq
theorem zpx (hc:Con.sound (KN w0) Tryz.prog F0 ⟨f,LF (.p 900 0)::az0,rnS n0 n1 n2 n3 n4 g a0 a1 a2 a3 g2 g3,r0,rnS m0 m1 m2 m3 m4 h b0 b1 b2 b3 h2 h3⟩) (hs:s.2.2.2=some c) (hs':s'.2.2.2=some c') (ha:RnN su F0 s n0 n1 n2 n3 n4 g) (ha':StA F0 c a0 a1 a2 a3 g2 g3) (hb:RnN su F0 s' m0 m1 m2 m3 m4 h) (hb':StA F0 c' b0 b1 b2 b3 h2 h3)
  (hz:az0.map (Sh.pr F0)=az) (hr:r0.pr F0=res) (hl:az0.all (Sh.low [])=true) (hlr:r0.low []=true):RF w0 f az su s s' res:=by
 intro F _ _ _ _ _ _ _ _ _ _ _ _ _ _ az' r a b e1 e2 l1 l2
 refine ⟨rfl,fun β W vs hv hp hge=>?_⟩
 refine (hc.2 β W vs (zb4 (e1.trans hz.symm) l1 hl β W vs hv) (opS a hs ha ha' hp) hge).mono ?_
 rintro e W' ⟨v,β',rfl,hB⟩
 refine ⟨v,β',rfl,⟨zf2 hr hlr e2 l2 _ _ _ hB.res,hB.oth.mono fun q ⟨b,hb,hq⟩=>⟨b,(by simp [names] at hb ⊢;omega),hq⟩,clS hB.geo b hs' hb hb' hB.post,fun b hb=>hB.eqv b (by simp [zk] at hb ⊢;omega),hB.dm,fun q hq=>(hB.dn q hq).imp id (Or.imp id fun ⟨b,h1,h2⟩=>⟨b,(by simp [zk] at h1 ⊢;omega),h2⟩),fun b hb q hq=>?_,hB.geo⟩⟩
 by_cases h2:b=902
 ·subst h2
  rw [(hB.eqv 902 (by simp [zk])).1] at hq;exact .inl hq
 ·exact hB.mvd b (by simp [zk] at hb ⊢;omega) q hq
theorem zaP (hc:Con.psound (KN w0) Tryz.prog F0 ⟨f,LF (.p 900 0)::az0,rnS n0 n1 n2 n3 n4 g a0 a1 a2 a3 g2 g3,LF (.h r1),[]⟩) (hs:s.2.2.2=some c) (ha:RnN su F0 s n0 n1 n2 n3 n4 g) (ha':StA F0 c a0 a1 a2 a3 g2 g3) (hz:az0.map (Sh.pr F0)=az) (hr:F0.c r1=pV (.iface 37 (.int .i64 k))) (hl:az0.all (Sh.low [])=true):RP w0 f az su s k:=by
 intro F _ _ _ _ _ _ _ az' r a e2 e1 l1
 refine ⟨rfl,fun β W vs hv hp hge=>?_⟩
 refine (hc.2 β W vs (zb4 (e1.trans hz.symm) l1 hl β W vs hv) (opS a hs ha ha' hp) hge).mono ?_
 rintro e W' ⟨v,β',rfl,hB⟩
 refine ⟨v,β',rfl,⟨zpa hr e2 _ _ _ hB.res,hB.oth.mono fun q ⟨b,hb,hq⟩=>⟨b,(by simp [names] at hb ⊢;omega),hq⟩,fun x hx=>(by cases hx),fun b hb=>hB.eqv b (by simp [zk] at hb ⊢;omega),hB.dm,fun q hq=>(hB.dn q hq).imp id (Or.imp id fun ⟨b,h1,h2⟩=>⟨b,(by simp [zk] at h1 ⊢;omega),h2⟩),fun b hb q hq=>?_,hB.geo⟩⟩
 by_cases h2:b=902
 ·subst h2
  rw [(hB.eqv 902 (by simp [zk])).1] at hq;exact .inl hq
 ·exact hB.mvd b (by simp [zk] at hb ⊢;omega) q hq
theorem forget {β:Loc} {W:World} (hge:Geo (KN w0) β W):Geo (KN w0) ⟨fun b=>if b=902∨b=903∨b=904 then none else β b,β.len,β.D⟩ W:=by
 have hsub:∀b q,(if b=902∨b=903∨b=904 then none else β b)=some q→β b=some q:=fun b q hq=>by
  split at hq
  ·cases hq
  ·exact hq
 exact ⟨fun b q hq=>hge.lt b q (hsub b q hq),fun b c q h1 h2=>hge.inj b c q (hsub b q h1) (hsub c q h2),hge.bel,fun b q hq=>hge.dis b q (hsub b q hq),hge.dlt,hge.low⟩
theorem zpw (hc:Con.sound (KN w0) Tryz.prog F0 ⟨f,LF (.p 900 0)::az0,rnS n0 n1 n2 n3 n4 g a0 a1 a2 a3 g2 g3,r0,rnN m0 m1 m2 m3 m4 h⟩) (hs:s.2.2.2=some c) (hs':s'.2.2.2=none) (ha:RnN su F0 s n0 n1 n2 n3 n4 g) (ha':StA F0 c a0 a1 a2 a3 g2 g3) (hb:RnN su F0 s' m0 m1 m2 m3 m4 h)
  (hz:az0.map (Sh.pr F0)=az) (hr:r0.pr F0=res) (hl:az0.all (Sh.low [])=true) (hlr:r0.low []=true):RF w0 f az su s s' res:=by
 intro F _ _ _ _ _ _ _ k0 k1 k2 k3 k4 kg p az' r a b e1 e2 l1 l2
 refine ⟨rfl,fun β W vs hv hp hge=>?_⟩
 refine (hc.2 β W vs (zb4 (e1.trans hz.symm) l1 hl β W vs hv) (opS a hs ha ha' hp) hge).mono ?_
 rintro e W' ⟨v,β',rfl,hB⟩
 have hpost:=zc8 (zdp hb ⟨b.c0,b.c1,b.c2,b.c3,b.c4,b.g0⟩) hB.geo hB.post
 have hsm:∀x,x≠902→x≠903→x≠904→β'.same ⟨fun b=>if b=902∨b=903∨b=904 then none else β' b,β'.len,β'.D⟩ x:=fun x h1 h2 h3=>⟨if_neg (by omega),rfl⟩
 have hpost2:∀x∈rnN k0 k1 k2 k3 k4 kg,x.okB (KN w0) F ⟨fun b=>if b=902∨b=903∨b=904 then none else β' b,β'.len,β'.D⟩ W':=by
  have h901:=hsm 901 (by omega) (by omega) (by omega)
  obtain ⟨g1,g2⟩:=gv_sm h901
  intro x hx
  simp only [List.mem_cons,List.not_mem_nil,or_false] at hx
  rcases hx with rfl | rfl
  ·obtain ⟨q,us,h1,h2,h3,h4⟩:Box (KN w0) F β' 900 108 [.h k0,.h k1,.h k2,.h k3,.gr 901,.h k4,.k (.pointer none)] W':=hpost _ (List.mem_cons_self ..)
   refine ⟨q,us,(hsm 900 (by omega) (by omega) (by omega)).1.trans h1,h2,?_,h4⟩
   match hu:us.toList,h3 with
   | [u0,u1,u2,u3,u4,u5,u6],⟨i0,i1,i2,i3,i4,i5,i6,_⟩=>exact ⟨i0,i1,i2,i3,(show u4=_ from (show u4=gv β' 901 from i4).trans g1.symm),i5,i6,trivial⟩
   | [],h3=>exact h3.elim
   | [_],h3=>exact h3.2.elim
   | [_,_],h3=>exact h3.2.2.elim
   | [_,_,_],h3=>exact h3.2.2.2.elim
   | [_,_,_,_],h3=>exact h3.2.2.2.2.elim
   | [_,_,_,_,_],h3=>exact h3.2.2.2.2.2.elim
   | [_,_,_,_,_,_],h3=>exact h3.2.2.2.2.2.2.elim
   | _::_::_::_::_::_::_::_::_,h3=>exact h3.2.2.2.2.2.2.2.elim
  ·obtain ⟨xs,x1,x2,x3⟩:GL (KN w0) F β' 901 45 11 kg W':=hpost (.gl 901 45 11 kg) (by simp)
   refine ⟨xs,?_,x2,fun q hq=>x3 q (h901.1.symm.trans hq)⟩
   rw [g1,g2];exact x1
 refine ⟨v,⟨fun b=>if b=902∨b=903∨b=904 then none else β' b,β'.len,β'.D⟩,rfl,⟨?_,hB.oth.mono fun q ⟨b,hb,hq⟩=>⟨b,(by simp [names] at hb ⊢;omega),hq⟩,clN (b.o0.trans (by rw [hs'])) (fun b hb=>if_pos (by simpa using hb)) hpost2,fun b hb=>?_,hB.dm,fun q hq=>(hB.dn q hq).imp id (Or.imp id fun ⟨b,h1,h2⟩=>⟨b,(by simp [zk] at h1 ⊢;omega),h2⟩),fun b hb q hq=>?_,forget hB.geo⟩⟩
 ·exact (Sh.pr_iff l2).2 ((Sh.pr_iff (β:=β') l2).1 (zf2 hr hlr e2 l2 β' v W' hB.res))
 ·have hb1:b≠901∧b≠902∧b≠903∧b≠904:=by simpa [zk] using hb
  have hs1:=hB.eqv b (by simp [zk];omega)
  have hs2:=hsm b hb1.2.1 hb1.2.2.1 hb1.2.2.2
  exact ⟨hs2.1.trans hs1.1,hs2.2.trans hs1.2⟩
 ·have hb1:b=901∨b=902∨b=903∨b=904:=by simpa [zk] using hb
  by_cases h9:b=902∨b=903∨b=904
  ·have hq2:(if b=902∨b=903∨b=904 then none else β' b)=some q:=hq
   rw [if_pos h9] at hq2;cases hq2
  ·have hq2:(if b=902∨b=903∨b=904 then none else β' b)=some q:=hq
   rw [if_neg h9] at hq2
   exact hB.mvd b (by simp [zk];omega) q hq2
end
end Go.Proofs.YteimplkdcjapdaaGreatDoor
namespace Go.Proofs.YteimplkdcjapdaaGreatDoor
open Go.RowKit
def pCkR (K:Kit):Pred:=fun v _ _=>K.ck v=true
theorem zk0 {K:Kit}:FineC K (pCkR K):=⟨fun _ _ _ h=>h,fun h=>h⟩
instance {K:Kit}:Fi K (.q (pCkR K)):=⟨by rw [SV.fine];exact zk0⟩
theorem zcJ {K:Kit} {F:Fact} {b id a:Nat} {U:TypeId} {l0 l1 l2 l3 x l5 l6:Lf} (ha:F.c a=pCkR K):Gh.sound K F ⟨id,[.bx b U [l0,l1,l2,l3,x,l5,l6]],[.bx b U [l0,l1,l2,l3,x,l5,l6],.bx b U [l0,l1,l2,l3,.h a,l5,l6]],[]⟩:=by
 intro β st W hg hA
 have hB:=hA _ (List.mem_cons_self ..)
 refine ⟨β,hg,fun _ _=>Loc.same.rfl,fun _ h=>h,fun _ h=>.inl h,fun c hc=>(by cases hc),fun A hAm=>?_⟩
 simp only [List.mem_cons,List.not_mem_nil,or_false] at hAm
 rcases hAm with rfl | rfl
 ·exact hB
 ·obtain ⟨q,us,h1,h2,h3,h4,h5⟩:=hB
  refine ⟨q,us,h1,h2,?_,h4,h5⟩
  have hk:=List.all_eq_true.1 h4
  match hu:us.toList,h3 with
  | [v0,v1,v2,v3,v4,v5,v6],⟨k0,k1,k2,k3,k4,k5,k6,_⟩ =>
   refine ⟨k0,k1,k2,k3,?_,k5,k6,trivial⟩
   show F.c a v4 W β.D
   rw [ha]
   exact hk v4 (by rw [hu];simp)
  | [],h3=>exact h3.elim
  | [_],h3=>exact h3.2.elim
  | [_,_],h3=>exact h3.2.2.elim
  | [_,_,_],h3=>exact h3.2.2.2.elim
  | [_,_,_,_],h3=>exact h3.2.2.2.2.elim
  | [_,_,_,_,_],h3=>exact h3.2.2.2.2.2.elim
  | [_,_,_,_,_,_],h3=>exact h3.2.2.2.2.2.2.elim
  | _::_::_::_::_::_::_::_::_,h3=>exact h3.2.2.2.2.2.2.2.elim
theorem zv {w0:World} (b:Bool) (e:Int) (hb:(b && (e != 0))=false):Fun (KN w0) Tryz.prog 55 [.o (.c (pB b)),.o (.c (pI e))] (.t []):=by
 intro W D vs hv hf
 match vs,hv with
 | [v,u],⟨h1,h2,_⟩ =>
  obtain rfl:v=.bool b:=h1
  obtain rfl:u=.int .i64 e:=h2
  cases b with
  | false =>
   go_enter Tryz.func55,Tryz.ntmps55
   go_wp2
   exact ⟨rfl,.tuple #[],by simp [results,Tryz.results55],_,D,rfl,⟨_,rfl,trivial⟩,Kept.refl hf⟩
  | true =>
   have he:e=0:=by simpa using hb
   subst he
   go_enter Tryz.func55,Tryz.ntmps55
   go_wp2
   exact ⟨rfl,.tuple #[],by simp [results,Tryz.results55],_,D,rfl,⟨_,rfl,trivial⟩,Kept.refl hf⟩
 | [],h=>exact h.elim
 | [_],h=>exact h.2.elim
 | _::_::_::_,h=>exact h.2.2.elim
theorem zh {w0:World} (b:Bool) (e r:Int) (hr:e=r) (hb:(b && (e != 0))=true):BFun true (KN w0) Tryz.prog 55 [.o (.c (.d (pB b))),.o (.c (.d (pI e)))] [] (.o (.c (.d (pV (.iface 37 (.int .i64 r)))))) []:=by
 subst hr
 simp only [Bool.and_eq_true,bne_iff_ne] at hb
 obtain ⟨rfl,he⟩:=hb
 intro W D vs qs hnd ha hpre hfit
 match vs,qs,ha,hpre with
 | [v,u],[],⟨hv,hu,_⟩,_ =>
  obtain rfl:v=.bool true:=hv
  obtain rfl:u=.int .i64 e:=hu
  have hp:∀w:World,(Instr.panic (.iface 37 (.int .i64 e))).run Tryz.prog w=.halt (.panic (.iface 37 (.int .i64 e))) w:=fun w=>rfl
  have hm:∀w:World,(Instr.makeInterface 37 (.int .i64 e)).run Tryz.prog w=.ok (.iface 37 (.int .i64 e)) w:=fun w=>by kernel_rfl
  have he2:(e != 0)=true:=by simpa using he
  have he3:(e == 0)=false:=by simpa using he
  go_enter Tryz.func55,Tryz.ntmps55
  go_wp2
  exact ⟨rfl,_,D,rfl,rfl,trivial,⟨Oth.refl _ _,fun _ h=>h,fun _ h=>.inl h,hfit.dlt⟩⟩
def zhL:Tr:=.s [(9,.bin .neq 3 5 (kI 3))] (.b 16 (.s [(0,.raw [(1000015,.bin .eql 26 (.o (.g [1,2,3])) (.o (.g [9,10,11])) 17)] 1),(0,.gh ⟨2,[.bx 900 108 [.h 0,.h 1,.h 2,.h 3,.gr 901,.h 4,.k (.pointer none)]],[.bx 900 108 [.h 0,.h 1,.h 2,.h 3,.gr 901,.h 4,.k (.pointer none)],.bx 900 108 [.h 0,.h 1,.h 2,.h 3,.h 18,.h 4,.k (.pointer none)]],[]⟩ 1)] (.b 17 (.z (.ret false (.t []) (rnN 0 1 2 3 4 0))) (.s [(0,.raw [(1000024,.dat 45 1 [.h 5,.h 1,.h 2,.h 3,.h 9,.h 10,.h 11,.h 12,.h 13,.h 14,.h 15] 19)] 1),(0,.raw [(1000025,.app 45 11 901 0 1 19 [] false)] 0),(0,.raw [(1000038,.op (.len [36] 3) [LF (.gr 901)] [.gl 901 45 11 1] 20)] 1),(39,.bin .gtr 3 20 (kI 40))] (.b 21 (.s [(0,.raw [(1000040,.pan ⟨55,[21,.o (.c (.k (.int .i64 2)))],[],22,[]⟩)] 1)] (.z .no)) (.s [(40,.call 55 [21,LF (kI 2)] (.t []))] (.z (.ret false (.t []) (rnN 0 9 10 11 4 1)))))))) (.s [(0,.gh ⟨2,[.bx 900 108 [.h 0,.h 1,.h 2,.h 3,.gr 901,.h 4,.k (.pointer none)]],[.bx 900 108 [.h 0,.h 1,.h 2,.h 3,.gr 901,.h 4,.k (.pointer none)],.bx 900 108 [.h 0,.h 1,.h 2,.h 3,.h 17,.h 4,.k (.pointer none)]],[]⟩ 1),(0,.raw [(1000024,.dat 45 1 [.h 5,.h 1,.h 2,.h 3,.h 9,.h 10,.h 11,.h 12,.h 13,.h 14,.h 15] 18)] 1),(0,.raw [(1000025,.app 45 11 901 0 1 18 [] false)] 0),(0,.raw [(1000038,.op (.len [36] 3) [LF (.gr 901)] [.gl 901 45 11 1] 19)] 1),(39,.bin .gtr 3 19 (kI 40))] (.b 20 (.s [(0,.raw [(1000040,.pan ⟨55,[20,.o (.c (.k (.int .i64 2)))],[],21,[]⟩)] 1)] (.z .no)) (.s [(40,.call 55 [20,LF (kI 2)] (.t []))] (.z (.ret false (.t []) (rnN 0 9 10 11 4 1)))))))
theorem zmg {w0:World} (su:(List (List UInt8×Sb))) (pt:Vec) (mv:(List Mov)) (dn:Int) (m:Mov) (hmv:mv.length≤40) (s':Rn) (hr:addS m (pt,mv,dn,none)=.ok s'):FN w0 85 [.o (.g [pI m.1,pI m.2.1.1,pI m.2.1.2.1,pI m.2.1.2.2,pI m.2.2.1.1,pI m.2.2.1.2.1,pI m.2.2.1.2.2,pI m.2.2.2.1.1,pI m.2.2.2.1.2.1,pI m.2.2.2.1.2.2,pI m.2.2.2.2])] su (pt,mv,dn,none) s' (.t []):=by
 refine tfn w0 85 ⟨[LF (.p 900 0),.o (.g [5,6,7,8,9,10,11,12,13,14,15])],(rnN 0 1 2 3 4 0),[],0,0⟩ ⟨16,[sI m.2.2.2.2,sI m.2.2.2.1.2.2,sI m.2.2.2.1.2.1,sI m.2.2.2.1.1,sI m.2.2.1.2.2,sI m.2.2.1.2.1,sI m.2.2.1.1,sI m.2.1.2.2,sI m.2.1.2.1,sI m.2.1.1,sI m.1,sI dn,sI pt.2.2,sI pt.2.1,sI pt.1,.q (pSu su)],[pG cM mv],[]⟩ zhL (by kernel_rfl) ?_
 intro v1 e1
 refine ai (fun h2=>?_) fun h2=>?_
 ·
  obtain ⟨v3,e3⟩:=LX (decide (pt=m.2.2.1))
  refine rx [sB v3] [] [] (fun t u w=>⟨e_eqV (x:=pt) (y:=m.2.2.1) (neg:=false) ⟨(za rfl),(za rfl),(za rfl),trivial⟩ ⟨(za rfl),(za rfl),(za rfl),trivial⟩ (za (by rw [e3];rfl)),trivial⟩) ?_
  refine rx [.q (pCkR (KN w0))] [] [] (fun t u w _=>zcJ rfl) ?_
  refine ai (fun h4=>?_) fun h4=>?_
  ·
   intro hc
   have hq:s'=(pt,mv,dn,none):=by
    (have dh2:=bne_iff_ne.1 (e1.trans h2);have dh4:=LD e3 h4;unfold addS at hr;rw [if_pos ⟨dh2,dh4⟩] at hr;injection hr with hr;rw [← hr])
   rw [hq]
   exact fn_of (su:=su) (s:=(pt,mv,dn,none)) (s':=(pt,mv,dn,none)) (hc) ⟨rfl,rfl,rfl,rfl,rfl,rfl⟩ ⟨rfl,rfl,rfl,rfl,rfl,rfl⟩ rfl rfl rfl rfl
  ·
   obtain ⟨v5,e5⟩:=LX (([(m.1,pt,m.2.2.1,m.2.2.2.1,m.2.2.2.2)]:List Mov))
   refine rx [.ls 11 cM kM v5] [] [] (fun t u w=>⟨e_dat (c:=cM) (l:=([(m.1,pt,m.2.2.1,m.2.2.2.1,m.2.2.2.2)]:List Mov)) (ps:=(pI m.1::pI pt.1::pI pt.2.1::pI pt.2.2::pI m.2.2.1.1::pI m.2.2.1.2.1::pI m.2.2.1.2.2::pI m.2.2.2.1.1::pI m.2.2.2.1.2.1::pI m.2.2.2.1.2.2::pI m.2.2.2.2::[])) (qs:=(pI (m.1,pt,m.2.2.1,m.2.2.2.1,m.2.2.2.2).1::pI (m.1,pt,m.2.2.1,m.2.2.2.1,m.2.2.2.2).2.1.1::pI (m.1,pt,m.2.2.1,m.2.2.2.1,m.2.2.2.2).2.1.2.1::pI (m.1,pt,m.2.2.1,m.2.2.2.1,m.2.2.2.2).2.1.2.2::pI (m.1,pt,m.2.2.1,m.2.2.2.1,m.2.2.2.2).2.2.1.1::pI (m.1,pt,m.2.2.1,m.2.2.2.1,m.2.2.2.2).2.2.1.2.1::pI (m.1,pt,m.2.2.1,m.2.2.2.1,m.2.2.2.2).2.2.1.2.2::pI (m.1,pt,m.2.2.1,m.2.2.2.1,m.2.2.2.2).2.2.2.1.1::pI (m.1,pt,m.2.2.1,m.2.2.2.1,m.2.2.2.2).2.2.2.1.2.1::pI (m.1,pt,m.2.2.1,m.2.2.2.1,m.2.2.2.2).2.2.2.1.2.2::pI (m.1,pt,m.2.2.1,m.2.2.2.1,m.2.2.2.2).2.2.2.2::[])) (by rw [e5];rfl) rfl rfl rfl (pimps (fun _ _ _ h=>h) <| pimps (fun _ _ _ h=>h) <| pimps (fun _ _ _ h=>h) <| pimps (fun _ _ _ h=>h) <| pimps (fun _ _ _ h=>h) <| pimps (fun _ _ _ h=>h) <| pimps (fun _ _ _ h=>h) <| pimps (fun _ _ _ h=>h) <| pimps (fun _ _ _ h=>h) <| pimps (fun _ _ _ h=>h) <| pimps (fun _ _ _ h=>h) <| ze) rfl,trivial⟩) ?_
   obtain ⟨v6,e6⟩:=LX (mv++v5)
   have s7:(mv.length+v5.length)*11≤1099511627776:=by (rw [← e5];simp only [List.length_singleton];omega)
   refine rx [] [pG cM v6] [] (fun t u w=>⟨zV (c:=cM) qK (fun _=>rfl) rfl (by rw [e6];rfl) rfl s7,trivial⟩) ?_
   obtain ⟨v8,e8⟩:=LX ((v6.length:Int))
   refine rx [sI v8] [] [] (fun t u w=>⟨zdV (c:=cM) (by kernel_rfl) (fun _=>rfl) (by decide) rfl (za (by rw [e8];rfl)),trivial⟩) ?_
   intro v9 e9
   refine ai (fun h10=>?_) fun h10=>?_
   ·
    have s11:(v9 && ((2:Int) != 0))=true:=by (rw [h10];rfl)
    refine rx [.v (.iface 37 (.int .i64 (2:Int)))] [] [] (fun t u w=>⟨b_con (pan:=true) (zh v9 (2:Int) (2:Int) rfl s11),trivial⟩) ?_
    exfalso
    (have dh2:=bne_iff_ne.1 (e1.trans h2);have dh4:=LE e3 h4;have dh10:=LD e9 h10;unfold addS at hr;rw [if_neg (fun q=>dh4 q.2)] at hr;have hl:v8=(mv.length:Int)+1:=(by rw [← e8,← e6,← e5];simp);dsimp only at hr;rw [if_pos (by omega)] at hr;cases hr)
   ·
    have s11:(v9 && ((2:Int) != 0))=false:=by (rw [h10];rfl)
    refine cx (.t []) (zv v9 (2:Int) s11) rfl ?_
    intro hc
    have hq:s'=(m.2.2.1,v6,dn,none):=by
     (have dh2:=bne_iff_ne.1 (e1.trans h2);have dh4:=LE e3 h4;have dh10:=LE e9 h10;unfold addS at hr;rw [if_neg (fun q=>dh4 q.2)] at hr;have hl:v8=(mv.length:Int)+1:=(by rw [← e8,← e6,← e5];simp);dsimp only at hr;rw [if_neg (by omega)] at hr;injection hr with hr;rw [← hr,← e6,← e5])
    rw [hq]
    exact fn_of (su:=su) (s:=(pt,mv,dn,none)) (s':=(m.2.2.1,v6,dn,none)) (hc) ⟨rfl,rfl,rfl,rfl,rfl,rfl⟩ ⟨rfl,rfl,rfl,rfl,rfl,rfl⟩ rfl rfl rfl rfl
 ·
  refine rx [.q (pCkR (KN w0))] [] [] (fun t u w _=>zcJ rfl) ?_
  obtain ⟨v3,e3⟩:=LX (([(m.1,pt,m.2.2.1,m.2.2.2.1,m.2.2.2.2)]:List Mov))
  refine rx [.ls 11 cM kM v3] [] [] (fun t u w=>⟨e_dat (c:=cM) (l:=([(m.1,pt,m.2.2.1,m.2.2.2.1,m.2.2.2.2)]:List Mov)) (ps:=(pI m.1::pI pt.1::pI pt.2.1::pI pt.2.2::pI m.2.2.1.1::pI m.2.2.1.2.1::pI m.2.2.1.2.2::pI m.2.2.2.1.1::pI m.2.2.2.1.2.1::pI m.2.2.2.1.2.2::pI m.2.2.2.2::[])) (qs:=(pI (m.1,pt,m.2.2.1,m.2.2.2.1,m.2.2.2.2).1::pI (m.1,pt,m.2.2.1,m.2.2.2.1,m.2.2.2.2).2.1.1::pI (m.1,pt,m.2.2.1,m.2.2.2.1,m.2.2.2.2).2.1.2.1::pI (m.1,pt,m.2.2.1,m.2.2.2.1,m.2.2.2.2).2.1.2.2::pI (m.1,pt,m.2.2.1,m.2.2.2.1,m.2.2.2.2).2.2.1.1::pI (m.1,pt,m.2.2.1,m.2.2.2.1,m.2.2.2.2).2.2.1.2.1::pI (m.1,pt,m.2.2.1,m.2.2.2.1,m.2.2.2.2).2.2.1.2.2::pI (m.1,pt,m.2.2.1,m.2.2.2.1,m.2.2.2.2).2.2.2.1.1::pI (m.1,pt,m.2.2.1,m.2.2.2.1,m.2.2.2.2).2.2.2.1.2.1::pI (m.1,pt,m.2.2.1,m.2.2.2.1,m.2.2.2.2).2.2.2.1.2.2::pI (m.1,pt,m.2.2.1,m.2.2.2.1,m.2.2.2.2).2.2.2.2::[])) (by rw [e3];rfl) rfl rfl rfl (pimps (fun _ _ _ h=>h) <| pimps (fun _ _ _ h=>h) <| pimps (fun _ _ _ h=>h) <| pimps (fun _ _ _ h=>h) <| pimps (fun _ _ _ h=>h) <| pimps (fun _ _ _ h=>h) <| pimps (fun _ _ _ h=>h) <| pimps (fun _ _ _ h=>h) <| pimps (fun _ _ _ h=>h) <| pimps (fun _ _ _ h=>h) <| pimps (fun _ _ _ h=>h) <| ze) rfl,trivial⟩) ?_
  obtain ⟨v4,e4⟩:=LX (mv++v3)
  have s5:(mv.length+v3.length)*11≤1099511627776:=by (rw [← e3];simp only [List.length_singleton];omega)
  refine rx [] [pG cM v4] [] (fun t u w=>⟨zV (c:=cM) qK (fun _=>rfl) rfl (by rw [e4];rfl) rfl s5,trivial⟩) ?_
  obtain ⟨v6,e6⟩:=LX ((v4.length:Int))
  refine rx [sI v6] [] [] (fun t u w=>⟨zdV (c:=cM) (by kernel_rfl) (fun _=>rfl) (by decide) rfl (za (by rw [e6];rfl)),trivial⟩) ?_
  intro v7 e7
  refine ai (fun h8=>?_) fun h8=>?_
  ·
   have s9:(v7 && ((2:Int) != 0))=true:=by (rw [h8];rfl)
   refine rx [.v (.iface 37 (.int .i64 (2:Int)))] [] [] (fun t u w=>⟨b_con (pan:=true) (zh v7 (2:Int) (2:Int) rfl s9),trivial⟩) ?_
   exfalso
   (have dh2:=bne_eq_false_iff_eq.1 (e1.trans h2);have dh8:=LD e7 h8;unfold addS at hr;rw [if_neg (fun q=>q.1 dh2)] at hr;have hl:v6=(mv.length:Int)+1:=(by rw [← e6,← e4,← e3];simp);dsimp only at hr;rw [if_pos (by omega)] at hr;cases hr)
  ·
   have s9:(v7 && ((2:Int) != 0))=false:=by (rw [h8];rfl)
   refine cx (.t []) (zv v7 (2:Int) s9) rfl ?_
   intro hc
   have hq:s'=(m.2.2.1,v4,dn,none):=by
    (have dh2:=bne_eq_false_iff_eq.1 (e1.trans h2);have dh8:=LE e7 h8;unfold addS at hr;rw [if_neg (fun q=>q.1 dh2)] at hr;have hl:v6=(mv.length:Int)+1:=(by rw [← e6,← e4,← e3];simp);dsimp only at hr;rw [if_neg (by omega)] at hr;injection hr with hr;rw [← hr,← e4,← e3])
   rw [hq]
   exact fn_of (su:=su) (s:=(pt,mv,dn,none)) (s':=(m.2.2.1,v4,dn,none)) (hc) ⟨rfl,rfl,rfl,rfl,rfl,rfl⟩ ⟨rfl,rfl,rfl,rfl,rfl,rfl⟩ rfl rfl rfl rfl
def zgf:Tr:=.s [(9,.bin .neq 3 5 (kI 3))] (.b 16 (.s [(0,.raw [(1000015,.bin .eql 26 (.o (.g [1,2,3])) (.o (.g [9,10,11])) 17)] 1),(0,.gh ⟨2,[.bx 900 108 [.h 0,.h 1,.h 2,.h 3,.gr 901,.h 4,.k (.pointer none)]],[.bx 900 108 [.h 0,.h 1,.h 2,.h 3,.gr 901,.h 4,.k (.pointer none)],.bx 900 108 [.h 0,.h 1,.h 2,.h 3,.h 18,.h 4,.k (.pointer none)]],[]⟩ 1)] (.b 17 (.z .no) (.s [(0,.raw [(1000024,.dat 45 1 [.h 5,.h 1,.h 2,.h 3,.h 9,.h 10,.h 11,.h 12,.h 13,.h 14,.h 15] 19)] 1),(0,.raw [(1000025,.app 45 11 901 0 1 19 [] false)] 0),(0,.raw [(1000038,.op (.len [36] 3) [LF (.gr 901)] [.gl 901 45 11 1] 20)] 1),(39,.bin .gtr 3 20 (kI 40))] (.b 21 (.s [(0,.raw [(1000040,.pan ⟨55,[21,.o (.c (.k (.int .i64 2)))],[],22,[]⟩)] 1)] (.z (.ret true (22) []))) (.s [(40,.call 55 [21,LF (kI 2)] (.t []))] (.z .no)))))) (.s [(0,.gh ⟨2,[.bx 900 108 [.h 0,.h 1,.h 2,.h 3,.gr 901,.h 4,.k (.pointer none)]],[.bx 900 108 [.h 0,.h 1,.h 2,.h 3,.gr 901,.h 4,.k (.pointer none)],.bx 900 108 [.h 0,.h 1,.h 2,.h 3,.h 17,.h 4,.k (.pointer none)]],[]⟩ 1),(0,.raw [(1000024,.dat 45 1 [.h 5,.h 1,.h 2,.h 3,.h 9,.h 10,.h 11,.h 12,.h 13,.h 14,.h 15] 18)] 1),(0,.raw [(1000025,.app 45 11 901 0 1 18 [] false)] 0),(0,.raw [(1000038,.op (.len [36] 3) [LF (.gr 901)] [.gl 901 45 11 1] 19)] 1),(39,.bin .gtr 3 19 (kI 40))] (.b 20 (.s [(0,.raw [(1000040,.pan ⟨55,[20,.o (.c (.k (.int .i64 2)))],[],21,[]⟩)] 1)] (.z (.ret true (21) []))) (.s [(40,.call 55 [20,LF (kI 2)] (.t []))] (.z .no)))))
theorem zjN {w0:World} (su:(List (List UInt8×Sb))) (pt:Vec) (mv:(List Mov)) (dn:Int) (m:Mov) (hmv:mv.length≤40) (k:Int) (hr:addS m (pt,mv,dn,none)=.error k):PN w0 85 [.o (.g [pI m.1,pI m.2.1.1,pI m.2.1.2.1,pI m.2.1.2.2,pI m.2.2.1.1,pI m.2.2.1.2.1,pI m.2.2.1.2.2,pI m.2.2.2.1.1,pI m.2.2.2.1.2.1,pI m.2.2.2.1.2.2,pI m.2.2.2.2])] su (pt,mv,dn,none) k:=by
 refine tfn w0 85 ⟨[LF (.p 900 0),.o (.g [5,6,7,8,9,10,11,12,13,14,15])],(rnN 0 1 2 3 4 0),[],0,0⟩ ⟨16,[sI m.2.2.2.2,sI m.2.2.2.1.2.2,sI m.2.2.2.1.2.1,sI m.2.2.2.1.1,sI m.2.2.1.2.2,sI m.2.2.1.2.1,sI m.2.2.1.1,sI m.2.1.2.2,sI m.2.1.2.1,sI m.2.1.1,sI m.1,sI dn,sI pt.2.2,sI pt.2.1,sI pt.1,.q (pSu su)],[pG cM mv],[]⟩ zgf (by kernel_rfl) ?_
 intro v1 e1
 refine ai (fun h2=>?_) fun h2=>?_
 ·
  obtain ⟨v3,e3⟩:=LX (decide (pt=m.2.2.1))
  refine rx [sB v3] [] [] (fun t u w=>⟨e_eqV (x:=pt) (y:=m.2.2.1) (neg:=false) ⟨(za rfl),(za rfl),(za rfl),trivial⟩ ⟨(za rfl),(za rfl),(za rfl),trivial⟩ (za (by rw [e3];rfl)),trivial⟩) ?_
  refine rx [.q (pCkR (KN w0))] [] [] (fun t u w _=>zcJ rfl) ?_
  refine ai (fun h4=>?_) fun h4=>?_
  ·
   exfalso
   (have dh2:=bne_iff_ne.1 (e1.trans h2);have dh4:=LD e3 h4;unfold addS at hr;rw [if_pos ⟨dh2,dh4⟩] at hr;cases hr)
  ·
   obtain ⟨v5,e5⟩:=LX (([(m.1,pt,m.2.2.1,m.2.2.2.1,m.2.2.2.2)]:List Mov))
   refine rx [.ls 11 cM kM v5] [] [] (fun t u w=>⟨e_dat (c:=cM) (l:=([(m.1,pt,m.2.2.1,m.2.2.2.1,m.2.2.2.2)]:List Mov)) (ps:=(pI m.1::pI pt.1::pI pt.2.1::pI pt.2.2::pI m.2.2.1.1::pI m.2.2.1.2.1::pI m.2.2.1.2.2::pI m.2.2.2.1.1::pI m.2.2.2.1.2.1::pI m.2.2.2.1.2.2::pI m.2.2.2.2::[])) (qs:=(pI (m.1,pt,m.2.2.1,m.2.2.2.1,m.2.2.2.2).1::pI (m.1,pt,m.2.2.1,m.2.2.2.1,m.2.2.2.2).2.1.1::pI (m.1,pt,m.2.2.1,m.2.2.2.1,m.2.2.2.2).2.1.2.1::pI (m.1,pt,m.2.2.1,m.2.2.2.1,m.2.2.2.2).2.1.2.2::pI (m.1,pt,m.2.2.1,m.2.2.2.1,m.2.2.2.2).2.2.1.1::pI (m.1,pt,m.2.2.1,m.2.2.2.1,m.2.2.2.2).2.2.1.2.1::pI (m.1,pt,m.2.2.1,m.2.2.2.1,m.2.2.2.2).2.2.1.2.2::pI (m.1,pt,m.2.2.1,m.2.2.2.1,m.2.2.2.2).2.2.2.1.1::pI (m.1,pt,m.2.2.1,m.2.2.2.1,m.2.2.2.2).2.2.2.1.2.1::pI (m.1,pt,m.2.2.1,m.2.2.2.1,m.2.2.2.2).2.2.2.1.2.2::pI (m.1,pt,m.2.2.1,m.2.2.2.1,m.2.2.2.2).2.2.2.2::[])) (by rw [e5];rfl) rfl rfl rfl (pimps (fun _ _ _ h=>h) <| pimps (fun _ _ _ h=>h) <| pimps (fun _ _ _ h=>h) <| pimps (fun _ _ _ h=>h) <| pimps (fun _ _ _ h=>h) <| pimps (fun _ _ _ h=>h) <| pimps (fun _ _ _ h=>h) <| pimps (fun _ _ _ h=>h) <| pimps (fun _ _ _ h=>h) <| pimps (fun _ _ _ h=>h) <| pimps (fun _ _ _ h=>h) <| ze) rfl,trivial⟩) ?_
   obtain ⟨v6,e6⟩:=LX (mv++v5)
   have s7:(mv.length+v5.length)*11≤1099511627776:=by (rw [← e5];simp only [List.length_singleton];omega)
   refine rx [] [pG cM v6] [] (fun t u w=>⟨zV (c:=cM) qK (fun _=>rfl) rfl (by rw [e6];rfl) rfl s7,trivial⟩) ?_
   obtain ⟨v8,e8⟩:=LX ((v6.length:Int))
   refine rx [sI v8] [] [] (fun t u w=>⟨zdV (c:=cM) (by kernel_rfl) (fun _=>rfl) (by decide) rfl (za (by rw [e8];rfl)),trivial⟩) ?_
   intro v9 e9
   refine ai (fun h10=>?_) fun h10=>?_
   ·
    have s11:(v9 && ((2:Int) != 0))=true:=by (rw [h10];rfl)
    refine rx [.v (.iface 37 (.int .i64 (2:Int)))] [] [] (fun t u w=>⟨b_con (pan:=true) (zh v9 (2:Int) (2:Int) rfl s11),trivial⟩) ?_
    intro hc
    have hq:k=(2:Int):=by
     (have dh2:=bne_iff_ne.1 (e1.trans h2);have dh4:=LE e3 h4;have dh10:=LD e9 h10;unfold addS at hr;rw [if_neg (fun q=>dh4 q.2)] at hr;have hl:v8=(mv.length:Int)+1:=(by rw [← e8,← e6,← e5];simp);dsimp only at hr;rw [if_pos (by omega)] at hr;injection hr with hr;exact hr.symm)
    rw [hq]
    exact pn_of (su:=su) (s:=(pt,mv,dn,none)) (hc) ⟨rfl,rfl,rfl,rfl,rfl,rfl⟩ rfl rfl rfl
   ·
    have s11:(v9 && ((2:Int) != 0))=false:=by (rw [h10];rfl)
    refine cx (.t []) (zv v9 (2:Int) s11) rfl ?_
    exfalso
    (have dh2:=bne_iff_ne.1 (e1.trans h2);have dh4:=LE e3 h4;have dh10:=LE e9 h10;unfold addS at hr;rw [if_neg (fun q=>dh4 q.2)] at hr;have hl:v8=(mv.length:Int)+1:=(by rw [← e8,← e6,← e5];simp);dsimp only at hr;rw [if_neg (by omega)] at hr;cases hr)
 ·
  refine rx [.q (pCkR (KN w0))] [] [] (fun t u w _=>zcJ rfl) ?_
  obtain ⟨v3,e3⟩:=LX (([(m.1,pt,m.2.2.1,m.2.2.2.1,m.2.2.2.2)]:List Mov))
  refine rx [.ls 11 cM kM v3] [] [] (fun t u w=>⟨e_dat (c:=cM) (l:=([(m.1,pt,m.2.2.1,m.2.2.2.1,m.2.2.2.2)]:List Mov)) (ps:=(pI m.1::pI pt.1::pI pt.2.1::pI pt.2.2::pI m.2.2.1.1::pI m.2.2.1.2.1::pI m.2.2.1.2.2::pI m.2.2.2.1.1::pI m.2.2.2.1.2.1::pI m.2.2.2.1.2.2::pI m.2.2.2.2::[])) (qs:=(pI (m.1,pt,m.2.2.1,m.2.2.2.1,m.2.2.2.2).1::pI (m.1,pt,m.2.2.1,m.2.2.2.1,m.2.2.2.2).2.1.1::pI (m.1,pt,m.2.2.1,m.2.2.2.1,m.2.2.2.2).2.1.2.1::pI (m.1,pt,m.2.2.1,m.2.2.2.1,m.2.2.2.2).2.1.2.2::pI (m.1,pt,m.2.2.1,m.2.2.2.1,m.2.2.2.2).2.2.1.1::pI (m.1,pt,m.2.2.1,m.2.2.2.1,m.2.2.2.2).2.2.1.2.1::pI (m.1,pt,m.2.2.1,m.2.2.2.1,m.2.2.2.2).2.2.1.2.2::pI (m.1,pt,m.2.2.1,m.2.2.2.1,m.2.2.2.2).2.2.2.1.1::pI (m.1,pt,m.2.2.1,m.2.2.2.1,m.2.2.2.2).2.2.2.1.2.1::pI (m.1,pt,m.2.2.1,m.2.2.2.1,m.2.2.2.2).2.2.2.1.2.2::pI (m.1,pt,m.2.2.1,m.2.2.2.1,m.2.2.2.2).2.2.2.2::[])) (by rw [e3];rfl) rfl rfl rfl (pimps (fun _ _ _ h=>h) <| pimps (fun _ _ _ h=>h) <| pimps (fun _ _ _ h=>h) <| pimps (fun _ _ _ h=>h) <| pimps (fun _ _ _ h=>h) <| pimps (fun _ _ _ h=>h) <| pimps (fun _ _ _ h=>h) <| pimps (fun _ _ _ h=>h) <| pimps (fun _ _ _ h=>h) <| pimps (fun _ _ _ h=>h) <| pimps (fun _ _ _ h=>h) <| ze) rfl,trivial⟩) ?_
  obtain ⟨v4,e4⟩:=LX (mv++v3)
  have s5:(mv.length+v3.length)*11≤1099511627776:=by (rw [← e3];simp only [List.length_singleton];omega)
  refine rx [] [pG cM v4] [] (fun t u w=>⟨zV (c:=cM) qK (fun _=>rfl) rfl (by rw [e4];rfl) rfl s5,trivial⟩) ?_
  obtain ⟨v6,e6⟩:=LX ((v4.length:Int))
  refine rx [sI v6] [] [] (fun t u w=>⟨zdV (c:=cM) (by kernel_rfl) (fun _=>rfl) (by decide) rfl (za (by rw [e6];rfl)),trivial⟩) ?_
  intro v7 e7
  refine ai (fun h8=>?_) fun h8=>?_
  ·
   have s9:(v7 && ((2:Int) != 0))=true:=by (rw [h8];rfl)
   refine rx [.v (.iface 37 (.int .i64 (2:Int)))] [] [] (fun t u w=>⟨b_con (pan:=true) (zh v7 (2:Int) (2:Int) rfl s9),trivial⟩) ?_
   intro hc
   have hq:k=(2:Int):=by
    (have dh2:=bne_eq_false_iff_eq.1 (e1.trans h2);have dh8:=LD e7 h8;unfold addS at hr;rw [if_neg (fun q=>q.1 dh2)] at hr;have hl:v6=(mv.length:Int)+1:=(by rw [← e6,← e4,← e3];simp);dsimp only at hr;rw [if_pos (by omega)] at hr;injection hr with hr;exact hr.symm)
   rw [hq]
   exact pn_of (su:=su) (s:=(pt,mv,dn,none)) (hc) ⟨rfl,rfl,rfl,rfl,rfl,rfl⟩ rfl rfl rfl
  ·
   have s9:(v7 && ((2:Int) != 0))=false:=by (rw [h8];rfl)
   refine cx (.t []) (zv v7 (2:Int) s9) rfl ?_
   exfalso
   (have dh2:=bne_eq_false_iff_eq.1 (e1.trans h2);have dh8:=LE e7 h8;unfold addS at hr;rw [if_neg (fun q=>q.1 dh2)] at hr;have hl:v6=(mv.length:Int)+1:=(by rw [← e6,← e4,← e3];simp);dsimp only at hr;rw [if_neg (by omega)] at hr;cases hr)
theorem q9 {w0:World} (su:List (List UInt8×Sb)) (m:Mov) (s s':Rn) (hs:s.2.2.2=none) (hmv:s.2.1.length≤40) (h:addS m s=.ok s'):FN w0 85 [.o (.g [pI m.1,pI m.2.1.1,pI m.2.1.2.1,pI m.2.1.2.2,pI m.2.2.1.1,pI m.2.2.1.2.1,pI m.2.2.1.2.2,pI m.2.2.2.1.1,pI m.2.2.2.1.2.1,pI m.2.2.2.1.2.2,pI m.2.2.2.2])] su s s' (.t []):=by
 obtain ⟨pt,mv,dn,c⟩:=s
 obtain rfl:c=none:=hs
 exact zmg su pt mv dn m hmv s' h
theorem qH {w0:World} (su:List (List UInt8×Sb)) (m:Mov) (s:Rn) (k:Int) (hs:s.2.2.2=none) (hmv:s.2.1.length≤40) (h:addS m s=.error k):PN w0 85 [.o (.g [pI m.1,pI m.2.1.1,pI m.2.1.2.1,pI m.2.1.2.2,pI m.2.2.1.1,pI m.2.2.1.2.1,pI m.2.2.1.2.2,pI m.2.2.2.1.1,pI m.2.2.2.1.2.1,pI m.2.2.2.1.2.2,pI m.2.2.2.2])] su s k:=by
 obtain ⟨pt,mv,dn,c⟩:=s
 obtain rfl:c=none:=hs
 exact zjN su pt mv dn m hmv k h
theorem ziK {K:Kit} {F:Fact} {b id a a':Nat} {U:TypeId} {l0 l1 l2 l3 x y:Lf} (ha:F.c a=pCkR K) (ha':F.c a'=pCkR K):Gh.sound K F ⟨id,[.bx b U [l0,l1,l2,l3,x,y]],[.bx b U [l0,l1,l2,l3,x,y],.bx b U [l0,l1,l2,l3,.h a,y],.bx b U [l0,l1,l2,l3,x,.h a'],.bx b U [l0,l1,l2,l3,.h a,.h a']],[]⟩:=by
 intro β st W hg hA
 have hB:=hA _ (List.mem_cons_self ..)
 refine ⟨β,hg,fun _ _=>Loc.same.rfl,fun _ h=>h,fun _ h=>.inl h,fun c hc=>(by cases hc),fun A hAm=>?_⟩
 have hB2:=hB
 obtain ⟨q,us,h1,h2,h3,h4,h5⟩:=hB2
 have hk:=List.all_eq_true.1 h4
 simp only [List.mem_cons,List.not_mem_nil,or_false] at hAm
 match hu:us.toList,h3 with
 | [v0,v1,v2,v3,v4,v5],⟨k0,k1,k2,k3,k4,k5,_⟩ =>
  have c4:F.c a v4 W β.D:=by rw [ha];exact hk v4 (by rw [hu];simp)
  have c5:F.c a' v5 W β.D:=by rw [ha'];exact hk v5 (by rw [hu];simp)
  rcases hAm with rfl | rfl | rfl | rfl
  ·exact hB
  ·exact ⟨q,us,h1,h2,by rw [hu];exact ⟨k0,k1,k2,k3,c4,k5,trivial⟩,h4,h5⟩
  ·exact ⟨q,us,h1,h2,by rw [hu];exact ⟨k0,k1,k2,k3,k4,c5,trivial⟩,h4,h5⟩
  ·exact ⟨q,us,h1,h2,by rw [hu];exact ⟨k0,k1,k2,k3,c4,c5,trivial⟩,h4,h5⟩
 | [],h3=>exact h3.elim
 | [_],h3=>exact h3.2.elim
 | [_,_],h3=>exact h3.2.2.elim
 | [_,_,_],h3=>exact h3.2.2.2.elim
 | [_,_,_,_],h3=>exact h3.2.2.2.2.elim
 | [_,_,_,_,_],h3=>exact h3.2.2.2.2.2.elim
 | _::_::_::_::_::_::_::_,h3=>exact h3.2.2.2.2.2.2.elim
theorem zZ {l:List Int} {k:Nat} (h:k<l.length):l[k]?=some (l.getD k 0):=by rw [List.getElem?_eq_getElem h,List.getD_eq_getElem?_getD,List.getElem?_eq_getElem h];rfl
theorem zp {l:List Int} {k n:Nat} {x:Int} (h:l[n]?=some x) (hk:(k:Int)=(n:Int)):l.getD k 0=x:=by
 have:k=n:=by omega
 subst this
 rw [List.getD_eq_getElem?_getD,h];rfl
theorem qd {m:Mov} {s s':Rn} (h:addS m s=.ok s'):s'.2.2.2=s.2.2.2:=by
 unfold addS at h
 split at h
 ·injection h with h;rw [h]
 ·split at h
  ·cases h
  ·injection h with h;rw [← h]
theorem zem {m:Mov} {s s':Rn} (h:addS m s=.ok s') (hl:s.2.1.length≤40):s'.2.1.length≤40:=by
 unfold addS at h
 split at h
 ·injection h with h;rw [← h];exact hl
 ·split at h
  ·cases h
  ·injection h with h;rw [← h];simp;omega
theorem zdq {s:Rn} (h:s.2.2.2=none):s=(s.1,s.2.1,s.2.2.1,none):=by
 obtain ⟨a,b,c,d⟩:=s
 obtain rfl:d=none:=h
 rfl
def zrh:Tr:=.s [(2,.ia 24 3 1 0 (kI 0)),(3,.ld 3 0 1),(5,.ia 24 3 1 0 (kI 1)),(6,.ld 3 0 3),(8,.ia 24 3 1 0 (kI 2)),(9,.ld 3 0 5)] (.z (.ret false (.o (.g [2,4,6])) []))
theorem t_vec {w0:World} (l:List Int) (r:Vec) (hr:vecOf l 0=r) (hl:3≤l.length):Fun (KN w0) Tryz.prog 134 [.o (.c (pLs cI l))] (.o (.g [pI r.1,pI r.2.1,pI r.2.2])):=by
 refine tfn w0 134 ⟨[0],[],[],0,0⟩ ⟨1,[.ls 1 cI kIc l],[],[]⟩ zrh (by kernel_rfl) ?_
 refine ai (by exact ⟨0,l.getD 0 0,rfl,zZ (by omega)⟩) fun n1 x2 s3 s4=>?_
 refine ai (by exact ⟨1,l.getD 1 0,rfl,zZ (by omega)⟩) fun n5 x6 s7 s8=>?_
 refine ai (by exact ⟨2,l.getD 2 0,rfl,zZ (by omega)⟩) fun n9 x10 s11 s12=>?_
 intro hc
 refine Fun.fin (r:=.o (.g [pI x2,pI x6,pI x10])) (zc (hc)) (fun v W D h=>?_)
 have r0:r=(x2,x6,x10):=by
  rw [← hr];unfold vecOf;rw [zp (k:=0) s4 s3,zp (k:=1) s8 s7,zp (k:=2) s12 s11]
 rw [r0];exact h
def zff:Tr:=.s [(0,.raw [(1000005,.bin .neq 106 (LF (.k (.pointer none))) (LF (.k (.pointer none))) (LF (.k (.bool false))))] 0),(6,.call 55 [LF (kB false),LF (kI 17)] (.t [])),(8,.call 134 [9] (.o (.g 3))),(9,.call 34 [.o (.g [10,11,12])] (.o .c)),(10,.un .not 13)] (.b 14 (.s [(0,.raw [(1000011,.pan ⟨55,[14,.o (.c (.k (.int .i64 3)))],[],15,[]⟩)] 1)] (.z .no)) (.s [(11,.call 55 [14,LF (kI 3)] (.t [])),(14,.call 134 [9] (.o (.g 3)))] (.r (.s [(0,.raw [(1000016,.call ⟨85,[LF (.p 900 0),.o (.g [.k (.int .i64 1),.k (.int .i64 0),.k (.int .i64 0),.k (.int .i64 0),15,16,17,.k (.int .i64 0),.k (.int .i64 0),.k (.int .i64 0),.k (.int .i64 0)])],rnN 0 1 2 3 4 0,.t [],rnN 0 18 19 20 21 1⟩)] 4)] (.z (.ret false (.t []) (rnN 0 18 19 20 21 1)))) (.s [(0,.raw [(1000016,.pan ⟨85,[LF (.p 900 0),.o (.g [.k (.int .i64 1),.k (.int .i64 0),.k (.int .i64 0),.k (.int .i64 0),15,16,17,.k (.int .i64 0),.k (.int .i64 0),.k (.int .i64 0),.k (.int .i64 0)])],rnN 0 1 2 3 4 0,18,[]⟩)] 1)] (.z .no)))))
theorem zhZ {w0:World} (su:(List (List UInt8×Sb))) (pt:Vec) (mv:(List Mov)) (dn:Int) (x:Stm) (l:(List Int)) (hmv:mv.length≤40) (hl:3≤l.length) (s':Rn) (hr:zJ l (pt,mv,dn,none)=.ok s'):FN w0 109 [.o (.g [pI x.1,pI x.2.1,pS x.2.2.1,pLs cE x.2.2.2]),.o (.c (pLs cI l))] su (pt,mv,dn,none) s' (.t []):=by
 refine tfn w0 109 ⟨[LF (.p 900 0),.o (.g [5,6,7,8]),9],(rnN 0 1 2 3 4 0),[],0,0⟩ ⟨10,[.ls 1 cI kIc l,.ls 3 cE kE x.2.2.2,sS x.2.2.1,sI x.2.1,sI x.1,sI dn,sI pt.2.2,sI pt.2.1,sI pt.1,.q (pSu su)],[pG cM mv],[]⟩ zff (by kernel_rfl) ?_
 refine rx [] [] [] (fun t u w=>⟨zaZ (by kernel_rfl),trivial⟩) ?_
 have s1:(false && ((17:Int) != 0))=false:=by rfl
 refine cx (.t []) (zv false (17:Int) s1) rfl ?_
 obtain ⟨v2,e2⟩:=LX (vecOf l 0)
 have s3:3≤l.length:=by omega
 refine cx (.o (.g [sI v2.1,sI v2.2.1,sI v2.2.2])) (t_vec l v2 e2 s3) rfl ?_
 obtain ⟨v4,e4⟩:=LX (inV v2)
 refine cx (.o (.c (sB v4))) (t_in v2 v4 e4) rfl ?_
 intro v5 e5
 refine ai (fun h6=>?_) fun h6=>?_
 ·
  have s7:(v5 && ((3:Int) != 0))=true:=by (rw [h6];rfl)
  refine rx [.v (.iface 37 (.int .i64 (3:Int)))] [] [] (fun t u w=>⟨b_con (pan:=true) (zh v5 (3:Int) (3:Int) rfl s7),trivial⟩) ?_
  exfalso
  (unfold zJ at hr;have hv:inV (vecOf l 0)=false:=(by rw [e2,e4];simpa using e5.trans h6);rw [if_neg (by simp)] at hr;rw [hv] at hr;rw [if_neg (by simp)] at hr;cases hr)
 ·
  have s7:(v5 && ((3:Int) != 0))=false:=by (rw [h6];rfl)
  refine cx (.t []) (zv v5 (3:Int) s7) rfl ?_
  obtain ⟨v8,e8⟩:=LX (vecOf l 0)
  have s9:3≤l.length:=by omega
  refine cx (.o (.g [sI v8.1,sI v8.2.1,sI v8.2.2])) (t_vec l v8 e8 s9) rfl ?_
  have s10:mv.length≤40:=by omega
  cases h11:isOk (addS ((1:Int),((0:Int),(0:Int),(0:Int)),v8,((0:Int),(0:Int),(0:Int)),(0:Int)) (pt,mv,dn,none)) with
  | true =>
   refine Or.inl ?_
   obtain ⟨v12,e12⟩:=LX (okOf (addS ((1:Int),((0:Int),(0:Int),(0:Int)),v8,((0:Int),(0:Int),(0:Int)),(0:Int)) (pt,mv,dn,none)))
   refine rx [sI v12.1.1,sI v12.1.2.1,sI v12.1.2.2,sI v12.2.2.1] [pG cM v12.2.1] [] (fun t u w=>⟨q9 su ((1:Int),((0:Int),(0:Int),(0:Int)),v8,((0:Int),(0:Int),(0:Int)),(0:Int)) (pt,mv,dn,none) v12 rfl s10 (ok_of h11 e12) ⟨rfl,rfl,rfl,rfl,rfl,rfl⟩ ⟨rfl,rfl,rfl,rfl,rfl,rfl⟩ rfl rfl rfl rfl,trivial⟩) ?_
   intro hc
   have hq:s'=(v12.1,v12.2.1,v12.2.2.1,none):=by
    (unfold zJ at hr;have hv:inV (vecOf l 0)=true:=(by rw [e2,e4];simpa using e5.trans h6);rw [if_neg (by simp)] at hr;rw [hv] at hr;rw [if_pos rfl] at hr;rw [e8] at hr;rw [ok_of h11 e12] at hr;injection hr with hr;rw [← hr];exact zdq (qd (ok_of h11 e12)))
   rw [hq]
   exact fn_of (su:=su) (s:=(pt,mv,dn,none)) (s':=(v12.1,v12.2.1,v12.2.2.1,none)) (hc) ⟨rfl,rfl,rfl,rfl,rfl,rfl⟩ ⟨rfl,rfl,rfl,rfl,rfl,rfl⟩ rfl rfl rfl rfl
  | false =>
   refine Or.inr ?_
   obtain ⟨v12,e12⟩:=LX (errOf (addS ((1:Int),((0:Int),(0:Int),(0:Int)),v8,((0:Int),(0:Int),(0:Int)),(0:Int)) (pt,mv,dn,none)))
   refine rx [.v (.iface 37 (.int .i64 v12))] [] [] (fun t u w=>⟨qH su ((1:Int),((0:Int),(0:Int),(0:Int)),v8,((0:Int),(0:Int),(0:Int)),(0:Int)) (pt,mv,dn,none) v12 rfl s10 (zn h11 e12) ⟨rfl,rfl,rfl,rfl,rfl,rfl⟩ rfl rfl rfl,trivial⟩) ?_
   exfalso
   (unfold zJ at hr;have hv:inV (vecOf l 0)=true:=(by rw [e2,e4];simpa using e5.trans h6);rw [if_neg (by simp)] at hr;rw [hv] at hr;rw [if_pos rfl] at hr;rw [e8] at hr;rw [zn h11 e12] at hr;cases hr)
def zdL:Tr:=.s [(0,.raw [(1000005,.bin .neq 106 (LF (.k (.pointer none))) (LF (.k (.pointer none))) (LF (.k (.bool false))))] 0),(6,.call 55 [LF (kB false),LF (kI 17)] (.t [])),(8,.call 134 [9] (.o (.g 3))),(9,.call 34 [.o (.g [10,11,12])] (.o .c)),(10,.un .not 13)] (.b 14 (.s [(0,.raw [(1000011,.pan ⟨55,[14,.o (.c (.k (.int .i64 3)))],[],15,[]⟩)] 1)] (.z (.ret true (15) []))) (.s [(11,.call 55 [14,LF (kI 3)] (.t [])),(14,.call 134 [9] (.o (.g 3)))] (.r (.s [(0,.raw [(1000016,.call ⟨85,[LF (.p 900 0),.o (.g [.k (.int .i64 1),.k (.int .i64 0),.k (.int .i64 0),.k (.int .i64 0),15,16,17,.k (.int .i64 0),.k (.int .i64 0),.k (.int .i64 0),.k (.int .i64 0)])],rnN 0 1 2 3 4 0,.t [],rnN 0 18 19 20 21 1⟩)] 4)] (.z .no)) (.s [(0,.raw [(1000016,.pan ⟨85,[LF (.p 900 0),.o (.g [.k (.int .i64 1),.k (.int .i64 0),.k (.int .i64 0),.k (.int .i64 0),15,16,17,.k (.int .i64 0),.k (.int .i64 0),.k (.int .i64 0),.k (.int .i64 0)])],rnN 0 1 2 3 4 0,18,[]⟩)] 1)] (.z (.ret true (18) []))))))
theorem zgu {w0:World} (su:(List (List UInt8×Sb))) (pt:Vec) (mv:(List Mov)) (dn:Int) (x:Stm) (l:(List Int)) (hmv:mv.length≤40) (hl:3≤l.length) (k:Int) (hr:zJ l (pt,mv,dn,none)=.error k):PN w0 109 [.o (.g [pI x.1,pI x.2.1,pS x.2.2.1,pLs cE x.2.2.2]),.o (.c (pLs cI l))] su (pt,mv,dn,none) k:=by
 refine tfn w0 109 ⟨[LF (.p 900 0),.o (.g [5,6,7,8]),9],(rnN 0 1 2 3 4 0),[],0,0⟩ ⟨10,[.ls 1 cI kIc l,.ls 3 cE kE x.2.2.2,sS x.2.2.1,sI x.2.1,sI x.1,sI dn,sI pt.2.2,sI pt.2.1,sI pt.1,.q (pSu su)],[pG cM mv],[]⟩ zdL (by kernel_rfl) ?_
 refine rx [] [] [] (fun t u w=>⟨zaZ (by kernel_rfl),trivial⟩) ?_
 have s1:(false && ((17:Int) != 0))=false:=by rfl
 refine cx (.t []) (zv false (17:Int) s1) rfl ?_
 obtain ⟨v2,e2⟩:=LX (vecOf l 0)
 have s3:3≤l.length:=by omega
 refine cx (.o (.g [sI v2.1,sI v2.2.1,sI v2.2.2])) (t_vec l v2 e2 s3) rfl ?_
 obtain ⟨v4,e4⟩:=LX (inV v2)
 refine cx (.o (.c (sB v4))) (t_in v2 v4 e4) rfl ?_
 intro v5 e5
 refine ai (fun h6=>?_) fun h6=>?_
 ·
  have s7:(v5 && ((3:Int) != 0))=true:=by (rw [h6];rfl)
  refine rx [.v (.iface 37 (.int .i64 (3:Int)))] [] [] (fun t u w=>⟨b_con (pan:=true) (zh v5 (3:Int) (3:Int) rfl s7),trivial⟩) ?_
  intro hc
  have hq:k=(3:Int):=by
   (unfold zJ at hr;have hv:inV (vecOf l 0)=false:=(by rw [e2,e4];simpa using e5.trans h6);rw [if_neg (by simp)] at hr;rw [hv] at hr;rw [if_neg (by simp)] at hr;injection hr with hr;exact hr.symm)
  rw [hq]
  exact pn_of (su:=su) (s:=(pt,mv,dn,none)) (hc) ⟨rfl,rfl,rfl,rfl,rfl,rfl⟩ rfl rfl rfl
 ·
  have s7:(v5 && ((3:Int) != 0))=false:=by (rw [h6];rfl)
  refine cx (.t []) (zv v5 (3:Int) s7) rfl ?_
  obtain ⟨v8,e8⟩:=LX (vecOf l 0)
  have s9:3≤l.length:=by omega
  refine cx (.o (.g [sI v8.1,sI v8.2.1,sI v8.2.2])) (t_vec l v8 e8 s9) rfl ?_
  have s10:mv.length≤40:=by omega
  cases h11:isOk (addS ((1:Int),((0:Int),(0:Int),(0:Int)),v8,((0:Int),(0:Int),(0:Int)),(0:Int)) (pt,mv,dn,none)) with
  | true =>
   refine Or.inl ?_
   obtain ⟨v12,e12⟩:=LX (okOf (addS ((1:Int),((0:Int),(0:Int),(0:Int)),v8,((0:Int),(0:Int),(0:Int)),(0:Int)) (pt,mv,dn,none)))
   refine rx [sI v12.1.1,sI v12.1.2.1,sI v12.1.2.2,sI v12.2.2.1] [pG cM v12.2.1] [] (fun t u w=>⟨q9 su ((1:Int),((0:Int),(0:Int),(0:Int)),v8,((0:Int),(0:Int),(0:Int)),(0:Int)) (pt,mv,dn,none) v12 rfl s10 (ok_of h11 e12) ⟨rfl,rfl,rfl,rfl,rfl,rfl⟩ ⟨rfl,rfl,rfl,rfl,rfl,rfl⟩ rfl rfl rfl rfl,trivial⟩) ?_
   exfalso
   (unfold zJ at hr;have hv:inV (vecOf l 0)=true:=(by rw [e2,e4];simpa using e5.trans h6);rw [if_neg (by simp)] at hr;rw [hv] at hr;rw [if_pos rfl] at hr;rw [e8] at hr;rw [ok_of h11 e12] at hr;cases hr)
  | false =>
   refine Or.inr ?_
   obtain ⟨v12,e12⟩:=LX (errOf (addS ((1:Int),((0:Int),(0:Int),(0:Int)),v8,((0:Int),(0:Int),(0:Int)),(0:Int)) (pt,mv,dn,none)))
   refine rx [.v (.iface 37 (.int .i64 v12))] [] [] (fun t u w=>⟨qH su ((1:Int),((0:Int),(0:Int),(0:Int)),v8,((0:Int),(0:Int),(0:Int)),(0:Int)) (pt,mv,dn,none) v12 rfl s10 (zn h11 e12) ⟨rfl,rfl,rfl,rfl,rfl,rfl⟩ rfl rfl rfl,trivial⟩) ?_
   intro hc
   have hq:k=v12:=by
    (unfold zJ at hr;have hv:inV (vecOf l 0)=true:=(by rw [e2,e4];simpa using e5.trans h6);rw [if_neg (by simp)] at hr;rw [hv] at hr;rw [if_pos rfl] at hr;rw [e8] at hr;rw [zn h11 e12] at hr;injection hr with hr;exact hr.symm)
   rw [hq]
   exact pn_of (su:=su) (s:=(pt,mv,dn,none)) (hc) ⟨rfl,rfl,rfl,rfl,rfl,rfl⟩ rfl rfl rfl
def zfg:Tr:=.s [(0,.raw [(1000005,.bin .neq 106 (LF (.p 902 0)) (LF (.k (.pointer none))) (LF (.k (.bool true))))] 0),(0,.raw [(1000006,.pan ⟨55,[.o (.c (.k (.bool true))),.o (.c (.k (.int .i64 17)))],[],14,[]⟩)] 1)] (.z .no)
theorem zh0 {w0:World} (su:(List (List UInt8×Sb))) (pt:Vec) (mv:(List Mov)) (dn:Int) (c:Str) (x:Stm) (l:(List Int)) (hmv:mv.length≤40) (hl:3≤l.length) (s':Rn) (hr:zJ l (pt,mv,dn,some c)=.ok s'):∃c',s'.2.2.2=some c'∧FS w0 109 [.o (.g [pI x.1,pI x.2.1,pS x.2.2.1,pLs cE x.2.2.2]),.o (.c (pLs cI l))] su (pt,mv,dn,some c) c s' c' (.t [])∧RF w0 109 [.o (.g [pI x.1,pI x.2.1,pS x.2.2.1,pLs cE x.2.2.2]),.o (.c (pLs cI l))] su (pt,mv,dn,some c) s' (.t []):=by
 refine tfn w0 109 ⟨[LF (.p 900 0),.o (.g [9,10,11,12]),13],(rnS 0 1 2 3 4 0 5 6 7 8 1 2),[],0,0⟩ ⟨14,[.ls 1 cI kIc l,.ls 3 cE kE x.2.2.2,sS x.2.2.1,sI x.2.1,sI x.1,sI c.2.1,sI c.1.2.2,sI c.1.2.1,sI c.1.1,sI dn,sI pt.2.2,sI pt.2.1,sI pt.1,.q (pSu su)],[pG cM mv,pG cV c.2.2.1,pG cI c.2.2.2],[]⟩ zfg (by kernel_rfl) ?_
 refine rx [] [] [] (fun t u w=>⟨zaE (by kernel_rfl),trivial⟩) ?_
 have s1:(true && ((17:Int) != 0))=true:=by rfl
 refine rx [.v (.iface 37 (.int .i64 (17:Int)))] [] [] (fun t u w=>⟨b_con (pan:=true) (zh true (17:Int) (17:Int) rfl s1),trivial⟩) ?_
 exfalso
 (unfold zJ at hr;simp only [Option.isSome_some,if_true] at hr;cases hr)
def zdM:Tr:=.s [(0,.raw [(1000005,.bin .neq 106 (LF (.p 902 0)) (LF (.k (.pointer none))) (LF (.k (.bool true))))] 0),(0,.raw [(1000006,.pan ⟨55,[.o (.c (.k (.bool true))),.o (.c (.k (.int .i64 17)))],[],14,[]⟩)] 1)] (.z (.ret true (14) []))
theorem zgv {w0:World} (su:(List (List UInt8×Sb))) (pt:Vec) (mv:(List Mov)) (dn:Int) (c:Str) (x:Stm) (l:(List Int)) (hmv:mv.length≤40) (hl:3≤l.length) (k:Int) (hr:zJ l (pt,mv,dn,some c)=.error k):RP w0 109 [.o (.g [pI x.1,pI x.2.1,pS x.2.2.1,pLs cE x.2.2.2]),.o (.c (pLs cI l))] su (pt,mv,dn,some c) k:=by
 refine tfn w0 109 ⟨[LF (.p 900 0),.o (.g [9,10,11,12]),13],(rnS 0 1 2 3 4 0 5 6 7 8 1 2),[],0,0⟩ ⟨14,[.ls 1 cI kIc l,.ls 3 cE kE x.2.2.2,sS x.2.2.1,sI x.2.1,sI x.1,sI c.2.1,sI c.1.2.2,sI c.1.2.1,sI c.1.1,sI dn,sI pt.2.2,sI pt.2.1,sI pt.1,.q (pSu su)],[pG cM mv,pG cV c.2.2.1,pG cI c.2.2.2],[]⟩ zdM (by kernel_rfl) ?_
 refine rx [] [] [] (fun t u w=>⟨zaE (by kernel_rfl),trivial⟩) ?_
 have s1:(true && ((17:Int) != 0))=true:=by rfl
 refine rx [.v (.iface 37 (.int .i64 (17:Int)))] [] [] (fun t u w=>⟨b_con (pan:=true) (zh true (17:Int) (17:Int) rfl s1),trivial⟩) ?_
 intro hc
 have hq:k=(17:Int):=by
  (unfold zJ at hr;simp only [Option.isSome_some,if_true] at hr;injection hr with hr;exact hr.symm)
 rw [hq]
 exact zaP (su:=su) (s:=(pt,mv,dn,some c)) (c:=c) (hc) rfl ⟨rfl,rfl,rfl,rfl,rfl,rfl⟩ ⟨rfl,rfl,rfl,rfl,rfl,rfl⟩ rfl rfl rfl
def zgk:Tr:=.s [(2,.call 134 [9] (.o (.g 3))),(4,.ia 24 3 1 9 (kI 3)),(5,.ld 3 0 13),(10,.call 34 [.o (.g [10,11,12])] (.o .c)),(11,.un .not 15)] (.b 16 (.s [(0,.raw [(1000020,.pan ⟨55,[.o (.c (.k (.bool true))),.o (.c (.k (.int .i64 3)))],[],17,[]⟩)] 1)] (.z .no)) (.s [(14,.bin .lss 3 14 (kI 1))] (.b 17 (.s [(0,.raw [(1000020,.pan ⟨55,[.o (.c (.k (.bool true))),.o (.c (.k (.int .i64 3)))],[],18,[]⟩)] 1)] (.z .no)) (.s [(18,.bin .gtr 3 14 (kI 100))] (.b 18 (.s [(0,.raw [(1000020,.pan ⟨55,[18,.o (.c (.k (.int .i64 3)))],[],19,[]⟩)] 1)] (.z .no)) (.s [(20,.call 55 [18,LF (kI 3)] (.t [])),(0,.raw [(1000025,.bin .eql 106 (LF (.k (.pointer none))) (LF (.k (.pointer none))) (LF (.k (.bool true))))] 0)] (.r (.s [(0,.raw [(1000031,.call ⟨85,[LF (.p 900 0),.o (.g [.k (.int .i64 2),.k (.int .i64 0),.k (.int .i64 0),.k (.int .i64 0),10,11,12,.k (.int .i64 0),.k (.int .i64 0),.k (.int .i64 0),14])],rnN 0 1 2 3 4 0,.t [],rnN 0 19 20 21 22 1⟩)] 4)] (.z (.ret false (.t []) (rnN 0 19 20 21 22 1)))) (.s [(0,.raw [(1000031,.pan ⟨85,[LF (.p 900 0),.o (.g [.k (.int .i64 2),.k (.int .i64 0),.k (.int .i64 0),.k (.int .i64 0),10,11,12,.k (.int .i64 0),.k (.int .i64 0),.k (.int .i64 0),14])],rnN 0 1 2 3 4 0,19,[]⟩)] 1)] (.z .no)))))))))
theorem zjV {w0:World} (su:(List (List UInt8×Sb))) (pt:Vec) (mv:(List Mov)) (dn:Int) (x:Stm) (l:(List Int)) (hmv:mv.length≤40) (hl:4≤l.length) (s':Rn) (hr:lineS l (pt,mv,dn,none)=.ok s'):FN w0 110 [.o (.g [pI x.1,pI x.2.1,pS x.2.2.1,pLs cE x.2.2.2]),.o (.c (pLs cI l))] su (pt,mv,dn,none) s' (.t []):=by
 refine tfn w0 110 ⟨[LF (.p 900 0),.o (.g [5,6,7,8]),9],(rnN 0 1 2 3 4 0),[],0,0⟩ ⟨10,[.ls 1 cI kIc l,.ls 3 cE kE x.2.2.2,sS x.2.2.1,sI x.2.1,sI x.1,sI dn,sI pt.2.2,sI pt.2.1,sI pt.1,.q (pSu su)],[pG cM mv],[]⟩ zgk (by kernel_rfl) ?_
 obtain ⟨v1,e1⟩:=LX (vecOf l 0)
 have s2:3≤l.length:=by omega
 refine cx (.o (.g [sI v1.1,sI v1.2.1,sI v1.2.2])) (t_vec l v1 e1 s2) rfl ?_
 refine ai (by exact ⟨3,l.getD 3 0,rfl,zZ (by omega)⟩) fun n3 x4 s5 s6=>?_
 obtain ⟨v7,e7⟩:=LX (inV v1)
 refine cx (.o (.c (sB v7))) (t_in v1 v7 e7) rfl ?_
 intro v8 e8
 refine ai (fun h9=>?_) fun h9=>?_
 ·
  have s10:(true && ((3:Int) != 0))=true:=by rfl
  refine rx [.v (.iface 37 (.int .i64 (3:Int)))] [] [] (fun t u w=>⟨b_con (pan:=true) (zh true (3:Int) (3:Int) rfl s10),trivial⟩) ?_
  exfalso
  (have dh9:=(Bool.not_eq_true' _).mp (e8.trans h9);unfold lineS at hr;have hv:inV (vecOf l 0)=false:=(by rw [e1,e7];simpa using e8.trans h9);have hx:l.getD 3 0=x4:=zp (k:=3) s6 s5;have hg:(inV (vecOf l 0) && (decide (1≤l.getD 3 0) && decide (l.getD 3 0≤100)))=false:=(by rw [hv,hx];simp;try omega);rw [hg] at hr;simp only [if_true,Bool.false_eq_true,if_false] at hr;cases hr)
 ·
  intro v10 e10
  refine ai (fun h11=>?_) fun h11=>?_
  ·
   have s12:(true && ((3:Int) != 0))=true:=by rfl
   refine rx [.v (.iface 37 (.int .i64 (3:Int)))] [] [] (fun t u w=>⟨b_con (pan:=true) (zh true (3:Int) (3:Int) rfl s12),trivial⟩) ?_
   exfalso
   (have dh9:=(Bool.not_eq_false' _).mp (e8.trans h9);have dh11:=LD e10 h11;unfold lineS at hr;have hv:inV (vecOf l 0)=true:=(by rw [e1,e7];simpa using e8.trans h9);have hx:l.getD 3 0=x4:=zp (k:=3) s6 s5;have hg:(inV (vecOf l 0) && (decide (1≤l.getD 3 0) && decide (l.getD 3 0≤100)))=false:=(by rw [hv,hx];simp;try omega);rw [hg] at hr;simp only [if_true,Bool.false_eq_true,if_false] at hr;cases hr)
  ·
   intro v12 e12
   refine ai (fun h13=>?_) fun h13=>?_
   ·
    have s14:(v12 && ((3:Int) != 0))=true:=by (rw [h13];rfl)
    refine rx [.v (.iface 37 (.int .i64 (3:Int)))] [] [] (fun t u w=>⟨b_con (pan:=true) (zh v12 (3:Int) (3:Int) rfl s14),trivial⟩) ?_
    exfalso
    (have dh9:=(Bool.not_eq_false' _).mp (e8.trans h9);have dh11:=LE e10 h11;have dh13:=LD e12 h13;unfold lineS at hr;have hv:inV (vecOf l 0)=true:=(by rw [e1,e7];simpa using e8.trans h9);have hx:l.getD 3 0=x4:=zp (k:=3) s6 s5;have hg:(inV (vecOf l 0) && (decide (1≤l.getD 3 0) && decide (l.getD 3 0≤100)))=false:=(by rw [hv,hx];simp;try omega);rw [hg] at hr;simp only [if_true,Bool.false_eq_true,if_false] at hr;cases hr)
   ·
    have s14:(v12 && ((3:Int) != 0))=false:=by (rw [h13];rfl)
    refine cx (.t []) (zv v12 (3:Int) s14) rfl ?_
    refine rx [] [] [] (fun t u w=>⟨zgQ (by kernel_rfl),trivial⟩) ?_
    have s15:mv.length≤40:=by omega
    cases h16:isOk (addS ((2:Int),((0:Int),(0:Int),(0:Int)),v1,((0:Int),(0:Int),(0:Int)),x4) (pt,mv,dn,none)) with
    | true =>
     refine Or.inl ?_
     obtain ⟨v17,e17⟩:=LX (okOf (addS ((2:Int),((0:Int),(0:Int),(0:Int)),v1,((0:Int),(0:Int),(0:Int)),x4) (pt,mv,dn,none)))
     refine rx [sI v17.1.1,sI v17.1.2.1,sI v17.1.2.2,sI v17.2.2.1] [pG cM v17.2.1] [] (fun t u w=>⟨q9 su ((2:Int),((0:Int),(0:Int),(0:Int)),v1,((0:Int),(0:Int),(0:Int)),x4) (pt,mv,dn,none) v17 rfl s15 (ok_of h16 e17) ⟨rfl,rfl,rfl,rfl,rfl,rfl⟩ ⟨rfl,rfl,rfl,rfl,rfl,rfl⟩ rfl rfl rfl rfl,trivial⟩) ?_
     intro hc
     have hq:s'=(v17.1,v17.2.1,v17.2.2.1,none):=by
      (have dh9:=(Bool.not_eq_false' _).mp (e8.trans h9);have dh11:=LE e10 h11;have dh13:=LE e12 h13;unfold lineS at hr;have hv:inV (vecOf l 0)=true:=(by rw [e1,e7];simpa using e8.trans h9);have hx:l.getD 3 0=x4:=zp (k:=3) s6 s5;have hg:(inV (vecOf l 0) && (decide (1≤l.getD 3 0) && decide (l.getD 3 0≤100)))=true:=(by rw [hv,hx];simp;try omega);rw [hg] at hr;simp only [if_true,Bool.false_eq_true,if_false] at hr;rw [e1,hx] at hr;rw [ok_of h16 e17] at hr;injection hr with hr;rw [← hr];exact zdq (qd (ok_of h16 e17)))
     rw [hq]
     exact fn_of (su:=su) (s:=(pt,mv,dn,none)) (s':=(v17.1,v17.2.1,v17.2.2.1,none)) (hc) ⟨rfl,rfl,rfl,rfl,rfl,rfl⟩ ⟨rfl,rfl,rfl,rfl,rfl,rfl⟩ rfl rfl rfl rfl
    | false =>
     refine Or.inr ?_
     obtain ⟨v17,e17⟩:=LX (errOf (addS ((2:Int),((0:Int),(0:Int),(0:Int)),v1,((0:Int),(0:Int),(0:Int)),x4) (pt,mv,dn,none)))
     refine rx [.v (.iface 37 (.int .i64 v17))] [] [] (fun t u w=>⟨qH su ((2:Int),((0:Int),(0:Int),(0:Int)),v1,((0:Int),(0:Int),(0:Int)),x4) (pt,mv,dn,none) v17 rfl s15 (zn h16 e17) ⟨rfl,rfl,rfl,rfl,rfl,rfl⟩ rfl rfl rfl,trivial⟩) ?_
     exfalso
     (have dh9:=(Bool.not_eq_false' _).mp (e8.trans h9);have dh11:=LE e10 h11;have dh13:=LE e12 h13;unfold lineS at hr;have hv:inV (vecOf l 0)=true:=(by rw [e1,e7];simpa using e8.trans h9);have hx:l.getD 3 0=x4:=zp (k:=3) s6 s5;have hg:(inV (vecOf l 0) && (decide (1≤l.getD 3 0) && decide (l.getD 3 0≤100)))=true:=(by rw [hv,hx];simp;try omega);rw [hg] at hr;simp only [if_true,Bool.false_eq_true,if_false] at hr;rw [e1,hx] at hr;rw [zn h16 e17] at hr;cases hr)
def ze9:Tr:=.s [(2,.call 134 [9] (.o (.g 3))),(4,.ia 24 3 1 9 (kI 3)),(5,.ld 3 0 13),(10,.call 34 [.o (.g [10,11,12])] (.o .c)),(11,.un .not 15)] (.b 16 (.s [(0,.raw [(1000020,.pan ⟨55,[.o (.c (.k (.bool true))),.o (.c (.k (.int .i64 3)))],[],17,[]⟩)] 1)] (.z (.ret true (17) []))) (.s [(14,.bin .lss 3 14 (kI 1))] (.b 17 (.s [(0,.raw [(1000020,.pan ⟨55,[.o (.c (.k (.bool true))),.o (.c (.k (.int .i64 3)))],[],18,[]⟩)] 1)] (.z (.ret true (18) []))) (.s [(18,.bin .gtr 3 14 (kI 100))] (.b 18 (.s [(0,.raw [(1000020,.pan ⟨55,[18,.o (.c (.k (.int .i64 3)))],[],19,[]⟩)] 1)] (.z (.ret true (19) []))) (.s [(20,.call 55 [18,LF (kI 3)] (.t [])),(0,.raw [(1000025,.bin .eql 106 (LF (.k (.pointer none))) (LF (.k (.pointer none))) (LF (.k (.bool true))))] 0)] (.r (.s [(0,.raw [(1000031,.call ⟨85,[LF (.p 900 0),.o (.g [.k (.int .i64 2),.k (.int .i64 0),.k (.int .i64 0),.k (.int .i64 0),10,11,12,.k (.int .i64 0),.k (.int .i64 0),.k (.int .i64 0),14])],rnN 0 1 2 3 4 0,.t [],rnN 0 19 20 21 22 1⟩)] 4)] (.z .no)) (.s [(0,.raw [(1000031,.pan ⟨85,[LF (.p 900 0),.o (.g [.k (.int .i64 2),.k (.int .i64 0),.k (.int .i64 0),.k (.int .i64 0),10,11,12,.k (.int .i64 0),.k (.int .i64 0),.k (.int .i64 0),14])],rnN 0 1 2 3 4 0,19,[]⟩)] 1)] (.z (.ret true (19) []))))))))))
theorem zhP {w0:World} (su:(List (List UInt8×Sb))) (pt:Vec) (mv:(List Mov)) (dn:Int) (x:Stm) (l:(List Int)) (hmv:mv.length≤40) (hl:4≤l.length) (k:Int) (hr:lineS l (pt,mv,dn,none)=.error k):PN w0 110 [.o (.g [pI x.1,pI x.2.1,pS x.2.2.1,pLs cE x.2.2.2]),.o (.c (pLs cI l))] su (pt,mv,dn,none) k:=by
 refine tfn w0 110 ⟨[LF (.p 900 0),.o (.g [5,6,7,8]),9],(rnN 0 1 2 3 4 0),[],0,0⟩ ⟨10,[.ls 1 cI kIc l,.ls 3 cE kE x.2.2.2,sS x.2.2.1,sI x.2.1,sI x.1,sI dn,sI pt.2.2,sI pt.2.1,sI pt.1,.q (pSu su)],[pG cM mv],[]⟩ ze9 (by kernel_rfl) ?_
 obtain ⟨v1,e1⟩:=LX (vecOf l 0)
 have s2:3≤l.length:=by omega
 refine cx (.o (.g [sI v1.1,sI v1.2.1,sI v1.2.2])) (t_vec l v1 e1 s2) rfl ?_
 refine ai (by exact ⟨3,l.getD 3 0,rfl,zZ (by omega)⟩) fun n3 x4 s5 s6=>?_
 obtain ⟨v7,e7⟩:=LX (inV v1)
 refine cx (.o (.c (sB v7))) (t_in v1 v7 e7) rfl ?_
 intro v8 e8
 refine ai (fun h9=>?_) fun h9=>?_
 ·
  have s10:(true && ((3:Int) != 0))=true:=by rfl
  refine rx [.v (.iface 37 (.int .i64 (3:Int)))] [] [] (fun t u w=>⟨b_con (pan:=true) (zh true (3:Int) (3:Int) rfl s10),trivial⟩) ?_
  intro hc
  have hq:k=(3:Int):=by
   (have dh9:=(Bool.not_eq_true' _).mp (e8.trans h9);unfold lineS at hr;have hv:inV (vecOf l 0)=false:=(by rw [e1,e7];simpa using e8.trans h9);have hx:l.getD 3 0=x4:=zp (k:=3) s6 s5;have hg:(inV (vecOf l 0) && (decide (1≤l.getD 3 0) && decide (l.getD 3 0≤100)))=false:=(by rw [hv,hx];simp;try omega);rw [hg] at hr;simp only [if_true,Bool.false_eq_true,if_false] at hr;injection hr with hr;exact hr.symm)
  rw [hq]
  exact pn_of (su:=su) (s:=(pt,mv,dn,none)) (hc) ⟨rfl,rfl,rfl,rfl,rfl,rfl⟩ rfl rfl rfl
 ·
  intro v10 e10
  refine ai (fun h11=>?_) fun h11=>?_
  ·
   have s12:(true && ((3:Int) != 0))=true:=by rfl
   refine rx [.v (.iface 37 (.int .i64 (3:Int)))] [] [] (fun t u w=>⟨b_con (pan:=true) (zh true (3:Int) (3:Int) rfl s12),trivial⟩) ?_
   intro hc
   have hq:k=(3:Int):=by
    (have dh9:=(Bool.not_eq_false' _).mp (e8.trans h9);have dh11:=LD e10 h11;unfold lineS at hr;have hv:inV (vecOf l 0)=true:=(by rw [e1,e7];simpa using e8.trans h9);have hx:l.getD 3 0=x4:=zp (k:=3) s6 s5;have hg:(inV (vecOf l 0) && (decide (1≤l.getD 3 0) && decide (l.getD 3 0≤100)))=false:=(by rw [hv,hx];simp;try omega);rw [hg] at hr;simp only [if_true,Bool.false_eq_true,if_false] at hr;injection hr with hr;exact hr.symm)
   rw [hq]
   exact pn_of (su:=su) (s:=(pt,mv,dn,none)) (hc) ⟨rfl,rfl,rfl,rfl,rfl,rfl⟩ rfl rfl rfl
  ·
   intro v12 e12
   refine ai (fun h13=>?_) fun h13=>?_
   ·
    have s14:(v12 && ((3:Int) != 0))=true:=by (rw [h13];rfl)
    refine rx [.v (.iface 37 (.int .i64 (3:Int)))] [] [] (fun t u w=>⟨b_con (pan:=true) (zh v12 (3:Int) (3:Int) rfl s14),trivial⟩) ?_
    intro hc
    have hq:k=(3:Int):=by
     (have dh9:=(Bool.not_eq_false' _).mp (e8.trans h9);have dh11:=LE e10 h11;have dh13:=LD e12 h13;unfold lineS at hr;have hv:inV (vecOf l 0)=true:=(by rw [e1,e7];simpa using e8.trans h9);have hx:l.getD 3 0=x4:=zp (k:=3) s6 s5;have hg:(inV (vecOf l 0) && (decide (1≤l.getD 3 0) && decide (l.getD 3 0≤100)))=false:=(by rw [hv,hx];simp;try omega);rw [hg] at hr;simp only [if_true,Bool.false_eq_true,if_false] at hr;injection hr with hr;exact hr.symm)
    rw [hq]
    exact pn_of (su:=su) (s:=(pt,mv,dn,none)) (hc) ⟨rfl,rfl,rfl,rfl,rfl,rfl⟩ rfl rfl rfl
   ·
    have s14:(v12 && ((3:Int) != 0))=false:=by (rw [h13];rfl)
    refine cx (.t []) (zv v12 (3:Int) s14) rfl ?_
    refine rx [] [] [] (fun t u w=>⟨zgQ (by kernel_rfl),trivial⟩) ?_
    have s15:mv.length≤40:=by omega
    cases h16:isOk (addS ((2:Int),((0:Int),(0:Int),(0:Int)),v1,((0:Int),(0:Int),(0:Int)),x4) (pt,mv,dn,none)) with
    | true =>
     refine Or.inl ?_
     obtain ⟨v17,e17⟩:=LX (okOf (addS ((2:Int),((0:Int),(0:Int),(0:Int)),v1,((0:Int),(0:Int),(0:Int)),x4) (pt,mv,dn,none)))
     refine rx [sI v17.1.1,sI v17.1.2.1,sI v17.1.2.2,sI v17.2.2.1] [pG cM v17.2.1] [] (fun t u w=>⟨q9 su ((2:Int),((0:Int),(0:Int),(0:Int)),v1,((0:Int),(0:Int),(0:Int)),x4) (pt,mv,dn,none) v17 rfl s15 (ok_of h16 e17) ⟨rfl,rfl,rfl,rfl,rfl,rfl⟩ ⟨rfl,rfl,rfl,rfl,rfl,rfl⟩ rfl rfl rfl rfl,trivial⟩) ?_
     exfalso
     (have dh9:=(Bool.not_eq_false' _).mp (e8.trans h9);have dh11:=LE e10 h11;have dh13:=LE e12 h13;unfold lineS at hr;have hv:inV (vecOf l 0)=true:=(by rw [e1,e7];simpa using e8.trans h9);have hx:l.getD 3 0=x4:=zp (k:=3) s6 s5;have hg:(inV (vecOf l 0) && (decide (1≤l.getD 3 0) && decide (l.getD 3 0≤100)))=true:=(by rw [hv,hx];simp;try omega);rw [hg] at hr;simp only [if_true,Bool.false_eq_true,if_false] at hr;rw [e1,hx] at hr;rw [ok_of h16 e17] at hr;cases hr)
    | false =>
     refine Or.inr ?_
     obtain ⟨v17,e17⟩:=LX (errOf (addS ((2:Int),((0:Int),(0:Int),(0:Int)),v1,((0:Int),(0:Int),(0:Int)),x4) (pt,mv,dn,none)))
     refine rx [.v (.iface 37 (.int .i64 v17))] [] [] (fun t u w=>⟨qH su ((2:Int),((0:Int),(0:Int),(0:Int)),v1,((0:Int),(0:Int),(0:Int)),x4) (pt,mv,dn,none) v17 rfl s15 (zn h16 e17) ⟨rfl,rfl,rfl,rfl,rfl,rfl⟩ rfl rfl rfl,trivial⟩) ?_
     intro hc
     have hq:k=v17:=by
      (have dh9:=(Bool.not_eq_false' _).mp (e8.trans h9);have dh11:=LE e10 h11;have dh13:=LE e12 h13;unfold lineS at hr;have hv:inV (vecOf l 0)=true:=(by rw [e1,e7];simpa using e8.trans h9);have hx:l.getD 3 0=x4:=zp (k:=3) s6 s5;have hg:(inV (vecOf l 0) && (decide (1≤l.getD 3 0) && decide (l.getD 3 0≤100)))=true:=(by rw [hv,hx];simp;try omega);rw [hg] at hr;simp only [if_true,Bool.false_eq_true,if_false] at hr;rw [e1,hx] at hr;rw [zn h16 e17] at hr;injection hr with hr;exact hr.symm)
     rw [hq]
     exact pn_of (su:=su) (s:=(pt,mv,dn,none)) (hc) ⟨rfl,rfl,rfl,rfl,rfl,rfl⟩ rfl rfl rfl
def zgl:Tr:=.s [(2,.call 134 [13] (.o (.g 3))),(4,.ia 24 3 1 13 (kI 3)),(5,.ld 3 0 17),(10,.call 34 [.o (.g [14,15,16])] (.o .c)),(11,.un .not 19)] (.b 20 (.s [(0,.raw [(1000020,.pan ⟨55,[.o (.c (.k (.bool true))),.o (.c (.k (.int .i64 3)))],[],21,[]⟩)] 1)] (.z .no)) (.s [(14,.bin .lss 3 18 (kI 1))] (.b 21 (.s [(0,.raw [(1000020,.pan ⟨55,[.o (.c (.k (.bool true))),.o (.c (.k (.int .i64 3)))],[],22,[]⟩)] 1)] (.z .no)) (.s [(18,.bin .gtr 3 18 (kI 100))] (.b 22 (.s [(0,.raw [(1000020,.pan ⟨55,[22,.o (.c (.k (.int .i64 3)))],[],23,[]⟩)] 1)] (.z .no)) (.s [(20,.call 55 [22,LF (kI 3)] (.t [])),(0,.raw [(1000025,.bin .eql 106 (LF (.p 902 0)) (LF (.k (.pointer none))) (LF (.k (.bool false))))] 0),(0,.raw [(1000032,.bin .neq 26 (.o (.g [14,15,16])) (.o (.g [1,2,3])) 23)] 1)] (.b 23 (.s [(39,.call 84 [.o (.g [1,2,3]),.o (.g [14,15,16])] (.o (.g 3))),(0,.raw [(1000041,.bin .eql 26 (.o (.g [24,25,26])) (.o (.g [.k (.int .i64 0),.k (.int .i64 0),.k (.int .i64 0)])) 27)] 1)] (.b 27 (.s [(0,.raw [(1000042,.pan ⟨55,[27,.o (.c (.k (.int .i64 17)))],[],28,[]⟩)] 1)] (.z .no)) (.s [(42,.call 55 [27,LF (kI 17)] (.t [])),(0,.gh ⟨6,[.bx 902 141 [.h 5,.h 6,.h 7,.h 8,.gr 903,.gr 904]],[.bx 902 141 [.h 5,.h 6,.h 7,.h 8,.gr 903,.gr 904],.bx 902 141 [.h 5,.h 6,.h 7,.h 8,.h 28,.gr 904],.bx 902 141 [.h 5,.h 6,.h 7,.h 8,.gr 903,.h 29],.bx 902 141 [.h 5,.h 6,.h 7,.h 8,.h 28,.h 29]],[]⟩ 2),(0,.raw [(1000059,.dat 26 1 [.h 14,.h 15,.h 16] 30)] 1),(0,.raw [(1000060,.app 26 3 903 1 3 30 [] false)] 0),(0,.raw [(1000069,.dat 3 1 [.h 18] 31)] 1),(0,.raw [(1000070,.app 3 1 904 2 4 31 [] false)] 0)] (.z (.ret false (.t []) (rnS 0 14 15 16 4 0 5 6 7 8 3 4)))))) (.z (.ret false (.t []) (rnS 0 1 2 3 4 0 5 6 7 8 1 2))))))))))
theorem zjW {w0:World} (su:(List (List UInt8×Sb))) (pt:Vec) (mv:(List Mov)) (dn:Int) (c:Str) (x:Stm) (l:(List Int)) (hmv:mv.length≤40) (hl:4≤l.length) (hc1:c.2.2.1.length≤1000) (hc2:c.2.2.2.length≤1000) (s':Rn) (hr:lineS l (pt,mv,dn,some c)=.ok s'):∃c',s'.2.2.2=some c'∧FS w0 110 [.o (.g [pI x.1,pI x.2.1,pS x.2.2.1,pLs cE x.2.2.2]),.o (.c (pLs cI l))] su (pt,mv,dn,some c) c s' c' (.t [])∧RF w0 110 [.o (.g [pI x.1,pI x.2.1,pS x.2.2.1,pLs cE x.2.2.2]),.o (.c (pLs cI l))] su (pt,mv,dn,some c) s' (.t []):=by
 refine tfn w0 110 ⟨[LF (.p 900 0),.o (.g [9,10,11,12]),13],(rnS 0 1 2 3 4 0 5 6 7 8 1 2),[],0,0⟩ ⟨14,[.ls 1 cI kIc l,.ls 3 cE kE x.2.2.2,sS x.2.2.1,sI x.2.1,sI x.1,sI c.2.1,sI c.1.2.2,sI c.1.2.1,sI c.1.1,sI dn,sI pt.2.2,sI pt.2.1,sI pt.1,.q (pSu su)],[pG cM mv,pG cV c.2.2.1,pG cI c.2.2.2],[]⟩ zgl (by kernel_rfl) ?_
 obtain ⟨v1,e1⟩:=LX (vecOf l 0)
 have s2:3≤l.length:=by omega
 refine cx (.o (.g [sI v1.1,sI v1.2.1,sI v1.2.2])) (t_vec l v1 e1 s2) rfl ?_
 refine ai (by exact ⟨3,l.getD 3 0,rfl,zZ (by omega)⟩) fun n3 x4 s5 s6=>?_
 obtain ⟨v7,e7⟩:=LX (inV v1)
 refine cx (.o (.c (sB v7))) (t_in v1 v7 e7) rfl ?_
 intro v8 e8
 refine ai (fun h9=>?_) fun h9=>?_
 ·
  have s10:(true && ((3:Int) != 0))=true:=by rfl
  refine rx [.v (.iface 37 (.int .i64 (3:Int)))] [] [] (fun t u w=>⟨b_con (pan:=true) (zh true (3:Int) (3:Int) rfl s10),trivial⟩) ?_
  exfalso
  (have dh9:=(Bool.not_eq_true' _).mp (e8.trans h9);unfold lineS at hr;have hv:inV (vecOf l 0)=false:=(by rw [e1,e7];simpa using e8.trans h9);have hx:l.getD 3 0=x4:=zp (k:=3) s6 s5;have hg:(inV (vecOf l 0) && (decide (1≤l.getD 3 0) && decide (l.getD 3 0≤100)))=false:=(by rw [hv,hx];simp;try omega);rw [hg] at hr;simp only [if_true,Bool.false_eq_true,if_false] at hr;cases hr)
 ·
  intro v10 e10
  refine ai (fun h11=>?_) fun h11=>?_
  ·
   have s12:(true && ((3:Int) != 0))=true:=by rfl
   refine rx [.v (.iface 37 (.int .i64 (3:Int)))] [] [] (fun t u w=>⟨b_con (pan:=true) (zh true (3:Int) (3:Int) rfl s12),trivial⟩) ?_
   exfalso
   (have dh9:=(Bool.not_eq_false' _).mp (e8.trans h9);have dh11:=LD e10 h11;unfold lineS at hr;have hv:inV (vecOf l 0)=true:=(by rw [e1,e7];simpa using e8.trans h9);have hx:l.getD 3 0=x4:=zp (k:=3) s6 s5;have hg:(inV (vecOf l 0) && (decide (1≤l.getD 3 0) && decide (l.getD 3 0≤100)))=false:=(by rw [hv,hx];simp;try omega);rw [hg] at hr;simp only [if_true,Bool.false_eq_true,if_false] at hr;cases hr)
  ·
   intro v12 e12
   refine ai (fun h13=>?_) fun h13=>?_
   ·
    have s14:(v12 && ((3:Int) != 0))=true:=by (rw [h13];rfl)
    refine rx [.v (.iface 37 (.int .i64 (3:Int)))] [] [] (fun t u w=>⟨b_con (pan:=true) (zh v12 (3:Int) (3:Int) rfl s14),trivial⟩) ?_
    exfalso
    (have dh9:=(Bool.not_eq_false' _).mp (e8.trans h9);have dh11:=LE e10 h11;have dh13:=LD e12 h13;unfold lineS at hr;have hv:inV (vecOf l 0)=true:=(by rw [e1,e7];simpa using e8.trans h9);have hx:l.getD 3 0=x4:=zp (k:=3) s6 s5;have hg:(inV (vecOf l 0) && (decide (1≤l.getD 3 0) && decide (l.getD 3 0≤100)))=false:=(by rw [hv,hx];simp;try omega);rw [hg] at hr;simp only [if_true,Bool.false_eq_true,if_false] at hr;cases hr)
   ·
    have s14:(v12 && ((3:Int) != 0))=false:=by (rw [h13];rfl)
    refine cx (.t []) (zv v12 (3:Int) s14) rfl ?_
    refine rx [] [] [] (fun t u w=>⟨ziv (by kernel_rfl),trivial⟩) ?_
    obtain ⟨v15,e15⟩:=LX (!decide (v1=pt))
    refine rx [sB v15] [] [] (fun t u w=>⟨e_eqV (x:=v1) (y:=pt) (neg:=true) ⟨(za rfl),(za rfl),(za rfl),trivial⟩ ⟨(za rfl),(za rfl),(za rfl),trivial⟩ (za (by rw [e15];rfl)),trivial⟩) ?_
    refine ai (fun h16=>?_) fun h16=>?_
    ·
     obtain ⟨v17,e17⟩:=LX (headV pt v1)
     refine cx (.o (.g [sI v17.1,sI v17.2.1,sI v17.2.2])) (zgj pt v1 v17 e17) rfl ?_
     obtain ⟨v18,e18⟩:=LX (decide (v17=((0:Int),(0:Int),(0:Int))))
     refine rx [sB v18] [] [] (fun t u w=>⟨e_eqV (x:=v17) (y:=((0:Int),(0:Int),(0:Int))) (neg:=false) ⟨(za rfl),(za rfl),(za rfl),trivial⟩ ⟨zf,zf,zf,trivial⟩ (za (by rw [e18];rfl)),trivial⟩) ?_
     refine ai (fun h19=>?_) fun h19=>?_
     ·
      have s20:(v18 && ((17:Int) != 0))=true:=by (rw [h19];rfl)
      refine rx [.v (.iface 37 (.int .i64 (17:Int)))] [] [] (fun t u w=>⟨b_con (pan:=true) (zh v18 (17:Int) (17:Int) rfl s20),trivial⟩) ?_
      exfalso
      (have dh9:=(Bool.not_eq_false' _).mp (e8.trans h9);have dh11:=LE e10 h11;have dh13:=LE e12 h13;have dh16:=(Bool.not_eq_true' _).mp (e15.trans h16);have dh19:=LD e18 h19;unfold lineS at hr;have hv:inV (vecOf l 0)=true:=(by rw [e1,e7];simpa using e8.trans h9);have hx:l.getD 3 0=x4:=zp (k:=3) s6 s5;have hg:(inV (vecOf l 0) && (decide (1≤l.getD 3 0) && decide (l.getD 3 0≤100)))=true:=(by rw [hv,hx];simp;try omega);rw [hg] at hr;simp only [if_true,Bool.false_eq_true,if_false] at hr;rw [e1,hx] at hr;rw [if_neg (by simpa using dh16)] at hr;rw [e17] at hr;rw [if_pos dh19] at hr;cases hr)
     ·
      have s20:(v18 && ((17:Int) != 0))=false:=by (rw [h19];rfl)
      refine cx (.t []) (zv v18 (17:Int) s20) rfl ?_
      refine rx [.q (pCkR (KN w0)),.q (pCkR (KN w0))] [] [] (fun t u w _=>ziK rfl rfl) ?_
      obtain ⟨v21,e21⟩:=LX (([v1]:List Vec))
      refine rx [.ls 3 cV kV v21] [] [] (fun t u w=>⟨e_dat (c:=cV) (l:=([v1]:List Vec)) (ps:=(pI v1.1::pI v1.2.1::pI v1.2.2::[])) (qs:=(pI v1.1::pI v1.2.1::pI v1.2.2::[])) (by rw [e21];rfl) rfl rfl rfl (pimps (fun _ _ _ h=>h) <| pimps (fun _ _ _ h=>h) <| pimps (fun _ _ _ h=>h) <| ze) rfl,trivial⟩) ?_
      obtain ⟨v22,e22⟩:=LX (c.2.2.1++v21)
      have s23:(c.2.2.1.length+v21.length)*3≤1099511627776:=by (rw [← e21];simp only [List.length_singleton];omega)
      refine rx [] [pG cV v22] [] (fun t u w=>⟨zV (c:=cV) qy (fun _=>rfl) rfl (by rw [e22];rfl) rfl s23,trivial⟩) ?_
      obtain ⟨v24,e24⟩:=LX (([x4]:List Int))
      refine rx [.ls 1 cI kIc v24] [] [] (fun t u w=>⟨e_dat (c:=cI) (l:=([x4]:List Int)) (ps:=(pI x4::[])) (qs:=(pI x4::[])) (by rw [e24];rfl) rfl rfl rfl (pimps (fun _ _ _ h=>h) <| ze) rfl,trivial⟩) ?_
      obtain ⟨v25,e25⟩:=LX (c.2.2.2++v24)
      have s26:(c.2.2.2.length+v24.length)*1≤1099511627776:=by (rw [← e24];simp only [List.length_singleton];omega)
      refine rx [] [pG cI v25] [] (fun t u w=>⟨zV (c:=cI) zR (fun _=>rfl) rfl (by rw [e25];rfl) rfl s26,trivial⟩) ?_
      intro hc
      have hq:s'=(v1,mv,dn,some (c.1,c.2.1,v22,v25)):=by
       (have dh9:=(Bool.not_eq_false' _).mp (e8.trans h9);have dh11:=LE e10 h11;have dh13:=LE e12 h13;have dh16:=(Bool.not_eq_true' _).mp (e15.trans h16);have dh19:=LE e18 h19;unfold lineS at hr;have hv:inV (vecOf l 0)=true:=(by rw [e1,e7];simpa using e8.trans h9);have hx:l.getD 3 0=x4:=zp (k:=3) s6 s5;have hg:(inV (vecOf l 0) && (decide (1≤l.getD 3 0) && decide (l.getD 3 0≤100)))=true:=(by rw [hv,hx];simp;try omega);rw [hg] at hr;simp only [if_true,Bool.false_eq_true,if_false] at hr;rw [e1,hx] at hr;rw [if_neg (by simpa using dh16)] at hr;rw [e17] at hr;rw [if_neg dh19] at hr;injection hr with hr;rw [← hr,← e25,← e24,← e22,← e21])
      rw [hq]
      exact ⟨_,rfl,fs_of (su:=su) (s:=(pt,mv,dn,some c)) (c:=c) (s':=(v1,mv,dn,some (c.1,c.2.1,v22,v25))) (c':=(c.1,c.2.1,v22,v25)) (hc) ⟨rfl,rfl,rfl,rfl,rfl,rfl⟩ ⟨rfl,rfl,rfl,rfl,rfl,rfl⟩ ⟨rfl,rfl,rfl,rfl,rfl,rfl⟩ ⟨rfl,rfl,rfl,rfl,rfl,rfl⟩ rfl rfl rfl rfl,zpx (su:=su) (s:=(pt,mv,dn,some c)) (c:=c) (s':=(v1,mv,dn,some (c.1,c.2.1,v22,v25))) (c':=(c.1,c.2.1,v22,v25)) (hc) rfl rfl ⟨rfl,rfl,rfl,rfl,rfl,rfl⟩ ⟨rfl,rfl,rfl,rfl,rfl,rfl⟩ ⟨rfl,rfl,rfl,rfl,rfl,rfl⟩ ⟨rfl,rfl,rfl,rfl,rfl,rfl⟩ rfl rfl rfl rfl⟩
    ·
     intro hc
     have hq:s'=(pt,mv,dn,some (c.1,c.2.1,c.2.2.1,c.2.2.2)):=by
      (have dh9:=(Bool.not_eq_false' _).mp (e8.trans h9);have dh11:=LE e10 h11;have dh13:=LE e12 h13;have dh16:=(Bool.not_eq_false' _).mp (e15.trans h16);unfold lineS at hr;have hv:inV (vecOf l 0)=true:=(by rw [e1,e7];simpa using e8.trans h9);have hx:l.getD 3 0=x4:=zp (k:=3) s6 s5;have hg:(inV (vecOf l 0) && (decide (1≤l.getD 3 0) && decide (l.getD 3 0≤100)))=true:=(by rw [hv,hx];simp;try omega);rw [hg] at hr;simp only [if_true,Bool.false_eq_true,if_false] at hr;rw [e1,hx] at hr;rw [if_pos (by simpa using dh16)] at hr;injection hr with hr;rw [← hr])
     rw [hq]
     exact ⟨_,rfl,fs_of (su:=su) (s:=(pt,mv,dn,some c)) (c:=c) (s':=(pt,mv,dn,some (c.1,c.2.1,c.2.2.1,c.2.2.2))) (c':=(c.1,c.2.1,c.2.2.1,c.2.2.2)) (hc) ⟨rfl,rfl,rfl,rfl,rfl,rfl⟩ ⟨rfl,rfl,rfl,rfl,rfl,rfl⟩ ⟨rfl,rfl,rfl,rfl,rfl,rfl⟩ ⟨rfl,rfl,rfl,rfl,rfl,rfl⟩ rfl rfl rfl rfl,zpx (su:=su) (s:=(pt,mv,dn,some c)) (c:=c) (s':=(pt,mv,dn,some (c.1,c.2.1,c.2.2.1,c.2.2.2))) (c':=(c.1,c.2.1,c.2.2.1,c.2.2.2)) (hc) rfl rfl ⟨rfl,rfl,rfl,rfl,rfl,rfl⟩ ⟨rfl,rfl,rfl,rfl,rfl,rfl⟩ ⟨rfl,rfl,rfl,rfl,rfl,rfl⟩ ⟨rfl,rfl,rfl,rfl,rfl,rfl⟩ rfl rfl rfl rfl⟩
def zfa:Tr:=.s [(2,.call 134 [13] (.o (.g 3))),(4,.ia 24 3 1 13 (kI 3)),(5,.ld 3 0 17),(10,.call 34 [.o (.g [14,15,16])] (.o .c)),(11,.un .not 19)] (.b 20 (.s [(0,.raw [(1000020,.pan ⟨55,[.o (.c (.k (.bool true))),.o (.c (.k (.int .i64 3)))],[],21,[]⟩)] 1)] (.z (.ret true (21) []))) (.s [(14,.bin .lss 3 18 (kI 1))] (.b 21 (.s [(0,.raw [(1000020,.pan ⟨55,[.o (.c (.k (.bool true))),.o (.c (.k (.int .i64 3)))],[],22,[]⟩)] 1)] (.z (.ret true (22) []))) (.s [(18,.bin .gtr 3 18 (kI 100))] (.b 22 (.s [(0,.raw [(1000020,.pan ⟨55,[22,.o (.c (.k (.int .i64 3)))],[],23,[]⟩)] 1)] (.z (.ret true (23) []))) (.s [(20,.call 55 [22,LF (kI 3)] (.t [])),(0,.raw [(1000025,.bin .eql 106 (LF (.p 902 0)) (LF (.k (.pointer none))) (LF (.k (.bool false))))] 0),(0,.raw [(1000032,.bin .neq 26 (.o (.g [14,15,16])) (.o (.g [1,2,3])) 23)] 1)] (.b 23 (.s [(39,.call 84 [.o (.g [1,2,3]),.o (.g [14,15,16])] (.o (.g 3))),(0,.raw [(1000041,.bin .eql 26 (.o (.g [24,25,26])) (.o (.g [.k (.int .i64 0),.k (.int .i64 0),.k (.int .i64 0)])) 27)] 1)] (.b 27 (.s [(0,.raw [(1000042,.pan ⟨55,[27,.o (.c (.k (.int .i64 17)))],[],28,[]⟩)] 1)] (.z (.ret true (28) []))) (.s [(42,.call 55 [27,LF (kI 17)] (.t [])),(0,.gh ⟨6,[.bx 902 141 [.h 5,.h 6,.h 7,.h 8,.gr 903,.gr 904]],[.bx 902 141 [.h 5,.h 6,.h 7,.h 8,.gr 903,.gr 904],.bx 902 141 [.h 5,.h 6,.h 7,.h 8,.h 28,.gr 904],.bx 902 141 [.h 5,.h 6,.h 7,.h 8,.gr 903,.h 29],.bx 902 141 [.h 5,.h 6,.h 7,.h 8,.h 28,.h 29]],[]⟩ 2),(0,.raw [(1000059,.dat 26 1 [.h 14,.h 15,.h 16] 30)] 1),(0,.raw [(1000060,.app 26 3 903 1 3 30 [] false)] 0),(0,.raw [(1000069,.dat 3 1 [.h 18] 31)] 1),(0,.raw [(1000070,.app 3 1 904 2 4 31 [] false)] 0)] (.z .no)))) (.z .no))))))))
theorem zhQ {w0:World} (su:(List (List UInt8×Sb))) (pt:Vec) (mv:(List Mov)) (dn:Int) (c:Str) (x:Stm) (l:(List Int)) (hmv:mv.length≤40) (hl:4≤l.length) (hc1:c.2.2.1.length≤1000) (hc2:c.2.2.2.length≤1000) (k:Int) (hr:lineS l (pt,mv,dn,some c)=.error k):RP w0 110 [.o (.g [pI x.1,pI x.2.1,pS x.2.2.1,pLs cE x.2.2.2]),.o (.c (pLs cI l))] su (pt,mv,dn,some c) k:=by
 refine tfn w0 110 ⟨[LF (.p 900 0),.o (.g [9,10,11,12]),13],(rnS 0 1 2 3 4 0 5 6 7 8 1 2),[],0,0⟩ ⟨14,[.ls 1 cI kIc l,.ls 3 cE kE x.2.2.2,sS x.2.2.1,sI x.2.1,sI x.1,sI c.2.1,sI c.1.2.2,sI c.1.2.1,sI c.1.1,sI dn,sI pt.2.2,sI pt.2.1,sI pt.1,.q (pSu su)],[pG cM mv,pG cV c.2.2.1,pG cI c.2.2.2],[]⟩ zfa (by kernel_rfl) ?_
 obtain ⟨v1,e1⟩:=LX (vecOf l 0)
 have s2:3≤l.length:=by omega
 refine cx (.o (.g [sI v1.1,sI v1.2.1,sI v1.2.2])) (t_vec l v1 e1 s2) rfl ?_
 refine ai (by exact ⟨3,l.getD 3 0,rfl,zZ (by omega)⟩) fun n3 x4 s5 s6=>?_
 obtain ⟨v7,e7⟩:=LX (inV v1)
 refine cx (.o (.c (sB v7))) (t_in v1 v7 e7) rfl ?_
 intro v8 e8
 refine ai (fun h9=>?_) fun h9=>?_
 ·
  have s10:(true && ((3:Int) != 0))=true:=by rfl
  refine rx [.v (.iface 37 (.int .i64 (3:Int)))] [] [] (fun t u w=>⟨b_con (pan:=true) (zh true (3:Int) (3:Int) rfl s10),trivial⟩) ?_
  intro hc
  have hq:k=(3:Int):=by
   (have dh9:=(Bool.not_eq_true' _).mp (e8.trans h9);unfold lineS at hr;have hv:inV (vecOf l 0)=false:=(by rw [e1,e7];simpa using e8.trans h9);have hx:l.getD 3 0=x4:=zp (k:=3) s6 s5;have hg:(inV (vecOf l 0) && (decide (1≤l.getD 3 0) && decide (l.getD 3 0≤100)))=false:=(by rw [hv,hx];simp;try omega);rw [hg] at hr;simp only [if_true,Bool.false_eq_true,if_false] at hr;injection hr with hr;exact hr.symm)
  rw [hq]
  exact zaP (su:=su) (s:=(pt,mv,dn,some c)) (c:=c) (hc) rfl ⟨rfl,rfl,rfl,rfl,rfl,rfl⟩ ⟨rfl,rfl,rfl,rfl,rfl,rfl⟩ rfl rfl rfl
 ·
  intro v10 e10
  refine ai (fun h11=>?_) fun h11=>?_
  ·
   have s12:(true && ((3:Int) != 0))=true:=by rfl
   refine rx [.v (.iface 37 (.int .i64 (3:Int)))] [] [] (fun t u w=>⟨b_con (pan:=true) (zh true (3:Int) (3:Int) rfl s12),trivial⟩) ?_
   intro hc
   have hq:k=(3:Int):=by
    (have dh9:=(Bool.not_eq_false' _).mp (e8.trans h9);have dh11:=LD e10 h11;unfold lineS at hr;have hv:inV (vecOf l 0)=true:=(by rw [e1,e7];simpa using e8.trans h9);have hx:l.getD 3 0=x4:=zp (k:=3) s6 s5;have hg:(inV (vecOf l 0) && (decide (1≤l.getD 3 0) && decide (l.getD 3 0≤100)))=false:=(by rw [hv,hx];simp;try omega);rw [hg] at hr;simp only [if_true,Bool.false_eq_true,if_false] at hr;injection hr with hr;exact hr.symm)
   rw [hq]
   exact zaP (su:=su) (s:=(pt,mv,dn,some c)) (c:=c) (hc) rfl ⟨rfl,rfl,rfl,rfl,rfl,rfl⟩ ⟨rfl,rfl,rfl,rfl,rfl,rfl⟩ rfl rfl rfl
  ·
   intro v12 e12
   refine ai (fun h13=>?_) fun h13=>?_
   ·
    have s14:(v12 && ((3:Int) != 0))=true:=by (rw [h13];rfl)
    refine rx [.v (.iface 37 (.int .i64 (3:Int)))] [] [] (fun t u w=>⟨b_con (pan:=true) (zh v12 (3:Int) (3:Int) rfl s14),trivial⟩) ?_
    intro hc
    have hq:k=(3:Int):=by
     (have dh9:=(Bool.not_eq_false' _).mp (e8.trans h9);have dh11:=LE e10 h11;have dh13:=LD e12 h13;unfold lineS at hr;have hv:inV (vecOf l 0)=true:=(by rw [e1,e7];simpa using e8.trans h9);have hx:l.getD 3 0=x4:=zp (k:=3) s6 s5;have hg:(inV (vecOf l 0) && (decide (1≤l.getD 3 0) && decide (l.getD 3 0≤100)))=false:=(by rw [hv,hx];simp;try omega);rw [hg] at hr;simp only [if_true,Bool.false_eq_true,if_false] at hr;injection hr with hr;exact hr.symm)
    rw [hq]
    exact zaP (su:=su) (s:=(pt,mv,dn,some c)) (c:=c) (hc) rfl ⟨rfl,rfl,rfl,rfl,rfl,rfl⟩ ⟨rfl,rfl,rfl,rfl,rfl,rfl⟩ rfl rfl rfl
   ·
    have s14:(v12 && ((3:Int) != 0))=false:=by (rw [h13];rfl)
    refine cx (.t []) (zv v12 (3:Int) s14) rfl ?_
    refine rx [] [] [] (fun t u w=>⟨ziv (by kernel_rfl),trivial⟩) ?_
    obtain ⟨v15,e15⟩:=LX (!decide (v1=pt))
    refine rx [sB v15] [] [] (fun t u w=>⟨e_eqV (x:=v1) (y:=pt) (neg:=true) ⟨(za rfl),(za rfl),(za rfl),trivial⟩ ⟨(za rfl),(za rfl),(za rfl),trivial⟩ (za (by rw [e15];rfl)),trivial⟩) ?_
    refine ai (fun h16=>?_) fun h16=>?_
    ·
     obtain ⟨v17,e17⟩:=LX (headV pt v1)
     refine cx (.o (.g [sI v17.1,sI v17.2.1,sI v17.2.2])) (zgj pt v1 v17 e17) rfl ?_
     obtain ⟨v18,e18⟩:=LX (decide (v17=((0:Int),(0:Int),(0:Int))))
     refine rx [sB v18] [] [] (fun t u w=>⟨e_eqV (x:=v17) (y:=((0:Int),(0:Int),(0:Int))) (neg:=false) ⟨(za rfl),(za rfl),(za rfl),trivial⟩ ⟨zf,zf,zf,trivial⟩ (za (by rw [e18];rfl)),trivial⟩) ?_
     refine ai (fun h19=>?_) fun h19=>?_
     ·
      have s20:(v18 && ((17:Int) != 0))=true:=by (rw [h19];rfl)
      refine rx [.v (.iface 37 (.int .i64 (17:Int)))] [] [] (fun t u w=>⟨b_con (pan:=true) (zh v18 (17:Int) (17:Int) rfl s20),trivial⟩) ?_
      intro hc
      have hq:k=(17:Int):=by
       (have dh9:=(Bool.not_eq_false' _).mp (e8.trans h9);have dh11:=LE e10 h11;have dh13:=LE e12 h13;have dh16:=(Bool.not_eq_true' _).mp (e15.trans h16);have dh19:=LD e18 h19;unfold lineS at hr;have hv:inV (vecOf l 0)=true:=(by rw [e1,e7];simpa using e8.trans h9);have hx:l.getD 3 0=x4:=zp (k:=3) s6 s5;have hg:(inV (vecOf l 0) && (decide (1≤l.getD 3 0) && decide (l.getD 3 0≤100)))=true:=(by rw [hv,hx];simp;try omega);rw [hg] at hr;simp only [if_true,Bool.false_eq_true,if_false] at hr;rw [e1,hx] at hr;rw [if_neg (by simpa using dh16)] at hr;rw [e17] at hr;rw [if_pos dh19] at hr;injection hr with hr;exact hr.symm)
      rw [hq]
      exact zaP (su:=su) (s:=(pt,mv,dn,some c)) (c:=c) (hc) rfl ⟨rfl,rfl,rfl,rfl,rfl,rfl⟩ ⟨rfl,rfl,rfl,rfl,rfl,rfl⟩ rfl rfl rfl
     ·
      have s20:(v18 && ((17:Int) != 0))=false:=by (rw [h19];rfl)
      refine cx (.t []) (zv v18 (17:Int) s20) rfl ?_
      refine rx [.q (pCkR (KN w0)),.q (pCkR (KN w0))] [] [] (fun t u w _=>ziK rfl rfl) ?_
      obtain ⟨v21,e21⟩:=LX (([v1]:List Vec))
      refine rx [.ls 3 cV kV v21] [] [] (fun t u w=>⟨e_dat (c:=cV) (l:=([v1]:List Vec)) (ps:=(pI v1.1::pI v1.2.1::pI v1.2.2::[])) (qs:=(pI v1.1::pI v1.2.1::pI v1.2.2::[])) (by rw [e21];rfl) rfl rfl rfl (pimps (fun _ _ _ h=>h) <| pimps (fun _ _ _ h=>h) <| pimps (fun _ _ _ h=>h) <| ze) rfl,trivial⟩) ?_
      obtain ⟨v22,e22⟩:=LX (c.2.2.1++v21)
      have s23:(c.2.2.1.length+v21.length)*3≤1099511627776:=by (rw [← e21];simp only [List.length_singleton];omega)
      refine rx [] [pG cV v22] [] (fun t u w=>⟨zV (c:=cV) qy (fun _=>rfl) rfl (by rw [e22];rfl) rfl s23,trivial⟩) ?_
      obtain ⟨v24,e24⟩:=LX (([x4]:List Int))
      refine rx [.ls 1 cI kIc v24] [] [] (fun t u w=>⟨e_dat (c:=cI) (l:=([x4]:List Int)) (ps:=(pI x4::[])) (qs:=(pI x4::[])) (by rw [e24];rfl) rfl rfl rfl (pimps (fun _ _ _ h=>h) <| ze) rfl,trivial⟩) ?_
      obtain ⟨v25,e25⟩:=LX (c.2.2.2++v24)
      have s26:(c.2.2.2.length+v24.length)*1≤1099511627776:=by (rw [← e24];simp only [List.length_singleton];omega)
      refine rx [] [pG cI v25] [] (fun t u w=>⟨zV (c:=cI) zR (fun _=>rfl) rfl (by rw [e25];rfl) rfl s26,trivial⟩) ?_
      exfalso
      (have dh9:=(Bool.not_eq_false' _).mp (e8.trans h9);have dh11:=LE e10 h11;have dh13:=LE e12 h13;have dh16:=(Bool.not_eq_true' _).mp (e15.trans h16);have dh19:=LE e18 h19;unfold lineS at hr;have hv:inV (vecOf l 0)=true:=(by rw [e1,e7];simpa using e8.trans h9);have hx:l.getD 3 0=x4:=zp (k:=3) s6 s5;have hg:(inV (vecOf l 0) && (decide (1≤l.getD 3 0) && decide (l.getD 3 0≤100)))=true:=(by rw [hv,hx];simp;try omega);rw [hg] at hr;simp only [if_true,Bool.false_eq_true,if_false] at hr;rw [e1,hx] at hr;rw [if_neg (by simpa using dh16)] at hr;rw [e17] at hr;rw [if_neg dh19] at hr;cases hr)
    ·
     exfalso
     (have dh9:=(Bool.not_eq_false' _).mp (e8.trans h9);have dh11:=LE e10 h11;have dh13:=LE e12 h13;have dh16:=(Bool.not_eq_false' _).mp (e15.trans h16);unfold lineS at hr;have hv:inV (vecOf l 0)=true:=(by rw [e1,e7];simpa using e8.trans h9);have hx:l.getD 3 0=x4:=zp (k:=3) s6 s5;have hg:(inV (vecOf l 0) && (decide (1≤l.getD 3 0) && decide (l.getD 3 0≤100)))=true:=(by rw [hv,hx];simp;try omega);rw [hg] at hr;simp only [if_true,Bool.false_eq_true,if_false] at hr;rw [e1,hx] at hr;rw [if_pos (by simpa using dh16)] at hr;cases hr)
end Go.Proofs.YteimplkdcjapdaaGreatDoor
