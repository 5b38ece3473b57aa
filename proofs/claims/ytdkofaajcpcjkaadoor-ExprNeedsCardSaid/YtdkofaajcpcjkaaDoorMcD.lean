/-
  Merged: SymY.
-/
import Derived.Test.YtdkofaajcpcjkaaDoorMcC
import Derived.Lib.SlBytesRow
import Derived.Laws.Pointers
set_option linter.unusedSimpArgs false
set_option linter.unusedVariables false
namespace Go.Proofs.YtdkofaajcpcjkaaDoor
open Go.RowKit
section
variable {K:Kit} {P:Program} {F:Fact}
def pG {α:Type} (c:α→List Pred) (l:List α):LPred:=fun vs W D=>okl (l.flatMap c) vs W D
theorem q7 {α:Type} {c:α→List Pred} (hc:∀x,FineAll K (c x)) (l:List α):FineAll K (l.flatMap c):=FineAll.of fun p hp=>by
 obtain ⟨x,_,h⟩:=List.mem_flatMap.1 hp
 exact (hc x).mem p h
theorem zk {α:Type} {c:α→List Pred} (hc:∀x,FineAll K (c x)) {l:List α}:FineL K (pG c l):=⟨fun hS hO hD h=>zbi hS hO hD (q7 hc l) h,fun h=>zhX (q7 hc l) h⟩
theorem zag {α:Type} {c:α→List Pred} {z:Nat} (hz:∀x,(c x).length=z) (l:List α):(l.flatMap c).length=l.length*z:=by
 induction l with
 | nil=>simp
 | cons y r ih=>rw [List.flatMap_cons,List.length_append,hz,ih,List.length_cons,Nat.add_mul];omega
theorem zmH {α:Type} {c:α→List Pred} {T:TypeId} {z b n m b':Nat} {ls:List Lf} {ps:List Pred} {l:List α} {x:α} {nil:Bool} (hc:∀x,FineAll K (c x)) (hz:∀x,(c x).length=z) (hn:(nil=true∧l=[])∨(nil=false∧F.g n=pG c l)) (hm:F.g m=pG c (l++[x])) (hp:ls.map (Lf.pr F)=ps) (hps:∀vs W D,okl ps vs W D→okl (c x) vs W D)
  (hlow:ls.all (Lf.low [])=true) (hlen:(l.length+1)*z≤1099511627776):Ent.sound K P F (.app T z b n m (.o (.c (.s b' 0 1 1))) [.bx b' T ls] nil):=by
 intro β W vx hx hpre hg
 obtain ⟨q,hq,rfl⟩:=hx
 obtain ⟨q',us,hq',hh,hoks,hck,_,_⟩:=hpre _ (List.mem_cons_self ..)
 have e:q'=q:=Option.some.inj (hq'.symm.trans hq)
 subst e
 have h1:okl (c x) us.toList W β.D:=hps _ _ _ (by rw [← hp];exact (zbF hlow).1 hoks)
 have hl1:us.toList.length=z:=(qo h1).trans (hz x)
 refine ⟨us.toList,.inr ⟨⟨q',0,none⟩,1,1,rfl,by rw [hl1,Nat.one_mul],fun j u hu=>?_⟩,hck,fun vs D hv hD=>⟨?_,?_⟩⟩
 ·rw [show (⟨q',0,none⟩:Addr).add j=⟨q',0+j,none⟩ from zaz ..,Nat.zero_add,qV hh]
  simpa using hu
 ·rw [hm]
  show okl ((l++[x]).flatMap c) _ W D
  rw [List.flatMap_append,List.flatMap_cons,List.flatMap_nil,List.append_nil]
  refine zan ?_ (zbi (S:=fun _=>False) (fun _ h=>h.elim) (Oth.refl _ W) hD (hc x) h1)
  rcases hn with ⟨rfl,rfl⟩ | ⟨rfl,hn⟩
  ·rw [if_pos rfl] at hv
   subst hv;trivial
  ·simp only [Bool.false_eq_true,if_false,hn] at hv
   exact hv
 ·have hl2:vs.length=l.length*z:=by
   rcases hn with ⟨rfl,rfl⟩ | ⟨rfl,hn⟩
   ·rw [if_pos rfl] at hv
    subst hv;simp
   ·simp only [Bool.false_eq_true,if_false,hn] at hv
    rw [qo hv,zag hz]
  rw [List.length_append,hl1,hl2]
  rw [Nat.add_mul,Nat.one_mul] at hlen
  exact hlen
theorem qi {α:Type} {c:α→List Pred} {T:TypeId} {z b n m k:Nat} {l l2:List α} (hc:∀x,FineAll K (c x)) (hz:∀x,(c x).length=z) (hn:F.g n=pG c l) (hm:F.g m=pG c (l++l2)) (hk:F.c k=pLs c l2) (hlen:(l.length+l2.length)*z≤1099511627776):Ent.sound K P F (.app T z b n m (.o (.c (.h k))) [] false):=by
 intro β W vx hx _ hg
 have hx':pLs c l2 vx W β.D:=by rw [← hk];exact hx
 have fin:∀us:List Value,okl (l2.flatMap c) us W β.D→∀vs D,(if false=true then vs=[] else F.g n vs W D)→(∀q,β.D q→D q)→F.g m (vs++us) W D∧(vs++us).length≤1099511627776:=by
  intro us hu vs D hv hD
  simp only [Bool.false_eq_true,if_false,hn] at hv
  refine ⟨?_,?_⟩
  ·rw [hm]
   show okl ((l++l2).flatMap c) _ W D
   rw [List.flatMap_append]
   exact zan hv (zbi (S:=fun _=>False) (fun _ h=>h.elim) (Oth.refl _ W) hD (q7 hc l2) hu)
  ·rw [List.length_append,qo hv,qo hu,zag hz,zag hz,← Nat.add_mul];exact hlen
 rcases hx' with ⟨⟨A,cp,rfl⟩,h0,hnil⟩ | ⟨q,p,cp,U,cs,fz,rfl,hD,hh,hcs,hcap⟩
 ·have e:l2=[]:=List.eq_nil_of_length_eq_zero h0
  subst e
  refine ⟨[],?_,rfl,fin [] trivial⟩
  cases A with
  | none=>exact .inl ⟨⟨cp,rfl⟩,rfl⟩
  | some a=>exact .inr ⟨a,0,cp,rfl,by simp,fun j u hu=>by simp at hu⟩
 ·refine ⟨(cs.toList.drop p).take (l2.flatMap c).length,.inr ⟨⟨q,p,none⟩,l2.length,cp,rfl,?_,fun j u hu=>?_⟩,zhX (q7 hc l2) hcs,fin _ hcs⟩
  ·rw [qo hcs,zag hz]
  ·rw [show (⟨q,p,none⟩:Addr).add j=⟨q,p+j,none⟩ from zaz ..,qV hh]
   rw [List.getElem?_take] at hu
   split at hu
   ·simpa using hu
   ·cases hu
theorem qj {α:Type} {c:α→List Pred} {T:TypeId} {z b n m b' k:Nat} {ls:List Lf} {ps:List Pred} {l l2:List α} (hc:∀x,FineAll K (c x)) (hz:∀x,(c x).length=z) (hn:F.g n=pG c l) (hm:F.g m=pG c (l++l2)) (hp:ls.map (Lf.pr F)=ps) (hps:∀vs W D,okl ps vs W D→okl (l2.flatMap c) vs W D) (hk:l2.length=k)
  (hlow:ls.all (Lf.low [])=true) (hlen:(l.length+l2.length)*z≤1099511627776):Ent.sound K P F (.app T z b n m (.o (.c (.s b' 0 k k))) [.bx b' T ls] false):=by
 intro β W vx hx hpre hg
 obtain ⟨q,hq,rfl⟩:=hx
 obtain ⟨q',us,hq',hh,hoks,hck,_,_⟩:=hpre _ (List.mem_cons_self ..)
 have e:q'=q:=Option.some.inj (hq'.symm.trans hq)
 subst e
 have h1:okl (l2.flatMap c) us.toList W β.D:=hps _ _ _ (by rw [← hp];exact (zbF hlow).1 hoks)
 have hl1:us.toList.length=l2.length*z:=(qo h1).trans (zag hz l2)
 refine ⟨us.toList,.inr ⟨⟨q',0,none⟩,k,k,rfl,by rw [hl1,hk],fun j u hu=>?_⟩,hck,fun vs D hv hD=>⟨?_,?_⟩⟩
 ·rw [show (⟨q',0,none⟩:Addr).add j=⟨q',0+j,none⟩ from zaz ..,Nat.zero_add,qV hh]
  simpa using hu
 ·simp only [Bool.false_eq_true,if_false,hn] at hv
  rw [hm]
  show okl ((l++l2).flatMap c) _ W D
  rw [List.flatMap_append]
  exact zan hv (zbi (S:=fun _=>False) (fun _ h=>h.elim) (Oth.refl _ W) hD (q7 hc l2) h1)
 ·simp only [Bool.false_eq_true,if_false,hn] at hv
  rw [List.length_append,hl1,qo hv,zag hz,← Nat.add_mul];exact hlen
theorem e_glt {α:Type} {c:α→List Pred} {E:TypeId} {z n:Nat} {ls:List Lf} {ps:List Pred} {l:List α} (hn:F.g n=pG c l) (hp:ls.map (Lf.pr F)=ps) (hps:∀vs W D,okl ps vs W D→okl (l.flatMap c) vs W D) (hlow:ls.all (Lf.low [])=true) (hc:∀x,FineAll K (c x)) (hz:z≠0):Ent.sound K P F (.glt E z ls n):=by
 refine ⟨fun D W W' hO β vs hv hD=>?_,hz⟩
 rw [hn]
 exact zbi (S:=fun _=>False) (fun _ h=>h.elim) hO hD (q7 hc l) (hps _ _ _ (by rw [← hp];exact (zbF hlow).1 hv))
theorem zR {id k:Nat}:Gh.sound K F ⟨id,[.gn k],[],[]⟩:=fun β a W hg _=>⟨β,hg,fun _ _=>Loc.same.rfl,fun _ h=>h,fun _ h=>.inl h,fun _ h=>(by cases h),fun _ h=>(by cases h)⟩
theorem zlt {α:Type} {c:α→List Pred} {β:Loc} {W:World} {b z n:Nat} {T:TypeId} {l:List α} (hz:∀x,(c x).length=z) (h0:0<z) (hn:F.g n=pG c l) (h:GL K F β b T z n W) :
  ∃cap,(gv β b=.slice none 0 0∧β b=none∧l=[])∨∃g cur,β b=some g∧gv β b=.slice (some ⟨g,0,none⟩) l.length cap∧W.heap[g]?=some (.cells cur T (0,0))∧l.length≤cap∧okl (l.flatMap c) (cur.toList.take (l.length*z)) W β.D:=by
 obtain ⟨xs,ho,hg,_⟩:=h
 rw [hn] at hg
 have hxl:=qo hg
 rw [zag hz,ho.1] at hxl
 have hgl:glen β b=l.length:=Nat.eq_of_mul_eq_mul_right h0 hxl
 rcases ho.2 with ⟨hv,h1⟩ | ⟨g,cap,cur,hv,_,hh,hle,_,_,htake⟩
 ·refine ⟨0,.inl ⟨hv,?_,List.eq_nil_of_length_eq_zero (by omega)⟩⟩
  unfold gv at hv
  split at hv
  ·assumption
  ·cases hv
 ·refine ⟨cap,.inr ⟨g,cur,?_,by rw [hv,hgl],hh,by omega,by rw [← hgl,htake];exact hg⟩⟩
  unfold gv at hv
  split at hv
  ·cases hv
  ·rename_i q hq
   simp only [Value.slice.injEq,Option.some.injEq,Addr.mk.injEq] at hv
   rw [hq,hv.1.1]
theorem zD {α:Type} {c:α→List Pred} {z b n k id:Nat} {ss:List Nat} {T:TypeId} {l:List α} (hz:∀x,(c x).length=z) (h0:0<z) (hc:∀x,FineAll K (c x)) (hn:F.g n=pG c l) (hk:F.c k=pLs c l):Gh.sound K F ⟨id,.gl b T z n::ss.map fun s=>.sl s (.o (.c (.gr b))),ss.map fun s=>.sl s (.o (.c (.h k))),[b]⟩:=by
 intro β a W hg hA
 obtain ⟨cap,h2⟩:=zlt (K:=K) (T:=T) hz h0 hn (hA _ (List.mem_cons_self ..))
 let β':Loc:=⟨fun x=>if x=b then none else β x,β.len,fun q=>β.D q∨β b=some q⟩
 have hb:β' b=none:=if_pos rfl
 have hne:∀x,x≠b→β' x=β x:=fun x hx=>if_neg hx
 have hsub:∀x q,β' x=some q→x≠b∧β x=some q:=fun x q hq=>by
  by_cases hx:x=b
  ·subst hx;rw [hb] at hq;cases hq
  ·exact ⟨hx,by rw [← hne x hx];exact hq⟩
 refine ⟨β',⟨fun x q hq=>hg.lt x q (hsub x q hq).2,fun x y q hx hy=>hg.inj x y q (hsub x q hx).2 (hsub y q hy).2,hg.bel,fun x q hq hD=>?_,fun q hq=>?_,fun q hq=>.inl (hg.low q hq)⟩,fun x hx=>⟨hne x (by simpa using hx),rfl⟩,fun q hq=>.inl hq,fun q hq=>hq.imp (fun h=>h) fun h=>⟨b,by simp,h⟩,fun x hx q hq=>?_,fun A hAm=>?_⟩
 ·obtain ⟨h3,h4⟩:=hsub x q hq
  rcases hD with hD | hD
  ·exact hg.dis x q h4 hD
  ·exact h3 (hg.inj x b q h4 hD)
 ·rcases hq with hq | hq
  ·exact hg.dlt q hq
  ·exact hg.lt b q hq
 ·rw [List.mem_singleton] at hx
  subst hx
  rw [hb] at hq;cases hq
 ·obtain ⟨s,hs,rfl⟩:=List.mem_map.1 hAm
  have h1:a.tmps.getD s undef=gv β b:=hA _ (List.mem_cons_of_mem _ (List.mem_map_of_mem hs))
  show F.c k (a.tmps.getD s undef) W β'.D
  rw [hk,h1]
  rcases h2 with ⟨h2,_,rfl⟩ | ⟨g,cur,hbg,h2,hh,hle,hok⟩
  ·rw [h2];exact .inl ⟨⟨_,_,rfl⟩,rfl,rfl⟩
  ·rw [h2]
   refine .inr ⟨g,0,cap,T,cur,(0,0),rfl,.inr hbg,hh,?_,hle⟩
   show okl _ ((cur.toList.drop 0).take _) W β'.D
   rw [List.drop_zero,zag hz]
   exact zbi (S:=fun _=>False) (fun _ h=>h.elim) (Oth.refl _ W) (fun q hq=>.inl hq) (q7 hc l) hok
end
section
variable {K:Kit} {P:Program}
variable {F:Fact} {f:FuncId} {az:List PSh} {T:TypeId} {ps:List Pred} {as':List Sh} {ls:List Lf}
end
end Go.Proofs.YtdkofaajcpcjkaaDoor
