/-
  Merged: SymY.
-/
import Derived.Test.YtdkofaajcpcjkaaGreatDoorMTC
import Derived.Lib.SlBytesRow
import Derived.Laws.Pointers
set_option linter.unusedSimpArgs false
set_option linter.unusedVariables false
namespace Go.Proofs.YtdkofaajcpcjkaaGreatDoor
open Go.RowKit
section
variable {K:Kit} {P:Program} {F:Fact}
def pG {α:Type} (c:α→List Pred) (l:List α):LPred:=fun vs W D=>okl (l.flatMap c) vs W D
theorem zaP {α:Type} {c:α→List Pred} (hc:∀x,FineAll K (c x)) (l:List α):FineAll K (l.flatMap c):=FineAll.of fun p hp=>by
 obtain ⟨x,_,h⟩:=List.mem_flatMap.1 hp
 exact (hc x).mem p h
theorem qO {α:Type} {c:α→List Pred} (hc:∀x,FineAll K (c x)) {l:List α}:FineL K (pG c l):=⟨fun hS hO hD h=>zcM hS hO hD (zaP hc l) h,fun h=>zj5 (zaP hc l) h⟩
theorem q6 {α:Type} {c:α→List Pred} {z:Nat} (hz:∀x,(c x).length=z) (l:List α):(l.flatMap c).length=l.length*z:=by
 induction l with
 | nil=>simp
 | cons y r ih=>rw [List.flatMap_cons,List.length_append,hz,ih,List.length_cons,Nat.add_mul];omega
theorem zoS {α:Type} {c:α→List Pred} {T:TypeId} {z b n m k:Nat} {l l2:List α} (hc:∀x,FineAll K (c x)) (hz:∀x,(c x).length=z) (hn:F.g n=pG c l) (hm:F.g m=pG c (l++l2)) (hk:F.c k=pLs c l2) (hlen:(l.length+l2.length)*z≤1099511627776):Ent.sound K P F (.app T z b n m (.o (.c (.h k))) [] false):=by
 intro β W vx hx _ hg
 have hx':pLs c l2 vx W β.D:=by rw [← hk];exact hx
 have fin:∀us:List Value,okl (l2.flatMap c) us W β.D→∀vs D,(if false=true then vs=[] else F.g n vs W D)→(∀q,β.D q→D q)→F.g m (vs++us) W D∧(vs++us).length≤1099511627776:=by
  intro us hu vs D hv hD
  simp only [Bool.false_eq_true,if_false,hn] at hv
  refine ⟨?_,?_⟩
  ·rw [hm]
   show okl ((l++l2).flatMap c) _ W D
   rw [List.flatMap_append]
   exact zau hv (zcM (S:=fun _=>False) (fun _ h=>h.elim) (Oth.refl _ W) hD (zaP hc l2) hu)
  ·rw [List.length_append,qF hv,qF hu,q6 hz,q6 hz,← Nat.add_mul];exact hlen
 rcases hx' with ⟨⟨A,cp,rfl⟩,h0,hnil⟩ | ⟨q,p,cp,U,cs,fz,rfl,hD,hh,hcs,hcap⟩
 ·have e:l2=[]:=List.eq_nil_of_length_eq_zero h0
  subst e
  refine ⟨[],?_,rfl,fin [] trivial⟩
  cases A with
  | none=>exact .inl ⟨⟨cp,rfl⟩,rfl⟩
  | some a=>exact .inr ⟨a,0,cp,rfl,by simp,fun j u hu=>by simp at hu⟩
 ·refine ⟨(cs.toList.drop p).take (l2.flatMap c).length,.inr ⟨⟨q,p,none⟩,l2.length,cp,rfl,?_,fun j u hu=>?_⟩,zj5 (zaP hc l2) hcs,fin _ hcs⟩
  ·rw [qF hcs,q6 hz]
  ·rw [show (⟨q,p,none⟩:Addr).add j=⟨q,p+j,none⟩ from zan ..,qz hh]
   rw [List.getElem?_take] at hu
   split at hu
   ·simpa using hu
   ·cases hu
theorem e_glt {α:Type} {c:α→List Pred} {E:TypeId} {z n:Nat} {ls:List Lf} {ps:List Pred} {l:List α} (hn:F.g n=pG c l) (hp:ls.map (Lf.pr F)=ps) (hps:∀vs W D,okl ps vs W D→okl (l.flatMap c) vs W D) (hlow:ls.all (Lf.low [])=true) (hc:∀x,FineAll K (c x)) (hz:z≠0):Ent.sound K P F (.glt E z ls n):=by
 refine ⟨fun D W W' hO β vs hv hD=>?_,hz⟩
 rw [hn]
 exact zcM (S:=fun _=>False) (fun _ h=>h.elim) hO hD (zaP hc l) (hps _ _ _ (by rw [← hp];exact (zcz hlow).1 hv))
theorem zna {α:Type} {c:α→List Pred} {β:Loc} {W:World} {b z n:Nat} {T:TypeId} {l:List α} (hz:∀x,(c x).length=z) (h0:0<z) (hn:F.g n=pG c l) (h:GL K F β b T z n W) :
  ∃cap,(gv β b=.slice none 0 0∧β b=none∧l=[])∨∃g cur,β b=some g∧gv β b=.slice (some ⟨g,0,none⟩) l.length cap∧W.heap[g]?=some (.cells cur T (0,0))∧l.length≤cap∧okl (l.flatMap c) (cur.toList.take (l.length*z)) W β.D:=by
 obtain ⟨xs,ho,hg,_⟩:=h
 rw [hn] at hg
 have hxl:=qF hg
 rw [q6 hz,ho.1] at hxl
 have hgl:glen β b=l.length:=Nat.eq_of_mul_eq_mul_right h0 hxl
 rcases ho.2 with ⟨hv,h1⟩ | ⟨g,cap,cur,hv,_,hh,hle,_,_,htake⟩
 ·refine ⟨0,.inl ⟨hv,?_,List.eq_nil_of_length_eq_zero (by omega)⟩⟩
  unfold gv at hv
  split at hv
  ·assumption
  ·cases hv
 ·refine ⟨cap,.inr ⟨g,cur,?_,by rw [hv,hgl],hh,by omega,by rw [← hgl,htake];exact hg⟩⟩
  unfold gv at hv
  split at hv
  ·cases hv
  ·rename_i q hq
   simp only [Value.slice.injEq,Option.some.injEq,Addr.mk.injEq] at hv
   rw [hq,hv.1.1]
theorem zoU {α:Type} {c:α→List Pred} {b z n:Nat} {T R E:TypeId} {l:List α} {o:Lf} (hT:P.underlying T=some (.slice E)) (hz:∀x,(c x).length=z) (h0:0<z) (hn:F.g n=pG c l) (ho:Gives F o (.int .i64 (l.length:Int))):Ent.sound K P F (.op (.len [T] R) [LF (.gr b)] [.gl b E z n] (LF o)):=by
 intro β W vs hs hpre _
 match vs,hs with
 | [v],⟨h1,_⟩ =>
  have hv:v=gv β b:=h1
  obtain ⟨cap,h⟩:=zna hz h0 hn (hpre _ (List.mem_cons_self ..))
  refine ⟨.int .i64 (l.length:Int),?_,(ho β _ W).2 rfl⟩
  rcases h with ⟨h2,_,rfl⟩ | ⟨g,cur,_,h2,_⟩
  ·rw [hv,h2];simp [Sig.sem,Builtin.len_,run_underlying hT,goInt]
  ·rw [hv,h2];simp [Sig.sem,Builtin.len_,run_underlying hT,goInt]
 | [],h=>exact h.elim
 | _::_::_,h=>exact h.2.elim
theorem zjO {α:Type} {c:α→List Pred} {z b n k id:Nat} {ss:List Nat} {T:TypeId} {l:List α} (hz:∀x,(c x).length=z) (h0:0<z) (hc:∀x,FineAll K (c x)) (hn:F.g n=pG c l) (hk:F.c k=pLs c l):Gh.sound K F ⟨id,.gl b T z n::ss.map fun s=>.sl s (.o (.c (.gr b))),ss.map fun s=>.sl s (.o (.c (.h k))),[b]⟩:=by
 intro β a W hg hA
 obtain ⟨cap,h2⟩:=zna (K:=K) (T:=T) hz h0 hn (hA _ (List.mem_cons_self ..))
 let β':Loc:=⟨fun x=>if x=b then none else β x,β.len,fun q=>β.D q∨β b=some q⟩
 have hb:β' b=none:=if_pos rfl
 have hne:∀x,x≠b→β' x=β x:=fun x hx=>if_neg hx
 have hsub:∀x q,β' x=some q→x≠b∧β x=some q:=fun x q hq=>by
  by_cases hx:x=b
  ·subst hx;rw [hb] at hq;cases hq
  ·exact ⟨hx,by rw [← hne x hx];exact hq⟩
 refine ⟨β',⟨fun x q hq=>hg.lt x q (hsub x q hq).2,fun x y q hx hy=>hg.inj x y q (hsub x q hx).2 (hsub y q hy).2,hg.bel,fun x q hq hD=>?_,fun q hq=>?_,fun q hq=>.inl (hg.low q hq)⟩,fun x hx=>⟨hne x (by simpa using hx),rfl⟩,fun q hq=>.inl hq,fun q hq=>hq.imp (fun h=>h) fun h=>⟨b,by simp,h⟩,fun x hx q hq=>?_,fun A hAm=>?_⟩
 ·obtain ⟨h3,h4⟩:=hsub x q hq
  rcases hD with hD | hD
  ·exact hg.dis x q h4 hD
  ·exact h3 (hg.inj x b q h4 hD)
 ·rcases hq with hq | hq
  ·exact hg.dlt q hq
  ·exact hg.lt b q hq
 ·rw [List.mem_singleton] at hx
  subst hx
  rw [hb] at hq;cases hq
 ·obtain ⟨s,hs,rfl⟩:=List.mem_map.1 hAm
  have h1:a.tmps.getD s undef=gv β b:=hA _ (List.mem_cons_of_mem _ (List.mem_map_of_mem hs))
  show F.c k (a.tmps.getD s undef) W β'.D
  rw [hk,h1]
  rcases h2 with ⟨h2,_,rfl⟩ | ⟨g,cur,hbg,h2,hh,hle,hok⟩
  ·rw [h2];exact .inl ⟨⟨_,_,rfl⟩,rfl,rfl⟩
  ·rw [h2]
   refine .inr ⟨g,0,cap,T,cur,(0,0),rfl,.inr hbg,hh,?_,hle⟩
   show okl _ ((cur.toList.drop 0).take _) W β'.D
   rw [List.drop_zero,q6 hz]
   exact zcM (S:=fun _=>False) (fun _ h=>h.elim) (Oth.refl _ W) (fun q hq=>.inl hq) (zaP hc l) hok
theorem znE {α:Type} {c:α→List Pred} {β:Loc} {W:World} {b z n:Nat} {T:TypeId} (h:β b=none) (hn:F.g n=pG c ([]:List α)):GL K F β b T z n W:=by
 have e1:gv β b=.slice none 0 0:=by unfold gv;rw [h]
 have e2:glen β b=0:=by unfold glen;rw [h]
 refine ⟨[],?_,by rw [hn];trivial,fun q hq=>by rw [h] at hq;cases hq⟩
 rw [e1,e2]
 exact World.ownsRow_nil W _ T z
theorem z_gq {K:Kit} {F F':Fact} {b:Nat} {T:TypeId} {z n m:Nat} {p:LPred} (h:F.g n=p) (h':F'.g m=p):∀(β:Loc) (a:Act) (W:World),(Atom.gl b T z n).ok K F β a W→(Atom.gl b T z m).ok K F' β a W:=z_gl fun vs W D k=>by rw [h'];rw [h] at k;exact k
end
section
variable {K:Kit} {P:Program}
variable {F:Fact} {f:FuncId} {az:List PSh} {T:TypeId} {ps:List Pred} {as':List Sh} {ls:List Lf}
end
end Go.Proofs.YtdkofaajcpcjkaaGreatDoor
