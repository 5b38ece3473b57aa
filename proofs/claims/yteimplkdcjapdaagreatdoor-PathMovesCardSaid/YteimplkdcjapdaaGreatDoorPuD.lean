/-
  Merged: SymY, TrA.
-/
import Derived.Test.YteimplkdcjapdaaGreatDoorPuC
import Derived.Lib.SlBytesRow
import Derived.Laws.Pointers
set_option linter.unusedSimpArgs false
set_option linter.unusedVariables false
namespace Go.Proofs.YteimplkdcjapdaaGreatDoor
open Go.RowKit
section
variable {K:Kit} {P:Program} {F:Fact}
def pG {α:Type} (c:α→List Pred) (l:List α):LPred:=fun vs W D=>okl (l.flatMap c) vs W D
theorem qa {α:Type} {c:α→List Pred} (hc:∀x,FineAll K (c x)) (l:List α):FineAll K (l.flatMap c):=FineAll.of fun p hp=>by
 obtain ⟨x,_,h⟩:=List.mem_flatMap.1 hp
 exact (hc x).mem p h
theorem qc {α:Type} {c:α→List Pred} (hc:∀x,FineAll K (c x)) {l:List α}:FineL K (pG c l):=⟨fun hS hO hD h=>zaz hS hO hD (qa hc l) h,fun h=>zfV (qa hc l) h⟩
theorem qC {α:Type} {c:α→List Pred} {z:Nat} (hz:∀x,(c x).length=z) (l:List α):(l.flatMap c).length=l.length*z:=by
 induction l with
 | nil=>simp
 | cons y r ih=>rw [List.flatMap_cons,List.length_append,hz,ih,List.length_cons,Nat.add_mul];omega
theorem zrI {α:Type} {c:α→List Pred} {T:TypeId} {z b n m b':Nat} {ls:List Lf} {ps:List Pred} {l:List α} {x:α} {nil:Bool} (hc:∀x,FineAll K (c x)) (hz:∀x,(c x).length=z) (hn:(nil=true∧l=[])∨(nil=false∧F.g n=pG c l)) (hm:F.g m=pG c (l++[x])) (hp:ls.map (Lf.pr F)=ps) (hps:∀vs W D,okl ps vs W D→okl (c x) vs W D)
  (hlow:ls.all (Lf.low [])=true) (hlen:(l.length+1)*z≤1099511627776):Ent.sound K P F (.app T z b n m (.o (.c (.s b' 0 1 1))) [.bx b' T ls] nil):=by
 intro β W vx hx hpre hg
 obtain ⟨q,hq,rfl⟩:=hx
 obtain ⟨q',us,hq',hh,hoks,hck,_,_⟩:=hpre _ (List.mem_cons_self ..)
 have e:q'=q:=Option.some.inj (hq'.symm.trans hq)
 subst e
 have h1:okl (c x) us.toList W β.D:=hps _ _ _ (by rw [← hp];exact (zbt hlow).1 hoks)
 have hl1:us.toList.length=z:=(zK h1).trans (hz x)
 refine ⟨us.toList,.inr ⟨⟨q',0,none⟩,1,1,rfl,by rw [hl1,Nat.one_mul],fun j u hu=>?_⟩,hck,fun vs D hv hD=>⟨?_,?_⟩⟩
 ·rw [show (⟨q',0,none⟩:Addr).add j=⟨q',0+j,none⟩ from qW ..,Nat.zero_add,zq hh]
  simpa using hu
 ·rw [hm]
  show okl ((l++[x]).flatMap c) _ W D
  rw [List.flatMap_append,List.flatMap_cons,List.flatMap_nil,List.append_nil]
  refine qB ?_ (zaz (S:=fun _=>False) (fun _ h=>h.elim) (Oth.refl _ W) hD (hc x) h1)
  rcases hn with ⟨rfl,rfl⟩ | ⟨rfl,hn⟩
  ·rw [if_pos rfl] at hv
   subst hv;trivial
  ·simp only [Bool.false_eq_true,if_false,hn] at hv
   exact hv
 ·have hl2:vs.length=l.length*z:=by
   rcases hn with ⟨rfl,rfl⟩ | ⟨rfl,hn⟩
   ·rw [if_pos rfl] at hv
    subst hv;simp
   ·simp only [Bool.false_eq_true,if_false,hn] at hv
    rw [zK hv,qC hz]
  rw [List.length_append,hl1,hl2]
  rw [Nat.add_mul,Nat.one_mul] at hlen
  exact hlen
theorem zV {α:Type} {c:α→List Pred} {T:TypeId} {z b n m k:Nat} {l l2:List α} (hc:∀x,FineAll K (c x)) (hz:∀x,(c x).length=z) (hn:F.g n=pG c l) (hm:F.g m=pG c (l++l2)) (hk:F.c k=pLs c l2) (hlen:(l.length+l2.length)*z≤1099511627776):Ent.sound K P F (.app T z b n m (.o (.c (.h k))) [] false):=by
 intro β W vx hx _ hg
 have hx':pLs c l2 vx W β.D:=by rw [← hk];exact hx
 have fin:∀us:List Value,okl (l2.flatMap c) us W β.D→∀vs D,(if false=true then vs=[] else F.g n vs W D)→(∀q,β.D q→D q)→F.g m (vs++us) W D∧(vs++us).length≤1099511627776:=by
  intro us hu vs D hv hD
  simp only [Bool.false_eq_true,if_false,hn] at hv
  refine ⟨?_,?_⟩
  ·rw [hm]
   show okl ((l++l2).flatMap c) _ W D
   rw [List.flatMap_append]
   exact qB hv (zaz (S:=fun _=>False) (fun _ h=>h.elim) (Oth.refl _ W) hD (qa hc l2) hu)
  ·rw [List.length_append,zK hv,zK hu,qC hz,qC hz,← Nat.add_mul];exact hlen
 rcases hx' with ⟨⟨A,cp,rfl⟩,h0,hnil⟩ | ⟨q,p,cp,U,cs,fz,rfl,hD,hh,hcs,hcap⟩
 ·have e:l2=[]:=List.eq_nil_of_length_eq_zero h0
  subst e
  refine ⟨[],?_,rfl,fin [] trivial⟩
  cases A with
  | none=>exact .inl ⟨⟨cp,rfl⟩,rfl⟩
  | some a=>exact .inr ⟨a,0,cp,rfl,by simp,fun j u hu=>by simp at hu⟩
 ·refine ⟨(cs.toList.drop p).take (l2.flatMap c).length,.inr ⟨⟨q,p,none⟩,l2.length,cp,rfl,?_,fun j u hu=>?_⟩,zfV (qa hc l2) hcs,fin _ hcs⟩
  ·rw [zK hcs,qC hz]
  ·rw [show (⟨q,p,none⟩:Addr).add j=⟨q,p+j,none⟩ from qW ..,zq hh]
   rw [List.getElem?_take] at hu
   split at hu
   ·simpa using hu
   ·cases hu
theorem e_glt {α:Type} {c:α→List Pred} {E:TypeId} {z n:Nat} {ls:List Lf} {ps:List Pred} {l:List α} (hn:F.g n=pG c l) (hp:ls.map (Lf.pr F)=ps) (hps:∀vs W D,okl ps vs W D→okl (l.flatMap c) vs W D) (hlow:ls.all (Lf.low [])=true) (hc:∀x,FineAll K (c x)) (hz:z≠0):Ent.sound K P F (.glt E z ls n):=by
 refine ⟨fun D W W' hO β vs hv hD=>?_,hz⟩
 rw [hn]
 exact zaz (S:=fun _=>False) (fun _ h=>h.elim) hO hD (qa hc l) (hps _ _ _ (by rw [← hp];exact (zbt hlow).1 hv))
theorem qA {id k:Nat}:Gh.sound K F ⟨id,[.gn k],[],[]⟩:=fun β a W hg _=>⟨β,hg,fun _ _=>Loc.same.rfl,fun _ h=>h,fun _ h=>.inl h,fun _ h=>(by cases h),fun _ h=>(by cases h)⟩
theorem zlb {α:Type} {c:α→List Pred} {β:Loc} {W:World} {b z n:Nat} {T:TypeId} {l:List α} (hz:∀x,(c x).length=z) (h0:0<z) (hn:F.g n=pG c l) (h:GL K F β b T z n W) :
  ∃cap,(gv β b=.slice none 0 0∧β b=none∧l=[])∨∃g cur,β b=some g∧gv β b=.slice (some ⟨g,0,none⟩) l.length cap∧W.heap[g]?=some (.cells cur T (0,0))∧l.length≤cap∧okl (l.flatMap c) (cur.toList.take (l.length*z)) W β.D:=by
 obtain ⟨xs,ho,hg,_⟩:=h
 rw [hn] at hg
 have hxl:=zK hg
 rw [qC hz,ho.1] at hxl
 have hgl:glen β b=l.length:=Nat.eq_of_mul_eq_mul_right h0 hxl
 rcases ho.2 with ⟨hv,h1⟩ | ⟨g,cap,cur,hv,_,hh,hle,_,_,htake⟩
 ·refine ⟨0,.inl ⟨hv,?_,List.eq_nil_of_length_eq_zero (by omega)⟩⟩
  unfold gv at hv
  split at hv
  ·assumption
  ·cases hv
 ·refine ⟨cap,.inr ⟨g,cur,?_,by rw [hv,hgl],hh,by omega,by rw [← hgl,htake];exact hg⟩⟩
  unfold gv at hv
  split at hv
  ·cases hv
  ·rename_i q hq
   simp only [Value.slice.injEq,Option.some.injEq,Addr.mk.injEq] at hv
   rw [hq,hv.1.1]
theorem zdV {α:Type} {c:α→List Pred} {b z n:Nat} {T R E:TypeId} {l:List α} {o:Lf} (hT:P.underlying T=some (.slice E)) (hz:∀x,(c x).length=z) (h0:0<z) (hn:F.g n=pG c l) (ho:Gives F o (.int .i64 (l.length:Int))):Ent.sound K P F (.op (.len [T] R) [LF (.gr b)] [.gl b E z n] (LF o)):=by
 intro β W vs hs hpre _
 match vs,hs with
 | [v],⟨h1,_⟩ =>
  have hv:v=gv β b:=h1
  obtain ⟨cap,h⟩:=zlb hz h0 hn (hpre _ (List.mem_cons_self ..))
  refine ⟨.int .i64 (l.length:Int),?_,(ho β _ W).2 rfl⟩
  rcases h with ⟨h2,_,rfl⟩ | ⟨g,cur,_,h2,_⟩
  ·rw [hv,h2];simp [Sig.sem,Builtin.len_,run_underlying hT,goInt]
  ·rw [hv,h2];simp [Sig.sem,Builtin.len_,run_underlying hT,goInt]
 | [],h=>exact h.elim
 | _::_::_,h=>exact h.2.elim
theorem qS {α:Type} {c:α→List Pred} {z b n k id:Nat} {ss:List Nat} {T:TypeId} {l:List α} (hz:∀x,(c x).length=z) (h0:0<z) (hc:∀x,FineAll K (c x)) (hn:F.g n=pG c l) (hk:F.c k=pLs c l):Gh.sound K F ⟨id,.gl b T z n::ss.map fun s=>.sl s (.o (.c (.gr b))),ss.map fun s=>.sl s (.o (.c (.h k))),[b]⟩:=by
 intro β a W hg hA
 obtain ⟨cap,h2⟩:=zlb (K:=K) (T:=T) hz h0 hn (hA _ (List.mem_cons_self ..))
 let β':Loc:=⟨fun x=>if x=b then none else β x,β.len,fun q=>β.D q∨β b=some q⟩
 have hb:β' b=none:=if_pos rfl
 have hne:∀x,x≠b→β' x=β x:=fun x hx=>if_neg hx
 have hsub:∀x q,β' x=some q→x≠b∧β x=some q:=fun x q hq=>by
  by_cases hx:x=b
  ·subst hx;rw [hb] at hq;cases hq
  ·exact ⟨hx,by rw [← hne x hx];exact hq⟩
 refine ⟨β',⟨fun x q hq=>hg.lt x q (hsub x q hq).2,fun x y q hx hy=>hg.inj x y q (hsub x q hx).2 (hsub y q hy).2,hg.bel,fun x q hq hD=>?_,fun q hq=>?_,fun q hq=>.inl (hg.low q hq)⟩,fun x hx=>⟨hne x (by simpa using hx),rfl⟩,fun q hq=>.inl hq,fun q hq=>hq.imp (fun h=>h) fun h=>⟨b,by simp,h⟩,fun x hx q hq=>?_,fun A hAm=>?_⟩
 ·obtain ⟨h3,h4⟩:=hsub x q hq
  rcases hD with hD | hD
  ·exact hg.dis x q h4 hD
  ·exact h3 (hg.inj x b q h4 hD)
 ·rcases hq with hq | hq
  ·exact hg.dlt q hq
  ·exact hg.lt b q hq
 ·rw [List.mem_singleton] at hx
  subst hx
  rw [hb] at hq;cases hq
 ·obtain ⟨s,hs,rfl⟩:=List.mem_map.1 hAm
  have h1:a.tmps.getD s undef=gv β b:=hA _ (List.mem_cons_of_mem _ (List.mem_map_of_mem hs))
  show F.c k (a.tmps.getD s undef) W β'.D
  rw [hk,h1]
  rcases h2 with ⟨h2,_,rfl⟩ | ⟨g,cur,hbg,h2,hh,hle,hok⟩
  ·rw [h2];exact .inl ⟨⟨_,_,rfl⟩,rfl,rfl⟩
  ·rw [h2]
   refine .inr ⟨g,0,cap,T,cur,(0,0),rfl,.inr hbg,hh,?_,hle⟩
   show okl _ ((cur.toList.drop 0).take _) W β'.D
   rw [List.drop_zero,qC hz]
   exact zaz (S:=fun _=>False) (fun _ h=>h.elim) (Oth.refl _ W) (fun q hq=>.inl hq) (qa hc l) hok
theorem zlc {α:Type} {c:α→List Pred} {β:Loc} {W:World} {b z n:Nat} {T:TypeId} (h:β b=none) (hn:F.g n=pG c ([]:List α)):GL K F β b T z n W:=by
 have e1:gv β b=.slice none 0 0:=by unfold gv;rw [h]
 have e2:glen β b=0:=by unfold glen;rw [h]
 refine ⟨[],?_,by rw [hn];trivial,fun q hq=>by rw [h] at hq;cases hq⟩
 rw [e1,e2]
 exact World.ownsRow_nil W _ T z
theorem z_gq {K:Kit} {F F':Fact} {b:Nat} {T:TypeId} {z n m:Nat} {p:LPred} (h:F.g n=p) (h':F'.g m=p):∀(β:Loc) (a:Act) (W:World),(Atom.gl b T z n).ok K F β a W→(Atom.gl b T z m).ok K F' β a W:=z_gl fun vs W D k=>by rw [h'];rw [h] at k;exact k
theorem zbT {α:Type} {c:α→List Pred} {z s b n id:Nat} {T:TypeId} (hn:F.g n=pG c ([]:List α)):Gh.sound K F ⟨id,[.sl s (.o (.c (.k (.slice none 0 0)))),.gn b],[.sl s (.o (.c (.gr b))),.gl b T z n],[]⟩:=by
 intro β a W hg hA
 have h1:a.tmps.getD s undef=.slice none 0 0:=hA _ (List.mem_cons_self ..)
 have h2:β b=none:=hA _ (List.mem_cons_of_mem _ (List.mem_cons_self ..))
 refine ⟨β,hg,fun _ _=>Loc.same.rfl,fun _ h=>h,fun _ h=>.inl h,fun c hc=>(by cases hc),fun A hAm=>?_⟩
 simp only [List.mem_cons,List.not_mem_nil,or_false] at hAm
 rcases hAm with rfl | rfl
 ·show a.tmps.getD s undef=gv β b
  rw [h1];unfold gv;rw [h2]
 ·exact zlc h2 hn
end
section
variable {K:Kit} {P:Program}
variable {F:Fact} {f:FuncId} {az:List PSh} {T:TypeId} {ps:List Pred} {as':List Sh} {ls:List Lf}
theorem ziv {b o:Nat} {T:TypeId} (hT:P.underlying T=some (.pointer (P.pointee T))):Ent.sound K P F (.bin .eql T (LF (.p b o)) (LF (.k (.pointer none))) (LF (.k (.bool false)))):=by
 intro β W vx vy hx hy
 obtain ⟨q,_,rfl⟩:=hx
 have hy':vy=.pointer none:=hy
 subst hy'
 refine ⟨.bool false,fun X Y=>?_,rfl⟩
 rw [Sem.run_bind]
 simp only [eqGuard,Sem.run_pure,Result.andThen_ok]
 exact run_eql_pointer_nil W T _ hT
theorem zaE {b o:Nat} {T:TypeId} (hT:P.underlying T=some (.pointer (P.pointee T))):Ent.sound K P F (.bin .neq T (LF (.p b o)) (LF (.k (.pointer none))) (LF (.k (.bool true)))):=by
 intro β W vx vy hx hy
 obtain ⟨q,_,rfl⟩:=hx
 have hy':vy=.pointer none:=hy
 subst hy'
 refine ⟨.bool true,fun X Y=>?_,rfl⟩
 rw [Sem.run_bind]
 simp only [eqGuard,Sem.run_pure,Result.andThen_ok]
 exact run_neq_pointer_nil W T _ hT
theorem zgQ {T:TypeId} (hT:P.underlying T=some (.pointer (P.pointee T))):Ent.sound K P F (.bin .eql T (LF (.k (.pointer none))) (LF (.k (.pointer none))) (LF (.k (.bool true)))):=by
 intro β W vx vy hx hy
 have hx':vx=.pointer none:=hx
 have hy':vy=.pointer none:=hy
 subst hx';subst hy'
 refine ⟨.bool true,fun X Y=>?_,rfl⟩
 rw [Sem.run_bind]
 simp only [eqGuard,Sem.run_pure,Result.andThen_ok]
 exact run_eql_pointer_nil W T _ hT
theorem zaZ {T:TypeId} (hT:P.underlying T=some (.pointer (P.pointee T))):Ent.sound K P F (.bin .neq T (LF (.k (.pointer none))) (LF (.k (.pointer none))) (LF (.k (.bool false)))):=by
 intro β W vx vy hx hy
 have hx':vx=.pointer none:=hx
 have hy':vy=.pointer none:=hy
 subst hx';subst hy'
 refine ⟨.bool false,fun X Y=>?_,rfl⟩
 rw [Sem.run_bind]
 simp only [eqGuard,Sem.run_pure,Result.andThen_ok]
 exact run_neq_pointer_nil W T _ hT
end
inductive SV:Type 1 where
 | v (u:Value)
 | ls {α:Type} (z:Nat) (d:α→List Pred) (c:α→List SV) (xs:List α)
 | p (xs:List SV)
 | q (p:Pred)
mutual
def SV.pr:SV→Pred
 | .v u=>pV u
 | .ls _ d _ xs=>pLs d xs
 | .p xs=>pP (SV.prs xs)
 | .q pp=>pp
def SV.prs:List SV→List Pred
 | []=>[]
 | s::r=>s.pr::SV.prs r
end
mutual
def SV.fine (K:Kit):SV→Prop
 | .v u=>K.ck u=true
 | .ls z d c _=>∀a,(c a).length=z∧SV.fines K (c a)∧SV.prs (c a)=d a
 | .p xs=>SV.fines K xs
 | .q pp=>FineC K pp
def SV.fines (K:Kit):List SV→Prop
 | []=>True
 | s::r=>s.fine K∧SV.fines K r
end
theorem zeW:∀l:List SV,(SV.prs l).length=l.length
 | []=>by rw [SV.prs];rfl
 | _::r=>by rw [SV.prs,List.length_cons,List.length_cons,zeW r]
theorem zlS:∀l m:List SV,SV.prs (l++m)=SV.prs l++SV.prs m
 | [],m=>by rw [SV.prs];rfl
 | s::r,m=>by rw [List.cons_append,SV.prs,SV.prs,zlS r m];rfl
mutual
theorem zk1 {K:Kit}:∀s:SV,s.fine K→FineC K s.pr
 | .v u,h=>by rw [SV.pr];rw [SV.fine] at h;exact zb h
 | .ls z d c xs,h=>by
  rw [SV.pr];rw [SV.fine] at h
  exact zx fun a=>(h a).2.2 ▸ zeB (c a) (h a).2.1
 | .p xs,h=>by rw [SV.pr];rw [SV.fine] at h;exact zcC (zeB xs h)
 | .q _,h=>by rw [SV.pr];rw [SV.fine] at h;exact h
theorem zeB {K:Kit}:∀l:List SV,SV.fines K l→FineAll K (SV.prs l)
 | [],_=>by rw [SV.prs];trivial
 | s::r,h=>by
  rw [SV.prs];rw [SV.fines] at h
  exact ⟨zk1 s h.1,zeB r h.2⟩
end
theorem zc5 {K:Kit}:∀{l m:List SV},SV.fines K l→SV.fines K m→SV.fines K (l++m)
 | [],_,_,h=>h
 | _::_,_,h,h2=>by
  rw [SV.fines] at h
  rw [List.cons_append,SV.fines]
  exact ⟨h.1,zc5 h.2 h2⟩
def gta {α:Type _}:List α→Nat→Option α
 | [],_=>none
 | s::_,0=>some s
 | _::r,n+1=>gta r n
theorem qt {α:Type _}:∀{l:List α} {i:Nat},gta l i=l[i]?
 | [],_=>rfl
 | _::_,0=>rfl
 | _::l,i+1=>by rw [List.getElem?_cons_succ,← qt];rfl
theorem zle {α:Type _} {l m:List α} {i:Nat} {s:α} (h:gta l i=some s):gta (l++m) i=some s:=by
 rw [qt] at *
 obtain ⟨hi,h⟩:=List.getElem?_eq_some_iff.1 h
 rw [List.getElem?_append_left hi,List.getElem?_eq_getElem hi,h]
theorem ziO {K:Kit}:∀{l:List SV} {i:Nat} {s:SV},SV.fines K l→gta l i=some s→s.fine K
 | [],_,_,_,h=>by cases h
 | _::_,0,_,hf,h=>by
  have:=Option.some.inj h;subst this
  rw [SV.fines] at hf;exact hf.1
 | _::l,i+1,_,hf,h=>by rw [SV.fines] at hf;exact ziO hf.2 h
structure Ev where
 n:Nat
 a:List SV
 g:List LPred
 o:List OPred
def Ev.look (E:Ev) (i:Nat):Option SV:=match Nat.blt i E.n with
 | true=>gta E.a (E.n - 1 - i)
 | false=>none
def FLx (E:Ev) (t:Nat→Pred) (u:Nat→LPred) (w:Nat→OPred):Fact:=⟨fun i=>match E.look i with
 | some s=>s.pr
 | none=>t i,fun i=>match gta E.g i with
 | some p=>p
 | none=>u i,fun i=>match gta E.o i with
 | some p=>p
 | none=>w i⟩
def d0:Nat→Pred:=fun _=>pV (.bool false)
def d1:Nat→LPred:=fun _ vs _ _=>vs=[]
def d2:Nat→OPred:=fun _ _ _ _ _=>True
def Ev.fine (K:Kit) (E:Ev):Prop:=SV.fines K E.a∧zS K E.g∧zC K E.o
def Ev.add (E:Ev) (s:SV):Ev:=⟨E.n+1,s::E.a,E.g,E.o⟩
def Ev.adds (E:Ev):List SV→Ev
 | []=>E
 | s::l=>(E.add s).adds l
def Ev.ext (E:Ev) (l:List SV) (g:List LPred) (o:List OPred):Ev:=⟨(E.adds l).n,(E.adds l).a,E.g++g,E.o++o⟩
structure Ag (E E':Ev):Prop where
 a:∀i s,E.look i=some s→E'.look i=some s
 g:∀i s,gta E.g i=some s→gta E'.g i=some s
 o:∀i s,gta E.o i=some s→gta E'.o i=some s
theorem Ag.rfl {E:Ev}:Ag E E:=⟨fun _ _ h=>h,fun _ _ h=>h,fun _ _ h=>h⟩
theorem Ag.trans {E E' E2:Ev} (h:Ag E E') (k:Ag E' E2):Ag E E2:=⟨fun i s e=>k.a i s (h.a i s e),fun i s e=>k.g i s (h.g i s e),fun i s e=>k.o i s (h.o i s e)⟩
theorem znF {E:Ev} {s:SV} {i:Nat} {r:SV} (h:E.look i=some r):(E.add s).look i=some r:=by
 unfold Ev.look at h ⊢
 split at h
 ·rename_i hi
  have hi:=Nat.le_of_ble_eq_true hi
  have hi:i<E.n:=hi
  have e:Nat.blt i (E.add s).n=true:=Nat.ble_eq_true_of_le (show i+1≤E.n+1 by omega)
  rw [e]
  show gta (s::E.a) (E.n+1 - 1 - i)=some r
  rw [show E.n+1 - 1 - i=(E.n - 1 - i)+1 by omega]
  exact h
 ·cases h
theorem ziU {E:Ev} {s:SV}:(E.add s).look E.n=some s:=by
 unfold Ev.look
 have e:Nat.blt E.n (E.add s).n=true:=Nat.ble_eq_true_of_le (show E.n+1≤E.n+1 by omega)
 rw [e]
 show gta (s::E.a) (E.n+1 - 1 - E.n)=some s
 rw [show E.n+1 - 1 - E.n=0 by omega];rfl
theorem zbY {r:SV} {i:Nat}:∀{l:List SV} {E:Ev},E.look i=some r→(E.adds l).look i=some r
 | [],_,h=>h
 | _::l,E,h=>zbY (l:=l) (znF h)
theorem zeH {i:Nat} {s:SV}:∀{l:List SV} {E:Ev},l[i]?=some s→(E.adds l).look (E.n+i)=some s
 | [],_,h=>by rw [List.getElem?_nil] at h;cases h
 | a::l,E,h=>by
  cases i with
  | zero =>
   have:a=s:=by simpa using h
   subst this
   exact zbY (l:=l) ziU
  | succ i =>
   have:=zeH (E:=E.add a) (l:=l) (i:=i) (s:=s) (by simpa using h)
   rw [show E.n+(i+1)=(E.add a).n+i by show _=E.n+1+i;omega]
   exact this
theorem zdN:∀{l:List SV} {E:Ev},(E.adds l).n=E.n+l.length
 | [],_=>rfl
 | a::l,E=>by
  show ((E.add a).adds l).n=_
  rw [zdN (l:=l)];show E.n+1+l.length=E.n+(l.length+1);omega
theorem zbj:∀{l:List SV} {E:Ev},(E.adds l).g=E.g∧(E.adds l).o=E.o
 | [],_=>⟨rfl,rfl⟩
 | _::l,E=>zbj (l:=l) (E:=E.add _)
theorem zaX {K:Kit}:∀{l:List SV} {E:Ev},SV.fines K E.a→SV.fines K l→SV.fines K (E.adds l).a
 | [],_,h,_=>h
 | a::l,E,h,h2=>by
  rw [SV.fines] at h2
  exact zaX (l:=l) (E:=E.add a) (by show SV.fines K (a::E.a);rw [SV.fines];exact ⟨h2.1,h⟩) h2.2
theorem zkW {E:Ev} {l:List SV} {g:List LPred} {o:List OPred}:Ag E (E.ext l g o):=⟨fun _ _ h=>zbY h,fun _ _ h=>zle h,fun _ _ h=>zle h⟩
theorem zcT {E:Ev} {l:List SV}:Ag E (E.adds l):=⟨fun _ _ h=>zbY h,fun _ _ h=>by rw [zbj.1];exact h,fun _ _ h=>by rw [zbj.2];exact h⟩
theorem zkl {E:Ev} {s:SV}:Ag E (E.add s):=zcT (l:=[s])
theorem zih {E E':Ev} (h:Ag E E') (t u w):FLx E' t u w=FLx E (FLx E' t u w).c (FLx E' t u w).g (FLx E' t u w).o:=by
 have h1:(FLx E' t u w).c=(FLx E (FLx E' t u w).c (FLx E' t u w).g (FLx E' t u w).o).c:=by
  funext i
  show _=(match E.look i with
   | some s=>s.pr
   | none=>(FLx E' t u w).c i)
  cases e:E.look i with
  | none=>rfl
  | some s =>
   show (match E'.look i with
    | some s=>s.pr
    | none=>t i)=s.pr
   rw [h.a i s e]
 have h2:(FLx E' t u w).g=(FLx E (FLx E' t u w).c (FLx E' t u w).g (FLx E' t u w).o).g:=by
  funext i
  show _=(match gta E.g i with
   | some s=>s
   | none=>(FLx E' t u w).g i)
  cases e:gta E.g i with
  | none=>rfl
  | some s =>
   show (match gta E'.g i with
    | some s=>s
    | none=>u i)=s
   rw [h.g i s e]
 have h3:(FLx E' t u w).o=(FLx E (FLx E' t u w).c (FLx E' t u w).g (FLx E' t u w).o).o:=by
  funext i
  show _=(match gta E.o i with
   | some s=>s
   | none=>(FLx E' t u w).o i)
  cases e:gta E.o i with
  | none=>rfl
  | some s =>
   show (match gta E'.o i with
    | some s=>s
    | none=>w i)=s
   rw [h.o i s e]
 generalize hF:FLx E' t u w=F at *
 cases F
 generalize hG:FLx E _ _ _=G at *
 cases G
 simp only at h1 h2 h3
 subst h1 h2 h3;rfl
theorem zfH {K:Kit}:∀{l m:List LPred},zS K l→zS K m→zS K (l++m)
 | [],_,_,h=>h
 | _::_,_,h,h2=>⟨h.1,zfH h.2 h2⟩
theorem zfI {K:Kit}:∀{l m:List OPred},zC K l→zC K m→zC K (l++m)
 | [],_,_,h=>h
 | _::_,_,h,h2=>⟨h.1,zfI h.2 h2⟩
theorem zfN {K:Kit}:∀{l:List LPred} {i:Nat} {s:LPred},zS K l→gta l i=some s→FineL K s
 | [],_,_,_,h=>by cases h
 | _::_,0,_,hf,h=>by have:=Option.some.inj h;subst this;exact hf.1
 | _::l,i+1,_,hf,h=>zfN (l:=l) hf.2 h
theorem zfO {K:Kit}:∀{l:List OPred} {i:Nat} {s:OPred},zC K l→gta l i=some s→FineO K s
 | [],_,_,_,h=>by cases h
 | _::_,0,_,hf,h=>by have:=Option.some.inj h;subst this;exact hf.1
 | _::l,i+1,_,hf,h=>zfO (l:=l) hf.2 h
theorem FLx_c {E:Ev} {i:Nat} {s:SV} {t u w} (h:E.look i=some s):(FLx E t u w).c i=s.pr:=by
 show (match E.look i with
  | some s=>s.pr
  | none=>t i)=s.pr
 rw [h]
theorem zbZ {K:Kit} {E:Ev} (hf:E.fine K) {i:Nat} {s:SV} (h:E.look i=some s):s.fine K:=by
 unfold Ev.look at h
 split at h
 ·exact ziO hf.1 h
 ·cases h
theorem za0 {K:Kit} {E:Ev} (h:E.fine K):Fine K (FLx E d0 d1 d2):=by
 have hc:∀i,FineC K ((FLx E d0 d1 d2).c i):=fun i=>by
  show FineC K (match E.look i with
   | some s=>s.pr
   | none=>d0 i)
  cases e:E.look i with
  | none=>exact zb rfl
  | some s=>exact zk1 s (zbZ h e)
 refine ⟨fun i=>(hc i).mv,fun i _=>(hc i).ck,fun i=>?_,fun i=>?_⟩
 ·show FineL K (match gta E.g i with
   | some s=>s
   | none=>d1 i)
  cases e:gta E.g i with
  | none=>exact zci (gs:=[]) trivial 0
  | some s=>exact zfN h.2.1 e
 ·show FineO K (match gta E.o i with
   | some s=>s
   | none=>d2 i)
  cases e:gta E.o i with
  | none=>exact fun _ _ _ _ _=>trivial
  | some s=>exact zfO h.2.2 e
def Ev.lf (E:Ev):Lf→Option SV
 | .h n=>E.look n
 | .k u=>some (.v u)
 | .q f []=>some (.q fun v _ _=>∃cs:Array Value,v=.func (.func f) #[] cs∧cs.toList=[])
 | _=>none
theorem lf_pr {E:Ev} {l:Lf} {s:SV} {t u w} (h:E.lf l=some s):l.pr (FLx E t u w)=s.pr∧l.low []=true:=by
 cases l with
 | h n=>exact ⟨by show (FLx E t u w).c n=_;exact FLx_c h,rfl⟩
 | k u=>have:=Option.some.inj h;subst this;exact ⟨by rw [SV.pr];rfl,rfl⟩
 | q f bs=>cases bs with
  | nil=>have:=Option.some.inj h;subst this;exact ⟨by rw [SV.pr];rfl,rfl⟩
  | cons _ _=>cases h
 | _=>cases h
theorem zc9 {E:Ev} {l:Lf} {s:SV} {t u w} (h:E.lf l=some s):Says (FLx E t u w) l s.pr:=fun β v W=>by
 obtain ⟨h1,h2⟩:=lf_pr (t:=t) (u:=u) (w:=w) h
 rw [← h1];exact Lf.pr_iff h2
theorem znA {E:Ev} {l:Lf} {x:Value} {t u w} (h:E.lf l=some (.v x)):Gives (FLx E t u w) l x:=by
 have:=zc9 (t:=t) (u:=u) (w:=w) h
 rw [SV.pr] at this;exact this
theorem zcK {E:Ev} {s:SV} {t u w}:Says (FLx (E.add s) t u w) (.h E.n) s.pr:=zc9 (E:=E.add s) (l:=.h E.n) ziU
inductive SCm where
 | c (s:SV)
 | g (l:List SV)
inductive SSh where
 | o (x:SCm)
 | t (l:List SCm)
def SCm.pc:SCm→PC
 | .c s=>.c s.pr
 | .g l=>.g (SV.prs l)
def SSh.psh:SSh→PSh
 | .o x=>.o x.pc
 | .t l=>.t (l.map SCm.pc)
def SCm.svs:SCm→List SV
 | .c s=>[s]
 | .g l=>l
def SSh.svs:SSh→List SV
 | .o x=>x.svs
 | .t l=>l.flatMap SCm.svs
def Ev.lfs (E:Ev):List Lf→Option (List SV)
 | []=>some []
 | l::r=>match E.lf l,E.lfs r with
  | some s,some m=>some (s::m)
  | _,_=>none
def Ev.cm (E:Ev):Cm→Option SCm
 | .c l=>(E.lf l).map .c
 | .g ls=>(E.lfs ls).map .g
def Ev.cms (E:Ev):List Cm→Option (List SCm)
 | []=>some []
 | l::r=>match E.cm l,E.cms r with
  | some s,some m=>some (s::m)
  | _,_=>none
def Ev.sh (E:Ev):Sh→Option SSh
 | .o x=>(E.cm x).map .o
 | .t l=>(E.cms l).map .t
def Ev.shs (E:Ev):List Sh→Option (List SSh)
 | []=>some []
 | l::r=>match E.sh l,E.shs r with
  | some s,some m=>some (s::m)
  | _,_=>none
section
variable {E:Ev} {t:Nat→Pred} {u:Nat→LPred} {w:Nat→OPred}
theorem zlo:∀{ls:List Lf} {ss:List SV},E.lfs ls=some ss→ls.map (Lf.pr (FLx E t u w))=SV.prs ss∧ls.all (Lf.low [])=true
 | [],ss,h=>by have:=Option.some.inj h;subst this;exact ⟨by rw [SV.prs];rfl,rfl⟩
 | l::r,ss,h=>by
  unfold Ev.lfs at h
  split at h
  ·rename_i s m h1 h2
   have:=Option.some.inj h;subst this
   obtain ⟨a,b⟩:=lf_pr (t:=t) (u:=u) (w:=w) h1
   obtain ⟨c,d⟩:=zlo h2
   exact ⟨by rw [SV.prs,List.map_cons,a,c],by rw [List.all_cons,b,d];rfl⟩
  ·cases h
theorem cm_pr {x:Cm} {y:SCm} (h:E.cm x=some y):x.pr (FLx E t u w)=y.pc∧x.low []=true:=by
 cases x with
 | c l =>
  obtain ⟨s,h1,rfl⟩:=Option.map_eq_some_iff.1 h
  obtain ⟨a,b⟩:=lf_pr (t:=t) (u:=u) (w:=w) h1
  exact ⟨congrArg PC.c a,b⟩
 | g l =>
  obtain ⟨s,h1,rfl⟩:=Option.map_eq_some_iff.1 h
  obtain ⟨a,b⟩:=zlo (t:=t) (u:=u) (w:=w) h1
  exact ⟨congrArg PC.g a,b⟩
theorem zo5:∀{ls:List Cm} {ss:List SCm},E.cms ls=some ss→ls.map (Cm.pr (FLx E t u w))=ss.map SCm.pc∧ls.all (Cm.low [])=true
 | [],ss,h=>by have:=Option.some.inj h;subst this;exact ⟨rfl,rfl⟩
 | l::r,ss,h=>by
  unfold Ev.cms at h
  split at h
  ·rename_i s m h1 h2
   have:=Option.some.inj h;subst this
   obtain ⟨a,b⟩:=cm_pr (t:=t) (u:=u) (w:=w) h1
   obtain ⟨c,d⟩:=zo5 h2
   exact ⟨by rw [List.map_cons,List.map_cons,a,c],by rw [List.all_cons,b,d];rfl⟩
  ·cases h
theorem sh_pr {x:Sh} {y:SSh} (h:E.sh x=some y):x.pr (FLx E t u w)=y.psh∧x.low []=true:=by
 cases x with
 | o l =>
  obtain ⟨s,h1,rfl⟩:=Option.map_eq_some_iff.1 h
  obtain ⟨a,b⟩:=cm_pr (t:=t) (u:=u) (w:=w) h1
  exact ⟨congrArg PSh.o a,b⟩
 | t l =>
  obtain ⟨s,h1,rfl⟩:=Option.map_eq_some_iff.1 h
  obtain ⟨a,b⟩:=zo5 (t:=t) (u:=u) (w:=w) h1
  exact ⟨congrArg PSh.t a,b⟩
theorem zmb:∀{ls:List Sh} {ss:List SSh},E.shs ls=some ss→ls.map (Sh.pr (FLx E t u w))=ss.map SSh.psh∧ls.all (Sh.low [])=true
 | [],ss,h=>by have:=Option.some.inj h;subst this;exact ⟨rfl,rfl⟩
 | l::r,ss,h=>by
  unfold Ev.shs at h
  split at h
  ·rename_i s m h1 h2
   have:=Option.some.inj h;subst this
   obtain ⟨a,b⟩:=sh_pr (t:=t) (u:=u) (w:=w) h1
   obtain ⟨c,d⟩:=zmb h2
   exact ⟨by rw [List.map_cons,List.map_cons,a,c],by rw [List.all_cons,b,d];rfl⟩
  ·cases h
theorem lf_ag {E':Ev} (hA:Ag E E') {x:Lf} {s:SV} (h:E.lf x=some s):E'.lf x=some s:=by
 cases x with
 | h n=>exact hA.a _ _ h
 | q f bs=>cases bs<;>exact h
 | _=>exact h
theorem zpi {E':Ev} (hA:Ag E E'):∀{ls:List Lf} {ss:List SV},E.lfs ls=some ss→E'.lfs ls=some ss
 | [],_,h=>h
 | x::r,_,h=>by
  unfold Ev.lfs at h
  split at h
  ·rename_i s m h1 h2
   rw [Ev.lfs,lf_ag hA h1,zpi hA h2];exact h
  ·cases h
theorem cm_ag {E':Ev} (hA:Ag E E') {x:Cm} {s:SCm} (h:E.cm x=some s):E'.cm x=some s:=by
 cases x with
 | c y =>
  obtain ⟨s,h1,rfl⟩:=Option.map_eq_some_iff.1 h
  exact Option.map_eq_some_iff.2 ⟨s,lf_ag hA h1,rfl⟩
 | g y =>
  obtain ⟨s,h1,rfl⟩:=Option.map_eq_some_iff.1 h
  exact Option.map_eq_some_iff.2 ⟨s,zpi hA h1,rfl⟩
theorem zo3 {E':Ev} (hA:Ag E E'):∀{ls:List Cm} {ss:List SCm},E.cms ls=some ss→E'.cms ls=some ss
 | [],_,h=>h
 | x::r,_,h=>by
  unfold Ev.cms at h
  split at h
  ·rename_i s m h1 h2
   rw [Ev.cms,cm_ag hA h1,zo3 hA h2];exact h
  ·cases h
theorem sh_ag {E':Ev} (hA:Ag E E') {x:Sh} {s:SSh} (h:E.sh x=some s):E'.sh x=some s:=by
 cases x with
 | o y =>
  obtain ⟨s,h1,rfl⟩:=Option.map_eq_some_iff.1 h
  exact Option.map_eq_some_iff.2 ⟨s,cm_ag hA h1,rfl⟩
 | t y =>
  obtain ⟨s,h1,rfl⟩:=Option.map_eq_some_iff.1 h
  exact Option.map_eq_some_iff.2 ⟨s,zo3 hA h1,rfl⟩
theorem zpE {E':Ev} (hA:Ag E E'):∀{ls:List Sh} {ss:List SSh},E.shs ls=some ss→E'.shs ls=some ss
 | [],_,h=>h
 | x::r,_,h=>by
  unfold Ev.shs at h
  split at h
  ·rename_i s m h1 h2
   rw [Ev.shs,sh_ag hA h1,zpE hA h2];exact h
  ·cases h
end
inductive KC where
 | c
 | g (k:Nat)
inductive SK where
 | o (x:KC)
 | t (l:List KC)
def hs (na:Nat):Nat→List Lf
 | 0=>[]
 | k+1=>.h na::hs (na+1) k
def KC.n:KC→Nat
 | .c=>1
 | .g k=>k
def KC.cm (na:Nat):KC→Cm
 | .c=>.c (.h na)
 | .g k=>.g (hs na k)
def kcms (na:Nat):List KC→List Cm
 | []=>[]
 | x::r=>x.cm na::kcms (na+x.n) r
def SK.sh (na:Nat):SK→Sh
 | .o x=>.o (x.cm na)
 | .t l=>.t (kcms na l)
def SK.n:SK→Nat
 | .o x=>x.n
 | .t l=>l.foldl (fun n x=>n+x.n) 0
def SCm.kc:SCm→KC
 | .c _=>.c
 | .g l=>.g l.length
def SSh.sk:SSh→SK
 | .o x=>.o x.kc
 | .t l=>.t (l.map SCm.kc)
theorem zlg {E:Ev}:∀{l:List SV} {na:Nat},(∀i,i<l.length→E.look (na+i)=l[i]?)→E.lfs (hs na l.length)=some l
 | [],_,_=>rfl
 | s::r,na,h=>by
  have h0:=h 0 (by simp)
  have h1:E.lfs (hs (na+1) r.length)=some r:=zlg fun i hi=>by
   have:=h (i+1) (by simpa using hi)
   rw [show na+(i+1)=na+1+i by omega] at this;exact this
  show (match E.lf (.h na),E.lfs (hs (na+1) r.length) with
   | some s,some m=>some (s::m)
   | _,_=>none)=_
  rw [h1,show E.lf (.h na)=some s from h0]
theorem kc_n (x:SCm):x.kc.n=x.svs.length:=by cases x<;>rfl
theorem kc_cm {E:Ev} {x:SCm} {na:Nat} (h:∀i,i<x.svs.length→E.look (na+i)=x.svs[i]?):E.cm (x.kc.cm na)=some x:=by
 cases x with
 | c s =>
  have h0:=h 0 (by simp [SCm.svs])
  show (E.look na).map SCm.c=_
  rw [show E.look na=some s from h0];rfl
 | g l =>
  show (E.lfs (hs na l.length)).map SCm.g=_
  rw [zlg (show ∀i,i<l.length→E.look (na+i)=l[i]? from h)];rfl
theorem ziT {E:Ev}:∀{l:List SCm} {na:Nat},(∀i,i<(l.flatMap SCm.svs).length→E.look (na+i)=(l.flatMap SCm.svs)[i]?)→E.cms (kcms na (l.map SCm.kc))=some l
 | [],_,_=>rfl
 | x::r,na,h=>by
  rw [List.flatMap_cons] at h
  have h1:E.cm (x.kc.cm na)=some x:=kc_cm fun i hi=>by
   rw [h i (by rw [List.length_append];omega),List.getElem?_append_left hi]
  have h2:E.cms (kcms (na+x.kc.n) (r.map SCm.kc))=some r:=ziT fun i hi=>by
   rw [kc_n,Nat.add_assoc,h _ (by rw [List.length_append];omega),List.getElem?_append_right (by omega),Nat.add_sub_cancel_left]
  show (match E.cm (x.kc.cm na),E.cms (kcms (na+x.kc.n) (r.map SCm.kc)) with
   | some s,some m=>some (s::m)
   | _,_=>none)=_
  rw [h1,h2]
theorem sk_sh {E:Ev} {y:SSh}:(E.adds y.svs).sh (y.sk.sh E.n)=some y:=by
 have hk:∀i,i<y.svs.length→(E.adds y.svs).look (E.n+i)=y.svs[i]?:=fun i hi=>by
  rw [List.getElem?_eq_getElem hi];exact zeH (List.getElem?_eq_getElem hi)
 cases y with
 | o x =>
  show ((E.adds x.svs).cm (x.kc.cm E.n)).map SSh.o=_
  rw [kc_cm (show ∀i,i<x.svs.length→(E.adds x.svs).look (E.n+i)=x.svs[i]? from hk)];rfl
 | t l =>
  show ((E.adds (SSh.t l).svs).cms (kcms E.n (l.map SCm.kc))).map SSh.t=_
  rw [ziT (show ∀i,i<(l.flatMap SCm.svs).length→(E.adds (SSh.t l).svs).look (E.n+i)=(l.flatMap SCm.svs)[i]? from hk)];rfl
theorem zk6:∀{l:List SCm} {n:Nat},(l.map SCm.kc).foldl (fun n x=>n+x.n) n=n+(l.flatMap SCm.svs).length
 | [],n=>by simp
 | x::r,n=>by rw [List.map_cons,List.foldl_cons,zk6,List.flatMap_cons,List.length_append,kc_n];omega
theorem sk_n (y:SSh):y.sk.n=y.svs.length:=by
 cases y with
 | o x=>exact kc_n x
 | t l=>show (l.map SCm.kc).foldl _ 0=_;rw [zk6];exact Nat.zero_add _
def SFun (K:Kit) (P:Program) (f:FuncId) (as:List SSh) (r:SSh):Prop:=SV.fines K r.svs∧Fun K P f (as.map SSh.psh) r.psh
def SPan (K:Kit) (P:Program) (f:FuncId) (as:List SSh) (r:SSh):Prop:=PFun K P f (as.map SSh.psh) r.psh
end Go.Proofs.YteimplkdcjapdaaGreatDoor
