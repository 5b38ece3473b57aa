/-
  Merged: SymY.
-/
import Derived.Test.YtjcegdldgjphiaaGreatDoorGpAT
import Derived.Lib.SlBytesRow
import Derived.Laws.Pointers
set_option linter.unusedSimpArgs false
set_option linter.unusedVariables false
namespace Go.Proofs.YtjcegdldgjphiaaGreatDoor
open Go.RowKit
section
variable {K:Kit} {P:Program} {F:Fact}
def pG {α:Type} (c:α→List Pred) (l:List α):LPred:=fun vs W D=>okl (l.flatMap c) vs W D
theorem zc3 {α:Type} {c:α→List Pred} (hc:∀x,FineAll K (c x)) (l:List α):FineAll K (l.flatMap c):=FineAll.of fun p hp=>by
 obtain ⟨x,_,h⟩:=List.mem_flatMap.1 hp
 exact (hc x).mem p h
theorem zy {α:Type} {c:α→List Pred} (hc:∀x,FineAll K (c x)) {l:List α}:FineL K (pG c l):=⟨fun hS hO hD h=>zd6 hS hO hD (zc3 hc l) h,fun h=>zo5 (zc3 hc l) h⟩
theorem zbR {α:Type} {c:α→List Pred} {z:Nat} (hz:∀x,(c x).length=z) (l:List α):(l.flatMap c).length=l.length*z:=by
 induction l with
 | nil=>simp
 | cons y r ih=>rw [List.flatMap_cons,List.length_append,hz,ih,List.length_cons,Nat.add_mul];omega
theorem zfR {α:Type} {c:α→List Pred} {T:TypeId} {z b n m b':Nat} {ls:List Lf} {ps:List Pred} {l:List α} {x:α} {nil:Bool} (hc:∀x,FineAll K (c x)) (hz:∀x,(c x).length=z) (hn:(nil=true∧l=[])∨(nil=false∧F.g n=pG c l)) (hm:F.g m=pG c (l++[x])) (hp:ls.map (Lf.pr F)=ps) (hps:∀vs W D,okl ps vs W D→okl (c x) vs W D)
  (hlow:ls.all (Lf.low [])=true) (hlen:(l.length+1)*z≤1099511627776):Ent.sound K P F (.app T z b n m (.o (.c (.s b' 0 1 1))) [.bx b' T ls] nil):=by
 intro β W vx hx hpre hg
 obtain ⟨q,hq,rfl⟩:=hx
 obtain ⟨q',us,hq',hh,hoks,hck,_,_⟩:=hpre _ (List.mem_cons_self ..)
 have e:q'=q:=Option.some.inj (hq'.symm.trans hq)
 subst e
 have h1:okl (c x) us.toList W β.D:=hps _ _ _ (by rw [← hp];exact (zce hlow).1 hoks)
 have hl1:us.toList.length=z:=(zaa h1).trans (hz x)
 refine ⟨us.toList,.inr ⟨⟨q',0,none⟩,1,1,rfl,by rw [hl1,Nat.one_mul],fun j u hu=>?_⟩,hck,fun vs D hv hD=>⟨?_,?_⟩⟩
 ·rw [show (⟨q',0,none⟩:Addr).add j=⟨q',0+j,none⟩ from zbr ..,Nat.zero_add,zao hh]
  simpa using hu
 ·rw [hm]
  show okl ((l++[x]).flatMap c) _ W D
  rw [List.flatMap_append,List.flatMap_cons,List.flatMap_nil,List.append_nil]
  refine zbA ?_ (zd6 (S:=fun _=>False) (fun _ h=>h.elim) (Oth.refl _ W) hD (hc x) h1)
  rcases hn with ⟨rfl,rfl⟩ | ⟨rfl,hn⟩
  ·rw [if_pos rfl] at hv
   subst hv;trivial
  ·simp only [Bool.false_eq_true,if_false,hn] at hv
   exact hv
 ·have hl2:vs.length=l.length*z:=by
   rcases hn with ⟨rfl,rfl⟩ | ⟨rfl,hn⟩
   ·rw [if_pos rfl] at hv
    subst hv;simp
   ·simp only [Bool.false_eq_true,if_false,hn] at hv
    rw [zaa hv,zbR hz]
  rw [List.length_append,hl1,hl2]
  rw [Nat.add_mul,Nat.one_mul] at hlen
  exact hlen
theorem zlK {α:Type} {c:α→List Pred} {β:Loc} {W:World} {b z n:Nat} {T:TypeId} {l:List α} (hz:∀x,(c x).length=z) (h0:0<z) (hn:F.g n=pG c l) (h:GL K F β b T z n W) :
  ∃cap,(gv β b=.slice none 0 0∧β b=none∧l=[])∨∃g cur,β b=some g∧gv β b=.slice (some ⟨g,0,none⟩) l.length cap∧W.heap[g]?=some (.cells cur T (0,0))∧l.length≤cap∧okl (l.flatMap c) (cur.toList.take (l.length*z)) W β.D:=by
 obtain ⟨xs,ho,hg,_⟩:=h
 rw [hn] at hg
 have hxl:=zaa hg
 rw [zbR hz,ho.1] at hxl
 have hgl:glen β b=l.length:=Nat.eq_of_mul_eq_mul_right h0 hxl
 rcases ho.2 with ⟨hv,h1⟩ | ⟨g,cap,cur,hv,_,hh,hle,_,_,htake⟩
 ·refine ⟨0,.inl ⟨hv,?_,List.eq_nil_of_length_eq_zero (by omega)⟩⟩
  unfold gv at hv
  split at hv
  ·assumption
  ·cases hv
 ·refine ⟨cap,.inr ⟨g,cur,?_,by rw [hv,hgl],hh,by omega,by rw [← hgl,htake];exact hg⟩⟩
  unfold gv at hv
  split at hv
  ·cases hv
  ·rename_i q hq
   simp only [Value.slice.injEq,Option.some.injEq,Addr.mk.injEq] at hv
   rw [hq,hv.1.1]
theorem zfS {α:Type} {c:α→List Pred} {b z n:Nat} {T R E:TypeId} {l:List α} {o:Lf} (hT:P.underlying T=some (.slice E)) (hz:∀x,(c x).length=z) (h0:0<z) (hn:F.g n=pG c l) (ho:Gives F o (.int .i64 (l.length:Int))):Ent.sound K P F (.op (.len [T] R) [LF (.gr b)] [.gl b E z n] (LF o)):=by
 intro β W vs hs hpre _
 match vs,hs with
 | [v],⟨h1,_⟩ =>
  have hv:v=gv β b:=h1
  obtain ⟨cap,h⟩:=zlK hz h0 hn (hpre _ (List.mem_cons_self ..))
  refine ⟨.int .i64 (l.length:Int),?_,(ho β _ W).2 rfl⟩
  rcases h with ⟨h2,_,rfl⟩ | ⟨g,cur,_,h2,_⟩
  ·rw [hv,h2];simp [Sig.sem,Builtin.len_,run_underlying hT,goInt]
  ·rw [hv,h2];simp [Sig.sem,Builtin.len_,run_underlying hT,goInt]
 | [],h=>exact h.elim
 | _::_::_,h=>exact h.2.elim
theorem zbw {α:Type} {c:α→List Pred} {z b n k id:Nat} {ss:List Nat} {T:TypeId} {l:List α} (hz:∀x,(c x).length=z) (h0:0<z) (hc:∀x,FineAll K (c x)) (hn:F.g n=pG c l) (hk:F.c k=pLs c l):Gh.sound K F ⟨id,.gl b T z n::ss.map fun s=>.sl s (.o (.c (.gr b))),ss.map fun s=>.sl s (.o (.c (.h k))),[b]⟩:=by
 intro β a W hg hA
 obtain ⟨cap,h2⟩:=zlK (K:=K) (T:=T) hz h0 hn (hA _ (List.mem_cons_self ..))
 let β':Loc:=⟨fun x=>if x=b then none else β x,β.len,fun q=>β.D q∨β b=some q⟩
 have hb:β' b=none:=if_pos rfl
 have hne:∀x,x≠b→β' x=β x:=fun x hx=>if_neg hx
 have hsub:∀x q,β' x=some q→x≠b∧β x=some q:=fun x q hq=>by
  by_cases hx:x=b
  ·subst hx;rw [hb] at hq;cases hq
  ·exact ⟨hx,by rw [← hne x hx];exact hq⟩
 refine ⟨β',⟨fun x q hq=>hg.lt x q (hsub x q hq).2,fun x y q hx hy=>hg.inj x y q (hsub x q hx).2 (hsub y q hy).2,hg.bel,fun x q hq hD=>?_,fun q hq=>?_⟩,fun x hx=>⟨hne x (by simpa using hx),rfl⟩,fun q hq=>.inl hq,fun q hq=>hq.imp (fun h=>h) fun h=>⟨b,by simp,h⟩,fun x hx q hq=>?_,fun A hAm=>?_⟩
 ·obtain ⟨h3,h4⟩:=hsub x q hq
  rcases hD with hD | hD
  ·exact hg.dis x q h4 hD
  ·exact h3 (hg.inj x b q h4 hD)
 ·rcases hq with hq | hq
  ·exact hg.dlt q hq
  ·exact hg.lt b q hq
 ·rw [List.mem_singleton] at hx
  subst hx
  rw [hb] at hq;cases hq
 ·obtain ⟨s,hs,rfl⟩:=List.mem_map.1 hAm
  have h1:a.tmps.getD s undef=gv β b:=hA _ (List.mem_cons_of_mem _ (List.mem_map_of_mem hs))
  show F.c k (a.tmps.getD s undef) W β'.D
  rw [hk,h1]
  rcases h2 with ⟨h2,_,rfl⟩ | ⟨g,cur,hbg,h2,hh,hle,hok⟩
  ·rw [h2];exact .inl ⟨⟨_,_,rfl⟩,rfl,rfl⟩
  ·rw [h2]
   refine .inr ⟨g,0,cap,T,cur,(0,0),rfl,.inr hbg,hh,?_,hle⟩
   show okl _ ((cur.toList.drop 0).take _) W β'.D
   rw [List.drop_zero,zbR hz]
   exact zd6 (S:=fun _=>False) (fun _ h=>h.elim) (Oth.refl _ W) (fun q hq=>.inl hq) (zc3 hc l) hok
theorem zoL {α:Type} {c:α→List Pred} {β:Loc} {W:World} {b z n:Nat} {T:TypeId} (h:β b=none) (hn:F.g n=pG c ([]:List α)):GL K F β b T z n W:=by
 have e1:gv β b=.slice none 0 0:=by unfold gv;rw [h]
 have e2:glen β b=0:=by unfold glen;rw [h]
 refine ⟨[],?_,by rw [hn];trivial,fun q hq=>by rw [h] at hq;cases hq⟩
 rw [e1,e2]
 exact World.ownsRow_nil W _ T z
theorem z_gq {K:Kit} {F F':Fact} {b:Nat} {T:TypeId} {z n m:Nat} {p:LPred} (h:F.g n=p) (h':F'.g m=p):∀(β:Loc) (a:Act) (W:World),(Atom.gl b T z n).ok K F β a W→(Atom.gl b T z m).ok K F' β a W:=z_gl fun vs W D k=>by rw [h'];rw [h] at k;exact k
theorem zaW {α:Type} {c:α→List Pred} {z s b n id:Nat} {T:TypeId} (hn:F.g n=pG c ([]:List α)):Gh.sound K F ⟨id,[.sl s (.o (.c (.k (.slice none 0 0)))),.gn b],[.sl s (.o (.c (.gr b))),.gl b T z n],[]⟩:=by
 intro β a W hg hA
 have h1:a.tmps.getD s undef=.slice none 0 0:=hA _ (List.mem_cons_self ..)
 have h2:β b=none:=hA _ (List.mem_cons_of_mem _ (List.mem_cons_self ..))
 refine ⟨β,hg,fun _ _=>Loc.same.rfl,fun _ h=>h,fun _ h=>.inl h,fun c hc=>(by cases hc),fun A hAm=>?_⟩
 simp only [List.mem_cons,List.not_mem_nil,or_false] at hAm
 rcases hAm with rfl | rfl
 ·show a.tmps.getD s undef=gv β b
  rw [h1];unfold gv;rw [h2]
 ·exact zoL h2 hn
end
section
variable {K:Kit} {P:Program}
def NFun (K:Kit) (P:Program) (f:FuncId) (az:List PSh) (T:TypeId) (ps:List Pred):Prop:=∀(W:World) (D:Dat) (vs:List Value),oka az vs W D→Fit K W D →
 Calls P f vs.toArray W fun e W'=>∃(q:Nat) (us:Array Value) (D':Dat),e=.returned (.pointer (some ⟨q,0,none⟩))∧W.heap.size≤q∧W'.heap[q]?=some (.cells us T (0,0))∧us.toList.all K.ck=true∧K.bt T=true∧okl ps us.toList W' D'∧¬ D' q∧Kept W D W' D'
variable {F:Fact} {f:FuncId} {az:List PSh} {T:TypeId} {ps:List Pred} {as':List Sh} {ls:List Lf}
theorem zbS (h:NFun K P f az T ps) (ha:as'.map (Sh.pr F)=az) (hp:ls.map (Lf.pr F)=ps) (hla:as'.all (Sh.low [])=true) (hll:ls.all (Lf.low [])=true):Ent.sound K P F (.neu f as' T ls):=by
 subst ha;subst hp
 intro β W vs hs hg
 refine (h W β.D vs ((ze2 hla).1 hs) ⟨hg.bel,hg.dlt⟩).mono fun e W' hr=>?_
 obtain ⟨q,us,D',rfl,hq,hh,hck,hbt,hok,hnD,hk⟩:=hr
 exact ⟨q,us,D',rfl,hq,hh,hck,hbt,(zce (β:=⟨β.bx,β.len,D'⟩) hll).2 hok,hnD,hk.bel,hk.dm,hk.dn,hk.dlt⟩
def endN (P:Program) (st:List Atom) (fn:Func) (T:TypeId) (ls:List Lf):Bool:=match resSh P st fn.results.toList with
 | some (.o (.c (.p b 0)))=>(match boxOf b st with
  | some (U,ms)=>U == T && leqs ms ls
  | none=>false)
 | _=>false
def zsJ (K:Kit) (P:Program) (C:List (Nat×Ent)) (H:Hint) (vir:List Nat) (nb:Nat) (f:FuncId) (az:List Sh) (T:TypeId) (ls:List Lf):Bool:=match P.funcs[f]? with
 | some fn=>match fn.body with
  | some code=>az.all (Sh.low []) && ls.all (Lf.low []) && Nat.ble az.length fn.ntmps && (match run K P C H ⟨fn.ntmps,[],[]⟩ code nb (zcs 0 az++vir.map Atom.gn) with
   | some (.n,_,st)=>endN P st fn T ls
   | some (.r,_,st)=>endN P st fn T ls
   | _=>false)
  | none=>false
 | none=>false
theorem zom {C:List (Nat×Ent)} (H:Hint) (vir:List Nat) (nb:Nat) (hF:Fine K F) (hC:Sound K P F C) (hm:P.follows .mixedOrders=true) (hG:zba K F H.ghs)
  (hL:∀R:Frm,R.pm=⟨ntOf P f,[],[]⟩→∀p∈zD (zR P f),∀s,zbe p.1 H.loops=some s→zj K P F R s p.2) (h:zsJ K P C H vir nb f as' T ls=true) (ha:as'.map (Sh.pr F)=az) (hp:ls.map (Lf.pr F)=ps):NFun K P f az T ps:=by
 subst ha;subst hp
 unfold zsJ at h
 split at h
 case h_2=>cases h
 rename_i fn hfn
 split at h
 case h_2=>cases h
 rename_i code hcode
 have hcd:zR P f=code:=by unfold zR;rw [hfn,Option.bind_some,hcode];rfl
 have hnt:ntOf P f=fn.ntmps:=by unfold ntOf;rw [hfn];rfl
 rw [hcd,hnt] at hL
 simp only [Bool.and_eq_true] at h
 obtain ⟨⟨⟨hla,hll⟩,hlen⟩,hrun⟩:=h
 rw [Nat.ble_eq] at hlen
 intro W D vs hargs hfit
 let β0:Loc:=⟨fun _=>none,fun _=>(0,0),D⟩
 let R:Frm:=⟨W,β0,⟨fn.ntmps,[],[]⟩⟩
 have hargs':shs F β0 as' vs W:=(ze2 (β:=β0) hla).2 hargs
 have hsz:=zdV hargs'
 have hI:Inv K F R (zcs 0 as'++vir.map Atom.gn) { tmps:=vs.toArray++Array.replicate (fn.ntmps - vs.toArray.size) undef,defers:=[] } W:=by
  refine ⟨by simp [R];omega,rfl,β0,⟨⟨fun b q hq=>(by cases hq),fun b c q hb hc=>(by cases hb),hfit.bel,fun b q hq=>(by cases hq),hfit.dlt⟩,Oth.refl _ W,fun b hb q hq=>(by cases hq),fun b hb=>(by cases hb),fun b hb=>(by cases hb),fun _ h=>h,fun _ h=>.inl h⟩,fun A hA=>?_⟩
  rcases List.mem_append.1 hA with hA | hA
  ·refine zcN hargs' (fun j v hv=>?_) hA
   have hj:j<vs.length:=(List.getElem?_eq_some_iff.1 hv).1
   rw [Nat.zero_add,Array.getD_eq_getD_getElem?,Array.getElem?_append_left (by simpa using hj)]
   simp [hv]
  ·rw [List.mem_map] at hA
   obtain ⟨b,hb,rfl⟩:=hA
   rfl
 have hend:∀(st:List Atom) (a':Act) (W':World),endN P st fn T ls=true→Inv K F R st a' W' →
   a'.defers=[]∧∃v,(results fn a'.tmps).run P W'=.ok v W'∧∃(q:Nat) (us:Array Value) (D':Dat),Ending.returned v=.returned (.pointer (some ⟨q,0,none⟩))∧W.heap.size≤q∧W'.heap[q]?=some (.cells us T (0,0))∧us.toList.all K.ck=true∧K.bt T=true∧okl (ls.map (Lf.pr F)) us.toList W' D'∧¬ D' q∧Kept W D W' D':=by
  rintro st a' W' hc ⟨_,hd,β',hE,hA⟩
  unfold endN at hc
  split at hc
  case h_2=>cases hc
  rename_i b hx
  split at hc
  case h_2=>cases hc
  rename_i U ms hbx
  rw [Bool.and_eq_true,beq_iff_eq] at hc
  obtain ⟨rfl,hms⟩:=hc
  obtain ⟨v,hv1,hv2⟩:=zeW hA hx
  obtain ⟨q,hq,rfl⟩:=hv2
  obtain ⟨q',us,hq',hh,hoks,hck,hbt,_⟩:=zbJ hbx hA
  have e:q'=q:=Option.some.inj (hq'.symm.trans hq)
  subst e
  rw [zca hms] at hoks
  refine ⟨hd,_,hv1,q',us,β'.D,rfl,hE.own b (by simp [R]) q' hq,hh,hck,hbt,(zce hll).1 hoks,hE.geo.dis b q' hq,⟨⟨hE.oth.os,hE.oth.tape,hE.oth.output,hE.oth.size,fun k hk=>hE.oth.block k hk fun ⟨b,hb,_⟩=>(by cases hb)⟩,hE.dm,hE.dn,hE.geo.dlt⟩⟩
 refine calls_of_wp hfn hcode ?_
 split at hrun
 ·rename_i b' st hr
  exact zgd (R:=R) hF hC hm H hG code (hL R rfl) hr hI fun a' W' hI'=>hend st a' W' hrun hI'
 ·rename_i b' st hr
  exact zgd (R:=R) hF hC hm H hG code (hL R rfl) hr hI fun a' W' hI'=>hend st a' W' hrun hI'
 ·cases hrun
theorem zh9 {b o:Nat} {T:TypeId} (hT:P.underlying T=some (.pointer (P.pointee T))):Ent.sound K P F (.bin .eql T (LF (.p b o)) (LF (.k (.pointer none))) (LF (.k (.bool false)))):=by
 intro β W vx vy hx hy
 obtain ⟨q,_,rfl⟩:=hx
 have hy':vy=.pointer none:=hy
 subst hy'
 refine ⟨.bool false,fun X Y=>?_,rfl⟩
 rw [Sem.run_bind]
 simp only [eqGuard,Sem.run_pure,Result.andThen_ok]
 exact run_eql_pointer_nil W T _ hT
theorem zbu {b o:Nat} {T:TypeId} (hT:P.underlying T=some (.pointer (P.pointee T))):Ent.sound K P F (.bin .neq T (LF (.p b o)) (LF (.k (.pointer none))) (LF (.k (.bool true)))):=by
 intro β W vx vy hx hy
 obtain ⟨q,_,rfl⟩:=hx
 have hy':vy=.pointer none:=hy
 subst hy'
 refine ⟨.bool true,fun X Y=>?_,rfl⟩
 rw [Sem.run_bind]
 simp only [eqGuard,Sem.run_pure,Result.andThen_ok]
 exact run_neq_pointer_nil W T _ hT
end
end Go.Proofs.YtjcegdldgjphiaaGreatDoor
