/-
  Merged: SymN, SymR, SymM, RatF, SymS, SymU, SymV, SymW, RtX.
-/
import Derived.Test.YtccjiodohphgnaaGreatDoorMgAB
import Derived.Test.YtccjiodohphgnaaGreatDoorMgAN
set_option linter.unusedSimpArgs false
set_option linter.unusedVariables false
set_option maxRecDepth 100000
set_option maxHeartbeats 1000000
namespace Go.Proofs.YtccjiodohphgnaaGreatDoor
open Go.RowKit Go.Shelf
abbrev Raw:=Bool×List Nat
def X (xs:List Raw) (i:Nat):Raw:=xs.getD i (false,[])
def nz (x:Int):Raw:=(decide (x<0),digs x.natAbs)
def FNc (xs:List Raw) (es:List Value) (n:Nat):Pred:=fun v W _=>if 100≤n then v=es.getD (n - 100) (.bool false) else if n%2=0 then v=.bool (X xs (n / 2)).1 else ∃A m c,v=.slice A m c∧Sl W W.heap.size A m c (X xs (n / 2)).2
def FN (xs:List Raw) (es:List Value):Fact:=⟨FNc xs es,fun _ vs _ _=>vs=[]⟩
def nm (i:Nat):List Lf:=[.h (2*i),.h (2*i+1)]
def NM (i:Nat):Sh:=.o (.g (nm i))
def RA (i j:Nat):Sh:=.o (.g (nm i++nm j))
def PR (i:Nat) (l:Lf):Sh:=.o (.g (nm i++[l]))
def KN (w0:World):Kit:=⟨fun T=>[26,28,70,54,4,32,23,39,22,9].contains T,fun k=>match k with
 | .u32=>true
 | .u64=>true
 | _=>false,w0⟩
def IsN (x:Raw) (v:Value) (W:World):Prop:=∃A n c,v=.agg #[.bool x.1,.slice A n c]∧Sl W W.heap.size A n c x.2
def IsR (x y:Raw) (v:Value) (W:World):Prop:=∃A n c A2 n2 c2,v=.agg #[.bool x.1,.slice A n c,.bool y.1,.slice A2 n2 c2]∧Sl W W.heap.size A n c x.2∧Sl W W.heap.size A2 n2 c2 y.2
def IsP (x:Raw) (u:Value) (v:Value) (W:World):Prop:=∃A n c,v=.agg #[.bool x.1,.slice A n c,u]∧Sl W W.heap.size A n c x.2
section
variable {xs:List Raw} {es:List Value} {β:Loc} {W W':World} {v:Value}
theorem Sl.oth {w0:World} {D:Dat} {S:Nat→Prop} {B n c:Nat} {A:Option Addr} {l:List Nat} (hS:∀q,S q→Mlq (KN w0) D W q) (hO:Oth S W W') (h:Sl W B A n c l):Sl W' B A n c l:=by
 refine ⟨⟨⟨h.1.1.1,fun hn=>?_⟩,h.1.2⟩,h.2⟩
 obtain ⟨ad,e,hb,hc⟩:=h.1.1.2 hn
 refine ⟨ad,e,hb,fun j u hj=>?_⟩
 have h1:=hc j u hj
 obtain ⟨d,_,hd⟩:=List.mem_map.1 (List.mem_of_getElem? hj)
 have hlt:(ad.add j).block<W.heap.size:=by
  rcases Nat.lt_or_ge (ad.add j).block W.heap.size with hlt | hlt
  ·exact hlt
  ·simp only [World.cell?,Array.getElem?_eq_none hlt] at h1
   cases h1
 have hn2:¬ S (ad.add j).block:=by
  intro hs
  obtain ⟨_,_,o,ho,hm⟩:=hS _ hs
  simp only [World.cell?,ho] at h1
  cases o with
  | cells cs T z =>
   simp only [ml,mlf,Bool.and_eq_true,List.all_eq_true] at hm
   have hmem:u∈cs.toList:=by
    revert h1
    simp only
    split
    ·intro h1;cases h1
    ·intro h1;simpa using Array.mem_of_getElem? h1
   have:=hm.2 u hmem
   rw [← hd] at this
   cases this
  | _=>simp [ml,mlf] at hm
 have h2:=hO.block _ hlt hn2
 simp only [World.cell?,h2] at h1 ⊢
 exact h1
theorem zq {w0:World} (hes:es.all (KN w0).ck=true):Fine (KN w0) (FN xs es):=by
 refine ⟨fun n=>?_,fun n _=>?_,fun n=>⟨fun _ _ _ h=>h,fun h=>by rw [show _=[] from h];rfl⟩⟩
 ·intro v W W' D D' S hS hO _ h
  change FNc xs es n v W D at h
  show FNc xs es n v W' D'
  unfold FNc at h ⊢
  split at h
  ·rename_i hc
   rw [if_pos hc];exact h
  ·rename_i hc
   rw [if_neg hc]
   split at h
   ·rename_i hc
    rw [if_pos hc];exact h
   ·rename_i hc
    rw [if_neg hc]
    obtain ⟨A,m,c,e,hs⟩:=h
    exact ⟨A,m,c,e,(Sl.oth hS hO hs).more hO.size⟩
 ·intro v W D h
  change FNc xs es n v W D at h
  unfold FNc at h
  split at h
  ·rw [h,List.getD_eq_getElem?_getD]
   cases he:es[n - 100]? with
   | none=>rfl
   | some u=>exact List.all_eq_true.1 hes u (List.mem_of_getElem? he)
  ·split at h
   ·rw [h];rfl
   ·obtain ⟨A,m,c,e,_⟩:=h
    rw [e];rfl
theorem zcE {i:Nat} (hi:i<50) {vs:List Value} {ls:List Lf}:oks (FN xs es) β (nm i++ls) vs W↔∃A n c us,vs=.bool (X xs i).1::.slice A n c::us∧Sl W W.heap.size A n c (X xs i).2∧oks (FN xs es) β ls us W:=by
 have h0:∀v,FN xs es (2*i) v W β.D↔v=.bool (X xs i).1:=fun v=>by
  show FNc xs es (2*i) v W β.D↔_
  unfold FNc;rw [if_neg (by omega),if_pos (by omega),show 2*i / 2=i by omega]
 have h1:∀v,FN xs es (2*i+1) v W β.D↔∃A m c,v=.slice A m c∧Sl W W.heap.size A m c (X xs i).2:=fun v=>by
  show FNc xs es (2*i+1) v W β.D↔_
  unfold FNc;rw [if_neg (by omega),if_neg (by omega),show (2*i+1) / 2=i by omega]
 constructor
 ·intro h
  match vs,h with
  | v0::v1::us,⟨e0,e1,e2⟩ =>
   obtain ⟨A,m,c,e,hs⟩:=(h1 v1).1 e1
   exact ⟨A,m,c,us,by rw [(h0 v0).1 e0,e],hs,e2⟩
  | [_],⟨_,h⟩=>exact h.elim
  | [],h=>exact h.elim
 ·rintro ⟨A,n,c,us,rfl,hs,h⟩
  exact ⟨(h0 _).2 rfl,(h1 _).2 ⟨A,n,c,rfl,hs⟩,h⟩
theorem zlE {us:List Value} {F:Fact}:oks F β [] us W↔us=[]:=by cases us<;>simp [oks]
theorem NM_is {i:Nat} (hi:i<50):(NM i).ok (FN xs es) β v W↔IsN (X xs i) v W:=by
 constructor
 ·rintro ⟨vs,rfl,h⟩
  rw [show nm i=nm i++[] by simp,zcE hi] at h
  obtain ⟨A,n,c,us,e,hs,h⟩:=h
  rw [zlE] at h
  subst h
  exact ⟨A,n,c,by rw [← Array.toArray_toList (xs:=vs),e],hs⟩
 ·rintro ⟨A,n,c,rfl,hs⟩
  exact ⟨_,rfl,by rw [show nm i=nm i++[] by simp,zcE hi];exact ⟨A,n,c,[],rfl,hs,trivial⟩⟩
theorem RA_is {i j:Nat} (hi:i<50) (hj:j<50):(RA i j).ok (FN xs es) β v W↔IsR (X xs i) (X xs j) v W:=by
 constructor
 ·rintro ⟨vs,rfl,h⟩
  rw [zcE hi,show nm j=nm j++[] by simp] at h
  obtain ⟨A,n,c,us,e,hs,h⟩:=h
  rw [zcE hj] at h
  obtain ⟨A2,n2,c2,us2,e2,hs2,h⟩:=h
  rw [zlE] at h
  subst h;subst e2
  exact ⟨A,n,c,A2,n2,c2,by rw [← Array.toArray_toList (xs:=vs),e],hs,hs2⟩
 ·rintro ⟨A,n,c,A2,n2,c2,rfl,hs,hs2⟩
  refine ⟨_,rfl,?_⟩
  rw [zcE hi,show nm j=nm j++[] by simp]
  refine ⟨A,n,c,_,rfl,hs,?_⟩
  rw [zcE hj]
  exact ⟨A2,n2,c2,[],rfl,hs2,trivial⟩
theorem zf {k:Nat} {u:Value} (h:es.getD k (.bool false)=u):Gives (FN xs es) (.h (100+k)) u:=fun β v W=>by
 subst h
 show FNc xs es (100+k) v W β.D↔_
 unfold FNc
 rw [if_pos (by omega),show 100+k - 100=k by omega]
theorem PR_is {i:Nat} {L:Lf} {u:Value} (hi:i<50) (hL:Gives (FN xs es) L u):(PR i L).ok (FN xs es) β v W↔IsP (X xs i) u v W:=by
 constructor
 ·rintro ⟨vs,rfl,h⟩
  rw [zcE hi] at h
  obtain ⟨A,n,c,us,e,hs,h⟩:=h
  match us,h with
  | [z],h =>
   have:=(hL β z W).1 h.1
   subst this
   exact ⟨A,n,c,by rw [← Array.toArray_toList (xs:=vs),e],hs⟩
  | [],h=>exact h.elim
  | _::_::_,h=>exact h.2.elim
 ·rintro ⟨A,n,c,rfl,hs⟩
  refine ⟨_,rfl,?_⟩
  rw [zcE hi]
  exact ⟨A,n,c,[u],rfl,hs,(hL β u W).2 rfl,trivial⟩
end
theorem zau {K:Kit} {P:Program} {F:Fact} {f:FuncId} {ag:List Sh} {res:Sh} (h:∀(β:Loc) (W:World) (vs:List Value),shs F β ag vs W→Below K.w0.heap.size K.w0 W→Calls P f vs.toArray W fun e W'=>∃v,e=.returned v∧res.ok F β v W'∧Below W.heap.size W W'):Con.sound K P F ⟨f,ag,[],res,[]⟩:=by
 refine ⟨rfl,fun β W vs hs _ hg=>(h β W vs hs hg.bel).mono fun e W' hr=>?_⟩
 obtain ⟨v,rfl,h1,h2⟩:=hr
 have hO:Oth (fun _=>False) W W':=Oth.ofBelow h2
 exact ⟨v,β,rfl,h1,hO.mono fun _ h=>h.elim,fun x h=>(by cases h),fun b _=>Loc.same.rfl,fun _ h=>h,fun _ h=>.inl h,fun b h=>(by cases h),hg.mono (fun _ h=>h.elim) hO⟩
def β0:Loc:=⟨fun _=>none,fun _=>(0,0),fun _=>False⟩
theorem ztF {K:Kit} {P:Program} {F:Fact} {f:FuncId} {ag:List Sh} {res:Sh} {W:World} {vs:List Value} (h:Con.sound K P F ⟨f,ag,[],res,[]⟩) (hs:shs F β0 ag vs W) (hw:Below K.w0.heap.size K.w0 W):Calls P f vs.toArray W fun e W'=>∃v β',e=.returned v∧res.ok F β' v W'∧Below W.heap.size W W':=by
 refine (h.2 _ W vs hs (fun x h=>(by cases h)) ⟨fun b q h=>(by cases h),fun b c q h=>(by cases h),hw,fun b q h=>(by cases h),fun q h=>h.elim⟩).mono fun e W' hr=>?_
 obtain ⟨v,β',rfl,hb⟩:=hr
 exact ⟨v,β',rfl,hb.res,hb.oth.below (fun q ⟨b,h,_⟩=>by cases h)⟩
def addX (x y:Raw):Option Int:=sumS x.1 x.2 y.1 y.2 y.1
def subX (x y:Raw):Option Int:=sumS x.1 x.2 y.1 y.2 (!y.1)
def mulX (x y:Raw):Option Int:=mulS x.1 x.2 y.1 y.2
def gcdX (x y:Raw):Option Int:=gcdS x.1 x.2 y.1 y.2
def divX (x y:Raw):Option (Int×Int):=divS x.1 x.2 y.1 y.2
def cmpX (x y:Raw):Int:=cmpS x.1 x.2 y.1 y.2
def intX (x:Raw):Option Int:=intS x.1 x.2
def zx (x:Raw):Bool:=zj x.1 x.2
section
variable {xs:List Raw} {es:List Value} {w0:World}
theorem c_add {i j k:Nat} {o:Lf} (h:X xs k=nz (vO (addX (X xs i) (X xs j)))) (ho:Gives (FN xs es) o (.bool (okO (addX (X xs i) (X xs j))))) (hi:i<50:=by first | assumption | decide) (hj:j<50:=by first | assumption | decide) (hk:k<50:=by first | assumption | decide):Con.sound (KN w0) Tryz.prog (FN xs es) ⟨57,[NM i,NM j],[],.t [.g (nm k),.c o],[]⟩:=by
 refine zau fun β W vs hs _=>?_
 match vs,hs with
 | [a,b],⟨ha,hb,_⟩ =>
  obtain ⟨A,n,c,rfl,s1⟩:=(NM_is hi).1 ha
  obtain ⟨A2,n2,c2,rfl,s2⟩:=(NM_is hj).1 hb
  refine (zth _ _ s1 s2 (Nat.le_refl _)).mono fun e W' hr=>?_
  obtain ⟨A3,n3,c3,rfl,s3,hb⟩:=hr
  refine ⟨_,rfl,⟨_,rfl,(NM_is hk (v:=.agg #[_,_])).2 ?_,(ho β _ W').2 rfl,trivial⟩,hb⟩
  rw [h]
  exact ⟨A3,n3,c3,rfl,s3⟩
 | [],h=>exact h.elim
 | [_],h=>exact h.2.elim
 | _::_::_::_,h=>exact h.2.2.elim
theorem zhA {i j k:Nat} {o:Lf} (h:X xs k=nz (vO (addX (X xs i) (X xs j)))) (ho:Gives (FN xs es) o (.bool (okO (addX (X xs i) (X xs j))))) (hi:i<50:=by first | assumption | decide) (hj:j<50:=by first | assumption | decide) (hk:k<50:=by first | assumption | decide):Con.sound (KN w0) Tryz.prog (FN xs es) ⟨60,[NM i,NM j],[],.t [.g (nm k),.c o],[]⟩:=by
 refine zau fun β W vs hs _=>?_
 match vs,hs with
 | [a,b],⟨ha,hb,_⟩ =>
  obtain ⟨A,n,c,rfl,s1⟩:=(NM_is hi).1 ha
  obtain ⟨A2,n2,c2,rfl,s2⟩:=(NM_is hj).1 hb
  refine (zhk _ _ s1 s2 (Nat.le_refl _)).mono fun e W' hr=>?_
  obtain ⟨A3,n3,c3,rfl,s3,hb⟩:=hr
  refine ⟨_,rfl,⟨_,rfl,(NM_is hk (v:=.agg #[_,_])).2 ?_,(ho β _ W').2 rfl,trivial⟩,hb⟩
  rw [h]
  exact ⟨A3,n3,c3,rfl,s3⟩
 | [],h=>exact h.elim
 | [_],h=>exact h.2.elim
 | _::_::_::_,h=>exact h.2.2.elim
theorem c_sub {i j k:Nat} {o:Lf} (h:X xs k=nz (vO (subX (X xs i) (X xs j)))) (ho:Gives (FN xs es) o (.bool (okO (subX (X xs i) (X xs j))))) (hi:i<50:=by first | assumption | decide) (hj:j<50:=by first | assumption | decide) (hk:k<50:=by first | assumption | decide):Con.sound (KN w0) Tryz.prog (FN xs es) ⟨92,[NM i,NM j],[],.t [.g (nm k),.c o],[]⟩:=by
 refine zau fun β W vs hs _=>?_
 match vs,hs with
 | [a,b],⟨ha,hb,_⟩ =>
  obtain ⟨A,n,c,rfl,s1⟩:=(NM_is hi).1 ha
  obtain ⟨A2,n2,c2,rfl,s2⟩:=(NM_is hj).1 hb
  refine (zvV _ _ s1 s2 (Nat.le_refl _)).mono fun e W' hr=>?_
  obtain ⟨A3,n3,c3,rfl,s3,hb⟩:=hr
  refine ⟨_,rfl,⟨_,rfl,(NM_is hk (v:=.agg #[_,_])).2 ?_,(ho β _ W').2 rfl,trivial⟩,hb⟩
  rw [h]
  exact ⟨A3,n3,c3,rfl,s3⟩
 | [],h=>exact h.elim
 | [_],h=>exact h.2.elim
 | _::_::_::_,h=>exact h.2.2.elim
theorem zqg {i j k:Nat} {o:Lf} (h:X xs k=nz (vO (subX (X xs i) (X xs j)))) (ho:Gives (FN xs es) o (.bool (okO (subX (X xs i) (X xs j))))) (hi:i<50:=by first | assumption | decide) (hj:j<50:=by first | assumption | decide) (hk:k<50:=by first | assumption | decide):Con.sound (KN w0) Tryz.prog (FN xs es) ⟨93,[NM i,NM j],[],.t [.g (nm k),.c o],[]⟩:=by
 refine zau fun β W vs hs _=>?_
 match vs,hs with
 | [a,b],⟨ha,hb,_⟩ =>
  obtain ⟨A,n,c,rfl,s1⟩:=(NM_is hi).1 ha
  obtain ⟨A2,n2,c2,rfl,s2⟩:=(NM_is hj).1 hb
  refine (znD _ _ s1 s2 (Nat.le_refl _)).mono fun e W' hr=>?_
  obtain ⟨A3,n3,c3,rfl,s3,hb⟩:=hr
  refine ⟨_,rfl,⟨_,rfl,(NM_is hk (v:=.agg #[_,_])).2 ?_,(ho β _ W').2 rfl,trivial⟩,hb⟩
  rw [h]
  exact ⟨A3,n3,c3,rfl,s3⟩
 | [],h=>exact h.elim
 | [_],h=>exact h.2.elim
 | _::_::_::_,h=>exact h.2.2.elim
theorem c_mul {i j k:Nat} {o:Lf} (h:X xs k=nz (vO (mulX (X xs i) (X xs j)))) (ho:Gives (FN xs es) o (.bool (okO (mulX (X xs i) (X xs j))))) (hi:i<50:=by first | assumption | decide) (hj:j<50:=by first | assumption | decide) (hk:k<50:=by first | assumption | decide):Con.sound (KN w0) Tryz.prog (FN xs es) ⟨87,[NM i,NM j],[],.t [.g (nm k),.c o],[]⟩:=by
 refine zau fun β W vs hs _=>?_
 match vs,hs with
 | [a,b],⟨ha,hb,_⟩ =>
  obtain ⟨A,n,c,rfl,s1⟩:=(NM_is hi).1 ha
  obtain ⟨A2,n2,c2,rfl,s2⟩:=(NM_is hj).1 hb
  refine (zud _ _ s1 s2 (Nat.le_refl _)).mono fun e W' hr=>?_
  obtain ⟨A3,n3,c3,rfl,s3,hb⟩:=hr
  refine ⟨_,rfl,⟨_,rfl,(NM_is hk (v:=.agg #[_,_])).2 ?_,(ho β _ W').2 rfl,trivial⟩,hb⟩
  rw [h]
  exact ⟨A3,n3,c3,rfl,s3⟩
 | [],h=>exact h.elim
 | [_],h=>exact h.2.elim
 | _::_::_::_,h=>exact h.2.2.elim
theorem zZ {i j k:Nat} {o:Lf} (h:X xs k=nz (vO (mulX (X xs i) (X xs j)))) (ho:Gives (FN xs es) o (.bool (okO (mulX (X xs i) (X xs j))))) (hi:i<50:=by first | assumption | decide) (hj:j<50:=by first | assumption | decide) (hk:k<50:=by first | assumption | decide):Con.sound (KN w0) Tryz.prog (FN xs es) ⟨59,[NM i,NM j],[],.t [.g (nm k),.c o],[]⟩:=by
 refine zau fun β W vs hs _=>?_
 match vs,hs with
 | [a,b],⟨ha,hb,_⟩ =>
  obtain ⟨A,n,c,rfl,s1⟩:=(NM_is hi).1 ha
  obtain ⟨A2,n2,c2,rfl,s2⟩:=(NM_is hj).1 hb
  refine (znv _ _ s1 s2 (Nat.le_refl _)).mono fun e W' hr=>?_
  obtain ⟨A3,n3,c3,rfl,s3,hb⟩:=hr
  refine ⟨_,rfl,⟨_,rfl,(NM_is hk (v:=.agg #[_,_])).2 ?_,(ho β _ W').2 rfl,trivial⟩,hb⟩
  rw [h]
  exact ⟨A3,n3,c3,rfl,s3⟩
 | [],h=>exact h.elim
 | [_],h=>exact h.2.elim
 | _::_::_::_,h=>exact h.2.2.elim
theorem c_gcd {i j k:Nat} {o:Lf} (h:X xs k=nz (vO (gcdX (X xs i) (X xs j)))) (ho:Gives (FN xs es) o (.bool (okO (gcdX (X xs i) (X xs j))))) (hi:i<50:=by first | assumption | decide) (hj:j<50:=by first | assumption | decide) (hk:k<50:=by first | assumption | decide):Con.sound (KN w0) Tryz.prog (FN xs es) ⟨83,[NM i,NM j],[],.t [.g (nm k),.c o],[]⟩:=by
 refine zau fun β W vs hs _=>?_
 match vs,hs with
 | [a,b],⟨ha,hb,_⟩ =>
  obtain ⟨A,n,c,rfl,s1⟩:=(NM_is hi).1 ha
  obtain ⟨A2,n2,c2,rfl,s2⟩:=(NM_is hj).1 hb
  refine (ztV _ _ s1 s2 (Nat.le_refl _)).mono fun e W' hr=>?_
  obtain ⟨A3,n3,c3,rfl,s3,hb⟩:=hr
  refine ⟨_,rfl,⟨_,rfl,(NM_is hk (v:=.agg #[_,_])).2 ?_,(ho β _ W').2 rfl,trivial⟩,hb⟩
  rw [h]
  exact ⟨A3,n3,c3,rfl,s3⟩
 | [],h=>exact h.elim
 | [_],h=>exact h.2.elim
 | _::_::_::_,h=>exact h.2.2.elim
theorem zhB {i j k:Nat} {o:Lf} (h:X xs k=nz (vO (gcdX (X xs i) (X xs j)))) (ho:Gives (FN xs es) o (.bool (okO (gcdX (X xs i) (X xs j))))) (hi:i<50:=by first | assumption | decide) (hj:j<50:=by first | assumption | decide) (hk:k<50:=by first | assumption | decide):Con.sound (KN w0) Tryz.prog (FN xs es) ⟨85,[NM i,NM j],[],.t [.g (nm k),.c o],[]⟩:=by
 refine zau fun β W vs hs _=>?_
 match vs,hs with
 | [a,b],⟨ha,hb,_⟩ =>
  obtain ⟨A,n,c,rfl,s1⟩:=(NM_is hi).1 ha
  obtain ⟨A2,n2,c2,rfl,s2⟩:=(NM_is hj).1 hb
  refine (znn _ _ s1 s2 (Nat.le_refl _)).mono fun e W' hr=>?_
  obtain ⟨A3,n3,c3,rfl,s3,hb⟩:=hr
  refine ⟨_,rfl,⟨_,rfl,(NM_is hk (v:=.agg #[_,_])).2 ?_,(ho β _ W').2 rfl,trivial⟩,hb⟩
  rw [h]
  exact ⟨A3,n3,c3,rfl,s3⟩
 | [],h=>exact h.elim
 | [_],h=>exact h.2.elim
 | _::_::_::_,h=>exact h.2.2.elim
theorem c_cmp {i j:Nat} {o:Lf} (ho:Gives (FN xs es) o (.int .i64 (cmpX (X xs i) (X xs j)))) (hi:i<50:=by first | assumption | decide) (hj:j<50:=by first | assumption | decide):Con.sound (KN w0) Tryz.prog (FN xs es) ⟨33,[NM i,NM j],[],LF o,[]⟩:=by
 refine zau fun β W vs hs _=>?_
 match vs,hs with
 | [a,b],⟨ha,hb,_⟩ =>
  obtain ⟨A,n,c,rfl,s1⟩:=(NM_is hi).1 ha
  obtain ⟨A2,n2,c2,rfl,s2⟩:=(NM_is hj).1 hb
  refine (ztA _ _ s1 s2 (Nat.le_refl _)).mono fun e W' hr=>?_
  obtain ⟨rfl,hb⟩:=hr
  exact ⟨_,rfl,(ho β _ W').2 rfl,hb⟩
 | [],h=>exact h.elim
 | [_],h=>exact h.2.elim
 | _::_::_::_,h=>exact h.2.2.elim
theorem zbj {i j:Nat} {o:Lf} (ho:Gives (FN xs es) o (.int .i64 (cmpX (X xs i) (X xs j)))) (hi:i<50:=by first | assumption | decide) (hj:j<50:=by first | assumption | decide):Con.sound (KN w0) Tryz.prog (FN xs es) ⟨54,[NM i,NM j],[],LF o,[]⟩:=by
 refine zau fun β W vs hs _=>?_
 match vs,hs with
 | [a,b],⟨ha,hb,_⟩ =>
  obtain ⟨A,n,c,rfl,s1⟩:=(NM_is hi).1 ha
  obtain ⟨A2,n2,c2,rfl,s2⟩:=(NM_is hj).1 hb
  refine (znd _ _ s1 s2 (Nat.le_refl _)).mono fun e W' hr=>?_
  obtain ⟨rfl,hb⟩:=hr
  exact ⟨_,rfl,(ho β _ W').2 rfl,hb⟩
 | [],h=>exact h.elim
 | [_],h=>exact h.2.elim
 | _::_::_::_,h=>exact h.2.2.elim
theorem c_div {i j k k2:Nat} {o:Lf} (h:X xs k=nz (dqO (divX (X xs i) (X xs j)))) (h2:X xs k2=nz (drO (divX (X xs i) (X xs j)))) (ho:Gives (FN xs es) o (.bool (divX (X xs i) (X xs j)).isSome)) (hi:i<50:=by first | assumption | decide) (hj:j<50:=by first | assumption | decide) (hk:k<50:=by first | assumption | decide) (hk2:k2<50:=by first | assumption | decide):Con.sound (KN w0) Tryz.prog (FN xs es) ⟨64,[NM i,NM j],[],.t [.g (nm k),.g (nm k2),.c o],[]⟩:=by
 refine zau fun β W vs hs _=>?_
 match vs,hs with
 | [a,b],⟨ha,hb,_⟩ =>
  obtain ⟨A,n,c,rfl,s1⟩:=(NM_is hi).1 ha
  obtain ⟨A2,n2,c2,rfl,s2⟩:=(NM_is hj).1 hb
  refine (ztJ _ _ s1 s2 (Nat.le_refl _)).mono fun e W' hr=>?_
  obtain ⟨A3,n3,c3,A4,n4,c4,rfl,s3,s4,hb⟩:=hr
  refine ⟨_,rfl,⟨_,rfl,(NM_is hk (v:=.agg #[_,_])).2 ?_,(NM_is hk2 (v:=.agg #[_,_])).2 ?_,(ho β _ W').2 rfl,trivial⟩,hb⟩
  ·rw [h]
   exact ⟨A3,n3,c3,rfl,s3⟩
  ·rw [h2]
   exact ⟨A4,n4,c4,rfl,s4⟩
 | [],h=>exact h.elim
 | [_],h=>exact h.2.elim
 | _::_::_::_,h=>exact h.2.2.elim
theorem zlZ {i j k k2:Nat} {o:Lf} (h:X xs k=nz (dqO (divX (X xs i) (X xs j)))) (h2:X xs k2=nz (drO (divX (X xs i) (X xs j)))) (ho:Gives (FN xs es) o (.bool (divX (X xs i) (X xs j)).isSome)) (hi:i<50:=by first | assumption | decide) (hj:j<50:=by first | assumption | decide) (hk:k<50:=by first | assumption | decide) (hk2:k2<50:=by first | assumption | decide):Con.sound (KN w0) Tryz.prog (FN xs es) ⟨66,[NM i,NM j],[],.t [.g (nm k),.g (nm k2),.c o],[]⟩:=by
 refine zau fun β W vs hs _=>?_
 match vs,hs with
 | [a,b],⟨ha,hb,_⟩ =>
  obtain ⟨A,n,c,rfl,s1⟩:=(NM_is hi).1 ha
  obtain ⟨A2,n2,c2,rfl,s2⟩:=(NM_is hj).1 hb
  refine (znh _ _ s1 s2 (Nat.le_refl _)).mono fun e W' hr=>?_
  obtain ⟨A3,n3,c3,A4,n4,c4,rfl,s3,s4,hb⟩:=hr
  refine ⟨_,rfl,⟨_,rfl,(NM_is hk (v:=.agg #[_,_])).2 ?_,(NM_is hk2 (v:=.agg #[_,_])).2 ?_,(ho β _ W').2 rfl,trivial⟩,hb⟩
  ·rw [h]
   exact ⟨A3,n3,c3,rfl,s3⟩
  ·rw [h2]
   exact ⟨A4,n4,c4,rfl,s4⟩
 | [],h=>exact h.elim
 | [_],h=>exact h.2.elim
 | _::_::_::_,h=>exact h.2.2.elim
theorem zxg {i:Nat} {o:Lf} (ho:Gives (FN xs es) o (.bool (zx (X xs i)))) (hi:i<50:=by first | assumption | decide):Con.sound (KN w0) Tryz.prog (FN xs es) ⟨73,[NM i],[],LF o,[]⟩:=by
 refine zau fun β W vs hs _=>?_
 match vs,hs with
 | [a],⟨ha,_⟩ =>
  obtain ⟨A,n,c,rfl,s1⟩:=(NM_is hi).1 ha
  refine (zd6 _ A n c W.heap.size _ W s1.1 (Nat.le_refl _) s1.2.1).mono fun e W' hr=>?_
  obtain ⟨rfl,hb⟩:=hr
  exact ⟨_,rfl,(ho β _ W').2 rfl,hb⟩
 | [],h=>exact h.elim
 | _::_::_,h=>exact h.2.elim
theorem c_int {i:Nat} {o o2:Lf} (ho:Gives (FN xs es) o (.int .i64 (vO (intX (X xs i))))) (ho2:Gives (FN xs es) o2 (.bool (okO (intX (X xs i))))) (hi:i<50:=by first | assumption | decide):Con.sound (KN w0) Tryz.prog (FN xs es) ⟨78,[NM i],[],.t [.c o,.c o2],[]⟩:=by
 refine zau fun β W vs hs _=>?_
 match vs,hs with
 | [a],⟨ha,_⟩ =>
  obtain ⟨A,n,c,rfl,s1⟩:=(NM_is hi).1 ha
  refine (zt1 _ s1 (Nat.le_refl _)).mono fun e W' hr=>?_
  obtain ⟨rfl,hb⟩:=hr
  exact ⟨_,rfl,⟨_,rfl,(ho β _ W').2 rfl,(ho2 β _ W').2 rfl,trivial⟩,hb⟩
 | [],h=>exact h.elim
 | _::_::_,h=>exact h.2.elim
theorem qp {i:Nat} {o:Lf} (ho:Gives (FN xs es) o (.bool (zx (X xs i)))) (hi:i<50:=by first | assumption | decide):Con.sound (KN w0) Tryz.prog (FN xs es) ⟨84,[NM i],[],LF o,[]⟩:=by
 refine zau fun β W vs hs _=>?_
 match vs,hs with
 | [a],⟨ha,_⟩ =>
  obtain ⟨A,n,c,rfl,s1⟩:=(NM_is hi).1 ha
  refine (zcW _ A n c W.heap.size _ W s1.1 (Nat.le_refl _) s1.2.1).mono fun e W' hr=>?_
  obtain ⟨rfl,hb⟩:=hr
  exact ⟨_,rfl,(ho β _ W').2 rfl,hb⟩
 | [],h=>exact h.elim
 | _::_::_,h=>exact h.2.elim
theorem zl0 {i:Nat} {o o2:Lf} (ho:Gives (FN xs es) o (.int .i64 (vO (intX (X xs i))))) (ho2:Gives (FN xs es) o2 (.bool (okO (intX (X xs i))))) (hi:i<50:=by first | assumption | decide):Con.sound (KN w0) Tryz.prog (FN xs es) ⟨80,[NM i],[],.t [.c o,.c o2],[]⟩:=by
 refine zau fun β W vs hs _=>?_
 match vs,hs with
 | [a],⟨ha,_⟩ =>
  obtain ⟨A,n,c,rfl,s1⟩:=(NM_is hi).1 ha
  refine (znr _ s1 (Nat.le_refl _)).mono fun e W' hr=>?_
  obtain ⟨rfl,hb⟩:=hr
  exact ⟨_,rfl,⟨_,rfl,(ho β _ W').2 rfl,(ho2 β _ W').2 rfl,trivial⟩,hb⟩
 | [],h=>exact h.elim
 | _::_::_,h=>exact h.2.elim
theorem zwh {i:Nat} {o:Lf} (hT:∀W,Below w0.heap.size w0 W→PowT w0.heap.size W) (ho:Gives (FN xs es) o (.string ⟨(textS (X xs i).1 (X xs i).2).toArray⟩)) (hi:i<50:=by first | assumption | decide):Con.sound (KN w0) Tryz.prog (FN xs es) ⟨68,[NM i],[],LF o,[]⟩:=by
 refine zau fun β W vs hs hw=>?_
 match vs,hs with
 | [a],⟨ha,_⟩ =>
  obtain ⟨A,n,c,rfl,s1⟩:=(NM_is hi).1 ha
  refine (zmu _ s1 (Nat.le_refl _) ((hT W hw).mono hw.size)).mono fun e W' hr=>?_
  obtain ⟨rfl,hb⟩:=hr
  exact ⟨_,rfl,(ho β _ W').2 rfl,hb⟩
 | [],h=>exact h.elim
 | _::_::_,h=>exact h.2.elim
theorem c_of {k:Nat} {a:Lf} {x:Int} (ha:Gives (FN xs es) a (.int .i64 x)) (h0:-9223372036854775808≤x) (h1:x<9223372036854775808) (h:X xs k=nz x) (hk:k<50:=by first | assumption | decide):Con.sound (KN w0) Tryz.prog (FN xs es) ⟨34,[LF a],[],NM k,[]⟩:=by
 refine zau fun β W vs hs _=>?_
 match vs,hs with
 | [v],⟨hv,_⟩ =>
  have:=(ha β v W).1 hv
  subst this
  refine (zwA x W h0 h1).mono fun e W' hr=>?_
  obtain ⟨A,n,c,rfl,s,hb⟩:=hr
  exact ⟨_,rfl,(NM_is hk).2 (by rw [h];exact ⟨A,n,c,rfl,s⟩),hb⟩
 | [],h=>exact h.elim
 | _::_::_,h=>exact h.2.elim
theorem ztq {k:Nat} {a o:Lf} {s:List UInt8} (hT:∀W,Below w0.heap.size w0 W→PowT w0.heap.size W∧SynT w0.heap.size W) (ha:Gives (FN xs es) a (.string ⟨s.toArray⟩)) (h:X xs k=nz (vO (zk s))) (ho:Gives (FN xs es) o (.bool (okO (zk s)))) (hk:k<50:=by first | assumption | decide):Con.sound (KN w0) Tryz.prog (FN xs es) ⟨70,[LF a],[],.t [.g (nm k),.c o],[]⟩:=by
 refine zau fun β W vs hs hw=>?_
 match vs,hs with
 | [v],⟨hv,_⟩ =>
  have:=(ha β v W).1 hv
  subst this
  refine (zpi s W hw.size (hT W hw).1 (hT W hw).2).mono fun e W' hr=>?_
  obtain ⟨A,n,c,rfl,s,hb⟩:=hr
  exact ⟨_,rfl,⟨_,rfl,(NM_is hk (v:=.agg #[_,_])).2 (by rw [h];exact ⟨A,n,c,rfl,s⟩),(ho β _ W').2 rfl,trivial⟩,hb⟩
 | [],h=>exact h.elim
 | _::_::_,h=>exact h.2.elim
end
end Go.Proofs.YtccjiodohphgnaaGreatDoor
namespace Go.Proofs.YtccjiodohphgnaaGreatDoor
open Go.RowKit Go.Shelf
theorem tr {K:Kit} {P:Program} {F F':Fact} {f:FuncId} {ag ag':List Sh} {res res':Sh} (h:Con.sound K P F' ⟨f,ag',[],res',[]⟩) (ha:∀β vs W,shs F β ag vs W→shs F' β0 ag' vs W) (hr:∀β β' v W,res'.ok F' β' v W→res.ok F β v W):Con.sound K P F ⟨f,ag,[],res,[]⟩ :=
 zau fun β W _ hs hw=>(ztF h (ha β _ W hs) hw).mono fun _ _ ⟨v,β',e,h1,h2⟩=>⟨v,e,hr β β' v _ h1,h2⟩
section
variable {F F':Fact} {β β':Loc} {W:World}
theorem sh0:∀(β:Loc) vs W,shs F β [] vs W→shs F' β0 [] vs W
 | _,[],_,_=>trivial
 | _,_::_,_,h=>h.elim
theorem sh1 {a a':Sh} (h:∀β v W,a.ok F β v W→a'.ok F' β0 v W):∀(β:Loc) vs W,shs F β [a] vs W→shs F' β0 [a'] vs W
 | _,[_],_,hs=>⟨h _ _ _ hs.1,trivial⟩
 | _,[],_,h=>h.elim
 | _,_::_::_,_,h=>h.2.elim
theorem sh2 {a a' b b':Sh} (h:∀β v W,a.ok F β v W→a'.ok F' β0 v W) (h2:∀β v W,b.ok F β v W→b'.ok F' β0 v W):∀(β:Loc) vs W,shs F β [a,b] vs W→shs F' β0 [a',b'] vs W
 | _,[_,_],_,hs=>⟨h _ _ _ hs.1,h2 _ _ _ hs.2.1,trivial⟩
 | _,[],_,h=>h.elim
 | _,[_],_,h=>h.2.elim
 | _,_::_::_::_,_,h=>h.2.2.elim
end
section
variable {xs xs':List Raw} {es es':List Value} {w0:World} {i j k l i' j' k' l':Nat}
theorem NM_mv (h:X xs' i'=X xs i) (hi:i<50:=by first | assumption | decide) (hi':i'<50:=by first | assumption | decide):∀β v W,(NM i).ok (FN xs es) β v W→(NM i').ok (FN xs' es') β0 v W:=fun _ _ _ hv=>by
 rw [NM_is hi] at hv;rw [NM_is hi',h];exact hv
theorem NM_bk (h:X xs' i'=X xs i) (hi:i<50:=by first | assumption | decide) (hi':i'<50:=by first | assumption | decide):∀β β' v W,(NM i').ok (FN xs' es') β' v W→(NM i).ok (FN xs es) β v W:=fun _ _ _ _ hv=>by
 rw [NM_is hi',h] at hv;rw [NM_is hi];exact hv
theorem RA_mv (h:X xs' i'=X xs i) (h2:X xs' j'=X xs j) (hi:i<50:=by first | assumption | decide) (hj:j<50:=by first | assumption | decide) (hi':i'<50:=by first | assumption | decide) (hj':j'<50:=by first | assumption | decide):∀β v W,(RA i j).ok (FN xs es) β v W→(RA i' j').ok (FN xs' es') β0 v W:=fun _ _ _ hv=>by
 rw [RA_is hi hj] at hv;rw [RA_is hi' hj',h,h2];exact hv
theorem RA_bk (h:X xs' i'=X xs i) (h2:X xs' j'=X xs j) (hi:i<50:=by first | assumption | decide) (hj:j<50:=by first | assumption | decide) (hi':i'<50:=by first | assumption | decide) (hj':j'<50:=by first | assumption | decide):∀β β' v W,(RA i' j').ok (FN xs' es') β' v W→(RA i j).ok (FN xs es) β v W:=fun _ _ _ _ hv=>by
 rw [RA_is hi' hj',h,h2] at hv;rw [RA_is hi hj];exact hv
theorem PR_mv {L L':Lf} {u:Value} (h:X xs' i'=X xs i) (hL:Gives (FN xs es) L u) (hL':Gives (FN xs' es') L' u) (hi:i<50:=by first | assumption | decide) (hi':i'<50:=by first | assumption | decide):∀β v W,(PR i L).ok (FN xs es) β v W→(PR i' L').ok (FN xs' es') β0 v W:=fun _ _ _ hv=>by
 rw [PR_is hi hL] at hv;rw [PR_is hi' hL',h];exact hv
theorem PR_bk {L L':Lf} {u:Value} (h:X xs' i'=X xs i) (hL:Gives (FN xs es) L u) (hL':Gives (FN xs' es') L' u) (hi:i<50:=by first | assumption | decide) (hi':i'<50:=by first | assumption | decide):∀β β' v W,(PR i' L').ok (FN xs' es') β' v W→(PR i L).ok (FN xs es) β v W:=fun _ _ _ _ hv=>by
 rw [PR_is hi' hL',h] at hv;rw [PR_is hi hL];exact hv
theorem LF_mv {F F':Fact} {L L':Lf} {u:Value} (hL:Gives F L u) (hL':Gives F' L' u):∀(β:Loc) v W,(LF L).ok F β v W→(LF L').ok F' β0 v W:=fun β v W hv=>(hL' _ v W).2 ((hL β v W).1 hv)
theorem LF_bk {F F':Fact} {L L':Lf} {u:Value} (hL:Gives F L u) (hL':Gives F' L' u):∀(β β':Loc) v W,(LF L').ok F' β' v W→(LF L).ok F β v W:=fun β β' v W hv=>(hL β v W).2 ((hL' β' v W).1 hv)
theorem T2_bk {F F':Fact} {a b a' b':Cm} (h:∀(β β':Loc) v W,(Sh.o a').ok F' β' v W→(Sh.o a).ok F β v W) (h2:∀(β β':Loc) v W,(Sh.o b').ok F' β' v W→(Sh.o b).ok F β v W):∀(β β':Loc) v W,(Sh.t [a',b']).ok F' β' v W→(Sh.t [a,b]).ok F β v W:=by
 rintro β β' v W ⟨vs,rfl,hs⟩
 refine ⟨vs,rfl,?_⟩
 match vs.toList,hs with
 | [x,y],⟨h1,h3,_⟩=>exact ⟨h β β' x W h1,h2 β β' y W h3,trivial⟩
 | [],h=>exact h.elim
 | [_],h=>exact h.2.elim
 | _::_::_::_,h=>exact h.2.2.elim
end
theorem c_bin {K:Kit} {P:Program} {F:Fact} {op:BinOp} {T:TypeId} {x y o:Lf} {k:IntKind} {a b:Int} {r:Bool} (hx:Gives F x (.int k a)) (hy:Gives F y (.int k b)) (hr:binK op a b=some r) (ho:Gives F o (.bool r)):Ent.sound K P F (.bin op T (LF x) (LF y) (LF o)):=by
 intro β W vx vy h1 h2
 rw [(hx β vx W).1 h1,(hy β vy W).1 h2]
 exact ⟨.bool r,fun X Y=>zkT hr T X Y,(ho β _ W).2 rfl⟩
theorem c_fb {K:Kit} {P:Program} {F:Fact} {n:Nat} {b:Bool} (h:Gives F (.h n) (.bool b)):Ent.sound K P F (.fb n b):=fun v W D hv=>(h ⟨fun _=>none,fun _=>(0,0),D⟩ v W).1 hv
end Go.Proofs.YtccjiodohphgnaaGreatDoor
namespace Go.Proofs.YtccjiodohphgnaaGreatDoor
open Go.RowKit Go.Shelf
section
variable {x y:Int}
theorem zd5 (hx:x.natAbs<big):zx (nz x)=true:=(Rt.of x hx).right
theorem znS (hx:x.natAbs<big) (hy:y.natAbs<big):addX (nz x) (nz y)=fitO (x+y):=by
 show sumS (decide (x<0)) (digs x.natAbs) (decide (y<0)) (digs y.natAbs) (decide (y<0))=_
 unfold sumS;rw [if_pos ⟨(Rt.of x hx).right,(Rt.of y hy).right⟩,zh,zh,zbb,zbb]
theorem zpT (hx:x.natAbs<big) (hy:y.natAbs<big):subX (nz x) (nz y)=fitO (x - y):=by
 show sumS (decide (x<0)) (digs x.natAbs) (decide (y<0)) (digs y.natAbs) (!decide (y<0))=_
 unfold sumS;rw [if_pos ⟨(Rt.of x hx).right,(Rt.of y hy).right⟩,zh,zh,zbb,zvP,Int.sub_eq_add_neg]
theorem zew (hx:x.natAbs<big) (hy:y.natAbs<big):mulX (nz x) (nz y)=fitO (x*y):=by
 show mulS (decide (x<0)) (digs x.natAbs) (decide (y<0)) (digs y.natAbs)=_
 unfold mulS;rw [if_pos ⟨(Rt.of x hx).right,(Rt.of y hy).right⟩,zh,zh,zbb,zbb]
theorem zb2 (hx:x.natAbs<big) (hy:y.natAbs<big):gcdX (nz x) (nz y)=some ((Nat.gcd x.natAbs y.natAbs:Nat):Int):=by
 show gcdS (decide (x<0)) (digs x.natAbs) (decide (y<0)) (digs y.natAbs)=_
 unfold gcdS;rw [if_pos ⟨(Rt.of x hx).right,(Rt.of y hy).right⟩,zh,zh]
 exact zay (by simpa using zh0 hx hy)
theorem za5 (hx:x.natAbs<big) (hy:y.natAbs<big) (h0:y≠0):divX (nz x) (nz y)=some (x / y,x%y):=by
 show divS (decide (x<0)) (digs x.natAbs) (decide (y<0)) (digs y.natAbs)=_
 unfold divS;rw [if_pos ⟨(Rt.of x hx).right,(Rt.of y hy).right,fun e=>h0 (by have:=zcj.1 e;omega)⟩,zh,zh,zbb,zbb]
theorem zaq (hx:x.natAbs<big) (hy:y.natAbs<big):cmpX (nz x) (nz y)=cmpI x y:=by
 show cmpS (decide (x<0)) (digs x.natAbs) (decide (y<0)) (digs y.natAbs)=_
 unfold cmpS;rw [if_pos ⟨(Rt.of x hx).right,(Rt.of y hy).right⟩,zh,zh,zbb,zbb]
theorem zoK (hx:x.natAbs<big):intX (nz x)=fit64 x:=zqJ hx
theorem nz_v:sgn (nz x).1 (nval (nz x).2)=x:=by
 show sgn (decide (x<0)) (nval (digs x.natAbs))=x
 rw [zh,zbb]
theorem nz_a:nval (nz x).2=x.natAbs:=zh _
theorem ze5 {x:Raw} (h:zx x=true) (hd:Dig x.2):∃a:Int,x=nz a∧a.natAbs<big:=by
 obtain ⟨g,l⟩:=x
 obtain ⟨hc,hl,h0⟩:=zr h hd
 refine ⟨sgn g (nval l),?_,by rw [qN];exact (zX hc).1 hl⟩
 unfold nz
 rw [qN,← zbh hc]
 congr 1
 cases g
 ·simp [sgn]
 ·have:nval l≠0:=fun h=>by have:=h0 (qr hc h);cases this
  simp [sgn];omega
theorem qd {x:Int} (h:x.natAbs≤18446744073709551616):x.natAbs<big:=(Rt.small h).2
def vX (x:Raw):Int:=sgn x.1 (nval x.2)
theorem vX_nz:vX (nz x)=x:=nz_v
def qX (x y:Raw):Option Rat:=ratOf x.1 x.2 y.1 y.2
def rrX (x y:Raw):Bool:=zkK x.1 x.2 y.1 y.2
theorem zmm (a b:Raw):rrX a b=(zx a && (zx b && (decide (0<vX b) && decide (Nat.gcd (nval a.2) (nval b.2)=1)))):=rfl
theorem zpH (hx:x.natAbs<big) (hy:y.natAbs<big):rrX (nz x) (nz y)=(decide (0<y) && decide (Nat.gcd x.natAbs y.natAbs=1)):=by
 rw [zmm,zd5 hx,zd5 hy,vX_nz,nz_a,nz_a,Bool.true_and,Bool.true_and]
theorem qV {a b:Raw} (h:rrX a b=true) (ha:Dig a.2) (hb:Dig b.2):∃q:Rat,qX a b=some q∧a=nz q.num∧b=nz (q.den:Int)∧q.num.natAbs<big∧q.den<big:=by
 obtain ⟨g,l⟩:=a
 obtain ⟨g2,m⟩:=b
 obtain ⟨q,h1,h2,h3,h4,h5,h6,h7,h8,h9⟩:=zna ha hb h
 refine ⟨q,h1,?_,?_,h8,h9⟩
 ·unfold nz;rw [← h5,← h6]
 ·refine Prod.ext ?_ ?_
  ·exact h4.trans (by simp [nz])
  ·show m=digs _
   rw [Int.natAbs_natCast]
   exact h7
theorem qU {a b:Raw} (h:rrX a b=false):qX a b=none:=zm9 h
theorem rrX_q {q:Rat} (h:q.num.natAbs<big) (h2:q.den<big):rrX (nz q.num) (nz (q.den:Int))=true:=by
 rw [zpH h (by simpa using h2)]
 have:=q.den_nz
 simp only [Bool.and_eq_true,decide_eq_true_eq]
 exact ⟨by omega,by simpa using q.reduced⟩
theorem qX_q {q:Rat} (h:q.num.natAbs<big) (h2:q.den<big):qX (nz q.num) (nz (q.den:Int))=some q:=by
 show (if rrX (nz q.num) (nz (q.den:Int))=true then some (mkRat (vX (nz q.num)) (nval (nz (q.den:Int)).2)) else none)=some q
 rw [if_pos (rrX_q h h2),vX_nz,nz_a,Int.natAbs_natCast,Rat.mkRat_self]
def ofX (x y:Raw):Option Rat:=if (zx x && zx y)=true then ofR (vX x) (vX y) else none
theorem zfS (hx:x.natAbs<big) (hy:y.natAbs<big):ofX (nz x) (nz y)=ofR x y:=by
 unfold ofX;rw [if_pos (by rw [zd5 hx,zd5 hy];rfl),vX_nz,vX_nz]
end
section
variable {K:Kit} {P:Program} {F:Fact} {xs:List Raw} {es:List Value} {w0:World} {f:FuncId} {res:Sh} {i j k l:Nat}
theorem dgN2 (h:Dig (X xs i).2→Dig (X xs j).2→Con.sound K P (FN xs es) ⟨f,[NM i,NM j],[],res,[]⟩) (hi:i<50:=by first | assumption | decide) (hj:j<50:=by first | assumption | decide):Con.sound K P (FN xs es) ⟨f,[NM i,NM j],[],res,[]⟩:=by
 refine ⟨rfl,fun β W vs hs=>?_⟩
 match vs,hs with
 | [a,b],hs =>
  obtain ⟨A,n,c,_,s1⟩:=(NM_is hi).1 hs.1
  obtain ⟨A,n,c,_,s2⟩:=(NM_is hj).1 hs.2.1
  exact (h s1.dig s2.dig).2 β W [a,b] hs
 | [],h=>exact h.elim
 | [_],h=>exact h.2.elim
 | _::_::_::_,h=>exact h.2.2.elim
theorem dgR1 (h:Dig (X xs i).2→Dig (X xs j).2→Con.sound K P (FN xs es) ⟨f,[RA i j],[],res,[]⟩) (hi:i<50:=by first | assumption | decide) (hj:j<50:=by first | assumption | decide):Con.sound K P (FN xs es) ⟨f,[RA i j],[],res,[]⟩:=by
 refine ⟨rfl,fun β W vs hs=>?_⟩
 match vs,hs with
 | [a],hs =>
  obtain ⟨A,n,c,_,_,_,_,s1,s2⟩:=(RA_is hi hj).1 hs.1
  exact (h s1.dig s2.dig).2 β W [a] hs
 | [],h=>exact h.elim
 | _::_::_,h=>exact h.2.elim
theorem dgR2 (h:Dig (X xs i).2→Dig (X xs j).2→Dig (X xs k).2→Dig (X xs l).2→Con.sound K P (FN xs es) ⟨f,[RA i j,RA k l],[],res,[]⟩) (hi:i<50:=by first | assumption | decide) (hj:j<50:=by first | assumption | decide) (hk:k<50:=by first | assumption | decide) (hl:l<50:=by first | assumption | decide):Con.sound K P (FN xs es) ⟨f,[RA i j,RA k l],[],res,[]⟩:=by
 refine ⟨rfl,fun β W vs hs=>?_⟩
 match vs,hs with
 | [a,b],hs =>
  obtain ⟨A,n,c,_,_,_,_,s1,s2⟩:=(RA_is hi hj).1 hs.1
  obtain ⟨A,n,c,_,_,_,_,s3,s4⟩:=(RA_is hk hl).1 hs.2.1
  exact (h s1.dig s2.dig s3.dig s4.dig).2 β W [a,b] hs
 | [],h=>exact h.elim
 | [_],h=>exact h.2.elim
 | _::_::_::_,h=>exact h.2.2.elim
def ZC:List Lf:=[.k (.bool false),.k (.slice none 0 0),.k (.bool false),.k (.slice none 0 0)]
theorem zo2:nz 0=(false,[]):=by unfold nz;rw [show Int.natAbs 0=0 from rfl,zo];rfl
theorem ZR_bk {F':Fact} (h:X xs i=nz 0) (h2:X xs j=nz 0) (hi:i<50:=by first | assumption | decide) (hj:j<50:=by first | assumption | decide):∀(β β':Loc) v W,(Sh.o (.g ZC)).ok F' β' v W→(RA i j).ok (FN xs es) β v W:=by
 rintro β β' v W ⟨vs,rfl,hs⟩
 rw [RA_is hi hj,h,h2,zo2]
 refine ⟨none,0,0,none,0,0,?_,Sl.none_,Sl.none_⟩
 rw [← Array.toArray_toList (xs:=vs)]
 match vs.toList,hs with
 | [a,b,c,d],⟨h1,h2,h3,h4,_⟩ =>
  rw [show a=_ from h1,show b=_ from h2,show c=_ from h3,show d=_ from h4]
 | [],h=>exact h.elim
 | [_],h=>exact h.2.elim
 | [_,_],h=>exact h.2.2.elim
 | [_,_,_],h=>exact h.2.2.2.elim
 | _::_::_::_::_::_,h=>exact h.2.2.2.2.elim
end
theorem mixed:Tryz.prog.follows .mixedOrders=true:=by kernel_rfl
end Go.Proofs.YtccjiodohphgnaaGreatDoor
namespace Go.Proofs.YtccjiodohphgnaaGreatDoor
open Go.RowKit Go.Shelf
theorem zpw (x:Int) (w:World) (h0:-9223372036854775808≤x) (h1:x<9223372036854775808):Calls Tryz.prog 36 #[.int .i64 x] w (RetA x w):=by
 have m0:MX w [(#[.bool false,.slice none 0 0],26)] (w.alloc (.cells #[.bool false,.slice none 0 0] 26)):=MX.start
 obtain ⟨v,hv⟩:∃v,x.natAbs=v:=⟨_,rfl⟩
 have hvl:v<18446744073709551616:=by omega
 have hxb:x.natAbs<big:=(Rt.small (show x.natAbs≤18446744073709551616 by omega)).2
 have e9:fitO (sgn (decide (x<0)) v)=some x:=by rw [← hv,zbb,zay hxb]
 have DI:=Lib.hid (fun (W:World)=>zcs v W hvl)
 have SI:=Lib.hid (fun (W:World) (A:Option Addr) (n c:Nat) (hs:Sl W W.heap.size A n c (digs v))=>qx A n c W.heap.size v (decide (x<0)) _ W hs (Nat.le_refl _) (zh v))
 rw [e9] at SI
 rcases Int.lt_or_le x 0 with hn | hn
 ·have hd:decide (x<0)=true:=decide_eq_true hn
  have e1:IntKind.u64.wrap (-IntKind.u64.wrap x)=(v:Int):=by rw [IntKind.wrap_u64,IntKind.wrap_u64];omega
  rw [hd] at SI
  clear e9
  go_enter Tryz.func36,Tryz.ntmps36
  go_wp2_with (first
   | (go_at_call 77;go_loud ((first | rw [e1] | skip);refine (DI.out _).mono ?_;rintro e w1 ⟨A,n,c,rfl,hs,hb⟩;have m1:=m0.via hb))
   | (go_at_call 76;go_loud ((with_reducible refine (SI.out _ _ _ _ hs).mono ?_);rintro e w2 hr;obtain ⟨A2,n2,c2,rfl,hs2,hb2⟩:=zax hr;have m2:=m1.via hb2;have r0:w2.cell? ⟨w.heap.size,0,none⟩=some (.bool false):=m2.cell (i:=0) rfl rfl;have r1:w2.cell? ⟨w.heap.size,1,none⟩=some (.slice none 0 0):=m2.cell (i:=0) rfl rfl;have rf:∀j,w2.frozen? ⟨w.heap.size,j,none⟩=false:=(fun j=>m2.frozen (i:=0) rfl j);have rz:w.heap.size<w2.heap.size:=m2.lt (i:=0) (by simp)))
   | fail "no arm")
  obtain ⟨q0,q1⟩:=zhj (.bool true) (.slice A2 n2 c2) r0 r1
  have s3:=hs2.stored r0 r1 (.bool true) (.slice A2 n2 c2)
  have b3:=(m2.below.setCell (p:=⟨w.heap.size,0,none⟩) (Nat.le_refl _) (.bool true)).setCell (p:=⟨w.heap.size,1,none⟩) (Nat.le_refl _) (.slice A2 n2 c2)
  have hz3:w.heap.size<((w2.setCell ⟨w.heap.size,0,none⟩ (.bool true)).setCell ⟨w.heap.size,1,none⟩ (.slice A2 n2 c2)).heap.size:=by simp [World.setCell];omega
  obtain ⟨W3,hW3⟩:∃W3,(w2.setCell ⟨w.heap.size,0,none⟩ (.bool true)).setCell ⟨w.heap.size,1,none⟩ (.slice A2 n2 c2)=W3:=⟨_,rfl⟩
  rw [hW3] at q0 q1 s3 b3 hz3 ⊢
  have k0:=(World.cell?_alloc_lt W3 (.cells #[.bool true,.slice A2 n2 c2] 26) ⟨w.heap.size,0,none⟩ hz3).trans q0
  have k1:=(World.cell?_alloc_lt W3 (.cells #[.bool true,.slice A2 n2 c2] 26) ⟨w.heap.size,1,none⟩ hz3).trans q1
  refine bodyPost_ret (v:=.agg #[.bool true,.slice A2 n2 c2]) ?_ rfl ⟨A2,n2,c2,by rw [hd],s3.via ((Below.refl _ _).alloc (Nat.le_refl _) _),b3.alloc b3.size _⟩
  clear k0 k1
  simp [results,Tryz.f36,go_sem,q0,q1,hz3]
 ·have hd:decide (x<0)=false:=decide_eq_false (by omega)
  have e1:IntKind.u64.wrap x=(v:Int):=by rw [IntKind.wrap_u64];omega
  have hn2:¬ x<0:=by omega
  rw [hd] at SI
  clear e9
  go_enter Tryz.func36,Tryz.ntmps36
  go_wp2_with (first
   | (go_at_call 77;go_loud ((first | rw [e1] | skip);refine (DI.out _).mono ?_;rintro e w1 ⟨A,n,c,rfl,hs,hb⟩;have m1:=m0.via hb))
   | (go_at_call 76;go_loud ((with_reducible refine (SI.out _ _ _ _ hs).mono ?_);rintro e w2 hr;obtain ⟨A2,n2,c2,rfl,hs2,hb2⟩:=zax hr;have m2:=m1.via hb2;have r0:w2.cell? ⟨w.heap.size,0,none⟩=some (.bool false):=m2.cell (i:=0) rfl rfl;have r1:w2.cell? ⟨w.heap.size,1,none⟩=some (.slice none 0 0):=m2.cell (i:=0) rfl rfl;have rf:∀j,w2.frozen? ⟨w.heap.size,j,none⟩=false:=(fun j=>m2.frozen (i:=0) rfl j);have rz:w.heap.size<w2.heap.size:=m2.lt (i:=0) (by simp)))
   | fail "no arm")
  obtain ⟨q0,q1⟩:=zhj (.bool false) (.slice A2 n2 c2) r0 r1
  have s3:=hs2.stored r0 r1 (.bool false) (.slice A2 n2 c2)
  have b3:=(m2.below.setCell (p:=⟨w.heap.size,0,none⟩) (Nat.le_refl _) (.bool false)).setCell (p:=⟨w.heap.size,1,none⟩) (Nat.le_refl _) (.slice A2 n2 c2)
  have hz3:w.heap.size<((w2.setCell ⟨w.heap.size,0,none⟩ (.bool false)).setCell ⟨w.heap.size,1,none⟩ (.slice A2 n2 c2)).heap.size:=by simp [World.setCell];omega
  obtain ⟨W3,hW3⟩:∃W3,(w2.setCell ⟨w.heap.size,0,none⟩ (.bool false)).setCell ⟨w.heap.size,1,none⟩ (.slice A2 n2 c2)=W3:=⟨_,rfl⟩
  rw [hW3] at q0 q1 s3 b3 hz3 ⊢
  have k0:=(World.cell?_alloc_lt W3 (.cells #[.bool false,.slice A2 n2 c2] 26) ⟨w.heap.size,0,none⟩ hz3).trans q0
  have k1:=(World.cell?_alloc_lt W3 (.cells #[.bool false,.slice A2 n2 c2] 26) ⟨w.heap.size,1,none⟩ hz3).trans q1
  refine bodyPost_ret (v:=.agg #[.bool false,.slice A2 n2 c2]) ?_ rfl ⟨A2,n2,c2,by rw [hd],s3.via ((Below.refl _ _).alloc (Nat.le_refl _) _),b3.alloc b3.size _⟩
  clear k0 k1
  simp [results,Tryz.f36,go_sem,q0,q1,hz3]
end Go.Proofs.YtccjiodohphgnaaGreatDoor
namespace Go.Proofs.YtccjiodohphgnaaGreatDoor
open Go.RowKit Go.Shelf
theorem zxf {w0:World} :Con.sound (KN w0) Tryz.prog (FN [nz 0] []) ⟨65,[],[],NM 0,[]⟩ :=
 zl (C:=[(1,.call ⟨34,[LF (.k (.int .i64 0))],[],NM 0,[]⟩)]) 0 (zq rfl) ⟨c_of zg (by decide) (by decide) rfl,trivial⟩ mixed (by kernel_rfl)
theorem zcA {xs:List Raw} {es:List Value} {w0:World} {k:Nat} (h:X xs k=nz 0) (hk:k<50:=by first | assumption | decide):Con.sound (KN w0) Tryz.prog (FN xs es) ⟨65,[],[],NM k,[]⟩:=tr zxf sh0 (NM_bk h.symm)
theorem one_p {w0:World} :Con.sound (KN w0) Tryz.prog (FN [nz 1] []) ⟨67,[],[],NM 0,[]⟩ :=
 zl (C:=[(1,.call ⟨34,[LF (.k (.int .i64 1))],[],NM 0,[]⟩)]) 0 (zq rfl) ⟨c_of zg (by decide) (by decide) rfl,trivial⟩ mixed (by kernel_rfl)
theorem c_one {xs:List Raw} {es:List Value} {w0:World} {k:Nat} (h:X xs k=nz 1) (hk:k<50:=by first | assumption | decide):Con.sound (KN w0) Tryz.prog (FN xs es) ⟨67,[],[],NM k,[]⟩:=tr one_p sh0 (NM_bk h.symm)
theorem zn2 {xs:List Raw} {es:List Value} {w0:World} {k:Nat} {a:Lf} {x:Int} (ha:Gives (FN xs es) a (.int .i64 x)) (h0:-9223372036854775808≤x) (h1:x<9223372036854775808) (h:X xs k=nz x) (hk:k<50:=by first | assumption | decide):Con.sound (KN w0) Tryz.prog (FN xs es) ⟨36,[LF a],[],NM k,[]⟩:=by
 refine zau fun β W vs hs _=>?_
 match vs,hs with
 | [v],⟨hv,_⟩ =>
  have:=(ha β v W).1 hv
  subst this
  refine (zpw x W h0 h1).mono fun e W' hr=>?_
  obtain ⟨A,n,c,rfl,s,hb⟩:=hr
  exact ⟨_,rfl,(NM_is hk).2 (by rw [h];exact ⟨A,n,c,rfl,s⟩),hb⟩
 | [],h=>exact h.elim
 | _::_::_,h=>exact h.2.elim
theorem zv8 {w0:World} (x:Int) (h0:-9223372036854775808≤x) (h1:x<9223372036854775808):Con.sound (KN w0) Tryz.prog (FN [nz x] [.int .i64 x]) ⟨55,[LF (.h 100)],[],NM 0,[]⟩ :=
 zl (C:=[(4,.call ⟨36,[LF (.h 100)],[],NM 0,[]⟩)]) 0 (zq rfl) ⟨zn2 (zf (k:=0) rfl) h0 h1 rfl,trivial⟩ mixed (by kernel_rfl)
theorem zbF {xs:List Raw} {es:List Value} {w0:World} {k:Nat} {a:Lf} {x:Int} (ha:Gives (FN xs es) a (.int .i64 x)) (h0:-9223372036854775808≤x) (h1:x<9223372036854775808) (h:X xs k=nz x) (hk:k<50:=by first | assumption | decide):Con.sound (KN w0) Tryz.prog (FN xs es) ⟨55,[LF a],[],NM k,[]⟩:=tr (zv8 x h0 h1) (sh1 (LF_mv ha (zf (k:=0) rfl))) (NM_bk h.symm)
theorem zuc {w0:World} (x:Raw):Con.sound (KN w0) Tryz.prog (FN [x,nz 0,nz (vO (subX (nz 0) x))] [.bool (okO (subX (nz 0) x))]) ⟨61,[NM 0],[],NM 2,[]⟩ :=
 zl (C:=[(6,.call ⟨65,[],[],NM 1,[]⟩),
  (8,.call ⟨92,[NM 1,NM 0],[],.t [.g (nm 2),.c (.h 100)],[]⟩)]) 0 (zq rfl) ⟨zcA rfl,c_sub rfl (zf (k:=0) rfl),trivial⟩ mixed (by kernel_rfl)
theorem zm2 {w0:World} (x:Raw):Con.sound (KN w0) Tryz.prog (FN [x,nz 0,nz (vO (subX (nz 0) x))] [.bool (okO (subX (nz 0) x))]) ⟨62,[NM 0],[],NM 2,[]⟩ :=
 zl (C:=[(6,.call ⟨55,[LF (.k (.int .i64 0))],[],NM 1,[]⟩),
  (8,.call ⟨93,[NM 1,NM 0],[],.t [.g (nm 2),.c (.h 100)],[]⟩)]) 0 (zq rfl) ⟨zbF zg (by decide) (by decide) rfl,zqg rfl (zf (k:=0) rfl),trivial⟩ mixed (by kernel_rfl)
theorem zfw {xs:List Raw} {es:List Value} {w0:World} {i k:Nat} (h:X xs k=nz (vO (subX (nz 0) (X xs i)))) (hi:i<50:=by first | assumption | decide) (hk:k<50:=by first | assumption | decide):Con.sound (KN w0) Tryz.prog (FN xs es) ⟨61,[NM i],[],NM k,[]⟩:=tr (zuc (X xs i)) (sh1 (NM_mv rfl)) (NM_bk h.symm)
theorem zb4 {xs:List Raw} {es:List Value} {w0:World} {i k:Nat} (h:X xs k=nz (vO (subX (nz 0) (X xs i)))) (hi:i<50:=by first | assumption | decide) (hk:k<50:=by first | assumption | decide):Con.sound (KN w0) Tryz.prog (FN xs es) ⟨62,[NM i],[],NM k,[]⟩:=tr (zm2 (X xs i)) (sh1 (NM_mv rfl)) (NM_bk h.symm)
theorem zm8 {w0:World} (x y:Raw):Con.sound (KN w0) Tryz.prog (FN [x,y,nz (dqO (divX x y)),nz (drO (divX x y))] [.bool (divX x y).isSome]) ⟨79,[NM 0,NM 1],[],NM 2,[]⟩ :=
 zl (C:=[(11,.call ⟨64,[NM 0,NM 1],[],.t [.g (nm 2),.g (nm 3),.c (.h 100)],[]⟩)]) 0 (zq rfl) ⟨c_div rfl rfl (zf (k:=0) rfl),trivial⟩ mixed (by kernel_rfl)
theorem zbB {xs:List Raw} {es:List Value} {w0:World} {i j k:Nat} (h:X xs k=nz (dqO (divX (X xs i) (X xs j)))) (hi:i<50:=by first | assumption | decide) (hj:j<50:=by first | assumption | decide) (hk:k<50:=by first | assumption | decide):Con.sound (KN w0) Tryz.prog (FN xs es) ⟨79,[NM i,NM j],[],NM k,[]⟩:=tr (zm8 (X xs i) (X xs j)) (sh2 (NM_mv rfl) (NM_mv rfl)) (NM_bk h.symm)
theorem zpx {w0:World} (x y:Raw):Con.sound (KN w0) Tryz.prog (FN [x,y,nz (dqO (divX x y)),nz (drO (divX x y))] [.bool (divX x y).isSome]) ⟨81,[NM 0,NM 1],[],NM 2,[]⟩ :=
 zl (C:=[(11,.call ⟨66,[NM 0,NM 1],[],.t [.g (nm 2),.g (nm 3),.c (.h 100)],[]⟩)]) 0 (zq rfl) ⟨zlZ rfl rfl (zf (k:=0) rfl),trivial⟩ mixed (by kernel_rfl)
theorem zb5 {xs:List Raw} {es:List Value} {w0:World} {i j k:Nat} (h:X xs k=nz (dqO (divX (X xs i) (X xs j)))) (hi:i<50:=by first | assumption | decide) (hj:j<50:=by first | assumption | decide) (hk:k<50:=by first | assumption | decide):Con.sound (KN w0) Tryz.prog (FN xs es) ⟨81,[NM i,NM j],[],NM k,[]⟩:=tr (zpx (X xs i) (X xs j)) (sh2 (NM_mv rfl) (NM_mv rfl)) (NM_bk h.symm)
theorem zcg {xs:List Raw} {es:List Value} {w0:World} {b i j:Nat} {o:Lf} (hes:es.all (KN w0).ck=true) (ho:Gives (FN xs es) o (.bool (zx (X xs i) && zx (X xs j)))) (hi:i<50:=by first | assumption | decide) (hj:j<50:=by first | assumption | decide):Con.sound (KN w0) Tryz.prog (FN xs es) ⟨82,[LF (.s b 0 2 2)],[.bx b 26 (nm i++nm j)],LF o,[.bx b 26 (nm i++nm j)]⟩:=by
 refine ⟨rfl,fun β W vs hs hb hg=>?_⟩
 match vs,hs with
 | [v],⟨⟨q,hq,hv⟩,_⟩ =>
  subst hv
  have hbox:=hb _ (List.mem_cons_self ..)
  have hbox2:=hbox
  obtain ⟨q',cs,hq',hh,hl,_,_,_⟩:=hbox2
  have e:q'=q:=by rw [hq] at hq';exact (Option.some.inj hq').symm
  subst e
  rw [zcE hi,show nm j=nm j++[] by simp] at hl
  obtain ⟨A,n,c,us,e1,s1,hl⟩:=hl
  rw [zcE hj] at hl
  obtain ⟨A2,n2,c2,us2,e2,s2,hl⟩:=hl
  rw [zlE] at hl
  subst hl;subst e2
  have hc:∀k u,cs.toList[k]?=some u→W.cell? ⟨q',k,none⟩=some u:=fun k u hu=>by rw [zfx hh];simpa using hu
  rw [e1] at hc
  refine (zkE ⟨hc 0 _ rfl,hc 1 _ rfl,hc 2 _ rfl,hc 3 _ rfl,hg.lt b q' hq⟩ s1 s2).mono fun e W' hr=>?_
  obtain ⟨rfl,hbl⟩:=hr
  have hO:Oth (fun _=>False) W W':=Oth.ofBelow hbl
  refine ⟨_,β,rfl,(ho β _ W').2 rfl,hO.mono fun _ h=>h.elim,fun x hx=>?_,fun b _=>Loc.same.rfl,fun _ h=>h,fun _ h=>.inl h,fun b h=>(by cases h),hg.mono (fun _ h=>h.elim) hO⟩
  rw [List.mem_singleton] at hx
  subst hx
  exact Box.mv (zq hes) (fun _ h=>h.elim) hO (fun _ h=>h) (fun _ _=>Loc.same.rfl) hbox (fun _ _ h=>h.elim)
 | [],h=>exact h.elim
 | _::_::_,h=>exact h.2.elim
theorem zrv {w0:World} (x y:Raw) (h:(zx x && zx y)=false):Con.sound (KN w0) Tryz.prog (FN [x,y] [.bool (zx x && zx y)]) ⟨43,[RA 0 1],[],LF (.k (.bool false)),[]⟩ :=
 zl (C:=[(10,.call ⟨82,[LF (.s 6 0 2 2)],[.bx 6 26 (nm 0++nm 1)],LF (.h 100),[.bx 6 26 (nm 0++nm 1)]⟩),
  (10100,.fb 100 false)]) 0 (zq rfl) ⟨zcg rfl (zf (k:=0) rfl),c_fb (zf (k:=0) (congrArg Value.bool h)),trivial⟩ mixed (by kernel_rfl)
theorem zrw {w0:World} (x y:Raw) (h:(zx x && zx y)=true) (h2:decide (cmpX y (nz 0)≤0)=true):Con.sound (KN w0) Tryz.prog (FN [x,y,nz 0] [.bool (zx x && zx y),.int .i64 (cmpX y (nz 0))]) ⟨43,[RA 0 1],[],LF (.k (.bool false)),[]⟩ :=
 zl (C:=[(10,.call ⟨82,[LF (.s 6 0 2 2)],[.bx 6 26 (nm 0++nm 1)],LF (.h 100),[.bx 6 26 (nm 0++nm 1)]⟩),
  (10100,.fb 100 true),
  (15,.call ⟨65,[],[],NM 2,[]⟩),
  (16,.call ⟨33,[NM 1,NM 2],[],LF (.h 101),[]⟩),
  (17,.bin .leq 3 (LF (.h 101)) (LF (.k (.int .i64 0))) (LF (.k (.bool true))))]) 0 (zq rfl) ⟨zcg rfl (zf (k:=0) rfl),c_fb (zf (k:=0) (congrArg Value.bool h)),zcA rfl,c_cmp (zf (k:=1) rfl),c_bin (zf (k:=1) rfl) zg (congrArg some h2) zg,trivial⟩ mixed (by kernel_rfl)
theorem zrx {w0:World} (x y:Raw) (h:(zx x && zx y)=true) (h2:decide (cmpX y (nz 0)≤0)=false):Con.sound (KN w0) Tryz.prog (FN [x,y,nz 0,nz (vO (gcdX x y)),nz 1] [.bool (zx x && zx y),.int .i64 (cmpX y (nz 0)),.bool (okO (gcdX x y)),.int .i64 (cmpX (nz (vO (gcdX x y))) (nz 1)),.bool (cmpX (nz (vO (gcdX x y))) (nz 1) == 0)]) ⟨43,[RA 0 1],[],LF (.h 104),[]⟩ :=
 zl (C:=[(10,.call ⟨82,[LF (.s 6 0 2 2)],[.bx 6 26 (nm 0++nm 1)],LF (.h 100),[.bx 6 26 (nm 0++nm 1)]⟩),
  (10100,.fb 100 true),
  (15,.call ⟨65,[],[],NM 2,[]⟩),
  (16,.call ⟨33,[NM 1,NM 2],[],LF (.h 101),[]⟩),
  (17,.bin .leq 3 (LF (.h 101)) (LF (.k (.int .i64 0))) (LF (.k (.bool false)))),
  (24,.call ⟨83,[NM 0,NM 1],[],.t [.g (nm 3),.c (.h 102)],[]⟩),
  (28,.call ⟨67,[],[],NM 4,[]⟩),
  (29,.call ⟨33,[NM 3,NM 4],[],LF (.h 103),[]⟩),
  (30,.bin .eql 3 (LF (.h 103)) (LF (.k (.int .i64 0))) (LF (.h 104)))]) 0 (zq rfl) ⟨zcg rfl (zf (k:=0) rfl),c_fb (zf (k:=0) (congrArg Value.bool h)),zcA rfl,c_cmp (zf (k:=1) rfl),c_bin (zf (k:=1) rfl) zg (congrArg some h2) zg,c_gcd rfl (zf (k:=2) rfl),c_one rfl,c_cmp (zf (k:=3) rfl),c_bin (zf (k:=3) rfl) zg rfl (zf (k:=4) rfl),trivial⟩ mixed (by kernel_rfl)
theorem zoR {b:Int} (hb:b.natAbs<big):decide (cmpX (nz b) (nz 0)≤0)=!decide (0<b):=by
 rw [zaq hb (qd (by decide))]
 unfold cmpI
 by_cases h:b<0
 ·rw [if_pos h];simp;omega
 ·rw [if_neg h]
  by_cases h2:0<b
  ·rw [if_pos h2];simp [h2]
  ·rw [if_neg h2];simp;omega
theorem zs4 {v:Nat} (hv:v<big):(cmpX (nz (v:Int)) (nz 1) == 0)=decide (v=1):=by
 rw [zaq (by simpa using hv) (qd (by decide))]
 unfold cmpI
 by_cases h:(v:Int)<1
 ·rw [if_pos h,decide_eq_false (by omega)];rfl
 ·rw [if_neg h]
  by_cases h2:1<(v:Int)
  ·rw [if_pos h2,decide_eq_false (by omega)];rfl
  ·rw [if_neg h2,decide_eq_true (by omega)];rfl
theorem zP {xs:List Raw} {es:List Value} {w0:World} {i j:Nat} {o:Lf} (ho:Gives (FN xs es) o (.bool (rrX (X xs i) (X xs j)))) (hi:i<50:=by first | assumption | decide) (hj:j<50:=by first | assumption | decide):Con.sound (KN w0) Tryz.prog (FN xs es) ⟨43,[RA i j],[],LF o,[]⟩:=by
 refine dgR1 (fun d1 d2=>?_) hi hj
 cases h:zx (X xs i) && zx (X xs j) with
 | false =>
  have e:rrX (X xs i) (X xs j)=false:=by rw [zmm,← Bool.and_assoc,h];rfl
  rw [e] at ho
  exact tr (zrv _ _ h) (sh1 (RA_mv rfl rfl hi hj)) (LF_bk ho zg)
 | true =>
  have h':=h
  rw [Bool.and_eq_true] at h'
  obtain ⟨a,ea,ha⟩:=ze5 h'.1 d1
  obtain ⟨b,eb,hb⟩:=ze5 h'.2 d2
  rw [ea,eb,zpH ha hb] at ho
  cases h2:decide (cmpX (X xs j) (nz 0)≤0) with
  | true =>
   have h3:=h2
   rw [eb,zoR hb] at h3
   have e:decide (0<b)=false:=by simpa using h3
   rw [e,Bool.false_and] at ho
   exact tr (zrw _ _ h h2) (sh1 (RA_mv rfl rfl hi hj)) (LF_bk ho zg)
  | false =>
   have h3:=h2
   rw [eb,zoR hb] at h3
   have e:decide (0<b)=true:=by simpa using h3
   rw [e,Bool.true_and,← zs4 (zh0 ha hb)] at ho
   refine tr (zrx _ _ h h2) (sh1 (RA_mv rfl rfl hi hj)) (LF_bk ho (zf (k:=4) ?_))
   show Value.bool (cmpX (nz (vO (gcdX (X xs i) (X xs j)))) (nz 1) == 0)=_
   rw [ea,eb,zb2 ha hb];rfl
end Go.Proofs.YtccjiodohphgnaaGreatDoor
namespace Go.Proofs.YtccjiodohphgnaaGreatDoor
open Go.RowKit Go.Shelf
theorem zoJ {xs:List Raw} {es:List Value} {i:Nat} {b:Bool} (h:(X xs i).1=b) (hi:i<50:=by first | assumption | decide):Gives (FN xs es) (.h (2*i)) (.bool b):=fun β v W=>by
 show FNc xs es (2*i) v W β.D↔_
 unfold FNc;rw [if_neg (by omega),if_pos (by omega),show 2*i / 2=i by omega,h]
theorem zs1 {b:Int} (hb:b.natAbs<big):decide (cmpX (nz b) (nz 1)<0)=!decide (0<b):=by
 rw [zaq hb (qd (by decide))]
 unfold cmpI
 by_cases h:b<1
 ·rw [if_pos h];simp;omega
 ·rw [if_neg h]
  by_cases h2:1<b
  ·rw [if_pos h2];simp;omega
  ·rw [if_neg h2];simp;omega
theorem zem {b:Int} (hb:b.natAbs<big):(cmpX (nz b) (nz 0) == 0)=decide (b=0):=by
 rw [zaq hb (qd (by decide))]
 unfold cmpI
 by_cases h:b<0
 ·rw [if_pos h,decide_eq_false (by omega)];rfl
 ·rw [if_neg h]
  by_cases h2:0<b
  ·rw [if_pos h2,decide_eq_false (by omega)];rfl
  ·rw [if_neg h2,decide_eq_true (by omega)];rfl
theorem zoU {b:Int} (hb:b.natAbs<big):decide (cmpX (nz b) (nz 0)<0)=decide (b<0):=by
 rw [zaq hb (qd (by decide))]
 unfold cmpI
 by_cases h:b<0
 ·rw [if_pos h];simp [h]
 ·rw [if_neg h]
  by_cases h2:0<b
  ·rw [if_pos h2];simp;omega
  ·rw [if_neg h2];simp;omega
theorem zkw {x y:Int} (hy:y≠0):∃q,ofR x y=some q∧q.num=(if y<0 then -x else x) / ((Nat.gcd x.natAbs y.natAbs:Nat):Int)∧q.den=y.natAbs / Nat.gcd x.natAbs y.natAbs:=by
 obtain ⟨q,h1,h2,h3⟩:=zui (x:=x) (g:=decide (y<0)) (d:=y.natAbs) (by omega)
 rw [zbb] at h1
 refine ⟨q,h1,?_,h3⟩
 rw [h2]
 congr 1
 by_cases h:y<0<;>simp [h]
theorem zoH {x y:Int} (hy:y≠0):((Nat.gcd x.natAbs y.natAbs:Nat):Int)≠0:=by
 have:=zws (x:=x) (d:=y.natAbs) (by omega)
 omega
theorem zmb {x y:Int} (hx:x.natAbs<big) (hy:y.natAbs<big):(((Nat.gcd x.natAbs y.natAbs:Nat):Int)).natAbs<big:=by simpa using zh0 hx hy
theorem zex {x:Int} (hx:x.natAbs<big):nz (vO (subX (nz 0) (nz x)))=nz (-x):=by
 rw [zpT (qd (by decide)) hx,zay (by omega),Int.zero_sub];rfl
theorem zeg {x:Int} {v:Nat} (hx:x.natAbs<big):(x / (v:Int)).natAbs<big:=by
 refine Nat.lt_of_le_of_lt ?_ hx
 rw [show (x / (v:Int))=x.ediv v from rfl] at *
 exact Int.natAbs_ediv_le_natAbs x v
theorem znz {w0:World} (x y:Raw) (h:zx x=false):Con.sound (KN w0) Tryz.prog (FN [x,y] [.bool (zx x),.bool (zx y)]) ⟨44,[RA 0 1],[],LF (.k (.bool false)),[]⟩ :=
 zl (C:=[(7,.call ⟨84,[NM 0],[],LF (.h 100),[]⟩),
  (10100,.fb 100 false)]) 0 (zq rfl) ⟨qp (zf (k:=0) rfl),c_fb (zf (k:=0) (congrArg Value.bool h)),trivial⟩ mixed (by kernel_rfl)
theorem znA {w0:World} (x y:Raw) (h:zx x=true) (h1:zx y=false):Con.sound (KN w0) Tryz.prog (FN [x,y] [.bool (zx x),.bool (zx y)]) ⟨44,[RA 0 1],[],LF (.k (.bool false)),[]⟩ :=
 zl (C:=[(7,.call ⟨84,[NM 0],[],LF (.h 100),[]⟩),
  (12,.call ⟨84,[NM 1],[],LF (.h 101),[]⟩),
  (10100,.fb 100 true),
  (10101,.fb 101 false)]) 0 (zq rfl) ⟨qp (zf (k:=0) rfl),qp (zf (k:=1) rfl),c_fb (zf (k:=0) (congrArg Value.bool h)),c_fb (zf (k:=1) (congrArg Value.bool h1)),trivial⟩ mixed (by kernel_rfl)
theorem znB {w0:World} (x y:Raw) (h:zx x=true) (h1:zx y=true) (h2:decide (cmpX y (nz 1)<0)=true):Con.sound (KN w0) Tryz.prog (FN [x,y,nz 1] [.bool (zx x),.bool (zx y),.int .i64 (cmpX y (nz 1))]) ⟨44,[RA 0 1],[],LF (.k (.bool false)),[]⟩ :=
 zl (C:=[(7,.call ⟨84,[NM 0],[],LF (.h 100),[]⟩),
  (12,.call ⟨84,[NM 1],[],LF (.h 101),[]⟩),
  (10100,.fb 100 true),
  (10101,.fb 101 true),
  (18,.call ⟨55,[LF (.k (.int .i64 1))],[],NM 2,[]⟩),
  (19,.call ⟨54,[NM 1,NM 2],[],LF (.h 102),[]⟩),
  (20,.bin .lss 3 (LF (.h 102)) (LF (.k (.int .i64 0))) (LF (.k (.bool true))))]) 0 (zq rfl) ⟨qp (zf (k:=0) rfl),qp (zf (k:=1) rfl),c_fb (zf (k:=0) (congrArg Value.bool h)),c_fb (zf (k:=1) (congrArg Value.bool h1)),zbF zg (by decide) (by decide) rfl,zbj (zf (k:=2) rfl),c_bin (zf (k:=2) rfl) zg (congrArg some h2) zg,trivial⟩ mixed (by kernel_rfl)
theorem znC {w0:World} (x y:Raw) (h:zx x=true) (h1:zx y=true) (h2:decide (cmpX y (nz 1)<0)=false):Con.sound (KN w0) Tryz.prog (FN [x,y,nz 1,nz (vO (gcdX x y))] [.bool (zx x),.bool (zx y),.int .i64 (cmpX y (nz 1)),.bool (okO (gcdX x y)),.int .i64 (cmpX (nz (vO (gcdX x y))) (nz 1)),.bool (cmpX (nz (vO (gcdX x y))) (nz 1) == 0)]) ⟨44,[RA 0 1],[],LF (.h 105),[]⟩ :=
 zl (C:=[(7,.call ⟨84,[NM 0],[],LF (.h 100),[]⟩),
  (12,.call ⟨84,[NM 1],[],LF (.h 101),[]⟩),
  (10100,.fb 100 true),
  (10101,.fb 101 true),
  (18,.call ⟨55,[LF (.k (.int .i64 1))],[],NM 2,[]⟩),
  (19,.call ⟨54,[NM 1,NM 2],[],LF (.h 102),[]⟩),
  (20,.bin .lss 3 (LF (.h 102)) (LF (.k (.int .i64 0))) (LF (.k (.bool false)))),
  (27,.call ⟨85,[NM 0,NM 1],[],.t [.g (nm 3),.c (.h 103)],[]⟩),
  (31,.call ⟨55,[LF (.k (.int .i64 1))],[],NM 2,[]⟩),
  (32,.call ⟨54,[NM 3,NM 2],[],LF (.h 104),[]⟩),
  (33,.bin .eql 3 (LF (.h 104)) (LF (.k (.int .i64 0))) (LF (.h 105)))]) 0 (zq rfl) ⟨qp (zf (k:=0) rfl),qp (zf (k:=1) rfl),c_fb (zf (k:=0) (congrArg Value.bool h)),c_fb (zf (k:=1) (congrArg Value.bool h1)),zbF zg (by decide) (by decide) rfl,zbj (zf (k:=2) rfl),c_bin (zf (k:=2) rfl) zg (congrArg some h2) zg,zhB rfl (zf (k:=3) rfl),zbF zg (by decide) (by decide) rfl,zbj (zf (k:=4) rfl),c_bin (zf (k:=4) rfl) zg rfl (zf (k:=5) rfl),trivial⟩ mixed (by kernel_rfl)
theorem zn {xs:List Raw} {es:List Value} {w0:World} {i j:Nat} {o:Lf} (ho:Gives (FN xs es) o (.bool (rrX (X xs i) (X xs j)))) (hi:i<50:=by first | assumption | decide) (hj:j<50:=by first | assumption | decide):Con.sound (KN w0) Tryz.prog (FN xs es) ⟨44,[RA i j],[],LF o,[]⟩:=by
 refine dgR1 (fun d1 d2=>?_) hi hj
 rw [zmm] at ho
 cases h:zx (X xs i) with
 | false =>
  rw [h,Bool.false_and] at ho
  exact tr (znz _ _ h) (sh1 (RA_mv rfl rfl hi hj)) (LF_bk ho zg)
 | true =>
  cases h1:zx (X xs j) with
  | false =>
   rw [h,h1,Bool.false_and,Bool.and_false] at ho
   exact tr (znA _ _ h h1) (sh1 (RA_mv rfl rfl hi hj)) (LF_bk ho zg)
  | true =>
   obtain ⟨a,ea,ha⟩:=ze5 h d1
   obtain ⟨b,eb,hb⟩:=ze5 h1 d2
   rw [← zmm,ea,eb,zpH ha hb] at ho
   cases h2:decide (cmpX (X xs j) (nz 1)<0) with
   | true =>
    have h3:=h2
    rw [eb,zs1 hb] at h3
    have e:decide (0<b)=false:=by simpa using h3
    rw [e,Bool.false_and] at ho
    exact tr (znB _ _ h h1 h2) (sh1 (RA_mv rfl rfl hi hj)) (LF_bk ho zg)
   | false =>
    have h3:=h2
    rw [eb,zs1 hb] at h3
    have e:decide (0<b)=true:=by simpa using h3
    rw [e,Bool.true_and,← zs4 (zh0 ha hb)] at ho
    refine tr (znC _ _ h h1 h2) (sh1 (RA_mv rfl rfl hi hj)) (LF_bk ho (zf (k:=5) ?_))
    show Value.bool (cmpX (nz (vO (gcdX (X xs i) (X xs j)))) (nz 1) == 0)=_
    rw [ea,eb,zb2 ha hb];rfl
theorem of_a {w0:World} (x y:Raw) (h:(zx x && zx y)=false):Con.sound (KN w0) Tryz.prog (FN [x,y] [.bool (zx x && zx y)]) ⟨46,[NM 0,NM 1],[],.t [.g ZC,.c (.k (.bool false))],[]⟩ :=
 zl (C:=[(11,.call ⟨82,[LF (.s 6 0 2 2)],[.bx 6 26 (nm 0++nm 1)],LF (.h 100),[.bx 6 26 (nm 0++nm 1)]⟩),
  (10100,.fb 100 false)]) 0 (zq rfl) ⟨zcg rfl (zf (k:=0) rfl),c_fb (zf (k:=0) (congrArg Value.bool h)),trivial⟩ mixed (by kernel_rfl)
theorem of_b {w0:World} (x y:Raw) (h:(zx x && zx y)=true) (h2:(cmpX y (nz 0) == 0)=true):Con.sound (KN w0) Tryz.prog (FN [x,y,nz 0] [.bool (zx x && zx y),.int .i64 (cmpX y (nz 0))]) ⟨46,[NM 0,NM 1],[],.t [.g ZC,.c (.k (.bool false))],[]⟩ :=
 zl (C:=[(11,.call ⟨82,[LF (.s 6 0 2 2)],[.bx 6 26 (nm 0++nm 1)],LF (.h 100),[.bx 6 26 (nm 0++nm 1)]⟩),
  (10100,.fb 100 true),
  (15,.call ⟨65,[],[],NM 2,[]⟩),
  (16,.call ⟨33,[NM 1,NM 2],[],LF (.h 101),[]⟩),
  (17,.bin .eql 3 (LF (.h 101)) (LF (.k (.int .i64 0))) (LF (.k (.bool true))))]) 0 (zq rfl) ⟨zcg rfl (zf (k:=0) rfl),c_fb (zf (k:=0) (congrArg Value.bool h)),zcA rfl,c_cmp (zf (k:=1) rfl),c_bin (zf (k:=1) rfl) zg (congrArg some h2) zg,trivial⟩ mixed (by kernel_rfl)
theorem of_c {w0:World} (x y:Raw) (h:(zx x && zx y)=true) (h2:(cmpX y (nz 0) == 0)=false) (h3:y.1=false):Con.sound (KN w0) Tryz.prog (FN [x,y,nz 0,nz (vO (gcdX x y)),nz (dqO (divX x (nz (vO (gcdX x y))))),nz (dqO (divX y (nz (vO (gcdX x y)))))] [.bool (zx x && zx y),.int .i64 (cmpX y (nz 0)),.bool (okO (gcdX x y))]) ⟨46,[NM 0,NM 1],[],.t [.g (nm 4++nm 5),.c (.k (.bool true))],[]⟩ :=
 zl (C:=[(11,.call ⟨82,[LF (.s 6 0 2 2)],[.bx 6 26 (nm 0++nm 1)],LF (.h 100),[.bx 6 26 (nm 0++nm 1)]⟩),
  (10100,.fb 100 true),
  (15,.call ⟨65,[],[],NM 2,[]⟩),
  (16,.call ⟨33,[NM 1,NM 2],[],LF (.h 101),[]⟩),
  (17,.bin .eql 3 (LF (.h 101)) (LF (.k (.int .i64 0))) (LF (.k (.bool false)))),
  (10002,.fb 2 false),
  (29,.call ⟨83,[NM 0,NM 1],[],.t [.g (nm 3),.c (.h 102)],[]⟩),
  (34,.call ⟨79,[NM 0,NM 3],[],NM 4,[]⟩),
  (37,.call ⟨79,[NM 1,NM 3],[],NM 5,[]⟩)]) 0 (zq rfl) ⟨zcg rfl (zf (k:=0) rfl),c_fb (zf (k:=0) (congrArg Value.bool h)),zcA rfl,c_cmp (zf (k:=1) rfl),c_bin (zf (k:=1) rfl) zg (congrArg some h2) zg,c_fb (zoJ (i:=1) h3),c_gcd rfl (zf (k:=2) rfl),zbB rfl,zbB rfl,trivial⟩ mixed (by kernel_rfl)
def ngX (x:Raw):Raw:=nz (vO (subX (nz 0) x))
theorem of_d {w0:World} (x y:Raw) (h:(zx x && zx y)=true) (h2:(cmpX y (nz 0) == 0)=false) (h3:y.1=true):Con.sound (KN w0) Tryz.prog (FN [x,y,nz 0,nz (vO (gcdX (ngX x) (ngX y))),nz (dqO (divX (ngX x) (nz (vO (gcdX (ngX x) (ngX y)))))),nz (dqO (divX (ngX y) (nz (vO (gcdX (ngX x) (ngX y)))))),ngX x,ngX y] [.bool (zx x && zx y),.int .i64 (cmpX y (nz 0)),.bool (okO (gcdX (ngX x) (ngX y)))]) ⟨46,[NM 0,NM 1],[],.t [.g (nm 4++nm 5),.c (.k (.bool true))],[]⟩ :=
 zl (C:=[(11,.call ⟨82,[LF (.s 6 0 2 2)],[.bx 6 26 (nm 0++nm 1)],LF (.h 100),[.bx 6 26 (nm 0++nm 1)]⟩),
  (10100,.fb 100 true),
  (15,.call ⟨65,[],[],NM 2,[]⟩),
  (16,.call ⟨33,[NM 1,NM 2],[],LF (.h 101),[]⟩),
  (17,.bin .eql 3 (LF (.h 101)) (LF (.k (.int .i64 0))) (LF (.k (.bool false)))),
  (10002,.fb 2 true),
  (23,.call ⟨61,[NM 0],[],NM 6,[]⟩),
  (25,.call ⟨61,[NM 1],[],NM 7,[]⟩),
  (29,.call ⟨83,[NM 6,NM 7],[],.t [.g (nm 3),.c (.h 102)],[]⟩),
  (34,.call ⟨79,[NM 6,NM 3],[],NM 4,[]⟩),
  (37,.call ⟨79,[NM 7,NM 3],[],NM 5,[]⟩)]) 0 (zq rfl) ⟨zcg rfl (zf (k:=0) rfl),c_fb (zf (k:=0) (congrArg Value.bool h)),zcA rfl,c_cmp (zf (k:=1) rfl),c_bin (zf (k:=1) rfl) zg (congrArg some h2) zg,c_fb (zoJ (i:=1) h3),zfw rfl,zfw rfl,c_gcd rfl (zf (k:=2) rfl),zbB rfl,zbB rfl,trivial⟩ mixed (by kernel_rfl)
theorem c_of2 {xs:List Raw} {es:List Value} {w0:World} {i j k k2:Nat} {o:Lf} (h:X xs k=nz (nO (ofX (X xs i) (X xs j)))) (h2:X xs k2=nz ((dO (ofX (X xs i) (X xs j)):Nat):Int)) (ho:Gives (FN xs es) o (.bool (ofX (X xs i) (X xs j)).isSome)) (hi:i<50:=by first | assumption | decide) (hj:j<50:=by first | assumption | decide) (hk:k<50:=by first | assumption | decide) (hk2:k2<50:=by first | assumption | decide):Con.sound (KN w0) Tryz.prog (FN xs es) ⟨46,[NM i,NM j],[],.t [.g (nm k++nm k2),.c o],[]⟩:=by
 refine dgN2 (fun d1 d2=>?_) hi hj
 cases hr:zx (X xs i) && zx (X xs j) with
 | false =>
  have e:ofX (X xs i) (X xs j)=none:=by unfold ofX;rw [if_neg (by rw [hr];simp)]
  rw [e] at h h2 ho
  exact tr (of_a _ _ hr) (sh2 (NM_mv rfl hi) (NM_mv rfl hj)) (T2_bk (ZR_bk h h2 hk hk2) (LF_bk ho zg))
 | true =>
  have hr':=hr
  rw [Bool.and_eq_true] at hr'
  obtain ⟨a,ea,ha⟩:=ze5 hr'.1 d1
  obtain ⟨b,eb,hb⟩:=ze5 hr'.2 d2
  rw [ea,eb,zfS ha hb] at h h2 ho
  cases hz:cmpX (X xs j) (nz 0) == 0 with
  | true =>
   have hz':=hz
   rw [eb,zem hb] at hz'
   have e:ofR a b=none:=by unfold ofR;rw [if_pos (of_decide_eq_true hz')]
   rw [e] at h h2 ho
   exact tr (of_b _ _ hr hz) (sh2 (NM_mv rfl hi) (NM_mv rfl hj)) (T2_bk (ZR_bk h h2 hk hk2) (LF_bk ho zg))
  | false =>
   have hz':=hz
   rw [eb,zem hb] at hz'
   have hb0:b≠0:=of_decide_eq_false hz'
   obtain ⟨p,e,hpn,hpd⟩:=zkw (x:=a) (y:=b) hb0
   rw [e] at h h2 ho
   have hg:=zmb ha hb
   have hg0:=zoH (x:=a) hb0
   cases hn:(X xs j).1 with
   | false =>
    have hbp:¬ b<0:=by rw [eb] at hn;exact of_decide_eq_false hn
    rw [if_neg hbp] at hpn
    refine tr (of_c _ _ hr hz hn) (sh2 (NM_mv rfl hi) (NM_mv rfl hj)) (T2_bk (RA_bk ?_ ?_) (LF_bk ho zg))
    ·show nz (dqO (divX (X xs i) (nz (vO (gcdX (X xs i) (X xs j))))))=_
     rw [h,ea,eb,zb2 ha hb]
     show nz (dqO (divX (nz a) (nz ((Nat.gcd a.natAbs b.natAbs:Nat):Int))))=nz p.num
     rw [za5 ha hg hg0,hpn];rfl
    ·show nz (dqO (divX (X xs j) (nz (vO (gcdX (X xs i) (X xs j))))))=_
     rw [h2,ea,eb,zb2 ha hb]
     show nz (dqO (divX (nz b) (nz ((Nat.gcd a.natAbs b.natAbs:Nat):Int))))=nz ((p.den:Nat):Int)
     rw [za5 hb hg hg0,hpd,Int.natCast_ediv,Int.natAbs_of_nonneg (by omega)];rfl
   | true =>
    have hbn:b<0:=by rw [eb] at hn;exact of_decide_eq_true hn
    rw [if_pos hbn] at hpn
    have hna:(-a).natAbs<big:=by simpa using ha
    have hnb:(-b).natAbs<big:=by simpa using hb
    have e1:ngX (nz a)=nz (-a):=zex ha
    have e2:ngX (nz b)=nz (-b):=zex hb
    refine tr (of_d _ _ hr hz hn) (sh2 (NM_mv rfl hi) (NM_mv rfl hj)) (T2_bk (RA_bk ?_ ?_) (LF_bk ho zg))
    ·show nz (dqO (divX (ngX (X xs i)) (nz (vO (gcdX (ngX (X xs i)) (ngX (X xs j)))))))=_
     rw [h,ea,eb,e1,e2,zb2 hna hnb,Int.natAbs_neg,Int.natAbs_neg]
     show nz (dqO (divX (nz (-a)) (nz ((Nat.gcd a.natAbs b.natAbs:Nat):Int))))=nz p.num
     rw [za5 hna hg hg0,hpn];rfl
    ·show nz (dqO (divX (ngX (X xs j)) (nz (vO (gcdX (ngX (X xs i)) (ngX (X xs j)))))))=_
     rw [h2,ea,eb,e1,e2,zb2 hna hnb,Int.natAbs_neg,Int.natAbs_neg]
     show nz (dqO (divX (nz (-b)) (nz ((Nat.gcd a.natAbs b.natAbs:Nat):Int))))=nz ((p.den:Nat):Int)
     rw [za5 hnb hg hg0,hpd,Int.natCast_ediv,show ((b.natAbs:Nat):Int)=-b by omega];rfl
theorem zuF {w0:World} (x y:Raw) (h:zx x=false):Con.sound (KN w0) Tryz.prog (FN [x,y] [.bool (zx x),.bool (zx y)]) ⟨47,[NM 0,NM 1],[],.t [.g ZC,.c (.k (.bool false))],[]⟩ :=
 zl (C:=[(10,.call ⟨84,[NM 0],[],LF (.h 100),[]⟩),
  (10100,.fb 100 false)]) 0 (zq rfl) ⟨qp (zf (k:=0) rfl),c_fb (zf (k:=0) (congrArg Value.bool h)),trivial⟩ mixed (by kernel_rfl)
theorem zuG {w0:World} (x y:Raw) (h:zx x=true) (h1:zx y=false):Con.sound (KN w0) Tryz.prog (FN [x,y] [.bool (zx x),.bool (zx y)]) ⟨47,[NM 0,NM 1],[],.t [.g ZC,.c (.k (.bool false))],[]⟩ :=
 zl (C:=[(10,.call ⟨84,[NM 0],[],LF (.h 100),[]⟩),
  (14,.call ⟨84,[NM 1],[],LF (.h 101),[]⟩),
  (10100,.fb 100 true),
  (10101,.fb 101 false)]) 0 (zq rfl) ⟨qp (zf (k:=0) rfl),qp (zf (k:=1) rfl),c_fb (zf (k:=0) (congrArg Value.bool h)),c_fb (zf (k:=1) (congrArg Value.bool h1)),trivial⟩ mixed (by kernel_rfl)
theorem zuH {w0:World} (x y:Raw) (h:zx x=true) (h1:zx y=true) (h2:(cmpX y (nz 0) == 0)=true):Con.sound (KN w0) Tryz.prog (FN [x,y,nz 0] [.bool (zx x),.bool (zx y),.int .i64 (cmpX y (nz 0))]) ⟨47,[NM 0,NM 1],[],.t [.g ZC,.c (.k (.bool false))],[]⟩ :=
 zl (C:=[(10,.call ⟨84,[NM 0],[],LF (.h 100),[]⟩),
  (14,.call ⟨84,[NM 1],[],LF (.h 101),[]⟩),
  (10100,.fb 100 true),
  (10101,.fb 101 true),
  (19,.call ⟨55,[LF (.k (.int .i64 0))],[],NM 2,[]⟩),
  (20,.call ⟨54,[NM 1,NM 2],[],LF (.h 102),[]⟩),
  (21,.bin .eql 3 (LF (.h 102)) (LF (.k (.int .i64 0))) (LF (.k (.bool true))))]) 0 (zq rfl) ⟨qp (zf (k:=0) rfl),qp (zf (k:=1) rfl),c_fb (zf (k:=0) (congrArg Value.bool h)),c_fb (zf (k:=1) (congrArg Value.bool h1)),zbF zg (by decide) (by decide) rfl,zbj (zf (k:=2) rfl),c_bin (zf (k:=2) rfl) zg (congrArg some h2) zg,trivial⟩ mixed (by kernel_rfl)
theorem zuI {w0:World} (x y:Raw) (h:zx x=true) (h1:zx y=true) (h2:(cmpX y (nz 0) == 0)=false) (h3:decide (cmpX y (nz 0)<0)=false):Con.sound (KN w0) Tryz.prog (FN [x,y,nz 0,nz (vO (gcdX x y)),nz (dqO (divX x (nz (vO (gcdX x y))))),nz (dqO (divX y (nz (vO (gcdX x y)))))] [.bool (zx x),.bool (zx y),.int .i64 (cmpX y (nz 0)),.bool (okO (gcdX x y))]) ⟨47,[NM 0,NM 1],[],.t [.g (nm 4++nm 5),.c (.k (.bool true))],[]⟩ :=
 zl (C:=[(10,.call ⟨84,[NM 0],[],LF (.h 100),[]⟩),
  (14,.call ⟨84,[NM 1],[],LF (.h 101),[]⟩),
  (10100,.fb 100 true),
  (10101,.fb 101 true),
  (19,.call ⟨55,[LF (.k (.int .i64 0))],[],NM 2,[]⟩),
  (20,.call ⟨54,[NM 1,NM 2],[],LF (.h 102),[]⟩),
  (21,.bin .eql 3 (LF (.h 102)) (LF (.k (.int .i64 0))) (LF (.k (.bool false)))),
  (27,.call ⟨85,[NM 0,NM 1],[],.t [.g (nm 3),.c (.h 103)],[]⟩),
  (32,.call ⟨81,[NM 0,NM 3],[],NM 4,[]⟩),
  (35,.call ⟨81,[NM 1,NM 3],[],NM 5,[]⟩),
  (38,.call ⟨55,[LF (.k (.int .i64 0))],[],NM 2,[]⟩),
  (39,.call ⟨54,[NM 1,NM 2],[],LF (.h 102),[]⟩),
  (40,.bin .lss 3 (LF (.h 102)) (LF (.k (.int .i64 0))) (LF (.k (.bool false))))]) 0 (zq rfl) ⟨qp (zf (k:=0) rfl),qp (zf (k:=1) rfl),c_fb (zf (k:=0) (congrArg Value.bool h)),c_fb (zf (k:=1) (congrArg Value.bool h1)),zbF zg (by decide) (by decide) rfl,zbj (zf (k:=2) rfl),c_bin (zf (k:=2) rfl) zg (congrArg some h2) zg,zhB rfl (zf (k:=3) rfl),zb5 rfl,zb5 rfl,zbF zg (by decide) (by decide) rfl,zbj (zf (k:=2) rfl),c_bin (zf (k:=2) rfl) zg (congrArg some h3) zg,trivial⟩ mixed (by kernel_rfl)
theorem zuJ {w0:World} (x y:Raw) (h:zx x=true) (h1:zx y=true) (h2:(cmpX y (nz 0) == 0)=false) (h3:decide (cmpX y (nz 0)<0)=true):Con.sound (KN w0) Tryz.prog (FN [x,y,nz 0,nz (vO (gcdX x y)),nz (dqO (divX x (nz (vO (gcdX x y))))),nz (dqO (divX y (nz (vO (gcdX x y))))),ngX (nz (dqO (divX x (nz (vO (gcdX x y)))))),ngX (nz (dqO (divX y (nz (vO (gcdX x y))))))] [.bool (zx x),.bool (zx y),.int .i64 (cmpX y (nz 0)),.bool (okO (gcdX x y))]) ⟨47,[NM 0,NM 1],[],.t [.g (nm 6++nm 7),.c (.k (.bool true))],[]⟩ :=
 zl (C:=[(10,.call ⟨84,[NM 0],[],LF (.h 100),[]⟩),
  (14,.call ⟨84,[NM 1],[],LF (.h 101),[]⟩),
  (10100,.fb 100 true),
  (10101,.fb 101 true),
  (19,.call ⟨55,[LF (.k (.int .i64 0))],[],NM 2,[]⟩),
  (20,.call ⟨54,[NM 1,NM 2],[],LF (.h 102),[]⟩),
  (21,.bin .eql 3 (LF (.h 102)) (LF (.k (.int .i64 0))) (LF (.k (.bool false)))),
  (27,.call ⟨85,[NM 0,NM 1],[],.t [.g (nm 3),.c (.h 103)],[]⟩),
  (32,.call ⟨81,[NM 0,NM 3],[],NM 4,[]⟩),
  (35,.call ⟨81,[NM 1,NM 3],[],NM 5,[]⟩),
  (38,.call ⟨55,[LF (.k (.int .i64 0))],[],NM 2,[]⟩),
  (39,.call ⟨54,[NM 1,NM 2],[],LF (.h 102),[]⟩),
  (40,.bin .lss 3 (LF (.h 102)) (LF (.k (.int .i64 0))) (LF (.k (.bool true)))),
  (43,.call ⟨62,[NM 4],[],NM 6,[]⟩),
  (47,.call ⟨62,[NM 5],[],NM 7,[]⟩)]) 0 (zq rfl) ⟨qp (zf (k:=0) rfl),qp (zf (k:=1) rfl),c_fb (zf (k:=0) (congrArg Value.bool h)),c_fb (zf (k:=1) (congrArg Value.bool h1)),zbF zg (by decide) (by decide) rfl,zbj (zf (k:=2) rfl),c_bin (zf (k:=2) rfl) zg (congrArg some h2) zg,zhB rfl (zf (k:=3) rfl),zb5 rfl,zb5 rfl,zbF zg (by decide) (by decide) rfl,zbj (zf (k:=2) rfl),c_bin (zf (k:=2) rfl) zg (congrArg some h3) zg,zb4 rfl,zb4 rfl,trivial⟩ mixed (by kernel_rfl)
theorem zfj {xs:List Raw} {es:List Value} {w0:World} {i j k k2:Nat} {o:Lf} (h:X xs k=nz (nO (ofX (X xs i) (X xs j)))) (h2:X xs k2=nz ((dO (ofX (X xs i) (X xs j)):Nat):Int)) (ho:Gives (FN xs es) o (.bool (ofX (X xs i) (X xs j)).isSome)) (hi:i<50:=by first | assumption | decide) (hj:j<50:=by first | assumption | decide) (hk:k<50:=by first | assumption | decide) (hk2:k2<50:=by first | assumption | decide):Con.sound (KN w0) Tryz.prog (FN xs es) ⟨47,[NM i,NM j],[],.t [.g (nm k++nm k2),.c o],[]⟩:=by
 refine dgN2 (fun d1 d2=>?_) hi hj
 cases hr:zx (X xs i) && zx (X xs j) with
 | false =>
  have e:ofX (X xs i) (X xs j)=none:=by unfold ofX;rw [if_neg (by rw [hr];simp)]
  rw [e] at h h2 ho
  cases hx:zx (X xs i) with
  | false=>exact tr (zuF _ _ hx) (sh2 (NM_mv rfl hi) (NM_mv rfl hj)) (T2_bk (ZR_bk h h2 hk hk2) (LF_bk ho zg))
  | true =>
   rw [hx,Bool.true_and] at hr
   exact tr (zuG _ _ hx hr) (sh2 (NM_mv rfl hi) (NM_mv rfl hj)) (T2_bk (ZR_bk h h2 hk hk2) (LF_bk ho zg))
 | true =>
  have hr':=hr
  rw [Bool.and_eq_true] at hr'
  obtain ⟨a,ea,ha⟩:=ze5 hr'.1 d1
  obtain ⟨b,eb,hb⟩:=ze5 hr'.2 d2
  rw [ea,eb,zfS ha hb] at h h2 ho
  cases hz:cmpX (X xs j) (nz 0) == 0 with
  | true =>
   have hz':=hz
   rw [eb,zem hb] at hz'
   have e:ofR a b=none:=by unfold ofR;rw [if_pos (of_decide_eq_true hz')]
   rw [e] at h h2 ho
   exact tr (zuH _ _ hr'.1 hr'.2 hz) (sh2 (NM_mv rfl hi) (NM_mv rfl hj)) (T2_bk (ZR_bk h h2 hk hk2) (LF_bk ho zg))
  | false =>
   have hz':=hz
   rw [eb,zem hb] at hz'
   have hb0:b≠0:=of_decide_eq_false hz'
   obtain ⟨p,e,hpn,hpd⟩:=zkw (x:=a) (y:=b) hb0
   rw [e] at h h2 ho
   have hg:=zmb ha hb
   have hg0:=zoH (x:=a) hb0
   cases hn:decide (cmpX (X xs j) (nz 0)<0) with
   | false =>
    have hbp:¬ b<0:=by rw [eb,zoU hb] at hn;exact of_decide_eq_false hn
    rw [if_neg hbp] at hpn
    refine tr (zuI _ _ hr'.1 hr'.2 hz hn) (sh2 (NM_mv rfl hi) (NM_mv rfl hj)) (T2_bk (RA_bk ?_ ?_) (LF_bk ho zg))
    ·show nz (dqO (divX (X xs i) (nz (vO (gcdX (X xs i) (X xs j))))))=_
     rw [h,ea,eb,zb2 ha hb]
     show nz (dqO (divX (nz a) (nz ((Nat.gcd a.natAbs b.natAbs:Nat):Int))))=nz p.num
     rw [za5 ha hg hg0,hpn];rfl
    ·show nz (dqO (divX (X xs j) (nz (vO (gcdX (X xs i) (X xs j))))))=_
     rw [h2,ea,eb,zb2 ha hb]
     show nz (dqO (divX (nz b) (nz ((Nat.gcd a.natAbs b.natAbs:Nat):Int))))=nz ((p.den:Nat):Int)
     rw [za5 hb hg hg0,hpd,Int.natCast_ediv,Int.natAbs_of_nonneg (by omega)];rfl
   | true =>
    have hbn:b<0:=by rw [eb,zoU hb] at hn;exact of_decide_eq_true hn
    rw [if_pos hbn] at hpn
    refine tr (zuJ _ _ hr'.1 hr'.2 hz hn) (sh2 (NM_mv rfl hi) (NM_mv rfl hj)) (T2_bk (RA_bk ?_ ?_) (LF_bk ho zg))
    ·show ngX (nz (dqO (divX (X xs i) (nz (vO (gcdX (X xs i) (X xs j)))))))=_
     rw [h,ea,eb,zb2 ha hb]
     show ngX (nz (dqO (divX (nz a) (nz ((Nat.gcd a.natAbs b.natAbs:Nat):Int)))))=nz p.num
     rw [za5 ha hg hg0,hpn]
     show ngX (nz (a / ((Nat.gcd a.natAbs b.natAbs:Nat):Int)))=_
     rw [zi3]
     exact zex (zeg ha)
    ·show ngX (nz (dqO (divX (X xs j) (nz (vO (gcdX (X xs i) (X xs j)))))))=_
     rw [h2,ea,eb,zb2 ha hb]
     show ngX (nz (dqO (divX (nz b) (nz ((Nat.gcd a.natAbs b.natAbs:Nat):Int)))))=nz ((p.den:Nat):Int)
     rw [za5 hb hg hg0,hpd,Int.natCast_ediv,show ((b.natAbs:Nat):Int)=-b by omega]
     show ngX (nz (b / ((Nat.gcd a.natAbs b.natAbs:Nat):Int)))=_
     rw [Int.neg_ediv_of_dvd (Int.ofNat_dvd_left.2 (Nat.gcd_dvd_right _ _))]
     exact zex (zeg hb)
end Go.Proofs.YtccjiodohphgnaaGreatDoor
namespace Go.Proofs.YtccjiodohphgnaaGreatDoor
open Go.RowKit Go.Shelf
theorem zvZ {w0:World} (x y:Raw):Con.sound (KN w0) Tryz.prog (FN [x,y,nz (vO (mulX x y))] [.bool (okO (mulX x y))]) ⟨56,[NM 0,NM 1],[],PR 2 (.h 100),[]⟩ :=
 zl (C:=[(10,.call ⟨87,[NM 0,NM 1],[],.t [.g (nm 2),.c (.h 100)],[]⟩)]) 0 (zq rfl) ⟨c_mul rfl (zf (k:=0) rfl),trivial⟩ mixed (by kernel_rfl)
theorem zbf {xs:List Raw} {es:List Value} {w0:World} {i j k:Nat} {o:Lf} (h:X xs k=nz (vO (mulX (X xs i) (X xs j)))) (ho:Gives (FN xs es) o (.bool (okO (mulX (X xs i) (X xs j))))) (hi:i<50:=by first | assumption | decide) (hj:j<50:=by first | assumption | decide) (hk:k<50:=by first | assumption | decide):Con.sound (KN w0) Tryz.prog (FN xs es) ⟨56,[NM i,NM j],[],PR k o,[]⟩:=tr (zvZ (X xs i) (X xs j)) (sh2 (NM_mv rfl) (NM_mv rfl)) (PR_bk h.symm ho (zf (k:=0) rfl))
def ovX (b1 b2:Bool) (x y:Raw):Option Rat:=if (b1 && b2)=true then ofX x y else none
theorem zwH {w0:World} (x y:Raw) (b:Bool):Con.sound (KN w0) Tryz.prog (FN [x,y] [.bool false,.bool b]) ⟨58,[PR 0 (.h 100),PR 1 (.h 101)],[],.t [.g ZC,.c (.k (.bool false))],[]⟩ :=
 zl (C:=[(10100,.fb 100 false)]) 0 (zq rfl) ⟨c_fb (zf (k:=0) rfl),trivial⟩ mixed (by kernel_rfl)
theorem zwI {w0:World} (x y:Raw):Con.sound (KN w0) Tryz.prog (FN [x,y] [.bool true,.bool false]) ⟨58,[PR 0 (.h 100),PR 1 (.h 101)],[],.t [.g ZC,.c (.k (.bool false))],[]⟩ :=
 zl (C:=[(10100,.fb 100 true),
  (10101,.fb 101 false)]) 0 (zq rfl) ⟨c_fb (zf (k:=0) rfl),c_fb (zf (k:=1) rfl),trivial⟩ mixed (by kernel_rfl)
theorem zwJ {w0:World} (x y:Raw):Con.sound (KN w0) Tryz.prog (FN [x,y,nz (nO (ofX x y)),nz ((dO (ofX x y):Nat):Int)] [.bool true,.bool true,.bool (ofX x y).isSome]) ⟨58,[PR 0 (.h 100),PR 1 (.h 101)],[],.t [.g (nm 2++nm 3),.c (.h 102)],[]⟩ :=
 zl (C:=[(10100,.fb 100 true),
  (10101,.fb 101 true),
  (19,.call ⟨46,[NM 0,NM 1],[],.t [.g (nm 2++nm 3),.c (.h 102)],[]⟩)]) 0 (zq rfl) ⟨c_fb (zf (k:=0) rfl),c_fb (zf (k:=1) rfl),c_of2 rfl rfl (zf (k:=2) rfl),trivial⟩ mixed (by kernel_rfl)
theorem zjs {xs:List Raw} {es:List Value} {w0:World} {i j k k2:Nat} {L M o:Lf} {b1 b2:Bool} (hL:Gives (FN xs es) L (.bool b1)) (hM:Gives (FN xs es) M (.bool b2)) (h:X xs k=nz (nO (ovX b1 b2 (X xs i) (X xs j)))) (h2:X xs k2=nz ((dO (ovX b1 b2 (X xs i) (X xs j)):Nat):Int)) (ho:Gives (FN xs es) o (.bool (ovX b1 b2 (X xs i) (X xs j)).isSome)) (hi:i<50:=by first | assumption | decide) (hj:j<50:=by first | assumption | decide) (hk:k<50:=by first | assumption | decide) (hk2:k2<50:=by first | assumption | decide):Con.sound (KN w0) Tryz.prog (FN xs es) ⟨58,[PR i L,PR j M],[],.t [.g (nm k++nm k2),.c o],[]⟩:=by
 cases b1 with
 | false=>exact tr (zwH (X xs i) (X xs j) b2) (sh2 (PR_mv rfl hL (zf (k:=0) rfl)) (PR_mv rfl hM (zf (k:=1) rfl))) (T2_bk (ZR_bk h h2) (LF_bk ho zg))
 | true =>
  cases b2 with
  | false=>exact tr (zwI (X xs i) (X xs j)) (sh2 (PR_mv rfl hL (zf (k:=0) rfl)) (PR_mv rfl hM (zf (k:=1) rfl))) (T2_bk (ZR_bk h h2) (LF_bk ho zg))
  | true=>exact tr (zwJ (X xs i) (X xs j)) (sh2 (PR_mv rfl hL (zf (k:=0) rfl)) (PR_mv rfl hM (zf (k:=1) rfl))) (T2_bk (RA_bk h.symm h2.symm) (LF_bk ho (zf (k:=2) rfl)))
section
variable (a b c d:Raw)
def axX:Option Int:=mulX a d
def ayX:Option Int:=mulX c b
def adX:Option Int:=mulX b d
def asX:Option Int:=addX (nz (vO (axX a d))) (nz (vO (ayX b c)))
def arX (t:Bool):Option Rat:=ovX t (okO (adX b d)) (nz (vO (asX a b c d))) (nz (vO (adX b d)))
end
theorem add_a {w0:World} (a b c d:Raw) (h:rrX a b=false):Con.sound (KN w0) Tryz.prog (FN [a,b,c,d] [.bool (rrX a b)]) ⟨13,[RA 0 1,RA 2 3],[],.t [.g ZC,.c (.k (.bool false))],[]⟩ :=
 zl (C:=[(11,.call ⟨43,[RA 0 1],[],LF (.h 100),[]⟩),
  (10100,.fb 100 false)]) 0 (zq rfl) ⟨zP (zf (k:=0) rfl),c_fb (zf (k:=0) (congrArg Value.bool h)),trivial⟩ mixed (by kernel_rfl)
theorem add_b {w0:World} (a b c d:Raw) (h:rrX a b=true) (h1:rrX c d=false):Con.sound (KN w0) Tryz.prog (FN [a,b,c,d] [.bool (rrX a b),.bool (rrX c d)]) ⟨13,[RA 0 1,RA 2 3],[],.t [.g ZC,.c (.k (.bool false))],[]⟩ :=
 zl (C:=[(11,.call ⟨43,[RA 0 1],[],LF (.h 100),[]⟩),
  (15,.call ⟨43,[RA 2 3],[],LF (.h 101),[]⟩),
  (10100,.fb 100 true),
  (10101,.fb 101 false)]) 0 (zq rfl) ⟨zP (zf (k:=0) rfl),zP (zf (k:=1) rfl),c_fb (zf (k:=0) (congrArg Value.bool h)),c_fb (zf (k:=1) (congrArg Value.bool h1)),trivial⟩ mixed (by kernel_rfl)
theorem add_c {w0:World} (a b c d:Raw) (h:rrX a b=true) (h1:rrX c d=true) (h2:okO (asX a b c d)=false):Con.sound (KN w0) Tryz.prog (FN [a,b,c,d,nz (vO (axX a d)),nz (vO (ayX b c)),nz (vO (asX a b c d)),nz (vO (adX b d)),nz (nO (arX a b c d false)),nz ((dO (arX a b c d false):Nat):Int)] [.bool (rrX a b),.bool (rrX c d),.bool (okO (axX a d)),.bool (okO (ayX b c)),.bool (okO (asX a b c d)),.bool (okO (adX b d)),.bool (arX a b c d false).isSome]) ⟨13,[RA 0 1,RA 2 3],[],.t [.g (nm 8++nm 9),.c (.h 106)],[]⟩ :=
 zl (C:=[(11,.call ⟨43,[RA 0 1],[],LF (.h 100),[]⟩),
  (15,.call ⟨43,[RA 2 3],[],LF (.h 101),[]⟩),
  (10100,.fb 100 true),
  (10101,.fb 101 true),
  (23,.call ⟨56,[NM 0,NM 3],[],PR 4 (.h 102),[]⟩),
  (28,.call ⟨56,[NM 2,NM 1],[],PR 5 (.h 103),[]⟩),
  (34,.call ⟨57,[NM 4,NM 5],[],.t [.g (nm 6),.c (.h 104)],[]⟩),
  (52,.call ⟨56,[NM 1,NM 3],[],PR 7 (.h 105),[]⟩),
  (53,.call ⟨58,[PR 6 (.k (.bool false)),PR 7 (.h 105)],[],.t [.g (nm 8++nm 9),.c (.h 106)],[]⟩),
  (10104,.fb 104 false)]) 0 (zq rfl) ⟨zP (zf (k:=0) rfl),zP (zf (k:=1) rfl),c_fb (zf (k:=0) (congrArg Value.bool h)),c_fb (zf (k:=1) (congrArg Value.bool h1)),zbf rfl (zf (k:=2) rfl),zbf rfl (zf (k:=3) rfl),c_add rfl (zf (k:=4) rfl),zbf rfl (zf (k:=5) rfl),zjs zg (zf (k:=5) rfl) rfl rfl (zf (k:=6) rfl),c_fb (zf (k:=4) (congrArg Value.bool h2)),trivial⟩ mixed (by kernel_rfl)
theorem add_d {w0:World} (a b c d:Raw) (h:rrX a b=true) (h1:rrX c d=true) (h2:okO (asX a b c d)=true) (h3:okO (axX a d)=false):Con.sound (KN w0) Tryz.prog (FN [a,b,c,d,nz (vO (axX a d)),nz (vO (ayX b c)),nz (vO (asX a b c d)),nz (vO (adX b d)),nz (nO (arX a b c d false)),nz ((dO (arX a b c d false):Nat):Int)] [.bool (rrX a b),.bool (rrX c d),.bool (okO (axX a d)),.bool (okO (ayX b c)),.bool (okO (asX a b c d)),.bool (okO (adX b d)),.bool (arX a b c d false).isSome]) ⟨13,[RA 0 1,RA 2 3],[],.t [.g (nm 8++nm 9),.c (.h 106)],[]⟩ :=
 zl (C:=[(11,.call ⟨43,[RA 0 1],[],LF (.h 100),[]⟩),
  (15,.call ⟨43,[RA 2 3],[],LF (.h 101),[]⟩),
  (10100,.fb 100 true),
  (10101,.fb 101 true),
  (23,.call ⟨56,[NM 0,NM 3],[],PR 4 (.h 102),[]⟩),
  (28,.call ⟨56,[NM 2,NM 1],[],PR 5 (.h 103),[]⟩),
  (34,.call ⟨57,[NM 4,NM 5],[],.t [.g (nm 6),.c (.h 104)],[]⟩),
  (52,.call ⟨56,[NM 1,NM 3],[],PR 7 (.h 105),[]⟩),
  (53,.call ⟨58,[PR 6 (.k (.bool false)),PR 7 (.h 105)],[],.t [.g (nm 8++nm 9),.c (.h 106)],[]⟩),
  (10104,.fb 104 true),
  (10102,.fb 102 false)]) 0 (zq rfl) ⟨zP (zf (k:=0) rfl),zP (zf (k:=1) rfl),c_fb (zf (k:=0) (congrArg Value.bool h)),c_fb (zf (k:=1) (congrArg Value.bool h1)),zbf rfl (zf (k:=2) rfl),zbf rfl (zf (k:=3) rfl),c_add rfl (zf (k:=4) rfl),zbf rfl (zf (k:=5) rfl),zjs zg (zf (k:=5) rfl) rfl rfl (zf (k:=6) rfl),c_fb (zf (k:=4) (congrArg Value.bool h2)),c_fb (zf (k:=2) (congrArg Value.bool h3)),trivial⟩ mixed (by kernel_rfl)
theorem add_e {w0:World} (a b c d:Raw) (h:rrX a b=true) (h1:rrX c d=true) (h2:okO (asX a b c d)=true) (h3:okO (axX a d)=true):Con.sound (KN w0) Tryz.prog (FN [a,b,c,d,nz (vO (axX a d)),nz (vO (ayX b c)),nz (vO (asX a b c d)),nz (vO (adX b d)),nz (nO (arX a b c d (okO (ayX b c)))),nz ((dO (arX a b c d (okO (ayX b c))):Nat):Int)] [.bool (rrX a b),.bool (rrX c d),.bool (okO (axX a d)),.bool (okO (ayX b c)),.bool (okO (asX a b c d)),.bool (okO (adX b d)),.bool (arX a b c d (okO (ayX b c))).isSome]) ⟨13,[RA 0 1,RA 2 3],[],.t [.g (nm 8++nm 9),.c (.h 106)],[]⟩ :=
 zl (C:=[(11,.call ⟨43,[RA 0 1],[],LF (.h 100),[]⟩),
  (15,.call ⟨43,[RA 2 3],[],LF (.h 101),[]⟩),
  (10100,.fb 100 true),
  (10101,.fb 101 true),
  (23,.call ⟨56,[NM 0,NM 3],[],PR 4 (.h 102),[]⟩),
  (28,.call ⟨56,[NM 2,NM 1],[],PR 5 (.h 103),[]⟩),
  (34,.call ⟨57,[NM 4,NM 5],[],.t [.g (nm 6),.c (.h 104)],[]⟩),
  (52,.call ⟨56,[NM 1,NM 3],[],PR 7 (.h 105),[]⟩),
  (53,.call ⟨58,[PR 6 (.h 103),PR 7 (.h 105)],[],.t [.g (nm 8++nm 9),.c (.h 106)],[]⟩),
  (10104,.fb 104 true),
  (10102,.fb 102 true)]) 0 (zq rfl) ⟨zP (zf (k:=0) rfl),zP (zf (k:=1) rfl),c_fb (zf (k:=0) (congrArg Value.bool h)),c_fb (zf (k:=1) (congrArg Value.bool h1)),zbf rfl (zf (k:=2) rfl),zbf rfl (zf (k:=3) rfl),c_add rfl (zf (k:=4) rfl),zbf rfl (zf (k:=5) rfl),zjs (zf (k:=3) rfl) (zf (k:=5) rfl) rfl rfl (zf (k:=6) rfl),c_fb (zf (k:=4) (congrArg Value.bool h2)),c_fb (zf (k:=2) (congrArg Value.bool h3)),trivial⟩ mixed (by kernel_rfl)
theorem zer {x:Int} (h:¬ x.natAbs<big):fitO x=none:=if_neg h
theorem zda {x:Int} (h:x.natAbs<big):fitB x=true:=decide_eq_true h
theorem zeq {x:Int} (h:¬ x.natAbs<big):fitB x=false:=decide_eq_false h
theorem zte (x:Int):(vO (fitO x)).natAbs<big:=by
 unfold fitO vO
 split
 ·assumption
 ·exact qd (by decide)
section
variable {p r:Rat}
theorem zlV (hp:p.num.natAbs<big) (hp2:p.den<big) (hr:r.num.natAbs<big) (hr2:r.den<big) :
  arX (nz p.num) (nz (p.den:Int)) (nz r.num) (nz (r.den:Int)) (okO (asX (nz p.num) (nz (p.den:Int)) (nz r.num) (nz (r.den:Int))) && (okO (axX (nz p.num) (nz (r.den:Int))) && okO (ayX (nz (p.den:Int)) (nz r.num))))=addR (some p) (some r):=by
 have hp2':((p.den:Nat):Int).natAbs<big:=by simpa using hp2
 have hr2':((r.den:Nat):Int).natAbs<big:=by simpa using hr2
 have e1:axX (nz p.num) (nz (r.den:Int))=fitO (p.num*r.den):=zew hp hr2'
 have e2:ayX (nz (p.den:Int)) (nz r.num)=fitO (r.num*p.den):=zew hr hp2'
 have e3:adX (nz (p.den:Int)) (nz (r.den:Int))=fitO ((p.den:Int)*r.den):=zew hp2' hr2'
 have e4:asX (nz p.num) (nz (p.den:Int)) (nz r.num) (nz (r.den:Int))=fitO (vO (fitO (p.num*r.den))+vO (fitO (r.num*p.den))):=by
  unfold asX
  rw [e1,e2]
  exact znS (zte _) (zte _)
 unfold arX
 rw [e1,e2,e3,e4]
 rw [show addR (some p) (some r)=if (fitB (p.num*r.den) && (fitB (r.num*p.den) && (fitB ((p.den:Int)*r.den) && fitB (p.num*r.den+r.num*p.den))))=true then some (p+r) else none from rfl]
 by_cases h1:(p.num*r.den).natAbs<big
 ·by_cases h2:(r.num*p.den).natAbs<big
  ·rw [zay h1,zay h2]
   by_cases h3:((p.den:Int)*r.den).natAbs<big
   ·rw [zay h3]
    by_cases h4:(p.num*r.den+r.num*p.den).natAbs<big
    ·rw [if_pos (by rw [zda h1,zda h2,zda h3,zda h4];rfl)]
     show ovX (okO (fitO (p.num*r.den+r.num*p.den)) && (true && true)) true (nz (vO (fitO (p.num*r.den+r.num*p.den)))) (nz ((p.den:Int)*r.den))=_
     rw [zay h4]
     show ofX (nz (p.num*r.den+r.num*p.den)) (nz ((p.den:Int)*r.den))=_
     rw [zfS h4 h3,zsL]
    ·rw [if_neg (by simp [zeq h4])]
     show ovX (okO (fitO (p.num*r.den+r.num*p.den)) && (true && true)) true _ _=_
     rw [zer h4]
     rfl
   ·rw [if_neg (by simp [zeq h3]),zer h3]
    unfold ovX
    rw [if_neg (by simp [okO])]
  ·rw [if_neg (by simp [zeq h2]),zer h2]
   unfold ovX
   rw [if_neg (by simp [okO])]
 ·rw [if_neg (by simp [zeq h1]),zer h1]
  unfold ovX
  rw [if_neg (by simp [okO])]
end
theorem zsO {xs:List Raw} {es:List Value} {w0:World} {i j i2 j2 k k2:Nat} {o:Lf} (h:X xs k=nz (nO (addR (qX (X xs i) (X xs j)) (qX (X xs i2) (X xs j2))))) (h2:X xs k2=nz ((dO (addR (qX (X xs i) (X xs j)) (qX (X xs i2) (X xs j2))):Nat):Int)) (ho:Gives (FN xs es) o (.bool (addR (qX (X xs i) (X xs j)) (qX (X xs i2) (X xs j2))).isSome)) (hi:i<50:=by first | assumption | decide) (hj:j<50:=by first | assumption | decide) (hi2:i2<50:=by first | assumption | decide) (hj2:j2<50:=by first | assumption | decide) (hk:k<50:=by first | assumption | decide) (hk2:k2<50:=by first | assumption | decide):Con.sound (KN w0) Tryz.prog (FN xs es) ⟨13,[RA i j,RA i2 j2],[],.t [.g (nm k++nm k2),.c o],[]⟩:=by
 refine dgR2 (fun d1 d2 d3 d4=>?_) hi hj hi2 hj2
 cases h3:rrX (X xs i) (X xs j) with
 | false =>
  rw [qU h3] at h h2 ho
  exact tr (add_a _ _ _ _ h3) (sh2 (RA_mv rfl rfl hi hj) (RA_mv rfl rfl hi2 hj2)) (T2_bk (ZR_bk h h2 hk hk2) (LF_bk ho zg))
 | true =>
  obtain ⟨p,ep,ea,eb,hp,hp2⟩:=qV h3 d1 d2
  cases h4:rrX (X xs i2) (X xs j2) with
  | false =>
   rw [qU h4,ep] at h h2 ho
   exact tr (add_b _ _ _ _ h3 h4) (sh2 (RA_mv rfl rfl hi hj) (RA_mv rfl rfl hi2 hj2)) (T2_bk (ZR_bk h h2 hk hk2) (LF_bk ho zg))
  | true =>
   obtain ⟨r,er,ec,ed,hr,hr2⟩:=qV h4 d3 d4
   rw [ep,er] at h h2 ho
   have hp2':((p.den:Nat):Int).natAbs<big:=by simpa using hp2
   have hr2':((r.den:Nat):Int).natAbs<big:=by simpa using hr2
   have key:=zlV hp hp2 hr hr2
   rw [← ea,← eb,← ec,← ed] at key
   rw [← key] at h h2 ho
   cases h5:okO (asX (X xs i) (X xs j) (X xs i2) (X xs j2)) with
   | false =>
    rw [h5,Bool.false_and] at h h2 ho
    exact tr (add_c _ _ _ _ h3 h4 h5) (sh2 (RA_mv rfl rfl hi hj) (RA_mv rfl rfl hi2 hj2)) (T2_bk (RA_bk h.symm h2.symm) (LF_bk ho (zf (k:=6) rfl)))
   | true =>
    cases h6:okO (axX (X xs i) (X xs j2)) with
    | false =>
     rw [h5,h6,Bool.false_and,Bool.and_false] at h h2 ho
     exact tr (add_d _ _ _ _ h3 h4 h5 h6) (sh2 (RA_mv rfl rfl hi hj) (RA_mv rfl rfl hi2 hj2)) (T2_bk (RA_bk h.symm h2.symm) (LF_bk ho (zf (k:=6) rfl)))
    | true =>
     rw [h5,h6,Bool.true_and,Bool.true_and] at h h2 ho
     exact tr (add_e _ _ _ _ h3 h4 h5 h6) (sh2 (RA_mv rfl rfl hi hj) (RA_mv rfl rfl hi2 hj2)) (T2_bk (RA_bk h.symm h2.symm) (LF_bk ho (zf (k:=6) rfl)))
theorem sub_a {w0:World} (a b c d:Raw) (h:rrX a b=false):Con.sound (KN w0) Tryz.prog (FN [a,b,c,d] [.bool (rrX a b)]) ⟨15,[RA 0 1,RA 2 3],[],.t [.g ZC,.c (.k (.bool false))],[]⟩ :=
 zl (C:=[(7,.call ⟨43,[RA 0 1],[],LF (.h 100),[]⟩),
  (10100,.fb 100 false)]) 0 (zq rfl) ⟨zP (zf (k:=0) rfl),c_fb (zf (k:=0) (congrArg Value.bool h)),trivial⟩ mixed (by kernel_rfl)
theorem sub_b {w0:World} (a b c d:Raw) (h:rrX a b=true) (h1:rrX c d=false):Con.sound (KN w0) Tryz.prog (FN [a,b,c,d] [.bool (rrX a b),.bool (rrX c d)]) ⟨15,[RA 0 1,RA 2 3],[],.t [.g ZC,.c (.k (.bool false))],[]⟩ :=
 zl (C:=[(7,.call ⟨43,[RA 0 1],[],LF (.h 100),[]⟩),
  (11,.call ⟨43,[RA 2 3],[],LF (.h 101),[]⟩),
  (10100,.fb 100 true),
  (10101,.fb 101 false)]) 0 (zq rfl) ⟨zP (zf (k:=0) rfl),zP (zf (k:=1) rfl),c_fb (zf (k:=0) (congrArg Value.bool h)),c_fb (zf (k:=1) (congrArg Value.bool h1)),trivial⟩ mixed (by kernel_rfl)
theorem sub_c {w0:World} (a b c d:Raw) (h:rrX a b=true) (h1:rrX c d=true):Con.sound (KN w0) Tryz.prog (FN [a,b,c,d,ngX c,nz (nO (addR (qX a b) (qX (ngX c) d))),nz ((dO (addR (qX a b) (qX (ngX c) d)):Nat):Int)] [.bool (rrX a b),.bool (rrX c d),.bool (addR (qX a b) (qX (ngX c) d)).isSome]) ⟨15,[RA 0 1,RA 2 3],[],.t [.g (nm 5++nm 6),.c (.h 102)],[]⟩ :=
 zl (C:=[(7,.call ⟨43,[RA 0 1],[],LF (.h 100),[]⟩),
  (11,.call ⟨43,[RA 2 3],[],LF (.h 101),[]⟩),
  (10100,.fb 100 true),
  (10101,.fb 101 true),
  (18,.call ⟨61,[NM 2],[],NM 4,[]⟩),
  (22,.call ⟨13,[RA 0 1,RA 4 3],[],.t [.g (nm 5++nm 6),.c (.h 102)],[]⟩)]) 0 (zq rfl) ⟨zP (zf (k:=0) rfl),zP (zf (k:=1) rfl),c_fb (zf (k:=0) (congrArg Value.bool h)),c_fb (zf (k:=1) (congrArg Value.bool h1)),zfw rfl,zsO rfl rfl (zf (k:=2) rfl),trivial⟩ mixed (by kernel_rfl)
theorem zwg {xs:List Raw} {es:List Value} {w0:World} {i j i2 j2 k k2:Nat} {o:Lf} (h:X xs k=nz (nO (subR (qX (X xs i) (X xs j)) (qX (X xs i2) (X xs j2))))) (h2:X xs k2=nz ((dO (subR (qX (X xs i) (X xs j)) (qX (X xs i2) (X xs j2))):Nat):Int)) (ho:Gives (FN xs es) o (.bool (subR (qX (X xs i) (X xs j)) (qX (X xs i2) (X xs j2))).isSome)) (hi:i<50:=by first | assumption | decide) (hj:j<50:=by first | assumption | decide) (hi2:i2<50:=by first | assumption | decide) (hj2:j2<50:=by first | assumption | decide) (hk:k<50:=by first | assumption | decide) (hk2:k2<50:=by first | assumption | decide):Con.sound (KN w0) Tryz.prog (FN xs es) ⟨15,[RA i j,RA i2 j2],[],.t [.g (nm k++nm k2),.c o],[]⟩:=by
 refine dgR2 (fun d1 d2 d3 d4=>?_) hi hj hi2 hj2
 cases h3:rrX (X xs i) (X xs j) with
 | false =>
  rw [qU h3] at h h2 ho
  exact tr (sub_a _ _ _ _ h3) (sh2 (RA_mv rfl rfl hi hj) (RA_mv rfl rfl hi2 hj2)) (T2_bk (ZR_bk h h2 hk hk2) (LF_bk ho zg))
 | true =>
  obtain ⟨p,ep,ea,eb,hp,hp2⟩:=qV h3 d1 d2
  cases h4:rrX (X xs i2) (X xs j2) with
  | false =>
   rw [qU h4,ep] at h h2 ho
   exact tr (sub_b _ _ _ _ h3 h4) (sh2 (RA_mv rfl rfl hi hj) (RA_mv rfl rfl hi2 hj2)) (T2_bk (ZR_bk h h2 hk hk2) (LF_bk ho zg))
  | true =>
   obtain ⟨r,er,ec,ed,hr,hr2⟩:=qV h4 d3 d4
   rw [ep,er] at h h2 ho
   have hp2':((p.den:Nat):Int).natAbs<big:=by simpa using hp2
   have hr2':((r.den:Nat):Int).natAbs<big:=by simpa using hr2
   have e:addR (qX (X xs i) (X xs j)) (qX (ngX (X xs i2)) (X xs j2))=subR (some p) (some r):=by
    rw [ep,ec,ed,show ngX (nz r.num)=nz (-r.num) from zex hr]
    have:=qX_q (q:=-r) (by simpa using hr) (by simpa using hr2)
    rw [Rat.neg_num,Rat.neg_den] at this
    rw [this];rfl
   rw [← e] at h h2 ho
   exact tr (sub_c _ _ _ _ h3 h4) (sh2 (RA_mv rfl rfl hi hj) (RA_mv rfl rfl hi2 hj2)) (T2_bk (RA_bk h.symm h2.symm) (LF_bk ho (zf (k:=2) rfl)))
def pmX (a b c d:Raw):Option Rat:=ovX (okO (mulX a c)) (okO (mulX b d)) (nz (vO (mulX a c))) (nz (vO (mulX b d)))
theorem zlI {x y z t:Int} (hx:x.natAbs<big) (hy:y.natAbs<big) (hz:z.natAbs<big) (ht:t.natAbs<big):pmX (nz x) (nz y) (nz z) (nz t)=if (fitB (x*z) && fitB (y*t))=true then ofR (x*z) (y*t) else none:=by
 unfold pmX
 rw [zew hx hz,zew hy ht]
 by_cases h1:(x*z).natAbs<big
 ·rw [zay h1]
  by_cases h2:(y*t).natAbs<big
  ·rw [zay h2,if_pos (by rw [zda h1,zda h2];rfl)]
   show ofX (nz (x*z)) (nz (y*t))=_
   exact zfS h1 h2
  ·rw [zer h2,if_neg (by simp [zeq h2])]
   unfold ovX
   rw [if_neg (by simp [okO])]
 ·rw [zer h1,if_neg (by simp [zeq h1])]
  unfold ovX
  rw [if_neg (by simp [okO])]
theorem mul_a {w0:World} (a b c d:Raw) (h:rrX a b=false):Con.sound (KN w0) Tryz.prog (FN [a,b,c,d] [.bool (rrX a b)]) ⟨18,[RA 0 1,RA 2 3],[],.t [.g ZC,.c (.k (.bool false))],[]⟩ :=
 zl (C:=[(7,.call ⟨43,[RA 0 1],[],LF (.h 100),[]⟩),
  (10100,.fb 100 false)]) 0 (zq rfl) ⟨zP (zf (k:=0) rfl),c_fb (zf (k:=0) (congrArg Value.bool h)),trivial⟩ mixed (by kernel_rfl)
theorem mul_b {w0:World} (a b c d:Raw) (h:rrX a b=true) (h1:rrX c d=false):Con.sound (KN w0) Tryz.prog (FN [a,b,c,d] [.bool (rrX a b),.bool (rrX c d)]) ⟨18,[RA 0 1,RA 2 3],[],.t [.g ZC,.c (.k (.bool false))],[]⟩ :=
 zl (C:=[(7,.call ⟨43,[RA 0 1],[],LF (.h 100),[]⟩),
  (11,.call ⟨43,[RA 2 3],[],LF (.h 101),[]⟩),
  (10100,.fb 100 true),
  (10101,.fb 101 false)]) 0 (zq rfl) ⟨zP (zf (k:=0) rfl),zP (zf (k:=1) rfl),c_fb (zf (k:=0) (congrArg Value.bool h)),c_fb (zf (k:=1) (congrArg Value.bool h1)),trivial⟩ mixed (by kernel_rfl)
theorem mul_c {w0:World} (a b c d:Raw) (h:rrX a b=true) (h1:rrX c d=true):Con.sound (KN w0) Tryz.prog (FN [a,b,c,d,nz (vO (mulX a c)),nz (vO (mulX b d)),nz (nO (pmX a b c d)),nz ((dO (pmX a b c d):Nat):Int)] [.bool (rrX a b),.bool (rrX c d),.bool (okO (mulX a c)),.bool (okO (mulX b d)),.bool (pmX a b c d).isSome]) ⟨18,[RA 0 1,RA 2 3],[],.t [.g (nm 6++nm 7),.c (.h 104)],[]⟩ :=
 zl (C:=[(7,.call ⟨43,[RA 0 1],[],LF (.h 100),[]⟩),
  (11,.call ⟨43,[RA 2 3],[],LF (.h 101),[]⟩),
  (10100,.fb 100 true),
  (10101,.fb 101 true),
  (19,.call ⟨56,[NM 0,NM 2],[],PR 4 (.h 102),[]⟩),
  (24,.call ⟨56,[NM 1,NM 3],[],PR 5 (.h 103),[]⟩),
  (25,.call ⟨58,[PR 4 (.h 102),PR 5 (.h 103)],[],.t [.g (nm 6++nm 7),.c (.h 104)],[]⟩)]) 0 (zq rfl) ⟨zP (zf (k:=0) rfl),zP (zf (k:=1) rfl),c_fb (zf (k:=0) (congrArg Value.bool h)),c_fb (zf (k:=1) (congrArg Value.bool h1)),zbf rfl (zf (k:=2) rfl),zbf rfl (zf (k:=3) rfl),zjs (zf (k:=2) rfl) (zf (k:=3) rfl) rfl rfl (zf (k:=4) rfl),trivial⟩ mixed (by kernel_rfl)
theorem zwf {xs:List Raw} {es:List Value} {w0:World} {i j i2 j2 k k2:Nat} {o:Lf} (h:X xs k=nz (nO (mulR (qX (X xs i) (X xs j)) (qX (X xs i2) (X xs j2))))) (h2:X xs k2=nz ((dO (mulR (qX (X xs i) (X xs j)) (qX (X xs i2) (X xs j2))):Nat):Int)) (ho:Gives (FN xs es) o (.bool (mulR (qX (X xs i) (X xs j)) (qX (X xs i2) (X xs j2))).isSome)) (hi:i<50:=by first | assumption | decide) (hj:j<50:=by first | assumption | decide) (hi2:i2<50:=by first | assumption | decide) (hj2:j2<50:=by first | assumption | decide) (hk:k<50:=by first | assumption | decide) (hk2:k2<50:=by first | assumption | decide):Con.sound (KN w0) Tryz.prog (FN xs es) ⟨18,[RA i j,RA i2 j2],[],.t [.g (nm k++nm k2),.c o],[]⟩:=by
 refine dgR2 (fun d1 d2 d3 d4=>?_) hi hj hi2 hj2
 cases h3:rrX (X xs i) (X xs j) with
 | false =>
  rw [qU h3] at h h2 ho
  exact tr (mul_a _ _ _ _ h3) (sh2 (RA_mv rfl rfl hi hj) (RA_mv rfl rfl hi2 hj2)) (T2_bk (ZR_bk h h2 hk hk2) (LF_bk ho zg))
 | true =>
  obtain ⟨p,ep,ea,eb,hp,hp2⟩:=qV h3 d1 d2
  cases h4:rrX (X xs i2) (X xs j2) with
  | false =>
   rw [qU h4,ep] at h h2 ho
   exact tr (mul_b _ _ _ _ h3 h4) (sh2 (RA_mv rfl rfl hi hj) (RA_mv rfl rfl hi2 hj2)) (T2_bk (ZR_bk h h2 hk hk2) (LF_bk ho zg))
  | true =>
   obtain ⟨r,er,ec,ed,hr,hr2⟩:=qV h4 d3 d4
   rw [ep,er] at h h2 ho
   have hp2':((p.den:Nat):Int).natAbs<big:=by simpa using hp2
   have hr2':((r.den:Nat):Int).natAbs<big:=by simpa using hr2
   have e:pmX (X xs i) (X xs j) (X xs i2) (X xs j2)=mulR (some p) (some r):=by
    rw [ea,eb,ec,ed,zlI hp hp2' hr hr2',zoZ];rfl
   rw [← e] at h h2 ho
   exact tr (mul_c _ _ _ _ h3 h4) (sh2 (RA_mv rfl rfl hi hj) (RA_mv rfl rfl hi2 hj2)) (T2_bk (RA_bk h.symm h2.symm) (LF_bk ho (zf (k:=4) rfl)))
def sgX (a b:Raw):Int:=if rrX a b=true then cmpX a (nz 0) else 0
theorem zu0 {w0:World} (a b:Raw) (h:rrX a b=false):Con.sound (KN w0) Tryz.prog (FN [a,b] [.bool (rrX a b)]) ⟨26,[RA 0 1],[],LF (.k (.int .i64 0)),[]⟩ :=
 zl (C:=[(4,.call ⟨43,[RA 0 1],[],LF (.h 100),[]⟩),
  (10100,.fb 100 false)]) 0 (zq rfl) ⟨zP (zf (k:=0) rfl),c_fb (zf (k:=0) (congrArg Value.bool h)),trivial⟩ mixed (by kernel_rfl)
theorem zu1 {w0:World} (a b:Raw) (h:rrX a b=true):Con.sound (KN w0) Tryz.prog (FN [a,b,nz 0] [.bool (rrX a b),.int .i64 (cmpX a (nz 0))]) ⟨26,[RA 0 1],[],LF (.h 101),[]⟩ :=
 zl (C:=[(4,.call ⟨43,[RA 0 1],[],LF (.h 100),[]⟩),
  (10100,.fb 100 true),
  (8,.call ⟨65,[],[],NM 2,[]⟩),
  (9,.call ⟨33,[NM 0,NM 2],[],LF (.h 101),[]⟩)]) 0 (zq rfl) ⟨zP (zf (k:=0) rfl),c_fb (zf (k:=0) (congrArg Value.bool h)),zcA rfl,c_cmp (zf (k:=1) rfl),trivial⟩ mixed (by kernel_rfl)
theorem zkX {xs:List Raw} {es:List Value} {w0:World} {i j:Nat} {o:Lf} (ho:Gives (FN xs es) o (.int .i64 (sgX (X xs i) (X xs j)))) (hi:i<50:=by first | assumption | decide) (hj:j<50:=by first | assumption | decide):Con.sound (KN w0) Tryz.prog (FN xs es) ⟨26,[RA i j],[],LF o,[]⟩:=by
 unfold sgX at ho
 cases h:rrX (X xs i) (X xs j) with
 | false =>
  rw [if_neg (by rw [h];simp)] at ho
  exact tr (zu0 _ _ h) (sh1 (RA_mv rfl rfl hi hj)) (LF_bk ho zg)
 | true =>
  rw [if_pos h] at ho
  exact tr (zu1 _ _ h) (sh1 (RA_mv rfl rfl hi hj)) (LF_bk ho (zf (k:=1) rfl))
theorem zpy {w0:World} (a b:Raw) (h:rrX a b=false):Con.sound (KN w0) Tryz.prog (FN [a,b] [.bool (rrX a b)]) ⟨45,[RA 0 1],[],LF (.k (.int .i64 0)),[]⟩ :=
 zl (C:=[(4,.call ⟨44,[RA 0 1],[],LF (.h 100),[]⟩),
  (10100,.fb 100 false)]) 0 (zq rfl) ⟨zn (zf (k:=0) rfl),c_fb (zf (k:=0) (congrArg Value.bool h)),trivial⟩ mixed (by kernel_rfl)
theorem zpz {w0:World} (a b:Raw) (h:rrX a b=true):Con.sound (KN w0) Tryz.prog (FN [a,b,nz 0] [.bool (rrX a b),.int .i64 (cmpX a (nz 0))]) ⟨45,[RA 0 1],[],LF (.h 101),[]⟩ :=
 zl (C:=[(4,.call ⟨44,[RA 0 1],[],LF (.h 100),[]⟩),
  (10100,.fb 100 true),
  (8,.call ⟨55,[LF (.k (.int .i64 0))],[],NM 2,[]⟩),
  (9,.call ⟨54,[NM 0,NM 2],[],LF (.h 101),[]⟩)]) 0 (zq rfl) ⟨zn (zf (k:=0) rfl),c_fb (zf (k:=0) (congrArg Value.bool h)),zbF zg (by decide) (by decide) rfl,zbj (zf (k:=1) rfl),trivial⟩ mixed (by kernel_rfl)
theorem zcH {xs:List Raw} {es:List Value} {w0:World} {i j:Nat} {o:Lf} (ho:Gives (FN xs es) o (.int .i64 (sgX (X xs i) (X xs j)))) (hi:i<50:=by first | assumption | decide) (hj:j<50:=by first | assumption | decide):Con.sound (KN w0) Tryz.prog (FN xs es) ⟨45,[RA i j],[],LF o,[]⟩:=by
 unfold sgX at ho
 cases h:rrX (X xs i) (X xs j) with
 | false =>
  rw [if_neg (by rw [h];simp)] at ho
  exact tr (zpy _ _ h) (sh1 (RA_mv rfl rfl hi hj)) (LF_bk ho zg)
 | true =>
  rw [if_pos h] at ho
  exact tr (zpz _ _ h) (sh1 (RA_mv rfl rfl hi hj)) (LF_bk ho (zf (k:=1) rfl))
theorem div_a {w0:World} (a b c d:Raw) (h:rrX a b=false):Con.sound (KN w0) Tryz.prog (FN [a,b,c,d] [.bool (rrX a b)]) ⟨20,[RA 0 1,RA 2 3],[],.t [.g ZC,.c (.k (.bool false))],[]⟩ :=
 zl (C:=[(7,.call ⟨43,[RA 0 1],[],LF (.h 100),[]⟩),
  (10100,.fb 100 false)]) 0 (zq rfl) ⟨zP (zf (k:=0) rfl),c_fb (zf (k:=0) (congrArg Value.bool h)),trivial⟩ mixed (by kernel_rfl)
theorem div_b {w0:World} (a b c d:Raw) (h:rrX a b=true) (h1:(sgX c d == 0)=true):Con.sound (KN w0) Tryz.prog (FN [a,b,c,d] [.bool (rrX a b),.int .i64 (sgX c d)]) ⟨20,[RA 0 1,RA 2 3],[],.t [.g ZC,.c (.k (.bool false))],[]⟩ :=
 zl (C:=[(7,.call ⟨43,[RA 0 1],[],LF (.h 100),[]⟩),
  (11,.call ⟨26,[RA 2 3],[],LF (.h 101),[]⟩),
  (10100,.fb 100 true),
  (12,.bin .eql 3 (LF (.h 101)) (LF (.k (.int .i64 0))) (LF (.k (.bool true))))]) 0 (zq rfl) ⟨zP (zf (k:=0) rfl),zkX (zf (k:=1) rfl),c_fb (zf (k:=0) (congrArg Value.bool h)),c_bin (zf (k:=1) rfl) zg (congrArg some h1) zg,trivial⟩ mixed (by kernel_rfl)
theorem div_c {w0:World} (a b c d:Raw) (h:rrX a b=true) (h1:(sgX c d == 0)=false):Con.sound (KN w0) Tryz.prog (FN [a,b,c,d,nz (vO (mulX a d)),nz (vO (mulX b c)),nz (nO (pmX a b d c)),nz ((dO (pmX a b d c):Nat):Int)] [.bool (rrX a b),.int .i64 (sgX c d),.bool (okO (mulX a d)),.bool (okO (mulX b c)),.bool (pmX a b d c).isSome]) ⟨20,[RA 0 1,RA 2 3],[],.t [.g (nm 6++nm 7),.c (.h 104)],[]⟩ :=
 zl (C:=[(7,.call ⟨43,[RA 0 1],[],LF (.h 100),[]⟩),
  (11,.call ⟨26,[RA 2 3],[],LF (.h 101),[]⟩),
  (10100,.fb 100 true),
  (12,.bin .eql 3 (LF (.h 101)) (LF (.k (.int .i64 0))) (LF (.k (.bool false)))),
  (19,.call ⟨56,[NM 0,NM 3],[],PR 4 (.h 102),[]⟩),
  (24,.call ⟨56,[NM 1,NM 2],[],PR 5 (.h 103),[]⟩),
  (25,.call ⟨58,[PR 4 (.h 102),PR 5 (.h 103)],[],.t [.g (nm 6++nm 7),.c (.h 104)],[]⟩)]) 0 (zq rfl) ⟨zP (zf (k:=0) rfl),zkX (zf (k:=1) rfl),c_fb (zf (k:=0) (congrArg Value.bool h)),c_bin (zf (k:=1) rfl) zg (congrArg some h1) zg,zbf rfl (zf (k:=2) rfl),zbf rfl (zf (k:=3) rfl),zjs (zf (k:=2) rfl) (zf (k:=3) rfl) rfl rfl (zf (k:=4) rfl),trivial⟩ mixed (by kernel_rfl)
theorem zvO {c d:Raw} (h:rrX c d=false):(sgX c d == 0)=true:=by
 unfold sgX
 rw [if_neg (by rw [h];simp)];rfl
theorem sg_q {r:Rat} (hr:r.num.natAbs<big) (hr2:r.den<big):(sgX (nz r.num) (nz (r.den:Int)) == 0)=decide (r.num=0):=by
 unfold sgX
 rw [if_pos (rrX_q hr hr2),zem hr]
theorem zl6 {p r:Rat} (hp:p.num.natAbs<big) (hp2:p.den<big) (hr:r.num.natAbs<big) (hr2:r.den<big) (h:r.num≠0):pmX (nz p.num) (nz (p.den:Int)) (nz (r.den:Int)) (nz r.num)=divR (some p) (some r):=by
 rw [zlI hp (by simpa using hp2) (by simpa using hr2) hr]
 unfold divR
 simp only
 rw [if_neg h,zsV p r h]
theorem zwe {xs:List Raw} {es:List Value} {w0:World} {i j i2 j2 k k2:Nat} {o:Lf} (h:X xs k=nz (nO (divR (qX (X xs i) (X xs j)) (qX (X xs i2) (X xs j2))))) (h2:X xs k2=nz ((dO (divR (qX (X xs i) (X xs j)) (qX (X xs i2) (X xs j2))):Nat):Int)) (ho:Gives (FN xs es) o (.bool (divR (qX (X xs i) (X xs j)) (qX (X xs i2) (X xs j2))).isSome)) (hi:i<50:=by first | assumption | decide) (hj:j<50:=by first | assumption | decide) (hi2:i2<50:=by first | assumption | decide) (hj2:j2<50:=by first | assumption | decide) (hk:k<50:=by first | assumption | decide) (hk2:k2<50:=by first | assumption | decide):Con.sound (KN w0) Tryz.prog (FN xs es) ⟨20,[RA i j,RA i2 j2],[],.t [.g (nm k++nm k2),.c o],[]⟩:=by
 refine dgR2 (fun d1 d2 d3 d4=>?_) hi hj hi2 hj2
 cases h3:rrX (X xs i) (X xs j) with
 | false =>
  rw [qU h3] at h h2 ho
  exact tr (div_a _ _ _ _ h3) (sh2 (RA_mv rfl rfl hi hj) (RA_mv rfl rfl hi2 hj2)) (T2_bk (ZR_bk h h2 hk hk2) (LF_bk ho zg))
 | true =>
  obtain ⟨p,ep,ea,eb,hp,hp2⟩:=qV h3 d1 d2
  cases h4:rrX (X xs i2) (X xs j2) with
  | false =>
   rw [qU h4,ep] at h h2 ho
   exact tr (div_b _ _ _ _ h3 (zvO h4)) (sh2 (RA_mv rfl rfl hi hj) (RA_mv rfl rfl hi2 hj2)) (T2_bk (ZR_bk h h2 hk hk2) (LF_bk ho zg))
  | true =>
   obtain ⟨r,er,ec,ed,hr,hr2⟩:=qV h4 d3 d4
   rw [ep,er] at h h2 ho
   have hp2':((p.den:Nat):Int).natAbs<big:=by simpa using hp2
   have hr2':((r.den:Nat):Int).natAbs<big:=by simpa using hr2
   have hs:=sg_q hr hr2
   rw [← ec,← ed] at hs
   cases hz:sgX (X xs i2) (X xs j2) == 0 with
   | true =>
    have h0:r.num=0:=of_decide_eq_true (hs.symm.trans hz)
    have e:divR (some p) (some r)=none:=by unfold divR;simp only;rw [if_pos h0]
    rw [e] at h h2 ho
    exact tr (div_b _ _ _ _ h3 hz) (sh2 (RA_mv rfl rfl hi hj) (RA_mv rfl rfl hi2 hj2)) (T2_bk (ZR_bk h h2 hk hk2) (LF_bk ho zg))
   | false =>
    have h0:r.num≠0:=of_decide_eq_false (hs.symm.trans hz)
    have e:=zl6 hp hp2 hr hr2 h0
    rw [← ea,← eb,← ec,← ed] at e
    rw [← e] at h h2 ho
    exact tr (div_c _ _ _ _ h3 hz) (sh2 (RA_mv rfl rfl hi hj) (RA_mv rfl rfl hi2 hj2)) (T2_bk (RA_bk h.symm h2.symm) (LF_bk ho (zf (k:=4) rfl)))
def flX (a b:Raw):Option Int:=if rrX a b=true then intX (nz (dqO (divX a b))) else none
def ceX (a b:Raw):Option Int:=if rrX a b=true then intX (ngX (nz (dqO (divX (ngX a) b)))) else none
theorem zrr {w0:World} (a b:Raw) (h:rrX a b=false):Con.sound (KN w0) Tryz.prog (FN [a,b] [.bool (rrX a b)]) ⟨39,[RA 0 1],[],.t [.c (.k (.int .i64 0)),.c (.k (.bool false))],[]⟩ :=
 zl (C:=[(5,.call ⟨43,[RA 0 1],[],LF (.h 100),[]⟩),
  (10100,.fb 100 false)]) 0 (zq rfl) ⟨zP (zf (k:=0) rfl),c_fb (zf (k:=0) (congrArg Value.bool h)),trivial⟩ mixed (by kernel_rfl)
theorem zrs {w0:World} (a b:Raw) (h:rrX a b=true):Con.sound (KN w0) Tryz.prog (FN [a,b,nz (dqO (divX a b))] [.bool (rrX a b),.int .i64 (vO (intX (nz (dqO (divX a b))))),.bool (okO (intX (nz (dqO (divX a b)))))]) ⟨39,[RA 0 1],[],.t [.c (.h 101),.c (.h 102)],[]⟩ :=
 zl (C:=[(5,.call ⟨43,[RA 0 1],[],LF (.h 100),[]⟩),
  (10100,.fb 100 true),
  (11,.call ⟨79,[NM 0,NM 1],[],NM 2,[]⟩),
  (12,.call ⟨78,[NM 2],[],.t [.c (.h 101),.c (.h 102)],[]⟩)]) 0 (zq rfl) ⟨zP (zf (k:=0) rfl),c_fb (zf (k:=0) (congrArg Value.bool h)),zbB rfl,c_int (zf (k:=1) rfl) (zf (k:=2) rfl),trivial⟩ mixed (by kernel_rfl)
theorem zqh {xs:List Raw} {es:List Value} {w0:World} {i j:Nat} {o o2:Lf} (ho:Gives (FN xs es) o (.int .i64 (vO (flX (X xs i) (X xs j))))) (ho2:Gives (FN xs es) o2 (.bool (okO (flX (X xs i) (X xs j))))) (hi:i<50:=by first | assumption | decide) (hj:j<50:=by first | assumption | decide):Con.sound (KN w0) Tryz.prog (FN xs es) ⟨39,[RA i j],[],.t [.c o,.c o2],[]⟩:=by
 unfold flX at ho ho2
 cases h:rrX (X xs i) (X xs j) with
 | false =>
  rw [if_neg (by rw [h];simp)] at ho ho2
  exact tr (zrr _ _ h) (sh1 (RA_mv rfl rfl hi hj)) (T2_bk (LF_bk ho zg) (LF_bk ho2 zg))
 | true =>
  rw [if_pos h] at ho ho2
  exact tr (zrs _ _ h) (sh1 (RA_mv rfl rfl hi hj)) (T2_bk (LF_bk ho (zf (k:=1) rfl)) (LF_bk ho2 (zf (k:=2) rfl)))
theorem zuv {w0:World} (a b:Raw) (h:rrX a b=false):Con.sound (KN w0) Tryz.prog (FN [a,b] [.bool (rrX a b)]) ⟨41,[RA 0 1],[],.t [.c (.k (.int .i64 0)),.c (.k (.bool false))],[]⟩ :=
 zl (C:=[(5,.call ⟨43,[RA 0 1],[],LF (.h 100),[]⟩),
  (10100,.fb 100 false)]) 0 (zq rfl) ⟨zP (zf (k:=0) rfl),c_fb (zf (k:=0) (congrArg Value.bool h)),trivial⟩ mixed (by kernel_rfl)
theorem zuw {w0:World} (a b:Raw) (h:rrX a b=true):Con.sound (KN w0) Tryz.prog (FN [a,b,ngX a,nz (dqO (divX (ngX a) b)),ngX (nz (dqO (divX (ngX a) b)))] [.bool (rrX a b),.int .i64 (vO (intX (ngX (nz (dqO (divX (ngX a) b)))))),.bool (okO (intX (ngX (nz (dqO (divX (ngX a) b))))))]) ⟨41,[RA 0 1],[],.t [.c (.h 101),.c (.h 102)],[]⟩ :=
 zl (C:=[(5,.call ⟨43,[RA 0 1],[],LF (.h 100),[]⟩),
  (10100,.fb 100 true),
  (9,.call ⟨61,[NM 0],[],NM 2,[]⟩),
  (12,.call ⟨79,[NM 2,NM 1],[],NM 3,[]⟩),
  (13,.call ⟨61,[NM 3],[],NM 4,[]⟩),
  (14,.call ⟨78,[NM 4],[],.t [.c (.h 101),.c (.h 102)],[]⟩)]) 0 (zq rfl) ⟨zP (zf (k:=0) rfl),c_fb (zf (k:=0) (congrArg Value.bool h)),zfw rfl,zbB rfl,zfw rfl,c_int (zf (k:=1) rfl) (zf (k:=2) rfl),trivial⟩ mixed (by kernel_rfl)
theorem ztr {xs:List Raw} {es:List Value} {w0:World} {i j:Nat} {o o2:Lf} (ho:Gives (FN xs es) o (.int .i64 (vO (ceX (X xs i) (X xs j))))) (ho2:Gives (FN xs es) o2 (.bool (okO (ceX (X xs i) (X xs j))))) (hi:i<50:=by first | assumption | decide) (hj:j<50:=by first | assumption | decide):Con.sound (KN w0) Tryz.prog (FN xs es) ⟨41,[RA i j],[],.t [.c o,.c o2],[]⟩:=by
 unfold ceX at ho ho2
 cases h:rrX (X xs i) (X xs j) with
 | false =>
  rw [if_neg (by rw [h];simp)] at ho ho2
  exact tr (zuv _ _ h) (sh1 (RA_mv rfl rfl hi hj)) (T2_bk (LF_bk ho zg) (LF_bk ho2 zg))
 | true =>
  rw [if_pos h] at ho ho2
  exact tr (zuw _ _ h) (sh1 (RA_mv rfl rfl hi hj)) (T2_bk (LF_bk ho (zf (k:=1) rfl)) (LF_bk ho2 (zf (k:=2) rfl)))
theorem znl {w0:World} (a b:Raw) (h:rrX a b=false):Con.sound (KN w0) Tryz.prog (FN [a,b] [.bool (rrX a b)]) ⟨40,[RA 0 1],[],.t [.c (.k (.int .i64 0)),.c (.k (.bool false))],[]⟩ :=
 zl (C:=[(5,.call ⟨44,[RA 0 1],[],LF (.h 100),[]⟩),
  (10100,.fb 100 false)]) 0 (zq rfl) ⟨zn (zf (k:=0) rfl),c_fb (zf (k:=0) (congrArg Value.bool h)),trivial⟩ mixed (by kernel_rfl)
theorem znm {w0:World} (a b:Raw) (h:rrX a b=true):Con.sound (KN w0) Tryz.prog (FN [a,b,nz (dqO (divX a b))] [.bool (rrX a b),.int .i64 (vO (intX (nz (dqO (divX a b))))),.bool (okO (intX (nz (dqO (divX a b)))))]) ⟨40,[RA 0 1],[],.t [.c (.h 101),.c (.h 102)],[]⟩ :=
 zl (C:=[(5,.call ⟨44,[RA 0 1],[],LF (.h 100),[]⟩),
  (10100,.fb 100 true),
  (11,.call ⟨81,[NM 0,NM 1],[],NM 2,[]⟩),
  (12,.call ⟨80,[NM 2],[],.t [.c (.h 101),.c (.h 102)],[]⟩)]) 0 (zq rfl) ⟨zn (zf (k:=0) rfl),c_fb (zf (k:=0) (congrArg Value.bool h)),zb5 rfl,zl0 (zf (k:=1) rfl) (zf (k:=2) rfl),trivial⟩ mixed (by kernel_rfl)
theorem zmG {xs:List Raw} {es:List Value} {w0:World} {i j:Nat} {o o2:Lf} (ho:Gives (FN xs es) o (.int .i64 (vO (flX (X xs i) (X xs j))))) (ho2:Gives (FN xs es) o2 (.bool (okO (flX (X xs i) (X xs j))))) (hi:i<50:=by first | assumption | decide) (hj:j<50:=by first | assumption | decide):Con.sound (KN w0) Tryz.prog (FN xs es) ⟨40,[RA i j],[],.t [.c o,.c o2],[]⟩:=by
 unfold flX at ho ho2
 cases h:rrX (X xs i) (X xs j) with
 | false =>
  rw [if_neg (by rw [h];simp)] at ho ho2
  exact tr (znl _ _ h) (sh1 (RA_mv rfl rfl hi hj)) (T2_bk (LF_bk ho zg) (LF_bk ho2 zg))
 | true =>
  rw [if_pos h] at ho ho2
  exact tr (znm _ _ h) (sh1 (RA_mv rfl rfl hi hj)) (T2_bk (LF_bk ho (zf (k:=1) rfl)) (LF_bk ho2 (zf (k:=2) rfl)))
theorem zpt {w0:World} (a b:Raw) (h:rrX a b=false):Con.sound (KN w0) Tryz.prog (FN [a,b] [.bool (rrX a b)]) ⟨42,[RA 0 1],[],.t [.c (.k (.int .i64 0)),.c (.k (.bool false))],[]⟩ :=
 zl (C:=[(5,.call ⟨44,[RA 0 1],[],LF (.h 100),[]⟩),
  (10100,.fb 100 false)]) 0 (zq rfl) ⟨zn (zf (k:=0) rfl),c_fb (zf (k:=0) (congrArg Value.bool h)),trivial⟩ mixed (by kernel_rfl)
theorem zpu {w0:World} (a b:Raw) (h:rrX a b=true):Con.sound (KN w0) Tryz.prog (FN [a,b,ngX a,nz (dqO (divX (ngX a) b)),ngX (nz (dqO (divX (ngX a) b)))] [.bool (rrX a b),.int .i64 (vO (intX (ngX (nz (dqO (divX (ngX a) b)))))),.bool (okO (intX (ngX (nz (dqO (divX (ngX a) b))))))]) ⟨42,[RA 0 1],[],.t [.c (.h 101),.c (.h 102)],[]⟩ :=
 zl (C:=[(5,.call ⟨44,[RA 0 1],[],LF (.h 100),[]⟩),
  (10100,.fb 100 true),
  (9,.call ⟨62,[NM 0],[],NM 2,[]⟩),
  (12,.call ⟨81,[NM 2,NM 1],[],NM 3,[]⟩),
  (13,.call ⟨62,[NM 3],[],NM 4,[]⟩),
  (14,.call ⟨80,[NM 4],[],.t [.c (.h 101),.c (.h 102)],[]⟩)]) 0 (zq rfl) ⟨zn (zf (k:=0) rfl),c_fb (zf (k:=0) (congrArg Value.bool h)),zb4 rfl,zb5 rfl,zb4 rfl,zl0 (zf (k:=1) rfl) (zf (k:=2) rfl),trivial⟩ mixed (by kernel_rfl)
theorem zn1 {xs:List Raw} {es:List Value} {w0:World} {i j:Nat} {o o2:Lf} (ho:Gives (FN xs es) o (.int .i64 (vO (ceX (X xs i) (X xs j))))) (ho2:Gives (FN xs es) o2 (.bool (okO (ceX (X xs i) (X xs j))))) (hi:i<50:=by first | assumption | decide) (hj:j<50:=by first | assumption | decide):Con.sound (KN w0) Tryz.prog (FN xs es) ⟨42,[RA i j],[],.t [.c o,.c o2],[]⟩:=by
 unfold ceX at ho ho2
 cases h:rrX (X xs i) (X xs j) with
 | false =>
  rw [if_neg (by rw [h];simp)] at ho ho2
  exact tr (zpt _ _ h) (sh1 (RA_mv rfl rfl hi hj)) (T2_bk (LF_bk ho zg) (LF_bk ho2 zg))
 | true =>
  rw [if_pos h] at ho ho2
  exact tr (zpu _ _ h) (sh1 (RA_mv rfl rfl hi hj)) (T2_bk (LF_bk ho (zf (k:=1) rfl)) (LF_bk ho2 (zf (k:=2) rfl)))
theorem zq5 {w0:World} (a b c d:Raw) (h:rrX a b=false):Con.sound (KN w0) Tryz.prog (FN [a,b,c,d] [.bool (rrX a b)]) ⟨14,[RA 0 1,RA 2 3],[],.t [.g ZC,.c (.k (.bool false))],[]⟩ :=
 zl (C:=[(15,.call ⟨44,[RA 0 1],[],LF (.h 100),[]⟩),
  (10100,.fb 100 false)]) 0 (zq rfl) ⟨zn (zf (k:=0) rfl),c_fb (zf (k:=0) (congrArg Value.bool h)),trivial⟩ mixed (by kernel_rfl)
theorem zq6 {w0:World} (a b c d:Raw) (h:rrX a b=true) (h1:rrX c d=false):Con.sound (KN w0) Tryz.prog (FN [a,b,c,d] [.bool (rrX a b),.bool (rrX c d)]) ⟨14,[RA 0 1,RA 2 3],[],.t [.g ZC,.c (.k (.bool false))],[]⟩ :=
 zl (C:=[(15,.call ⟨44,[RA 0 1],[],LF (.h 100),[]⟩),
  (19,.call ⟨44,[RA 2 3],[],LF (.h 101),[]⟩),
  (10100,.fb 100 true),
  (10101,.fb 101 false)]) 0 (zq rfl) ⟨zn (zf (k:=0) rfl),zn (zf (k:=1) rfl),c_fb (zf (k:=0) (congrArg Value.bool h)),c_fb (zf (k:=1) (congrArg Value.bool h1)),trivial⟩ mixed (by kernel_rfl)
theorem zq7 {w0:World} (a b c d:Raw) (h:rrX a b=true) (h1:rrX c d=true) (h2:okO (axX a d)=false):Con.sound (KN w0) Tryz.prog (FN [a,b,c,d,nz (vO (axX a d)),nz (vO (ayX b c)),nz (vO (adX b d))] [.bool (rrX a b),.bool (rrX c d),.bool (okO (axX a d)),.bool (okO (ayX b c)),.bool (okO (adX b d))]) ⟨14,[RA 0 1,RA 2 3],[],.t [.g ZC,.c (.k (.bool false))],[]⟩ :=
 zl (C:=[(15,.call ⟨44,[RA 0 1],[],LF (.h 100),[]⟩),
  (19,.call ⟨44,[RA 2 3],[],LF (.h 101),[]⟩),
  (10100,.fb 100 true),
  (10101,.fb 101 true),
  (28,.call ⟨59,[NM 0,NM 3],[],.t [.g (nm 4),.c (.h 102)],[]⟩),
  (36,.call ⟨59,[NM 2,NM 1],[],.t [.g (nm 5),.c (.h 103)],[]⟩),
  (44,.call ⟨59,[NM 1,NM 3],[],.t [.g (nm 6),.c (.h 104)],[]⟩),
  (10102,.fb 102 false)]) 0 (zq rfl) ⟨zn (zf (k:=0) rfl),zn (zf (k:=1) rfl),c_fb (zf (k:=0) (congrArg Value.bool h)),c_fb (zf (k:=1) (congrArg Value.bool h1)),zZ rfl (zf (k:=2) rfl),zZ rfl (zf (k:=3) rfl),zZ rfl (zf (k:=4) rfl),c_fb (zf (k:=2) (congrArg Value.bool h2)),trivial⟩ mixed (by kernel_rfl)
theorem zq8 {w0:World} (a b c d:Raw) (h:rrX a b=true) (h1:rrX c d=true) (h2:okO (axX a d)=true) (h3:okO (ayX b c)=false):Con.sound (KN w0) Tryz.prog (FN [a,b,c,d,nz (vO (axX a d)),nz (vO (ayX b c)),nz (vO (adX b d))] [.bool (rrX a b),.bool (rrX c d),.bool (okO (axX a d)),.bool (okO (ayX b c)),.bool (okO (adX b d))]) ⟨14,[RA 0 1,RA 2 3],[],.t [.g ZC,.c (.k (.bool false))],[]⟩ :=
 zl (C:=[(15,.call ⟨44,[RA 0 1],[],LF (.h 100),[]⟩),
  (19,.call ⟨44,[RA 2 3],[],LF (.h 101),[]⟩),
  (10100,.fb 100 true),
  (10101,.fb 101 true),
  (28,.call ⟨59,[NM 0,NM 3],[],.t [.g (nm 4),.c (.h 102)],[]⟩),
  (36,.call ⟨59,[NM 2,NM 1],[],.t [.g (nm 5),.c (.h 103)],[]⟩),
  (44,.call ⟨59,[NM 1,NM 3],[],.t [.g (nm 6),.c (.h 104)],[]⟩),
  (10102,.fb 102 true),
  (10103,.fb 103 false)]) 0 (zq rfl) ⟨zn (zf (k:=0) rfl),zn (zf (k:=1) rfl),c_fb (zf (k:=0) (congrArg Value.bool h)),c_fb (zf (k:=1) (congrArg Value.bool h1)),zZ rfl (zf (k:=2) rfl),zZ rfl (zf (k:=3) rfl),zZ rfl (zf (k:=4) rfl),c_fb (zf (k:=2) (congrArg Value.bool h2)),c_fb (zf (k:=3) (congrArg Value.bool h3)),trivial⟩ mixed (by kernel_rfl)
theorem zq9 {w0:World} (a b c d:Raw) (h:rrX a b=true) (h1:rrX c d=true) (h2:okO (axX a d)=true) (h3:okO (ayX b c)=true) (h4:okO (adX b d)=false):Con.sound (KN w0) Tryz.prog (FN [a,b,c,d,nz (vO (axX a d)),nz (vO (ayX b c)),nz (vO (adX b d))] [.bool (rrX a b),.bool (rrX c d),.bool (okO (axX a d)),.bool (okO (ayX b c)),.bool (okO (adX b d))]) ⟨14,[RA 0 1,RA 2 3],[],.t [.g ZC,.c (.k (.bool false))],[]⟩ :=
 zl (C:=[(15,.call ⟨44,[RA 0 1],[],LF (.h 100),[]⟩),
  (19,.call ⟨44,[RA 2 3],[],LF (.h 101),[]⟩),
  (10100,.fb 100 true),
  (10101,.fb 101 true),
  (28,.call ⟨59,[NM 0,NM 3],[],.t [.g (nm 4),.c (.h 102)],[]⟩),
  (36,.call ⟨59,[NM 2,NM 1],[],.t [.g (nm 5),.c (.h 103)],[]⟩),
  (44,.call ⟨59,[NM 1,NM 3],[],.t [.g (nm 6),.c (.h 104)],[]⟩),
  (10102,.fb 102 true),
  (10103,.fb 103 true),
  (10104,.fb 104 false)]) 0 (zq rfl) ⟨zn (zf (k:=0) rfl),zn (zf (k:=1) rfl),c_fb (zf (k:=0) (congrArg Value.bool h)),c_fb (zf (k:=1) (congrArg Value.bool h1)),zZ rfl (zf (k:=2) rfl),zZ rfl (zf (k:=3) rfl),zZ rfl (zf (k:=4) rfl),c_fb (zf (k:=2) (congrArg Value.bool h2)),c_fb (zf (k:=3) (congrArg Value.bool h3)),c_fb (zf (k:=4) (congrArg Value.bool h4)),trivial⟩ mixed (by kernel_rfl)
theorem zra {w0:World} (a b c d:Raw) (h:rrX a b=true) (h1:rrX c d=true) (h2:okO (axX a d)=true) (h3:okO (ayX b c)=true) (h4:okO (adX b d)=true) (h5:okO (asX a b c d)=false):Con.sound (KN w0) Tryz.prog (FN [a,b,c,d,nz (vO (axX a d)),nz (vO (ayX b c)),nz (vO (adX b d)),nz (vO (asX a b c d))] [.bool (rrX a b),.bool (rrX c d),.bool (okO (axX a d)),.bool (okO (ayX b c)),.bool (okO (adX b d)),.bool (okO (asX a b c d))]) ⟨14,[RA 0 1,RA 2 3],[],.t [.g ZC,.c (.k (.bool false))],[]⟩ :=
 zl (C:=[(15,.call ⟨44,[RA 0 1],[],LF (.h 100),[]⟩),
  (19,.call ⟨44,[RA 2 3],[],LF (.h 101),[]⟩),
  (10100,.fb 100 true),
  (10101,.fb 101 true),
  (28,.call ⟨59,[NM 0,NM 3],[],.t [.g (nm 4),.c (.h 102)],[]⟩),
  (36,.call ⟨59,[NM 2,NM 1],[],.t [.g (nm 5),.c (.h 103)],[]⟩),
  (44,.call ⟨59,[NM 1,NM 3],[],.t [.g (nm 6),.c (.h 104)],[]⟩),
  (61,.call ⟨60,[NM 4,NM 5],[],.t [.g (nm 7),.c (.h 105)],[]⟩),
  (10102,.fb 102 true),
  (10103,.fb 103 true),
  (10104,.fb 104 true),
  (10105,.fb 105 false)]) 0 (zq rfl) ⟨zn (zf (k:=0) rfl),zn (zf (k:=1) rfl),c_fb (zf (k:=0) (congrArg Value.bool h)),c_fb (zf (k:=1) (congrArg Value.bool h1)),zZ rfl (zf (k:=2) rfl),zZ rfl (zf (k:=3) rfl),zZ rfl (zf (k:=4) rfl),zhA rfl (zf (k:=5) rfl),c_fb (zf (k:=2) (congrArg Value.bool h2)),c_fb (zf (k:=3) (congrArg Value.bool h3)),c_fb (zf (k:=4) (congrArg Value.bool h4)),c_fb (zf (k:=5) (congrArg Value.bool h5)),trivial⟩ mixed (by kernel_rfl)
theorem zrb {w0:World} (a b c d:Raw) (h:rrX a b=true) (h1:rrX c d=true) (h2:okO (axX a d)=true) (h3:okO (ayX b c)=true) (h4:okO (adX b d)=true) (h5:okO (asX a b c d)=true):Con.sound (KN w0) Tryz.prog (FN [a,b,c,d,nz (vO (axX a d)),nz (vO (ayX b c)),nz (vO (adX b d)),nz (vO (asX a b c d)),nz (nO (ofX (nz (vO (asX a b c d))) (nz (vO (adX b d))))),nz ((dO (ofX (nz (vO (asX a b c d))) (nz (vO (adX b d)))):Nat):Int)] [.bool (rrX a b),.bool (rrX c d),.bool (okO (axX a d)),.bool (okO (ayX b c)),.bool (okO (adX b d)),.bool (okO (asX a b c d)),.bool (ofX (nz (vO (asX a b c d))) (nz (vO (adX b d)))).isSome]) ⟨14,[RA 0 1,RA 2 3],[],.t [.g (nm 8++nm 9),.c (.h 106)],[]⟩ :=
 zl (C:=[(15,.call ⟨44,[RA 0 1],[],LF (.h 100),[]⟩),
  (19,.call ⟨44,[RA 2 3],[],LF (.h 101),[]⟩),
  (10100,.fb 100 true),
  (10101,.fb 101 true),
  (28,.call ⟨59,[NM 0,NM 3],[],.t [.g (nm 4),.c (.h 102)],[]⟩),
  (36,.call ⟨59,[NM 2,NM 1],[],.t [.g (nm 5),.c (.h 103)],[]⟩),
  (44,.call ⟨59,[NM 1,NM 3],[],.t [.g (nm 6),.c (.h 104)],[]⟩),
  (61,.call ⟨60,[NM 4,NM 5],[],.t [.g (nm 7),.c (.h 105)],[]⟩),
  (10102,.fb 102 true),
  (10103,.fb 103 true),
  (10104,.fb 104 true),
  (10105,.fb 105 true),
  (69,.call ⟨47,[NM 7,NM 6],[],.t [.g (nm 8++nm 9),.c (.h 106)],[]⟩)]) 0 (zq rfl) ⟨zn (zf (k:=0) rfl),zn (zf (k:=1) rfl),c_fb (zf (k:=0) (congrArg Value.bool h)),c_fb (zf (k:=1) (congrArg Value.bool h1)),zZ rfl (zf (k:=2) rfl),zZ rfl (zf (k:=3) rfl),zZ rfl (zf (k:=4) rfl),zhA rfl (zf (k:=5) rfl),c_fb (zf (k:=2) (congrArg Value.bool h2)),c_fb (zf (k:=3) (congrArg Value.bool h3)),c_fb (zf (k:=4) (congrArg Value.bool h4)),c_fb (zf (k:=5) (congrArg Value.bool h5)),zfj rfl rfl (zf (k:=6) rfl),trivial⟩ mixed (by kernel_rfl)
theorem zjt {xs:List Raw} {es:List Value} {w0:World} {i j i2 j2 k k2:Nat} {o:Lf} (h:X xs k=nz (nO (addR (qX (X xs i) (X xs j)) (qX (X xs i2) (X xs j2))))) (h2:X xs k2=nz ((dO (addR (qX (X xs i) (X xs j)) (qX (X xs i2) (X xs j2))):Nat):Int)) (ho:Gives (FN xs es) o (.bool (addR (qX (X xs i) (X xs j)) (qX (X xs i2) (X xs j2))).isSome)) (hi:i<50:=by first | assumption | decide) (hj:j<50:=by first | assumption | decide) (hi2:i2<50:=by first | assumption | decide) (hj2:j2<50:=by first | assumption | decide) (hk:k<50:=by first | assumption | decide) (hk2:k2<50:=by first | assumption | decide):Con.sound (KN w0) Tryz.prog (FN xs es) ⟨14,[RA i j,RA i2 j2],[],.t [.g (nm k++nm k2),.c o],[]⟩:=by
 refine dgR2 (fun d1 d2 d3 d4=>?_) hi hj hi2 hj2
 cases h3:rrX (X xs i) (X xs j) with
 | false =>
  rw [qU h3] at h h2 ho
  exact tr (zq5 _ _ _ _ h3) (sh2 (RA_mv rfl rfl hi hj) (RA_mv rfl rfl hi2 hj2)) (T2_bk (ZR_bk h h2 hk hk2) (LF_bk ho zg))
 | true =>
  obtain ⟨p,ep,ea,eb,hp,hp2⟩:=qV h3 d1 d2
  cases h4:rrX (X xs i2) (X xs j2) with
  | false =>
   rw [qU h4,ep] at h h2 ho
   exact tr (zq6 _ _ _ _ h3 h4) (sh2 (RA_mv rfl rfl hi hj) (RA_mv rfl rfl hi2 hj2)) (T2_bk (ZR_bk h h2 hk hk2) (LF_bk ho zg))
  | true =>
   obtain ⟨r,er,ec,ed,hr,hr2⟩:=qV h4 d3 d4
   rw [ep,er] at h h2 ho
   have hp2':((p.den:Nat):Int).natAbs<big:=by simpa using hp2
   have hr2':((r.den:Nat):Int).natAbs<big:=by simpa using hr2
   have key:=zlV hp hp2 hr hr2
   rw [← ea,← eb,← ec,← ed] at key
   rw [← key] at h h2 ho
   cases h5:okO (axX (X xs i) (X xs j2)) with
   | false =>
    rw [show arX (X xs i) (X xs j) (X xs i2) (X xs j2) _=none from by unfold arX ovX;rw [if_neg (by simp [h5])]] at h h2 ho
    exact tr (zq7 _ _ _ _ h3 h4 h5) (sh2 (RA_mv rfl rfl hi hj) (RA_mv rfl rfl hi2 hj2)) (T2_bk (ZR_bk h h2 hk hk2) (LF_bk ho zg))
   | true =>
    cases h6:okO (ayX (X xs j) (X xs i2)) with
    | false =>
     rw [show arX (X xs i) (X xs j) (X xs i2) (X xs j2) _=none from by unfold arX ovX;rw [if_neg (by simp [h6])]] at h h2 ho
     exact tr (zq8 _ _ _ _ h3 h4 h5 h6) (sh2 (RA_mv rfl rfl hi hj) (RA_mv rfl rfl hi2 hj2)) (T2_bk (ZR_bk h h2 hk hk2) (LF_bk ho zg))
    | true =>
     cases h7:okO (adX (X xs j) (X xs j2)) with
     | false =>
      rw [show arX (X xs i) (X xs j) (X xs i2) (X xs j2) _=none from by unfold arX ovX;rw [if_neg (by simp [h7])]] at h h2 ho
      exact tr (zq9 _ _ _ _ h3 h4 h5 h6 h7) (sh2 (RA_mv rfl rfl hi hj) (RA_mv rfl rfl hi2 hj2)) (T2_bk (ZR_bk h h2 hk hk2) (LF_bk ho zg))
     | true =>
      cases h8:okO (asX (X xs i) (X xs j) (X xs i2) (X xs j2)) with
      | false =>
       rw [show arX (X xs i) (X xs j) (X xs i2) (X xs j2) _=none from by unfold arX ovX;rw [if_neg (by simp [h8])]] at h h2 ho
       exact tr (zra _ _ _ _ h3 h4 h5 h6 h7 h8) (sh2 (RA_mv rfl rfl hi hj) (RA_mv rfl rfl hi2 hj2)) (T2_bk (ZR_bk h h2 hk hk2) (LF_bk ho zg))
      | true =>
       rw [h5,h6,h8,show arX (X xs i) (X xs j) (X xs i2) (X xs j2) (true && (true && true))=ofX (nz (vO (asX (X xs i) (X xs j) (X xs i2) (X xs j2)))) (nz (vO (adX (X xs j) (X xs j2)))) from by unfold arX ovX;rw [h7];rfl] at h h2 ho
       exact tr (zrb _ _ _ _ h3 h4 h5 h6 h7 h8) (sh2 (RA_mv rfl rfl hi hj) (RA_mv rfl rfl hi2 hj2)) (T2_bk (RA_bk h.symm h2.symm) (LF_bk ho (zf (k:=6) rfl)))
theorem zrn {w0:World} (a b c d:Raw) (h:rrX a b=false):Con.sound (KN w0) Tryz.prog (FN [a,b,c,d] [.bool (rrX a b)]) ⟨16,[RA 0 1,RA 2 3],[],.t [.g ZC,.c (.k (.bool false))],[]⟩ :=
 zl (C:=[(7,.call ⟨44,[RA 0 1],[],LF (.h 100),[]⟩),
  (10100,.fb 100 false)]) 0 (zq rfl) ⟨zn (zf (k:=0) rfl),c_fb (zf (k:=0) (congrArg Value.bool h)),trivial⟩ mixed (by kernel_rfl)
theorem zro {w0:World} (a b c d:Raw) (h:rrX a b=true) (h1:rrX c d=false):Con.sound (KN w0) Tryz.prog (FN [a,b,c,d] [.bool (rrX a b),.bool (rrX c d)]) ⟨16,[RA 0 1,RA 2 3],[],.t [.g ZC,.c (.k (.bool false))],[]⟩ :=
 zl (C:=[(7,.call ⟨44,[RA 0 1],[],LF (.h 100),[]⟩),
  (11,.call ⟨44,[RA 2 3],[],LF (.h 101),[]⟩),
  (10100,.fb 100 true),
  (10101,.fb 101 false)]) 0 (zq rfl) ⟨zn (zf (k:=0) rfl),zn (zf (k:=1) rfl),c_fb (zf (k:=0) (congrArg Value.bool h)),c_fb (zf (k:=1) (congrArg Value.bool h1)),trivial⟩ mixed (by kernel_rfl)
theorem zrp {w0:World} (a b c d:Raw) (h:rrX a b=true) (h1:rrX c d=true):Con.sound (KN w0) Tryz.prog (FN [a,b,c,d,ngX c,nz (nO (addR (qX a b) (qX (ngX c) d))),nz ((dO (addR (qX a b) (qX (ngX c) d)):Nat):Int)] [.bool (rrX a b),.bool (rrX c d),.bool (addR (qX a b) (qX (ngX c) d)).isSome]) ⟨16,[RA 0 1,RA 2 3],[],.t [.g (nm 5++nm 6),.c (.h 102)],[]⟩ :=
 zl (C:=[(7,.call ⟨44,[RA 0 1],[],LF (.h 100),[]⟩),
  (11,.call ⟨44,[RA 2 3],[],LF (.h 101),[]⟩),
  (10100,.fb 100 true),
  (10101,.fb 101 true),
  (18,.call ⟨62,[NM 2],[],NM 4,[]⟩),
  (22,.call ⟨14,[RA 0 1,RA 4 3],[],.t [.g (nm 5++nm 6),.c (.h 102)],[]⟩)]) 0 (zq rfl) ⟨zn (zf (k:=0) rfl),zn (zf (k:=1) rfl),c_fb (zf (k:=0) (congrArg Value.bool h)),c_fb (zf (k:=1) (congrArg Value.bool h1)),zb4 rfl,zjt rfl rfl (zf (k:=2) rfl),trivial⟩ mixed (by kernel_rfl)
theorem zn5 {xs:List Raw} {es:List Value} {w0:World} {i j i2 j2 k k2:Nat} {o:Lf} (h:X xs k=nz (nO (subR (qX (X xs i) (X xs j)) (qX (X xs i2) (X xs j2))))) (h2:X xs k2=nz ((dO (subR (qX (X xs i) (X xs j)) (qX (X xs i2) (X xs j2))):Nat):Int)) (ho:Gives (FN xs es) o (.bool (subR (qX (X xs i) (X xs j)) (qX (X xs i2) (X xs j2))).isSome)) (hi:i<50:=by first | assumption | decide) (hj:j<50:=by first | assumption | decide) (hi2:i2<50:=by first | assumption | decide) (hj2:j2<50:=by first | assumption | decide) (hk:k<50:=by first | assumption | decide) (hk2:k2<50:=by first | assumption | decide):Con.sound (KN w0) Tryz.prog (FN xs es) ⟨16,[RA i j,RA i2 j2],[],.t [.g (nm k++nm k2),.c o],[]⟩:=by
 refine dgR2 (fun d1 d2 d3 d4=>?_) hi hj hi2 hj2
 cases h3:rrX (X xs i) (X xs j) with
 | false =>
  rw [qU h3] at h h2 ho
  exact tr (zrn _ _ _ _ h3) (sh2 (RA_mv rfl rfl hi hj) (RA_mv rfl rfl hi2 hj2)) (T2_bk (ZR_bk h h2 hk hk2) (LF_bk ho zg))
 | true =>
  obtain ⟨p,ep,ea,eb,hp,hp2⟩:=qV h3 d1 d2
  cases h4:rrX (X xs i2) (X xs j2) with
  | false =>
   rw [qU h4,ep] at h h2 ho
   exact tr (zro _ _ _ _ h3 h4) (sh2 (RA_mv rfl rfl hi hj) (RA_mv rfl rfl hi2 hj2)) (T2_bk (ZR_bk h h2 hk hk2) (LF_bk ho zg))
  | true =>
   obtain ⟨r,er,ec,ed,hr,hr2⟩:=qV h4 d3 d4
   rw [ep,er] at h h2 ho
   have hp2':((p.den:Nat):Int).natAbs<big:=by simpa using hp2
   have hr2':((r.den:Nat):Int).natAbs<big:=by simpa using hr2
   have e:addR (qX (X xs i) (X xs j)) (qX (ngX (X xs i2)) (X xs j2))=subR (some p) (some r):=by
    rw [ep,ec,ed,show ngX (nz r.num)=nz (-r.num) from zex hr]
    have:=qX_q (q:=-r) (by simpa using hr) (by simpa using hr2)
    rw [Rat.neg_num,Rat.neg_den] at this
    rw [this];rfl
   rw [← e] at h h2 ho
   exact tr (zrp _ _ _ _ h3 h4) (sh2 (RA_mv rfl rfl hi hj) (RA_mv rfl rfl hi2 hj2)) (T2_bk (RA_bk h.symm h2.symm) (LF_bk ho (zf (k:=2) rfl)))
theorem zri {w0:World} (a b c d:Raw) (h:rrX a b=false):Con.sound (KN w0) Tryz.prog (FN [a,b,c,d] [.bool (rrX a b)]) ⟨19,[RA 0 1,RA 2 3],[],.t [.g ZC,.c (.k (.bool false))],[]⟩ :=
 zl (C:=[(11,.call ⟨44,[RA 0 1],[],LF (.h 100),[]⟩),
  (10100,.fb 100 false)]) 0 (zq rfl) ⟨zn (zf (k:=0) rfl),c_fb (zf (k:=0) (congrArg Value.bool h)),trivial⟩ mixed (by kernel_rfl)
theorem zrj {w0:World} (a b c d:Raw) (h:rrX a b=true) (h1:rrX c d=false):Con.sound (KN w0) Tryz.prog (FN [a,b,c,d] [.bool (rrX a b),.bool (rrX c d)]) ⟨19,[RA 0 1,RA 2 3],[],.t [.g ZC,.c (.k (.bool false))],[]⟩ :=
 zl (C:=[(11,.call ⟨44,[RA 0 1],[],LF (.h 100),[]⟩),
  (15,.call ⟨44,[RA 2 3],[],LF (.h 101),[]⟩),
  (10100,.fb 100 true),
  (10101,.fb 101 false)]) 0 (zq rfl) ⟨zn (zf (k:=0) rfl),zn (zf (k:=1) rfl),c_fb (zf (k:=0) (congrArg Value.bool h)),c_fb (zf (k:=1) (congrArg Value.bool h1)),trivial⟩ mixed (by kernel_rfl)
theorem zrk {w0:World} (a b c d:Raw) (h:rrX a b=true) (h1:rrX c d=true) (g0:okO (mulX a c)=false):Con.sound (KN w0) Tryz.prog (FN [a,b,c,d,nz (vO (mulX a c)),nz (vO (mulX b d))] [.bool (rrX a b),.bool (rrX c d),.bool (okO (mulX a c)),.bool (okO (mulX b d))]) ⟨19,[RA 0 1,RA 2 3],[],.t [.g ZC,.c (.k (.bool false))],[]⟩ :=
 zl (C:=[(11,.call ⟨44,[RA 0 1],[],LF (.h 100),[]⟩),
  (15,.call ⟨44,[RA 2 3],[],LF (.h 101),[]⟩),
  (10100,.fb 100 true),
  (10101,.fb 101 true),
  (24,.call ⟨59,[NM 0,NM 2],[],.t [.g (nm 4),.c (.h 102)],[]⟩),
  (32,.call ⟨59,[NM 1,NM 3],[],.t [.g (nm 5),.c (.h 103)],[]⟩),
  (10102,.fb 102 false)]) 0 (zq rfl) ⟨zn (zf (k:=0) rfl),zn (zf (k:=1) rfl),c_fb (zf (k:=0) (congrArg Value.bool h)),c_fb (zf (k:=1) (congrArg Value.bool h1)),zZ rfl (zf (k:=2) rfl),zZ rfl (zf (k:=3) rfl),c_fb (zf (k:=2) (congrArg Value.bool g0)),trivial⟩ mixed (by kernel_rfl)
theorem zrl {w0:World} (a b c d:Raw) (h:rrX a b=true) (h1:rrX c d=true) (g0:okO (mulX a c)=true) (g1:okO (mulX b d)=false):Con.sound (KN w0) Tryz.prog (FN [a,b,c,d,nz (vO (mulX a c)),nz (vO (mulX b d))] [.bool (rrX a b),.bool (rrX c d),.bool (okO (mulX a c)),.bool (okO (mulX b d))]) ⟨19,[RA 0 1,RA 2 3],[],.t [.g ZC,.c (.k (.bool false))],[]⟩ :=
 zl (C:=[(11,.call ⟨44,[RA 0 1],[],LF (.h 100),[]⟩),
  (15,.call ⟨44,[RA 2 3],[],LF (.h 101),[]⟩),
  (10100,.fb 100 true),
  (10101,.fb 101 true),
  (24,.call ⟨59,[NM 0,NM 2],[],.t [.g (nm 4),.c (.h 102)],[]⟩),
  (32,.call ⟨59,[NM 1,NM 3],[],.t [.g (nm 5),.c (.h 103)],[]⟩),
  (10102,.fb 102 true),
  (10103,.fb 103 false)]) 0 (zq rfl) ⟨zn (zf (k:=0) rfl),zn (zf (k:=1) rfl),c_fb (zf (k:=0) (congrArg Value.bool h)),c_fb (zf (k:=1) (congrArg Value.bool h1)),zZ rfl (zf (k:=2) rfl),zZ rfl (zf (k:=3) rfl),c_fb (zf (k:=2) (congrArg Value.bool g0)),c_fb (zf (k:=3) (congrArg Value.bool g1)),trivial⟩ mixed (by kernel_rfl)
theorem zrm {w0:World} (a b c d:Raw) (h:rrX a b=true) (h1:rrX c d=true) (g0:okO (mulX a c)=true) (g1:okO (mulX b d)=true):Con.sound (KN w0) Tryz.prog (FN [a,b,c,d,nz (vO (mulX a c)),nz (vO (mulX b d)),nz (nO (ofX (nz (vO (mulX a c))) (nz (vO (mulX b d))))),nz ((dO (ofX (nz (vO (mulX a c))) (nz (vO (mulX b d)))):Nat):Int)] [.bool (rrX a b),.bool (rrX c d),.bool (okO (mulX a c)),.bool (okO (mulX b d)),.bool (ofX (nz (vO (mulX a c))) (nz (vO (mulX b d)))).isSome]) ⟨19,[RA 0 1,RA 2 3],[],.t [.g (nm 6++nm 7),.c (.h 104)],[]⟩ :=
 zl (C:=[(11,.call ⟨44,[RA 0 1],[],LF (.h 100),[]⟩),
  (15,.call ⟨44,[RA 2 3],[],LF (.h 101),[]⟩),
  (10100,.fb 100 true),
  (10101,.fb 101 true),
  (24,.call ⟨59,[NM 0,NM 2],[],.t [.g (nm 4),.c (.h 102)],[]⟩),
  (32,.call ⟨59,[NM 1,NM 3],[],.t [.g (nm 5),.c (.h 103)],[]⟩),
  (10102,.fb 102 true),
  (10103,.fb 103 true),
  (44,.call ⟨47,[NM 4,NM 5],[],.t [.g (nm 6++nm 7),.c (.h 104)],[]⟩)]) 0 (zq rfl) ⟨zn (zf (k:=0) rfl),zn (zf (k:=1) rfl),c_fb (zf (k:=0) (congrArg Value.bool h)),c_fb (zf (k:=1) (congrArg Value.bool h1)),zZ rfl (zf (k:=2) rfl),zZ rfl (zf (k:=3) rfl),c_fb (zf (k:=2) (congrArg Value.bool g0)),c_fb (zf (k:=3) (congrArg Value.bool g1)),zfj rfl rfl (zf (k:=4) rfl),trivial⟩ mixed (by kernel_rfl)
theorem zn4 {xs:List Raw} {es:List Value} {w0:World} {i j i2 j2 k k2:Nat} {o:Lf} (h:X xs k=nz (nO (mulR (qX (X xs i) (X xs j)) (qX (X xs i2) (X xs j2))))) (h2:X xs k2=nz ((dO (mulR (qX (X xs i) (X xs j)) (qX (X xs i2) (X xs j2))):Nat):Int)) (ho:Gives (FN xs es) o (.bool (mulR (qX (X xs i) (X xs j)) (qX (X xs i2) (X xs j2))).isSome)) (hi:i<50:=by first | assumption | decide) (hj:j<50:=by first | assumption | decide) (hi2:i2<50:=by first | assumption | decide) (hj2:j2<50:=by first | assumption | decide) (hk:k<50:=by first | assumption | decide) (hk2:k2<50:=by first | assumption | decide):Con.sound (KN w0) Tryz.prog (FN xs es) ⟨19,[RA i j,RA i2 j2],[],.t [.g (nm k++nm k2),.c o],[]⟩:=by
 refine dgR2 (fun d1 d2 d3 d4=>?_) hi hj hi2 hj2
 cases h3:rrX (X xs i) (X xs j) with
 | false =>
  rw [qU h3] at h h2 ho
  exact tr (zri _ _ _ _ h3) (sh2 (RA_mv rfl rfl hi hj) (RA_mv rfl rfl hi2 hj2)) (T2_bk (ZR_bk h h2 hk hk2) (LF_bk ho zg))
 | true =>
  obtain ⟨p,ep,ea,eb,hp,hp2⟩:=qV h3 d1 d2
  cases h4:rrX (X xs i2) (X xs j2) with
  | false =>
   rw [qU h4,ep] at h h2 ho
   exact tr (zrj _ _ _ _ h3 h4) (sh2 (RA_mv rfl rfl hi hj) (RA_mv rfl rfl hi2 hj2)) (T2_bk (ZR_bk h h2 hk hk2) (LF_bk ho zg))
  | true =>
   obtain ⟨r,er,ec,ed,hr,hr2⟩:=qV h4 d3 d4
   rw [ep,er] at h h2 ho
   have hp2':((p.den:Nat):Int).natAbs<big:=by simpa using hp2
   have hr2':((r.den:Nat):Int).natAbs<big:=by simpa using hr2
   have e:pmX (X xs i) (X xs j) (X xs i2) (X xs j2)=mulR (some p) (some r):=by
    rw [ea,eb,ec,ed,zlI hp hp2' hr hr2',zoZ];rfl
   rw [← e] at h h2 ho
   cases h5:okO (mulX (X xs i) (X xs i2)) with
   | false =>
    rw [show pmX (X xs i) (X xs j) (X xs i2) (X xs j2)=none from by unfold pmX ovX;rw [if_neg (by simp [h5])]] at h h2 ho
    exact tr (zrk _ _ _ _ h3 h4 h5) (sh2 (RA_mv rfl rfl hi hj) (RA_mv rfl rfl hi2 hj2)) (T2_bk (ZR_bk h h2 hk hk2) (LF_bk ho zg))
   | true =>
    cases h6:okO (mulX (X xs j) (X xs j2)) with
    | false =>
     rw [show pmX (X xs i) (X xs j) (X xs i2) (X xs j2)=none from by unfold pmX ovX;rw [if_neg (by simp [h6])]] at h h2 ho
     exact tr (zrl _ _ _ _ h3 h4 h5 h6) (sh2 (RA_mv rfl rfl hi hj) (RA_mv rfl rfl hi2 hj2)) (T2_bk (ZR_bk h h2 hk hk2) (LF_bk ho zg))
    | true =>
     rw [show pmX (X xs i) (X xs j) (X xs i2) (X xs j2)=ofX (nz (vO (mulX (X xs i) (X xs i2)))) (nz (vO (mulX (X xs j) (X xs j2)))) from by unfold pmX ovX;rw [h5,h6];rfl] at h h2 ho
     exact tr (zrm _ _ _ _ h3 h4 h5 h6) (sh2 (RA_mv rfl rfl hi hj) (RA_mv rfl rfl hi2 hj2)) (T2_bk (RA_bk h.symm h2.symm) (LF_bk ho (zf (k:=4) rfl)))
theorem zrc {w0:World} (a b c d:Raw) (h:rrX a b=false):Con.sound (KN w0) Tryz.prog (FN [a,b,c,d] [.bool (rrX a b)]) ⟨21,[RA 0 1,RA 2 3],[],.t [.g ZC,.c (.k (.bool false))],[]⟩ :=
 zl (C:=[(11,.call ⟨44,[RA 0 1],[],LF (.h 100),[]⟩),
  (10100,.fb 100 false)]) 0 (zq rfl) ⟨zn (zf (k:=0) rfl),c_fb (zf (k:=0) (congrArg Value.bool h)),trivial⟩ mixed (by kernel_rfl)
theorem zrd {w0:World} (a b c d:Raw) (h:rrX a b=true) (h1:rrX c d=false):Con.sound (KN w0) Tryz.prog (FN [a,b,c,d] [.bool (rrX a b),.bool (rrX c d)]) ⟨21,[RA 0 1,RA 2 3],[],.t [.g ZC,.c (.k (.bool false))],[]⟩ :=
 zl (C:=[(11,.call ⟨44,[RA 0 1],[],LF (.h 100),[]⟩),
  (15,.call ⟨44,[RA 2 3],[],LF (.h 101),[]⟩),
  (10100,.fb 100 true),
  (10101,.fb 101 false)]) 0 (zq rfl) ⟨zn (zf (k:=0) rfl),zn (zf (k:=1) rfl),c_fb (zf (k:=0) (congrArg Value.bool h)),c_fb (zf (k:=1) (congrArg Value.bool h1)),trivial⟩ mixed (by kernel_rfl)
theorem zre {w0:World} (a b c d:Raw) (h:rrX a b=true) (h1:rrX c d=true) (h2:(sgX c d == 0)=true):Con.sound (KN w0) Tryz.prog (FN [a,b,c,d] [.bool (rrX a b),.bool (rrX c d),.int .i64 (sgX c d)]) ⟨21,[RA 0 1,RA 2 3],[],.t [.g ZC,.c (.k (.bool false))],[]⟩ :=
 zl (C:=[(11,.call ⟨44,[RA 0 1],[],LF (.h 100),[]⟩),
  (15,.call ⟨44,[RA 2 3],[],LF (.h 101),[]⟩),
  (10100,.fb 100 true),
  (10101,.fb 101 true),
  (20,.call ⟨45,[RA 2 3],[],LF (.h 102),[]⟩),
  (21,.bin .eql 3 (LF (.h 102)) (LF (.k (.int .i64 0))) (LF (.k (.bool true))))]) 0 (zq rfl) ⟨zn (zf (k:=0) rfl),zn (zf (k:=1) rfl),c_fb (zf (k:=0) (congrArg Value.bool h)),c_fb (zf (k:=1) (congrArg Value.bool h1)),zcH (zf (k:=2) rfl),c_bin (zf (k:=2) rfl) zg (congrArg some h2) zg,trivial⟩ mixed (by kernel_rfl)
theorem zrf {w0:World} (a b c d:Raw) (h:rrX a b=true) (h1:rrX c d=true) (h2:(sgX c d == 0)=false) (g0:okO (mulX a d)=false):Con.sound (KN w0) Tryz.prog (FN [a,b,c,d,nz (vO (mulX a d)),nz (vO (mulX b c))] [.bool (rrX a b),.bool (rrX c d),.int .i64 (sgX c d),.bool (okO (mulX a d)),.bool (okO (mulX b c))]) ⟨21,[RA 0 1,RA 2 3],[],.t [.g ZC,.c (.k (.bool false))],[]⟩ :=
 zl (C:=[(11,.call ⟨44,[RA 0 1],[],LF (.h 100),[]⟩),
  (15,.call ⟨44,[RA 2 3],[],LF (.h 101),[]⟩),
  (10100,.fb 100 true),
  (10101,.fb 101 true),
  (20,.call ⟨45,[RA 2 3],[],LF (.h 102),[]⟩),
  (21,.bin .eql 3 (LF (.h 102)) (LF (.k (.int .i64 0))) (LF (.k (.bool false)))),
  (29,.call ⟨59,[NM 0,NM 3],[],.t [.g (nm 4),.c (.h 103)],[]⟩),
  (37,.call ⟨59,[NM 1,NM 2],[],.t [.g (nm 5),.c (.h 104)],[]⟩),
  (10103,.fb 103 false)]) 0 (zq rfl) ⟨zn (zf (k:=0) rfl),zn (zf (k:=1) rfl),c_fb (zf (k:=0) (congrArg Value.bool h)),c_fb (zf (k:=1) (congrArg Value.bool h1)),zcH (zf (k:=2) rfl),c_bin (zf (k:=2) rfl) zg (congrArg some h2) zg,zZ rfl (zf (k:=3) rfl),zZ rfl (zf (k:=4) rfl),c_fb (zf (k:=3) (congrArg Value.bool g0)),trivial⟩ mixed (by kernel_rfl)
theorem zrg {w0:World} (a b c d:Raw) (h:rrX a b=true) (h1:rrX c d=true) (h2:(sgX c d == 0)=false) (g0:okO (mulX a d)=true) (g1:okO (mulX b c)=false):Con.sound (KN w0) Tryz.prog (FN [a,b,c,d,nz (vO (mulX a d)),nz (vO (mulX b c))] [.bool (rrX a b),.bool (rrX c d),.int .i64 (sgX c d),.bool (okO (mulX a d)),.bool (okO (mulX b c))]) ⟨21,[RA 0 1,RA 2 3],[],.t [.g ZC,.c (.k (.bool false))],[]⟩ :=
 zl (C:=[(11,.call ⟨44,[RA 0 1],[],LF (.h 100),[]⟩),
  (15,.call ⟨44,[RA 2 3],[],LF (.h 101),[]⟩),
  (10100,.fb 100 true),
  (10101,.fb 101 true),
  (20,.call ⟨45,[RA 2 3],[],LF (.h 102),[]⟩),
  (21,.bin .eql 3 (LF (.h 102)) (LF (.k (.int .i64 0))) (LF (.k (.bool false)))),
  (29,.call ⟨59,[NM 0,NM 3],[],.t [.g (nm 4),.c (.h 103)],[]⟩),
  (37,.call ⟨59,[NM 1,NM 2],[],.t [.g (nm 5),.c (.h 104)],[]⟩),
  (10103,.fb 103 true),
  (10104,.fb 104 false)]) 0 (zq rfl) ⟨zn (zf (k:=0) rfl),zn (zf (k:=1) rfl),c_fb (zf (k:=0) (congrArg Value.bool h)),c_fb (zf (k:=1) (congrArg Value.bool h1)),zcH (zf (k:=2) rfl),c_bin (zf (k:=2) rfl) zg (congrArg some h2) zg,zZ rfl (zf (k:=3) rfl),zZ rfl (zf (k:=4) rfl),c_fb (zf (k:=3) (congrArg Value.bool g0)),c_fb (zf (k:=4) (congrArg Value.bool g1)),trivial⟩ mixed (by kernel_rfl)
theorem zrh {w0:World} (a b c d:Raw) (h:rrX a b=true) (h1:rrX c d=true) (h2:(sgX c d == 0)=false) (g0:okO (mulX a d)=true) (g1:okO (mulX b c)=true):Con.sound (KN w0) Tryz.prog (FN [a,b,c,d,nz (vO (mulX a d)),nz (vO (mulX b c)),nz (nO (ofX (nz (vO (mulX a d))) (nz (vO (mulX b c))))),nz ((dO (ofX (nz (vO (mulX a d))) (nz (vO (mulX b c)))):Nat):Int)] [.bool (rrX a b),.bool (rrX c d),.int .i64 (sgX c d),.bool (okO (mulX a d)),.bool (okO (mulX b c)),.bool (ofX (nz (vO (mulX a d))) (nz (vO (mulX b c)))).isSome]) ⟨21,[RA 0 1,RA 2 3],[],.t [.g (nm 6++nm 7),.c (.h 105)],[]⟩ :=
 zl (C:=[(11,.call ⟨44,[RA 0 1],[],LF (.h 100),[]⟩),
  (15,.call ⟨44,[RA 2 3],[],LF (.h 101),[]⟩),
  (10100,.fb 100 true),
  (10101,.fb 101 true),
  (20,.call ⟨45,[RA 2 3],[],LF (.h 102),[]⟩),
  (21,.bin .eql 3 (LF (.h 102)) (LF (.k (.int .i64 0))) (LF (.k (.bool false)))),
  (29,.call ⟨59,[NM 0,NM 3],[],.t [.g (nm 4),.c (.h 103)],[]⟩),
  (37,.call ⟨59,[NM 1,NM 2],[],.t [.g (nm 5),.c (.h 104)],[]⟩),
  (10103,.fb 103 true),
  (10104,.fb 104 true),
  (49,.call ⟨47,[NM 4,NM 5],[],.t [.g (nm 6++nm 7),.c (.h 105)],[]⟩)]) 0 (zq rfl) ⟨zn (zf (k:=0) rfl),zn (zf (k:=1) rfl),c_fb (zf (k:=0) (congrArg Value.bool h)),c_fb (zf (k:=1) (congrArg Value.bool h1)),zcH (zf (k:=2) rfl),c_bin (zf (k:=2) rfl) zg (congrArg some h2) zg,zZ rfl (zf (k:=3) rfl),zZ rfl (zf (k:=4) rfl),c_fb (zf (k:=3) (congrArg Value.bool g0)),c_fb (zf (k:=4) (congrArg Value.bool g1)),zfj rfl rfl (zf (k:=5) rfl),trivial⟩ mixed (by kernel_rfl)
theorem zn3 {xs:List Raw} {es:List Value} {w0:World} {i j i2 j2 k k2:Nat} {o:Lf} (h:X xs k=nz (nO (divR (qX (X xs i) (X xs j)) (qX (X xs i2) (X xs j2))))) (h2:X xs k2=nz ((dO (divR (qX (X xs i) (X xs j)) (qX (X xs i2) (X xs j2))):Nat):Int)) (ho:Gives (FN xs es) o (.bool (divR (qX (X xs i) (X xs j)) (qX (X xs i2) (X xs j2))).isSome)) (hi:i<50:=by first | assumption | decide) (hj:j<50:=by first | assumption | decide) (hi2:i2<50:=by first | assumption | decide) (hj2:j2<50:=by first | assumption | decide) (hk:k<50:=by first | assumption | decide) (hk2:k2<50:=by first | assumption | decide):Con.sound (KN w0) Tryz.prog (FN xs es) ⟨21,[RA i j,RA i2 j2],[],.t [.g (nm k++nm k2),.c o],[]⟩:=by
 refine dgR2 (fun d1 d2 d3 d4=>?_) hi hj hi2 hj2
 cases h3:rrX (X xs i) (X xs j) with
 | false =>
  rw [qU h3] at h h2 ho
  exact tr (zrc _ _ _ _ h3) (sh2 (RA_mv rfl rfl hi hj) (RA_mv rfl rfl hi2 hj2)) (T2_bk (ZR_bk h h2 hk hk2) (LF_bk ho zg))
 | true =>
  obtain ⟨p,ep,ea,eb,hp,hp2⟩:=qV h3 d1 d2
  cases h4:rrX (X xs i2) (X xs j2) with
  | false =>
   rw [qU h4,ep] at h h2 ho
   exact tr (zrd _ _ _ _ h3 h4) (sh2 (RA_mv rfl rfl hi hj) (RA_mv rfl rfl hi2 hj2)) (T2_bk (ZR_bk h h2 hk hk2) (LF_bk ho zg))
  | true =>
   obtain ⟨r,er,ec,ed,hr,hr2⟩:=qV h4 d3 d4
   rw [ep,er] at h h2 ho
   have hp2':((p.den:Nat):Int).natAbs<big:=by simpa using hp2
   have hr2':((r.den:Nat):Int).natAbs<big:=by simpa using hr2
   have hs:=sg_q hr hr2
   rw [← ec,← ed] at hs
   cases hz:sgX (X xs i2) (X xs j2) == 0 with
   | true =>
    have h0:r.num=0:=of_decide_eq_true (hs.symm.trans hz)
    have e:divR (some p) (some r)=none:=by unfold divR;simp only;rw [if_pos h0]
    rw [e] at h h2 ho
    exact tr (zre _ _ _ _ h3 h4 hz) (sh2 (RA_mv rfl rfl hi hj) (RA_mv rfl rfl hi2 hj2)) (T2_bk (ZR_bk h h2 hk hk2) (LF_bk ho zg))
   | false =>
    have h0:r.num≠0:=of_decide_eq_false (hs.symm.trans hz)
    have e:=zl6 hp hp2 hr hr2 h0
    rw [← ea,← eb,← ec,← ed] at e
    rw [← e] at h h2 ho
    cases h5:okO (mulX (X xs i) (X xs j2)) with
    | false =>
     rw [show pmX (X xs i) (X xs j) (X xs j2) (X xs i2)=none from by unfold pmX ovX;rw [if_neg (by simp [h5])]] at h h2 ho
     exact tr (zrf _ _ _ _ h3 h4 hz h5) (sh2 (RA_mv rfl rfl hi hj) (RA_mv rfl rfl hi2 hj2)) (T2_bk (ZR_bk h h2 hk hk2) (LF_bk ho zg))
    | true =>
     cases h6:okO (mulX (X xs j) (X xs i2)) with
     | false =>
      rw [show pmX (X xs i) (X xs j) (X xs j2) (X xs i2)=none from by unfold pmX ovX;rw [if_neg (by simp [h6])]] at h h2 ho
      exact tr (zrg _ _ _ _ h3 h4 hz h5 h6) (sh2 (RA_mv rfl rfl hi hj) (RA_mv rfl rfl hi2 hj2)) (T2_bk (ZR_bk h h2 hk hk2) (LF_bk ho zg))
     | true =>
      rw [show pmX (X xs i) (X xs j) (X xs j2) (X xs i2)=ofX (nz (vO (mulX (X xs i) (X xs j2)))) (nz (vO (mulX (X xs j) (X xs i2)))) from by unfold pmX ovX;rw [h5,h6];rfl] at h h2 ho
      exact tr (zrh _ _ _ _ h3 h4 hz h5 h6) (sh2 (RA_mv rfl rfl hi hj) (RA_mv rfl rfl hi2 hj2)) (T2_bk (RA_bk h.symm h2.symm) (LF_bk ho (zf (k:=5) rfl)))
end Go.Proofs.YtccjiodohphgnaaGreatDoor
namespace Go.Proofs.YtccjiodohphgnaaGreatDoor
open Go.RowKit Go.Shelf
theorem zo8 {xs xs':List Raw} {es es':List Value} {i i':Nat} {β:Loc} {W:World} {l l':List Lf} (h:X xs i=X xs' i') (hl:∀vs,oks (FN xs es) β l vs W→oks (FN xs' es') β l' vs W) (hi:i<50:=by first | assumption | decide) (hi':i'<50:=by first | assumption | decide) (vs:List Value) (hv:oks (FN xs es) β (nm i++l) vs W):oks (FN xs' es') β (nm i'++l') vs W:=by
 rw [zcE hi] at hv
 obtain ⟨A,n,c,us,e,s,h2⟩:=hv
 rw [zcE hi']
 rw [h] at e s
 exact ⟨A,n,c,us,e,s,hl us h2⟩
theorem zqR {F F':Fact} {β:Loc} {W:World} (vs:List Value) (h:oks F β [] vs W):oks F' β [] vs W:=by cases vs<;>exact h
theorem z_bxR {K:Kit} {xs xs':List Raw} {es es':List Value} {b i j i' j':Nat} {T:TypeId} (h:X xs i=X xs' i') (h2:X xs j=X xs' j') (hi:i<50:=by first | assumption | decide) (hi':i'<50:=by first | assumption | decide) (hj:j<50:=by first | assumption | decide) (hj':j'<50:=by first | assumption | decide) (β:Loc) (a:Act) (W:World) (hA:(Atom.bx b T (nm i++nm j)).ok K (FN xs es) β a W):(Atom.bx b T (nm i'++nm j')).ok K (FN xs' es') β a W:=by
 obtain ⟨q,vs,h0,h1,h3,h4⟩:=hA
 rw [show nm j=nm j++[] by simp] at h3
 rw [show nm j'=nm j'++[] by simp]
 exact ⟨q,vs,h0,h1,zo8 h (fun us=>zo8 h2 (fun us=>zqR us) hj hj' us) hi hi' _ h3,h4⟩
theorem z_p {K:Kit} {F F':Fact} {s b o:Nat} (β:Loc) (a:Act) (W:World) (hA:(Atom.sl s (LF (.p b o))).ok K F β a W):(Atom.sl s (LF (.p b o))).ok K F' β a W:=hA
theorem z_L {K:Kit} {F F':Fact} {s:Nat} {L L':Lf} {u:Value} (h:Gives F L u) (h':Gives F' L' u) (β:Loc) (a:Act) (W:World) (hA:(Atom.sl s (LF L)).ok K F β a W):(Atom.sl s (LF L')).ok K F' β a W:=(h' β _ W).2 ((h β _ W).1 hA)
theorem c_un {K:Kit} {P:Program} {F:Fact} {x o:Lf} {a:Int} (hx:Gives F x (.int .i64 a)) (ho:Gives F o (.int .i64 (IntKind.i64.wrap (0 - a)))):Ent.sound K P F (.un .neg (LF x) (LF o)):=by
 intro β W vx h1
 rw [(hx β vx W).1 h1]
 exact ⟨_,rfl,(ho β _ W).2 rfl⟩
theorem znW {P:Program} {W:World} {op:BinOp} {k:IntKind} {x y z:Int} (T:TypeId) (A B:Operand) (h:(op=.mul∧z=k.wrap (x*y))∨(op=.add∧z=k.wrap (x+y))∨(op=.sub∧z=k.wrap (x - y))):(do eqGuard op T A B (.int k x) (.int k y);binOp op T (.int k x) (.int k y):Sem Value).run P W=.ok (.int k z) W:=by
 rcases h with ⟨rfl,rfl⟩ | ⟨rfl,rfl⟩ | ⟨rfl,rfl⟩<;>simp [eqGuard,binOp,Op.intArith]
theorem ztp {K:Kit} {P:Program} {F:Fact} {op:BinOp} {T:TypeId} {x y o:Lf} {k:IntKind} {a b z:Int} (hx:Gives F x (.int k a)) (hy:Gives F y (.int k b)) (hz:(op=.mul∧z=k.wrap (a*b))∨(op=.add∧z=k.wrap (a+b))∨(op=.sub∧z=k.wrap (a - b))) (ho:Gives F o (.int k z)):Ent.sound K P F (.bin op T (LF x) (LF y) (LF o)):=by
 intro β W vx vy h1 h2
 rw [(hx β vx W).1 h1,(hy β vy W).1 h2]
 exact ⟨_,fun A B=>znW T A B hz,(ho β _ W).2 rfl⟩
def cf:Nat→Int→Int→Int→Int→Int→Int×Int
 | 0,_,_,_,_,s=>(0,s)
 | k+1,n1,d1,n2,d2,s=>if cmpI (n1 / d1) (n2 / d2)≠0 then (cmpI (n1 / d1) (n2 / d2),s) else if n1%d1=0∨n2%d2=0 then (cmpI (n1%d1) (n2%d2),s) else cf k d1 (n1%d1) d2 (n2%d2) (-s)
theorem zdC {x y:Int}:cmpI x y=0↔x=y:=by unfold cmpI;split<;>(try split)<;>omega
theorem zoc:∀(k:Nat) {n1 d1 n2 d2 s:Int},0<d1→0<d2→d1.toNat<k→(cf k n1 d1 n2 d2 s).2*(cf k n1 d1 n2 d2 s).1=s*cmpI (n1*d2) (n2*d1)
 | 0,_,_,_,_,_,_,_,h=>by omega
 | k+1,n1,d1,n2,d2,s,h1,h2,h=>by
  have e1:n1=n1 / d1*d1+n1%d1:=by have:=Int.mul_ediv_add_emod n1 d1;rw [Int.mul_comm] at this;omega
  have e2:n2=n2 / d2*d2+n2%d2:=by have:=Int.mul_ediv_add_emod n2 d2;rw [Int.mul_comm] at this;omega
  have r0:=Int.emod_nonneg n1 (show d1≠0 by omega)
  have r1:=Int.emod_lt_of_pos n1 h1
  have s0:=Int.emod_nonneg n2 (show d2≠0 by omega)
  have s1:=Int.emod_lt_of_pos n2 h2
  unfold cf
  by_cases hc:cmpI (n1 / d1) (n2 / d2)≠0
  ·rw [if_pos hc]
   rw [cf_ne e1 e2 r0 r1 s0 s1 (fun e=>hc (zdC.2 e))]
  ·rw [if_neg hc]
   have hq:n1 / d1=n2 / d2:=zdC.1 (Classical.byContradiction fun h=>hc h)
   have e3:cmpI (n1*d2) (n2*d1)=cmpI (n1%d1*d2) (n2%d2*d1):=cf_eq e1 (by rw [hq];exact e2)
   rw [e3]
   by_cases hz:n1%d1=0∨n2%d2=0
   ·rw [if_pos hz,ztz r0 r1 s0 s1 hz]
   ·rw [if_neg hz,zoc k (by omega) (by omega) (by omega),zty,Int.neg_mul,Int.mul_neg,Int.neg_neg]
structure CT where
 n1:Int
 d1:Int
 n2:Int
 d2:Int
 s:Int
 k:Nat
def CT.F (t:CT):Fact:=FN [nz t.n1,nz t.d1,nz t.n2,nz t.d2] [.int .i64 t.s]
def CT.J (o:Int×Int) (t:CT):Prop:=0<t.d1∧0<t.d2∧t.n1.natAbs<big∧t.d1.natAbs<big∧t.n2.natAbs<big∧t.d2.natAbs<big∧(t.s=1∨t.s=-1)∧t.d1.toNat<t.k∧cf t.k t.n1 t.d1 t.n2 t.d2 t.s=o
def zdD:List Atom:=[.sl 2 (LF (.p 0 0)),.sl 3 (LF (.p 1 0)),.bx 0 28 (nm 0++nm 1),.bx 1 28 (nm 2++nm 3),.sl 6 (LF (.h 100))]
def cmpS_:LoopS:=⟨4,[.sl 2 (LF (.p 0 0)),.sl 3 (LF (.p 1 0)),.bx 0 28 (nm 0++nm 1),.bx 1 28 (nm 2++nm 3),.sl 6 (LF (.k (.int .i64 1)))],.x 0,[.sl 5 (LF (.h 102)),.sl 6 (LF (.h 103))]⟩
theorem cmp_a {w0:World} (a b c d:Raw) (h:rrX a b=false):Con.sound (KN w0) Tryz.prog (FN [a,b,c,d] [.bool (rrX a b),.bool (rrX c d)]) ⟨22,[RA 0 1,RA 2 3],[],LF (.k (.int .i64 0)),[]⟩ :=
 zl (C:=[(14,.call ⟨43,[RA 0 1],[],LF (.h 100),[]⟩),
  (10100,.fb 100 false)]) 0 (zq rfl) ⟨zP (zf (k:=0) rfl),c_fb (zf (k:=0) (congrArg Value.bool h)),trivial⟩ mixed (by kernel_rfl)
theorem cmp_b {w0:World} (a b c d:Raw) (h:rrX a b=true) (h1:rrX c d=false):Con.sound (KN w0) Tryz.prog (FN [a,b,c,d] [.bool (rrX a b),.bool (rrX c d)]) ⟨22,[RA 0 1,RA 2 3],[],LF (.k (.int .i64 0)),[]⟩ :=
 zl (C:=[(14,.call ⟨43,[RA 0 1],[],LF (.h 100),[]⟩),
  (18,.call ⟨43,[RA 2 3],[],LF (.h 101),[]⟩),
  (10100,.fb 100 true),
  (10101,.fb 101 false)]) 0 (zq rfl) ⟨zP (zf (k:=0) rfl),zP (zf (k:=1) rfl),c_fb (zf (k:=0) (congrArg Value.bool h)),c_fb (zf (k:=1) (congrArg Value.bool h1)),trivial⟩ mixed (by kernel_rfl)
theorem zmx {s:Int} (h:s=1∨s=-1):IntKind.i64.wrap (0 - s)=-s:=by rcases h with rfl | rfl<;>decide
theorem zqm {w0:World} (xs:List Raw) (es:List Value) (n1 d1 n2 d2:Int) (k:Nat) (o:Int×Int) (hx:X xs 0=nz n1∧X xs 1=nz d1∧X xs 2=nz n2∧X xs 3=nz d2) (he:Gives (FN xs es) (.h 102) (.int .i64 o.1)∧Gives (FN xs es) (.h 103) (.int .i64 o.2)) (hJ:CT.J o ⟨n1,d1,n2,d2,1,k⟩) (R:Frm) (hnt:R.pm=⟨ntOf Tryz.prog 22,[],[]⟩):zB (KN w0) Tryz.prog (FN xs es) R cmpS_ (lp Tryz.prog 22 0):=by
 refine za1 CT.F (CT.J o) CT.k ⟨n1,d1,n2,d2,1,k⟩ zdD hJ (zipA.imp ⟨z_p,z_p,z_bxR hx.1 hx.2.1,z_bxR hx.2.2.1 hx.2.2.2,z_L zg (zf (k:=0) rfl),trivial⟩) rfl ?_
 clear hJ hx n1 d1 n2 d2 k
 rintro ⟨n1,d1,n2,d2,s,k⟩ ⟨h1,h2,b1,b2,b3,b4,hs,hk,hcf⟩
 simp only at h1 h2 b1 b2 b3 b4 hs hk hcf
 obtain ⟨k',rfl⟩:∃k',k=k'+1:=⟨k - 1,by omega⟩
 have r0:=Int.emod_nonneg n1 (show d1≠0 by omega)
 have r1:=Int.emod_lt_of_pos n1 h1
 have s0:=Int.emod_nonneg n2 (show d2≠0 by omega)
 have s1:=Int.emod_lt_of_pos n2 h2
 have dv1:=za5 b1 b2 (by omega)
 have dv2:=za5 b3 b4 (by omega)
 have eq:nz (n1 / d1)=nz (dqO (divX (nz n1) (nz d1))):=by rw [dv1];rfl
 have er:nz (n1%d1)=nz (drO (divX (nz n1) (nz d1))):=by rw [dv1];rfl
 have eo:Value.bool true=.bool (divX (nz n1) (nz d1)).isSome:=by rw [dv1];rfl
 have vq:nz (n2 / d2)=nz (dqO (divX (nz n2) (nz d2))):=by rw [dv2];rfl
 have vr:nz (n2%d2)=nz (drO (divX (nz n2) (nz d2))):=by rw [dv2];rfl
 have vo:Value.bool true=.bool (divX (nz n2) (nz d2)).isSome:=by rw [dv2];rfl
 have bq:(n1 / d1).natAbs<big:=by have:=zeg (v:=d1.toNat) b1;rwa [Int.toNat_of_nonneg (by omega)] at this
 have bq2:(n2 / d2).natAbs<big:=by have:=zeg (v:=d2.toNat) b3;rwa [Int.toNat_of_nonneg (by omega)] at this
 have br:(n1%d1).natAbs<big:=by omega
 have br2:(n2%d2).natAbs<big:=by omega
 have bz:(0:Int).natAbs<big:=qd (by decide)
 have c3:Value.int .i64 (cmpI (n1 / d1) (n2 / d2))=.int .i64 (cmpX (nz (n1 / d1)) (nz (n2 / d2))):=by rw [zaq bq bq2]
 have c4:Value.int .i64 (cmpI (n1%d1) 0)=.int .i64 (cmpX (nz (n1%d1)) (nz 0)):=by rw [zaq br bz]
 have c5:Value.int .i64 (cmpI (n2%d2) 0)=.int .i64 (cmpX (nz (n2%d2)) (nz 0)):=by rw [zaq br2 bz]
 have c6:Value.int .i64 (cmpI (n1%d1) (n2%d2))=.int .i64 (cmpX (nz (n1%d1)) (nz (n2%d2))):=by rw [zaq br br2]
 have c7:Value.int .i64 (-s)=.int .i64 (IntKind.i64.wrap (0 - s)):=by rw [zmx hs]
 unfold cf at hcf
 by_cases hc:cmpI (n1 / d1) (n2 / d2)≠0
 ·rw [if_pos hc] at hcf
  subst hcf
  have h0:(cmpI (n1 / d1) (n2 / d2) != 0)=true:=by simpa using hc
  exact .inl (goes (Fb:=FN [nz n1,nz d1,nz n2,nz d2,nz (n1 / d1),nz (n1%d1),nz (n2 / d2),nz (n2%d2),nz 0] [.int .i64 s,.bool true,.bool true,.int .i64 (cmpI (n1 / d1) (n2 / d2)),.int .i64 (cmpI (n1%d1) 0),.int .i64 (cmpI (n2%d2) 0),.int .i64 (cmpI (n1%d1) (n2%d2)),.int .i64 (-s)]) (stb:=zdD) (tl:=[.sl 5 (LF (.h 103)),.sl 6 (LF (.h 100))]) (C:=[(26,.call ⟨64,[NM 0,NM 1],[],.t [.g (nm 4),.g (nm 5),.c (.h 101)],[]⟩),
   (35,.call ⟨64,[NM 2,NM 3],[],.t [.g (nm 6),.g (nm 7),.c (.h 102)],[]⟩),
   (41,.call ⟨33,[NM 4,NM 6],[],LF (.h 103),[]⟩),
   (44,.bin .neq 3 (LF (.h 103)) (LF (.k (.int .i64 0))) (LF (.k (.bool true))))]) (H:=.no) 10 (zipA.imp ⟨z_p,z_p,z_bxR rfl rfl,z_bxR rfl rfl,z_L (zf (k:=0) rfl) (zf (k:=0) rfl),trivial⟩) (zq rfl) ⟨c_div eq er (zf (k:=1) eo),c_div vq vr (zf (k:=2) vo),c_cmp (zf (k:=3) c3),c_bin (zf (k:=3) rfl) zg (congrArg some h0) zg,trivial⟩ mixed hnt trivial (fun _ _ _ hs=>by cases hs) (by kernel_rfl:q7 (KN w0) Tryz.prog _ .no ⟨ntOf Tryz.prog 22,[],[]⟩ (lp Tryz.prog 22 0) 10 zdD (.x 0) [.sl 5 (LF (.h 103)),.sl 6 (LF (.h 100))]=true) rfl (zipA.imp ⟨z_L (zf (k:=3) rfl) he.1,z_L (zf (k:=0) rfl) he.2,trivial⟩))
 ·rw [if_neg hc] at hcf
  have h0:(cmpI (n1 / d1) (n2 / d2) != 0)=false:=by simpa using hc
  by_cases hz:n1%d1=0∨n2%d2=0
  ·rw [if_pos hz] at hcf
   subst hcf
   by_cases hr:n1%d1=0
   ·have h1:(cmpI (n1%d1) 0 == 0)=true:=by rw [hr];rfl
    exact .inl (goes (Fb:=FN [nz n1,nz d1,nz n2,nz d2,nz (n1 / d1),nz (n1%d1),nz (n2 / d2),nz (n2%d2),nz 0] [.int .i64 s,.bool true,.bool true,.int .i64 (cmpI (n1 / d1) (n2 / d2)),.int .i64 (cmpI (n1%d1) 0),.int .i64 (cmpI (n2%d2) 0),.int .i64 (cmpI (n1%d1) (n2%d2)),.int .i64 (-s)]) (stb:=zdD) (tl:=[.sl 5 (LF (.h 106)),.sl 6 (LF (.h 100))]) (C:=[(26,.call ⟨64,[NM 0,NM 1],[],.t [.g (nm 4),.g (nm 5),.c (.h 101)],[]⟩),
   (35,.call ⟨64,[NM 2,NM 3],[],.t [.g (nm 6),.g (nm 7),.c (.h 102)],[]⟩),
   (41,.call ⟨33,[NM 4,NM 6],[],LF (.h 103),[]⟩),
   (44,.bin .neq 3 (LF (.h 103)) (LF (.k (.int .i64 0))) (LF (.k (.bool false)))),
   (47,.call ⟨65,[],[],NM 8,[]⟩),
   (48,.call ⟨33,[NM 5,NM 8],[],LF (.h 104),[]⟩),
   (49,.bin .eql 3 (LF (.h 104)) (LF (.k (.int .i64 0))) (LF (.k (.bool true)))),
   (58,.call ⟨33,[NM 5,NM 7],[],LF (.h 106),[]⟩)]) (H:=.no) 10 (zipA.imp ⟨z_p,z_p,z_bxR rfl rfl,z_bxR rfl rfl,z_L (zf (k:=0) rfl) (zf (k:=0) rfl),trivial⟩) (zq rfl) ⟨c_div eq er (zf (k:=1) eo),c_div vq vr (zf (k:=2) vo),c_cmp (zf (k:=3) c3),c_bin (zf (k:=3) rfl) zg (congrArg some h0) zg,zcA rfl,c_cmp (zf (k:=4) c4),c_bin (zf (k:=4) rfl) zg (congrArg some h1) zg,c_cmp (zf (k:=6) c6),trivial⟩ mixed hnt trivial (fun _ _ _ hs=>by cases hs) (by kernel_rfl:q7 (KN w0) Tryz.prog _ .no ⟨ntOf Tryz.prog 22,[],[]⟩ (lp Tryz.prog 22 0) 10 zdD (.x 0) [.sl 5 (LF (.h 106)),.sl 6 (LF (.h 100))]=true) rfl (zipA.imp ⟨z_L (zf (k:=6) rfl) he.1,z_L (zf (k:=0) rfl) he.2,trivial⟩))
   ·have h1:(cmpI (n1%d1) 0 == 0)=false:=by rw [beq_eq_false_iff_ne];exact fun e=>hr (zdC.1 e)
    have h2:(cmpI (n2%d2) 0 == 0)=true:=by rw [hz.resolve_left hr];rfl
    exact .inl (goes (Fb:=FN [nz n1,nz d1,nz n2,nz d2,nz (n1 / d1),nz (n1%d1),nz (n2 / d2),nz (n2%d2),nz 0] [.int .i64 s,.bool true,.bool true,.int .i64 (cmpI (n1 / d1) (n2 / d2)),.int .i64 (cmpI (n1%d1) 0),.int .i64 (cmpI (n2%d2) 0),.int .i64 (cmpI (n1%d1) (n2%d2)),.int .i64 (-s)]) (stb:=zdD) (tl:=[.sl 5 (LF (.h 106)),.sl 6 (LF (.h 100))]) (C:=[(26,.call ⟨64,[NM 0,NM 1],[],.t [.g (nm 4),.g (nm 5),.c (.h 101)],[]⟩),
   (35,.call ⟨64,[NM 2,NM 3],[],.t [.g (nm 6),.g (nm 7),.c (.h 102)],[]⟩),
   (41,.call ⟨33,[NM 4,NM 6],[],LF (.h 103),[]⟩),
   (44,.bin .neq 3 (LF (.h 103)) (LF (.k (.int .i64 0))) (LF (.k (.bool false)))),
   (47,.call ⟨65,[],[],NM 8,[]⟩),
   (48,.call ⟨33,[NM 5,NM 8],[],LF (.h 104),[]⟩),
   (49,.bin .eql 3 (LF (.h 104)) (LF (.k (.int .i64 0))) (LF (.k (.bool false)))),
   (52,.call ⟨65,[],[],NM 8,[]⟩),
   (53,.call ⟨33,[NM 7,NM 8],[],LF (.h 105),[]⟩),
   (54,.bin .eql 3 (LF (.h 105)) (LF (.k (.int .i64 0))) (LF (.k (.bool true)))),
   (58,.call ⟨33,[NM 5,NM 7],[],LF (.h 106),[]⟩)]) (H:=.no) 10 (zipA.imp ⟨z_p,z_p,z_bxR rfl rfl,z_bxR rfl rfl,z_L (zf (k:=0) rfl) (zf (k:=0) rfl),trivial⟩) (zq rfl) ⟨c_div eq er (zf (k:=1) eo),c_div vq vr (zf (k:=2) vo),c_cmp (zf (k:=3) c3),c_bin (zf (k:=3) rfl) zg (congrArg some h0) zg,zcA rfl,c_cmp (zf (k:=4) c4),c_bin (zf (k:=4) rfl) zg (congrArg some h1) zg,zcA rfl,c_cmp (zf (k:=5) c5),c_bin (zf (k:=5) rfl) zg (congrArg some h2) zg,c_cmp (zf (k:=6) c6),trivial⟩ mixed hnt trivial (fun _ _ _ hs=>by cases hs) (by kernel_rfl:q7 (KN w0) Tryz.prog _ .no ⟨ntOf Tryz.prog 22,[],[]⟩ (lp Tryz.prog 22 0) 10 zdD (.x 0) [.sl 5 (LF (.h 106)),.sl 6 (LF (.h 100))]=true) rfl (zipA.imp ⟨z_L (zf (k:=6) rfl) he.1,z_L (zf (k:=0) rfl) he.2,trivial⟩))
  ·rw [if_neg hz] at hcf
   have h1':n1%d1≠0:=fun e=>hz (.inl e)
   have h2':n2%d2≠0:=fun e=>hz (.inr e)
   have h3:(cmpI (n1%d1) 0 == 0)=false:=by rw [beq_eq_false_iff_ne];exact fun e=>h1' (zdC.1 e)
   have h4:(cmpI (n2%d2) 0 == 0)=false:=by rw [beq_eq_false_iff_ne];exact fun e=>h2' (zdC.1 e)
   refine .inr ⟨⟨d1,n1%d1,d2,n2%d2,-s,k'⟩,by simp,⟨by simp only;omega,by simp only;omega,b2,br,b4,br2,by simp only;omega,by simp only;omega,hcf⟩,?_⟩
   have h1:=h3
   have h2:=h4
   exact goes (Fb:=FN [nz n1,nz d1,nz n2,nz d2,nz (n1 / d1),nz (n1%d1),nz (n2 / d2),nz (n2%d2),nz 0] [.int .i64 s,.bool true,.bool true,.int .i64 (cmpI (n1 / d1) (n2 / d2)),.int .i64 (cmpI (n1%d1) 0),.int .i64 (cmpI (n2%d2) 0),.int .i64 (cmpI (n1%d1) (n2%d2)),.int .i64 (-s)]) (stb:=zdD) (tl:=[.sl 2 (LF (.p 0 0)),.sl 3 (LF (.p 1 0)),.bx 0 28 (nm 1++nm 5),.bx 1 28 (nm 3++nm 7),.sl 6 (LF (.h 107))]) (C:=[(26,.call ⟨64,[NM 0,NM 1],[],.t [.g (nm 4),.g (nm 5),.c (.h 101)],[]⟩),
   (35,.call ⟨64,[NM 2,NM 3],[],.t [.g (nm 6),.g (nm 7),.c (.h 102)],[]⟩),
   (41,.call ⟨33,[NM 4,NM 6],[],LF (.h 103),[]⟩),
   (44,.bin .neq 3 (LF (.h 103)) (LF (.k (.int .i64 0))) (LF (.k (.bool false)))),
   (47,.call ⟨65,[],[],NM 8,[]⟩),
   (48,.call ⟨33,[NM 5,NM 8],[],LF (.h 104),[]⟩),
   (49,.bin .eql 3 (LF (.h 104)) (LF (.k (.int .i64 0))) (LF (.k (.bool false)))),
   (52,.call ⟨65,[],[],NM 8,[]⟩),
   (53,.call ⟨33,[NM 7,NM 8],[],LF (.h 105),[]⟩),
   (54,.bin .eql 3 (LF (.h 105)) (LF (.k (.int .i64 0))) (LF (.k (.bool false)))),
   (68,.un .neg (LF (.h 100)) (LF (.h 107)))]) (H:=.no) 10 (zipA.imp ⟨z_p,z_p,z_bxR rfl rfl,z_bxR rfl rfl,z_L (zf (k:=0) rfl) (zf (k:=0) rfl),trivial⟩) (zq rfl) ⟨c_div eq er (zf (k:=1) eo),c_div vq vr (zf (k:=2) vo),c_cmp (zf (k:=3) c3),c_bin (zf (k:=3) rfl) zg (congrArg some h0) zg,zcA rfl,c_cmp (zf (k:=4) c4),c_bin (zf (k:=4) rfl) zg (congrArg some h1) zg,zcA rfl,c_cmp (zf (k:=5) c5),c_bin (zf (k:=5) rfl) zg (congrArg some h2) zg,c_un (zf (k:=0) rfl) (zf (k:=7) c7),trivial⟩ mixed hnt trivial (fun _ _ _ hs=>by cases hs) (by kernel_rfl:q7 (KN w0) Tryz.prog _ .no ⟨ntOf Tryz.prog 22,[],[]⟩ (lp Tryz.prog 22 0) 10 zdD .n [.sl 2 (LF (.p 0 0)),.sl 3 (LF (.p 1 0)),.bx 0 28 (nm 1++nm 5),.bx 1 28 (nm 3++nm 7),.sl 6 (LF (.h 107))]=true) rfl (zipA.imp ⟨z_p,z_p,z_bxR rfl rfl,z_bxR rfl rfl,z_L (zf (k:=7) rfl) (zf (k:=0) rfl),trivial⟩)
theorem cmp_c {w0:World} (n1 d1 n2 d2:Int) (h:rrX (nz n1) (nz d1)=true) (h1:rrX (nz n2) (nz d2)=true) (k:Nat) (o:Int×Int) (z:Int) (hJ:CT.J o ⟨n1,d1,n2,d2,1,k⟩) (hz:z=IntKind.i64.wrap (o.2*o.1)):Con.sound (KN w0) Tryz.prog (FN [nz n1,nz d1,nz n2,nz d2] [.bool (rrX (nz n1) (nz d1)),.bool (rrX (nz n2) (nz d2)),.int .i64 o.1,.int .i64 o.2,.int .i64 z]) ⟨22,[RA 0 1,RA 2 3],[],LF (.h 104),[]⟩:=by
 refine zac (C:=[(14,.call ⟨43,[RA 0 1],[],LF (.h 100),[]⟩),(18,.call ⟨43,[RA 2 3],[],LF (.h 101),[]⟩),(10100,.fb 100 true),(10101,.fb 101 true),(71,.bin .mul 3 (LF (.h 103)) (LF (.h 102)) (LF (.h 104)))]) ⟨[cmpS_],[],0⟩ [] 0 (zq rfl) ⟨zP (zf (k:=0) rfl),zP (zf (k:=1) rfl),c_fb (zf (k:=0) (congrArg Value.bool h)),c_fb (zf (k:=1) (congrArg Value.bool h1)),ztp (zf (k:=3) rfl) (zf (k:=2) rfl) (.inl ⟨rfl,hz⟩) (zf (k:=4) rfl),trivial⟩ mixed trivial ?_ (by kernel_rfl)
 intro R hnt p hp s hs
 have hl:qm (zat Tryz.prog 22)=[(4,lp Tryz.prog 22 0)]:=by kernel_rfl
 rw [hl,List.mem_singleton] at hp
 subst hp
 have:s=cmpS_:=(Option.some.inj hs).symm
 subst this
 exact zqm _ _ n1 d1 n2 d2 k o ⟨rfl,rfl,rfl,rfl⟩ ⟨(zf (k:=2) rfl),(zf (k:=3) rfl)⟩ hJ R hnt
def cmpO (p r:Option Rat):Int:=match p,r with
 | some p,some r=>cmpQ p r
 | _,_=>0
theorem zwd {xs:List Raw} {es:List Value} {w0:World} {i j i2 j2:Nat} {o:Lf} (ho:Gives (FN xs es) o (.int .i64 (cmpO (qX (X xs i) (X xs j)) (qX (X xs i2) (X xs j2))))) (hi:i<50:=by first | assumption | decide) (hj:j<50:=by first | assumption | decide) (hi2:i2<50:=by first | assumption | decide) (hj2:j2<50:=by first | assumption | decide):Con.sound (KN w0) Tryz.prog (FN xs es) ⟨22,[RA i j,RA i2 j2],[],LF o,[]⟩:=by
 refine dgR2 (fun d1 d2 d3 d4=>?_) hi hj hi2 hj2
 cases h3:rrX (X xs i) (X xs j) with
 | false =>
  rw [qU h3] at ho
  exact tr (cmp_a _ _ _ _ h3) (sh2 (RA_mv rfl rfl hi hj) (RA_mv rfl rfl hi2 hj2)) (LF_bk ho zg)
 | true =>
  obtain ⟨p,ep,ea,eb,hp,hp2⟩:=qV h3 d1 d2
  cases h4:rrX (X xs i2) (X xs j2) with
  | false =>
   rw [qU h4,ep] at ho
   exact tr (cmp_b _ _ _ _ h3 h4) (sh2 (RA_mv rfl rfl hi hj) (RA_mv rfl rfl hi2 hj2)) (LF_bk ho zg)
  | true =>
   obtain ⟨r,er,ec,ed,hr,hr2⟩:=qV h4 d3 d4
   rw [ep,er] at ho
   have hp2':((p.den:Nat):Int).natAbs<big:=by simpa using hp2
   have hr2':((r.den:Nat):Int).natAbs<big:=by simpa using hr2
   have n1:=p.den_nz
   have n2:=r.den_nz
   have hJ:CT.J (cf (p.den+1) p.num p.den r.num r.den 1) ⟨p.num,p.den,r.num,r.den,1,p.den+1⟩:=⟨by simp only;omega,by simp only;omega,hp,hp2',hr,hr2',.inl rfl,by simp,rfl⟩
   have hv:=zoc (p.den+1) (n1:=p.num) (d1:=p.den) (n2:=r.num) (d2:=r.den) (s:=1) (by omega) (by omega) (by simp)
   have hw:cmpQ p r=IntKind.i64.wrap ((cf (p.den+1) p.num p.den r.num r.den 1).2*(cf (p.den+1) p.num p.den r.num r.den 1).1):=by
    rw [hv,Int.one_mul,← zhD]
    unfold cmpQ
    split
    ·decide
    ·split<;>decide
   rw [ea,eb] at h3
   rw [ec,ed] at h4
   refine tr (cmp_c p.num p.den r.num r.den h3 h4 (p.den+1) _ (cmpQ p r) hJ hw) (sh2 (RA_mv ea.symm eb.symm hi hj) (RA_mv ec.symm ed.symm hi2 hj2)) (LF_bk ho (zf (k:=4) rfl))
end Go.Proofs.YtccjiodohphgnaaGreatDoor
namespace Go.Proofs.YtccjiodohphgnaaGreatDoor
open Go.RowKit Go.Shelf
def pD (l:List Nat):Pred:=fun v W _=>∃A m c,v=.slice A m c∧Sl W W.heap.size A m c l
abbrev cN (x:Raw):List Pred:=[pB x.1,pD x.2]
abbrev gN (x:Raw):PSh:=.o (.g [pB x.1,pD x.2])
abbrev RR:=Raw×Raw
abbrev gR (x:RR):PSh:=.o (.g [pB x.1.1,pD x.1.2,pB x.2.1,pD x.2.2])
def rq (o:Option Rat):RR:=(nz (nO o),nz ((dO o:Nat):Int))
def qq (x:RR):Option Rat:=qX x.1 x.2
theorem ze {w0:World} {l:List Nat}:FineC (KN w0) (pD l):=by
 constructor
 ·rintro v W W' D D' S hS hO _ ⟨A,m,c,e,hs⟩
  exact ⟨A,m,c,e,(Sl.oth hS hO hs).more hO.size⟩
 ·rintro v W D ⟨A,m,c,e,_⟩
  rw [e];rfl
theorem nil_D {v:Value} {W:World} {D:Dat} (h:pV (.slice none 0 0) v W D):pD [] v W D:=⟨none,0,0,h,Sl.none_⟩
theorem zga {v:Value} {W:World} {D:Dat} (h:(PSh.o (.g [pV (.bool false),pV (.slice none 0 0),pV (.bool false),pV (.slice none 0 0)])).ok v W D):(gR (rq none)).ok v W D:=by
 obtain ⟨vs,e,h1⟩:=h
 refine ⟨vs,e,?_⟩
 have e0:rq none=((false,[]),(false,[])):=by show (nz 0,nz 0)=_;rw [zo2]
 rw [e0]
 match vs.toList,h1 with
 | [a,b,c,d],⟨h1,h2,h3,h4,_⟩=>exact ⟨h1,nil_D h2,h3,nil_D h4,trivial⟩
 | [],h=>exact h.elim
 | [_],h=>exact h.2.elim
 | [_,_],h=>exact h.2.2.elim
 | [_,_,_],h=>exact h.2.2.2.elim
 | _::_::_::_::_::_,h=>exact h.2.2.2.2.elim
theorem zqD {w0:World} (x y r:Raw) (o:Bool) (hr:nz (vO (addX x y))=r) (ho:okO (addX x y)=o):Fun (KN w0) Tryz.prog 60 [gN x,gN y] (.t [.g (cN r),.c (pB o)]):=
 zi (zhA (xs:=[x,y,r]) (es:=[.bool o]) (i:=0) (j:=1) (k:=2) (o:=.h 100) hr.symm (zf (k:=0) (congrArg Value.bool ho.symm))) (by kernel_rfl) (by kernel_rfl) rfl rfl
theorem zqE {w0:World} (x y r:Raw) (o:Bool) (hr:nz (vO (mulX x y))=r) (ho:okO (mulX x y)=o):Fun (KN w0) Tryz.prog 59 [gN x,gN y] (.t [.g (cN r),.c (pB o)]):=
 zi (zZ (xs:=[x,y,r]) (es:=[.bool o]) (i:=0) (j:=1) (k:=2) (o:=.h 100) hr.symm (zf (k:=0) (congrArg Value.bool ho.symm))) (by kernel_rfl) (by kernel_rfl) rfl rfl
theorem zbP {w0:World} (x y q r:Raw) (o:Bool) (hq:nz (dqO (divX x y))=q) (hr:nz (drO (divX x y))=r) (ho:(divX x y).isSome=o):Fun (KN w0) Tryz.prog 66 [gN x,gN y] (.t [.g (cN q),.g (cN r),.c (pB o)]):=
 zi (zlZ (xs:=[x,y,q,r]) (es:=[.bool o]) (i:=0) (j:=1) (k:=2) (k2:=3) (o:=.h 100) hq.symm hr.symm (zf (k:=0) (congrArg Value.bool ho.symm))) (by kernel_rfl) (by kernel_rfl) rfl rfl
theorem f_cmp {w0:World} (x y:Raw) (o:Int) (ho:cmpX x y=o):Fun (KN w0) Tryz.prog 33 [gN x,gN y] (.o (.c (pI o))):=
 zi (c_cmp (xs:=[x,y]) (es:=[.int .i64 o]) (i:=0) (j:=1) (o:=.h 100) (zf (k:=0) (congrArg (Value.int .i64) ho.symm))) (by kernel_rfl) (by kernel_rfl) rfl rfl
theorem q8 {w0:World} (x y:Raw) (o:Int) (ho:cmpX x y=o):Fun (KN w0) Tryz.prog 54 [gN x,gN y] (.o (.c (pI o))):=
 zi (zbj (xs:=[x,y]) (es:=[.int .i64 o]) (i:=0) (j:=1) (o:=.h 100) (zf (k:=0) (congrArg (Value.int .i64) ho.symm))) (by kernel_rfl) (by kernel_rfl) rfl rfl
theorem f_of {w0:World} (x:Int) (r:Raw) (hr:nz x=r) (h0:-9223372036854775808≤x) (h1:x<9223372036854775808):Fun (KN w0) Tryz.prog 34 [.o (.c (pI x))] (gN r):=
 zi (c_of (xs:=[r]) (es:=[.int .i64 x]) (k:=0) (a:=.h 100) (zf (k:=0) rfl) h0 h1 hr.symm) (by kernel_rfl) (by kernel_rfl) rfl rfl
theorem zcm {w0:World} (x:Int) (r:Raw) (hr:nz x=r) (h0:-9223372036854775808≤x) (h1:x<9223372036854775808):Fun (KN w0) Tryz.prog 36 [.o (.c (pI x))] (gN r):=
 zi (zn2 (xs:=[r]) (es:=[.int .i64 x]) (k:=0) (a:=.h 100) (zf (k:=0) rfl) h0 h1 hr.symm) (by kernel_rfl) (by kernel_rfl) rfl rfl
theorem qy {w0:World} (x:Int) (r:Raw) (hr:nz x=r) (h0:-9223372036854775808≤x) (h1:x<9223372036854775808):Fun (KN w0) Tryz.prog 55 [.o (.c (pI x))] (gN r):=
 zi (zbF (xs:=[r]) (es:=[.int .i64 x]) (k:=0) (a:=.h 100) (zf (k:=0) rfl) h0 h1 hr.symm) (by kernel_rfl) (by kernel_rfl) rfl rfl
theorem f_one {w0:World} (r:Raw) (hr:nz 1=r):Fun (KN w0) Tryz.prog 67 [] (gN r):=
 zi (c_one (xs:=[r]) (es:=[]) (k:=0) hr.symm) (by kernel_rfl) (by kernel_rfl) rfl rfl
theorem qO {w0:World} (x:RR) (o:Bool) (ho:rrX x.1 x.2=o):Fun (KN w0) Tryz.prog 43 [gR x] (.o (.c (pB o))):=
 zi (zP (xs:=[x.1,x.2]) (es:=[.bool o]) (i:=0) (j:=1) (o:=.h 100) (zf (k:=0) (congrArg Value.bool ho.symm))) (by kernel_rfl) (by kernel_rfl) rfl rfl
theorem qv {w0:World} (x:RR) (o:Bool) (ho:rrX x.1 x.2=o):Fun (KN w0) Tryz.prog 44 [gR x] (.o (.c (pB o))):=
 zi (zn (xs:=[x.1,x.2]) (es:=[.bool o]) (i:=0) (j:=1) (o:=.h 100) (zf (k:=0) (congrArg Value.bool ho.symm))) (by kernel_rfl) (by kernel_rfl) rfl rfl
theorem f_rof {w0:World} (x y:Raw) (r:RR) (o:Bool) (hr:rq (ofX x y)=r) (ho:(ofX x y).isSome=o):Fun (KN w0) Tryz.prog 46 [gN x,gN y] (.t [.g (cN r.1++cN r.2),.c (pB o)]):=
 zi (c_of2 (xs:=[x,y,r.1,r.2]) (es:=[.bool o]) (i:=0) (j:=1) (k:=2) (k2:=3) (o:=.h 100) (congrArg Prod.fst hr.symm) (congrArg Prod.snd hr.symm) (zf (k:=0) (congrArg Value.bool ho.symm))) (by kernel_rfl) (by kernel_rfl) rfl rfl
theorem zby {w0:World} (x y:Raw) (r:RR) (o:Bool) (hr:rq (ofX x y)=r) (ho:(ofX x y).isSome=o):Fun (KN w0) Tryz.prog 47 [gN x,gN y] (.t [.g (cN r.1++cN r.2),.c (pB o)]):=
 zi (zfj (xs:=[x,y,r.1,r.2]) (es:=[.bool o]) (i:=0) (j:=1) (k:=2) (k2:=3) (o:=.h 100) (congrArg Prod.fst hr.symm) (congrArg Prod.snd hr.symm) (zf (k:=0) (congrArg Value.bool ho.symm))) (by kernel_rfl) (by kernel_rfl) rfl rfl
theorem zao {w0:World} (x y r:RR) (o:Bool) (hr:rq (addR (qq x) (qq y))=r) (ho:(addR (qq x) (qq y)).isSome=o):Fun (KN w0) Tryz.prog 13 [gR x,gR y] (.t [.g (cN r.1++cN r.2),.c (pB o)]):=
 zi (zsO (xs:=[x.1,x.2,y.1,y.2,r.1,r.2]) (es:=[.bool o]) (i:=0) (j:=1) (i2:=2) (j2:=3) (k:=4) (k2:=5) (o:=.h 100) (congrArg Prod.fst hr.symm) (congrArg Prod.snd hr.symm) (zf (k:=0) (congrArg Value.bool ho.symm))) (by kernel_rfl) (by kernel_rfl) rfl rfl
theorem zov {w0:World} (x y r:RR) (o:Bool) (hr:rq (addR (qq x) (qq y))=r) (ho:(addR (qq x) (qq y)).isSome=o):Fun (KN w0) Tryz.prog 14 [gR x,gR y] (.t [.g (cN r.1++cN r.2),.c (pB o)]):=
 zi (zjt (xs:=[x.1,x.2,y.1,y.2,r.1,r.2]) (es:=[.bool o]) (i:=0) (j:=1) (i2:=2) (j2:=3) (k:=4) (k2:=5) (o:=.h 100) (congrArg Prod.fst hr.symm) (congrArg Prod.snd hr.symm) (zf (k:=0) (congrArg Value.bool ho.symm))) (by kernel_rfl) (by kernel_rfl) rfl rfl
theorem zcN {w0:World} (x y r:RR) (o:Bool) (hr:rq (subR (qq x) (qq y))=r) (ho:(subR (qq x) (qq y)).isSome=o):Fun (KN w0) Tryz.prog 15 [gR x,gR y] (.t [.g (cN r.1++cN r.2),.c (pB o)]):=
 zi (zwg (xs:=[x.1,x.2,y.1,y.2,r.1,r.2]) (es:=[.bool o]) (i:=0) (j:=1) (i2:=2) (j2:=3) (k:=4) (k2:=5) (o:=.h 100) (congrArg Prod.fst hr.symm) (congrArg Prod.snd hr.symm) (zf (k:=0) (congrArg Value.bool ho.symm))) (by kernel_rfl) (by kernel_rfl) rfl rfl
theorem zoz {w0:World} (x y r:RR) (o:Bool) (hr:rq (subR (qq x) (qq y))=r) (ho:(subR (qq x) (qq y)).isSome=o):Fun (KN w0) Tryz.prog 16 [gR x,gR y] (.t [.g (cN r.1++cN r.2),.c (pB o)]):=
 zi (zn5 (xs:=[x.1,x.2,y.1,y.2,r.1,r.2]) (es:=[.bool o]) (i:=0) (j:=1) (i2:=2) (j2:=3) (k:=4) (k2:=5) (o:=.h 100) (congrArg Prod.fst hr.symm) (congrArg Prod.snd hr.symm) (zf (k:=0) (congrArg Value.bool ho.symm))) (by kernel_rfl) (by kernel_rfl) rfl rfl
theorem zap {w0:World} (x y r:RR) (o:Bool) (hr:rq (mulR (qq x) (qq y))=r) (ho:(mulR (qq x) (qq y)).isSome=o):Fun (KN w0) Tryz.prog 18 [gR x,gR y] (.t [.g (cN r.1++cN r.2),.c (pB o)]):=
 zi (zwf (xs:=[x.1,x.2,y.1,y.2,r.1,r.2]) (es:=[.bool o]) (i:=0) (j:=1) (i2:=2) (j2:=3) (k:=4) (k2:=5) (o:=.h 100) (congrArg Prod.fst hr.symm) (congrArg Prod.snd hr.symm) (zf (k:=0) (congrArg Value.bool ho.symm))) (by kernel_rfl) (by kernel_rfl) rfl rfl
theorem zoy {w0:World} (x y r:RR) (o:Bool) (hr:rq (mulR (qq x) (qq y))=r) (ho:(mulR (qq x) (qq y)).isSome=o):Fun (KN w0) Tryz.prog 19 [gR x,gR y] (.t [.g (cN r.1++cN r.2),.c (pB o)]):=
 zi (zn4 (xs:=[x.1,x.2,y.1,y.2,r.1,r.2]) (es:=[.bool o]) (i:=0) (j:=1) (i2:=2) (j2:=3) (k:=4) (k2:=5) (o:=.h 100) (congrArg Prod.fst hr.symm) (congrArg Prod.snd hr.symm) (zf (k:=0) (congrArg Value.bool ho.symm))) (by kernel_rfl) (by kernel_rfl) rfl rfl
theorem zcD {w0:World} (x y r:RR) (o:Bool) (hr:rq (divR (qq x) (qq y))=r) (ho:(divR (qq x) (qq y)).isSome=o):Fun (KN w0) Tryz.prog 20 [gR x,gR y] (.t [.g (cN r.1++cN r.2),.c (pB o)]):=
 zi (zwe (xs:=[x.1,x.2,y.1,y.2,r.1,r.2]) (es:=[.bool o]) (i:=0) (j:=1) (i2:=2) (j2:=3) (k:=4) (k2:=5) (o:=.h 100) (congrArg Prod.fst hr.symm) (congrArg Prod.snd hr.symm) (zf (k:=0) (congrArg Value.bool ho.symm))) (by kernel_rfl) (by kernel_rfl) rfl rfl
theorem zox {w0:World} (x y r:RR) (o:Bool) (hr:rq (divR (qq x) (qq y))=r) (ho:(divR (qq x) (qq y)).isSome=o):Fun (KN w0) Tryz.prog 21 [gR x,gR y] (.t [.g (cN r.1++cN r.2),.c (pB o)]):=
 zi (zn3 (xs:=[x.1,x.2,y.1,y.2,r.1,r.2]) (es:=[.bool o]) (i:=0) (j:=1) (i2:=2) (j2:=3) (k:=4) (k2:=5) (o:=.h 100) (congrArg Prod.fst hr.symm) (congrArg Prod.snd hr.symm) (zf (k:=0) (congrArg Value.bool ho.symm))) (by kernel_rfl) (by kernel_rfl) rfl rfl
theorem zS {w0:World} (x y:RR) (o:Int) (ho:cmpO (qq x) (qq y)=o):Fun (KN w0) Tryz.prog 22 [gR x,gR y] (.o (.c (pI o))):=
 zi (zwd (xs:=[x.1,x.2,y.1,y.2]) (es:=[.int .i64 o]) (i:=0) (j:=1) (i2:=2) (j2:=3) (o:=.h 100) (zf (k:=0) (congrArg (Value.int .i64) ho.symm))) (by kernel_rfl) (by kernel_rfl) rfl rfl
theorem qS {w0:World} (x:RR) (o:Int) (ho:sgX x.1 x.2=o):Fun (KN w0) Tryz.prog 26 [gR x] (.o (.c (pI o))):=
 zi (zkX (xs:=[x.1,x.2]) (es:=[.int .i64 o]) (i:=0) (j:=1) (o:=.h 100) (zf (k:=0) (congrArg (Value.int .i64) ho.symm))) (by kernel_rfl) (by kernel_rfl) rfl rfl
theorem zb7 {w0:World} (x:RR) (o:Int) (ho:sgX x.1 x.2=o):Fun (KN w0) Tryz.prog 45 [gR x] (.o (.c (pI o))):=
 zi (zcH (xs:=[x.1,x.2]) (es:=[.int .i64 o]) (i:=0) (j:=1) (o:=.h 100) (zf (k:=0) (congrArg (Value.int .i64) ho.symm))) (by kernel_rfl) (by kernel_rfl) rfl rfl
theorem za6 {w0:World} (x:RR) (n:Int) (o:Bool) (hn:vO (flX x.1 x.2)=n) (ho:okO (flX x.1 x.2)=o):Fun (KN w0) Tryz.prog 39 [gR x] (.t [.c (pI n),.c (pB o)]):=
 zi (zqh (xs:=[x.1,x.2]) (es:=[.int .i64 n,.bool o]) (i:=0) (j:=1) (o:=.h 100) (o2:=.h 101) (zf (k:=0) (congrArg (Value.int .i64) hn.symm)) (zf (k:=1) (congrArg Value.bool ho.symm))) (by kernel_rfl) (by kernel_rfl) rfl rfl
theorem zbH {w0:World} (x:RR) (n:Int) (o:Bool) (hn:vO (flX x.1 x.2)=n) (ho:okO (flX x.1 x.2)=o):Fun (KN w0) Tryz.prog 40 [gR x] (.t [.c (pI n),.c (pB o)]):=
 zi (zmG (xs:=[x.1,x.2]) (es:=[.int .i64 n,.bool o]) (i:=0) (j:=1) (o:=.h 100) (o2:=.h 101) (zf (k:=0) (congrArg (Value.int .i64) hn.symm)) (zf (k:=1) (congrArg Value.bool ho.symm))) (by kernel_rfl) (by kernel_rfl) rfl rfl
theorem zb0 {w0:World} (x:RR) (n:Int) (o:Bool) (hn:vO (ceX x.1 x.2)=n) (ho:okO (ceX x.1 x.2)=o):Fun (KN w0) Tryz.prog 41 [gR x] (.t [.c (pI n),.c (pB o)]):=
 zi (ztr (xs:=[x.1,x.2]) (es:=[.int .i64 n,.bool o]) (i:=0) (j:=1) (o:=.h 100) (o2:=.h 101) (zf (k:=0) (congrArg (Value.int .i64) hn.symm)) (zf (k:=1) (congrArg Value.bool ho.symm))) (by kernel_rfl) (by kernel_rfl) rfl rfl
theorem zb6 {w0:World} (x:RR) (n:Int) (o:Bool) (hn:vO (ceX x.1 x.2)=n) (ho:okO (ceX x.1 x.2)=o):Fun (KN w0) Tryz.prog 42 [gR x] (.t [.c (pI n),.c (pB o)]):=
 zi (zn1 (xs:=[x.1,x.2]) (es:=[.int .i64 n,.bool o]) (i:=0) (j:=1) (o:=.h 100) (o2:=.h 101) (zf (k:=0) (congrArg (Value.int .i64) hn.symm)) (zf (k:=1) (congrArg Value.bool ho.symm))) (by kernel_rfl) (by kernel_rfl) rfl rfl
theorem zoD {w0:World} (hT:∀W,Below w0.heap.size w0 W→PowT w0.heap.size W) (x:Raw) (t:List UInt8) (ht:textS x.1 x.2=t):Fun (KN w0) Tryz.prog 68 [gN x] (.o (.c (pS t))):=
 zi (zwh (xs:=[x]) (es:=[.string ⟨t.toArray⟩]) (i:=0) (o:=.h 100) hT (zf (k:=0) (by rw [← ht];rfl))) (by kernel_rfl) (by kernel_rfl) rfl rfl
theorem qR {w0:World} (hT:∀W,Below w0.heap.size w0 W→PowT w0.heap.size W∧SynT w0.heap.size W) (s:List UInt8) (r:Raw) (o:Bool) (hr:nz (vO (zk s))=r) (ho:okO (zk s)=o):Fun (KN w0) Tryz.prog 70 [.o (.c (pS s))] (.t [.g (cN r),.c (pB o)]):=
 zi (ztq (xs:=[r]) (es:=[.string ⟨s.toArray⟩,.bool o]) (k:=0) (a:=.h 100) (o:=.h 101) hT (zf (k:=0) rfl) hr.symm (zf (k:=1) (congrArg Value.bool ho.symm))) (by kernel_rfl) (by kernel_rfl) rfl rfl
end Go.Proofs.YtccjiodohphgnaaGreatDoor
