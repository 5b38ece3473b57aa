/-
  Merged: PlOp, PbF, PbG, PbH, PbI, PbJ, PbK.
-/
import Derived.Test.YteimplkdcjapdaaGreatDoorMpA
import Derived.Test.YteimplkdcjapdaaGreatDoorMpU
import Derived.SizedLaws
import Derived.OpenShut
import Derived.Carry
import Derived.LaidMore
import Derived.Lay
import Derived.Stop.Joined
import Derived.Stop.LaidErr
import Derived.LaidLaws
import Derived.Lib.LaidTab
import Derived.Lib.AppendIntMem
import Derived.Lib.SmallJoins
import Derived.ChangeMaps5
set_option linter.unusedSimpArgs false
set_option linter.unusedVariables false
set_option maxRecDepth 100000
set_option maxHeartbeats 2000000
namespace Go.Proofs.YteimplkdcjapdaaGreatDoor
open Go.ChangeShapes Go.WideShapes Go.ChangeAt Go.RowKit Go.Joins Go.Deep
def old (W:World):Dat:=fun q=>q<W.heap.size
theorem zpL {W:World} {f:FuncId} {sh:List PSh} {args:Array Value} (hF:Fun (KN W) Tryz.prog f sh (.o (.c (pV (.bool true))))) (hs:oka sh args.toList W (old W)) :
  Calls Tryz.prog f args W fun e W'=>e=.returned (.bool true)∧Below W.heap.size W W':=by
 have:=hF W (old W) args.toList hs ⟨Below.refl _ _,fun q h=>h,fun q h=>h⟩
 rw [Array.toArray_toList] at this
 refine this.mono fun e W' hr=>?_
 obtain ⟨v,D',rfl,hv,hk⟩:=hr
 have hv':v=.bool true:=hv
 subst hv'
 exact ⟨rfl,hk.bel⟩
section
variable {H:Type} {enc:TypeId×Value→H}
theorem zmQ {a:Assume} {C:Checked} {os:Os} {f:FuncId} {fn:Func} {s:ChangeSpec} {conds:List PathCond} {apart fresh handsOn again:Bool} {X:World→Array Value→Prop}
  (hX:∀(w w':World) (args:Array Value),w.heap=w'.heap→X w args→X w' args)
  (own:ownKnob C.prog.godebug=none) (started:os.Started) (noInit:C.prog.inits.idxOf? f=none) (hfn:C.prog.funcs[f]?=some fn)
  (witness:∃(w:World) (tape:Tape) (i:Input),w.os=os∧(w.forCall tape i).Shaped C.prog∧i.vars=[]∧Input.okWide C.prog (w.forCall tape i) .any w.heap.size f i ∧
   ((s.pre enc C.prog fn conds apart (w.forCall tape i).memory i.args∧X (w.forCall tape i).memory i.args)∧sizedMet enc C.prog fn (OpenSpec.ofChange s) apart (w.forCall tape i).memory i.args)∧a.holds C.prog (lone (Frame.enter C.prog f i.args .normal) [] (w.forCall tape i)))
  (contract:∀(W:World) (base:Nat) (args:Array Value) (ds gs:List (DataW H)) (before:List MemPlace),
   (∀(j:Nat) t v,fn.params[j]?=some t→args[j]?=some v→Value.okWide C.prog W .any base t v) →
   DataW.Whole enc C.prog fn.params.toList s.vars apart W args.toList ds gs before→X W args →
   (∀(j:Nat) t d,fn.params.toList[j]?=some t→ds[j]?=some d→∀n∈d.weights C.prog t,n≤reachBytes)→W.ShapedOpen C.prog →
   Calls C.prog f args W fun e W'=>∃v,e=.returned v∧s.post enc C.prog fn apart fresh handsOn again W args v W') :
  ReturnsInHanded a C os f .any (fun w args=>(s.pre enc C.prog fn conds apart w args∧X w args)∧sizedMet enc C.prog fn (OpenSpec.ofChange s) apart w args) (s.post enc C.prog fn apart fresh handsOn again):=by
 refine returnsInHanded_of_calls own started noInit witness ?_
 intro w tape i _ hsh _ hok hpre _
 obtain ⟨_,_,_,fn',hfn',_,_,_,_,hval⟩:=hok
 have e:fn'=fn:=Option.some.inj (hfn'.symm.trans hfn)
 subst e
 obtain ⟨⟨⟨ds,gs,before,hw,_⟩,hx⟩,hz⟩:=hpre
 have hw':=DataW.Whole.of_heap (w':=w.forCall tape i) (by rfl) hw
 refine (contract (w.forCall tape i) w.heap.size i.args ds gs before hval hw' (hX _ _ _ (by rfl) hx) ?_ hsh).mono fun e W' ⟨v,he,hp⟩=>?_
 ·intro j t d ht hd n hn
  have:=List.all_eq_true.1 (hz.weights hw) _ (DataW.weights_mem_each (j:=j) (by
   rw [List.getElem?_append_left (List.getElem?_eq_some_iff.1 ht).1];exact ht) (by
   rw [List.getElem?_append_left (List.getElem?_eq_some_iff.1 hd).1];exact hd) n hn)
  simpa using this
 ·subst he
  exact ChangeSpec.post_blind hp
end
theorem zb4:Tryz.prog.cellsOf 3=1:=by kernel_rfl
theorem zpw:Tryz.prog.cellsOf 9=1:=by kernel_rfl
theorem zeS {P:Program} {w:World} {r:Reach} {b0:Nat} {fs:Array Field} {t:TypeId} {v:Value} (ht:P.underlying t=some (.struct fs)) (h:Value.okWide P w r b0 t v):∃cs,v=.agg cs∧cs.size=P.cellsOf t:=by
 simp only [Value.okWide,ht] at h
 obtain ⟨cs,h1,h2,_⟩:=h
 exact ⟨cs,h1,h2⟩
section
variable {H:Type} {enc:TypeId×Value→H} {held:Bool} {w:World} {base:Nat} {v:Value} {d:DataW H} {p:List MemPlace}
def Opens (enc:TypeId×Value→H) (held:Bool) (w:World) (e:TypeId) {α:Type} (c:α→List Pred) (ok:DataW H→α→Prop):Prop:=
 ∀(fuel:Nat) (cs:List Value) (y:DataW H×List MemPlace),DataW.trod enc Tryz.prog w 0 (fun _=>true) held fuel e cs=some y→∃x:α,ok y.1 x∧okl (c x) cs w (old w)
theorem zcC {t:TypeId} {k:IntKind} (ht:Tryz.prog.underlying t=some (.int k)):Opens enc held w t (fun n:Int=>[pV (.int k n)]) (fun d n=>d=.lit (.int k n)∧(Lit.int k n).wf=true):=by
 intro fuel cs y h
 obtain ⟨n,rfl,rfl,hw⟩:=DataW.trod_int ht h
 exact ⟨n,⟨rfl,hw⟩,rfl,trivial⟩
theorem zri {t:TypeId} (ht:Tryz.prog.underlying t=some .string):Opens enc held w t (fun s:List UInt8=>[pS s]) (fun d s=>d=.lit (.string s)∧s.length≤maxLen):=by
 intro fuel cs y h
 obtain ⟨s,rfl,rfl,hw⟩:=DataW.trod_string ht h
 exact ⟨s.data.toList,⟨rfl,hw⟩,rfl,trivial⟩
theorem znO {W:World} {D:Dat} {ps qs:List Pred} {vs:List Value} {k:Nat} (h:okp ps vs W D) (hk:ps.length=k) (h2:okl qs ((vs.drop k).take qs.length) W D):okp (ps++qs) vs W D:=by
 subst hk
 unfold okp at h ⊢
 rw [List.length_append,List.take_add]
 exact qN h h2
theorem znN {W:World} {D:Dat} {ps:List Pred} {vs us:List Value} (h:okl ps us W D) (he:∀i,i<ps.length→vs[i]?=us[i]?):okl ps (vs.take ps.length) W D:=by
 have hl:=zR h
 have e:vs.take ps.length=us:=by
  apply List.ext_getElem?
  intro i
  rw [List.getElem?_take]
  split
  ·exact he i ‹_›
  ·rw [List.getElem?_eq_none (by omega)]
 rw [e];exact h
theorem qx {W:World} {D:Dat} {ps qs:List Pred} {cs:List Value} {o z:Nat} (h:okl ps (cs.take o) W D) (h2:okl qs ((cs.drop o).take z) W D):okl (ps++qs) (cs.take (o+z)) W D:=by
 rw [List.take_add];exact qN h h2
inductive F2 {α β:Type} (R:α→β→Prop):List α→List β→Prop
 | nil:F2 R [] []
 | cons {a b l k}:R a b→F2 R l k→F2 R (a::l) (b::k)
def SlOk {α:Type} (ok:DataW H→α→Prop) (d:DataW H) (l:List α):Prop:=
 ((d=.nil∧l=[])∨∃ds sp,d=.slice ds sp∧F2 ok ds l)∧l.length≤maxLen
theorem zaE {α β:Type} {R:α→β→Prop}:∀{l:List α} {k:List β} {a:α} {b:β},F2 R l k→R a b→F2 R (l++[a]) (k++[b])
 | [],[],_,_,_,h=>.cons h .nil
 | _::_,_::_,_,_,.cons h1 h2,h=>.cons h1 (zaE h2 h)
theorem znR {t e:TypeId} {α:Type} {c:α→List Pred} {ok:DataW H→α→Prop} {z:Nat} (ht:Tryz.prog.underlying t=some (.slice e)) (hc:Tryz.prog.cellsOf e=z) (h0:0<z) (hz:∀x,(c x).length=z) (he:Opens enc held w e c ok) :
  Opens enc held w t (fun l:List α=>[pLs c l]) (SlOk ok):=by
 intro fuel cs y h
 rcases DataW.trod_slice ht h with ⟨rfl,rfl⟩ | ⟨a,len,cap,elems,rest,n,_,rfl,rfl,_,hl,hm,hlen,hel,_,_⟩
 ·exact ⟨[],⟨.inl ⟨rfl,rfl⟩,Nat.zero_le _⟩,.inl ⟨⟨_,_,rfl⟩,rfl,rfl⟩,trivial⟩
 rw [hc] at hel
 have each:∀i (hi:i<elems.length),∃(x:α) (us:List Value),ok elems[i].1 x∧okl (c x) us w (old w)∧∀j,j<z→w.cell? ((a.add (i*z)).add j)=us[j]?:=by
  intro i hi
  have h1:=hel i (by omega)
  rw [List.getElem?_eq_getElem hi,Option.bind_eq_some_iff] at h1
  obtain ⟨us,hus,h2⟩:=h1
  obtain ⟨x,hx,hok⟩:=he n us _ h2
  obtain ⟨_,hul,hcell⟩:=World.cells?_some hus
  exact ⟨x,us,hx,hok,fun j hj=>hcell j hj⟩
 rcases Nat.eq_zero_or_pos len with h00 | h00
 ·subst h00
  have e0:elems=[]:=List.eq_nil_of_length_eq_zero hlen
  subst e0
  exact ⟨[],⟨.inr ⟨_,_,rfl,.nil⟩,Nat.zero_le _⟩,.inl ⟨⟨_,_,rfl⟩,rfl,rfl⟩,trivial⟩
 obtain ⟨q,o,sp⟩:=a
 obtain ⟨x0,us0,_,ho0,hc0⟩:=each 0 (by omega)
 have hl0:=zR ho0
 rw [hz] at hl0
 have h1:w.cell? ⟨q,o,sp⟩=some us0[0]:=by
  have:=hc0 0 h0
  rw [List.getElem?_eq_getElem (by omega)] at this
  simpa [Addr.add] using this
 have hsp:sp=none:=by
  cases sp with
  | none=>rfl
  | some x =>
   unfold World.cell? at h1
   dsimp only at h1
   split at h1<;>simp at h1
 subst hsp
 have hblk:∃vs T fz,w.heap[q]?=some (.cells vs T fz):=by
  unfold World.cell? at h1
  dsimp only at h1
  split at h1
  ·rename_i cs T fz hh
   exact ⟨cs,T,fz,hh⟩
  ·cases h1
 obtain ⟨vs,T,fz,hh⟩:=hblk
 have hq:q<w.heap.size:=(Array.getElem?_eq_some_iff.1 hh).1
 have hcell:∀i j,(⟨q,o,none⟩:Addr).add i=⟨q,o+i,none⟩∧w.cell? (((⟨q,o,none⟩:Addr).add i).add j)=vs.toList[o+i+j]?:=by
  intro i j
  rw [show (⟨q,o,none⟩:Addr).add i=⟨q,o+i,none⟩ from zac ..,show (⟨q,o+i,none⟩:Addr).add j=⟨q,o+i+j,none⟩ from zac ..,zo hh]
  exact ⟨rfl,by rw [Array.getElem?_toList]⟩
 have build:∀m,m≤elems.length→∃l:List α,l.length=m∧F2 ok ((elems.map (·.1)).take m) l∧okp (l.flatMap c) (vs.toList.drop o) w (old w):=by
  intro m
  induction m with
  | zero=>intro _;exact ⟨[],rfl,by rw [List.take_zero];exact .nil,trivial⟩
  | succ m ih =>
   intro hm1
   obtain ⟨l,h2,h3,h4⟩:=ih (by omega)
   obtain ⟨x,us,hx,hok,hcl⟩:=each m (by omega)
   refine ⟨l++[x],by rw [List.length_append,h2];rfl,?_,?_⟩
   ·rw [List.take_add_one,List.getElem?_map,List.getElem?_eq_getElem (by omega)]
    exact zaE h3 hx
   ·rw [List.flatMap_append,List.flatMap_cons,List.flatMap_nil,List.append_nil]
    refine znO (k:=m*z) h4 (by rw [qH hz,h2]) (znN hok fun i hi=>?_)
    rw [hz] at hi
    rw [List.drop_drop,List.getElem?_drop,← hcl i hi,(hcell (m*z) i).2]
 obtain ⟨l,h2,h3,h4⟩:=build elems.length (Nat.le_refl _)
 rw [List.take_of_length_le (by simp)] at h3
 exact ⟨l,⟨.inr ⟨_,_,rfl,h3⟩,by omega⟩,.inr ⟨q,o,cap,T,vs,fz,by rw [h2,hlen],hq,hh,h4,by omega⟩,trivial⟩
theorem qI {e:TypeId} {α:Type} {c:α→List Pred} {ok:DataW H→α→Prop} {n o z i:Nat} {cs:List Value} {xs:List (DataW H×List MemPlace)} (he:Opens enc held w e c ok) (hz:Tryz.prog.cellsOf e=z) (h:DataW.trod enc Tryz.prog w 0 (fun _=>true) held n e ((cs.drop o).take (Tryz.prog.cellsOf e))=xs[i]?) (hi:i<xs.length) :
  ∃x,ok xs[i].1 x∧okl (c x) ((cs.drop o).take z) w (old w):=by
 rw [List.getElem?_eq_getElem hi,hz] at h
 exact he _ _ _ h
theorem znU {t:TypeId} {α:Type} {c:α→Pred} {ok:DataW H→α→Prop} (h:Opens enc held w t (fun x=>[c x]) ok) (h1:v.cells=#[v]) (hd:DataW.Trod enc Tryz.prog w 0 (fun _=>true) held t v d p):∃x,ok d x∧c x v w (old w):=by
 obtain ⟨fuel,hf⟩:=hd
 rw [h1] at hf
 obtain ⟨x,hx,ho⟩:=h _ _ _ hf
 exact ⟨x,hx,ho.1⟩
theorem znT {t:TypeId} {α:Type} {c:α→List Pred} {ok:DataW H→α→Prop} {cs:Array Value} (h:Opens enc held w t c ok) (hd:DataW.Trod enc Tryz.prog w 0 (fun _=>true) held t (.agg cs) d p):∃x,ok d x∧(PSh.o (.g (c x))).ok (.agg cs) w (old w):=by
 obtain ⟨fuel,hf⟩:=hd
 obtain ⟨x,hx,ho⟩:=h _ _ _ hf
 exact ⟨x,hx,_,rfl,ho⟩
end
section
variable {H:Type} {enc:TypeId×Value→H} {held:Bool} {w:World} {base:Nat} {v:Value} {d:DataW H} {p:List MemPlace}
theorem zrj:Opens enc held w 26 (fun x:Vec=>[pI x.1,pI x.2.1,pI x.2.2]) (fun _ _=>True):=by
 intro fuel cs y h
 obtain ⟨xs,n,_,rfl,hl,hlen,hf⟩:=DataW.trod_struct Tryz.underlying26 h
 rw [show Tryz.prog.cellsOf 26=3 by kernel_rfl] at hl
 have hlen2:xs.length=3:=hlen
 match xs,hlen2 with
 | [y0,y1,y2],_ =>
 obtain ⟨a,_,oa⟩:=qI (z:=1) (zcC Tryz.underlying3) zb4 (hf 0 _ rfl) (by simp)
 obtain ⟨b,_,ob⟩:=qI (z:=1) (zcC Tryz.underlying3) zb4 (hf 1 _ rfl) (by simp)
 obtain ⟨c,_,oc⟩:=qI (z:=1) (zcC Tryz.underlying3) zb4 (hf 2 _ rfl) (by simp)
 refine ⟨(a,b,c),trivial,?_⟩
 have:=qx (z:=1) (qx (z:=1) (qx (z:=1) (ps:=[]) (o:=0) trivial oa) ob) oc
 rw [List.take_of_length_le (by omega)] at this
 exact this
theorem zpW:Opens enc held w 76 cTn (fun _ x=>(0≤x.1∧x.1<256)∧0≤x.2∧x.2<256):=by
 intro fuel cs y h
 obtain ⟨xs,n,_,rfl,hl,hlen,hf⟩:=DataW.trod_struct Tryz.underlying76 h
 rw [show Tryz.prog.cellsOf 76=2 by kernel_rfl] at hl
 have hlen2:xs.length=2:=hlen
 match xs,hlen2 with
 | [y0,y1],_ =>
 obtain ⟨a,ha,oa⟩:=qI (z:=1) (zcC Tryz.underlying5) (by kernel_rfl) (hf 0 _ rfl) (by simp)
 obtain ⟨b,hb,ob⟩:=qI (z:=1) (zcC Tryz.underlying5) (by kernel_rfl) (hf 1 _ rfl) (by simp)
 have h1:=bounds_u8 ha.2
 have h2:=bounds_u8 hb.2
 refine ⟨(a,b),⟨⟨h1.1,by omega⟩,h2.1,by omega⟩,?_⟩
 have:=qx (z:=1) (qx (z:=1) (ps:=[]) (o:=0) trivial oa) ob
 rw [List.take_of_length_le (by omega)] at this
 exact this
theorem znS:Opens enc held w 69 (fun l:List (Int×Int)=>[pLs cTn l]) (SlOk fun _ x=>(0≤x.1∧x.1<256)∧0≤x.2∧x.2<256):=znR (z:=2) Tryz.underlying69 (by kernel_rfl) (by decide) (fun _=>rfl) zpW
theorem zoL {α β:Type} {R:α→β→Prop} {Q:β→Prop} (h:∀a b,R a b→Q b):∀{l:List α} {k:List β},F2 R l k→∀b∈k,Q b
 | [],[],_,_,hb=>by cases hb
 | _::_,_::_,.cons h1 h2,b,hb=>by
  rcases List.mem_cons.1 hb with rfl | hb
  ·exact h _ _ h1
  ·exact zoL h h2 b hb
theorem zrw {α:Type} {ok:DataW H→α→Prop} {Q:α→Prop} (h:∀a b,ok a b→Q b) {l:List α} (hs:SlOk ok d l):∀x∈l,Q x:=by
 rcases hs.1 with ⟨_,rfl⟩ | ⟨ds,sp,rfl,hf⟩
 ·intro x hx;cases hx
 ·exact zoL h hf
theorem zrx {α:Type} {ok:DataW H→α→Prop} {l:List α} (hs:SlOk ok d l):l.length<9223372036854775808:=by
 have:=hs.2
 unfold maxLen at this
 omega
theorem zrh {t e:TypeId} {α:Type} {c:α→List Pred} {ok:DataW H→α→Prop} {n z:Nat} (ht:Tryz.prog.underlying t=some (.array n e)) (hc:Tryz.prog.cellsOf e=z) (hct:Tryz.prog.cellsOf t=n*z) (he:Opens enc held w e c ok) :
  Opens enc held w t (fun l:List α=>l.flatMap c) (fun d l=>l.length=n∧∃ds,d=.agg ds∧F2 ok ds l):=by
 intro fuel cs y h
 obtain ⟨xs,m,_,rfl,hl,hlen,hf⟩:=DataW.trod_array ht h
 rw [hct] at hl
 rw [hc] at hf
 have build:∀k,k≤n→∃l:List α,l.length=k∧F2 ok ((xs.map (·.1)).take k) l∧okl (l.flatMap c) (cs.take (k*z)) w (old w):=by
  intro k
  induction k with
  | zero=>intro _;exact ⟨[],rfl,by rw [List.take_zero];exact .nil,by rw [Nat.zero_mul,List.take_zero];trivial⟩
  | succ k ih =>
   intro hk
   obtain ⟨l,h2,h3,h4⟩:=ih (by omega)
   have hx:=hf k (by omega)
   rw [List.getElem?_eq_getElem (by omega)] at hx
   obtain ⟨x,hok,ho⟩:=he _ _ _ hx
   refine ⟨l++[x],by rw [List.length_append,h2];rfl,?_,?_⟩
   ·rw [List.take_add_one,List.getElem?_map,List.getElem?_eq_getElem (by omega)]
    exact zaE h3 hok
   ·rw [List.flatMap_append,List.flatMap_cons,List.flatMap_nil,List.append_nil,Nat.succ_mul]
    exact qx h4 ho
 obtain ⟨l,h2,h3,h4⟩:=build n (Nat.le_refl _)
 rw [List.take_of_length_le (by simp;omega)] at h3
 rw [List.take_of_length_le (by omega)] at h4
 exact ⟨l,⟨h2,_,rfl,h3⟩,h4⟩
theorem zpV:Opens enc held w 162 cFm (fun d x=>d=.agg [.lit (.int .i64 x.1),.lit (.int .i64 x.2.1),.lit (.string x.2.2.1),.lit (.int .i64 x.2.2.2)]):=by
 intro fuel cs y h
 obtain ⟨xs,n,_,rfl,hl,hlen,hf⟩:=DataW.trod_struct Tryz.underlying162 h
 rw [show Tryz.prog.cellsOf 162=4 by kernel_rfl] at hl
 have hlen2:xs.length=4:=hlen
 match xs,hlen2 with
 | [y0,y1,y2,y3],_ =>
 obtain ⟨a,ha,oa⟩:=qI (z:=1) (zcC Tryz.underlying3) zb4 (hf 0 _ rfl) (by simp)
 obtain ⟨b,hb,ob⟩:=qI (z:=1) (zcC Tryz.underlying3) zb4 (hf 1 _ rfl) (by simp)
 obtain ⟨c,hc,oc⟩:=qI (z:=1) (zri Tryz.underlying9) zpw (hf 2 _ rfl) (by simp)
 obtain ⟨e,he,oe⟩:=qI (z:=1) (zcC Tryz.underlying3) zb4 (hf 3 _ rfl) (by simp)
 have ha':y0.1=.lit (.int .i64 a):=ha.1
 have hb':y1.1=.lit (.int .i64 b):=hb.1
 have hc':y2.1=.lit (.string c):=hc.1
 have he':y3.1=.lit (.int .i64 e):=he.1
 refine ⟨(a,b,c,e),?_,?_⟩
 ·simp [ha',hb',hc',he']
 have:=qx (z:=1) (qx (z:=1) (qx (z:=1) (qx (z:=1) (ps:=[]) (o:=0) trivial oa) ob) oc) oe
 rw [List.take_of_length_le (by omega)] at this
 exact this
theorem znQ:Opens enc held w 163 (fun l:List Frmt=>l.flatMap cFm) (fun d l=>l.length=7∧∃ds,d=.agg ds∧F2 (fun d x=>d=.agg [.lit (.int .i64 x.1),.lit (.int .i64 x.2.1),.lit (.string x.2.2.1),.lit (.int .i64 x.2.2.2)]) ds l):=zrh (n:=7) (z:=4) Tryz.underlying163 (by kernel_rfl) (by kernel_rfl) zpV
end
def laidL : List (String × DataW Unit) := [("unicode/utf8.acceptRanges", Rows.laid_unicode_utf8_acceptRanges), ("collet/program.forms", Rows.laid_collet_program_forms), ("unicode/utf8.first", Rows.laid_unicode_utf8_first)]
theorem gFms : Tryz.prog.globalNamed "collet/program.forms" = some 0 := by kernel_rfl
theorem tFms:(Tryz.prog.globals[0]?).map (·.type)=some 163:=by kernel_rfl
theorem znE {W:World} (h:W.ShapedOpen Tryz.prog):∃m,W.cell? ⟨1,0,none⟩=some (.int .i64 m):=by
 obtain ⟨m,hm⟩:=Tryz.laysM219.s1_3 W h
 exact ⟨m,hm⟩
theorem znA {W:World} (hW:W.ShapedOpen Tryz.prog) (h:laidMetH Tryz.prog laidL W):LibP W:=by
 rw [MakeChecks.laidMetH_plain _ _ _ (by kernel_rfl)] at h
 refine ⟨znE hW,?_⟩
 obtain ⟨ps,⟨g0,t0,cs0,f0,p0,q0,hg0,ht0,hv0,hd0,_,e0⟩,_,_⟩:=h.tail
 obtain rfl:=Option.some.inj (gFms.symm.trans hg0)
 obtain rfl:=Option.some.inj (tFms.symm.trans ht0)
 obtain ⟨l,hl,ho⟩:=znQ _ _ _ hd0
 have e:l=ze:=by
  obtain ⟨_,ds,h1,hf⟩:=hl
  simp only [Rows.laid_collet_program_forms,DataW.agg.injEq] at h1
  subst h1
  match l,hf with
  | [a,b,c,d,e,f,g],.cons h1 (.cons h2 (.cons h3 (.cons h4 (.cons h5 (.cons h6 (.cons h7 .nil)))))) =>
   obtain ⟨a1,a2,a3,a4⟩:=a
   obtain ⟨b1,b2,b3,b4⟩:=b
   obtain ⟨c1,c2,c3,c4⟩:=c
   obtain ⟨d1,d2,d3,d4⟩:=d
   obtain ⟨e1,e2,e3,e4⟩:=e
   obtain ⟨f1,f2,f3,f4⟩:=f
   obtain ⟨g1,g2,g3,g4⟩:=g
   simp at h1 h2 h3 h4 h5 h6 h7
   obtain ⟨rfl,rfl,rfl,rfl⟩:=h1
   obtain ⟨rfl,rfl,rfl,rfl⟩:=h2
   obtain ⟨rfl,rfl,rfl,rfl⟩:=h3
   obtain ⟨rfl,rfl,rfl,rfl⟩:=h4
   obtain ⟨rfl,rfl,rfl,rfl⟩:=h5
   obtain ⟨rfl,rfl,rfl,rfl⟩:=h6
   obtain ⟨rfl,rfl,rfl,rfl⟩:=h7
   rfl
 subst e
 have hlen:=zR ho
 have hz:(ze.flatMap cFm).length=28:=by decide
 simp only [World.var?,gFms,Option.bind_some] at hv0
 split at hv0
 ·rename_i vs T fz hh
  obtain rfl:=Option.some.inj hv0
  refine .inr ⟨0,0,7,T,vs,fz,rfl,(Array.getElem?_eq_some_iff.1 hh).1,hh,?_,by decide⟩
  unfold okp
  rw [List.drop_zero,← hlen,List.take_length]
  exact ho
 ·cases hv0
theorem znm (os:Os) (args:Array Value):laidMetH Tryz.prog laidL ((World.laidAll Tryz.prog os laidL).forCall (fun _ _=>0) ⟨#[],args,[]⟩).memory:=by
 rw [MakeChecks.laidMetH_plain _ _ _ (by kernel_rfl)]
 exact laidMet_laidAll _ (by kernel_rfl) (by kernel_rfl)
end Go.Proofs.YteimplkdcjapdaaGreatDoor
namespace Go.Proofs.YteimplkdcjapdaaGreatDoor
open Go.RowKit
def zgS:List Atom:=[.sl 0 0,.sl 6 (.o (.c (.k (.slice none 0 0)))),.sl 7 (.o (.c (.gr 4))),.sl 8 7,.gl 4 62 4 1]
def bsA_S:LoopS:=⟨3,zgS.map (tnA (jf (hZ 7 [kI 1])) (kf [0,0]) (kf [])),(.x 0),(drs [3] zgS)⟩
def bsA_t:Tr:=.s [(6002,.ln 35 3 0),(6003,.bin .lss 3 7 8)] (.b 9 (.s [(6007,.ia 35 26 3 0 7),(6008,.ld 26 3 10),(6010,.call 29 [.o (.g [11,12,13]),7] (.o (.g 4))),(0,.raw [(1006011,.dat 62 1 [.h 14,.h 15,.h 16,.h 17] 18)] 1),(0,.raw [(1006012,.app 62 4 4 1 2 18 [] false)] 0),(6015,.bin .add 3 7 (kI 1))] (.z (.nx (hZ 7 [19]) [0,2] []))) (.z (.xt (.x 0) (hZ 7 []) [0,1] [])))
theorem zqK {w0:World} (pts:(List Vec)) (side:Int) (n:Int) (v1:Stm) (o2:(List Stm)) (hl:1≤pts.length∧pts.length≤1000) (hO:(([v1]:List Stm))++qS 1 (pts.drop 1)=o2):LpH (KN w0) Tryz.prog 35 ⟨ntOf Tryz.prog 35,[],[]⟩ bsA_S 0 ⟨7,[.ls 3 cE kE v1.2.2.2,sS v1.2.2.1,sI v1.2.1,sI v1.1,sI n,sI side,.ls 3 cV kV pts],[pG cSt ([v1]:List Stm),pG cSt o2],[]⟩:=by
 refine zq _ ⟨zgS,bsA_S,(8,2,0),(7,2,0),6000⟩ (T:=Int×(List Stm)) (fun t=>⟨8,[sI t.1,.ls 3 cE kE v1.2.2.2,sS v1.2.2.1,sI v1.2.1,sI v1.1,sI n,sI side,.ls 3 cV kV pts],[pG cSt ([v1]:List Stm),pG cSt t.2],[]⟩) (fun (i,o)=>∃k:Nat,i=(k:Int)∧1≤k∧k≤pts.length∧o.length=k∧o++qS i (pts.drop k)=o2) (fun (i,o)=>((pts.length:Int) - i).toNat) ((1:Int),([v1]:List Stm)) (hZ 7 [kI 1]) [0,0] [] bsA_t mixed ⟨1,rfl,Nat.le_refl _,hl.1,rfl,hO⟩ rfl rfl rfl rfl (fun _=>rfl) rfl rfl (by kernel_rfl) ?_
 rintro ⟨i,o⟩ hJ
 dsimp only at hJ ⊢
 obtain ⟨k,hi,hk1,hk,hol,hs⟩:=hJ
 intro v501 e501 v502 e502
 refine ai (fun h503=>?_) fun h503=>?_
 ·
  refine ai (by (have dh503:=LD e502 h503;have hlt:k<pts.length:=(by omega);exact ⟨k,_,hi,List.getElem?_eq_getElem hlt⟩)) fun n504 x505 s506 s507=>?_
  obtain ⟨v508,e508⟩:=LX (lineX x505 i)
  refine cx (.o (.g [sI v508.1,sI v508.2.1,sS v508.2.2.1,.ls 3 cE kE v508.2.2.2])) (qy x505 i v508 e508) rfl ?_
  obtain ⟨v509,e509⟩:=LX (([v508]:List Stm))
  refine rx [.ls 4 cSt kSt v509] [] [] (fun t u w=>⟨e_dat (c:=cSt) (l:=([v508]:List Stm)) (ps:=(pI v508.1::pI v508.2.1::pS v508.2.2.1::pLs cE v508.2.2.2::[])) (qs:=(pI v508.1::pI v508.2.1::pS v508.2.2.1::pLs cE v508.2.2.2::[])) (by rw [e509];rfl) rfl rfl rfl (pimps (fun _ _ _ h=>h) <| pimps (fun _ _ _ h=>h) <| pimps (fun _ _ _ h=>h) <| pimps (fun _ _ _ h=>h) <| zf) rfl,trivial⟩) ?_
  obtain ⟨v510,e510⟩:=LX (o++v509)
  have s511:(o.length+v509.length)*4≤1099511627776:=by (rw [← e509];simp only [List.length_singleton];have dh503:=LD e502 h503;omega)
  refine rx [] [pG cSt v510] [] (fun t u w=>⟨qz (c:=cSt) qY (fun _=>rfl) rfl (by rw [e510];rfl) rfl s511,trivial⟩) ?_
  intro v512 e512
  refine nxl (v512,v510) ?_ ?_ rfl
  all_goals (have dh503:=LD e502 h503;have q1:n504=k:=(by omega);rw [q1] at s507;rw [znB s507,e508] at hs;have hlt:=(List.getElem?_eq_some_iff.1 s507).1;have x3:v512=((k+1:Nat):Int):=(by rw [← e512,hi,wri (by omega)];omega);have x6:i+1=v512:=(by omega);rw [x6] at hs;have x4:v510=o++[v508]:=(by rw [← e510,← e509]))
  ·show ((pts.length:Int) - v512).toNat<((pts.length:Int) - i).toNat
   omega
  ·exact ⟨k+1,x3,by omega,by omega,by rw [x4,List.length_append,hol];rfl,by rw [x4,List.append_assoc];exact hs⟩
 ·
  have hq:((o)=o2)∧True:=by
   refine ⟨?_,trivial⟩
   (have dh503:=LE e502 h503;rw [List.drop_eq_nil_of_le (by omega)] at hs;exact (List.append_nil o).symm.trans hs)
  obtain ⟨q0,-⟩:=hq
  rw [← q0]
  rfl
def zjL:Tr:=.s [(3,.call 44 [1,2] (.o (.g 4))),(0,.raw [(1000004,.glt 62 4 [.h 3,.h 4,.h 5,.h 6] 0)] 0),(0,.lp bsA_S 0 0),(0,.gh ⟨1000006,[.gn 1],[],[]⟩ 0),(0,.gh ⟨6,.gl 4 62 4 1::[7,28].map (fun s=>.sl s (.o (.c (.gr 4)))),[7,28].map (fun s=>.sl s 7),[4]⟩ 1),(1008,.call 30 [7] (.o .c))] (.z (.ret false (8) []))
theorem zcU {w0:World} (pts:List Vec) (side n:Int) (r:List Sb) (hr:mainX (besL side n (pts.drop 1))=r) (hl:1≤pts.length∧pts.length≤1000):Fun (KN w0) Tryz.prog 35 [.o (.c (pLs cV pts)),.o (.c (pI side)),.o (.c (pI n))] (.o (.c (pLs cSb r))):=by
 refine tfn w0 35 ⟨[0,1,2],[],[],0,0⟩ ⟨3,[sI n,sI side,.ls 3 cV kV pts],[],[]⟩ zjL (by kernel_rfl) ?_
 obtain ⟨v1,e1⟩:=LX (sideX side n)
 refine cx (.o (.g [sI v1.1,sI v1.2.1,sS v1.2.2.1,.ls 3 cE kE v1.2.2.2])) (zgI side n v1 e1) rfl ?_
 refine rx [] [pG cSt ([v1]:List Stm)] [] (fun t u w=>⟨e_glt (c:=cSt) (l:=([v1]:List Stm)) rfl rfl (fun _ _ _ h=>h) rfl qY (by decide),trivial⟩) ?_
 obtain ⟨o2,hO_bsA⟩:∃(o2:(List Stm)),(([v1]:List Stm))++qS 1 (pts.drop 1)=o2:=⟨_,rfl⟩
 refine rx [] [pG cSt o2] [] (zqK pts side n v1  o2  hl hO_bsA) ?_
 refine rx [] [] [] (fun t u w _=>zbh) ?_
 refine rx [.ls 4 cSt kSt o2] [] [] (fun t u w _=>qQ (c:=cSt) (fun _=>rfl) (by decide) qY rfl rfl) ?_
 obtain ⟨v2,e2⟩:=LX (mainX o2)
 refine cx (.o (.c (.ls 3 cSb kSb v2))) (zgz o2 v2 e2) rfl ?_
 intro hc
 refine Fun.fin (r:=.o (.c (pLs cSb v2))) (zc (hc)) (fun v W D h=>?_)
 have r0:r=v2:=by
  (rw [← hr,← e2,← hO_bsA,← e1];rfl)
 rw [r0];exact h
end Go.Proofs.YteimplkdcjapdaaGreatDoor
namespace Go.Proofs.YteimplkdcjapdaaGreatDoor
open Go.RowKit
section
variable {K:Kit} {P:Program} {F:Fact}
theorem e_op4 {g:Sig} {x y z t o:Lf} {u1 u2 u3 u4 r:Value} (h1:Gives F x u1) (h2:Gives F y u2) (h3:Gives F z u3) (h4:Gives F t u4) (ho:Gives F o r) (h:∀W,(g.sem [u1,u2,u3,u4]).run P W=.ok r W):Ent.sound K P F (.op g [LF x,LF y,LF z,LF t] [] (LF o)):=by
 intro β W vs hs _ _
 match vs,hs with
 | [v1,v2,v3,v4],⟨k1,k2,k3,k4,_⟩ =>
  have e1:v1=u1:=(h1 β v1 W).1 k1
  have e2:v2=u2:=(h2 β v2 W).1 k2
  have e3:v3=u3:=(h3 β v3 W).1 k3
  have e4:v4=u4:=(h4 β v4 W).1 k4
  subst e1 e2 e3 e4
  exact ⟨r,h W,(ho β _ W).2 rfl⟩
 | [],h=>exact h.elim
 | [_],h=>exact h.2.elim
 | [_,_],h=>exact h.2.2.elim
 | [_,_,_],h=>exact h.2.2.2.elim
 | _::_::_::_::_::_,h=>exact h.2.2.2.2.elim
end
def mx2 (a b:Int):Int:=if b > a then b else a
def mx4 (a b c d:Int):Int:=mx2 (mx2 (mx2 a b) c) d
theorem zrs {P:Program} {ts:List TypeId} {T:TypeId} {k:IntKind} {a b c d:Int} (W:World):((Sig.max ts T).sem [.int k a,.int k b,.int k c,.int k d]).run P W=.ok (.int k (mx4 a b c d)) W:=by
 simp [Sig.sem,Builtin.max_,Builtin.max2,mx4,mx2]
def gP (p:List Vec) (k:Nat):Vec:=p.getD k (0,0,0)
def fitK (p:List Vec) (r:Int) (k:Nat):Bool:=
 !((!inV (IntKind.i64.wrap ((gP p k).1 - r),IntKind.i64.wrap ((gP p k).2.1 - r),0) || !inV (IntKind.i64.wrap ((gP p k).1+r),IntKind.i64.wrap ((gP p k).2.1+r),0)) || (decide (0<k) && (decide (mx4 (subV (gP p k) (gP p (k - 1))).1 (IntKind.i64.wrap (0 - (subV (gP p k) (gP p (k - 1))).1)) (subV (gP p k) (gP p (k - 1))).2.1 (IntKind.i64.wrap (0 - (subV (gP p k) (gP p (k - 1))).2.1))≤IntKind.i64.wrap (2*r)) || (decide (1<k) && decide (dotV (subV (gP p k) (gP p (k - 1))) (subV (gP p (k - 1)) (gP p (k - 2)))<0)))))
def fitF (p:List Vec) (r:Int) (k:Nat):Bool:=((List.range p.length).drop k).all (fitK p r)
theorem zde {p:List Vec} {r:Int} {k:Nat} {x:Vec} (h:p[k]?=some x):fitF p r k=(fitK p r k && fitF p r (k+1)):=by
 have hk:=(List.getElem?_eq_some_iff.1 h).1
 unfold fitF
 rw [List.drop_eq_getElem_cons (by rw [List.length_range];exact hk),List.all_cons,List.getElem_range]
theorem gP_at {p:List Vec} {k j:Nat} {x:Vec} (h:p[k]?=some x) (hj:k=j):gP p j=x:=by
 subst hj
 unfold gP
 rw [List.getD_eq_getElem?_getD,h];rfl
def zez:List Atom:=[.sl 0 0,.sl 1 1,.sl 8 2,.sl 9 3]
def zkP:LoopS:=⟨2,zez.map (tnA (jf [0,1,2,kI 0]) (kf []) (kf [])),.r,(drs [3] zez)++[.sl 4 3]⟩
def zqV:Tr:=.s [(5000,.bin .lss 3 3 2)] (.b 4 (.s [(5005,.ia 35 26 3 0 3),(5006,.fa 26 0 0 0 5),(5007,.ld 3 0 6),(5009,.bin .sub 3 7 1),(5012,.ia 35 26 3 0 3),(5013,.fa 26 1 1 0 9),(5014,.ld 3 0 10),(5016,.bin .sub 3 11 1),(5017,.call 21 [8,12,LF (kI 0)] (.o (.g 3))),(5018,.call 34 [.o (.g [13,14,15])] (.o .c)),(5019,.un .not 16)] (.b 17 (.z (.xt .r [0,1,2,kB false] [] [])) (.s [(5023,.ia 35 26 3 0 3),(5024,.fa 26 0 0 0 18),(5025,.ld 3 0 19),(5027,.bin .add 3 20 1),(5030,.ia 35 26 3 0 3),(5031,.fa 26 1 1 0 22),(5032,.ld 3 0 23),(5034,.bin .add 3 24 1),(5035,.call 21 [21,25,LF (kI 0)] (.o (.g 3))),(5036,.call 34 [.o (.g [26,27,28])] (.o .c)),(5037,.un .not 29)] (.b 30 (.z (.xt .r [0,1,2,kB false] [] [])) (.s [(5040,.bin .gtr 3 3 (kI 0))] (.b 31 (.s [(5043,.ia 35 26 3 0 3),(5044,.ld 26 3 32),(5047,.bin .sub 3 3 (kI 1)),(5048,.ia 35 26 3 0 36),(5049,.ld 26 3 37),(5050,.call 39 [.o (.g [33,34,35]),.o (.g [38,39,40])] (.o (.g 3))),(5057,.un .neg 41),(5062,.un .neg 42),(0,.raw [(1005063,.op (.max [3,3,3,3] 3) [41,44,42,45] [] 46)] 1),(5065,.bin .mul 3 (kI 2) 1),(5066,.bin .leq 3 46 47)] (.b 48 (.z (.xt .r [0,1,2,kB false] [] [])) (.s [(5069,.bin .gtr 3 3 (kI 1))] (.b 49 (.s [(5074,.bin .sub 3 3 (kI 1)),(5075,.ia 35 26 3 0 50),(5076,.ld 26 3 51),(5079,.bin .sub 3 3 (kI 2)),(5080,.ia 35 26 3 0 55),(5081,.ld 26 3 56),(5082,.call 39 [.o (.g [52,53,54]),.o (.g [57,58,59])] (.o (.g 3))),(5083,.call 38 [.o (.g [41,42,43]),.o (.g [60,61,62])] (.o .c)),(5084,.bin .lss 3 63 (kI 0))] (.b 64 (.z (.xt .r [0,1,2,kB false] [] [])) (.s [(5087,.bin .add 3 3 (kI 1))] (.z (.nx [0,1,2,65] [] []))))) (.s [(5087,.bin .add 3 3 (kI 1))] (.z (.nx [0,1,2,50] [] []))))))) (.s [(5041,.bin .add 3 3 (kI 1))] (.z (.nx [0,1,2,32] [] []))))))))) (.z .no))
theorem zpD {w0:World} (pts:(List Vec)) (n:Int) (v1:Int) (o:Bool) (hb:pts.length<1000∧0≤n∧n≤100) (hO:fitF pts n 0=o) (ho:o≠true) (hlen:(pts.length:Int)=v1):LpH (KN w0) Tryz.prog 36 ⟨ntOf Tryz.prog 36,[],[]⟩ zkP 0 ⟨4,[sB o,sI v1,sI n,.ls 3 cV kV pts],[],[]⟩:=by
 refine zq _ ⟨zez,zkP,(4,0,0),(4,0,0),5000⟩ (T:=Int) (fun t=>⟨4,[sI t,sI v1,sI n,.ls 3 cV kV pts],[],[]⟩) (fun i=>∃k:Nat,i=(k:Int)∧k≤pts.length∧fitF pts n k=o) (fun i=>((pts.length:Int) - i).toNat) (0:Int) [0,1,2,kI 0] [] [] zqV mixed ⟨0,rfl,Nat.zero_le _,hO⟩ rfl rfl rfl rfl (fun _=>rfl) rfl rfl (by kernel_rfl) ?_
 intro i hJ
 obtain ⟨k,hi,hk,hs⟩:=hJ
 intro v501 e501
 refine ai (fun h502=>?_) fun h502=>?_
 ·
  refine ai (by (have dh502:=LD e501 h502;have hz:=hlen;have hlt:k<pts.length:=(by omega);exact ⟨k,_,hi,List.getElem?_eq_getElem hlt⟩)) fun n503 x504 s505 s506=>?_
  intro v507 e507
  refine ai (by (have dh502:=LD e501 h502;have hz:=hlen;have hlt:k<pts.length:=(by omega);exact ⟨k,_,hi,List.getElem?_eq_getElem hlt⟩)) fun n508 x509 s510 s511=>?_
  intro v512 e512
  obtain ⟨v513,e513⟩:=LX ((v507,v512,(0:Int)))
  refine cx (.o (.g [sI v513.1,sI v513.2.1,sI v513.2.2])) (zY v507 v512 (0:Int) v513 e513) rfl ?_
  obtain ⟨v514,e514⟩:=LX (inV v513)
  refine cx (.o (.c (sB v514))) (t_in v513 v514 e514) rfl ?_
  intro v515 e515
  refine ai (fun h516=>?_) fun h516=>?_
  ·
   have hq:((false)=o)∧True:=by
    refine ⟨?_,trivial⟩
    (have dh502:=LD e501 h502;have dh516:=(Bool.not_eq_true' _).mp (e515.trans h516);have hz:=hlen;have hkn:n503=k:=(by omega);subst hkn;have hlt:n503<pts.length:=(List.getElem?_eq_some_iff.1 s506).1;have hd:=zde (r:=n) s506;rw [hs] at hd;have gx504:gP pts n503=x504:=gP_at s506 (by omega);have gx509:gP pts n503=x509:=gP_at s511 (by omega);have qx509:x509=x504:=gx509.symm.trans gx504;have hK:fitK pts n n503=false:=(by subst qx509 e507 e512 e513 e514 e515;unfold fitK;rw [gx504];rw [h516];rfl);rw [hK,Bool.false_and] at hd;first | exact absurd hd (by decide) | exact hd | exact hd.symm | (subst hd;rfl) | (subst hd;trace_state;trivial))
   obtain ⟨q0,-⟩:=hq
   rw [← q0]
   rfl
  ·
   refine ai (by (have dh502:=LD e501 h502;have dh516:=(Bool.not_eq_false' _).mp (e515.trans h516);have hz:=hlen;have hlt:k<pts.length:=(by omega);exact ⟨k,_,hi,List.getElem?_eq_getElem hlt⟩)) fun n517 x518 s519 s520=>?_
   intro v521 e521
   refine ai (by (have dh502:=LD e501 h502;have dh516:=(Bool.not_eq_false' _).mp (e515.trans h516);have hz:=hlen;have hlt:k<pts.length:=(by omega);exact ⟨k,_,hi,List.getElem?_eq_getElem hlt⟩)) fun n522 x523 s524 s525=>?_
   intro v526 e526
   obtain ⟨v527,e527⟩:=LX ((v521,v526,(0:Int)))
   refine cx (.o (.g [sI v527.1,sI v527.2.1,sI v527.2.2])) (zY v521 v526 (0:Int) v527 e527) rfl ?_
   obtain ⟨v528,e528⟩:=LX (inV v527)
   refine cx (.o (.c (sB v528))) (t_in v527 v528 e528) rfl ?_
   intro v529 e529
   refine ai (fun h530=>?_) fun h530=>?_
   ·
    have hq:((false)=o)∧True:=by
     refine ⟨?_,trivial⟩
     (have dh502:=LD e501 h502;have dh516:=(Bool.not_eq_false' _).mp (e515.trans h516);have dh530:=(Bool.not_eq_true' _).mp (e529.trans h530);have hz:=hlen;have hkn:n503=k:=(by omega);subst hkn;have hlt:n503<pts.length:=(List.getElem?_eq_some_iff.1 s506).1;have hd:=zde (r:=n) s506;rw [hs] at hd;have gx504:gP pts n503=x504:=gP_at s506 (by omega);have gx509:gP pts n503=x509:=gP_at s511 (by omega);have gx518:gP pts n503=x518:=gP_at s520 (by omega);have gx523:gP pts n503=x523:=gP_at s525 (by omega);have qx509:x509=x504:=gx509.symm.trans gx504;have qx518:x518=x504:=gx518.symm.trans gx504;have qx523:x523=x504:=gx523.symm.trans gx504;have hK:fitK pts n n503=false:=(by subst qx509 qx518 qx523 e507 e512 e513 e514 e515 e521 e526 e527 e528 e529;unfold fitK;rw [gx504];rw [h516,h530];rfl);rw [hK,Bool.false_and] at hd;first | exact absurd hd (by decide) | exact hd | exact hd.symm | (subst hd;rfl) | (subst hd;trace_state;trivial))
    obtain ⟨q0,-⟩:=hq
    rw [← q0]
    rfl
   ·
    intro v531 e531
    refine ai (fun h532=>?_) fun h532=>?_
    ·
     refine ai (by (have dh502:=LD e501 h502;have dh516:=(Bool.not_eq_false' _).mp (e515.trans h516);have dh530:=(Bool.not_eq_false' _).mp (e529.trans h530);have dh532:=LD e531 h532;have hz:=hlen;have hlt:k<pts.length:=(by omega);exact ⟨k,_,hi,List.getElem?_eq_getElem hlt⟩)) fun n533 x534 s535 s536=>?_
     intro v537 e537
     refine ai (by (have dh502:=LD e501 h502;have dh516:=(Bool.not_eq_false' _).mp (e515.trans h516);have dh530:=(Bool.not_eq_false' _).mp (e529.trans h530);have dh532:=LD e531 h532;have hz:=hlen;have hw:v537=i - 1:=(by rw [← e537,wri (by omega)]);have hlt:k - 1<pts.length:=(by omega);exact ⟨k - 1,_,by omega,List.getElem?_eq_getElem hlt⟩)) fun n538 x539 s540 s541=>?_
     obtain ⟨v542,e542⟩:=LX (subV x534 x539)
     refine cx (.o (.g [sI v542.1,sI v542.2.1,sI v542.2.2])) (t_sub x534 x539 v542 e542) rfl ?_
     intro v543 e543 v544 e544
     obtain ⟨v545,e545⟩:=LX (mx4 v542.1 v543 v542.2.1 v544)
     refine rx [sI v545] [] [] (fun t u w=>⟨e_op4 (za rfl) (za rfl) (za rfl) (za rfl) (za rfl) (fun W=>by rw [← e545];exact zrs W),trivial⟩) ?_
     intro v546 e546 v547 e547
     refine ai (fun h548=>?_) fun h548=>?_
     ·
      have hq:((false)=o)∧True:=by
       refine ⟨?_,trivial⟩
       (have dh502:=LD e501 h502;have dh516:=(Bool.not_eq_false' _).mp (e515.trans h516);have dh530:=(Bool.not_eq_false' _).mp (e529.trans h530);have dh532:=LD e531 h532;have dh548:=LD e547 h548;have hz:=hlen;have hkn:n503=k:=(by omega);subst hkn;have hlt:n503<pts.length:=(List.getElem?_eq_some_iff.1 s506).1;have hd:=zde (r:=n) s506;rw [hs] at hd;have gx504:gP pts n503=x504:=gP_at s506 (by omega);have gx509:gP pts n503=x509:=gP_at s511 (by omega);have gx518:gP pts n503=x518:=gP_at s520 (by omega);have gx523:gP pts n503=x523:=gP_at s525 (by omega);have gx534:gP pts n503=x534:=gP_at s536 (by omega);have qx509:x509=x504:=gx509.symm.trans gx504;have qx518:x518=x504:=gx518.symm.trans gx504;have qx523:x523=x504:=gx523.symm.trans gx504;have qx534:x534=x504:=gx534.symm.trans gx504;have gx539:gP pts (n503 - 1)=x539:=gP_at s541 (by have hw:v537=i - 1:=(by rw [← e537,wri (by omega)]);omega);have hk0:decide (0<n503)=true:=(decide_eq_true (by omega));have hK:fitK pts n n503=false:=(by subst qx509 qx518 qx523 qx534 e507 e512 e513 e514 e515 e521 e526 e527 e528 e529 e542 e543 e544 e545 e546 e547;unfold fitK;rw [gx504,gx539,hk0];rw [h516,h530,h548];rfl);rw [hK,Bool.false_and] at hd;first | exact absurd hd (by decide) | exact hd | exact hd.symm | (subst hd;rfl) | (subst hd;trace_state;trivial))
      obtain ⟨q0,-⟩:=hq
      rw [← q0]
      rfl
     ·
      intro v549 e549
      refine ai (fun h550=>?_) fun h550=>?_
      ·
       intro v551 e551
       refine ai (by (have dh502:=LD e501 h502;have dh516:=(Bool.not_eq_false' _).mp (e515.trans h516);have dh530:=(Bool.not_eq_false' _).mp (e529.trans h530);have dh532:=LD e531 h532;have dh548:=LE e547 h548;have dh550:=LD e549 h550;have hz:=hlen;have hw:v551=i - 1:=(by rw [← e551,wri (by omega)]);have hlt:k - 1<pts.length:=(by omega);exact ⟨k - 1,_,by omega,List.getElem?_eq_getElem hlt⟩)) fun n552 x553 s554 s555=>?_
       intro v556 e556
       refine ai (by (have dh502:=LD e501 h502;have dh516:=(Bool.not_eq_false' _).mp (e515.trans h516);have dh530:=(Bool.not_eq_false' _).mp (e529.trans h530);have dh532:=LD e531 h532;have dh548:=LE e547 h548;have dh550:=LD e549 h550;have hz:=hlen;have hw:v556=i - 2:=(by rw [← e556,wri (by omega)]);have hlt:k - 2<pts.length:=(by omega);exact ⟨k - 2,_,by omega,List.getElem?_eq_getElem hlt⟩)) fun n557 x558 s559 s560=>?_
       obtain ⟨v561,e561⟩:=LX (subV x553 x558)
       refine cx (.o (.g [sI v561.1,sI v561.2.1,sI v561.2.2])) (t_sub x553 x558 v561 e561) rfl ?_
       obtain ⟨v562,e562⟩:=LX (dotV v542 v561)
       refine cx (.o (.c (sI v562))) (t_dot v542 v561 v562 e562) rfl ?_
       intro v563 e563
       refine ai (fun h564=>?_) fun h564=>?_
       ·
        have hq:((false)=o)∧True:=by
         refine ⟨?_,trivial⟩
         (have dh502:=LD e501 h502;have dh516:=(Bool.not_eq_false' _).mp (e515.trans h516);have dh530:=(Bool.not_eq_false' _).mp (e529.trans h530);have dh532:=LD e531 h532;have dh548:=LE e547 h548;have dh550:=LD e549 h550;have dh564:=LD e563 h564;have hz:=hlen;have hkn:n503=k:=(by omega);subst hkn;have hlt:n503<pts.length:=(List.getElem?_eq_some_iff.1 s506).1;have hd:=zde (r:=n) s506;rw [hs] at hd;have gx504:gP pts n503=x504:=gP_at s506 (by omega);have gx509:gP pts n503=x509:=gP_at s511 (by omega);have gx518:gP pts n503=x518:=gP_at s520 (by omega);have gx523:gP pts n503=x523:=gP_at s525 (by omega);have gx534:gP pts n503=x534:=gP_at s536 (by omega);have qx509:x509=x504:=gx509.symm.trans gx504;have qx518:x518=x504:=gx518.symm.trans gx504;have qx523:x523=x504:=gx523.symm.trans gx504;have qx534:x534=x504:=gx534.symm.trans gx504;have gx539:gP pts (n503 - 1)=x539:=gP_at s541 (by have hw:v537=i - 1:=(by rw [← e537,wri (by omega)]);omega);have gx553:gP pts (n503 - 1)=x553:=gP_at s555 (by have hw:v551=i - 1:=(by rw [← e551,wri (by omega)]);omega);have qx553:x553=x539:=gx553.symm.trans gx539;have gx558:gP pts (n503 - 2)=x558:=gP_at s560 (by have hw:v556=i - 2:=(by rw [← e556,wri (by omega)]);omega);have hk0:decide (0<n503)=true:=(decide_eq_true (by omega));have hk1:decide (1<n503)=true:=(decide_eq_true (by omega));have hK:fitK pts n n503=false:=(by subst qx509 qx518 qx523 qx534 qx553 e507 e512 e513 e514 e515 e521 e526 e527 e528 e529 e542 e543 e544 e545 e546 e547 e561 e562 e563;unfold fitK;rw [gx504,gx539,gx558,hk0,hk1];rw [h516,h530,h548,h564];rfl);rw [hK,Bool.false_and] at hd;first | exact absurd hd (by decide) | exact hd | exact hd.symm | (subst hd;rfl) | (subst hd;trace_state;trivial))
        obtain ⟨q0,-⟩:=hq
        rw [← q0]
        rfl
       ·
        intro v565 e565
        refine nxl v565 ?_ ?_ rfl
        all_goals (have dh502:=LD e501 h502;have dh516:=(Bool.not_eq_false' _).mp (e515.trans h516);have dh530:=(Bool.not_eq_false' _).mp (e529.trans h530);have dh532:=LD e531 h532;have dh548:=LE e547 h548;have dh550:=LD e549 h550;have dh564:=LE e563 h564;have hz:=hlen;have hkn:n503=k:=(by omega);subst hkn;have hlt:n503<pts.length:=(List.getElem?_eq_some_iff.1 s506).1;have hd:=zde (r:=n) s506;rw [hs] at hd;have gx504:gP pts n503=x504:=gP_at s506 (by omega);have gx509:gP pts n503=x509:=gP_at s511 (by omega);have gx518:gP pts n503=x518:=gP_at s520 (by omega);have gx523:gP pts n503=x523:=gP_at s525 (by omega);have gx534:gP pts n503=x534:=gP_at s536 (by omega);have qx509:x509=x504:=gx509.symm.trans gx504;have qx518:x518=x504:=gx518.symm.trans gx504;have qx523:x523=x504:=gx523.symm.trans gx504;have qx534:x534=x504:=gx534.symm.trans gx504;have gx539:gP pts (n503 - 1)=x539:=gP_at s541 (by have hw:v537=i - 1:=(by rw [← e537,wri (by omega)]);omega);have gx553:gP pts (n503 - 1)=x553:=gP_at s555 (by have hw:v551=i - 1:=(by rw [← e551,wri (by omega)]);omega);have qx553:x553=x539:=gx553.symm.trans gx539;have gx558:gP pts (n503 - 2)=x558:=gP_at s560 (by have hw:v556=i - 2:=(by rw [← e556,wri (by omega)]);omega);have hk0:decide (0<n503)=true:=(decide_eq_true (by omega));have hk1:decide (1<n503)=true:=(decide_eq_true (by omega));have hK:fitK pts n n503=true:=(by subst qx509 qx518 qx523 qx534 qx553 e507 e512 e513 e514 e515 e521 e526 e527 e528 e529 e542 e543 e544 e545 e546 e547 e561 e562 e563;unfold fitK;rw [gx504,gx539,gx558,hk0,hk1];rw [h516,h530,h548,h564];rfl);have x3:v565=((n503+1:Nat):Int):=(by rw [← e565,hi,wri (by omega)];omega);have hn:fitF pts n (n503+1)=o:=(by rw [hK,Bool.true_and] at hd;exact hd.symm))
        ·show ((pts.length:Int) - v565).toNat<((pts.length:Int) - i).toNat
         omega
        ·exact ⟨n503+1,x3,by omega,hn⟩
      ·
       intro v551 e551
       refine nxl v551 ?_ ?_ rfl
       all_goals (have dh502:=LD e501 h502;have dh516:=(Bool.not_eq_false' _).mp (e515.trans h516);have dh530:=(Bool.not_eq_false' _).mp (e529.trans h530);have dh532:=LD e531 h532;have dh548:=LE e547 h548;have dh550:=LE e549 h550;have hz:=hlen;have hkn:n503=k:=(by omega);subst hkn;have hlt:n503<pts.length:=(List.getElem?_eq_some_iff.1 s506).1;have hd:=zde (r:=n) s506;rw [hs] at hd;have gx504:gP pts n503=x504:=gP_at s506 (by omega);have gx509:gP pts n503=x509:=gP_at s511 (by omega);have gx518:gP pts n503=x518:=gP_at s520 (by omega);have gx523:gP pts n503=x523:=gP_at s525 (by omega);have gx534:gP pts n503=x534:=gP_at s536 (by omega);have qx509:x509=x504:=gx509.symm.trans gx504;have qx518:x518=x504:=gx518.symm.trans gx504;have qx523:x523=x504:=gx523.symm.trans gx504;have qx534:x534=x504:=gx534.symm.trans gx504;have gx539:gP pts (n503 - 1)=x539:=gP_at s541 (by have hw:v537=i - 1:=(by rw [← e537,wri (by omega)]);omega);have hk0:decide (0<n503)=true:=(decide_eq_true (by omega));have hk1:decide (1<n503)=false:=(decide_eq_false (by omega));have hK:fitK pts n n503=true:=(by subst qx509 qx518 qx523 qx534 e507 e512 e513 e514 e515 e521 e526 e527 e528 e529 e542 e543 e544 e545 e546 e547;unfold fitK;rw [gx504,gx539,hk0,hk1];rw [h516,h530,h548];rfl);have x3:v551=((n503+1:Nat):Int):=(by rw [← e551,hi,wri (by omega)];omega);have hn:fitF pts n (n503+1)=o:=(by rw [hK,Bool.true_and] at hd;exact hd.symm))
       ·show ((pts.length:Int) - v551).toNat<((pts.length:Int) - i).toNat
        omega
       ·exact ⟨n503+1,x3,by omega,hn⟩
    ·
     intro v533 e533
     refine nxl v533 ?_ ?_ rfl
     all_goals (have dh502:=LD e501 h502;have dh516:=(Bool.not_eq_false' _).mp (e515.trans h516);have dh530:=(Bool.not_eq_false' _).mp (e529.trans h530);have dh532:=LE e531 h532;have hz:=hlen;have hkn:n503=k:=(by omega);subst hkn;have hlt:n503<pts.length:=(List.getElem?_eq_some_iff.1 s506).1;have hd:=zde (r:=n) s506;rw [hs] at hd;have gx504:gP pts n503=x504:=gP_at s506 (by omega);have gx509:gP pts n503=x509:=gP_at s511 (by omega);have gx518:gP pts n503=x518:=gP_at s520 (by omega);have gx523:gP pts n503=x523:=gP_at s525 (by omega);have qx509:x509=x504:=gx509.symm.trans gx504;have qx518:x518=x504:=gx518.symm.trans gx504;have qx523:x523=x504:=gx523.symm.trans gx504;have hk0:decide (0<n503)=false:=(decide_eq_false (by omega));have hK:fitK pts n n503=true:=(by subst qx509 qx518 qx523 e507 e512 e513 e514 e515 e521 e526 e527 e528 e529;unfold fitK;rw [gx504,hk0];rw [h516,h530];rfl);have x3:v533=((n503+1:Nat):Int):=(by rw [← e533,hi,wri (by omega)];omega);have hn:fitF pts n (n503+1)=o:=(by rw [hK,Bool.true_and] at hd;exact hd.symm))
     ·show ((pts.length:Int) - v533).toNat<((pts.length:Int) - i).toNat
      omega
     ·exact ⟨n503+1,x3,by omega,hn⟩
 ·
  exfalso
  (have dh502:=LE e501 h502;have hz:=hlen;have hkl:k=pts.length:=(by omega);rw [hkl] at hs;exact absurd (hs.symm.trans (by unfold fitF;rw [List.drop_eq_nil_of_le (by simp)];rfl)) ho)
def fitB (p:List Vec) (r:Int):Bool:=fitF p r 0
def zoa:Tr:=.s [(2,.ln 35 3 0),(0,.lp zkP 0 1)] (.z (.ret false (3) []))
theorem zjl {w0:World} (pts:List Vec) (n:Int) (hf:fitB pts n=false) (hb_:pts.length<1000∧0≤n∧n≤100):Fun (KN w0) Tryz.prog 36 [.o (.c (pLs cV pts)),.o (.c (pI n))] (.o (.c (pB false))):=by
 refine tfn w0 36 ⟨[0,1],[],[],0,0⟩ ⟨2,[sI n,.ls 3 cV kV pts],[],[]⟩ zoa (by kernel_rfl) ?_
 intro v1 e1
 obtain ⟨o,hO_fi_B⟩:∃(o:Bool),fitF pts n 0=o∧o≠true:=⟨_,rfl,by rw [show fitF pts n 0=false from hf];decide⟩
 refine rx [sB o] [] [] (zpD pts n v1  o  hb_ hO_fi_B.1 hO_fi_B.2  e1) ?_
 intro hc
 refine Fun.fin (r:=.o (.c (pB o))) (zc (hc)) (fun v W D h=>?_)
 have q:false=o:=hf.symm.trans hO_fi_B.1
 rw [q];exact h
end Go.Proofs.YteimplkdcjapdaaGreatDoor
namespace Go.Proofs.YteimplkdcjapdaaGreatDoor
open Go.RowKit
theorem zdt {n:Int} (hn:0≤n):isDir (zr n):=by
 have h:=tm4 hn
 have h4:(n.tmod 4).toNat=0∨(n.tmod 4).toNat=1∨(n.tmod 4).toNat=2∨(n.tmod 4).toNat=3:=by omega
 unfold zr
 rcases h4 with e | e | e | e<;>rw [e]
 ·exact .inl rfl
 ·exact .inr (.inl rfl)
 ·exact .inr (.inr (.inl rfl))
 ·exact .inr (.inr (.inr rfl))
theorem zp9 {a:Vec} {t:Int×Int} (ha:inV a=true) (h1:0≤t.1) (h2:0≤t.2∧t.2<256):∃m:Int,1≤m∧stepT a t=(a.1+m*(zr t.1).1,a.2.1+m*(zr t.1).2.1,a.2.2):=by
 have hd:=zdt h1
 have hm:0≤t.2.tmod 9∧t.2.tmod 9<9:=by rw [Int.tmod_eq_emod_of_nonneg h2.1];omega
 refine ⟨1+t.2.tmod 9,by omega,?_⟩
 have hi:=qb.1 ha
 unfold stepT
 rw [wI_eq (x:=t.2) (by omega),wI_eq (x:=1+t.2.tmod 9) (by omega)]
 generalize zr t.1=d at hd ⊢
 generalize t.2.tmod 9=m at hm ⊢
 rcases hd with rfl | rfl | rfl | rfl<;>dsimp only
 all_goals
  rw [wI_eq (by omega),wI_eq (by omega),zkf (in_sm ha) ⟨by dsimp only;omega,by dsimp only;omega,by dsimp only;omega⟩]
  exact Prod.ext rfl (Prod.ext rfl (by dsimp only;omega))
theorem zdV:∀{l:List (Int×Int)} {a:Vec},inV a=true→(∀t∈l,0≤t.1∧0≤t.2∧t.2<256)→(cornL a l).all inV=true→Chain a (cornL a l) (l.map fun t=>zr t.1)
 | [],_,_,_,_=>trivial
 | t::r,a,ha,hB,h=>by
  rw [cornL,List.all_cons,Bool.and_eq_true] at h
  obtain ⟨m,hm,e⟩:=zp9 ha (hB t (by simp)).1 (hB t (by simp)).2
  exact ⟨zdt (hB t (by simp)).1,⟨m,hm,e⟩,h.1,zdV h.1 (fun x hx=>hB x (List.mem_cons_of_mem _ hx)) h.2⟩
theorem zik:∀{l:List (Int×Int)} {a:Vec},(cornL a l).length=l.length
 | [],_=>rfl
 | _::_,_=>by rw [cornL,List.length_cons,List.length_cons,zik]
theorem zha:∀{l:List Vec} {k:Nat} {a:Vec} {f:List Int},(expL a k l f).length=l.length
 | [],_,_,_=>rfl
 | _::_,_,_,_=>by rw [expL,List.length_cons,List.length_cons,zha]
theorem zc9:∀{l:List Vec} {k j:Nat} {a p q:Vec} {f:List Int} {m:Mov},(expL a k l f)[j]?=some m→(a::l)[j]?=some p→l[j]?=some q→m=(2,p,q,(0,0,0),f.getD (k+j - 1) 0)
 | [],_,_,_,_,_,_,_,_,_,h=>by simp at h
 | x::r,k,0,a,p,q,f,m,h1,h2,h3=>by
  rw [expL] at h1
  simp only [List.getElem?_cons_zero,Option.some.injEq] at h1 h2 h3
  rw [← h1,h2,h3];rfl
 | x::r,k,j+1,a,p,q,f,m,h1,h2,h3=>by
  rw [expL] at h1
  have:=zc9 (l:=r) (k:=k+1) (j:=j) (a:=x) (by simpa using h1) (by simpa using h2) (by simpa using h3)
  rw [this,show k+1+j - 1=k+(j+1) - 1 by omega]
theorem zda:∀{n j:Nat} {k:Int},j<n→(qA k n).getD j 0=k+j
 | 0,_,_,h=>absurd h (Nat.not_lt_zero _)
 | n+1,0,k,_=>by rw [qA];show k=k+((0:Nat):Int);omega
 | n+1,j+1,k,h=>by
  rw [qA]
  show (qA (k+1) n).getD j 0=_
  rw [zda (by omega)];omega
def mirM (m:Mov):Mov:=(m.1,mirS m.2.1,mirS m.2.2.1,m.2.2.2.1,m.2.2.2.2)
theorem zkN:∀{l:List Vec} {k:Nat} {a:Vec} {f:List Int},expL (mirS a) k (l.map mirS) f=(expL a k l f).map mirM
 | [],_,_,_=>rfl
 | p::r,k,a,f=>by
  rw [List.map_cons,expL,expL,List.map_cons,zkN];rfl
theorem zlh {l:List Vec}:(l.map mirS).all inV=l.all inV:=by
 rw [List.all_map]
 exact congrArg l.all (funext zf1)
section
variable {fr:Vec} {pts ws:List Vec} {n s:Int}
theorem zpZ (hf:inV fr=true) (hc:Chain fr pts ws) (hs:s=1∨s=-1) (hn:1≤n∧n≤4) {fs:List Int}:besR (mirS fr) (n * -s) (pts.map mirS) (ws.map mirS) fs=((besR fr (n*s) pts ws fs).1.map mirM,(besR fr (n*s) pts ws fs).2):=by
 have hl:-4≤n*s∧n*s≤4:=by rcases hs with rfl | rfl<;>omega
 have hd:=zad hc
 unfold besR
 by_cases hne:pts=[]
 ·subst hne;rfl
 ·rw [if_neg hne,if_neg (by simpa using hne),show n * -s=-(n*s) by rw [Int.mul_neg],zpO hf hc hl hne,ziM hd,ziN fun p hp=>?_,zlh,zkN]
  ·cases backL ws with
   | true=>rfl
   | false =>
    cases turnL (mvP fr (n*s) pts ws) ws with
    | true=>rfl
    | false=>cases (mvP fr (n*s) pts ws).all inV<;>rfl
  ·exact zlk hf hc hl hne p hp
theorem zn2 {fs:List Int} {l:Int}:(besR fr l pts ws fs).2=0∨(besR fr l pts ws fs).2=17∨(besR fr l pts ws fs).2=3:=by
 unfold besR
 repeat' split
 all_goals simp
theorem zp0 {fs:List Int} {l:Int} (h:(besR fr l pts ws fs).2≠0∨pts=[]):(besR fr l pts ws fs).1=[]:=by
 unfold besR at h ⊢
 by_cases hne:pts=[]
 ·rw [if_pos hne]
 ·rw [if_neg hne] at h ⊢
  have h:=h.resolve_right hne
  revert h
  repeat' split
  all_goals simp
theorem zrt {fs:List Int} {l:Int} (h:(besR fr l pts ws fs).2=0) (hne:pts≠[]):(besR fr l pts ws fs).1=expL fr 0 (mvP fr l pts ws) fs∧backL ws=false∧turnL (mvP fr l pts ws) ws=false∧(mvP fr l pts ws).all inV=true:=by
 unfold besR at h ⊢
 rw [if_neg hne] at h ⊢
 by_cases h1:backL ws=true
 ·rw [if_pos h1] at h;cases h
 ·rw [if_neg h1] at h ⊢
  by_cases h2:turnL (mvP fr l pts ws) ws=true
  ·rw [if_pos h2] at h;cases h
  ·rw [if_neg h2] at h ⊢
   by_cases h3:(mvP fr l pts ws).all inV=true
   ·rw [if_pos h3]
    exact ⟨rfl,by simpa using h1,by simpa using h2,h3⟩
   ·rw [if_neg h3] at h;cases h
theorem zll (hc:Chain fr pts ws) {l:Int}:(mvP fr l pts ws).length=pts.length+1:=by
 unfold mvP
 rw [List.length_cons,zaf (zP hc)]
theorem dot3 {x y z:Int} (h:(-100000≤x∧x≤100000)∧(-100000≤y∧y≤100000)∧(-100000≤z∧z≤100000)):wI (wI (wI x+wI y)+wI z)=x+y+z:=by
 rw [wI_eq (x:=x) (by omega),wI_eq (x:=y) (by omega),wI_eq (x:=z) (by omega),wI_eq (x:=x+y) (by omega),wI_eq (by omega)]
theorem crs2 {x y:Int} (h:(-100000≤x∧x≤100000)∧(-100000≤y∧y≤100000)):wI (wI x - wI y)=x - y:=by
 rw [wI_eq (x:=x) (by omega),wI_eq (x:=y) (by omega),wI_eq (by omega)]
theorem zet {a b:Vec} (ha:isDir a) (hb:(-3000≤b.1∧b.1≤3000)∧(-3000≤b.2.1∧b.2.1≤3000)∧(-3000≤b.2.2∧b.2.2≤3000)):dotV a b=a.1*b.1+a.2.1*b.2.1:=by
 unfold dotV
 rcases ha with rfl | rfl | rfl | rfl<;>dsimp only
 all_goals
  rw [dot3 (by omega)]
  omega
theorem zny {d:Vec} (hd:isDir d) (hs:s=1∨s=-1):((wI (wI (0 - s)*d.2.1),wI (s*d.1),(0:Int)):Vec)=(-(s*d.2.1),s*d.1,0)∧isDir (-(s*d.2.1),s*d.1,0):=by
 rcases hs with rfl | rfl<;>rcases hd with rfl | rfl | rfl | rfl<;>exact ⟨by decide,by unfold isDir;decide⟩
theorem zkz {d b:Vec} (hd:isDir d) (hb:(-3000≤b.1∧b.1≤3000)∧(-3000≤b.2.1∧b.2.1≤3000)) (hz:b.2.2=0) (h:d.2.1*b.1=d.1*b.2.1):zcw d b=(0,0,0):=by
 obtain ⟨x,y,z⟩:=b
 dsimp only at hb hz h
 subst hz
 unfold zcw
 rcases hd with rfl | rfl | rfl | rfl<;>dsimp only at h ⊢
 all_goals
  rw [crs2 (by omega),crs2 (by omega),crs2 (by omega)]
  refine Prod.ext ?_ (Prod.ext ?_ ?_)<;>dsimp only<;>omega
theorem zef {a b:Vec} (ha:smV a) (hb:smV b):(-3000≤(subV b a).1∧(subV b a).1≤3000)∧(-3000≤(subV b a).2.1∧(subV b a).2.1≤3000)∧(-3000≤(subV b a).2.2∧(subV b a).2.2≤3000):=by
 rw [zbY ha hb]
 obtain ⟨a1,a2,a3⟩:=ha
 obtain ⟨b1,b2,b3⟩:=hb
 refine ⟨⟨?_,?_⟩,⟨?_,?_⟩,?_,?_⟩<;>dsimp only<;>omega
end
end Go.Proofs.YteimplkdcjapdaaGreatDoor
namespace Go.Proofs.YteimplkdcjapdaaGreatDoor
open Go.RowKit
theorem zhc {p:List Vec} {r:Int} {k:Nat} (h:fitB p r=true) (hk:k<p.length):fitK p r k=true:=by
 unfold fitB fitF at h
 rw [List.drop_zero] at h
 exact List.all_eq_true.1 h k (List.mem_range.2 hk)
theorem zcb {p:List Vec} {r:Int} {k:Nat} (h:fitK p r k=true):inV (IntKind.i64.wrap ((gP p k).1 - r),IntKind.i64.wrap ((gP p k).2.1 - r),0)=true∧inV (IntKind.i64.wrap ((gP p k).1+r),IntKind.i64.wrap ((gP p k).2.1+r),0)=true∧(0<k→¬ mx4 (subV (gP p k) (gP p (k - 1))).1 (IntKind.i64.wrap (0 - (subV (gP p k) (gP p (k - 1))).1)) (subV (gP p k) (gP p (k - 1))).2.1 (IntKind.i64.wrap (0 - (subV (gP p k) (gP p (k - 1))).2.1))≤IntKind.i64.wrap (2*r)∧(1<k→¬ dotV (subV (gP p k) (gP p (k - 1))) (subV (gP p (k - 1)) (gP p (k - 2)))<0)):=by
 unfold fitK at h
 rw [Bool.not_eq_true',Bool.or_eq_false_iff,Bool.or_eq_false_iff] at h
 obtain ⟨⟨h1,h2⟩,h3⟩:=h
 refine ⟨by simpa using h1,by simpa using h2,fun hk=>?_⟩
 rw [decide_eq_true hk,Bool.true_and,Bool.or_eq_false_iff] at h3
 refine ⟨of_decide_eq_false h3.1,fun hk1=>?_⟩
 have:=h3.2
 rw [decide_eq_true hk1,Bool.true_and] at this
 exact of_decide_eq_false this
theorem zpA {a b:Vec} (ha:isDir a) (hb:isDir b) {m1 m2:Int} (h1:1≤m1∧m1≤48) (h2:1≤m2∧m2≤48) (h:¬ dotV (m2*b.1,m2*b.2.1,0) (m1*a.1,m1*a.2.1,0)<0):0≤a.1*b.1+a.2.1*b.2.1:=by
 have hX:1≤m1*m2:=Int.mul_pos (by omega) (by omega)
 have hY:m1*m2≤48*48:=Int.mul_le_mul h1.2 h2.2 (by omega) (by omega)
 have e:∀x y:Int,m2*y*(m1*x)=m1*m2*(x*y):=fun x y=>by simp only [Int.mul_assoc,Int.mul_comm,Int.mul_left_comm]
 unfold dotV at h
 dsimp only at h
 rw [e,e] at h
 generalize m1*m2=X at hX hY h
 rcases ha with rfl | rfl | rfl | rfl<;>rcases hb with rfl | rfl | rfl | rfl<;>dsimp only at h ⊢<;>first | (exact by decide) | (exfalso;rw [dot3 (by omega)] at h;omega)
theorem zpB {w:Vec} (hw:isDir w) {m:Int} (hm:1≤m∧m≤48):mx4 (m*w.1) (wI (0 - m*w.1)) (m*w.2.1) (wI (0 - m*w.2.1))=m:=by
 rcases hw with rfl | rfl | rfl | rfl<;>dsimp only
 all_goals
  rw [wI_eq (by omega),wI_eq (by omega)]
  unfold mx4 mx2
  repeat' split
  all_goals omega
theorem zme {o q w:Vec} (ho:inV o=true) (hq:inV q=true) (hw:isDir w) {m:Int} (hm:1≤m) (e:q=(o.1+m*w.1,o.2.1+m*w.2.1,o.2.2)):m≤48∧subV q o=(m*w.1,m*w.2.1,0):=by
 have h1:=qb.1 ho
 have h2:=qb.1 hq
 refine ⟨?_,?_⟩
 ·rw [e] at h2
  dsimp only at h2
  rcases hw with rfl | rfl | rfl | rfl<;>dsimp only at h2<;>omega
 ·rw [zbY (in_sm ho) (in_sm hq),e]
  exact Prod.ext (by dsimp only;omega) (Prod.ext (by dsimp only;omega) (by dsimp only;omega))
section
variable {fr:Vec} {pts ws:List Vec} {n s:Int}
theorem zd2 {p:List Vec} {k:Nat} {x:Vec} (h:p[k]?=some x):gP p k=x:=gP_at h rfl
theorem zqX (hf:inV fr=true) (hc:Chain fr pts ws) (hs:s=1∨s=-1) (hn:1≤n∧n≤4) (h:fitB (fr::pts) n=true) {fs:List Int}:(besR fr (n*s) pts ws fs).2=0:=by
 by_cases hne:pts=[]
 ·unfold besR;rw [if_pos hne]
 ·have hlen:=zP hc
  have hb:backL ws=false:=znr hc hf fun k a b h1 h2=>by
   have k2:=(List.getElem?_eq_some_iff.1 h2).1
   obtain ⟨ze0,e0⟩:∃z,(fr::pts)[k]?=some z:=⟨_,List.getElem?_eq_getElem (by rw [List.length_cons];omega)⟩
   obtain ⟨ze1,e1⟩:∃z,(pts)[k]?=some z:=⟨_,List.getElem?_eq_getElem (by omega)⟩
   obtain ⟨ze2,e2⟩:∃z,(pts)[k+1]?=some z:=⟨_,List.getElem?_eq_getElem (by omega)⟩
   obtain ⟨i0,d1,i1,m1,hm1,q1⟩:=ql hf hc e0 e1 h1
   obtain ⟨_,d2,i2,m2,hm2,q2⟩:=ql (k:=k+1) hf hc (by simpa using e1) e2 h2
   have s1:=zme i0 i1 d1 hm1 q1
   have s2:=zme i1 i2 d2 hm2 q2
   have hk:=(zcb (zhc (k:=k+2) h (by rw [List.length_cons];omega))).2.2 (by omega)
   have hk:=hk.2 (by omega)
   rw [show k+2 - 1=k+1 by omega,show k+2 - 2=k by omega,zd2 (k:=k+2) (x:=ze2) (by simpa using e2),zd2 (k:=k+1) (x:=ze1) (by simpa using e1),zd2 e0,s1.2,s2.2] at hk
   exact zpA d1 d2 ⟨hm1,s1.1⟩ ⟨hm2,s2.1⟩ hk
  have ht:=zns hf hc hs hn hne hb fun k o q w e0 e1 e2=>by
   obtain ⟨i0,d1,i1,m1,hm1,q1⟩:=ql hf hc e0 e1 e2
   have s1:=zme i0 i1 d1 hm1 q1
   have k2:=(List.getElem?_eq_some_iff.1 e1).1
   have hk:=((zcb (zhc (k:=k+1) h (by rw [List.length_cons];omega))).2.2 (by omega)).1
   rw [show k+1 - 1=k by omega,zd2 (k:=k+1) (x:=q) (by simpa using e1),zd2 e0,s1.2] at hk
   have hx:=zpB d1 ⟨hm1,s1.1⟩
   unfold wI at hx
   dsimp only at hk
   rw [hx,wri (by omega)] at hk
   rw [q1]
   rcases d1 with rfl | rfl | rfl | rfl<;>dsimp only<;>omega
  have hi:=zqW hf hc hs hn hne hb fun p hp=>by
   obtain ⟨k,hk⟩:=List.mem_iff_getElem?.1 hp
   have k2:=(List.getElem?_eq_some_iff.1 hk).1
   have hin:inV p=true:=by
    rcases List.mem_cons.1 hp with rfl | hp
    ·exact hf
    ·exact zcG hc p hp
   obtain ⟨a1,a2,_⟩:=zcb (zhc (k:=k) h k2)
   have hv:=qb.1 hin
   rw [zd2 hk,wri (by omega),wri (by omega)] at a1 a2
   have b1:=qb.1 a1
   have b2:=qb.1 a2
   dsimp only at b1 b2
   omega
  unfold besR
  rw [if_neg hne,hb,ht,hi];rfl
theorem zpP (hf:inV fr=true) (hc:Chain fr pts ws) (hs:s=1∨s=-1) (hn:1≤n∧n≤4) (hne:pts≠[]) {g:List Mov} (hg:g=expL fr 0 (mvP fr (n*s) pts ws) (qA 1 pts.length)) (hb:backL ws=false) (ht:turnL (mvP fr (n*s) pts ws) ws=false) (hi:(mvP fr (n*s) pts ws).all inV=true) {k:Nat} {m q:Mov} {a b d:Vec} (h0:g[k]?=some q) (h1:g[k+1]?=some m) (ha:(fr::pts)[k]?=some a) (hp:(fr::pts)[k+1]?=some b) (hd:ws[k]?=some d):m.2.1=q.2.2.1∧m.1=2∧m.2.2.2.2=((k+1:Nat):Int)∧dotV (wI (wI (0 - s)*d.2.1),wI (s*d.1),0) (subV m.2.1 a)=n∧dotV (wI (wI (0 - s)*d.2.1),wI (s*d.1),0) (subV m.2.2.1 b)=n∧1≤dotV d (subV m.2.2.1 m.2.1)∧zcw d (subV m.2.2.1 m.2.1)=(0,0,0):=by
 have hlen:=zP hc
 have hml:=zll hc (l:=n*s)
 have hkl:=(List.getElem?_eq_some_iff.1 hp).1
 rw [List.length_cons] at hkl
 have hl:-4≤n*s∧n*s≤4:=by rcases hs with rfl | rfl<;>omega
 obtain ⟨x,e0⟩:∃z,(mvP fr (n*s) pts ws)[k]?=some z:=⟨_,List.getElem?_eq_getElem (by omega)⟩
 obtain ⟨y,e1⟩:∃z,(mvP fr (n*s) pts ws)[k+1]?=some z:=⟨_,List.getElem?_eq_getElem (by omega)⟩
 subst hg
 obtain ⟨z,ez⟩:∃z,(fr::mvP fr (n*s) pts ws)[k]?=some z:=⟨_,List.getElem?_eq_getElem (by rw [List.length_cons];omega)⟩
 have eq0:=zc9 h0 ez e0
 have eq1:=zc9 (p:=x) h1 (by simpa using e0) e1
 have hdd:isDir d:=zad hc d (List.mem_of_getElem? hd)
 have hx:=zcB hf hc hl hne e0
 have hy:=zcB hf hc hl hne e1
 have hai:∀z∈fr::pts,inV z=true:=fun z hz=>by
  rcases List.mem_cons.1 hz with rfl | hz
  ·exact hf
  ·exact zcG hc z hz
 have sa:=in_sm (hai a (List.mem_of_getElem? ha))
 have sb:=in_sm (hai b (List.mem_of_getElem? hp))
 have d1:=ziO hf hc hs hn hne hb e0 ha (.inl hd)
 have d2:=ziO hf hc hs hn hne hb e1 hp (.inr ⟨k,rfl,hd⟩)
 have d3:=zpQ hf hc hl hne ht e0 e1 hd hdd
 have hL:=zny hdd hs
 rw [eq0,eq1]
 dsimp only
 have hfd:(qA 1 pts.length).getD (0+(k+1) - 1) 0=((k+1:Nat):Int):=by
  rw [show 0+(k+1) - 1=k by omega,zda (by omega)];omega
 refine ⟨rfl,rfl,hfd,?_,?_,?_,?_⟩
 ·rw [hL.1,zet hL.2 (zef sa hx),zbY sa hx]
  exact d1.1
 ·rw [hL.1,zet hL.2 (zef sb hy),zbY sb hy]
  exact d2.1
 ·rw [zet hdd (zef hx hy),zbY hx hy]
  exact d3.2.1
 ·have hz:(subV y x).2.2=0:=by rw [zbY hx hy];exact d3.1
  have hc2:d.2.1*(subV y x).1=d.1*(subV y x).2.1:=by rw [zbY hx hy];exact d3.2.2
  exact zkz hdd ⟨(zef hx hy).1,(zef hx hy).2.1⟩ hz hc2
theorem ziy (hf:inV fr=true) (hc:Chain fr pts ws) (hs:s=1∨s=-1) (hn:1≤n∧n≤4) (hne:pts≠[]) {g:List Mov} (hg:g=expL fr 0 (mvP fr (n*s) pts ws) (qA 1 pts.length)) {m:Mov} {d:Vec} (h0:g[0]?=some m) (hd:ws[0]?=some d):m.2.1=fr∧m.2.2.2.2=1∧dotV d (subV m.2.2.1 fr)=0:=by
 have hml:=zll hc (l:=n*s)
 have hl:-4≤n*s∧n*s≤4:=by rcases hs with rfl | rfl<;>omega
 have e0:(mvP fr (n*s) pts ws)[0]?=some (addV fr (zn (n*s) d)):=by
  have:ws.headD (0,0,0)=d:=by
   cases ws with
   | nil=>cases hd
   | cons w r=>exact Option.some.inj hd
  unfold mvP
  rw [this];rfl
 subst hg
 have eq0:=zc9 (p:=fr) h0 rfl e0
 have hdd:isDir d:=zad hc d (List.mem_of_getElem? hd)
 have hx:=zcB hf hc hl hne e0
 have hlp:0<pts.length:=List.length_pos_iff.2 hne
 refine ⟨by rw [eq0],by rw [eq0];dsimp only;rw [zda (by omega)];rfl,?_⟩
 rw [eq0]
 dsimp only
 rw [zet hdd (zef (in_sm hf) hx),zbY (in_sm hf) hx,add1 hf hdd hl]
 dsimp only
 rcases hdd with rfl | rfl | rfl | rfl<;>dsimp only<;>omega
end
end Go.Proofs.YteimplkdcjapdaaGreatDoor
namespace Go.Proofs.YteimplkdcjapdaaGreatDoor
open Go.RowKit
def mirT (v:Vec):Vec:=(IntKind.i64.wrap (0 - v.1),v.2.1,v.2.2)
theorem zhm {v:Vec} (h:smV v):mirT v=mirS v:=by
 have:=h.1
 unfold mirT mirS
 rw [wri (by omega)]
 exact Prod.ext (by dsimp only;omega) rfl
def ByT (l:List (Int×Int)):Prop:=∀t∈l,0≤t.1∧0≤t.2∧t.2<256
def PbD (v1:Vec) (l:List (Int×Int)) (v2:List Vec) (n s:Int) (g1:List Mov) (e1:Int) (g2:List Mov) (e2:Int):Prop:=
 ∃pts ws,v2=v1::pts∧ws=(l.take 6).map (fun t=>zr t.1)∧Chain v1 pts ws∧inV v1=true∧(s=1∨s=-1)∧(1≤n∧n≤4)∧pts.length≤6∧g1=(besR v1 (n*s) pts ws (qA 1 pts.length)).1∧e1=(besR v1 (n*s) pts ws (qA 1 pts.length)).2∧g2=g1.map mirM∧e2=e1
theorem pb_n {radius v5 v6 v7:Int} (hr:0≤radius∧radius<256) (e5:IntKind.i64.wrap radius=v5) (e6:v5.tmod 4=v6) (e7:IntKind.i64.wrap (1+v6)=v7):1≤v7∧v7≤4:=by
 rw [wri (by omega)] at e5
 have h:=tm4 (n:=v5) (by omega)
 rw [wri (by omega)] at e7
 omega
theorem zD {v1:Vec} {l:List (Int×Int)} {v2:List Vec} (e2:cornP v1 l=v2):(1≤v2.length∧v2.length≤7)∧v2.length≤l.length+1:=by
 rw [← e2]
 unfold cornP
 rw [List.length_cons,zik,List.length_take]
 omega
theorem ziL {v2:List Vec} (hin:v2.all inV=true):v2.map mirT=v2.map mirS:=List.map_congr_left fun v hv=>zhm (in_sm (List.all_eq_true.1 hin v hv))
theorem pb_o2 {v2 o2:List Vec} (hin:v2.all inV=true) (hO:v2.map mirT=o2):o2.all inV=true∧o2.length=v2.length:=by
 rw [← hO,ziL hin]
 exact ⟨zlh.trans hin,List.length_map _⟩
theorem zcD {side n:Int} {v2:List Vec} {v10:List Sb} (hs:side=1∨side=2) (hn:1≤n∧n≤4) (hin:v2.all inV=true) (hl:v2.length≤7) (e10:mainX (besL side n (v2.drop 1))=v10):zG v10=0∧SbW v10:=by
 rw [← e10]
 have h1:∀q∈v2.drop 1,inV q=true:=fun q hq=>List.all_eq_true.1 hin q (List.mem_of_mem_drop hq)
 have h2:(v2.drop 1).length≤90:=by rw [List.length_drop];omega
 exact ⟨zfE hs hn h1 h2,bes_w hs hn h1 h2⟩
theorem zv {l:List (Int×Int)} {radius side side2 s v5 v6 v7 v13 v24:Int} {v1 x20:Vec} {v2 o2:List Vec} {v10 v17:List Sb} {v12 v23:List Mov} {n19:Nat} (hk:(side=1∧side2=2∧s=1)∨(side=2∧side2=1∧s=-1)) (hB:ByT l) (hr:0≤radius∧radius<256) (hin:v2.all inV=true) (e2:cornP v1 l=v2) (e5:IntKind.i64.wrap radius=v5) (e6:v5.tmod 4=v6) (e7:IntKind.i64.wrap (1+v6)=v7) (e10:mainX (besL side v7 (v2.drop 1))=v10) (e12:(runP v10 [] v1).1=v12) (e13:(runP v10 [] v1).2=v13) (hO:v2.map mirT=o2) (e17:mainX (besL side2 v7 (o2.drop 1))=v17) (s21:(0:Int)=(n19:Int)) (s22:o2[n19]?=some x20) (e23:(runP v17 [] x20).1=v23) (e24:(runP v17 [] x20).2=v24):PbD v1 l v2 v7 s v12 v13 v23 v24:=by
 have hn:=pb_n hr e5 e6 e7
 have hl:=zD e2
 have hs:s=1∨s=-1:=by omega
 rw [ziL hin] at hO
 have hin2:=hin
 rw [← e2] at hin2
 unfold cornP at hin2
 rw [List.all_cons,Bool.and_eq_true] at hin2
 have hc:=zdV hin2.1 (fun t ht=>hB t (List.mem_of_mem_take ht)) hin2.2
 have ev:v2=v1::cornL v1 (l.take 6):=e2.symm
 generalize hp:cornL v1 (l.take 6)=pts at hc ev
 have hpl:pts.length≤6:=by have:=hl.1.2;rw [ev,List.length_cons] at this;omega
 have ed:v2.drop 1=pts:=by rw [ev];rfl
 have eo:o2=mirS v1::pts.map mirS:=by rw [← hO,ev];rfl
 have eod:o2.drop 1=pts.map mirS:=by rw [eo];rfl
 have hn0:n19=0:=by omega
 subst hn0
 rw [eo] at s22
 have hx:mirS v1=x20:=Option.some.inj s22
 have hr1:=zl5 (side:=side) (n:=v7) (s:=s) hin2.1 hc (by omega) hn (by omega)
 have hr2:=zl5 (side:=side2) (n:=v7) (s:=-s) ((zf1 v1).trans hin2.1) (zf0 hc) (by omega) hn (by rw [List.length_map];omega)
 rw [List.length_map,zpZ hin2.1 hc hs hn] at hr2
 rw [ed] at e10
 rw [eod] at e17
 refine ⟨pts,_,ev,rfl,hc,hin2.1,hs,hn,hpl,?_,?_,?_,?_⟩
 ·rw [← e12,← e10,hr1]
 ·rw [← e13,← e10,hr1]
 ·rw [← e23,← e17,← hx,hr2,← e12,← e10,hr1]
 ·rw [← e24,← e17,← hx,hr2,← e13,← e10,hr1]
section
variable {v1:Vec} {l:List (Int×Int)} {v2:List Vec} {n s:Int} {g1:List Mov} {e1:Int} {g2:List Mov} {e2:Int}
theorem pb_e (h:PbD v1 l v2 n s g1 e1 g2 e2):e1=e2:=by
 obtain ⟨pts,ws,-,-,-,-,-,-,-,-,-,-,h⟩:=h
 exact h.symm
theorem zlN (h:PbD v1 l v2 n s g1 e1 g2 e2) (h0:e1≠0) (h1:e1≠17):e1=3:=by
 obtain ⟨pts,ws,-,-,-,-,-,-,-,-,h,-,-⟩:=h
 have:=zn2 (fr:=v1) (pts:=pts) (ws:=ws) (fs:=qA 1 pts.length) (l:=n*s)
 rw [← h] at this
 omega
theorem zi8 (h:PbD v1 l v2 n s g1 e1 g2 e2) (h0:e1≠0):fitB v2 n=false:=by
 obtain ⟨pts,ws,e,-,hc,hf,hs,hn,-,-,h,-,-⟩:=h
 cases hh:fitB v2 n with
 | false=>rfl
 | true =>
  rw [e] at hh
  exact absurd (h.trans (zqX hf hc hs hn hh)) h0
theorem zau (h:PbD v1 l v2 n s g1 e1 g2 e2) (h0:e1≠0∨v2.length<2):g1=[]∧g2=[]:=by
 obtain ⟨pts,ws,e,-,-,-,-,-,-,h1,h2,h3,-⟩:=h
 have hg:g1=[]:=by
  rw [h1]
  refine zp0 (h0.imp (fun h=>by rw [← h2];exact h) fun h=>?_)
  rw [e,List.length_cons] at h
  exact List.length_eq_zero_iff.1 (by omega)
 exact ⟨hg,by rw [h3,hg];rfl⟩
theorem pb_ok (h:PbD v1 l v2 n s g1 e1 g2 e2) (h0:e1=0) (h2:¬ v2.length<2):∃pts ws,v2=v1::pts∧ws=(l.take 6).map (fun t=>zr t.1)∧Chain v1 pts ws∧inV v1=true∧(s=1∨s=-1)∧(1≤n∧n≤4)∧pts≠[]∧g1=expL v1 0 (mvP v1 (n*s) pts ws) (qA 1 pts.length)∧g2=g1.map mirM∧backL ws=false∧turnL (mvP v1 (n*s) pts ws) ws=false∧(mvP v1 (n*s) pts ws).all inV=true:=by
 obtain ⟨pts,ws,e,ew,hc,hf,hs,hn,-,h3,h4,h5,-⟩:=h
 have hne:pts≠[]:=by
  rintro rfl
  rw [e] at h2
  exact h2 (by rw [List.length_singleton];omega)
 obtain ⟨a,b,c,d⟩:=zrt (h4.symm.trans h0) hne
 exact ⟨pts,ws,e,ew,hc,hf,hs,hn,hne,h3.trans a,h5,b,c,d⟩
theorem zL (h:PbD v1 l v2 n s g1 e1 g2 e2) (h0:e1=0) (h2:¬ v2.length<2):g1.length=v2.length∧g2.length=v2.length:=by
 obtain ⟨pts,ws,e,-,hc,-,-,-,-,h3,h5,-,-,-⟩:=pb_ok h h0 h2
 have hl:g1.length=v2.length:=by rw [h3,zha,zll hc,e,List.length_cons]
 exact ⟨hl,by rw [h5,List.length_map,hl]⟩
theorem zlS {k:Nat} {t:Int×Int} {pts ws:List Vec} (ew:ws=(l.take 6).map (fun t=>zr t.1)) (hk:k<ws.length) (ht:l[k]?=some t):ws[k]?=some (zr t.1):=by
 subst ew
 rw [List.length_map,List.length_take] at hk
 rw [List.getElem?_map,List.getElem?_take_of_lt (by omega),ht];rfl
theorem zcR (h:PbD v1 l v2 n s g1 e1 g2 e2) (h0:e1=0) (h2:¬ v2.length<2) {k:Nat} {m:Mov} (hk:(0:Int)=(k:Int)) (hm:g1[k]?=some m):m.2.1=v1∧m.2.2.2.2=1:=by
 obtain rfl:k=0:=by omega
 obtain ⟨pts,ws,e,ew,hc,hf,hs,hn,hne,h3,-,-,-,-⟩:=pb_ok h h0 h2
 have hl:=zP hc
 have hp:0<pts.length:=List.length_pos_iff.2 hne
 have hd:=List.getElem?_eq_getElem (l:=ws) (i:=0) (by omega)
 have:=ziy hf hc hs hn hne h3 hm hd
 exact ⟨this.1,this.2.1⟩
theorem zlO (h:PbD v1 l v2 n s g1 e1 g2 e2) (h0:e1=0) (h2:¬ v2.length<2) {j k:Nat} {m:Mov} {t:Int×Int} (hj:(0:Int)=(j:Int)) (ht:l[j]?=some t) (hk:(0:Int)=(k:Int)) (hm:g1[k]?=some m):dotV (zr t.1) (subV m.2.2.1 v1)=0:=by
 obtain rfl:k=0:=by omega
 obtain rfl:j=0:=by omega
 obtain ⟨pts,ws,e,ew,hc,hf,hs,hn,hne,h3,-,-,-,-⟩:=pb_ok h h0 h2
 have hl:=zP hc
 have hp:0<pts.length:=List.length_pos_iff.2 hne
 exact (ziy hf hc hs hn hne h3 hm (zlS (pts:=pts) ew (by omega) ht)).2.2
theorem zlP (h:PbD v1 l v2 n s g1 e1 g2 e2) (h0:e1=0) (h2:¬ v2.length<2) {k:Nat} {m o:Mov} (hm:g1[k]?=some m) (ho:g2[k]?=some o):o.2.1=(IntKind.i64.wrap (0 - m.2.1.1),m.2.1.2.1,m.2.1.2.2)∧o.2.2.1=(IntKind.i64.wrap (0 - m.2.2.1.1),m.2.2.1.2.1,m.2.2.1.2.2)∧o.2.2.2.2=m.2.2.2.2:=by
 obtain ⟨pts,ws,e,ew,hc,hf,hs,hn,hne,h3,h5,-,-,hi⟩:=pb_ok h h0 h2
 rw [h5,List.getElem?_map,hm] at ho
 obtain rfl:mirM m=o:=Option.some.inj ho
 rw [h3] at hm
 have hk:=(List.getElem?_eq_some_iff.1 hm).1
 rw [zha] at hk
 obtain ⟨y,ey⟩:∃y,(mvP v1 (n*s) pts ws)[k]?=some y:=⟨_,List.getElem?_eq_getElem hk⟩
 obtain ⟨z,ez⟩:∃z,(v1::mvP v1 (n*s) pts ws)[k]?=some z:=⟨_,List.getElem?_eq_getElem (by rw [List.length_cons];omega)⟩
 have eq:=zc9 hm ez ey
 have iy:inV y=true:=List.all_eq_true.1 hi y (List.mem_of_getElem? ey)
 have iz:inV z=true:=by
  rcases List.mem_cons.1 (List.mem_of_getElem? ez) with rfl | hz
  ·exact hf
  ·exact List.all_eq_true.1 hi z hz
 rw [eq]
 exact ⟨(zhm (in_sm iz)).symm,(zhm (in_sm iy)).symm,rfl⟩
theorem zhs (h:PbD v1 l v2 n s g1 e1 g2 e2) (h0:e1=0) (h2:¬ v2.length<2) {sn:Int} (hsn:(s=1∧sn=-1)∨(s=-1∧sn=1)) {k:Nat} {m q:Mov} {a b:Vec} {t:Int×Int} (hm:g1[k+1]?=some m) (hq:g1[k]?=some q) (ha:v2[k]?=some a) (hb:v2[k+1]?=some b) (ht:l[k]?=some t):m.2.1=q.2.2.1∧m.1=2∧m.2.2.2.2=((k+1:Nat):Int)∧dotV (IntKind.i64.wrap (sn*(zr t.1).2.1),IntKind.i64.wrap (s*(zr t.1).1),0) (subV m.2.1 a)=n∧dotV (IntKind.i64.wrap (sn*(zr t.1).2.1),IntKind.i64.wrap (s*(zr t.1).1),0) (subV m.2.2.1 b)=n∧1≤dotV (zr t.1) (subV m.2.2.1 m.2.1)∧zcw (zr t.1) (subV m.2.2.1 m.2.1)=(0,0,0):=by
 obtain ⟨pts,ws,e,ew,hc,hf,hs,hn,hne,h3,-,c1,c2,c3⟩:=pb_ok h h0 h2
 have hl:=zP hc
 subst e
 have hkb:=(List.getElem?_eq_some_iff.1 hb).1
 rw [List.length_cons] at hkb
 have hd:=zlS (pts:=pts) ew (by omega) ht
 have:=zpP hf hc hs hn hne h3 c1 c2 c3 hq hm ha hb hd
 have hw:wI (0 - s)=sn:=by rcases hsn with ⟨rfl,rfl⟩ | ⟨rfl,rfl⟩<;>decide
 rw [hw] at this
 exact this
end
end Go.Proofs.YteimplkdcjapdaaGreatDoor
set_option synthInstance.maxSize 2000
set_option synthInstance.maxHeartbeats 400000
namespace Go.Proofs.YteimplkdcjapdaaGreatDoor
open Go.RowKit
section
variable {v1:Vec} {l:List (Int×Int)} {v2:List Vec} {n s:Int} {g1:List Mov} {e1:Int} {g2:List Mov} {e2:Int}
theorem gh_kh {K:Kit} {F:Fact} {id s n:Nat} {v:Value} (h:F.c n=pV v):Gh.sound K F ⟨id,[.sl s (.o (.c (.k v)))],[.sl s (.o (.c (.h n)))],[]⟩:=by
 intro β a W hg hA
 have h1:a.tmps.getD s undef=v:=hA _ (List.mem_cons_self ..)
 refine ⟨β,hg,fun _ _=>Loc.same.rfl,fun _ h=>h,fun _ h=>.inl h,fun c hc=>(by cases hc),fun A hAm=>?_⟩
 obtain rfl:=List.mem_singleton.1 hAm
 show F.c n (a.tmps.getD s undef) W β.D
 rw [h,h1];rfl
theorem get_x {α:Type} {l:List α} {k:Nat} (h:k<l.length):∃x,l[k]?=some x:=⟨_,List.getElem?_eq_getElem h⟩
theorem pb_lt (h:PbD v1 l v2 n s g1 e1 g2 e2) (h0:e1=0) (h2:¬ v2.length<2) (hl:v2.length≤l.length+1) {k:Nat} {m:Mov} (hm:g1[k]?=some m):k<v2.length∧k<l.length+1∧k<g2.length:=by
 have h3:=zL h h0 h2
 have h4:=(List.getElem?_eq_some_iff.1 hm).1
 omega
theorem zlQ (h:PbD v1 l v2 n s g1 e1 g2 e2) (h0:e1=0) (h2:¬ v2.length<2) (hl:v2.length≤l.length+1) {k:Nat} (hk:1≤k) {m q:Mov} (hm:g1[k]?=some m) (hq:g1[k - 1]?=some q):m.2.1=q.2.2.1∧m.1=2∧m.2.2.2.2=(k:Int):=by
 obtain ⟨j,rfl⟩:∃j,k=j+1:=⟨k - 1,by omega⟩
 have hL:=pb_lt h h0 h2 hl hm
 obtain ⟨a,ha⟩:=get_x (l:=v2) (k:=j) (by omega)
 obtain ⟨b,hb⟩:=get_x (l:=v2) (k:=j+1) (by omega)
 obtain ⟨t,ht⟩:=get_x (l:=l) (k:=j) (by omega)
 have hs:s=1∨s=-1:=(by obtain ⟨pts,ws,-,-,-,-,hs,-⟩:=h;exact hs)
 have hsn:(s=1∧-s=-1)∨(s=-1∧-s=1):=by omega
 have:=zhs h h0 h2 hsn hm hq ha hb ht
 exact ⟨this.1,this.2.1,this.2.2.1⟩
theorem zro (h:PbD v1 l v2 n s g1 e1 g2 e2) (h0:e1=0) (h2:¬ v2.length<2) (hl:v2.length≤l.length+1) {sn:Int} (hsn:(s=1∧sn=-1)∨(s=-1∧sn=1)) {k:Nat} (hk:1≤k) {m:Mov} {a:Vec} {t:Int×Int} (hm:g1[k]?=some m) (ht:l[k - 1]?=some t) (ha:v2[k - 1]?=some a):dotV (IntKind.i64.wrap (sn*(zr t.1).2.1),IntKind.i64.wrap (s*(zr t.1).1),0) (subV m.2.1 a)=n:=by
 obtain ⟨j,rfl⟩:∃j,k=j+1:=⟨k - 1,by omega⟩
 have hL:=pb_lt h h0 h2 hl hm
 have h4:=(List.getElem?_eq_some_iff.1 hm).1
 obtain ⟨q,hq⟩:=get_x (l:=g1) (k:=j) (by omega)
 obtain ⟨b,hb⟩:=get_x (l:=v2) (k:=j+1) (by omega)
 exact (zhs h h0 h2 hsn hm hq ha hb ht).2.2.2.1
theorem zlR (h:PbD v1 l v2 n s g1 e1 g2 e2) (h0:e1=0) (h2:¬ v2.length<2) (hl:v2.length≤l.length+1) {sn:Int} (hsn:(s=1∧sn=-1)∨(s=-1∧sn=1)) {k:Nat} (hk:1≤k) {m:Mov} {b:Vec} {t:Int×Int} (hm:g1[k]?=some m) (ht:l[k - 1]?=some t) (hb:v2[k]?=some b):dotV (IntKind.i64.wrap (sn*(zr t.1).2.1),IntKind.i64.wrap (s*(zr t.1).1),0) (subV m.2.2.1 b)=n∧1≤dotV (zr t.1) (subV m.2.2.1 m.2.1)∧zcw (zr t.1) (subV m.2.2.1 m.2.1)=(0,0,0):=by
 obtain ⟨j,rfl⟩:∃j,k=j+1:=⟨k - 1,by omega⟩
 have hL:=pb_lt h h0 h2 hl hm
 have h4:=(List.getElem?_eq_some_iff.1 hm).1
 obtain ⟨q,hq⟩:=get_x (l:=g1) (k:=j) (by omega)
 obtain ⟨a,ha⟩:=get_x (l:=v2) (k:=j) (by omega)
 have:=zhs h h0 h2 hsn hm hq ha hb ht
 exact ⟨this.2.2.2.2.1,this.2.2.2.2.2.1,this.2.2.2.2.2.2⟩
end
def zeX:List Atom:=[.sl 1 3,.sl 4 (.o (.c (.p 0 0))),.sl 9 (.o (.c (.k (.bool true)))),.sl 10 9,.sl 11 12,.sl 12 14,.sl 13 15,.sl 40 9,.sl 41 13,.sl 42 16,.bx 0 26 [.h 6,.h 7,.h 8],.gn 901]
def zi4:LoopS:=⟨8,zeX.map (tnA (jf (hZ 16 [kI 0])) (kf []) (kf [])),(.x 0),(drs [9] zeX)⟩
def zrk:Tr:=.s [(6000,.bin .lss 3 16 13)] (.b 17 (.s [(6001,.ia 35 26 3 9 16),(6002,.ld 26 3 18),(6006,.call 34 [.o (.g [19,20,21])] (.o .c)),(6007,.un .not 22)] (.b 23 (.z .no) (.s [(6008,.bin .add 3 16 (kI 1))] (.z (.nx (hZ 16 [24]) [] []))))) (.z (.xt (.x 0) (hZ 16 []) [] [])))
theorem zlJ {w0:World} (start:Vec) (l:(List (Int×Int))) (right:Bool) (radius:Int) (v1:Vec) (v2:(List Vec)) (v5:Int) (v6:Int) (v7:Int) (v9:Int) (v10:Int) (v11:Int) (hv:(v2.length:Int)=v9) (hl:v2.length≤7) (hO:v2.all inV=true):LpH (KN w0) Tryz.prog 7 ⟨ntOf Tryz.prog 7,[],[]⟩ zi4 0 ⟨16,[sI v11,sI v10,sI v9,sI v7,sI v6,sI v5,.ls 3 cV kV v2,sI v1.2.2,sI v1.2.1,sI v1.1,.v (.int .u8 radius),sB right,.ls 2 cTn kTn l,sI start.2.2,sI start.2.1,sI start.1],[],[]⟩:=by
 refine zq _ ⟨zeX,zi4,(17,0,0),(16,0,0),6000⟩ (T:=Int) (fun t=>⟨17,[sI t,sI v11,sI v10,sI v9,sI v7,sI v6,sI v5,.ls 3 cV kV v2,sI v1.2.2,sI v1.2.1,sI v1.1,.v (.int .u8 radius),sB right,.ls 2 cTn kTn l,sI start.2.2,sI start.2.1,sI start.1],[],[]⟩) (fun i=>∃k:Nat,i=(k:Int)∧k≤v2.length∧(v2.drop k).all inV=true) (fun i=>(v9 - i).toNat) (0:Int) (hZ 16 [kI 0]) [] [] zrk mixed ⟨0,rfl,Nat.zero_le _,hO⟩ rfl rfl rfl rfl (fun _=>rfl) rfl rfl (by kernel_rfl) ?_
 intro i hJ
 obtain ⟨k,hi,hk,hs⟩:=hJ
 intro v501 e501
 refine ai (fun h502=>?_) fun h502=>?_
 ·
  refine ai (by (have dh502:=LD e501 h502;have hlt:k<v2.length:=(by omega);exact ⟨k,_,hi,List.getElem?_eq_getElem hlt⟩)) fun n503 x504 s505 s506=>?_
  obtain ⟨v507,e507⟩:=LX (inV x504)
  refine cx (.o (.c (sB v507))) (t_in x504 v507 e507) rfl ?_
  intro v508 e508
  refine ai (fun h509=>?_) fun h509=>?_
  ·
   exfalso
   (exfalso;have dh502:=LD e501 h502;have dh509:=(Bool.not_eq_true' _).mp (e508.trans h509);have hkn:n503=k:=(by omega);rw [hkn] at s506;obtain ⟨hlt,rfl⟩:=List.getElem?_eq_some_iff.1 s506;rw [List.drop_eq_getElem_cons hlt,List.all_cons,e507,dh509] at hs;cases hs)
  ·
   intro v510 e510
   refine nxl v510 ?_ ?_ rfl
   all_goals (have dh502:=LD e501 h502;have dh509:=(Bool.not_eq_false' _).mp (e508.trans h509);have hkn:n503=k:=(by omega);rw [hkn] at s506;obtain ⟨hlt,rfl⟩:=List.getElem?_eq_some_iff.1 s506;rw [List.drop_eq_getElem_cons hlt,List.all_cons,e507,dh509] at hs;rw [Bool.true_and] at hs;have x3:v510=((k+1:Nat):Int):=(by rw [← e510,hi,wri (by omega)];omega))
   ·show (v9 - v510).toNat<(v9 - i).toNat
    omega
   ·exact ⟨k+1,x3,by omega,hs⟩
 ·
  rfl
def ze3:List Atom:=[.sl 1 3,.sl 4 (.o (.c (.p 0 0))),.sl 9 (.o (.c (.k (.bool true)))),.sl 10 9,.sl 11 12,.sl 12 14,.sl 13 15,.sl 40 9,.sl 41 13,.sl 42 16,.bx 0 26 [.h 6,.h 7,.h 8],.gn 901]
def zi7:LoopS:=⟨8,ze3.map (tnA (jf (hZ 16 [kI 0])) (kf []) (kf [])),.r,(drs [9] ze3)++[.sl 8 16]⟩
def zrn:Tr:=.s [(7000,.bin .lss 3 16 13)] (.b 17 (.s [(7001,.ia 35 26 3 9 16),(7002,.ld 26 3 18),(7006,.call 34 [.o (.g [19,20,21])] (.o .c)),(7007,.un .not 22)] (.b 23 (.z (.xt .r (hZ 16 [kB true]) [] [])) (.s [(7008,.bin .add 3 16 (kI 1))] (.z (.nx (hZ 16 [24]) [] []))))) (.z .no))
theorem zlM {w0:World} (start:Vec) (l:(List (Int×Int))) (right:Bool) (radius:Int) (v1:Vec) (v2:(List Vec)) (v5:Int) (v6:Int) (v7:Int) (v9:Int) (v10:Int) (v11:Int) (ob:Bool) (hv:(v2.length:Int)=v9) (hl:v2.length≤7) (hO:v2.all inV=false) (ho:ob=true):LpH (KN w0) Tryz.prog 7 ⟨ntOf Tryz.prog 7,[],[]⟩ zi7 0 ⟨17,[sB ob,sI v11,sI v10,sI v9,sI v7,sI v6,sI v5,.ls 3 cV kV v2,sI v1.2.2,sI v1.2.1,sI v1.1,.v (.int .u8 radius),sB right,.ls 2 cTn kTn l,sI start.2.2,sI start.2.1,sI start.1],[],[]⟩:=by
 refine zq _ ⟨ze3,zi7,(17,0,0),(17,0,0),7000⟩ (T:=Int) (fun t=>⟨17,[sI t,sI v11,sI v10,sI v9,sI v7,sI v6,sI v5,.ls 3 cV kV v2,sI v1.2.2,sI v1.2.1,sI v1.1,.v (.int .u8 radius),sB right,.ls 2 cTn kTn l,sI start.2.2,sI start.2.1,sI start.1],[],[]⟩) (fun i=>∃k:Nat,i=(k:Int)∧k≤v2.length∧(v2.drop k).all inV=false) (fun i=>(v9 - i).toNat) (0:Int) (hZ 16 [kI 0]) [] [] zrn mixed ⟨0,rfl,Nat.zero_le _,hO⟩ rfl rfl rfl rfl (fun _=>rfl) rfl rfl (by kernel_rfl) ?_
 intro i hJ
 obtain ⟨k,hi,hk,hs⟩:=hJ
 intro v501 e501
 refine ai (fun h502=>?_) fun h502=>?_
 ·
  refine ai (by (have dh502:=LD e501 h502;have hlt:k<v2.length:=(by omega);exact ⟨k,_,hi,List.getElem?_eq_getElem hlt⟩)) fun n503 x504 s505 s506=>?_
  obtain ⟨v507,e507⟩:=LX (inV x504)
  refine cx (.o (.c (sB v507))) (t_in x504 v507 e507) rfl ?_
  intro v508 e508
  refine ai (fun h509=>?_) fun h509=>?_
  ·
   have hq:((true)=ob)∧True:=by
    refine ⟨?_,trivial⟩
    first | exact ho.symm | exact ho | (rw [ho]) | trivial
   obtain ⟨q0,-⟩:=hq
   rw [← q0]
   rfl
  ·
   intro v510 e510
   refine nxl v510 ?_ ?_ rfl
   all_goals (have dh502:=LD e501 h502;have dh509:=(Bool.not_eq_false' _).mp (e508.trans h509);have hkn:n503=k:=(by omega);rw [hkn] at s506;obtain ⟨hlt,rfl⟩:=List.getElem?_eq_some_iff.1 s506;rw [List.drop_eq_getElem_cons hlt,List.all_cons,e507,dh509] at hs;rw [Bool.true_and] at hs;have x3:v510=((k+1:Nat):Int):=(by rw [← e510,hi,wri (by omega)];omega))
   ·show (v9 - v510).toNat<(v9 - i).toNat
    omega
   ·exact ⟨k+1,x3,by omega,hs⟩
 ·
  exfalso
  (have dh502:=LE e501 h502;rw [List.drop_eq_nil_of_le (by omega)] at hs;cases hs)
def zeY:List Atom:=[.sl 1 3,.sl 4 (.o (.c (.p 0 0))),.sl 9 (.o (.c (.k (.bool true)))),.sl 10 9,.sl 11 12,.sl 12 14,.sl 13 15,.sl 16 17,.sl 17 18,.sl 18 (.o (.c (.gr 901))),.sl 60 9,.sl 61 19,.sl 62 20,.bx 0 26 [.h 6,.h 7,.h 8],.gl 901 26 3 1]
def zi5:LoopS:=⟨16,zeY.map (tnA (jf (hZ 20 [kI 0])) (kf [0,0]) (kf [])),(.x 2),(drs [9,12,14] zeY)++[.sl 18 20]⟩
def zrl:Tr:=.s [(8000,.bin .lss 3 20 19)] (.b 21 (.s [(8001,.ia 35 26 3 9 20),(8002,.ld 26 3 22),(8008,.un .neg 23),(8013,.call 21 [26,24,25] (.o (.g 3))),(0,.raw [(1008014,.dat 26 1 [.h 27,.h 28,.h 29] 30)] 1),(0,.raw [(1008015,.app 26 3 901 1 2 30 [] false)] 0),(8017,.bin .add 3 20 (kI 1))] (.z (.nx (hZ 20 [31]) [0,2] []))) (.s [(0,.gh ⟨16,.gl 901 26 3 1::[18].map (fun s=>.sl s (.o (.c (.gr 901)))),[18].map (fun s=>.sl s 22),[901]⟩ 1)] (.z (.xt (.x 2) (hZ 20 [22]) [0] []))))
theorem zlK {w0:World} (start:Vec) (l:(List (Int×Int))) (right:Bool) (radius:Int) (v1:Vec) (v2:(List Vec)) (v5:Int) (v6:Int) (v7:Int) (v9:Int) (v10:Int) (v11:Int) (v12:(List Sb)) (v14:(List Mov)) (v15:Int) (v18:Int) (o2:(List Vec)) (hv:(v2.length:Int)=v18) (hl:v2.length≤7) (hO:v2.map mirT=o2):LpH (KN w0) Tryz.prog 7 ⟨ntOf Tryz.prog 7,[],[]⟩ zi5 1 ⟨21,[.ls 3 cV kV o2,sI v18,sI v15,.ls 11 cM kM v14,.ls 3 cSb kSb v12,sI v11,sI v10,sI v9,sI v7,sI v6,sI v5,.ls 3 cV kV v2,sI v1.2.2,sI v1.2.1,sI v1.1,.v (.int .u8 radius),sB right,.ls 2 cTn kTn l,sI start.2.2,sI start.2.1,sI start.1],[pG cV ([]:List Vec)],[]⟩:=by
 refine zq _ ⟨zeY,zi5,(21,2,0),(21,1,0),8000⟩ (T:=Int×(List Vec)) (fun t=>⟨21,[sI t.1,sI v18,sI v15,.ls 11 cM kM v14,.ls 3 cSb kSb v12,sI v11,sI v10,sI v9,sI v7,sI v6,sI v5,.ls 3 cV kV v2,sI v1.2.2,sI v1.2.1,sI v1.1,.v (.int .u8 radius),sB right,.ls 2 cTn kTn l,sI start.2.2,sI start.2.1,sI start.1],[pG cV ([]:List Vec),pG cV t.2],[]⟩) (fun (i,o)=>∃k:Nat,i=(k:Int)∧k≤v2.length∧o.length=k∧o++(v2.drop k).map mirT=o2) (fun (i,o)=>(v18 - i).toNat) ((0:Int),([]:List Vec)) (hZ 20 [kI 0]) [0,0] [] zrl mixed ⟨0,rfl,Nat.zero_le _,rfl,hO⟩ rfl rfl rfl rfl (fun _=>rfl) rfl rfl (by kernel_rfl) ?_
 rintro ⟨i,o⟩ hJ
 dsimp only at hJ ⊢
 obtain ⟨k,hi,hk,hol,hs⟩:=hJ
 intro v501 e501
 refine ai (fun h502=>?_) fun h502=>?_
 ·
  refine ai (by (have dh502:=LD e501 h502;have hlt:k<v2.length:=(by omega);exact ⟨k,_,hi,List.getElem?_eq_getElem hlt⟩)) fun n503 x504 s505 s506=>?_
  intro v507 e507
  obtain ⟨v508,e508⟩:=LX ((v507,x504.2.1,x504.2.2))
  refine cx (.o (.g [sI v508.1,sI v508.2.1,sI v508.2.2])) (zY v507 x504.2.1 x504.2.2 v508 e508) rfl ?_
  obtain ⟨v509,e509⟩:=LX (([v508]:List Vec))
  refine rx [.ls 3 cV kV v509] [] [] (fun t u w=>⟨e_dat (c:=cV) (l:=([v508]:List Vec)) (ps:=(pI v508.1::pI v508.2.1::pI v508.2.2::[])) (qs:=(pI v508.1::pI v508.2.1::pI v508.2.2::[])) (by rw [e509];rfl) rfl rfl rfl (pimps (fun _ _ _ h=>h) <| pimps (fun _ _ _ h=>h) <| pimps (fun _ _ _ h=>h) <| zf) rfl,trivial⟩) ?_
  obtain ⟨v510,e510⟩:=LX (o++v509)
  have s511:(o.length+v509.length)*3≤1099511627776:=by (rw [← e509];simp only [List.length_singleton];have dh502:=LD e501 h502;omega)
  refine rx [] [pG cV v510] [] (fun t u w=>⟨qz (c:=cV) zW (fun _=>rfl) rfl (by rw [e510];rfl) rfl s511,trivial⟩) ?_
  intro v512 e512
  refine nxl (v512,v510) ?_ ?_ rfl
  all_goals (have dh502:=LD e501 h502;have hkn:n503=k:=(by omega);rw [hkn] at s506;have x5:v508=mirT x504:=(by rw [← e508,← e507];rfl);have hdr:v2.drop k=x504::v2.drop (k+1):=(by obtain ⟨hlt,rfl⟩:=List.getElem?_eq_some_iff.1 s506;exact List.drop_eq_getElem_cons hlt);rw [hdr,List.map_cons,← x5] at hs;have x3:v512=((k+1:Nat):Int):=(by rw [← e512,hi,wri (by omega)];omega);have x4:v510=o++[v508]:=(by rw [← e510,← e509]);have hlt:=(List.getElem?_eq_some_iff.1 s506).1)
  ·show (v18 - v512).toNat<(v18 - i).toNat
   omega
  ·exact ⟨k+1,x3,by omega,by rw [x4,List.length_append,hol];rfl,by rw [x4,List.append_assoc];exact hs⟩
 ·
  refine rx [.ls 3 cV kV o] [] [] (fun t u w _=>qQ (c:=cV) (fun _=>rfl) (by decide) zW rfl rfl) ?_
  have hq:((o)=o2)∧True:=by
   refine ⟨?_,trivial⟩
   (have dh502:=LE e501 h502;rw [List.drop_eq_nil_of_le (by omega)] at hs;exact (List.append_nil o).symm.trans hs)
  obtain ⟨q0,-⟩:=hq
  rw [← q0]
  rfl
def zeZ:List Atom:=[.sl 1 3,.sl 4 (.o (.c (.p 0 0))),.sl 9 (.o (.c (.k (.bool true)))),.sl 10 9,.sl 11 12,.sl 13 15,.sl 16 17,.sl 21 27,.sl 159 17,.sl 160 51,.sl 161 52,.bx 0 26 [.h 6,.h 7,.h 8]]
def zi6:LoopS:=⟨28,zeZ.map (tnA (jf (hZ 52 [kI 0])) (kf [0]) (kf [])),(.x 4),(drs [10] zeZ)⟩
def zrm:Tr:=.s [(0,.fb 29 false),(0,.fb 30 false),(0,.fb 31 false),(0,.fb 32 false),(0,.fb 34 false),(0,.fb 37 false),(0,.fb 40 false),(0,.fb 46 false),(0,.fb 50 false),(9000,.bin .lss 3 52 51)] (.b 53 (.s [(9002,.ia 36 45 11 17 52),(9003,.ld 45 11 54),(9009,.ia 36 45 11 27 52),(9010,.ld 45 11 66),(9018,.un .neg 56),(9025,.call 21 [78,57,58] (.o (.g 3))),(0,.raw [(1009026,.bin .neq 26 (.o (.g [68,69,70])) (.o (.g [79,80,81])) 82)] 1),(0,.fb 82 false),(9033,.un .neg 59),(9040,.call 21 [83,60,61] (.o (.g 3))),(0,.raw [(1009041,.bin .neq 26 (.o (.g [71,72,73])) (.o (.g [84,85,86])) 87)] 1),(0,.fb 87 false),(9048,.bin .neq 3 77 65),(0,.fb 88 false),(9051,.bin .eql 3 52 (kI 0))] (.b 89 (.s [(9052,.bin .add 3 52 (kI 1))] (.z (.nx (hZ 52 [90]) [0] []))) (.s [(9054,.bin .sub 3 52 (kI 1)),(9055,.ia 69 76 2 3 90),(9056,.fa 76 0 0 0 91),(9057,.ld 5 0 92),(9058,.call 37 [93] (.o (.g 3))),(9062,.un .neg 15),(9065,.bin .mul 3 97 95),(9069,.bin .mul 3 15 94),(9070,.call 21 [98,99,LF (kI 0)] (.o (.g 3))),(9077,.bin .sub 3 52 (kI 1)),(9078,.ia 36 45 11 17 103),(9079,.fa 45 2 4 2 104),(9080,.ld 26 3 105),(0,.raw [(1009081,.bin .neq 26 (.o (.g [56,57,58])) (.o (.g [106,107,108])) 109)] 1),(0,.fb 109 false),(9085,.bin .neq 3 55 (kI 2)),(0,.fb 110 false),(9091,.bin .neq 3 65 52),(0,.fb 111 false),(9099,.bin .sub 3 52 (kI 1)),(9100,.ia 35 26 3 9 112),(9101,.ld 26 3 113),(9102,.call 39 [.o (.g [56,57,58]),.o (.g [114,115,116])] (.o (.g 3))),(9103,.call 38 [.o (.g [100,101,102]),.o (.g [117,118,119])] (.o .c)),(9105,.bin .neq 3 120 12),(0,.fb 121 false),(9113,.ia 35 26 3 9 52),(9114,.ld 26 3 122),(9115,.call 39 [.o (.g [59,60,61]),.o (.g [123,124,125])] (.o (.g 3))),(9116,.call 38 [.o (.g [100,101,102]),.o (.g [126,127,128])] (.o .c)),(9118,.bin .neq 3 129 12),(0,.fb 130 false),(9126,.call 39 [.o (.g [59,60,61]),.o (.g [56,57,58])] (.o (.g 3))),(9127,.call 38 [.o (.g [94,95,96]),.o (.g [131,132,133])] (.o .c)),(9128,.bin .lss 3 134 (kI 1)),(0,.fb 135 false),(9136,.call 39 [.o (.g [59,60,61]),.o (.g [56,57,58])] (.o (.g 3))),(9137,.call 40 [.o (.g [94,95,96]),.o (.g [136,137,138])] (.o (.g 3))),(0,.raw [(1009139,.bin .neq 26 (.o (.g [139,140,141])) (.o (.g [.k (.int .i64 0),.k (.int .i64 0),.k (.int .i64 0)])) 142)] 1),(0,.fb 142 false),(9141,.bin .add 3 52 (kI 1))] (.z (.nx (hZ 52 [143]) [0] []))))) (.z (.xt (.x 4) (hZ 52 []) [0] [])))
theorem zlL {w0:World} (start:Vec) (l:(List (Int×Int))) (right:Bool) (radius:Int) (v1:Vec) (v2:(List Vec)) (v5:Int) (v6:Int) (v7:Int) (v9:Int) (v10:Int) (v11:Int) (v12:(List Sb)) (v14:(List Mov)) (v15:Int) (v18:Int) (o2:(List Vec)) (v19:Int) (v20:(List Sb)) (n22:Nat) (x23:Vec) (v26:(List Mov)) (v27:Int) (v30:Bool) (v32:Bool) (v34:Bool) (v36:Bool) (v38:Int) (v39:Bool) (v41:Int) (v42:Int) (v43:Bool) (v45:Int) (v46:Int) (v47:Bool) (n49:Nat) (x50:Mov) (v53:Bool) (n55:Nat) (x56:Mov) (v59:Bool) (v61:Int) (s31:v30=false) (h33:v32=false) (s35:v34=false) (s37:v36=false) (h40:v39=false) (s44:v43=false) (s48:v47=false) (s54:v53=false) (s60:v59=false) (hB:ByT l) (hsg:v11=1∨v11=-1) (hv:(v14.length:Int)=v61) (h0:v15=0) (h2:¬ v2.length<2) (hl:v2.length≤l.length+1) (hl7:v2.length≤7) (hD:PbD v1 l v2 v7 (v11) v14 v15 v26 v27):LpH (KN w0) Tryz.prog 7 ⟨ntOf Tryz.prog 7,[],[]⟩ zi6 2 ⟨52,((sI v61)::(sB v59)::(sI x56.2.2.2.2)::(.p ((kM x56).drop 10))::(.p (kM x56))::(sB v53)::(sI x50.2.1.2.2)::(sI x50.2.1.2.1)::(sI x50.2.1.1)::(.p ((kM x50).drop 1))::(.p (kM x50))::(sB v47)::(sI v46)::(sI v45)::(sB v43)::(sI v42)::(sI v41)::(sB v39)::(sI v38)::(sB v36)::(sB v34)::(sB v32)::(sB v30)::(sI v27)::(.ls 11 cM kM v26)::(sI x23.2.2)::(sI x23.2.1)::(sI x23.1)::(.p (kV x23))::(.ls 3 cSb kSb v20)::(sI v19)::(.ls 3 cV kV o2)::(sI v18)::(sI v15)::(.ls 11 cM kM v14)::(.ls 3 cSb kSb v12)::(sI v11)::(sI v10)::(sI v9)::(sI v7)::(sI v6)::(sI v5)::(.ls 3 cV kV v2)::(sI v1.2.2)::(sI v1.2.1)::(sI v1.1)::(.v (.int .u8 radius))::(sB right)::(.ls 2 cTn kTn l)::(sI start.2.2)::(sI start.2.1)::(sI start.1)::[]),[pG cV ([]:List Vec)],[]⟩:=by
 refine zq _ ⟨zeZ,zi6,(53,1,0),(52,1,0),9000⟩ (T:=Int) (fun t=>⟨53,((sI t)::(sI v61)::(sB v59)::(sI x56.2.2.2.2)::(.p ((kM x56).drop 10))::(.p (kM x56))::(sB v53)::(sI x50.2.1.2.2)::(sI x50.2.1.2.1)::(sI x50.2.1.1)::(.p ((kM x50).drop 1))::(.p (kM x50))::(sB v47)::(sI v46)::(sI v45)::(sB v43)::(sI v42)::(sI v41)::(sB v39)::(sI v38)::(sB v36)::(sB v34)::(sB v32)::(sB v30)::(sI v27)::(.ls 11 cM kM v26)::(sI x23.2.2)::(sI x23.2.1)::(sI x23.1)::(.p (kV x23))::(.ls 3 cSb kSb v20)::(sI v19)::(.ls 3 cV kV o2)::(sI v18)::(sI v15)::(.ls 11 cM kM v14)::(.ls 3 cSb kSb v12)::(sI v11)::(sI v10)::(sI v9)::(sI v7)::(sI v6)::(sI v5)::(.ls 3 cV kV v2)::(sI v1.2.2)::(sI v1.2.1)::(sI v1.1)::(.v (.int .u8 radius))::(sB right)::(.ls 2 cTn kTn l)::(sI start.2.2)::(sI start.2.1)::(sI start.1)::[]),[pG cV ([]:List Vec)],[]⟩) (fun i=>∃k:Nat,i=(k:Int)∧k≤v14.length) (fun i=>(v61 - i).toNat) (0:Int) (hZ 52 [kI 0]) [0] [] zrm mixed ⟨0,rfl,Nat.zero_le _⟩ rfl rfl rfl rfl (fun _=>rfl) rfl rfl (by kernel_rfl) ?_
 intro i hJ
 obtain ⟨k,hi,hk⟩:=hJ
 refine ai s31 ?_
 refine ai h33 ?_
 refine ai s35 ?_
 refine ai s37 ?_
 refine ai h40 ?_
 refine ai s44 ?_
 refine ai s48 ?_
 refine ai s54 ?_
 refine ai s60 ?_
 intro v501 e501
 refine ai (fun h502=>?_) fun h502=>?_
 ·
  refine ai (by (have dh502:=LD e501 h502;have hL:=zL hD h0 h2;have hlt:k<v14.length:=(by omega);exact ⟨k,_,hi,List.getElem?_eq_getElem hlt⟩)) fun n503 x504 s505 s506=>?_
  refine ai (by (have dh502:=LD e501 h502;have hL:=zL hD h0 h2;have hlt:k<v26.length:=(by omega);exact ⟨k,_,hi,List.getElem?_eq_getElem hlt⟩)) fun n507 x508 s509 s510=>?_
  intro v511 e511
  obtain ⟨v512,e512⟩:=LX ((v511,x504.2.1.2.1,x504.2.1.2.2))
  refine cx (.o (.g [sI v512.1,sI v512.2.1,sI v512.2.2])) (zY v511 x504.2.1.2.1 x504.2.1.2.2 v512 e512) rfl ?_
  obtain ⟨v513,e513⟩:=LX (!decide (x508.2.1=v512))
  refine rx [sB v513] [] [] (fun t u w=>⟨e_eqV (x:=x508.2.1) (y:=v512) (neg:=true) ⟨(za rfl),(za rfl),(za rfl),trivial⟩ ⟨(za rfl),(za rfl),(za rfl),trivial⟩ (za (by rw [e513];rfl)),trivial⟩) ?_
  have s514:v513=false:=by (have dh502:=LD e501 h502;have hL:=zL hD h0 h2;have qn503:n503=k:=(by omega);rw [qn503] at s506;have qn507:n507=k:=(by omega);rw [qn507] at s510;have hq:=(zlP hD h0 h2 s506 s510).1;rw [← e513,← e512,← e511,hq];simp)
  refine ai s514 ?_
  intro v515 e515
  obtain ⟨v516,e516⟩:=LX ((v515,x504.2.2.1.2.1,x504.2.2.1.2.2))
  refine cx (.o (.g [sI v516.1,sI v516.2.1,sI v516.2.2])) (zY v515 x504.2.2.1.2.1 x504.2.2.1.2.2 v516 e516) rfl ?_
  obtain ⟨v517,e517⟩:=LX (!decide (x508.2.2.1=v516))
  refine rx [sB v517] [] [] (fun t u w=>⟨e_eqV (x:=x508.2.2.1) (y:=v516) (neg:=true) ⟨(za rfl),(za rfl),(za rfl),trivial⟩ ⟨(za rfl),(za rfl),(za rfl),trivial⟩ (za (by rw [e517];rfl)),trivial⟩) ?_
  have s518:v517=false:=by (have dh502:=LD e501 h502;have hL:=zL hD h0 h2;have qn503:n503=k:=(by omega);rw [qn503] at s506;have qn507:n507=k:=(by omega);rw [qn507] at s510;have hq:=(zlP hD h0 h2 s506 s510).2.1;rw [← e517,← e516,← e515,hq];simp)
  refine ai s518 ?_
  intro v519 e519
  have s520:v519=false:=by (have dh502:=LD e501 h502;have hL:=zL hD h0 h2;have qn503:n503=k:=(by omega);rw [qn503] at s506;have qn507:n507=k:=(by omega);rw [qn507] at s510;have hq:=(zlP hD h0 h2 s506 s510).2.2;rw [← e519,hq];simp)
  refine ai s520 ?_
  intro v521 e521
  refine ai (fun h522=>?_) fun h522=>?_
  ·
   intro v523 e523
   refine nxl v523 ?_ ?_ rfl
   all_goals (have dh502:=LD e501 h502;have dh522:=eq_of_beq (e521.trans h522);have hL:=zL hD h0 h2;have x3:v523=((k+1:Nat):Int):=(by rw [← e523,hi,wri (by omega)];omega))
   ·show (v61 - v523).toNat<(v61 - i).toNat
    omega
   ·exact ⟨k+1,x3,by omega⟩
  ·
   intro v523 e523
   refine ai (by (have dh502:=LD e501 h502;have dh522:=ne_of_beq_false (e521.trans h522);have hL:=zL hD h0 h2;have hw:v523=i - 1:=(by rw [← e523,wri (by omega)]);have hlt:k - 1<l.length:=(by omega);exact ⟨k - 1,_,by omega,List.getElem?_eq_getElem hlt⟩)) fun n524 x525 s526 s527=>?_
   obtain ⟨v528,e528⟩:=LX (zr x525.1)
   have s529:0≤x525.1:=by exact (hB _ (List.mem_of_getElem? s527)).1
   refine cx (.o (.g [sI v528.1,sI v528.2.1,sI v528.2.2])) (zb1 x525.1 v528 e528 s529) rfl ?_
   intro v530 e530 v531 e531 v532 e532
   obtain ⟨v533,e533⟩:=LX ((v531,v532,(0:Int)))
   refine cx (.o (.g [sI v533.1,sI v533.2.1,sI v533.2.2])) (zY v531 v532 (0:Int) v533 e533) rfl ?_
   intro v534 e534
   refine ai (by (have dh502:=LD e501 h502;have dh522:=ne_of_beq_false (e521.trans h522);have hL:=zL hD h0 h2;have hw:v534=i - 1:=(by rw [← e534,wri (by omega)]);have hlt:k - 1<v14.length:=(by omega);exact ⟨k - 1,_,by omega,List.getElem?_eq_getElem hlt⟩)) fun n535 x536 s537 s538=>?_
   obtain ⟨v539,e539⟩:=LX (!decide (x504.2.1=x536.2.2.1))
   refine rx [sB v539] [] [] (fun t u w=>⟨e_eqV (x:=x504.2.1) (y:=x536.2.2.1) (neg:=true) ⟨(za rfl),(za rfl),(za rfl),trivial⟩ ⟨(za rfl),(za rfl),(za rfl),trivial⟩ (za (by rw [e539];rfl)),trivial⟩) ?_
   have s540:v539=false:=by (have dh502:=LD e501 h502;have dh522:=ne_of_beq_false (e521.trans h522);have hL:=zL hD h0 h2;have qn503:n503=k:=(by omega);rw [qn503] at s506;have wn535:v534=i - 1:=(by rw [← e534,wri (by omega)]);have qn535:n535=k - 1:=(by omega);rw [qn535] at s538;have hq:=(zlQ hD h0 h2 hl (by omega) s506 s538).1;rw [← e539,hq];simp)
   refine ai s540 ?_
   intro v541 e541
   have s542:v541=false:=by (have dh502:=LD e501 h502;have dh522:=ne_of_beq_false (e521.trans h522);have hL:=zL hD h0 h2;have qn503:n503=k:=(by omega);rw [qn503] at s506;have wn535:v534=i - 1:=(by rw [← e534,wri (by omega)]);have qn535:n535=k - 1:=(by omega);rw [qn535] at s538;have hq:=(zlQ hD h0 h2 hl (by omega) s506 s538).2.1;rw [← e541,hq];simp)
   refine ai s542 ?_
   intro v543 e543
   have s544:v543=false:=by (have dh502:=LD e501 h502;have dh522:=ne_of_beq_false (e521.trans h522);have hL:=zL hD h0 h2;have qn503:n503=k:=(by omega);rw [qn503] at s506;have wn535:v534=i - 1:=(by rw [← e534,wri (by omega)]);have qn535:n535=k - 1:=(by omega);rw [qn535] at s538;have hq:=(zlQ hD h0 h2 hl (by omega) s506 s538).2.2;rw [← e543,hq,hi];simp)
   refine ai s544 ?_
   intro v545 e545
   refine ai (by (have dh502:=LD e501 h502;have dh522:=ne_of_beq_false (e521.trans h522);have hL:=zL hD h0 h2;have hw:v545=i - 1:=(by rw [← e545,wri (by omega)]);have hlt:k - 1<v2.length:=(by omega);exact ⟨k - 1,_,by omega,List.getElem?_eq_getElem hlt⟩)) fun n546 x547 s548 s549=>?_
   obtain ⟨v550,e550⟩:=LX (subV x504.2.1 x547)
   refine cx (.o (.g [sI v550.1,sI v550.2.1,sI v550.2.2])) (t_sub x504.2.1 x547 v550 e550) rfl ?_
   obtain ⟨v551,e551⟩:=LX (dotV v533 v550)
   refine cx (.o (.c (sI v551))) (t_dot v533 v550 v551 e551) rfl ?_
   intro v552 e552
   have s553:v552=false:=by (have dh502:=LD e501 h502;have dh522:=ne_of_beq_false (e521.trans h522);have hL:=zL hD h0 h2;have qn503:n503=k:=(by omega);rw [qn503] at s506;have wn524:v523=i - 1:=(by rw [← e523,wri (by omega)]);have qn524:n524=k - 1:=(by omega);rw [qn524] at s527;have wn546:v545=i - 1:=(by rw [← e545,wri (by omega)]);have qn546:n546=k - 1:=(by omega);rw [qn546] at s549;have hq:=zro hD h0 h2 hl (sn:=v530) (by have q_:=e530;rw [wri (by omega)] at q_;omega) (by omega) s506 s527 s549;rw [← e552,← e551,← e550,← e533,← e532,← e531,← e528,hq];simp)
   refine ai s553 ?_
   refine ai (by (have dh502:=LD e501 h502;have dh522:=ne_of_beq_false (e521.trans h522);have hL:=zL hD h0 h2;have hlt:k<v2.length:=(by omega);exact ⟨k,_,hi,List.getElem?_eq_getElem hlt⟩)) fun n554 x555 s556 s557=>?_
   obtain ⟨v558,e558⟩:=LX (subV x504.2.2.1 x555)
   refine cx (.o (.g [sI v558.1,sI v558.2.1,sI v558.2.2])) (t_sub x504.2.2.1 x555 v558 e558) rfl ?_
   obtain ⟨v559,e559⟩:=LX (dotV v533 v558)
   refine cx (.o (.c (sI v559))) (t_dot v533 v558 v559 e559) rfl ?_
   intro v560 e560
   have s561:v560=false:=by (have dh502:=LD e501 h502;have dh522:=ne_of_beq_false (e521.trans h522);have hL:=zL hD h0 h2;have qn503:n503=k:=(by omega);rw [qn503] at s506;have wn524:v523=i - 1:=(by rw [← e523,wri (by omega)]);have qn524:n524=k - 1:=(by omega);rw [qn524] at s527;have qn554:n554=k:=(by omega);rw [qn554] at s557;have hq:=(zlR hD h0 h2 hl (sn:=v530) (by have q_:=e530;rw [wri (by omega)] at q_;omega) (by omega) s506 s527 s557).1;rw [← e560,← e559,← e558,← e533,← e532,← e531,← e528,hq];simp)
   refine ai s561 ?_
   obtain ⟨v562,e562⟩:=LX (subV x504.2.2.1 x504.2.1)
   refine cx (.o (.g [sI v562.1,sI v562.2.1,sI v562.2.2])) (t_sub x504.2.2.1 x504.2.1 v562 e562) rfl ?_
   obtain ⟨v563,e563⟩:=LX (dotV v528 v562)
   refine cx (.o (.c (sI v563))) (t_dot v528 v562 v563 e563) rfl ?_
   intro v564 e564
   have s565:v564=false:=by (have dh502:=LD e501 h502;have dh522:=ne_of_beq_false (e521.trans h522);have hL:=zL hD h0 h2;have qn503:n503=k:=(by omega);rw [qn503] at s506;have wn524:v523=i - 1:=(by rw [← e523,wri (by omega)]);have qn524:n524=k - 1:=(by omega);rw [qn524] at s527;have qn554:n554=k:=(by omega);rw [qn554] at s557;have hq:=(zlR hD h0 h2 hl (sn:=v530) (by have q_:=e530;rw [wri (by omega)] at q_;omega) (by omega) s506 s527 s557).2.1;rw [← e564,← e563,← e562,← e528];exact decide_eq_false (by omega))
   refine ai s565 ?_
   obtain ⟨v566,e566⟩:=LX (subV x504.2.2.1 x504.2.1)
   refine cx (.o (.g [sI v566.1,sI v566.2.1,sI v566.2.2])) (t_sub x504.2.2.1 x504.2.1 v566 e566) rfl ?_
   obtain ⟨v567,e567⟩:=LX (zcw v528 v566)
   refine cx (.o (.g [sI v567.1,sI v567.2.1,sI v567.2.2])) (zqi v528 v566 v567 e567) rfl ?_
   obtain ⟨v568,e568⟩:=LX (!decide (v567=((0:Int),(0:Int),(0:Int))))
   refine rx [sB v568] [] [] (fun t u w=>⟨e_eqV (x:=v567) (y:=((0:Int),(0:Int),(0:Int))) (neg:=true) ⟨(za rfl),(za rfl),(za rfl),trivial⟩ ⟨zd,zd,zd,trivial⟩ (za (by rw [e568];rfl)),trivial⟩) ?_
   have s569:v568=false:=by (have dh502:=LD e501 h502;have dh522:=ne_of_beq_false (e521.trans h522);have hL:=zL hD h0 h2;have qn503:n503=k:=(by omega);rw [qn503] at s506;have wn524:v523=i - 1:=(by rw [← e523,wri (by omega)]);have qn524:n524=k - 1:=(by omega);rw [qn524] at s527;have qn554:n554=k:=(by omega);rw [qn554] at s557;have hq:=(zlR hD h0 h2 hl (sn:=v530) (by have q_:=e530;rw [wri (by omega)] at q_;omega) (by omega) s506 s527 s557).2.2;rw [← e568,← e567,← e566,← e528,hq];simp)
   refine ai s569 ?_
   intro v570 e570
   refine nxl v570 ?_ ?_ rfl
   all_goals (have dh502:=LD e501 h502;have dh522:=ne_of_beq_false (e521.trans h522);have hL:=zL hD h0 h2;have x3:v570=((k+1:Nat):Int):=(by rw [← e570,hi,wri (by omega)];omega))
   ·show (v61 - v570).toNat<(v61 - i).toNat
    omega
   ·exact ⟨k+1,x3,by omega⟩
 ·
  rfl
def zdM:Tr:=.s [(0,.raw [(1000002,.call ⟨9,[],[],.o (.c (.k (.bool true))),[]⟩)] 0),(5,.call 15 [.o (.g [0,1,2])] (.o (.g 3))),(9,.call 33 [.o (.g [6,7,8]),3] (.o .c)),(0,.raw [(1000012,.op (.cv 5 3) [5] [] 10)] 1),(13,.dv .rem 3 10 (kI 4)),(14,.bin .add 3 (kI 1) 11)] (.b 4 (.s [(22,.ln 35 3 9),(0,.gh ⟨7,[.sl 12 (.o (.c (.k (.int .i64 2))))],[.sl 12 14],[]⟩ 1),(0,.gh ⟨7,[.sl 13 (.o (.c (.k (.int .i64 (-1)))))],[.sl 13 15],[]⟩ 1)] (.r (.s [(0,.lp zi4 0 0),(1027,.call 35 [9,14,12] (.o .c)),(1029,.call 16 [16,LF (.k (.slice none 0 0)),.o (.g [6,7,8])] (.t [.c,.c])),(0,.gh ⟨14,[.sl 18 (.o (.c (.k (.slice none 0 0)))),.gn 901],[.sl 18 (.o (.c (.gr 901))),.gl 901 26 3 0],[]⟩ 0),(1037,.ln 35 3 9),(0,.lp zi5 1 1),(2041,.bin .sub 3 (kI 3) 14),(2043,.call 35 [20,21,12] (.o .c)),(2045,.ia 35 26 3 20 (kI 0)),(2046,.ld 26 3 23),(2047,.call 16 [22,LF (.k (.slice none 0 0)),.o (.g [24,25,26])] (.t [.c,.c])),(2055,.bin .neq 37 18 28),(0,.fb 29 false),(2058,.bin .neq 37 18 (kI 0))] (.b 30 (.s [(2061,.bin .neq 37 18 (kI 17))] (.b 31 (.s [(2065,.bin .neq 37 18 (kI 3)),(0,.fb 32 false),(2070,.bin .neq 37 18 (kI 0)),(0,.fb 33 true),(0,.raw [(1002074,.call ⟨36,[9,12],[],.o (.c (.k (.bool false))),[]⟩)] 0),(2078,.bin .neq 37 18 (kI 0)),(0,.fb 34 true),(2087,.ln 36 3 17),(2088,.bin .eql 3 35 (kI 0)),(0,.fb 36 true),(2092,.ln 36 3 27),(2093,.bin .eql 3 37 (kI 0))] (.z (.ret false (38) []))) (.s [(2070,.bin .neq 37 18 (kI 0)),(0,.fb 32 true),(0,.raw [(1002074,.call ⟨36,[9,12],[],.o (.c (.k (.bool false))),[]⟩)] 0),(2078,.bin .neq 37 18 (kI 0)),(0,.fb 33 true),(2087,.ln 36 3 17),(2088,.bin .eql 3 34 (kI 0)),(0,.fb 35 true),(2092,.ln 36 3 27),(2093,.bin .eql 3 36 (kI 0))] (.z (.ret false (37) []))))) (.s [(2070,.bin .neq 37 18 (kI 0)),(0,.fb 31 false),(2078,.bin .neq 37 18 (kI 0)),(0,.fb 32 false),(2081,.ln 35 3 9),(2082,.bin .lss 3 33 (kI 2))] (.b 34 (.s [(2087,.ln 36 3 17),(2088,.bin .eql 3 35 (kI 0)),(0,.fb 36 true),(2092,.ln 36 3 27),(2093,.bin .eql 3 37 (kI 0))] (.z (.ret false (38) []))) (.s [(2085,.ln 36 3 17),(2087,.ln 35 3 9),(2088,.bin .neq 3 35 36),(0,.fb 37 false),(2091,.ln 36 3 27),(2093,.ln 35 3 9),(2094,.bin .neq 3 38 39),(0,.fb 40 false),(2098,.ia 36 45 11 17 (kI 0)),(2099,.fa 45 1 1 2 41),(2100,.ld 26 3 42),(0,.raw [(1002102,.bin .neq 26 (.o (.g [43,44,45])) (.o (.g [6,7,8])) 46)] 1),(0,.fb 46 false),(2106,.ia 36 45 11 17 (kI 0)),(2107,.fa 45 4 10 0 47),(2108,.ld 3 0 48),(2109,.bin .neq 3 49 (kI 1)),(0,.fb 50 false),(2112,.ln 36 3 17),(0,.lp zi6 2 0),(3115,.ia 69 76 2 3 (kI 0)),(3116,.fa 76 0 0 0 52),(3117,.ld 5 0 53),(3118,.call 37 [54] (.o (.g 3))),(3125,.ia 36 45 11 17 (kI 0)),(3126,.fa 45 2 4 2 58),(3127,.ld 26 3 59),(3129,.call 39 [.o (.g [60,61,62]),.o (.g [6,7,8])] (.o (.g 3))),(3130,.call 38 [.o (.g [55,56,57]),.o (.g [63,64,65])] (.o .c)),(3131,.bin .eql 3 66 (kI 0))] (.z (.ret false (67) []))))))) (.s [(0,.lp zi7 0 1)] (.z (.ret false (16) []))))) (.s [(20,.ln 35 3 9),(0,.gh ⟨7,[.sl 12 (.o (.c (.k (.int .i64 1))))],[.sl 12 14],[]⟩ 1),(0,.gh ⟨7,[.sl 13 (.o (.c (.k (.int .i64 1))))],[.sl 13 15],[]⟩ 1)] (.r (.s [(0,.lp zi4 0 0),(1025,.call 35 [9,14,12] (.o .c)),(1027,.call 16 [16,LF (.k (.slice none 0 0)),.o (.g [6,7,8])] (.t [.c,.c])),(0,.gh ⟨14,[.sl 18 (.o (.c (.k (.slice none 0 0)))),.gn 901],[.sl 18 (.o (.c (.gr 901))),.gl 901 26 3 0],[]⟩ 0),(1035,.ln 35 3 9),(0,.lp zi5 1 1),(2039,.bin .sub 3 (kI 3) 14),(2041,.call 35 [20,21,12] (.o .c)),(2043,.ia 35 26 3 20 (kI 0)),(2044,.ld 26 3 23),(2045,.call 16 [22,LF (.k (.slice none 0 0)),.o (.g [24,25,26])] (.t [.c,.c])),(2053,.bin .neq 37 18 28),(0,.fb 29 false),(2056,.bin .neq 37 18 (kI 0))] (.b 30 (.s [(2059,.bin .neq 37 18 (kI 17))] (.b 31 (.s [(2063,.bin .neq 37 18 (kI 3)),(0,.fb 32 false),(2068,.bin .neq 37 18 (kI 0)),(0,.fb 33 true),(0,.raw [(1002072,.call ⟨36,[9,12],[],.o (.c (.k (.bool false))),[]⟩)] 0),(2076,.bin .neq 37 18 (kI 0)),(0,.fb 34 true),(2085,.ln 36 3 17),(2086,.bin .eql 3 35 (kI 0)),(0,.fb 36 true),(2090,.ln 36 3 27),(2091,.bin .eql 3 37 (kI 0))] (.z (.ret false (38) []))) (.s [(2068,.bin .neq 37 18 (kI 0)),(0,.fb 32 true),(0,.raw [(1002072,.call ⟨36,[9,12],[],.o (.c (.k (.bool false))),[]⟩)] 0),(2076,.bin .neq 37 18 (kI 0)),(0,.fb 33 true),(2085,.ln 36 3 17),(2086,.bin .eql 3 34 (kI 0)),(0,.fb 35 true),(2090,.ln 36 3 27),(2091,.bin .eql 3 36 (kI 0))] (.z (.ret false (37) []))))) (.s [(2068,.bin .neq 37 18 (kI 0)),(0,.fb 31 false),(2076,.bin .neq 37 18 (kI 0)),(0,.fb 32 false),(2079,.ln 35 3 9),(2080,.bin .lss 3 33 (kI 2))] (.b 34 (.s [(2085,.ln 36 3 17),(2086,.bin .eql 3 35 (kI 0)),(0,.fb 36 true),(2090,.ln 36 3 27),(2091,.bin .eql 3 37 (kI 0))] (.z (.ret false (38) []))) (.s [(2083,.ln 36 3 17),(2085,.ln 35 3 9),(2086,.bin .neq 3 35 36),(0,.fb 37 false),(2089,.ln 36 3 27),(2091,.ln 35 3 9),(2092,.bin .neq 3 38 39),(0,.fb 40 false),(2096,.ia 36 45 11 17 (kI 0)),(2097,.fa 45 1 1 2 41),(2098,.ld 26 3 42),(0,.raw [(1002100,.bin .neq 26 (.o (.g [43,44,45])) (.o (.g [6,7,8])) 46)] 1),(0,.fb 46 false),(2104,.ia 36 45 11 17 (kI 0)),(2105,.fa 45 4 10 0 47),(2106,.ld 3 0 48),(2107,.bin .neq 3 49 (kI 1)),(0,.fb 50 false),(2110,.ln 36 3 17),(0,.lp zi6 2 0),(3113,.ia 69 76 2 3 (kI 0)),(3114,.fa 76 0 0 0 52),(3115,.ld 5 0 53),(3116,.call 37 [54] (.o (.g 3))),(3123,.ia 36 45 11 17 (kI 0)),(3124,.fa 45 2 4 2 58),(3125,.ld 26 3 59),(3127,.call 39 [.o (.g [60,61,62]),.o (.g [6,7,8])] (.o (.g 3))),(3128,.call 38 [.o (.g [55,56,57]),.o (.g [63,64,65])] (.o .c)),(3129,.bin .eql 3 66 (kI 0))] (.z (.ret false (67) []))))))) (.s [(0,.lp zi7 0 1)] (.z (.ret false (16) []))))))
theorem zgB {w0:World} (hL:LibP w0) (start:Vec) (l:List (Int×Int)) (right:Bool) (radius:Int) (hB:ByT l) (hll:l.length<9223372036854775808) (hr:0≤radius∧radius<256):Fun (KN w0) Tryz.prog 7 [.o (.g [pI start.1,pI start.2.1,pI start.2.2]),.o (.c (pLs cTn l)),.o (.c (pB right)),.o (.c (pV (.int .u8 radius)))] (.o (.c (pB true))):=by
 refine tfn w0 7 ⟨[.o (.g [0,1,2]),3,4,5],[],[901],0,0⟩ ⟨6,[.v (.int .u8 radius),sB right,.ls 2 cTn kTn l,sI start.2.2,sI start.2.1,sI start.1],[],[]⟩ zdM (by kernel_rfl) ?_
 refine rx [] [] [] (fun t u w=>⟨zA (zok hL),trivial⟩) ?_
 obtain ⟨v1,e1⟩:=LX (zmd start)
 refine cx (.o (.g [sI v1.1,sI v1.2.1,sI v1.2.2])) (zqx start v1 e1) rfl ?_
 obtain ⟨v2,e2⟩:=LX (cornP v1 l)
 have s3:∀t∈l,0≤t.1:=by exact fun t ht=>(hB t ht).1
 have s4:l.length<9223372036854775808:=by exact hll
 refine cx (.o (.c (.ls 3 cV kV v2))) (zmm v1 l v2 e2 s3 s4) rfl ?_
 obtain ⟨v5,e5⟩:=LX (IntKind.i64.wrap radius)
 refine rx [sI v5] [] [] (fun t u w=>⟨e_op1 (za rfl) (za rfl) (fun W=>by rw [← e5];exact r_cvi (by kernel_rfl) (by kernel_rfl) W),trivial⟩) ?_
 refine ai (by decide) fun v6 e6=>?_
 intro v7 e7
 refine ai (fun h8=>?_) fun h8=>?_
 ·
  intro v9 e9
  obtain ⟨v10,e10⟩:=LX ((2:Int))
  refine rx [sI v10] [] [] (fun t u w _=>gh_kh (congrArg pI e10.symm)) ?_
  obtain ⟨v11,e11⟩:=LX ((-1:Int))
  refine rx [sI v11] [] [] (fun t u w _=>gh_kh (congrArg pI e11.symm)) ?_
  by_cases c8:v2.all inV=true
  ·
   refine Or.inl ?_
   refine rx [] [] [] (zlJ start l right radius v1 v2 v5 v6 v7 v9 v10 v11    e9 (zD e2).1.2 c8) ?_
   obtain ⟨v12,e12⟩:=LX (mainX (besL v10 v7 (v2.drop 1)))
   have s13:1≤v2.length∧v2.length≤1000:=by (have:=zD e2;have:=(pb_n hr e5 e6 e7);omega)
   refine cx (.o (.c (.ls 3 cSb kSb v12))) (zcU v2 v10 v7 v12 e12 s13) rfl ?_
   obtain ⟨v14,e14⟩:=LX ((runP v12 ([]:List Int) v1).1)
   obtain ⟨v15,e15⟩:=LX ((runP v12 ([]:List Int) v1).2)
   have s16:zG v12=0:=by exact (zcD (by omega) (pb_n hr e5 e6 e7) c8 (zD e2).1.2 e12).1
   have s17:SbW v12:=by exact (zcD (by omega) (pb_n hr e5 e6 e7) c8 (zD e2).1.2 e12).2
   refine cx (.t [.c (.ls 11 cM kM v14),.c (sI v15)]) (Fun.imp (as2:=[.o (.c (pLs cSb v12)),.o (.c (pV (.slice none 0 0))),.o (.g [pI v1.1,pI v1.2.1,pI v1.2.2])]) (zek hL v12 ([]:List Int) v1 v14 v15 e14 e15 s16 s17) (zbl ⟨fun _ _ _ h=>h,fun _ _ _ h=>nil_I _ _ _ h,fun _ _ _ h=>h,trivial⟩) (fun _ _ _ h=>h)) rfl ?_
   refine rx [] [pG cV ([]:List Vec)] [] (fun t u w _=>zcK (c:=cV) rfl) ?_
   intro v18 e18
   obtain ⟨o2,hO_pbBX⟩:∃(o2:(List Vec)),v2.map mirT=o2:=⟨_,rfl⟩
   refine rx [.ls 3 cV kV o2] [] [] (zlK start l right radius v1 v2 v5 v6 v7 v9 v10 v11 v12 v14 v15 v18  o2  e18 (zD e2).1.2 hO_pbBX) ?_
   intro v19 e19
   obtain ⟨v20,e20⟩:=LX (mainX (besL v19 v7 (o2.drop 1)))
   have s21:1≤o2.length∧o2.length≤1000:=by (have:=zD e2;have:=(pb_o2 c8 hO_pbBX).2;omega)
   refine cx (.o (.c (.ls 3 cSb kSb v20))) (zcU o2 v19 v7 v20 e20 s21) rfl ?_
   refine ai (by (have:=zD e2;have:=(pb_o2 c8 hO_pbBX).2;have hlt:0<o2.length:=(by omega);exact ⟨0,_,rfl,List.getElem?_eq_getElem hlt⟩)) fun n22 x23 s24 s25=>?_
   obtain ⟨v26,e26⟩:=LX ((runP v20 ([]:List Int) x23).1)
   obtain ⟨v27,e27⟩:=LX ((runP v20 ([]:List Int) x23).2)
   have s28:zG v20=0:=by exact (zcD (by have q_:=e19;rw [wri (by omega)] at q_;omega) (pb_n hr e5 e6 e7) (pb_o2 c8 hO_pbBX).1 (by rw [(pb_o2 c8 hO_pbBX).2];exact (zD e2).1.2) e20).1
   have s29:SbW v20:=by exact (zcD (by have q_:=e19;rw [wri (by omega)] at q_;omega) (pb_n hr e5 e6 e7) (pb_o2 c8 hO_pbBX).1 (by rw [(pb_o2 c8 hO_pbBX).2];exact (zD e2).1.2) e20).2
   refine cx (.t [.c (.ls 11 cM kM v26),.c (sI v27)]) (Fun.imp (as2:=[.o (.c (pLs cSb v20)),.o (.c (pV (.slice none 0 0))),.o (.g [pI x23.1,pI x23.2.1,pI x23.2.2])]) (zek hL v20 ([]:List Int) x23 v26 v27 e26 e27 s28 s29) (zbl ⟨fun _ _ _ h=>h,fun _ _ _ h=>nil_I _ _ _ h,fun _ _ _ h=>h,trivial⟩) (fun _ _ _ h=>h)) rfl ?_
   intro v30 e30
   have s31:v30=false:=by (have hq:=pb_e (zv (side:=v10) (side2:=v19) (s:=v11) (by have q_:=e19;rw [wri (by omega)] at q_;omega) hB hr c8 e2 e5 e6 e7 e12 e14 e15 hO_pbBX e20 s24 s25 e26 e27);rw [← e30,hq];exact bne_self_eq_false _)
   refine ai s31 ?_
   intro v32 e32
   refine ai (fun h33=>?_) fun h33=>?_
   ·
    intro v34 e34
    refine ai (fun h35=>?_) fun h35=>?_
    ·
     intro v36 e36
     have s37:v36=false:=by (have hq:=zlN (zv (side:=v10) (side2:=v19) (s:=v11) (by have q_:=e19;rw [wri (by omega)] at q_;omega) hB hr c8 e2 e5 e6 e7 e12 e14 e15 hO_pbBX e20 s24 s25 e26 e27) (bne_iff_ne.1 (e32.trans h33)) (bne_iff_ne.1 (e34.trans h35));rw [← e36,hq];rfl)
     refine ai s37 ?_
     intro v38 e38
     have s39:v38=true:=by (rw [← e38,e32];exact h33)
     refine ai s39 ?_
     have s40:fitB v2 v7=false:=by exact zi8 (zv (side:=v10) (side2:=v19) (s:=v11) (by have q_:=e19;rw [wri (by omega)] at q_;omega) hB hr c8 e2 e5 e6 e7 e12 e14 e15 hO_pbBX e20 s24 s25 e26 e27) (bne_iff_ne.1 (e32.trans h33))
     have s41:v2.length<1000∧0≤v7∧v7≤100:=by (have:=zD e2;have:=(pb_n hr e5 e6 e7);omega)
     refine rx [] [] [] (fun t u w=>⟨zA (zjl v2 v7   s40 s41),trivial⟩) ?_
     intro v42 e42
     have s43:v42=true:=by (rw [← e42,e32];exact h33)
     refine ai s43 ?_
     intro v44 e44 v45 e45
     have s46:v45=true:=by (have hq:=(zau (zv (side:=v10) (side2:=v19) (s:=v11) (by have q_:=e19;rw [wri (by omega)] at q_;omega) hB hr c8 e2 e5 e6 e7 e12 e14 e15 hO_pbBX e20 s24 s25 e26 e27) (.inl (bne_iff_ne.1 (e32.trans h33)))).1;rw [← e45,← e44,hq];rfl)
     refine ai s46 ?_
     intro v47 e47 v48 e48
     intro hc
     refine Fun.fin (r:=.o (.c (pB v48))) (zc (hc)) (fun v W D h=>?_)
     have q:true=v48:=(by rw [← e48,← e47,(zau (zv (side:=v10) (side2:=v19) (s:=v11) (by have q_:=e19;rw [wri (by omega)] at q_;omega) hB hr c8 e2 e5 e6 e7 e12 e14 e15 hO_pbBX e20 s24 s25 e26 e27) (.inl (bne_iff_ne.1 (e32.trans h33)))).2];rfl)
     rw [q];exact h
    ·
     intro v36 e36
     have s37:v36=true:=by (rw [← e36,e32];exact h33)
     refine ai s37 ?_
     have s38:fitB v2 v7=false:=by exact zi8 (zv (side:=v10) (side2:=v19) (s:=v11) (by have q_:=e19;rw [wri (by omega)] at q_;omega) hB hr c8 e2 e5 e6 e7 e12 e14 e15 hO_pbBX e20 s24 s25 e26 e27) (bne_iff_ne.1 (e32.trans h33))
     have s39:v2.length<1000∧0≤v7∧v7≤100:=by (have:=zD e2;have:=(pb_n hr e5 e6 e7);omega)
     refine rx [] [] [] (fun t u w=>⟨zA (zjl v2 v7   s38 s39),trivial⟩) ?_
     intro v40 e40
     have s41:v40=true:=by (rw [← e40,e32];exact h33)
     refine ai s41 ?_
     intro v42 e42 v43 e43
     have s44:v43=true:=by (have hq:=(zau (zv (side:=v10) (side2:=v19) (s:=v11) (by have q_:=e19;rw [wri (by omega)] at q_;omega) hB hr c8 e2 e5 e6 e7 e12 e14 e15 hO_pbBX e20 s24 s25 e26 e27) (.inl (bne_iff_ne.1 (e32.trans h33)))).1;rw [← e43,← e42,hq];rfl)
     refine ai s44 ?_
     intro v45 e45 v46 e46
     intro hc
     refine Fun.fin (r:=.o (.c (pB v46))) (zc (hc)) (fun v W D h=>?_)
     have q:true=v46:=(by rw [← e46,← e45,(zau (zv (side:=v10) (side2:=v19) (s:=v11) (by have q_:=e19;rw [wri (by omega)] at q_;omega) hB hr c8 e2 e5 e6 e7 e12 e14 e15 hO_pbBX e20 s24 s25 e26 e27) (.inl (bne_iff_ne.1 (e32.trans h33)))).2];rfl)
     rw [q];exact h
   ·
    intro v34 e34
    have s35:v34=false:=by (rw [← e34,e32];exact h33)
    refine ai s35 ?_
    intro v36 e36
    have s37:v36=false:=by (rw [← e36,e32];exact h33)
    refine ai s37 ?_
    intro v38 e38 v39 e39
    refine ai (fun h40=>?_) fun h40=>?_
    ·
     intro v41 e41 v42 e42
     have s43:v42=true:=by (have hq:=(zau (zv (side:=v10) (side2:=v19) (s:=v11) (by have q_:=e19;rw [wri (by omega)] at q_;omega) hB hr c8 e2 e5 e6 e7 e12 e14 e15 hO_pbBX e20 s24 s25 e26 e27) (.inr (by have h2_:=LD e39 h40;omega))).1;rw [← e42,← e41,hq];rfl)
     refine ai s43 ?_
     intro v44 e44 v45 e45
     intro hc
     refine Fun.fin (r:=.o (.c (pB v45))) (zc (hc)) (fun v W D h=>?_)
     have q:true=v45:=(by rw [← e45,← e44,(zau (zv (side:=v10) (side2:=v19) (s:=v11) (by have q_:=e19;rw [wri (by omega)] at q_;omega) hB hr c8 e2 e5 e6 e7 e12 e14 e15 hO_pbBX e20 s24 s25 e26 e27) (.inr (by have h2_:=LD e39 h40;omega))).2];rfl)
     rw [q];exact h
    ·
     intro v41 e41 v42 e42 v43 e43
     have s44:v43=false:=by (have hq:=zL (zv (side:=v10) (side2:=v19) (s:=v11) (by have q_:=e19;rw [wri (by omega)] at q_;omega) hB hr c8 e2 e5 e6 e7 e12 e14 e15 hO_pbBX e20 s24 s25 e26 e27) (bne_eq_false_iff_eq.1 (e32.trans h33)) (by have h2_:=LE e39 h40;omega);rw [← e43,← e41,← e42,hq.1];exact bne_self_eq_false _)
     refine ai s44 ?_
     intro v45 e45 v46 e46 v47 e47
     have s48:v47=false:=by (have hq:=zL (zv (side:=v10) (side2:=v19) (s:=v11) (by have q_:=e19;rw [wri (by omega)] at q_;omega) hB hr c8 e2 e5 e6 e7 e12 e14 e15 hO_pbBX e20 s24 s25 e26 e27) (bne_eq_false_iff_eq.1 (e32.trans h33)) (by have h2_:=LE e39 h40;omega);rw [← e47,← e45,← e46,hq.2];exact bne_self_eq_false _)
     refine ai s48 ?_
     refine ai (by (have hd2:¬ v2.length<2:=(by have h2_:=LE e39 h40;omega);have:=zL (zv (side:=v10) (side2:=v19) (s:=v11) (by have q_:=e19;rw [wri (by omega)] at q_;omega) hB hr c8 e2 e5 e6 e7 e12 e14 e15 hO_pbBX e20 s24 s25 e26 e27) (bne_eq_false_iff_eq.1 (e32.trans h33)) hd2;have hlt:0<v14.length:=(by omega);exact ⟨0,_,rfl,List.getElem?_eq_getElem hlt⟩)) fun n49 x50 s51 s52=>?_
     obtain ⟨v53,e53⟩:=LX (!decide (x50.2.1=v1))
     refine rx [sB v53] [] [] (fun t u w=>⟨e_eqV (x:=x50.2.1) (y:=v1) (neg:=true) ⟨(za rfl),(za rfl),(za rfl),trivial⟩ ⟨(za rfl),(za rfl),(za rfl),trivial⟩ (za (by rw [e53];rfl)),trivial⟩) ?_
     have s54:v53=false:=by (have hq:=(zcR (zv (side:=v10) (side2:=v19) (s:=v11) (by have q_:=e19;rw [wri (by omega)] at q_;omega) hB hr c8 e2 e5 e6 e7 e12 e14 e15 hO_pbBX e20 s24 s25 e26 e27) (bne_eq_false_iff_eq.1 (e32.trans h33)) (by have h2_:=LE e39 h40;omega) s51 s52).1;rw [← e53,hq];simp)
     refine ai s54 ?_
     refine ai (by (have hd2:¬ v2.length<2:=(by have h2_:=LE e39 h40;omega);have:=zL (zv (side:=v10) (side2:=v19) (s:=v11) (by have q_:=e19;rw [wri (by omega)] at q_;omega) hB hr c8 e2 e5 e6 e7 e12 e14 e15 hO_pbBX e20 s24 s25 e26 e27) (bne_eq_false_iff_eq.1 (e32.trans h33)) hd2;have hlt:0<v14.length:=(by omega);exact ⟨0,_,rfl,List.getElem?_eq_getElem hlt⟩)) fun n55 x56 s57 s58=>?_
     intro v59 e59
     have s60:v59=false:=by (have hq:=(zcR (zv (side:=v10) (side2:=v19) (s:=v11) (by have q_:=e19;rw [wri (by omega)] at q_;omega) hB hr c8 e2 e5 e6 e7 e12 e14 e15 hO_pbBX e20 s24 s25 e26 e27) (bne_eq_false_iff_eq.1 (e32.trans h33)) (by have h2_:=LE e39 h40;omega) s57 s58).2;rw [← e59,hq];rfl)
     refine ai s60 ?_
     intro v61 e61
     refine rx [] [] [] (zlL start l right radius v1 v2 v5 v6 v7 v9 v10 v11 v12 v14 v15 v18 o2 v19 v20 n22 x23 v26 v27 v30 v32 v34 v36 v38 v39 v41 v42 v43 v45 v46 v47 n49 x50 v53 n55 x56 v59 v61 s31 h33 s35 s37 h40 s44 s48 s54 s60   hB (by omega) e61 (bne_eq_false_iff_eq.1 (e32.trans h33)) (by have h2_:=LE e39 h40;omega) (zD e2).2 (zD e2).1.2 (zv (side:=v10) (side2:=v19) (s:=v11) (by have q_:=e19;rw [wri (by omega)] at q_;omega) hB hr c8 e2 e5 e6 e7 e12 e14 e15 hO_pbBX e20 s24 s25 e26 e27)) ?_
     refine ai (by (have:=zD e2;have hd2:¬ v2.length<2:=(by have h2_:=LE e39 h40;omega);have hlt:0<l.length:=(by omega);exact ⟨0,_,rfl,List.getElem?_eq_getElem hlt⟩)) fun n62 x63 s64 s65=>?_
     obtain ⟨v66,e66⟩:=LX (zr x63.1)
     have s67:0≤x63.1:=by exact (hB _ (List.mem_of_getElem? s65)).1
     refine cx (.o (.g [sI v66.1,sI v66.2.1,sI v66.2.2])) (zb1 x63.1 v66 e66 s67) rfl ?_
     refine ai (by (have hd2:¬ v2.length<2:=(by have h2_:=LE e39 h40;omega);have:=zL (zv (side:=v10) (side2:=v19) (s:=v11) (by have q_:=e19;rw [wri (by omega)] at q_;omega) hB hr c8 e2 e5 e6 e7 e12 e14 e15 hO_pbBX e20 s24 s25 e26 e27) (bne_eq_false_iff_eq.1 (e32.trans h33)) hd2;have hlt:0<v14.length:=(by omega);exact ⟨0,_,rfl,List.getElem?_eq_getElem hlt⟩)) fun n68 x69 s70 s71=>?_
     obtain ⟨v72,e72⟩:=LX (subV x69.2.2.1 v1)
     refine cx (.o (.g [sI v72.1,sI v72.2.1,sI v72.2.2])) (t_sub x69.2.2.1 v1 v72 e72) rfl ?_
     obtain ⟨v73,e73⟩:=LX (dotV v66 v72)
     refine cx (.o (.c (sI v73))) (t_dot v66 v72 v73 e73) rfl ?_
     intro v74 e74
     intro hc
     refine Fun.fin (r:=.o (.c (pB v74))) (zc (hc)) (fun v W D h=>?_)
     have q:true=v74:=(by rw [← e74,← e73,← e72,← e66,zlO (zv (side:=v10) (side2:=v19) (s:=v11) (by have q_:=e19;rw [wri (by omega)] at q_;omega) hB hr c8 e2 e5 e6 e7 e12 e14 e15 hO_pbBX e20 s24 s25 e26 e27) (bne_eq_false_iff_eq.1 (e32.trans h33)) (by have h2_:=LE e39 h40;omega) s64 s65 s70 s71];rfl)
     rw [q];exact h
  ·
   refine Or.inr ?_
   obtain ⟨ob,hO_pbRX⟩:∃(ob:Bool),ob=true:=⟨_,rfl⟩
   refine rx [sB ob] [] [] (zlM start l right radius v1 v2 v5 v6 v7 v9 v10 v11  ob  e9 (zD e2).1.2 (by simpa using c8) hO_pbRX) ?_
   intro hc
   refine Fun.fin (r:=.o (.c (pB ob))) (zc (hc)) (fun v W D h=>?_)
   have q:true=ob:=hO_pbRX.symm
   rw [q];exact h
 ·
  intro v9 e9
  obtain ⟨v10,e10⟩:=LX ((1:Int))
  refine rx [sI v10] [] [] (fun t u w _=>gh_kh (congrArg pI e10.symm)) ?_
  obtain ⟨v11,e11⟩:=LX ((1:Int))
  refine rx [sI v11] [] [] (fun t u w _=>gh_kh (congrArg pI e11.symm)) ?_
  by_cases c8:v2.all inV=true
  ·
   refine Or.inl ?_
   refine rx [] [] [] (zlJ start l right radius v1 v2 v5 v6 v7 v9 v10 v11    e9 (zD e2).1.2 c8) ?_
   obtain ⟨v12,e12⟩:=LX (mainX (besL v10 v7 (v2.drop 1)))
   have s13:1≤v2.length∧v2.length≤1000:=by (have:=zD e2;have:=(pb_n hr e5 e6 e7);omega)
   refine cx (.o (.c (.ls 3 cSb kSb v12))) (zcU v2 v10 v7 v12 e12 s13) rfl ?_
   obtain ⟨v14,e14⟩:=LX ((runP v12 ([]:List Int) v1).1)
   obtain ⟨v15,e15⟩:=LX ((runP v12 ([]:List Int) v1).2)
   have s16:zG v12=0:=by exact (zcD (by omega) (pb_n hr e5 e6 e7) c8 (zD e2).1.2 e12).1
   have s17:SbW v12:=by exact (zcD (by omega) (pb_n hr e5 e6 e7) c8 (zD e2).1.2 e12).2
   refine cx (.t [.c (.ls 11 cM kM v14),.c (sI v15)]) (Fun.imp (as2:=[.o (.c (pLs cSb v12)),.o (.c (pV (.slice none 0 0))),.o (.g [pI v1.1,pI v1.2.1,pI v1.2.2])]) (zek hL v12 ([]:List Int) v1 v14 v15 e14 e15 s16 s17) (zbl ⟨fun _ _ _ h=>h,fun _ _ _ h=>nil_I _ _ _ h,fun _ _ _ h=>h,trivial⟩) (fun _ _ _ h=>h)) rfl ?_
   refine rx [] [pG cV ([]:List Vec)] [] (fun t u w _=>zcK (c:=cV) rfl) ?_
   intro v18 e18
   obtain ⟨o2,hO_pbBX⟩:∃(o2:(List Vec)),v2.map mirT=o2:=⟨_,rfl⟩
   refine rx [.ls 3 cV kV o2] [] [] (zlK start l right radius v1 v2 v5 v6 v7 v9 v10 v11 v12 v14 v15 v18  o2  e18 (zD e2).1.2 hO_pbBX) ?_
   intro v19 e19
   obtain ⟨v20,e20⟩:=LX (mainX (besL v19 v7 (o2.drop 1)))
   have s21:1≤o2.length∧o2.length≤1000:=by (have:=zD e2;have:=(pb_o2 c8 hO_pbBX).2;omega)
   refine cx (.o (.c (.ls 3 cSb kSb v20))) (zcU o2 v19 v7 v20 e20 s21) rfl ?_
   refine ai (by (have:=zD e2;have:=(pb_o2 c8 hO_pbBX).2;have hlt:0<o2.length:=(by omega);exact ⟨0,_,rfl,List.getElem?_eq_getElem hlt⟩)) fun n22 x23 s24 s25=>?_
   obtain ⟨v26,e26⟩:=LX ((runP v20 ([]:List Int) x23).1)
   obtain ⟨v27,e27⟩:=LX ((runP v20 ([]:List Int) x23).2)
   have s28:zG v20=0:=by exact (zcD (by have q_:=e19;rw [wri (by omega)] at q_;omega) (pb_n hr e5 e6 e7) (pb_o2 c8 hO_pbBX).1 (by rw [(pb_o2 c8 hO_pbBX).2];exact (zD e2).1.2) e20).1
   have s29:SbW v20:=by exact (zcD (by have q_:=e19;rw [wri (by omega)] at q_;omega) (pb_n hr e5 e6 e7) (pb_o2 c8 hO_pbBX).1 (by rw [(pb_o2 c8 hO_pbBX).2];exact (zD e2).1.2) e20).2
   refine cx (.t [.c (.ls 11 cM kM v26),.c (sI v27)]) (Fun.imp (as2:=[.o (.c (pLs cSb v20)),.o (.c (pV (.slice none 0 0))),.o (.g [pI x23.1,pI x23.2.1,pI x23.2.2])]) (zek hL v20 ([]:List Int) x23 v26 v27 e26 e27 s28 s29) (zbl ⟨fun _ _ _ h=>h,fun _ _ _ h=>nil_I _ _ _ h,fun _ _ _ h=>h,trivial⟩) (fun _ _ _ h=>h)) rfl ?_
   intro v30 e30
   have s31:v30=false:=by (have hq:=pb_e (zv (side:=v10) (side2:=v19) (s:=v11) (by have q_:=e19;rw [wri (by omega)] at q_;omega) hB hr c8 e2 e5 e6 e7 e12 e14 e15 hO_pbBX e20 s24 s25 e26 e27);rw [← e30,hq];exact bne_self_eq_false _)
   refine ai s31 ?_
   intro v32 e32
   refine ai (fun h33=>?_) fun h33=>?_
   ·
    intro v34 e34
    refine ai (fun h35=>?_) fun h35=>?_
    ·
     intro v36 e36
     have s37:v36=false:=by (have hq:=zlN (zv (side:=v10) (side2:=v19) (s:=v11) (by have q_:=e19;rw [wri (by omega)] at q_;omega) hB hr c8 e2 e5 e6 e7 e12 e14 e15 hO_pbBX e20 s24 s25 e26 e27) (bne_iff_ne.1 (e32.trans h33)) (bne_iff_ne.1 (e34.trans h35));rw [← e36,hq];rfl)
     refine ai s37 ?_
     intro v38 e38
     have s39:v38=true:=by (rw [← e38,e32];exact h33)
     refine ai s39 ?_
     have s40:fitB v2 v7=false:=by exact zi8 (zv (side:=v10) (side2:=v19) (s:=v11) (by have q_:=e19;rw [wri (by omega)] at q_;omega) hB hr c8 e2 e5 e6 e7 e12 e14 e15 hO_pbBX e20 s24 s25 e26 e27) (bne_iff_ne.1 (e32.trans h33))
     have s41:v2.length<1000∧0≤v7∧v7≤100:=by (have:=zD e2;have:=(pb_n hr e5 e6 e7);omega)
     refine rx [] [] [] (fun t u w=>⟨zA (zjl v2 v7   s40 s41),trivial⟩) ?_
     intro v42 e42
     have s43:v42=true:=by (rw [← e42,e32];exact h33)
     refine ai s43 ?_
     intro v44 e44 v45 e45
     have s46:v45=true:=by (have hq:=(zau (zv (side:=v10) (side2:=v19) (s:=v11) (by have q_:=e19;rw [wri (by omega)] at q_;omega) hB hr c8 e2 e5 e6 e7 e12 e14 e15 hO_pbBX e20 s24 s25 e26 e27) (.inl (bne_iff_ne.1 (e32.trans h33)))).1;rw [← e45,← e44,hq];rfl)
     refine ai s46 ?_
     intro v47 e47 v48 e48
     intro hc
     refine Fun.fin (r:=.o (.c (pB v48))) (zc (hc)) (fun v W D h=>?_)
     have q:true=v48:=(by rw [← e48,← e47,(zau (zv (side:=v10) (side2:=v19) (s:=v11) (by have q_:=e19;rw [wri (by omega)] at q_;omega) hB hr c8 e2 e5 e6 e7 e12 e14 e15 hO_pbBX e20 s24 s25 e26 e27) (.inl (bne_iff_ne.1 (e32.trans h33)))).2];rfl)
     rw [q];exact h
    ·
     intro v36 e36
     have s37:v36=true:=by (rw [← e36,e32];exact h33)
     refine ai s37 ?_
     have s38:fitB v2 v7=false:=by exact zi8 (zv (side:=v10) (side2:=v19) (s:=v11) (by have q_:=e19;rw [wri (by omega)] at q_;omega) hB hr c8 e2 e5 e6 e7 e12 e14 e15 hO_pbBX e20 s24 s25 e26 e27) (bne_iff_ne.1 (e32.trans h33))
     have s39:v2.length<1000∧0≤v7∧v7≤100:=by (have:=zD e2;have:=(pb_n hr e5 e6 e7);omega)
     refine rx [] [] [] (fun t u w=>⟨zA (zjl v2 v7   s38 s39),trivial⟩) ?_
     intro v40 e40
     have s41:v40=true:=by (rw [← e40,e32];exact h33)
     refine ai s41 ?_
     intro v42 e42 v43 e43
     have s44:v43=true:=by (have hq:=(zau (zv (side:=v10) (side2:=v19) (s:=v11) (by have q_:=e19;rw [wri (by omega)] at q_;omega) hB hr c8 e2 e5 e6 e7 e12 e14 e15 hO_pbBX e20 s24 s25 e26 e27) (.inl (bne_iff_ne.1 (e32.trans h33)))).1;rw [← e43,← e42,hq];rfl)
     refine ai s44 ?_
     intro v45 e45 v46 e46
     intro hc
     refine Fun.fin (r:=.o (.c (pB v46))) (zc (hc)) (fun v W D h=>?_)
     have q:true=v46:=(by rw [← e46,← e45,(zau (zv (side:=v10) (side2:=v19) (s:=v11) (by have q_:=e19;rw [wri (by omega)] at q_;omega) hB hr c8 e2 e5 e6 e7 e12 e14 e15 hO_pbBX e20 s24 s25 e26 e27) (.inl (bne_iff_ne.1 (e32.trans h33)))).2];rfl)
     rw [q];exact h
   ·
    intro v34 e34
    have s35:v34=false:=by (rw [← e34,e32];exact h33)
    refine ai s35 ?_
    intro v36 e36
    have s37:v36=false:=by (rw [← e36,e32];exact h33)
    refine ai s37 ?_
    intro v38 e38 v39 e39
    refine ai (fun h40=>?_) fun h40=>?_
    ·
     intro v41 e41 v42 e42
     have s43:v42=true:=by (have hq:=(zau (zv (side:=v10) (side2:=v19) (s:=v11) (by have q_:=e19;rw [wri (by omega)] at q_;omega) hB hr c8 e2 e5 e6 e7 e12 e14 e15 hO_pbBX e20 s24 s25 e26 e27) (.inr (by have h2_:=LD e39 h40;omega))).1;rw [← e42,← e41,hq];rfl)
     refine ai s43 ?_
     intro v44 e44 v45 e45
     intro hc
     refine Fun.fin (r:=.o (.c (pB v45))) (zc (hc)) (fun v W D h=>?_)
     have q:true=v45:=(by rw [← e45,← e44,(zau (zv (side:=v10) (side2:=v19) (s:=v11) (by have q_:=e19;rw [wri (by omega)] at q_;omega) hB hr c8 e2 e5 e6 e7 e12 e14 e15 hO_pbBX e20 s24 s25 e26 e27) (.inr (by have h2_:=LD e39 h40;omega))).2];rfl)
     rw [q];exact h
    ·
     intro v41 e41 v42 e42 v43 e43
     have s44:v43=false:=by (have hq:=zL (zv (side:=v10) (side2:=v19) (s:=v11) (by have q_:=e19;rw [wri (by omega)] at q_;omega) hB hr c8 e2 e5 e6 e7 e12 e14 e15 hO_pbBX e20 s24 s25 e26 e27) (bne_eq_false_iff_eq.1 (e32.trans h33)) (by have h2_:=LE e39 h40;omega);rw [← e43,← e41,← e42,hq.1];exact bne_self_eq_false _)
     refine ai s44 ?_
     intro v45 e45 v46 e46 v47 e47
     have s48:v47=false:=by (have hq:=zL (zv (side:=v10) (side2:=v19) (s:=v11) (by have q_:=e19;rw [wri (by omega)] at q_;omega) hB hr c8 e2 e5 e6 e7 e12 e14 e15 hO_pbBX e20 s24 s25 e26 e27) (bne_eq_false_iff_eq.1 (e32.trans h33)) (by have h2_:=LE e39 h40;omega);rw [← e47,← e45,← e46,hq.2];exact bne_self_eq_false _)
     refine ai s48 ?_
     refine ai (by (have hd2:¬ v2.length<2:=(by have h2_:=LE e39 h40;omega);have:=zL (zv (side:=v10) (side2:=v19) (s:=v11) (by have q_:=e19;rw [wri (by omega)] at q_;omega) hB hr c8 e2 e5 e6 e7 e12 e14 e15 hO_pbBX e20 s24 s25 e26 e27) (bne_eq_false_iff_eq.1 (e32.trans h33)) hd2;have hlt:0<v14.length:=(by omega);exact ⟨0,_,rfl,List.getElem?_eq_getElem hlt⟩)) fun n49 x50 s51 s52=>?_
     obtain ⟨v53,e53⟩:=LX (!decide (x50.2.1=v1))
     refine rx [sB v53] [] [] (fun t u w=>⟨e_eqV (x:=x50.2.1) (y:=v1) (neg:=true) ⟨(za rfl),(za rfl),(za rfl),trivial⟩ ⟨(za rfl),(za rfl),(za rfl),trivial⟩ (za (by rw [e53];rfl)),trivial⟩) ?_
     have s54:v53=false:=by (have hq:=(zcR (zv (side:=v10) (side2:=v19) (s:=v11) (by have q_:=e19;rw [wri (by omega)] at q_;omega) hB hr c8 e2 e5 e6 e7 e12 e14 e15 hO_pbBX e20 s24 s25 e26 e27) (bne_eq_false_iff_eq.1 (e32.trans h33)) (by have h2_:=LE e39 h40;omega) s51 s52).1;rw [← e53,hq];simp)
     refine ai s54 ?_
     refine ai (by (have hd2:¬ v2.length<2:=(by have h2_:=LE e39 h40;omega);have:=zL (zv (side:=v10) (side2:=v19) (s:=v11) (by have q_:=e19;rw [wri (by omega)] at q_;omega) hB hr c8 e2 e5 e6 e7 e12 e14 e15 hO_pbBX e20 s24 s25 e26 e27) (bne_eq_false_iff_eq.1 (e32.trans h33)) hd2;have hlt:0<v14.length:=(by omega);exact ⟨0,_,rfl,List.getElem?_eq_getElem hlt⟩)) fun n55 x56 s57 s58=>?_
     intro v59 e59
     have s60:v59=false:=by (have hq:=(zcR (zv (side:=v10) (side2:=v19) (s:=v11) (by have q_:=e19;rw [wri (by omega)] at q_;omega) hB hr c8 e2 e5 e6 e7 e12 e14 e15 hO_pbBX e20 s24 s25 e26 e27) (bne_eq_false_iff_eq.1 (e32.trans h33)) (by have h2_:=LE e39 h40;omega) s57 s58).2;rw [← e59,hq];rfl)
     refine ai s60 ?_
     intro v61 e61
     refine rx [] [] [] (zlL start l right radius v1 v2 v5 v6 v7 v9 v10 v11 v12 v14 v15 v18 o2 v19 v20 n22 x23 v26 v27 v30 v32 v34 v36 v38 v39 v41 v42 v43 v45 v46 v47 n49 x50 v53 n55 x56 v59 v61 s31 h33 s35 s37 h40 s44 s48 s54 s60   hB (by omega) e61 (bne_eq_false_iff_eq.1 (e32.trans h33)) (by have h2_:=LE e39 h40;omega) (zD e2).2 (zD e2).1.2 (zv (side:=v10) (side2:=v19) (s:=v11) (by have q_:=e19;rw [wri (by omega)] at q_;omega) hB hr c8 e2 e5 e6 e7 e12 e14 e15 hO_pbBX e20 s24 s25 e26 e27)) ?_
     refine ai (by (have:=zD e2;have hd2:¬ v2.length<2:=(by have h2_:=LE e39 h40;omega);have hlt:0<l.length:=(by omega);exact ⟨0,_,rfl,List.getElem?_eq_getElem hlt⟩)) fun n62 x63 s64 s65=>?_
     obtain ⟨v66,e66⟩:=LX (zr x63.1)
     have s67:0≤x63.1:=by exact (hB _ (List.mem_of_getElem? s65)).1
     refine cx (.o (.g [sI v66.1,sI v66.2.1,sI v66.2.2])) (zb1 x63.1 v66 e66 s67) rfl ?_
     refine ai (by (have hd2:¬ v2.length<2:=(by have h2_:=LE e39 h40;omega);have:=zL (zv (side:=v10) (side2:=v19) (s:=v11) (by have q_:=e19;rw [wri (by omega)] at q_;omega) hB hr c8 e2 e5 e6 e7 e12 e14 e15 hO_pbBX e20 s24 s25 e26 e27) (bne_eq_false_iff_eq.1 (e32.trans h33)) hd2;have hlt:0<v14.length:=(by omega);exact ⟨0,_,rfl,List.getElem?_eq_getElem hlt⟩)) fun n68 x69 s70 s71=>?_
     obtain ⟨v72,e72⟩:=LX (subV x69.2.2.1 v1)
     refine cx (.o (.g [sI v72.1,sI v72.2.1,sI v72.2.2])) (t_sub x69.2.2.1 v1 v72 e72) rfl ?_
     obtain ⟨v73,e73⟩:=LX (dotV v66 v72)
     refine cx (.o (.c (sI v73))) (t_dot v66 v72 v73 e73) rfl ?_
     intro v74 e74
     intro hc
     refine Fun.fin (r:=.o (.c (pB v74))) (zc (hc)) (fun v W D h=>?_)
     have q:true=v74:=(by rw [← e74,← e73,← e72,← e66,zlO (zv (side:=v10) (side2:=v19) (s:=v11) (by have q_:=e19;rw [wri (by omega)] at q_;omega) hB hr c8 e2 e5 e6 e7 e12 e14 e15 hO_pbBX e20 s24 s25 e26 e27) (bne_eq_false_iff_eq.1 (e32.trans h33)) (by have h2_:=LE e39 h40;omega) s64 s65 s70 s71];rfl)
     rw [q];exact h
  ·
   refine Or.inr ?_
   obtain ⟨ob,hO_pbRX⟩:∃(ob:Bool),ob=true:=⟨_,rfl⟩
   refine rx [sB ob] [] [] (zlM start l right radius v1 v2 v5 v6 v7 v9 v10 v11  ob  e9 (zD e2).1.2 (by simpa using c8) hO_pbRX) ?_
   intro hc
   refine Fun.fin (r:=.o (.c (pB ob))) (zc (hc)) (fun v W D h=>?_)
   have q:true=ob:=hO_pbRX.symm
   rw [q];exact h
end Go.Proofs.YteimplkdcjapdaaGreatDoor
