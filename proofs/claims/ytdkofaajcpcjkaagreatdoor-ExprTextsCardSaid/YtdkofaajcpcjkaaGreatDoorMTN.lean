/-
  Merged: ExOp, ExM, ExP, ExO.
-/
import Derived.Test.YtdkofaajcpcjkaaGreatDoorMTA
import Derived.Test.YtdkofaajcpcjkaaGreatDoorMTM
import Derived.SizedLaws
import Derived.OpenShut
import Derived.Carry
import Derived.LaidMore
import Derived.Stop.Joined
import Derived.Stop.LaidErr
import Derived.LaidLaws
import Derived.Lib.LaidTab
import Derived.Lib.AppendIntMem
import Derived.Lib.SmallJoins
import Derived.ChangeMaps5
import Derived.Test.YtdkofaajcpcjkaaGreatDoorMTJ
set_option linter.unusedSimpArgs false
set_option linter.unusedVariables false
namespace Go.Proofs.YtdkofaajcpcjkaaGreatDoor
open Go.ChangeShapes Go.WideShapes Go.ChangeAt Go.RowKit Go.Joins Go.Deep
def old (W:World):Dat:=fun q=>q<W.heap.size
theorem znJ {W:World} {f:FuncId} {sh:List PSh} {args:Array Value} (hF:Fun (KN W) Tryz.prog f sh (.o (.c (pV (.bool true))))) (hs:oka sh args.toList W (old W)) :
  Calls Tryz.prog f args W fun e W'=>e=.returned (.bool true)∧Below W.heap.size W W':=by
 have:=hF W (old W) args.toList hs ⟨Below.refl _ _,fun q h=>h,fun q h=>h⟩
 rw [Array.toArray_toList] at this
 refine this.mono fun e W' hr=>?_
 obtain ⟨v,D',rfl,hv,hk⟩:=hr
 have hv':v=.bool true:=hv
 subst hv'
 exact ⟨rfl,hk.bel⟩
section
variable {H:Type} {enc:TypeId×Value→H}
theorem zii {a:Assume} {C:Checked} {os:Os} {f:FuncId} {fn:Func} {s:ChangeSpec} {conds:List PathCond} {apart fresh handsOn again:Bool} {X:World→Array Value→Prop}
  (hX:∀(w w':World) (args:Array Value),w.heap=w'.heap→X w args→X w' args)
  (own:ownKnob C.prog.godebug=none) (started:os.Started) (noInit:C.prog.inits.idxOf? f=none) (hfn:C.prog.funcs[f]?=some fn)
  (witness:∃(w:World) (tape:Tape) (i:Input),w.os=os∧(w.forCall tape i).Shaped C.prog∧i.vars=[]∧Input.okWide C.prog (w.forCall tape i) .any w.heap.size f i ∧
   ((s.pre enc C.prog fn conds apart (w.forCall tape i).memory i.args∧X (w.forCall tape i).memory i.args)∧sizedMet enc C.prog fn (OpenSpec.ofChange s) apart (w.forCall tape i).memory i.args)∧a.holds C.prog (lone (Frame.enter C.prog f i.args .normal) [] (w.forCall tape i)))
  (contract:∀(W:World) (base:Nat) (args:Array Value) (ds gs:List (DataW H)) (before:List MemPlace),
   (∀(j:Nat) t v,fn.params[j]?=some t→args[j]?=some v→Value.okWide C.prog W .any base t v) →
   DataW.Whole enc C.prog fn.params.toList s.vars apart W args.toList ds gs before→X W args →
   (∀(j:Nat) t d,fn.params.toList[j]?=some t→ds[j]?=some d→∀n∈d.weights C.prog t,n≤reachBytes) →
   Calls C.prog f args W fun e W'=>∃v,e=.returned v∧s.post enc C.prog fn apart fresh handsOn again W args v W') :
  ReturnsInHanded a C os f .any (fun w args=>(s.pre enc C.prog fn conds apart w args∧X w args)∧sizedMet enc C.prog fn (OpenSpec.ofChange s) apart w args) (s.post enc C.prog fn apart fresh handsOn again):=by
 refine returnsInHanded_of_calls own started noInit witness ?_
 intro w tape i _ _ _ hok hpre _
 obtain ⟨_,_,_,fn',hfn',_,_,_,_,hval⟩:=hok
 have e:fn'=fn:=Option.some.inj (hfn'.symm.trans hfn)
 subst e
 obtain ⟨⟨⟨ds,gs,before,hw,_⟩,hx⟩,hz⟩:=hpre
 have hw':=DataW.Whole.of_heap (w':=w.forCall tape i) (by rfl) hw
 refine (contract (w.forCall tape i) w.heap.size i.args ds gs before hval hw' (hX _ _ _ (by rfl) hx) ?_).mono fun e W' ⟨v,he,hp⟩=>?_
 ·intro j t d ht hd n hn
  have:=List.all_eq_true.1 (hz.weights hw) _ (DataW.weights_mem_each (j:=j) (by
   rw [List.getElem?_append_left (List.getElem?_eq_some_iff.1 ht).1];exact ht) (by
   rw [List.getElem?_append_left (List.getElem?_eq_some_iff.1 hd).1];exact hd) n hn)
  simpa using this
 ·subst he
  exact ChangeSpec.post_blind hp
end
theorem zgk:Tryz.prog.cellsOf 3=1:=by kernel_rfl
theorem zlN:Tryz.prog.cellsOf 22=1:=by kernel_rfl
theorem znA:Tryz.prog.cellsOf 9=1:=by kernel_rfl
theorem zeS {P:Program} {w:World} {r:Reach} {b0:Nat} {fs:Array Field} {t:TypeId} {v:Value} (ht:P.underlying t=some (.struct fs)) (h:Value.okWide P w r b0 t v):∃cs,v=.agg cs∧cs.size=P.cellsOf t:=by
 simp only [Value.okWide,ht] at h
 obtain ⟨cs,h1,h2,_⟩:=h
 exact ⟨cs,h1,h2⟩
section
variable {H:Type} {enc:TypeId×Value→H} {held:Bool} {w:World} {base:Nat} {v:Value} {d:DataW H} {p:List MemPlace}
def Opens (enc:TypeId×Value→H) (held:Bool) (w:World) (e:TypeId) {α:Type} (c:α→List Pred) (ok:DataW H→α→Prop):Prop:=
 ∀(fuel:Nat) (cs:List Value) (y:DataW H×List MemPlace),DataW.trod enc Tryz.prog w 0 (fun _=>true) held fuel e cs=some y→∃x:α,ok y.1 x∧okl (c x) cs w (old w)
theorem zkb {t:TypeId} {k:IntKind} (ht:Tryz.prog.underlying t=some (.int k)):Opens enc held w t (fun n:Int=>[pV (.int k n)]) (fun d n=>d=.lit (.int k n)∧(Lit.int k n).wf=true):=by
 intro fuel cs y h
 obtain ⟨n,rfl,rfl,hw⟩:=DataW.trod_int ht h
 exact ⟨n,⟨rfl,hw⟩,rfl,trivial⟩
theorem zo7 {t:TypeId} (ht:Tryz.prog.underlying t=some .string):Opens enc held w t (fun s:List UInt8=>[pS s]) (fun d s=>d=.lit (.string s)∧s.length≤maxLen):=by
 intro fuel cs y h
 obtain ⟨s,rfl,rfl,hw⟩:=DataW.trod_string ht h
 exact ⟨s.data.toList,⟨rfl,hw⟩,rfl,trivial⟩
theorem zl5 {W:World} {D:Dat} {ps qs:List Pred} {vs:List Value} {k:Nat} (h:okp ps vs W D) (hk:ps.length=k) (h2:okl qs ((vs.drop k).take qs.length) W D):okp (ps++qs) vs W D:=by
 subst hk
 unfold okp at h ⊢
 rw [List.length_append,List.take_add]
 exact zau h h2
theorem zl4 {W:World} {D:Dat} {ps:List Pred} {vs us:List Value} (h:okl ps us W D) (he:∀i,i<ps.length→vs[i]?=us[i]?):okl ps (vs.take ps.length) W D:=by
 have hl:=qF h
 have e:vs.take ps.length=us:=by
  apply List.ext_getElem?
  intro i
  rw [List.getElem?_take]
  split
  ·exact he i ‹_›
  ·rw [List.getElem?_eq_none (by omega)]
 rw [e];exact h
theorem zar {W:World} {D:Dat} {ps qs:List Pred} {cs:List Value} {o z:Nat} (h:okl ps (cs.take o) W D) (h2:okl qs ((cs.drop o).take z) W D):okl (ps++qs) (cs.take (o+z)) W D:=by
 rw [List.take_add];exact zau h h2
inductive F2 {α β:Type} (R:α→β→Prop):List α→List β→Prop
 | nil:F2 R [] []
 | cons {a b l k}:R a b→F2 R l k→F2 R (a::l) (b::k)
def SlOk {α:Type} (ok:DataW H→α→Prop) (d:DataW H) (l:List α):Prop:=
 ((d=.nil∧l=[])∨∃ds sp,d=.slice ds sp∧F2 ok ds l)∧l.length≤maxLen
theorem zcK {α β:Type} {R:α→β→Prop}:∀{l:List α} {k:List β} {a:α} {b:β},F2 R l k→R a b→F2 R (l++[a]) (k++[b])
 | [],[],_,_,_,h=>.cons h .nil
 | _::_,_::_,_,_,.cons h1 h2,h=>.cons h1 (zcK h2 h)
theorem zdi {α β:Type} {R:α→β→Prop}:∀{l:List α} {k:List β},F2 R l k→l.length=k.length
 | [],[],_=>rfl
 | _::_,_::_,.cons _ h=>by simp [zdi h]
theorem zhS {t e:TypeId} {α:Type} {c:α→List Pred} {ok:DataW H→α→Prop} {z:Nat} (ht:Tryz.prog.underlying t=some (.slice e)) (hc:Tryz.prog.cellsOf e=z) (h0:0<z) (hz:∀x,(c x).length=z) (he:Opens enc held w e c ok) :
  Opens enc held w t (fun l:List α=>[pLs c l]) (SlOk ok):=by
 intro fuel cs y h
 rcases DataW.trod_slice ht h with ⟨rfl,rfl⟩ | ⟨a,len,cap,elems,rest,n,_,rfl,rfl,_,hl,hm,hlen,hel,_,_⟩
 ·exact ⟨[],⟨.inl ⟨rfl,rfl⟩,Nat.zero_le _⟩,.inl ⟨⟨_,_,rfl⟩,rfl,rfl⟩,trivial⟩
 rw [hc] at hel
 have each:∀i (hi:i<elems.length),∃(x:α) (us:List Value),ok elems[i].1 x∧okl (c x) us w (old w)∧∀j,j<z→w.cell? ((a.add (i*z)).add j)=us[j]?:=by
  intro i hi
  have h1:=hel i (by omega)
  rw [List.getElem?_eq_getElem hi,Option.bind_eq_some_iff] at h1
  obtain ⟨us,hus,h2⟩:=h1
  obtain ⟨x,hx,hok⟩:=he n us _ h2
  obtain ⟨_,hul,hcell⟩:=World.cells?_some hus
  exact ⟨x,us,hx,hok,fun j hj=>hcell j hj⟩
 rcases Nat.eq_zero_or_pos len with h00 | h00
 ·subst h00
  have e0:elems=[]:=List.eq_nil_of_length_eq_zero hlen
  subst e0
  exact ⟨[],⟨.inr ⟨_,_,rfl,.nil⟩,Nat.zero_le _⟩,.inl ⟨⟨_,_,rfl⟩,rfl,rfl⟩,trivial⟩
 obtain ⟨q,o,sp⟩:=a
 obtain ⟨x0,us0,_,ho0,hc0⟩:=each 0 (by omega)
 have hl0:=qF ho0
 rw [hz] at hl0
 have h1:w.cell? ⟨q,o,sp⟩=some us0[0]:=by
  have:=hc0 0 h0
  rw [List.getElem?_eq_getElem (by omega)] at this
  simpa [Addr.add] using this
 have hsp:sp=none:=by
  cases sp with
  | none=>rfl
  | some x =>
   unfold World.cell? at h1
   dsimp only at h1
   split at h1<;>simp at h1
 subst hsp
 have hblk:∃vs T fz,w.heap[q]?=some (.cells vs T fz):=by
  unfold World.cell? at h1
  dsimp only at h1
  split at h1
  ·rename_i cs T fz hh
   exact ⟨cs,T,fz,hh⟩
  ·cases h1
 obtain ⟨vs,T,fz,hh⟩:=hblk
 have hq:q<w.heap.size:=(Array.getElem?_eq_some_iff.1 hh).1
 have hcell:∀i j,(⟨q,o,none⟩:Addr).add i=⟨q,o+i,none⟩∧w.cell? (((⟨q,o,none⟩:Addr).add i).add j)=vs.toList[o+i+j]?:=by
  intro i j
  rw [show (⟨q,o,none⟩:Addr).add i=⟨q,o+i,none⟩ from zan ..,show (⟨q,o+i,none⟩:Addr).add j=⟨q,o+i+j,none⟩ from zan ..,qz hh]
  exact ⟨rfl,by rw [Array.getElem?_toList]⟩
 have build:∀m,m≤elems.length→∃l:List α,l.length=m∧F2 ok ((elems.map (·.1)).take m) l∧okp (l.flatMap c) (vs.toList.drop o) w (old w):=by
  intro m
  induction m with
  | zero=>intro _;exact ⟨[],rfl,by rw [List.take_zero];exact .nil,trivial⟩
  | succ m ih =>
   intro hm1
   obtain ⟨l,h2,h3,h4⟩:=ih (by omega)
   obtain ⟨x,us,hx,hok,hcl⟩:=each m (by omega)
   refine ⟨l++[x],by rw [List.length_append,h2];rfl,?_,?_⟩
   ·rw [List.take_add_one,List.getElem?_map,List.getElem?_eq_getElem (by omega)]
    exact zcK h3 hx
   ·rw [List.flatMap_append,List.flatMap_cons,List.flatMap_nil,List.append_nil]
    refine zl5 (k:=m*z) h4 (by rw [q6 hz,h2]) (zl4 hok fun i hi=>?_)
    rw [hz] at hi
    rw [List.drop_drop,List.getElem?_drop,← hcl i hi,(hcell (m*z) i).2]
 obtain ⟨l,h2,h3,h4⟩:=build elems.length (Nat.le_refl _)
 rw [List.take_of_length_le (by simp)] at h3
 exact ⟨l,⟨.inr ⟨_,_,rfl,h3⟩,by omega⟩,.inr ⟨q,o,cap,T,vs,fz,by rw [h2,hlen],hq,hh,h4,by omega⟩,trivial⟩
theorem zc5 {e:TypeId} {α:Type} {c:α→List Pred} {ok:DataW H→α→Prop} {n o z i:Nat} {cs:List Value} {xs:List (DataW H×List MemPlace)} (he:Opens enc held w e c ok) (hz:Tryz.prog.cellsOf e=z) (h:DataW.trod enc Tryz.prog w 0 (fun _=>true) held n e ((cs.drop o).take (Tryz.prog.cellsOf e))=xs[i]?) (hi:i<xs.length) :
  ∃x,ok xs[i].1 x∧okl (c x) ((cs.drop o).take z) w (old w):=by
 rw [List.getElem?_eq_getElem hi,hz] at h
 exact he _ _ _ h
theorem znO:Opens enc held w 22 (fun l:List Int=>[pLs cI l]) (SlOk fun d n=>d=.lit (.int .i64 n)∧(Lit.int .i64 n).wf=true):=zhS (c:=cI) Tryz.underlying22 zgk (by decide) (fun _=>rfl) (zkb Tryz.underlying3)
theorem zme {α:Type} {ok:DataW H→α→Prop} {t e:TypeId} {l:List α} (h:∀n∈d.weights Tryz.prog t,n≤reachBytes) (hs:SlOk ok d l) (ht:Tryz.prog.underlying t=some (.slice e)) (hb:0<Tryz.prog.bytesOf e):l.length≤reachBytes:=by
 rcases hs.1 with ⟨_,rfl⟩ | ⟨ds,sp,rfl,hf⟩
 ·exact Nat.zero_le _
 have:=h ((ds.length+sp.length)*Tryz.prog.bytesOf e) (by simp [DataW.weights,ht])
 rw [← zdi hf]
 have h2:=Nat.mul_le_mul_left (ds.length+sp.length) hb
 rw [Nat.mul_succ,Nat.mul_zero] at h2
 omega
theorem zpr {t:TypeId} {s:List UInt8} (h:∀n∈d.weights Tryz.prog t,n≤reachBytes) (hd:d=.lit (.string s)):s.length≤reachBytes:=by
 subst hd
 exact h _ (by simp [DataW.weights])
abbrev CaseX:=List Int×Int×Int×Int×Int×Int×Int
def cCase (x:CaseX):List Pred:=[pLs cI x.1,pI x.2.1,pI x.2.2.1,pI x.2.2.2.1,pI x.2.2.2.2.1,pI x.2.2.2.2.2.1,pI x.2.2.2.2.2.2]
theorem zo5:Opens enc held w 23 (fun x:Int×Int×Int=>[pI x.1,pI x.2.1,pI x.2.2]) (fun _ _=>True):=by
 intro fuel cs y h
 obtain ⟨xs,n,_,rfl,hl,hlen,hf⟩:=DataW.trod_array Tryz.underlying23 h
 rw [show Tryz.prog.cellsOf 23=3 by kernel_rfl] at hl
 have hf0:=fun i (hi:i<3)=>hf i hi
 rw [zgk] at hf0
 have g:∀i,i<3→∃x:Int,okl [pI x] ((cs.drop (i*1)).take 1) w (old w):=by
  intro i hi
  have h0:=hf0 i hi
  rw [List.getElem?_eq_getElem (by omega)] at h0
  obtain ⟨x,_,hx⟩:=zkb Tryz.underlying3 _ _ _ h0
  exact ⟨x,hx⟩
 obtain ⟨a,oa⟩:=g 0 (by omega)
 obtain ⟨b,ob⟩:=g 1 (by omega)
 obtain ⟨c,oc⟩:=g 2 (by omega)
 refine ⟨(a,b,c),trivial,?_⟩
 have:=zar (z:=1) (zar (z:=1) (zar (z:=1) (ps:=[]) (o:=0) trivial oa) ob) oc
 rw [List.take_of_length_le (by omega)] at this
 exact this
theorem znP:Opens enc held w 24 (fun x:Int×Int×Int×Int×Int×Int=>[pI x.1,pI x.2.1,pI x.2.2.1,pI x.2.2.2.1,pI x.2.2.2.2.1,pI x.2.2.2.2.2]) (fun _ _=>True):=by
 intro fuel cs y h
 obtain ⟨xs,n,_,rfl,hl,hlen,hf⟩:=DataW.trod_array Tryz.underlying24 h
 rw [show Tryz.prog.cellsOf 24=6 by kernel_rfl] at hl
 have hf0:=fun i (hi:i<2)=>hf i hi
 rw [show Tryz.prog.cellsOf 23=3 by kernel_rfl] at hf0
 have g:∀i,i<2→∃x:Int×Int×Int,okl [pI x.1,pI x.2.1,pI x.2.2] ((cs.drop (i*3)).take 3) w (old w):=by
  intro i hi
  have h0:=hf0 i hi
  rw [List.getElem?_eq_getElem (by omega)] at h0
  obtain ⟨x,_,hx⟩:=zo5 _ _ _ h0
  exact ⟨x,hx⟩
 obtain ⟨a,oa⟩:=g 0 (by omega)
 obtain ⟨b,ob⟩:=g 1 (by omega)
 refine ⟨(a.1,a.2.1,a.2.2,b.1,b.2.1,b.2.2),trivial,?_⟩
 have:=zar (z:=3) (zar (z:=3) (ps:=[]) (o:=0) trivial oa) ob
 rw [List.take_of_length_le (by omega)] at this
 exact this
theorem znM:Opens enc held w 26 cCase (fun d x=>∃a b,d=.agg [a,b]∧SlOk (fun d n=>d=.lit (.int .i64 n)∧(Lit.int .i64 n).wf=true) a x.1):=by
 intro fuel cs y h
 obtain ⟨xs,n,_,rfl,hl,hlen,hf⟩:=DataW.trod_struct Tryz.underlying26 h
 rw [show Tryz.prog.cellsOf 26=7 by kernel_rfl] at hl
 have hlen2:xs.length=2:=hlen
 match xs,hlen2 with
 | [y0,y1],_ =>
 obtain ⟨a,ha,oa⟩:=zc5 (z:=1) znO zlN (hf 0 _ rfl) (by simp)
 obtain ⟨b,_,ob⟩:=zc5 (z:=6) znP (by kernel_rfl) (hf 1 _ rfl) (by simp)
 refine ⟨(a,b),⟨_,_,rfl,ha⟩,?_⟩
 have:=zar (zar (ps:=[]) (o:=0) trivial oa) ob
 rw [List.take_of_length_le (by omega)] at this
 exact this
theorem zoq {x:CaseX} (h:∀n∈d.weights Tryz.prog 26,n≤reachBytes) (hs:∃a b,d=.agg [a,b]∧SlOk (fun d n=>d=.lit (.int .i64 n)∧(Lit.int .i64 n).wf=true) a x.1):x.1.length≤reachBytes:=by
 obtain ⟨a,b,rfl,hs⟩:=hs
 refine zme (d:=a) (t:=22) (fun n hn=>h n ?_) hs Tryz.underlying22 (of_decide_eq_true (by kernel_rfl))
 simp only [DataW.weights,Tryz.underlying26,List.map_cons,DataW.weightsEach,List.mem_append]
 exact .inl hn
theorem zl7 {t:TypeId} {α:Type} {c:α→List Pred} {ok:DataW H→α→Prop} {cs:Array Value} (h:Opens enc held w t c ok) (hd:DataW.Trod enc Tryz.prog w 0 (fun _=>true) held t (.agg cs) d p):∃x,ok d x∧(PSh.o (.g (c x))).ok (.agg cs) w (old w):=by
 obtain ⟨fuel,hf⟩:=hd
 obtain ⟨x,hx,ho⟩:=h _ _ _ hf
 exact ⟨x,hx,_,rfl,ho⟩
theorem zo6:Opens enc held w 57 cOp (fun d x=>d=.agg [.lit (.string x.1),.lit (.int .i64 x.2)]):=by
 intro fuel cs y h
 obtain ⟨xs,n,_,rfl,hl,hlen,hf⟩:=DataW.trod_struct Tryz.underlying57 h
 rw [show Tryz.prog.cellsOf 57=2 by kernel_rfl] at hl
 have hlen2:xs.length=2:=hlen
 match xs,hlen2 with
 | [y0,y1],_ =>
 obtain ⟨a,ha,oa⟩:=zc5 (z:=1) (zo7 Tryz.underlying9) znA (hf 0 _ rfl) (by simp)
 obtain ⟨b,hb,ob⟩:=zc5 (z:=1) (zkb Tryz.underlying3) zgk (hf 1 _ rfl) (by simp)
 have ha':y0.1=.lit (.string a):=ha.1
 have hb':y1.1=.lit (.int .i64 b):=hb.1
 refine ⟨(a,b),?_,?_⟩
 ·simp [ha',hb']
 have:=zar (zar (ps:=[]) (o:=0) trivial oa) ob
 rw [List.take_of_length_le (by omega)] at this
 exact this
theorem znQ:Opens enc held w 56 (fun l:List (List UInt8×Int)=>[pLs cOp l]) (SlOk fun d x=>d=.agg [.lit (.string x.1),.lit (.int .i64 x.2)]):=zhS (z:=2) Tryz.underlying56 (by kernel_rfl) (by decide) (fun _=>rfl) zo6
end
section
variable {H:Type} {enc:TypeId×Value→H} {P:Program} {w:World} {base:Nat} {spare:Nat→Bool} {held:Bool}
theorem zfK {t t' t'' t3 t4:TypeId} {args:Array Value} {ds:List (DataW H)} {ps:List MemPlace} (h:DataW.TrodAll enc P w base spare held [t,t',t'',t3,t4] args.toList ds ps) :
  ∃v v' v'' v3 v4 d d' d'' d3 d4 p p' p'' p3 p4,args=#[v,v',v'',v3,v4]∧ds=[d,d',d'',d3,d4]∧ps=p++p'++p''++p3++p4∧DataW.Trod enc P w base spare held t v d p∧DataW.Trod enc P w base spare held t' v' d' p'∧DataW.Trod enc P w base spare held t'' v'' d'' p''∧DataW.Trod enc P w base spare held t3 v3 d3 p3∧DataW.Trod enc P w base spare held t4 v4 d4 p4:=by
 obtain ⟨v,vs,d,ds',p,q,hargs,rfl,rfl,hd,hrest⟩:=trodAll_cons h
 obtain ⟨v',vs',d',ds'',p',q',rfl,rfl,rfl,hd',hrest'⟩:=trodAll_cons hrest
 obtain ⟨v'',vs'',d'',ds''',p'',q'',rfl,rfl,rfl,hd'',hrest''⟩:=trodAll_cons hrest'
 obtain ⟨v3,vs3,d3,ds3,p3,q3,rfl,rfl,rfl,hd3,hrest3⟩:=trodAll_cons hrest''
 obtain ⟨v4,vs4,d4,ds4,p4,q4,rfl,rfl,rfl,hd4,hrest4⟩:=trodAll_cons hrest3
 obtain ⟨rfl,rfl,rfl⟩:=trodAll_nil hrest4
 exact ⟨v,v',v'',v3,v4,d,d',d'',d3,d4,p,p',p'',p3,p4,by cases args;simp_all,rfl,by simp,hd,hd',hd'',hd3,hd4⟩
end
def laidL : List (String × DataW Unit) := [("math/bits.deBruijn32tab", Rows.laid_math_bits_deBruijn32tab), ("math/bits.deBruijn64tab", Rows.laid_math_bits_deBruijn64tab), ("internal/strconv.uint64pow10", Rows.laid_internal_strconv_uint64pow10), ("strconv.ErrRange", Rows.laid_strconv_ErrRange), ("strconv.ErrSyntax", Rows.laid_strconv_ErrSyntax), ("collet/expr.operators", Rows.laid_collet_expr_operators)]
theorem gPow : Tryz.prog.globalNamed "internal/strconv.uint64pow10" = some 4 := by kernel_rfl
theorem gSyn : Tryz.prog.globalNamed "strconv.ErrSyntax" = some 2 := by kernel_rfl
theorem gRng : Tryz.prog.globalNamed "strconv.ErrRange" = some 3 := by kernel_rfl
theorem gOps : Tryz.prog.globalNamed "collet/expr.operators" = some 0 := by kernel_rfl
theorem tPow:(Tryz.prog.globals[4]?).map (·.type)=some 116:=by kernel_rfl
theorem tSyn:(Tryz.prog.globals[2]?).map (·.type)=some 84:=by kernel_rfl
theorem tRng:(Tryz.prog.globals[3]?).map (·.type)=some 84:=by kernel_rfl
theorem tOps:(Tryz.prog.globals[0]?).map (·.type)=some 56:=by kernel_rfl
theorem zky : "*" ++ "errors.errorString" = "*errors.errorString" := by decide
theorem zpe (u : TypeId) (h : Tryz.prog.typeName? 3 u = some "*errors.errorString") : u = 123 :=
 typeName_ptr_named (nm := "errors.errorString") (by rw [zky]; kernel_rfl) (by kernel_rfl) (by decide) u (by rw [zky]; exact h)
theorem zfG {n : String} {g : Nat} {text : List UInt8} {r : List (String × DataW Unit)} {W : World} (h : laidMet Tryz.prog ((n, .iface "*errors.errorString" (.ptr (.agg [.lit (.string text)]))) :: r) W)
  (hg:Tryz.prog.globalNamed n=some g) (ht:(Tryz.prog.globals[g]?).map (·.type)=some 84):∀W',Below W.heap.size W W'→∃ev,W'.cell? ⟨g,0,none⟩=some ev∧(ev=.nilIface∨∃te pe,ev=.iface te pe):=by
 obtain ⟨a1,s1,hv1,hc1,hs1,hz1⟩:=laid_sentinel h hg ht Tryz.underlying84 zpe Tryz.underlying123 Tryz.underlying125 rfl rfl Tryz.underlying9 (by kernel_rfl) (by kernel_rfl)
 have hc:=World.var?_cell hg hv1 0
 have hc2:W.cell? ⟨g,0,none⟩=some (.iface 123 (.pointer (some a1))):=by simpa using hc
 have h0:g<W.heap.size:=by
  rcases Nat.lt_or_ge g W.heap.size with h0 | h0
  ·exact h0
  ·simp [World.cell?,Array.getElem?_eq_none h0] at hc2
 intro w' hb
 exact ⟨_,(hb.cell (p:=⟨g,0,none⟩) h0).trans hc2,.inr ⟨_,_,rfl⟩⟩
theorem zl8 {W : World} {r : List (String × DataW Unit)} (h : laidMet Tryz.prog (("collet/expr.operators", Rows.laid_collet_expr_operators) :: r) W) :
  ∃v,W.cell? ⟨0,0,none⟩=some v∧pLs cOp opsL v W (old W):=by
 obtain ⟨ps,⟨g0,t0,cs0,f0,p0,q0,hg0,ht0,hv0,hd0,_,e0⟩,_,_⟩:=h
 obtain rfl:=Option.some.inj (gOps.symm.trans hg0)
 obtain rfl:=Option.some.inj (tOps.symm.trans ht0)
 obtain ⟨l,hl,ho⟩:=znQ _ _ _ hd0
 have e:l=opsL:=by
  rcases hl.1 with ⟨h1,_⟩ | ⟨ds,sp,h1,hf⟩
  ·cases h1
  simp only [Rows.laid_collet_expr_operators,DataW.slice.injEq] at h1
  obtain ⟨rfl,rfl⟩:=h1
  match l,hf with
  | [a,b,c,d,e],.cons h1 (.cons h2 (.cons h3 (.cons h4 (.cons h5 .nil)))) =>
   obtain ⟨a1,a2⟩:=a
   obtain ⟨b1,b2⟩:=b
   obtain ⟨c1,c2⟩:=c
   obtain ⟨d1,d2⟩:=d
   obtain ⟨e1,e2⟩:=e
   simp at h1 h2 h3 h4 h5
   simp [opsL,h1,h2,h3,h4,h5]
 subst e
 obtain ⟨l0⟩:=cs0
 match l0,ho with
 | [v],ho=>exact ⟨v,by simpa using World.var?_cell gOps hv0 0,ho.1⟩
theorem zlX {W:World} (h:laidMetH Tryz.prog laidL W):LibT W:=by
 rw [MakeChecks.laidMetH_plain _ _ _ (by kernel_rfl)] at h
 have hp:=h.tail.tail
 exact ⟨Lib.tabBelow_of_tabIs (Lib.tabIs_of_head (k:=.u64) (n:=20) (e:=104) (zs:=Lib.pow10Tab) gPow tPow (by kernel_rfl) (by kernel_rfl) (by kernel_rfl) (by kernel_rfl) hp),
  zfG hp.tail.tail gSyn tSyn,zfG hp.tail gRng tRng,zl8 hp.tail.tail.tail⟩
theorem zlP (os:Os) (args:Array Value):laidMetH Tryz.prog laidL ((World.doorLaid Tryz.prog 400 os).forCall (fun _ _=>0) ⟨#[],args,[]⟩).memory:=
 laidMetH_of_parts3 (fuel:=8) (laidMet_of_run' 8 (by kernel_rfl) (by kernel_rfl)) (by kernel_rfl) (by kernel_rfl)
end Go.Proofs.YtdkofaajcpcjkaaGreatDoor
namespace Go.Proofs.YtdkofaajcpcjkaaGreatDoor
open Go.RowKit
theorem zpx {w0:World} (o:(List UInt8×Int)) (e:Xp) (v1:Bool) (e1:((o.2 == e.op))=v1):BFun false (KN w0) Tryz.prog 43 [.o (.g [.d (pS o.1),.d (pI o.2)]),.o (.c (.p 0 0))] [(32,[.d (pI e.op),.d (pI e.n),.d (pLs cE e.l)])] (.o (.c (.d (pB v1)))) [(32,[.d (pI e.op),.d (pI e.n),.d (pLs cE e.l)])] :=
 con_b (pan:=false) (zr (F:=FL [pS o.1,pI o.2,pI e.op,pI e.n,pLs cE e.l,pB v1] []) (C:=[(1000006,.bin .eql 3 (yh 1) (yh 2) (yh 5))]) (k:=⟨43,[.o (.g [.h 0,.h 1]),.o (.c (.p 900 0))],[.bx 900 32 [.h 2,.h 3,.h 4]],yh 5,[.bx 900 32 [.h 2,.h 3,.h 4]]⟩) 0 (zg ⟨za,za,za,za,(ze (zf rfl)),za,trivial⟩) ⟨e_bin (zb rfl) (zb rfl) (zb rfl) (r_cmp (congrArg some e1)),
  trivial⟩ mixed (by kernel_rfl))
theorem x_is {w0:World} (o:List UInt8×Int) (e:Xp) (r:Bool) (hr:(o.2 == e.op)=r):BFun false (KN w0) Tryz.prog 43 [.o (.g [.d (pS o.1),.d (pI o.2)]),.o (.c (.p 0 0))] [(32,[.d (pI e.op),.d (pI e.n),.d (pLs cE e.l)])] (.o (.c (.d (pB r)))) [(32,[.d (pI e.op),.d (pI e.n),.d (pLs cE e.l)])]:=zpx o e r hr
theorem zmq {w0:World} (e:Xp) (v1:Bool) (e1:((([43],(3:Int)).2 == e.op))=v1) (h2:v1=true):BFun false (KN w0) Tryz.prog 42 [.o (.c (.d (pLs cOp opsL))),.o (.c (.q 43 [(0,0)]))] [(32,[.d (pI e.op),.d (pI e.n),.d (pLs cE e.l)])] (.o (.c (.d (pV (.int .i64 0))))) [(32,[.d (pI e.op),.d (pI e.n),.d (pLs cE e.l)])] :=
 con_b (pan:=false) (zS (F:=FL [pLs cOp opsL,pI e.op,pI e.n,pLs cE e.l,pP (cOp (([43]:List UInt8),(3:Int))),pB v1] []) (C:=[(1000002,.op (.len [56] 3) [yh 0] [] (LF (.k (.int .i64 5)))),
  (1000010,.op (.ia 56) [yh 0,LF (.k (.int .i64 0))] [] (yh 4)),
  (1000011,.op (.ld 57) [yh 4] [] (.o (.g [.k (.string ⟨#[43]⟩),.k (.int .i64 3)]))),
  (1000012,.call ⟨43,[.o (.g [.k (.string ⟨#[43]⟩),.k (.int .i64 3)]),.o (.c (.p 900 0))],[.bx 900 32 [.h 1,.h 2,.h 3]],yh 5,[.bx 900 32 [.h 1,.h 2,.h 3]]⟩),
  (10005,.fb 5 true)]) (k:=⟨42,[yh 0,.o (.c (.q 43 [(900,0)]))],[.bx 900 32 [.h 1,.h 2,.h 3]],.o (.c (.k (.int .i64 0))),[.bx 900 32 [.h 1,.h 2,.h 3]]⟩) ⟨[],[],6⟩ [] 0 (zg ⟨(ze (zv rfl)),za,za,(ze (zf rfl)),(zl ((zv rfl) _)),za,trivial⟩) ⟨zF (E:=57) (by kernel_rfl) (zc rfl) zd,
  e_iaL (E:=57) (z:=2) qb (by kernel_rfl) (by kernel_rfl) (zc rfl) zd (show (0:Int)=((0:Nat):Int) from rfl) rfl (zc rfl),
  e_ldG (by kernel_rfl) (by kernel_rfl) (zc rfl) rfl rfl rfl,
  b_con (pan:=false) (x_is ([43],(3:Int)) e v1 e1),
  e_fbv h2,
  trivial⟩ mixed trivial (fun _ _ _ _ _ hs=>by cases hs) (by kernel_rfl))
theorem zmr {w0:World} (e:Xp) (v1:Bool) (v3:Bool) (e1:((([43],(3:Int)).2 == e.op))=v1) (e3:((([45],(4:Int)).2 == e.op))=v3) (h2:v1=false) (h4:v3=true):BFun false (KN w0) Tryz.prog 42 [.o (.c (.d (pLs cOp opsL))),.o (.c (.q 43 [(0,0)]))] [(32,[.d (pI e.op),.d (pI e.n),.d (pLs cE e.l)])] (.o (.c (.d (pV (.int .i64 1))))) [(32,[.d (pI e.op),.d (pI e.n),.d (pLs cE e.l)])] :=
 con_b (pan:=false) (zS (F:=FL [pLs cOp opsL,pI e.op,pI e.n,pLs cE e.l,pP (cOp (([43]:List UInt8),(3:Int))),pB v1,pP (cOp (([45]:List UInt8),(4:Int))),pB v3] []) (C:=[(1000002,.op (.len [56] 3) [yh 0] [] (LF (.k (.int .i64 5)))),
  (1000010,.op (.ia 56) [yh 0,LF (.k (.int .i64 0))] [] (yh 4)),
  (1000011,.op (.ld 57) [yh 4] [] (.o (.g [.k (.string ⟨#[43]⟩),.k (.int .i64 3)]))),
  (1000012,.call ⟨43,[.o (.g [.k (.string ⟨#[43]⟩),.k (.int .i64 3)]),.o (.c (.p 900 0))],[.bx 900 32 [.h 1,.h 2,.h 3]],yh 5,[.bx 900 32 [.h 1,.h 2,.h 3]]⟩),
  (10005,.fb 5 false),
  (1000013,.bin .add 3 (LF (.k (.int .i64 0))) (LF (.k (.int .i64 1))) (LF (.k (.int .i64 1)))),
  (1000021,.op (.ia 56) [yh 0,LF (.k (.int .i64 1))] [] (yh 6)),
  (1000022,.op (.ld 57) [yh 6] [] (.o (.g [.k (.string ⟨#[45]⟩),.k (.int .i64 4)]))),
  (1000023,.call ⟨43,[.o (.g [.k (.string ⟨#[45]⟩),.k (.int .i64 4)]),.o (.c (.p 900 0))],[.bx 900 32 [.h 1,.h 2,.h 3]],yh 7,[.bx 900 32 [.h 1,.h 2,.h 3]]⟩),
  (10007,.fb 7 true)]) (k:=⟨42,[yh 0,.o (.c (.q 43 [(900,0)]))],[.bx 900 32 [.h 1,.h 2,.h 3]],.o (.c (.k (.int .i64 1))),[.bx 900 32 [.h 1,.h 2,.h 3]]⟩) ⟨[],[],6⟩ [] 0 (zg ⟨(ze (zv rfl)),za,za,(ze (zf rfl)),(zl ((zv rfl) _)),za,(zl ((zv rfl) _)),za,trivial⟩) ⟨zF (E:=57) (by kernel_rfl) (zc rfl) zd,
  e_iaL (E:=57) (z:=2) qb (by kernel_rfl) (by kernel_rfl) (zc rfl) zd (show (0:Int)=((0:Nat):Int) from rfl) rfl (zc rfl),
  e_ldG (by kernel_rfl) (by kernel_rfl) (zc rfl) rfl rfl rfl,
  b_con (pan:=false) (x_is ([43],(3:Int)) e v1 e1),
  e_fbv h2,
  e_bin zd zd zd (r_ar rfl),
  e_iaL (E:=57) (z:=2) qb (by kernel_rfl) (by kernel_rfl) (zc rfl) zd (show (1:Int)=((1:Nat):Int) from rfl) rfl (zc rfl),
  e_ldG (by kernel_rfl) (by kernel_rfl) (zc rfl) rfl rfl rfl,
  b_con (pan:=false) (x_is ([45],(4:Int)) e v3 e3),
  e_fbv h4,
  trivial⟩ mixed trivial (fun _ _ _ _ _ hs=>by cases hs) (by kernel_rfl))
theorem zms {w0:World} (e:Xp) (v1:Bool) (v3:Bool) (v5:Bool) (e1:((([43],(3:Int)).2 == e.op))=v1) (e3:((([45],(4:Int)).2 == e.op))=v3) (e5:((([42],(5:Int)).2 == e.op))=v5) (h2:v1=false) (h4:v3=false) (h6:v5=true):BFun false (KN w0) Tryz.prog 42 [.o (.c (.d (pLs cOp opsL))),.o (.c (.q 43 [(0,0)]))] [(32,[.d (pI e.op),.d (pI e.n),.d (pLs cE e.l)])] (.o (.c (.d (pV (.int .i64 2))))) [(32,[.d (pI e.op),.d (pI e.n),.d (pLs cE e.l)])] :=
 con_b (pan:=false) (zS (F:=FL [pLs cOp opsL,pI e.op,pI e.n,pLs cE e.l,pP (cOp (([43]:List UInt8),(3:Int))),pB v1,pP (cOp (([45]:List UInt8),(4:Int))),pB v3,pP (cOp (([42]:List UInt8),(5:Int))),pB v5] []) (C:=[(1000002,.op (.len [56] 3) [yh 0] [] (LF (.k (.int .i64 5)))),
  (1000010,.op (.ia 56) [yh 0,LF (.k (.int .i64 0))] [] (yh 4)),
  (1000011,.op (.ld 57) [yh 4] [] (.o (.g [.k (.string ⟨#[43]⟩),.k (.int .i64 3)]))),
  (1000012,.call ⟨43,[.o (.g [.k (.string ⟨#[43]⟩),.k (.int .i64 3)]),.o (.c (.p 900 0))],[.bx 900 32 [.h 1,.h 2,.h 3]],yh 5,[.bx 900 32 [.h 1,.h 2,.h 3]]⟩),
  (10005,.fb 5 false),
  (1000013,.bin .add 3 (LF (.k (.int .i64 0))) (LF (.k (.int .i64 1))) (LF (.k (.int .i64 1)))),
  (1000021,.op (.ia 56) [yh 0,LF (.k (.int .i64 1))] [] (yh 6)),
  (1000022,.op (.ld 57) [yh 6] [] (.o (.g [.k (.string ⟨#[45]⟩),.k (.int .i64 4)]))),
  (1000023,.call ⟨43,[.o (.g [.k (.string ⟨#[45]⟩),.k (.int .i64 4)]),.o (.c (.p 900 0))],[.bx 900 32 [.h 1,.h 2,.h 3]],yh 7,[.bx 900 32 [.h 1,.h 2,.h 3]]⟩),
  (10007,.fb 7 false),
  (1000024,.bin .add 3 (LF (.k (.int .i64 1))) (LF (.k (.int .i64 1))) (LF (.k (.int .i64 2)))),
  (1000032,.op (.ia 56) [yh 0,LF (.k (.int .i64 2))] [] (yh 8)),
  (1000033,.op (.ld 57) [yh 8] [] (.o (.g [.k (.string ⟨#[42]⟩),.k (.int .i64 5)]))),
  (1000034,.call ⟨43,[.o (.g [.k (.string ⟨#[42]⟩),.k (.int .i64 5)]),.o (.c (.p 900 0))],[.bx 900 32 [.h 1,.h 2,.h 3]],yh 9,[.bx 900 32 [.h 1,.h 2,.h 3]]⟩),
  (10009,.fb 9 true)]) (k:=⟨42,[yh 0,.o (.c (.q 43 [(900,0)]))],[.bx 900 32 [.h 1,.h 2,.h 3]],.o (.c (.k (.int .i64 2))),[.bx 900 32 [.h 1,.h 2,.h 3]]⟩) ⟨[],[],6⟩ [] 0 (zg ⟨(ze (zv rfl)),za,za,(ze (zf rfl)),(zl ((zv rfl) _)),za,(zl ((zv rfl) _)),za,(zl ((zv rfl) _)),za,trivial⟩) ⟨zF (E:=57) (by kernel_rfl) (zc rfl) zd,
  e_iaL (E:=57) (z:=2) qb (by kernel_rfl) (by kernel_rfl) (zc rfl) zd (show (0:Int)=((0:Nat):Int) from rfl) rfl (zc rfl),
  e_ldG (by kernel_rfl) (by kernel_rfl) (zc rfl) rfl rfl rfl,
  b_con (pan:=false) (x_is ([43],(3:Int)) e v1 e1),
  e_fbv h2,
  e_bin zd zd zd (r_ar rfl),
  e_iaL (E:=57) (z:=2) qb (by kernel_rfl) (by kernel_rfl) (zc rfl) zd (show (1:Int)=((1:Nat):Int) from rfl) rfl (zc rfl),
  e_ldG (by kernel_rfl) (by kernel_rfl) (zc rfl) rfl rfl rfl,
  b_con (pan:=false) (x_is ([45],(4:Int)) e v3 e3),
  e_fbv h4,
  e_bin zd zd zd (r_ar rfl),
  e_iaL (E:=57) (z:=2) qb (by kernel_rfl) (by kernel_rfl) (zc rfl) zd (show (2:Int)=((2:Nat):Int) from rfl) rfl (zc rfl),
  e_ldG (by kernel_rfl) (by kernel_rfl) (zc rfl) rfl rfl rfl,
  b_con (pan:=false) (x_is ([42],(5:Int)) e v5 e5),
  e_fbv h6,
  trivial⟩ mixed trivial (fun _ _ _ _ _ hs=>by cases hs) (by kernel_rfl))
theorem zmt {w0:World} (e:Xp) (v1:Bool) (v3:Bool) (v5:Bool) (v7:Bool) (e1:((([43],(3:Int)).2 == e.op))=v1) (e3:((([45],(4:Int)).2 == e.op))=v3) (e5:((([42],(5:Int)).2 == e.op))=v5) (e7:((([109,105,110],(6:Int)).2 == e.op))=v7) (h2:v1=false) (h4:v3=false) (h6:v5=false) (h8:v7=true):BFun false (KN w0) Tryz.prog 42 [.o (.c (.d (pLs cOp opsL))),.o (.c (.q 43 [(0,0)]))] [(32,[.d (pI e.op),.d (pI e.n),.d (pLs cE e.l)])] (.o (.c (.d (pV (.int .i64 3))))) [(32,[.d (pI e.op),.d (pI e.n),.d (pLs cE e.l)])] :=
 con_b (pan:=false) (zS (F:=FL [pLs cOp opsL,pI e.op,pI e.n,pLs cE e.l,pP (cOp (([43]:List UInt8),(3:Int))),pB v1,pP (cOp (([45]:List UInt8),(4:Int))),pB v3,pP (cOp (([42]:List UInt8),(5:Int))),pB v5,pP (cOp (([109,105,110]:List UInt8),(6:Int))),pB v7] []) (C:=[(1000002,.op (.len [56] 3) [yh 0] [] (LF (.k (.int .i64 5)))),
  (1000010,.op (.ia 56) [yh 0,LF (.k (.int .i64 0))] [] (yh 4)),
  (1000011,.op (.ld 57) [yh 4] [] (.o (.g [.k (.string ⟨#[43]⟩),.k (.int .i64 3)]))),
  (1000012,.call ⟨43,[.o (.g [.k (.string ⟨#[43]⟩),.k (.int .i64 3)]),.o (.c (.p 900 0))],[.bx 900 32 [.h 1,.h 2,.h 3]],yh 5,[.bx 900 32 [.h 1,.h 2,.h 3]]⟩),
  (10005,.fb 5 false),
  (1000013,.bin .add 3 (LF (.k (.int .i64 0))) (LF (.k (.int .i64 1))) (LF (.k (.int .i64 1)))),
  (1000021,.op (.ia 56) [yh 0,LF (.k (.int .i64 1))] [] (yh 6)),
  (1000022,.op (.ld 57) [yh 6] [] (.o (.g [.k (.string ⟨#[45]⟩),.k (.int .i64 4)]))),
  (1000023,.call ⟨43,[.o (.g [.k (.string ⟨#[45]⟩),.k (.int .i64 4)]),.o (.c (.p 900 0))],[.bx 900 32 [.h 1,.h 2,.h 3]],yh 7,[.bx 900 32 [.h 1,.h 2,.h 3]]⟩),
  (10007,.fb 7 false),
  (1000024,.bin .add 3 (LF (.k (.int .i64 1))) (LF (.k (.int .i64 1))) (LF (.k (.int .i64 2)))),
  (1000032,.op (.ia 56) [yh 0,LF (.k (.int .i64 2))] [] (yh 8)),
  (1000033,.op (.ld 57) [yh 8] [] (.o (.g [.k (.string ⟨#[42]⟩),.k (.int .i64 5)]))),
  (1000034,.call ⟨43,[.o (.g [.k (.string ⟨#[42]⟩),.k (.int .i64 5)]),.o (.c (.p 900 0))],[.bx 900 32 [.h 1,.h 2,.h 3]],yh 9,[.bx 900 32 [.h 1,.h 2,.h 3]]⟩),
  (10009,.fb 9 false),
  (1000035,.bin .add 3 (LF (.k (.int .i64 2))) (LF (.k (.int .i64 1))) (LF (.k (.int .i64 3)))),
  (1000043,.op (.ia 56) [yh 0,LF (.k (.int .i64 3))] [] (yh 10)),
  (1000044,.op (.ld 57) [yh 10] [] (.o (.g [.k (.string ⟨#[109,105,110]⟩),.k (.int .i64 6)]))),
  (1000045,.call ⟨43,[.o (.g [.k (.string ⟨#[109,105,110]⟩),.k (.int .i64 6)]),.o (.c (.p 900 0))],[.bx 900 32 [.h 1,.h 2,.h 3]],yh 11,[.bx 900 32 [.h 1,.h 2,.h 3]]⟩),
  (10011,.fb 11 true)]) (k:=⟨42,[yh 0,.o (.c (.q 43 [(900,0)]))],[.bx 900 32 [.h 1,.h 2,.h 3]],.o (.c (.k (.int .i64 3))),[.bx 900 32 [.h 1,.h 2,.h 3]]⟩) ⟨[],[],6⟩ [] 0 (zg ⟨(ze (zv rfl)),za,za,(ze (zf rfl)),(zl ((zv rfl) _)),za,(zl ((zv rfl) _)),za,(zl ((zv rfl) _)),za,(zl ((zv rfl) _)),za,trivial⟩) ⟨zF (E:=57) (by kernel_rfl) (zc rfl) zd,
  e_iaL (E:=57) (z:=2) qb (by kernel_rfl) (by kernel_rfl) (zc rfl) zd (show (0:Int)=((0:Nat):Int) from rfl) rfl (zc rfl),
  e_ldG (by kernel_rfl) (by kernel_rfl) (zc rfl) rfl rfl rfl,
  b_con (pan:=false) (x_is ([43],(3:Int)) e v1 e1),
  e_fbv h2,
  e_bin zd zd zd (r_ar rfl),
  e_iaL (E:=57) (z:=2) qb (by kernel_rfl) (by kernel_rfl) (zc rfl) zd (show (1:Int)=((1:Nat):Int) from rfl) rfl (zc rfl),
  e_ldG (by kernel_rfl) (by kernel_rfl) (zc rfl) rfl rfl rfl,
  b_con (pan:=false) (x_is ([45],(4:Int)) e v3 e3),
  e_fbv h4,
  e_bin zd zd zd (r_ar rfl),
  e_iaL (E:=57) (z:=2) qb (by kernel_rfl) (by kernel_rfl) (zc rfl) zd (show (2:Int)=((2:Nat):Int) from rfl) rfl (zc rfl),
  e_ldG (by kernel_rfl) (by kernel_rfl) (zc rfl) rfl rfl rfl,
  b_con (pan:=false) (x_is ([42],(5:Int)) e v5 e5),
  e_fbv h6,
  e_bin zd zd zd (r_ar rfl),
  e_iaL (E:=57) (z:=2) qb (by kernel_rfl) (by kernel_rfl) (zc rfl) zd (show (3:Int)=((3:Nat):Int) from rfl) rfl (zc rfl),
  e_ldG (by kernel_rfl) (by kernel_rfl) (zc rfl) rfl rfl rfl,
  b_con (pan:=false) (x_is ([109,105,110],(6:Int)) e v7 e7),
  e_fbv h8,
  trivial⟩ mixed trivial (fun _ _ _ _ _ hs=>by cases hs) (by kernel_rfl))
theorem zmu {w0:World} (e:Xp) (v1:Bool) (v3:Bool) (v5:Bool) (v7:Bool) (v9:Bool) (e1:((([43],(3:Int)).2 == e.op))=v1) (e3:((([45],(4:Int)).2 == e.op))=v3) (e5:((([42],(5:Int)).2 == e.op))=v5) (e7:((([109,105,110],(6:Int)).2 == e.op))=v7) (e9:((([109,97,120],(7:Int)).2 == e.op))=v9) (h2:v1=false) (h4:v3=false) (h6:v5=false) (h8:v7=false) (h10:v9=true):BFun false (KN w0) Tryz.prog 42 [.o (.c (.d (pLs cOp opsL))),.o (.c (.q 43 [(0,0)]))] [(32,[.d (pI e.op),.d (pI e.n),.d (pLs cE e.l)])] (.o (.c (.d (pV (.int .i64 4))))) [(32,[.d (pI e.op),.d (pI e.n),.d (pLs cE e.l)])] :=
 con_b (pan:=false) (zS (F:=FL [pLs cOp opsL,pI e.op,pI e.n,pLs cE e.l,pP (cOp (([43]:List UInt8),(3:Int))),pB v1,pP (cOp (([45]:List UInt8),(4:Int))),pB v3,pP (cOp (([42]:List UInt8),(5:Int))),pB v5,pP (cOp (([109,105,110]:List UInt8),(6:Int))),pB v7,pP (cOp (([109,97,120]:List UInt8),(7:Int))),pB v9] []) (C:=[(1000002,.op (.len [56] 3) [yh 0] [] (LF (.k (.int .i64 5)))),
  (1000010,.op (.ia 56) [yh 0,LF (.k (.int .i64 0))] [] (yh 4)),
  (1000011,.op (.ld 57) [yh 4] [] (.o (.g [.k (.string ⟨#[43]⟩),.k (.int .i64 3)]))),
  (1000012,.call ⟨43,[.o (.g [.k (.string ⟨#[43]⟩),.k (.int .i64 3)]),.o (.c (.p 900 0))],[.bx 900 32 [.h 1,.h 2,.h 3]],yh 5,[.bx 900 32 [.h 1,.h 2,.h 3]]⟩),
  (10005,.fb 5 false),
  (1000013,.bin .add 3 (LF (.k (.int .i64 0))) (LF (.k (.int .i64 1))) (LF (.k (.int .i64 1)))),
  (1000021,.op (.ia 56) [yh 0,LF (.k (.int .i64 1))] [] (yh 6)),
  (1000022,.op (.ld 57) [yh 6] [] (.o (.g [.k (.string ⟨#[45]⟩),.k (.int .i64 4)]))),
  (1000023,.call ⟨43,[.o (.g [.k (.string ⟨#[45]⟩),.k (.int .i64 4)]),.o (.c (.p 900 0))],[.bx 900 32 [.h 1,.h 2,.h 3]],yh 7,[.bx 900 32 [.h 1,.h 2,.h 3]]⟩),
  (10007,.fb 7 false),
  (1000024,.bin .add 3 (LF (.k (.int .i64 1))) (LF (.k (.int .i64 1))) (LF (.k (.int .i64 2)))),
  (1000032,.op (.ia 56) [yh 0,LF (.k (.int .i64 2))] [] (yh 8)),
  (1000033,.op (.ld 57) [yh 8] [] (.o (.g [.k (.string ⟨#[42]⟩),.k (.int .i64 5)]))),
  (1000034,.call ⟨43,[.o (.g [.k (.string ⟨#[42]⟩),.k (.int .i64 5)]),.o (.c (.p 900 0))],[.bx 900 32 [.h 1,.h 2,.h 3]],yh 9,[.bx 900 32 [.h 1,.h 2,.h 3]]⟩),
  (10009,.fb 9 false),
  (1000035,.bin .add 3 (LF (.k (.int .i64 2))) (LF (.k (.int .i64 1))) (LF (.k (.int .i64 3)))),
  (1000043,.op (.ia 56) [yh 0,LF (.k (.int .i64 3))] [] (yh 10)),
  (1000044,.op (.ld 57) [yh 10] [] (.o (.g [.k (.string ⟨#[109,105,110]⟩),.k (.int .i64 6)]))),
  (1000045,.call ⟨43,[.o (.g [.k (.string ⟨#[109,105,110]⟩),.k (.int .i64 6)]),.o (.c (.p 900 0))],[.bx 900 32 [.h 1,.h 2,.h 3]],yh 11,[.bx 900 32 [.h 1,.h 2,.h 3]]⟩),
  (10011,.fb 11 false),
  (1000046,.bin .add 3 (LF (.k (.int .i64 3))) (LF (.k (.int .i64 1))) (LF (.k (.int .i64 4)))),
  (1000054,.op (.ia 56) [yh 0,LF (.k (.int .i64 4))] [] (yh 12)),
  (1000055,.op (.ld 57) [yh 12] [] (.o (.g [.k (.string ⟨#[109,97,120]⟩),.k (.int .i64 7)]))),
  (1000056,.call ⟨43,[.o (.g [.k (.string ⟨#[109,97,120]⟩),.k (.int .i64 7)]),.o (.c (.p 900 0))],[.bx 900 32 [.h 1,.h 2,.h 3]],yh 13,[.bx 900 32 [.h 1,.h 2,.h 3]]⟩),
  (10013,.fb 13 true)]) (k:=⟨42,[yh 0,.o (.c (.q 43 [(900,0)]))],[.bx 900 32 [.h 1,.h 2,.h 3]],.o (.c (.k (.int .i64 4))),[.bx 900 32 [.h 1,.h 2,.h 3]]⟩) ⟨[],[],6⟩ [] 0 (zg ⟨(ze (zv rfl)),za,za,(ze (zf rfl)),(zl ((zv rfl) _)),za,(zl ((zv rfl) _)),za,(zl ((zv rfl) _)),za,(zl ((zv rfl) _)),za,(zl ((zv rfl) _)),za,trivial⟩) ⟨zF (E:=57) (by kernel_rfl) (zc rfl) zd,
  e_iaL (E:=57) (z:=2) qb (by kernel_rfl) (by kernel_rfl) (zc rfl) zd (show (0:Int)=((0:Nat):Int) from rfl) rfl (zc rfl),
  e_ldG (by kernel_rfl) (by kernel_rfl) (zc rfl) rfl rfl rfl,
  b_con (pan:=false) (x_is ([43],(3:Int)) e v1 e1),
  e_fbv h2,
  e_bin zd zd zd (r_ar rfl),
  e_iaL (E:=57) (z:=2) qb (by kernel_rfl) (by kernel_rfl) (zc rfl) zd (show (1:Int)=((1:Nat):Int) from rfl) rfl (zc rfl),
  e_ldG (by kernel_rfl) (by kernel_rfl) (zc rfl) rfl rfl rfl,
  b_con (pan:=false) (x_is ([45],(4:Int)) e v3 e3),
  e_fbv h4,
  e_bin zd zd zd (r_ar rfl),
  e_iaL (E:=57) (z:=2) qb (by kernel_rfl) (by kernel_rfl) (zc rfl) zd (show (2:Int)=((2:Nat):Int) from rfl) rfl (zc rfl),
  e_ldG (by kernel_rfl) (by kernel_rfl) (zc rfl) rfl rfl rfl,
  b_con (pan:=false) (x_is ([42],(5:Int)) e v5 e5),
  e_fbv h6,
  e_bin zd zd zd (r_ar rfl),
  e_iaL (E:=57) (z:=2) qb (by kernel_rfl) (by kernel_rfl) (zc rfl) zd (show (3:Int)=((3:Nat):Int) from rfl) rfl (zc rfl),
  e_ldG (by kernel_rfl) (by kernel_rfl) (zc rfl) rfl rfl rfl,
  b_con (pan:=false) (x_is ([109,105,110],(6:Int)) e v7 e7),
  e_fbv h8,
  e_bin zd zd zd (r_ar rfl),
  e_iaL (E:=57) (z:=2) qb (by kernel_rfl) (by kernel_rfl) (zc rfl) zd (show (4:Int)=((4:Nat):Int) from rfl) rfl (zc rfl),
  e_ldG (by kernel_rfl) (by kernel_rfl) (zc rfl) rfl rfl rfl,
  b_con (pan:=false) (x_is ([109,97,120],(7:Int)) e v9 e9),
  e_fbv h10,
  trivial⟩ mixed trivial (fun _ _ _ _ _ hs=>by cases hs) (by kernel_rfl))
theorem x_ixf {w0:World} (e:Xp) (r:Int) (hr:e.op - 3=r) (ho:3≤e.op∧e.op≤7):BFun false (KN w0) Tryz.prog 42 [.o (.c (.d (pLs cOp opsL))),.o (.c (.q 43 [(0,0)]))] [(32,[.d (pI e.op),.d (pI e.n),.d (pLs cE e.l)])] (.o (.c (.d (pI r)))) [(32,[.d (pI e.op),.d (pI e.n),.d (pLs cE e.l)])]:=by
 obtain ⟨v1,e1⟩:∃v,((([43],(3:Int)).2 == e.op))=v:=⟨_,rfl⟩
 cases h2:v1 with
 | true =>
  have r0:r=(0:Int):=by
   first | (simp_all;done) | (simp_all;omega)
  rw [r0];exact zmq e v1 e1 h2
 | false =>
  obtain ⟨v3,e3⟩:∃v,((([45],(4:Int)).2 == e.op))=v:=⟨_,rfl⟩
  cases h4:v3 with
  | true =>
   have r0:r=(1:Int):=by
    first | (simp_all;done) | (simp_all;omega)
   rw [r0];exact zmr e v1 v3 e1 e3 h2 h4
  | false =>
   obtain ⟨v5,e5⟩:∃v,((([42],(5:Int)).2 == e.op))=v:=⟨_,rfl⟩
   cases h6:v5 with
   | true =>
    have r0:r=(2:Int):=by
     first | (simp_all;done) | (simp_all;omega)
    rw [r0];exact zms e v1 v3 v5 e1 e3 e5 h2 h4 h6
   | false =>
    obtain ⟨v7,e7⟩:∃v,((([109,105,110],(6:Int)).2 == e.op))=v:=⟨_,rfl⟩
    cases h8:v7 with
    | true =>
     have r0:r=(3:Int):=by
      first | (simp_all;done) | (simp_all;omega)
     rw [r0];exact zmt e v1 v3 v5 v7 e1 e3 e5 e7 h2 h4 h6 h8
    | false =>
     obtain ⟨v9,e9⟩:∃v,((([109,97,120],(7:Int)).2 == e.op))=v:=⟨_,rfl⟩
     cases h10:v9 with
     | true =>
      have r0:r=(4:Int):=by
       first | (simp_all;done) | (simp_all;omega)
      rw [r0];exact zmu e v1 v3 v5 v7 v9 e1 e3 e5 e7 e9 h2 h4 h6 h8 h10
     | false =>
      first | (exfalso;simp_all;done) | (exfalso;simp_all;omega)
theorem zpy {w0:World} (l:List (List UInt8×Int)) (e:Xp) (r:Int) (hr:e.op - 3=r) (ho:3≤e.op∧e.op≤7):BFun false (KN w0) Tryz.prog 42 [.o (.c (.d (pLs cOp opsL))),.o (.c (.q 43 [(0,0)]))] [(32,[.d (pI e.op),.d (pI e.n),.d (pLs cE e.l)])] (.o (.c (.d (pI r)))) [(32,[.d (pI e.op),.d (pI e.n),.d (pLs cE e.l)])]:=x_ixf e r hr ho
theorem zc0 {n:Int} (h:valB n=true):(Lib.itoa n).length≤8:=by
 have hv:=zat.1 h
 have:=zcU (v:=n.natAbs) (by omega)
 have:=zcU (v:=n.toNat) (by omega)
 unfold Lib.itoa
 split<;>simp<;>omega
theorem zjj {k n:Int} (h0:0≤n) (h1:n<min k 4):valB n=true:=zat.2 (by omega)
theorem zae (o:Int):(opW o).length≤3:=by
 unfold opW
 split
 ·decide
 split
 ·decide
 split
 ·decide
 split
 ·decide
 ·decide
theorem qc {k:Int}:∀{e:Xp},Vx k e→(zy e).length≤24*nodes e:=by
 intro e h
 induction h with
 | num h=>rw [qW,nodes,zw];have:=zc0 h;omega
 | arg h0 h1=>rw [zag,List.length_cons,nodes,zw];have:=zc0 (zjj h0 h1);omega
 | @op o x y h0 h1 ha hb iha ihb =>
  rw [za0 h0,nodes,zw,zw,zw]
  have:=zae o
  simp only [List.length_cons,List.length_append,List.length_nil]
  omega
theorem zkd {o:Int} (h:3≤o∧o≤7):∃(n:Nat) (x:List UInt8×Int),o - 3=(n:Int)∧opsL[n]?=some x:=by
 have:o=3∨o=4∨o=5∨o=6∨o=7:=by omega
 rcases this with rfl | rfl | rfl | rfl | rfl
 ·exact ⟨0,_,rfl,rfl⟩
 ·exact ⟨1,_,rfl,rfl⟩
 ·exact ⟨2,_,rfl,rfl⟩
 ·exact ⟨3,_,rfl,rfl⟩
 ·exact ⟨4,_,rfl,rfl⟩
theorem zcO {n:Nat} {o:Int} {x:List UInt8×Int} (h:opsL[n]?=some x) (hn:o - 3=n):x.1=opW o∧x.2=o:=by
 obtain rfl:o=n+3:=by omega
 match n,h with
 | 0,h=>injection h with h;subst h;exact ⟨rfl,rfl⟩
 | 1,h=>injection h with h;subst h;exact ⟨rfl,rfl⟩
 | 2,h=>injection h with h;subst h;exact ⟨rfl,rfl⟩
 | 3,h=>injection h with h;subst h;exact ⟨rfl,rfl⟩
 | 4,h=>injection h with h;subst h;exact ⟨rfl,rfl⟩
 | _+5,h=>simp [opsL] at h
theorem zhZ {k:Int} {e:Xp} (h:Vx k e) (ho:e.op=1):zy e=Lib.itoa e.n∧valB e.n=true:=by
 cases h with
 | num h=>exact ⟨qW _ _,h⟩
 | arg h0 h1=>cases ho
 | op h0 h1 _ _=>simp only [Xp.op] at ho;omega
theorem zeh {k:Int} {e:Xp} (h:Vx k e) (ho:e.op=2):zy e=36::Lib.itoa e.n∧valB e.n=true:=by
 cases h with
 | num h=>cases ho
 | arg h0 h1=>exact ⟨zag _ _,zjj h0 h1⟩
 | op h0 h1 _ _=>simp only [Xp.op] at ho;omega
theorem wr_op {k:Int} {e x y:Xp} {n m:Nat} (h:Vx k e) (h1:¬ e.op=1) (h2:¬ e.op=2) (hn:(0:Int)=n) (hm:(1:Int)=m) (hx:e.l[n]?=some x) (hy:e.l[m]?=some y):zy e=40::(opW e.op++(32::zy x++(32::zy y))++[41])∧(zy x).length+(zy y).length≤24*nodes e:=by
 obtain ⟨a,b,he,h3,h4,va,vb⟩:=vx_op h h1 h2
 obtain rfl:n=0:=by omega
 obtain rfl:m=1:=by omega
 have ex:x=a:=by rw [he] at hx;injection hx with hx;exact hx.symm
 have ey:y=b:=by rw [he] at hy;injection hy with hy;exact hy.symm
 subst ex;subst ey
 have l1:=qc va
 have l2:=qc vb
 refine ⟨by rw [he,za0 h3];rfl,?_⟩
 rw [he,nodes,zw,zw,zw]
 omega
theorem val64 {n:Int} (h:valB n=true):-9223372036854775808≤n∧n<9223372036854775808:=znm h
def za5 (w0:World) (k:Int) (N:Nat):Prop:=∀(x:Xp) (v:List UInt8),zy x=v→Vx k x→nodes x≤N→Fun (KN w0) Tryz.prog 20 [.o (.g [pI x.op,pI x.n,pLs cE x.l])] (.o (.c (pS v)))
theorem zjc {w0:World} (e:Xp) (N:Nat) (k:Int) (IH:za5 w0 k N) (hL:LibT w0) (v1:Bool) (v3:(List UInt8)) (e1:((e.op == (1:Int)))=v1) (e3:(Lib.itoa e.n)=v3) (h2:v1=true) (s4:-9223372036854775808≤e.n∧e.n<9223372036854775808):Fun (KN w0) Tryz.prog 20 [.o (.g [pI e.op,pI e.n,pLs cE e.l])] (.o (.c (pS v3))):=
 zk (zr (F:=FL [pI e.op,pI e.n,pLs cE e.l,pB v1,pS v3] []) (C:=[(1000004,.bin .eql 3 (yh 0) (LF (.k (.int .i64 1))) (yh 3)),
  (10003,.fb 3 true),
  (1000008,.call ⟨41,[yh 1],[],yh 4,[]⟩)]) (k:=⟨20,[.o (.g [.h 0,.h 1,.h 2])],[],yh 4,[]⟩) 0 (zg ⟨za,za,(ze (zf rfl)),za,za,trivial⟩) ⟨e_bin (zb rfl) zd (zb rfl) (r_cmp (congrArg some e1)),
  e_fbv h2,
  zh (znr hL e.n v3 e3 s4),
  trivial⟩ mixed (by kernel_rfl))
theorem zjd {w0:World} (e:Xp) (N:Nat) (k:Int) (IH:za5 w0 k N) (hL:LibT w0) (v1:Bool) (v3:Bool) (v5:(List UInt8)) (v7:(List UInt8)) (e1:((e.op == (1:Int)))=v1) (e3:((e.op == (2:Int)))=v3) (e5:(Lib.itoa e.n)=v5) (e7:([36]++v5)=v7) (h2:v1=false) (h4:v3=true) (s6:-9223372036854775808≤e.n∧e.n<9223372036854775808) (s8:((([36]:List UInt8).length+(v5:List UInt8).length:Nat):Int)≤9223372036854775807):Fun (KN w0) Tryz.prog 20 [.o (.g [pI e.op,pI e.n,pLs cE e.l])] (.o (.c (pS v7))):=
 zk (zr (F:=FL [pI e.op,pI e.n,pLs cE e.l,pB v1,pB v3,pS v5,pS v7] []) (C:=[(1000004,.bin .eql 3 (yh 0) (LF (.k (.int .i64 1))) (yh 3)),
  (10003,.fb 3 false),
  (1000006,.bin .eql 3 (yh 0) (LF (.k (.int .i64 2))) (yh 4)),
  (10004,.fb 4 true),
  (1000010,.call ⟨41,[yh 1],[],yh 5,[]⟩),
  (1000011,.bin .add 9 (LF (.k (.string ⟨#[36]⟩))) (yh 5) (yh 6))]) (k:=⟨20,[.o (.g [.h 0,.h 1,.h 2])],[],yh 6,[]⟩) 0 (zg ⟨za,za,(ze (zf rfl)),za,za,za,za,trivial⟩) ⟨e_bin (zb rfl) zd (zb rfl) (r_cmp (congrArg some e1)),
  e_fbv h2,
  e_bin (zb rfl) zd (zb rfl) (r_cmp (congrArg some e3)),
  e_fbv h4,
  zh (znr hL e.n v5 e5 s6),
  e_bin zd (zb rfl) (zb rfl) (fun W X Y=>by rw [← e7];exact r_cat s8 W X Y),
  trivial⟩ mixed (by kernel_rfl))
theorem zje {w0:World} (e:Xp) (N:Nat) (k:Int) (IH:za5 w0 k N) (hL:LibT w0) (v1:Bool) (v3:Bool) (v5:Int) (n7:Nat) (x8:(List UInt8×Int)) (v11:(List UInt8)) (v13:(List UInt8)) (n15:Nat) (x16:Xp) (v19:(List UInt8)) (v22:(List UInt8)) (v24:(List UInt8)) (n26:Nat) (x27:Xp) (v30:(List UInt8)) (v33:(List UInt8)) (v35:(List UInt8)) (e1:((e.op == (1:Int)))=v1) (e3:((e.op == (2:Int)))=v3) (e5:(e.op - 3)=v5) (e11:([40]++x8.1)=v11) (e13:(v11++[32])=v13) (e19:(zy x16)=v19) (e22:(v13++v19)=v22) (e24:(v22++[32])=v24) (e30:(zy x27)=v30) (e33:(v24++v30)=v33) (e35:(v33++[41])=v35) (h2:v1=false) (h4:v3=false) (s6:3≤e.op∧e.op≤7) (s9:v5=(n7:Int)) (s10:opsL[n7]?=some x8) (s12:((([40]:List UInt8).length+(x8.1:List UInt8).length:Nat):Int)≤9223372036854775807) (s14:(((v11:List UInt8).length+([32]:List UInt8).length:Nat):Int)≤9223372036854775807) (s17:(0:Int)=(n15:Int)) (s18:e.l[n15]?=some x16) (s20:Vx k x16) (s21:nodes x16≤N) (s23:(((v13:List UInt8).length+(v19:List UInt8).length:Nat):Int)≤9223372036854775807) (s25:(((v22:List UInt8).length+([32]:List UInt8).length:Nat):Int)≤9223372036854775807) (s28:(1:Int)=(n26:Int)) (s29:e.l[n26]?=some x27) (s31:Vx k x27) (s32:nodes x27≤N) (s34:(((v24:List UInt8).length+(v30:List UInt8).length:Nat):Int)≤9223372036854775807) (s36:(((v33:List UInt8).length+([41]:List UInt8).length:Nat):Int)≤9223372036854775807):Fun (KN w0) Tryz.prog 20 [.o (.g [pI e.op,pI e.n,pLs cE e.l])] (.o (.c (pS v35))):=
 zk (zr (F:=FL [pI e.op,pI e.n,pLs cE e.l,pB v1,pB v3,pLs cOp opsL,pI v5,pLs cOp opsL,pP (cOp x8),pP ((cOp x8).drop 0),pS x8.1,pS v11,pS v13,pP (cE x16),pI x16.op,pI x16.n,pLs cE x16.l,pS v19,pS v22,pS v24,pP (cE x27),pI x27.op,pI x27.n,pLs cE x27.l,pS v30,pS v33,pS v35] []) (C:=[(1000004,.bin .eql 3 (yh 0) (LF (.k (.int .i64 1))) (yh 3)),
  (10003,.fb 3 false),
  (1000006,.bin .eql 3 (yh 0) (LF (.k (.int .i64 2))) (yh 4)),
  (10004,.fb 4 false),
  (1000008,.op (.ld 56) [LF (.k (.pointer (some ⟨0,0,none⟩)))] [] (yh 5)),
  (1000010,.call ⟨42,[yh 5,.o (.c (.q 43 [(0,0)]))],[.bx 0 32 [.h 0,.h 1,.h 2]],yh 6,[.bx 0 32 [.h 0,.h 1,.h 2]]⟩),
  (1000012,.op (.ld 56) [LF (.k (.pointer (some ⟨0,0,none⟩)))] [] (yh 7)),
  (1000014,.op (.ia 56) [yh 7,yh 6] [] (yh 8)),
  (1000015,.op (.fa 57 0) [yh 8] [] (yh 9)),
  (1000016,.op (.ld 9) [yh 9] [] (yh 10)),
  (1000017,.bin .add 9 (LF (.k (.string ⟨#[40]⟩))) (yh 10) (yh 11)),
  (1000018,.bin .add 9 (yh 11) (LF (.k (.string ⟨#[32]⟩))) (yh 12)),
  (1000021,.op (.ia 29) [yh 2,LF (.k (.int .i64 0))] [] (yh 13)),
  (1000022,.op (.ld 32) [yh 13] [] (.o (.g [.h 14,.h 15,.h 16]))),
  (1000023,.call ⟨20,[.o (.g [.h 14,.h 15,.h 16])],[],yh 17,[]⟩),
  (1000024,.bin .add 9 (yh 12) (yh 17) (yh 18)),
  (1000025,.bin .add 9 (yh 18) (LF (.k (.string ⟨#[32]⟩))) (yh 19)),
  (1000028,.op (.ia 29) [yh 2,LF (.k (.int .i64 1))] [] (yh 20)),
  (1000029,.op (.ld 32) [yh 20] [] (.o (.g [.h 21,.h 22,.h 23]))),
  (1000030,.call ⟨20,[.o (.g [.h 21,.h 22,.h 23])],[],yh 24,[]⟩),
  (1000031,.bin .add 9 (yh 19) (yh 24) (yh 25)),
  (1000032,.bin .add 9 (yh 25) (LF (.k (.string ⟨#[41]⟩))) (yh 26))]) (k:=⟨20,[.o (.g [.h 0,.h 1,.h 2])],[],yh 26,[]⟩) 0 (zg ⟨za,za,(ze (zf rfl)),za,za,(ze (zv rfl)),za,(ze (zv rfl)),(zl ((zv rfl) _)),(zl (zjJ ((zv rfl) _) 0)),za,za,za,(zl ((zf rfl) _)),za,za,(ze (zf rfl)),za,za,za,(zl ((zf rfl) _)),za,za,(ze (zf rfl)),za,za,za,trivial⟩) ⟨e_bin (zb rfl) zd (zb rfl) (r_cmp (congrArg some e1)),
  e_fbv h2,
  e_bin (zb rfl) zd (zb rfl) (r_cmp (congrArg some e3)),
  e_fbv h4,
  zdc hL (zc rfl),
  b_con (pan:=false) (zpy opsL e v5 e5 s6),
  zdc hL (zc rfl),
  e_iaL (E:=57) (z:=2) qb (by kernel_rfl) (by kernel_rfl) (zc rfl) (zb rfl) s9 s10 (zc rfl),
  e_faD (off:=0) (m:=0) (ps:=(cOp x8)) (by kernel_rfl) (by kernel_rfl) (zc rfl) (zc rfl) (Nat.le_of_ble_eq_true rfl),
  e_ld1 (by kernel_rfl) (zc rfl) (zc rfl),
  e_bin zd (zb rfl) (zb rfl) (fun W X Y=>by rw [← e11];exact r_cat s12 W X Y),
  e_bin (zb rfl) zd (zb rfl) (fun W X Y=>by rw [← e13];exact r_cat s14 W X Y),
  e_iaL (E:=32) (z:=3) zj (by kernel_rfl) (by kernel_rfl) (zc rfl) zd s17 s18 (zc rfl),
  e_ldG (by kernel_rfl) (by kernel_rfl) (zc rfl) (cE_eq _).symm rfl (zj _),
  zh (IH x16 v19 e19 s20 s21),
  e_bin (zb rfl) (zb rfl) (zb rfl) (fun W X Y=>by rw [← e22];exact r_cat s23 W X Y),
  e_bin (zb rfl) zd (zb rfl) (fun W X Y=>by rw [← e24];exact r_cat s25 W X Y),
  e_iaL (E:=32) (z:=3) zj (by kernel_rfl) (by kernel_rfl) (zc rfl) zd s28 s29 (zc rfl),
  e_ldG (by kernel_rfl) (by kernel_rfl) (zc rfl) (cE_eq _).symm rfl (zj _),
  zh (IH x27 v30 e30 s31 s32),
  e_bin (zb rfl) (zb rfl) (zb rfl) (fun W X Y=>by rw [← e33];exact r_cat s34 W X Y),
  e_bin (zb rfl) zd (zb rfl) (fun W X Y=>by rw [← e35];exact r_cat s36 W X Y),
  trivial⟩ mixed (by kernel_rfl))
theorem zlE {w0:World} {N:Nat} (k:Int) (IH:za5 w0 k N) (hL:LibT w0) (e:Xp) (r:List UInt8) (hr:zy e=r) (hx:Vx k e) (hN:nodes e≤N+1) (hN1:N+1≤1000000):Fun (KN w0) Tryz.prog 20 [.o (.g [pI e.op,pI e.n,pLs cE e.l])] (.o (.c (pS r))):=by
 obtain ⟨v1,e1⟩:∃v,((e.op == (1:Int)))=v:=⟨_,rfl⟩
 cases h2:v1 with
 | true =>
  obtain ⟨v3,e3⟩:∃v,(Lib.itoa e.n)=v:=⟨_,rfl⟩
  have s4:-9223372036854775808≤e.n∧e.n<9223372036854775808:=by (have dh2:=eq_of_beq (e1.trans h2);exact val64 (zhZ hx (by assumption)).2)
  refine Fun.imp (zjc e N k IH hL v1 v3 e1 e3 h2 s4) (fun _ _ _ h=>h) (fun v W D h=>?_)
  have r0:r=v3:=by
   (have dh2:=eq_of_beq (e1.trans h2);rw [← hr,(zhZ hx (by assumption)).1];exact e3)
  rw [r0];exact h
 | false =>
  obtain ⟨v3,e3⟩:∃v,((e.op == (2:Int)))=v:=⟨_,rfl⟩
  cases h4:v3 with
  | true =>
   obtain ⟨v5,e5⟩:∃v,(Lib.itoa e.n)=v:=⟨_,rfl⟩
   have s6:-9223372036854775808≤e.n∧e.n<9223372036854775808:=by (have dh2:=ne_of_beq_false (e1.trans h2);have dh4:=eq_of_beq (e3.trans h4);exact val64 (zeh hx (by assumption)).2)
   obtain ⟨v7,e7⟩:∃v,([36]++v5)=v:=⟨_,rfl⟩
   have s8:((([36]:List UInt8).length+(v5:List UInt8).length:Nat):Int)≤9223372036854775807:=by (have dh2:=ne_of_beq_false (e1.trans h2);have dh4:=eq_of_beq (e3.trans h4);have:=zc0 (zeh hx (by assumption)).2;rw [e5] at *;simp only [List.length_append,List.length_cons,List.length_nil] at *;omega)
   refine Fun.imp (zjd e N k IH hL v1 v3 v5 v7 e1 e3 e5 e7 h2 h4 s6 s8) (fun _ _ _ h=>h) (fun v W D h=>?_)
   have r0:r=v7:=by
    (have dh2:=ne_of_beq_false (e1.trans h2);have dh4:=eq_of_beq (e3.trans h4);rw [← hr,(zeh hx (by assumption)).1,e5,← e7];rfl)
   rw [r0];exact h
  | false =>
   obtain ⟨v5,e5⟩:∃v,(e.op - 3)=v:=⟨_,rfl⟩
   have s6:3≤e.op∧e.op≤7:=by (have dh2:=ne_of_beq_false (e1.trans h2);have dh4:=ne_of_beq_false (e3.trans h4);obtain ⟨a,b,q1,q2,q3,_⟩:=vx_op hx (by assumption) (by assumption);exact ⟨q2,q3⟩)
   obtain ⟨n7,x8,s9,s10⟩:∃(n7:Nat) (x8:(List UInt8×Int)),v5=(n7:Int)∧opsL[n7]?=some x8:=by (have dh2:=ne_of_beq_false (e1.trans h2);have dh4:=ne_of_beq_false (e3.trans h4);obtain ⟨a,b,q1,q2,q3,_⟩:=vx_op hx (by assumption) (by assumption);have q:=zkd ⟨q2,q3⟩;rw [e5] at q;exact q)
   obtain ⟨v11,e11⟩:∃v,([40]++x8.1)=v:=⟨_,rfl⟩
   have s12:((([40]:List UInt8).length+(x8.1:List UInt8).length:Nat):Int)≤9223372036854775807:=by (have dh2:=ne_of_beq_false (e1.trans h2);have dh4:=ne_of_beq_false (e3.trans h4);have:=congrArg List.length (zcO (o:=e.op) s10 (e5.trans s9)).1;have:=zae e.op;simp only [List.length_append,List.length_cons,List.length_nil] at *;omega)
   obtain ⟨v13,e13⟩:∃v,(v11++[32])=v:=⟨_,rfl⟩
   have s14:(((v11:List UInt8).length+([32]:List UInt8).length:Nat):Int)≤9223372036854775807:=by (have dh2:=ne_of_beq_false (e1.trans h2);have dh4:=ne_of_beq_false (e3.trans h4);have:=congrArg List.length (zcO (o:=e.op) s10 (e5.trans s9)).1;have:=zae e.op;rw [← e11];simp only [List.length_append,List.length_cons,List.length_nil] at *;omega)
   obtain ⟨n15,x16,s17,s18⟩:∃(n15:Nat) (x16:Xp),(0:Int)=(n15:Int)∧e.l[n15]?=some x16:=by (have dh2:=ne_of_beq_false (e1.trans h2);have dh4:=ne_of_beq_false (e3.trans h4);obtain ⟨a,b,q1,q2⟩:=zaq (n:=0) (m:=0) hx (by assumption) (by assumption);exact ⟨0,_,rfl,q1⟩)
   obtain ⟨v19,e19⟩:∃v,(zy x16)=v:=⟨_,rfl⟩
   have s20:Vx k x16:=by exact vx_at hx s18
   have s21:nodes x16≤N:=by exact zu hN s18
   obtain ⟨v22,e22⟩:∃v,(v13++v19)=v:=⟨_,rfl⟩
   have s23:(((v13:List UInt8).length+(v19:List UInt8).length:Nat):Int)≤9223372036854775807:=by (have dh2:=ne_of_beq_false (e1.trans h2);have dh4:=ne_of_beq_false (e3.trans h4);have:=qc (vx_at hx s18);have:=zu hN s18;rw [e19] at *;have:=congrArg List.length (zcO (o:=e.op) s10 (e5.trans s9)).1;have:=zae e.op;rw [← e13,← e11];simp only [List.length_append,List.length_cons,List.length_nil] at *;omega)
   obtain ⟨v24,e24⟩:∃v,(v22++[32])=v:=⟨_,rfl⟩
   have s25:(((v22:List UInt8).length+([32]:List UInt8).length:Nat):Int)≤9223372036854775807:=by (have dh2:=ne_of_beq_false (e1.trans h2);have dh4:=ne_of_beq_false (e3.trans h4);have:=qc (vx_at hx s18);have:=zu hN s18;rw [e19] at *;have:=congrArg List.length (zcO (o:=e.op) s10 (e5.trans s9)).1;have:=zae e.op;rw [← e22,← e13,← e11];simp only [List.length_append,List.length_cons,List.length_nil] at *;omega)
   obtain ⟨n26,x27,s28,s29⟩:∃(n26:Nat) (x27:Xp),(1:Int)=(n26:Int)∧e.l[n26]?=some x27:=by (have dh2:=ne_of_beq_false (e1.trans h2);have dh4:=ne_of_beq_false (e3.trans h4);obtain ⟨a,b,q1,q2⟩:=zaq (n:=0) (m:=0) hx (by assumption) (by assumption);exact ⟨1,_,rfl,q2⟩)
   obtain ⟨v30,e30⟩:∃v,(zy x27)=v:=⟨_,rfl⟩
   have s31:Vx k x27:=by exact vx_at hx s29
   have s32:nodes x27≤N:=by exact zu hN s29
   obtain ⟨v33,e33⟩:∃v,(v24++v30)=v:=⟨_,rfl⟩
   have s34:(((v24:List UInt8).length+(v30:List UInt8).length:Nat):Int)≤9223372036854775807:=by (have dh2:=ne_of_beq_false (e1.trans h2);have dh4:=ne_of_beq_false (e3.trans h4);have:=qc (vx_at hx s18);have:=zu hN s18;rw [e19] at *;have:=qc (vx_at hx s29);have:=zu hN s29;rw [e30] at *;have:=congrArg List.length (zcO (o:=e.op) s10 (e5.trans s9)).1;have:=zae e.op;rw [← e24,← e22,← e13,← e11];simp only [List.length_append,List.length_cons,List.length_nil] at *;omega)
   obtain ⟨v35,e35⟩:∃v,(v33++[41])=v:=⟨_,rfl⟩
   have s36:(((v33:List UInt8).length+([41]:List UInt8).length:Nat):Int)≤9223372036854775807:=by (have dh2:=ne_of_beq_false (e1.trans h2);have dh4:=ne_of_beq_false (e3.trans h4);have:=qc (vx_at hx s18);have:=zu hN s18;rw [e19] at *;have:=qc (vx_at hx s29);have:=zu hN s29;rw [e30] at *;have:=congrArg List.length (zcO (o:=e.op) s10 (e5.trans s9)).1;have:=zae e.op;rw [← e33,← e24,← e22,← e13,← e11];simp only [List.length_append,List.length_cons,List.length_nil] at *;omega)
   refine Fun.imp (zje e N k IH hL v1 v3 v5 n7 x8 v11 v13 n15 x16 v19 v22 v24 n26 x27 v30 v33 v35 e1 e3 e5 e11 e13 e19 e22 e24 e30 e33 e35 h2 h4 s6 s9 s10 s12 s14 s17 s18 s20 s21 s23 s25 s28 s29 s31 s32 s34 s36) (fun _ _ _ h=>h) (fun v W D h=>?_)
   have r0:r=v35:=by
    (have dh2:=ne_of_beq_false (e1.trans h2);have dh4:=ne_of_beq_false (e3.trans h4);have q:=(wr_op hx (by assumption) (by assumption) s17 s28 s18 s29).1;rw [e19,e30] at q;rw [← hr,q,← e35,← e33,← e24,← e22,← e13,← e11,(zcO (o:=e.op) s10 (e5.trans s9)).1];simp)
   rw [r0];exact h
theorem zdH {w0:World} (hL:LibT w0) (k:Int):∀N:Nat,N≤1000000→za5 w0 k N
 | 0,_=>fun x v _ _ h=>by have:=qk x;omega
 | N+1,hN=>fun x v hv hx h=>zlE k (zdH hL k N (by omega)) hL x v hv hx h hN
theorem zoL {w0:World} (hL:LibT w0) (x:Xp) (v:List UInt8) (hv:zy x=v) (hx:Vx 4 x) (hn:nodes x≤1000000):Fun (KN w0) Tryz.prog 20 [.o (.g [pI x.op,pI x.n,pLs cE x.l])] (.o (.c (pS v))):=zdH hL 4 (nodes x) hn x v hv hx (Nat.le_refl _)
end Go.Proofs.YtdkofaajcpcjkaaGreatDoor
namespace Go.Proofs.YtdkofaajcpcjkaaGreatDoor
open Go.RowKit
theorem zn {α:Type} {o:Option α} {d v:α} (h:o.isSome=true) (hv:o.getD d=v):o=some v:=by cases o with
 | none=>cases h
 | some x=>exact congrArg some hv
theorem zM {α:Type} {o:Option α} (h:o.isSome=false):o=none:=by cases o with
 | none=>rfl
 | some x=>cases h
def X0:Xp:=.mk 0 0 []
def argsT (f:List UInt8→Int×Xp×List UInt8) (o:Int) (r:List UInt8):Int×Xp×List UInt8:=match takeC 32 r with
 | none=>(4,X0,r)
 | some s2=>if (f s2).1≠0 then ((f s2).1,X0,(f s2).2.2) else match takeC 32 (f s2).2.2 with
  | none=>(4,X0,(f s2).2.2)
  | some s4=>if (f s4).1≠0 then ((f s4).1,X0,(f s4).2.2) else match takeC 41 (f s4).2.2 with
   | none=>(4,X0,(f s4).2.2)
   | some s6=>(0,.mk o 0 [(f s2).2.1,(f s4).2.1],s6)
def readQ:Nat→List UInt8→Int×Xp×List UInt8
 | 0,s=>(2,X0,s)
 | f+1,s=>match takeC 40 s with
  | none=>match leafP (wordW s) with
   | some e=>(0,e,restW s)
   | none=>(4,X0,restW s)
  | some s1=>match opOf (wordW s1) with
   | none=>(4,X0,restW s1)
   | some o=>argsT (readQ f) o (restW s1)
def readT (d:Int) (s:List UInt8):Int×Xp×List UInt8:=readQ (31 - d).toNat s
theorem zaW {d:Int} (h:30<d) (s:List UInt8):readT d s=(2,X0,s):=by
 unfold readT
 rw [show (31 - d).toNat=0 by omega];rfl
theorem qh {d:Int} (h:d≤30) {s:List UInt8} (hs:takeC 40 s=none):readT d s=match leafP (wordW s) with
  | some e=>(0,e,restW s)
  | none=>(4,X0,restW s):=by
 unfold readT
 rw [show (31 - d).toNat=(30 - d).toNat+1 by omega,readQ,hs]
theorem zas {d:Int} (h:d≤30) {s s1:List UInt8} (hs:takeC 40 s=some s1):readT d s=match opOf (wordW s1) with
  | none=>(4,X0,restW s1)
  | some o=>argsT (readT (d+1)) o (restW s1):=by
 unfold readT
 rw [show (31 - d).toNat=(31 - (d+1)).toNat+1 by omega,readQ,hs]
 first | done | rfl
theorem zbR:∀(f:Nat) (s:List UInt8),readP f s=if (readQ f s).1=0 then some ((readQ f s).2.1,(readQ f s).2.2) else none
 | 0,s=>rfl
 | f+1,s=>by
  rw [readP,readQ]
  cases takeC 40 s with
  | none=>cases leafP (wordW s)<;>rfl
  | some s1 =>
   simp only
   cases opOf (wordW s1) with
   | none=>rfl
   | some o =>
    simp only
    unfold argsT
    cases takeC 32 (restW s1) with
    | none=>rfl
    | some s2 =>
     simp only
     rw [zbR f s2]
     by_cases h1:(readQ f s2).1=0
     ·simp only [h1,ne_eq,not_true_eq_false,if_false,if_true]
      cases takeC 32 (readQ f s2).2.2 with
      | none=>rfl
      | some s4 =>
       simp only
       rw [zbR f s4]
       by_cases h2:(readQ f s4).1=0
       ·simp only [h2,ne_eq,not_true_eq_false,if_false,if_true]
        cases takeC 41 (readQ f s4).2.2<;>rfl
       ·simp [h2]
     ·simp [h1]
theorem qB (s:List UInt8):qq s=if (readT 1 s).1=0∧(readT 1 s).2.2=[]∧z6 (readT 1 s).2.1 4=0 then some (readT 1 s).2.1 else none:=by
 unfold qq readT
 rw [show (31 - 1:Int).toNat=30 from rfl,zbR]
 by_cases h1:(readQ 30 s).1=0
 ·rw [if_pos h1]
  cases h2:(readQ 30 s).2.2 with
  | nil =>
   by_cases h3:z6 (readQ 30 s).2.1 4=0
   ·simp [h1,h3]
   ·simp [h1,h3]
  | cons b r=>simp
 ·rw [if_neg h1,if_neg (fun h=>h1 h.1)]
theorem zL {c:UInt8} {s r:List UInt8} (h:takeC c s=some r):r <:+ s:=by rw [qV h];exact List.suffix_cons ..
theorem qC (s:List UInt8):restW s <:+ s:=⟨wordW s,q8 s⟩
theorem zjk {f:List UInt8→Int×Xp×List UInt8} (hf:∀s,(f s).2.2 <:+ s) (o:Int) (r:List UInt8):(argsT f o r).2.2 <:+ r:=by
 unfold argsT
 cases h:takeC 32 r with
 | none=>exact List.suffix_refl _
 | some s2 =>
  have e1:=(hf s2).trans (zL h)
  simp only
  split
  ·exact e1
  ·cases h4:takeC 32 (f s2).2.2 with
   | none=>exact e1
   | some s4 =>
    have e2:=((hf s4).trans (zL h4)).trans e1
    simp only
    split
    ·exact e2
    ·cases h6:takeC 41 (f s4).2.2 with
     | none=>exact e2
     | some s6=>exact (zL h6).trans e2
theorem zfD:∀(f:Nat) (s:List UInt8),(readQ f s).2.2 <:+ s
 | 0,s=>List.suffix_refl _
 | f+1,s=>by
  rw [readQ]
  cases h:takeC 40 s with
  | none=>cases leafP (wordW s)<;>exact qC s
  | some s1 =>
   have e1:=(qC s1).trans (zL h)
   simp only
   cases opOf (wordW s1) with
   | none=>exact e1
   | some o=>exact (zjk (zfD f) o _).trans e1
theorem zaX (d:Int) (s:List UInt8):(readT d s).2.2 <:+ s:=zfD _ _
theorem zab {n:Nat} {x:List UInt8×Int} (h:opsL[n]?=some x):opOf x.1=some x.2:=by
 match n,h with
 | 0,h=>injection h with h;subst h;rfl
 | 1,h=>injection h with h;subst h;rfl
 | 2,h=>injection h with h;subst h;rfl
 | 3,h=>injection h with h;subst h;rfl
 | 4,h=>injection h with h;subst h;rfl
 | _+5,h=>simp [opsL] at h
theorem zkc {w:List UInt8} {o:Int} (h:opOf w=some o) (hn:∀j x,j<5→opsL[j]?=some x→x.1≠w):False:=by
 obtain ⟨h0,h1,rfl⟩:=zfA h
 obtain ⟨n,x,h2,h3⟩:=zkd ⟨h0,h1⟩
 exact hn n x (by omega) h3 (zcO h3 h2).1
theorem zdk {w d:List UInt8} {n:Int} (h:takeC 36 w=some d) (hi:intW d=some n):leafP w=some (.mk 2 n []):=by unfold leafP;rw [h];simp [hi]
theorem zcv {w d:List UInt8} (h:takeC 36 w=some d) (hi:intW d=none):leafP w=none:=by unfold leafP;rw [h];simp [hi]
theorem zdl {w:List UInt8} {n:Int} (h:takeC 36 w=none) (hi:intW w=some n):leafP w=some (.mk 1 n []):=by unfold leafP;rw [h];simp [hi]
theorem zcw {w:List UInt8} (h:takeC 36 w=none) (hi:intW w=none):leafP w=none:=by unfold leafP;rw [h];simp [hi]
end Go.Proofs.YtdkofaajcpcjkaaGreatDoor
namespace Go.Proofs.YtdkofaajcpcjkaaGreatDoor
open Go.RowKit
theorem x_ix {w0:World} (s p:List UInt8) (r:Int) (hr:idxD s=r) (h:IxFun w0 s) (hp:p=[32,40,41]):Fun (KN w0) Tryz.prog 27 [.o (.c (pS s)),.o (.c (pS p))] (.o (.c (pI r))):=by subst hr;subst hp;exact h
theorem qK (s:List UInt8):(wordW s).length≤s.length:=by have:=congrArg List.length (q8 s);rw [List.length_append] at this;omega
theorem zaZ (s:List UInt8):s.take (wordW s).length=wordW s:=by
 have h:=List.take_left (l₁:=wordW s) (l₂:=restW s)
 rwa [q8] at h
theorem zca (s:List UInt8):s.drop (wordW s).length=restW s:=by
 have h:=List.drop_left (l₁:=wordW s) (l₂:=restW s)
 rwa [q8] at h
theorem zlA {w0:World} (p:(List UInt8)) (s:(List UInt8)) (v1:(List UInt8)) (v2:Bool) (v3:Bool) (v5:Int) (e1:(Lib.trimPrefix s p)=v1) (e2:(Lib.hasPrefix s p)=v2) (e3:(!v2)=v3) (e5:((4:Int))=v5) (h4:v3=true):BFun true (KN w0) Tryz.prog 23 [.o (.c (.d (pS p))),.o (.c (.p 0 0))] [(9,[.d (pS s)])] (.o (.c (.d (pV (.iface 44 (.int .i64 v5)))))) [(9,[.d (pS s)])] :=
 con_b (pan:=true) (qg (F:=FL [pS p,pS s,pS v1,pB v2,pB v3,pV (.iface 44 (.int .i64 v5))] []) (C:=[(1000002,.call ⟨24,[yh 1,yh 0],[],.t [.c (.h 2),.c (.h 3)],[]⟩),
  (1000009,.un .not (yh 3) (yh 4)),
  (10004,.fb 4 true),
  (1000010,.pan ⟨25,[.o (.c (.k (.int .i64 4)))],[],yh 5,[]⟩)]) (k:=⟨23,[yh 0,.o (.c (.p 900 0))],[.bx 900 9 [.h 1]],yh 5,[.bx 900 9 [.h 1]]⟩) ⟨[],[],0⟩ [] 0 (zg ⟨za,za,za,za,za,za,trivial⟩) ⟨zh (zkS s p v1 v2 e1 e2),
  e_un (zb rfl) (zb rfl) (fun W=>by rw [← e3];exact r_not W),
  e_fbv h4,
  b_con (pan:=true) (zaD (4:Int) v5 e5),
  trivial⟩ mixed trivial (fun _ _ _ _ _ hs=>by cases hs) (by kernel_rfl))
theorem zlB {w0:World} (p:(List UInt8)) (s:(List UInt8)) (v1:(List UInt8)) (v2:Bool) (v3:Bool) (e1:(Lib.trimPrefix s p)=v1) (e2:(Lib.hasPrefix s p)=v2) (e3:(!v2)=v3) (h4:v3=false):BFun false (KN w0) Tryz.prog 23 [.o (.c (.d (pS p))),.o (.c (.p 0 0))] [(9,[.d (pS s)])] (.t []) [(9,[.d (pS v1)])] :=
 con_b (pan:=false) (zr (F:=FL [pS p,pS s,pS v1,pB v2,pB v3] []) (C:=[(1000002,.call ⟨24,[yh 1,yh 0],[],.t [.c (.h 2),.c (.h 3)],[]⟩),
  (1000009,.un .not (yh 3) (yh 4)),
  (10004,.fb 4 false)]) (k:=⟨23,[yh 0,.o (.c (.p 900 0))],[.bx 900 9 [.h 1]],.t [],[.bx 900 9 [.h 2]]⟩) 0 (zg ⟨za,za,za,za,za,trivial⟩) ⟨zh (zkS s p v1 v2 e1 e2),
  e_un (zb rfl) (zb rfl) (fun W=>by rw [← e3];exact r_not W),
  e_fbv h4,
  trivial⟩ mixed (by kernel_rfl))
theorem qw {w0:World} (c:UInt8) (p s r:List UInt8) (hr:(takeC c s).getD []=r) (hp:p=[c]) (hs:(takeC c s).isSome=true):BFun false (KN w0) Tryz.prog 23 [.o (.c (.d (pS p))),.o (.c (.p 0 0))] [(9,[.d (pS s)])] (.t []) [(9,[.d (pS r)])]:=by
 obtain ⟨v1,e1⟩:∃v,(Lib.trimPrefix s p)=v:=⟨_,rfl⟩
 obtain ⟨v2,e2⟩:∃v,(Lib.hasPrefix s p)=v:=⟨_,rfl⟩
 obtain ⟨v3,e3⟩:∃v,(!v2)=v:=⟨_,rfl⟩
 cases h4:v3 with
 | true =>
  exfalso;simp_all [zbq,zbD]
 | false =>
  have r0:r=v1:=by
   (subst hp;rw [zbD,zn hs hr] at e1;exact e1)
  rw [r0];exact zlB p s v1 v2 v3 e1 e2 e3 h4
theorem zcG {w0:World} (c:UInt8) (p s:List UInt8) (k:Int) (hk:(4:Int)=k) (hp:p=[c]) (hs:(takeC c s).isSome=false):BFun true (KN w0) Tryz.prog 23 [.o (.c (.d (pS p))),.o (.c (.p 0 0))] [(9,[.d (pS s)])] (.o (.c (.d (pV (.iface 44 (.int .i64 k)))))) [(9,[.d (pS s)])]:=by
 obtain ⟨v1,e1⟩:∃v,(Lib.trimPrefix s p)=v:=⟨_,rfl⟩
 obtain ⟨v2,e2⟩:∃v,(Lib.hasPrefix s p)=v:=⟨_,rfl⟩
 obtain ⟨v3,e3⟩:∃v,(!v2)=v:=⟨_,rfl⟩
 cases h4:v3 with
 | true =>
  obtain ⟨v5,e5⟩:∃v,((4:Int))=v:=⟨_,rfl⟩
  have r0:k=v5:=by
   (rw [← hk];assumption)
  rw [r0];exact zlA p s v1 v2 v3 v5 e1 e2 e3 e5 h4
 | false =>
  exfalso;simp_all [zbq,zbD]
theorem zlC {w0:World} (s:(List UInt8)) (v1:Int) (v4:Bool) (v6:Int) (n7:Nat) (v9:(List UInt8)) (n11:Nat) (v13:(List UInt8)) (e1:(idxD s)=v1) (e4:(decide (v1<(0:Int)))=v4) (e6:(((s:List UInt8).length:Int))=v6) (e9:((s:List UInt8).take n7)=v9) (e13:((s:List UInt8).drop n11)=v13) (s2:IxFun w0 s) (s3:([32,40,41]:List UInt8)=[32,40,41]) (h5:v4=true) (s8:v6=(n7:Int)) (s10:n7≤(s:List UInt8).length) (s12:v6=(n11:Int)) (s14:n11≤(s:List UInt8).length):BFun false (KN w0) Tryz.prog 26 [.o (.c (.p 0 0))] [(9,[.d (pS s)])] (.o (.c (.d (pS v9)))) [(9,[.d (pS v13)])] :=
 con_b (pan:=false) (zr (F:=FL [pS s,pI v1,pB v4,pI v6,pS v9,pS v13] []) (C:=[(1000002,.call ⟨27,[yh 0,.o (.c (.k (.string ⟨#[32,40,41]⟩)))],[],yh 1,[]⟩),
  (1000005,.bin .lss 3 (yh 1) (LF (.k (.int .i64 0))) (yh 2)),
  (10002,.fb 2 true),
  (1000007,.op (.len [9] 3) [yh 0] [] (yh 3)),
  (1000011,.op (.sc 9 false true false) [yh 0,yh 3] [] (yh 4)),
  (1000015,.op (.sc 9 true false false) [yh 0,yh 3] [] (yh 5))]) (k:=⟨26,[.o (.c (.p 900 0))],[.bx 900 9 [.h 0]],yh 4,[.bx 900 9 [.h 5]]⟩) 0 (zg ⟨za,za,za,za,za,za,trivial⟩) ⟨zh (x_ix s [32,40,41] v1 e1 s2 s3),
  e_bin (zb rfl) zd (zb rfl) (r_cmp (congrArg some e4)),
  e_fbv h5,
  e_op1 (zb rfl) (zb rfl) (fun W=>by rw [← e6];exact qf (by kernel_rfl) W),
  e_op2 (zb rfl) (zb rfl) (zb rfl) (fun W=>by rw [← e9];exact zfC (by kernel_rfl) s8 s10 W),
  e_op2 (zb rfl) (zb rfl) (zb rfl) (fun W=>by rw [← e13];exact zhT (by kernel_rfl) s12 s14 W),
  trivial⟩ mixed (by kernel_rfl))
theorem zlD {w0:World} (s:(List UInt8)) (v1:Int) (v4:Bool) (n6:Nat) (v8:(List UInt8)) (n10:Nat) (v12:(List UInt8)) (e1:(idxD s)=v1) (e4:(decide (v1<(0:Int)))=v4) (e8:((s:List UInt8).take n6)=v8) (e12:((s:List UInt8).drop n10)=v12) (s2:IxFun w0 s) (s3:([32,40,41]:List UInt8)=[32,40,41]) (h5:v4=false) (s7:v1=(n6:Int)) (s9:n6≤(s:List UInt8).length) (s11:v1=(n10:Int)) (s13:n10≤(s:List UInt8).length):BFun false (KN w0) Tryz.prog 26 [.o (.c (.p 0 0))] [(9,[.d (pS s)])] (.o (.c (.d (pS v8)))) [(9,[.d (pS v12)])] :=
 con_b (pan:=false) (zr (F:=FL [pS s,pI v1,pB v4,pS v8,pS v12] []) (C:=[(1000002,.call ⟨27,[yh 0,.o (.c (.k (.string ⟨#[32,40,41]⟩)))],[],yh 1,[]⟩),
  (1000005,.bin .lss 3 (yh 1) (LF (.k (.int .i64 0))) (yh 2)),
  (10002,.fb 2 false),
  (1000008,.op (.sc 9 false true false) [yh 0,yh 1] [] (yh 3)),
  (1000012,.op (.sc 9 true false false) [yh 0,yh 1] [] (yh 4))]) (k:=⟨26,[.o (.c (.p 900 0))],[.bx 900 9 [.h 0]],yh 3,[.bx 900 9 [.h 4]]⟩) 0 (zg ⟨za,za,za,za,za,trivial⟩) ⟨zh (x_ix s [32,40,41] v1 e1 s2 s3),
  e_bin (zb rfl) zd (zb rfl) (r_cmp (congrArg some e4)),
  e_fbv h5,
  e_op2 (zb rfl) (zb rfl) (zb rfl) (fun W=>by rw [← e8];exact zfC (by kernel_rfl) s7 s9 W),
  e_op2 (zb rfl) (zb rfl) (zb rfl) (fun W=>by rw [← e12];exact zhT (by kernel_rfl) s11 s13 W),
  trivial⟩ mixed (by kernel_rfl))
theorem zdG {w0:World} (s r t:List UInt8) (hr:wordW s=r) (ht:restW s=t) (hI:IxAll w0 s):BFun false (KN w0) Tryz.prog 26 [.o (.c (.p 0 0))] [(9,[.d (pS s)])] (.o (.c (.d (pS r)))) [(9,[.d (pS t)])]:=by
 obtain ⟨v1,e1⟩:∃v,(idxD s)=v:=⟨_,rfl⟩
 have s2:IxFun w0 s:=by exact hI.2 s (List.suffix_refl _)
 have s3:([32,40,41]:List UInt8)=[32,40,41]:=by rfl
 obtain ⟨v4,e4⟩:∃v,(decide (v1<(0:Int)))=v:=⟨_,rfl⟩
 cases h5:v4 with
 | true =>
  obtain ⟨v6,e6⟩:∃v,(((s:List UInt8).length:Int))=v:=⟨_,rfl⟩
  obtain ⟨n7,s8⟩:∃(n7:Nat),v6=(n7:Int):=by (have dh5:=of_decide_eq_true (e4.trans h5);have q:=qK s;have q2:idxD s=if (wordW s).length<s.length then ((wordW s).length:Int) else -1:=rfl;rw [e1] at q2;have q3:=e6;exact ⟨(wordW s).length,by split at q2<;>omega⟩)
  obtain ⟨v9,e9⟩:∃v,((s:List UInt8).take n7)=v:=⟨_,rfl⟩
  have s10:n7≤(s:List UInt8).length:=by (have dh5:=of_decide_eq_true (e4.trans h5);have q:=qK s;have q2:idxD s=if (wordW s).length<s.length then ((wordW s).length:Int) else -1:=rfl;rw [e1] at q2;have q3:=e6;split at q2<;>omega)
  obtain ⟨n11,s12⟩:∃(n11:Nat),v6=(n11:Int):=by (have dh5:=of_decide_eq_true (e4.trans h5);have q:=qK s;have q2:idxD s=if (wordW s).length<s.length then ((wordW s).length:Int) else -1:=rfl;rw [e1] at q2;have q3:=e6;exact ⟨(wordW s).length,by split at q2<;>omega⟩)
  obtain ⟨v13,e13⟩:∃v,((s:List UInt8).drop n11)=v:=⟨_,rfl⟩
  have s14:n11≤(s:List UInt8).length:=by (have dh5:=of_decide_eq_true (e4.trans h5);have q:=qK s;have q2:idxD s=if (wordW s).length<s.length then ((wordW s).length:Int) else -1:=rfl;rw [e1] at q2;have q3:=e6;split at q2<;>omega)
  have r0:r=v9:=by
   (have dh5:=of_decide_eq_true (e4.trans h5);have q:=qK s;have q2:idxD s=if (wordW s).length<s.length then ((wordW s).length:Int) else -1:=rfl;rw [e1] at q2;have q3:=e6;first | (rw [← hr,← e9,show n7=(wordW s).length by (split at q2<;>omega),zaZ];done) | (rw [← ht,← e13,show n11=(wordW s).length by (split at q2<;>omega),zca]))
  have r1:t=v13:=by
   (have dh5:=of_decide_eq_true (e4.trans h5);have q:=qK s;have q2:idxD s=if (wordW s).length<s.length then ((wordW s).length:Int) else -1:=rfl;rw [e1] at q2;have q3:=e6;first | (rw [← hr,← e9,show n7=(wordW s).length by (split at q2<;>omega),zaZ];done) | (rw [← ht,← e13,show n11=(wordW s).length by (split at q2<;>omega),zca]))
  rw [r0,r1];exact zlC s v1 v4 v6 n7 v9 n11 v13 e1 e4 e6 e9 e13 s2 s3 h5 s8 s10 s12 s14
 | false =>
  obtain ⟨n6,s7⟩:∃(n6:Nat),v1=(n6:Int):=by (have dh5:=of_decide_eq_false (e4.trans h5);have q:=qK s;have q2:idxD s=if (wordW s).length<s.length then ((wordW s).length:Int) else -1:=rfl;rw [e1] at q2;exact ⟨(wordW s).length,by split at q2<;>omega⟩)
  obtain ⟨v8,e8⟩:∃v,((s:List UInt8).take n6)=v:=⟨_,rfl⟩
  have s9:n6≤(s:List UInt8).length:=by (have dh5:=of_decide_eq_false (e4.trans h5);have q:=qK s;have q2:idxD s=if (wordW s).length<s.length then ((wordW s).length:Int) else -1:=rfl;rw [e1] at q2;split at q2<;>omega)
  obtain ⟨n10,s11⟩:∃(n10:Nat),v1=(n10:Int):=by (have dh5:=of_decide_eq_false (e4.trans h5);have q:=qK s;have q2:idxD s=if (wordW s).length<s.length then ((wordW s).length:Int) else -1:=rfl;rw [e1] at q2;exact ⟨(wordW s).length,by split at q2<;>omega⟩)
  obtain ⟨v12,e12⟩:∃v,((s:List UInt8).drop n10)=v:=⟨_,rfl⟩
  have s13:n10≤(s:List UInt8).length:=by (have dh5:=of_decide_eq_false (e4.trans h5);have q:=qK s;have q2:idxD s=if (wordW s).length<s.length then ((wordW s).length:Int) else -1:=rfl;rw [e1] at q2;split at q2<;>omega)
  have r0:r=v8:=by
   (have dh5:=of_decide_eq_false (e4.trans h5);have q:=qK s;have q2:idxD s=if (wordW s).length<s.length then ((wordW s).length:Int) else -1:=rfl;rw [e1] at q2;first | (rw [← hr,← e8,show n6=(wordW s).length by (split at q2<;>omega),zaZ];done) | (rw [← ht,← e12,show n10=(wordW s).length by (split at q2<;>omega),zca]))
  have r1:t=v12:=by
   (have dh5:=of_decide_eq_false (e4.trans h5);have q:=qK s;have q2:idxD s=if (wordW s).length<s.length then ((wordW s).length:Int) else -1:=rfl;rw [e1] at q2;first | (rw [← hr,← e8,show n6=(wordW s).length by (split at q2<;>omega),zaZ];done) | (rw [← ht,← e12,show n10=(wordW s).length by (split at q2<;>omega),zca]))
  rw [r0,r1];exact zlD s v1 v4 n6 v8 n10 v12 e1 e4 e8 e12 s2 s3 h5 s7 s9 s11 s13
end Go.Proofs.YtdkofaajcpcjkaaGreatDoor
