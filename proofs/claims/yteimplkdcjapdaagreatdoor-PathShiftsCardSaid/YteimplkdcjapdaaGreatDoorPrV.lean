/-
  Merged: PlOp, PmT, PmA, PmB, PlOq, PmC, PmD, PcA, PcB, PsA, PsB, PsC, PcS.
-/
import Derived.Test.YteimplkdcjapdaaGreatDoorPrA
import Derived.Test.YteimplkdcjapdaaGreatDoorPrU
import Derived.SizedLaws
import Derived.OpenShut
import Derived.Carry
import Derived.LaidMore
import Derived.Lay
import Derived.Stop.Joined
import Derived.Stop.LaidErr
import Derived.LaidLaws
import Derived.Lib.LaidTab
import Derived.Lib.AppendIntMem
import Derived.Lib.SmallJoins
import Derived.ChangeMaps5
import Derived.Test.YteimplkdcjapdaaGreatDoorPrT
set_option linter.unusedSimpArgs false
set_option linter.unusedVariables false
set_option linter.unusedSectionVars false
set_option maxRecDepth 100000
namespace Go.Proofs.YteimplkdcjapdaaGreatDoor
open Go.ChangeShapes Go.WideShapes Go.ChangeAt Go.RowKit Go.Joins Go.Deep
def old (W:World):Dat:=fun q=>q<W.heap.size
theorem zqi {W:World} {f:FuncId} {sh:List PSh} {args:Array Value} (hF:Fun (KN W) Tryz.prog f sh (.o (.c (pV (.bool true))))) (hs:oka sh args.toList W (old W)) :
  Calls Tryz.prog f args W fun e W'=>e=.returned (.bool true)∧Below W.heap.size W W':=by
 have:=hF W (old W) args.toList hs ⟨Below.refl _ _,fun q h=>h,fun q h=>h⟩
 rw [Array.toArray_toList] at this
 refine this.mono fun e W' hr=>?_
 obtain ⟨v,D',rfl,hv,hk⟩:=hr
 have hv':v=.bool true:=hv
 subst hv'
 exact ⟨rfl,hk.bel⟩
section
variable {H:Type} {enc:TypeId×Value→H}
theorem zmU {a:Assume} {C:Checked} {os:Os} {f:FuncId} {fn:Func} {s:ChangeSpec} {conds:List PathCond} {apart fresh handsOn again:Bool} {X:World→Array Value→Prop}
  (hX:∀(w w':World) (args:Array Value),w.heap=w'.heap→X w args→X w' args)
  (own:ownKnob C.prog.godebug=none) (started:os.Started) (noInit:C.prog.inits.idxOf? f=none) (hfn:C.prog.funcs[f]?=some fn)
  (witness:∃(w:World) (tape:Tape) (i:Input),w.os=os∧(w.forCall tape i).Shaped C.prog∧i.vars=[]∧Input.okWide C.prog (w.forCall tape i) .any w.heap.size f i ∧
   ((s.pre enc C.prog fn conds apart (w.forCall tape i).memory i.args∧X (w.forCall tape i).memory i.args)∧sizedMet enc C.prog fn (OpenSpec.ofChange s) apart (w.forCall tape i).memory i.args)∧a.holds C.prog (lone (Frame.enter C.prog f i.args .normal) [] (w.forCall tape i)))
  (contract:∀(W:World) (base:Nat) (args:Array Value) (ds gs:List (DataW H)) (before:List MemPlace),
   (∀(j:Nat) t v,fn.params[j]?=some t→args[j]?=some v→Value.okWide C.prog W .any base t v) →
   DataW.Whole enc C.prog fn.params.toList s.vars apart W args.toList ds gs before→X W args →
   (∀(j:Nat) t d,fn.params.toList[j]?=some t→ds[j]?=some d→∀n∈d.weights C.prog t,n≤reachBytes)→W.ShapedOpen C.prog →
   Calls C.prog f args W fun e W'=>∃v,e=.returned v∧s.post enc C.prog fn apart fresh handsOn again W args v W') :
  ReturnsInHanded a C os f .any (fun w args=>(s.pre enc C.prog fn conds apart w args∧X w args)∧sizedMet enc C.prog fn (OpenSpec.ofChange s) apart w args) (s.post enc C.prog fn apart fresh handsOn again):=by
 refine returnsInHanded_of_calls own started noInit witness ?_
 intro w tape i _ hsh _ hok hpre _
 obtain ⟨_,_,_,fn',hfn',_,_,_,_,hval⟩:=hok
 have e:fn'=fn:=Option.some.inj (hfn'.symm.trans hfn)
 subst e
 obtain ⟨⟨⟨ds,gs,before,hw,_⟩,hx⟩,hz⟩:=hpre
 have hw':=DataW.Whole.of_heap (w':=w.forCall tape i) (by rfl) hw
 refine (contract (w.forCall tape i) w.heap.size i.args ds gs before hval hw' (hX _ _ _ (by rfl) hx) ?_ hsh).mono fun e W' ⟨v,he,hp⟩=>?_
 ·intro j t d ht hd n hn
  have:=List.all_eq_true.1 (hz.weights hw) _ (DataW.weights_mem_each (j:=j) (by
   rw [List.getElem?_append_left (List.getElem?_eq_some_iff.1 ht).1];exact ht) (by
   rw [List.getElem?_append_left (List.getElem?_eq_some_iff.1 hd).1];exact hd) n hn)
  simpa using this
 ·subst he
  exact ChangeSpec.post_blind hp
end
theorem zbn:Tryz.prog.cellsOf 3=1:=by kernel_rfl
theorem znm:Tryz.prog.cellsOf 24=1:=by kernel_rfl
theorem zp3:Tryz.prog.cellsOf 9=1:=by kernel_rfl
theorem zeR {P:Program} {w:World} {r:Reach} {b0:Nat} {fs:Array Field} {t:TypeId} {v:Value} (ht:P.underlying t=some (.struct fs)) (h:Value.okWide P w r b0 t v):∃cs,v=.agg cs∧cs.size=P.cellsOf t:=by
 simp only [Value.okWide,ht] at h
 obtain ⟨cs,h1,h2,_⟩:=h
 exact ⟨cs,h1,h2⟩
section
variable {H:Type} {enc:TypeId×Value→H} {held:Bool} {w:World} {base:Nat} {v:Value} {d:DataW H} {p:List MemPlace}
def Opens (enc:TypeId×Value→H) (held:Bool) (w:World) (e:TypeId) {α:Type} (c:α→List Pred) (ok:DataW H→α→Prop):Prop:=
 ∀(fuel:Nat) (cs:List Value) (y:DataW H×List MemPlace),DataW.trod enc Tryz.prog w 0 (fun _=>true) held fuel e cs=some y→∃x:α,ok y.1 x∧okl (c x) cs w (old w)
theorem zdg {t:TypeId} {k:IntKind} (ht:Tryz.prog.underlying t=some (.int k)):Opens enc held w t (fun n:Int=>[pV (.int k n)]) (fun d n=>d=.lit (.int k n)∧(Lit.int k n).wf=true):=by
 intro fuel cs y h
 obtain ⟨n,rfl,rfl,hw⟩:=DataW.trod_int ht h
 exact ⟨n,⟨rfl,hw⟩,rfl,trivial⟩
theorem zr6 {t:TypeId} (ht:Tryz.prog.underlying t=some .string):Opens enc held w t (fun s:List UInt8=>[pS s]) (fun d s=>d=.lit (.string s)∧s.length≤maxLen):=by
 intro fuel cs y h
 obtain ⟨s,rfl,rfl,hw⟩:=DataW.trod_string ht h
 exact ⟨s.data.toList,⟨rfl,hw⟩,rfl,trivial⟩
theorem znQ {W:World} {D:Dat} {ps qs:List Pred} {vs:List Value} {k:Nat} (h:okp ps vs W D) (hk:ps.length=k) (h2:okl qs ((vs.drop k).take qs.length) W D):okp (ps++qs) vs W D:=by
 subst hk
 unfold okp at h ⊢
 rw [List.length_append,List.take_add]
 exact qB h h2
theorem znP {W:World} {D:Dat} {ps:List Pred} {vs us:List Value} (h:okl ps us W D) (he:∀i,i<ps.length→vs[i]?=us[i]?):okl ps (vs.take ps.length) W D:=by
 have hl:=zK h
 have e:vs.take ps.length=us:=by
  apply List.ext_getElem?
  intro i
  rw [List.getElem?_take]
  split
  ·exact he i ‹_›
  ·rw [List.getElem?_eq_none (by omega)]
 rw [e];exact h
theorem q4 {W:World} {D:Dat} {ps qs:List Pred} {cs:List Value} {o z:Nat} (h:okl ps (cs.take o) W D) (h2:okl qs ((cs.drop o).take z) W D):okl (ps++qs) (cs.take (o+z)) W D:=by
 rw [List.take_add];exact qB h h2
inductive F2 {α β:Type} (R:α→β→Prop):List α→List β→Prop
 | nil:F2 R [] []
 | cons {a b l k}:R a b→F2 R l k→F2 R (a::l) (b::k)
def SlOk {α:Type} (ok:DataW H→α→Prop) (d:DataW H) (l:List α):Prop:=
 ((d=.nil∧l=[])∨∃ds sp,d=.slice ds sp∧F2 ok ds l)∧l.length≤maxLen
theorem zaK {α β:Type} {R:α→β→Prop}:∀{l:List α} {k:List β} {a:α} {b:β},F2 R l k→R a b→F2 R (l++[a]) (k++[b])
 | [],[],_,_,_,h=>.cons h .nil
 | _::_,_::_,_,_,.cons h1 h2,h=>.cons h1 (zaK h2 h)
theorem zi7 {t e:TypeId} {α:Type} {c:α→List Pred} {ok:DataW H→α→Prop} {z:Nat} (ht:Tryz.prog.underlying t=some (.slice e)) (hc:Tryz.prog.cellsOf e=z) (h0:0<z) (hz:∀x,(c x).length=z) (he:Opens enc held w e c ok) :
  Opens enc held w t (fun l:List α=>[pLs c l]) (SlOk ok):=by
 intro fuel cs y h
 rcases DataW.trod_slice ht h with ⟨rfl,rfl⟩ | ⟨a,len,cap,elems,rest,n,_,rfl,rfl,_,hl,hm,hlen,hel,_,_⟩
 ·exact ⟨[],⟨.inl ⟨rfl,rfl⟩,Nat.zero_le _⟩,.inl ⟨⟨_,_,rfl⟩,rfl,rfl⟩,trivial⟩
 rw [hc] at hel
 have each:∀i (hi:i<elems.length),∃(x:α) (us:List Value),ok elems[i].1 x∧okl (c x) us w (old w)∧∀j,j<z→w.cell? ((a.add (i*z)).add j)=us[j]?:=by
  intro i hi
  have h1:=hel i (by omega)
  rw [List.getElem?_eq_getElem hi,Option.bind_eq_some_iff] at h1
  obtain ⟨us,hus,h2⟩:=h1
  obtain ⟨x,hx,hok⟩:=he n us _ h2
  obtain ⟨_,hul,hcell⟩:=World.cells?_some hus
  exact ⟨x,us,hx,hok,fun j hj=>hcell j hj⟩
 rcases Nat.eq_zero_or_pos len with h00 | h00
 ·subst h00
  have e0:elems=[]:=List.eq_nil_of_length_eq_zero hlen
  subst e0
  exact ⟨[],⟨.inr ⟨_,_,rfl,.nil⟩,Nat.zero_le _⟩,.inl ⟨⟨_,_,rfl⟩,rfl,rfl⟩,trivial⟩
 obtain ⟨q,o,sp⟩:=a
 obtain ⟨x0,us0,_,ho0,hc0⟩:=each 0 (by omega)
 have hl0:=zK ho0
 rw [hz] at hl0
 have h1:w.cell? ⟨q,o,sp⟩=some us0[0]:=by
  have:=hc0 0 h0
  rw [List.getElem?_eq_getElem (by omega)] at this
  simpa [Addr.add] using this
 have hsp:sp=none:=by
  cases sp with
  | none=>rfl
  | some x =>
   unfold World.cell? at h1
   dsimp only at h1
   split at h1<;>simp at h1
 subst hsp
 have hblk:∃vs T fz,w.heap[q]?=some (.cells vs T fz):=by
  unfold World.cell? at h1
  dsimp only at h1
  split at h1
  ·rename_i cs T fz hh
   exact ⟨cs,T,fz,hh⟩
  ·cases h1
 obtain ⟨vs,T,fz,hh⟩:=hblk
 have hq:q<w.heap.size:=(Array.getElem?_eq_some_iff.1 hh).1
 have hcell:∀i j,(⟨q,o,none⟩:Addr).add i=⟨q,o+i,none⟩∧w.cell? (((⟨q,o,none⟩:Addr).add i).add j)=vs.toList[o+i+j]?:=by
  intro i j
  rw [show (⟨q,o,none⟩:Addr).add i=⟨q,o+i,none⟩ from qW ..,show (⟨q,o+i,none⟩:Addr).add j=⟨q,o+i+j,none⟩ from qW ..,zq hh]
  exact ⟨rfl,by rw [Array.getElem?_toList]⟩
 have build:∀m,m≤elems.length→∃l:List α,l.length=m∧F2 ok ((elems.map (·.1)).take m) l∧okp (l.flatMap c) (vs.toList.drop o) w (old w):=by
  intro m
  induction m with
  | zero=>intro _;exact ⟨[],rfl,by rw [List.take_zero];exact .nil,trivial⟩
  | succ m ih =>
   intro hm1
   obtain ⟨l,h2,h3,h4⟩:=ih (by omega)
   obtain ⟨x,us,hx,hok,hcl⟩:=each m (by omega)
   refine ⟨l++[x],by rw [List.length_append,h2];rfl,?_,?_⟩
   ·rw [List.take_add_one,List.getElem?_map,List.getElem?_eq_getElem (by omega)]
    exact zaK h3 hx
   ·rw [List.flatMap_append,List.flatMap_cons,List.flatMap_nil,List.append_nil]
    refine znQ (k:=m*z) h4 (by rw [qC hz,h2]) (znP hok fun i hi=>?_)
    rw [hz] at hi
    rw [List.drop_drop,List.getElem?_drop,← hcl i hi,(hcell (m*z) i).2]
 obtain ⟨l,h2,h3,h4⟩:=build elems.length (Nat.le_refl _)
 rw [List.take_of_length_le (by simp)] at h3
 exact ⟨l,⟨.inr ⟨_,_,rfl,h3⟩,by omega⟩,.inr ⟨q,o,cap,T,vs,fz,by rw [h2,hlen],hq,hh,h4,by omega⟩,trivial⟩
theorem zar {e:TypeId} {α:Type} {c:α→List Pred} {ok:DataW H→α→Prop} {n o z i:Nat} {cs:List Value} {xs:List (DataW H×List MemPlace)} (he:Opens enc held w e c ok) (hz:Tryz.prog.cellsOf e=z) (h:DataW.trod enc Tryz.prog w 0 (fun _=>true) held n e ((cs.drop o).take (Tryz.prog.cellsOf e))=xs[i]?) (hi:i<xs.length) :
  ∃x,ok xs[i].1 x∧okl (c x) ((cs.drop o).take z) w (old w):=by
 rw [List.getElem?_eq_getElem hi,hz] at h
 exact he _ _ _ h
theorem zqq:Opens enc held w 24 (fun l:List Int=>[pLs cI l]) (SlOk fun d n=>d=.lit (.int .i64 n)∧(Lit.int .i64 n).wf=true):=zi7 (c:=cI) Tryz.underlying24 zbn (by decide) (fun _=>rfl) (zdg Tryz.underlying3)
theorem znV {t:TypeId} {α:Type} {c:α→Pred} {ok:DataW H→α→Prop} (h:Opens enc held w t (fun x=>[c x]) ok) (h1:v.cells=#[v]) (hd:DataW.Trod enc Tryz.prog w 0 (fun _=>true) held t v d p):∃x,ok d x∧c x v w (old w):=by
 obtain ⟨fuel,hf⟩:=hd
 rw [h1] at hf
 obtain ⟨x,hx,ho⟩:=h _ _ _ hf
 exact ⟨x,hx,ho.1⟩
theorem znU {t:TypeId} {α:Type} {c:α→List Pred} {ok:DataW H→α→Prop} {cs:Array Value} (h:Opens enc held w t c ok) (hd:DataW.Trod enc Tryz.prog w 0 (fun _=>true) held t (.agg cs) d p):∃x,ok d x∧(PSh.o (.g (c x))).ok (.agg cs) w (old w):=by
 obtain ⟨fuel,hf⟩:=hd
 obtain ⟨x,hx,ho⟩:=h _ _ _ hf
 exact ⟨x,hx,_,rfl,ho⟩
end
section
variable {H:Type} {enc:TypeId×Value→H} {held:Bool} {w:World} {base:Nat} {v:Value} {d:DataW H} {p:List MemPlace}
theorem zr7:Opens enc held w 26 (fun x:Vec=>[pI x.1,pI x.2.1,pI x.2.2]) (fun _ _=>True):=by
 intro fuel cs y h
 obtain ⟨xs,n,_,rfl,hl,hlen,hf⟩:=DataW.trod_struct Tryz.underlying26 h
 rw [show Tryz.prog.cellsOf 26=3 by kernel_rfl] at hl
 have hlen2:xs.length=3:=hlen
 match xs,hlen2 with
 | [y0,y1,y2],_ =>
 obtain ⟨a,_,oa⟩:=zar (z:=1) (zdg Tryz.underlying3) zbn (hf 0 _ rfl) (by simp)
 obtain ⟨b,_,ob⟩:=zar (z:=1) (zdg Tryz.underlying3) zbn (hf 1 _ rfl) (by simp)
 obtain ⟨c,_,oc⟩:=zar (z:=1) (zdg Tryz.underlying3) zbn (hf 2 _ rfl) (by simp)
 refine ⟨(a,b,c),trivial,?_⟩
 have:=q4 (z:=1) (q4 (z:=1) (q4 (z:=1) (ps:=[]) (o:=0) trivial oa) ob) oc
 rw [List.take_of_length_le (by omega)] at this
 exact this
theorem zr5 {t e:TypeId} {α:Type} {c:α→List Pred} {ok:DataW H→α→Prop} {n z:Nat} (ht:Tryz.prog.underlying t=some (.array n e)) (hc:Tryz.prog.cellsOf e=z) (hct:Tryz.prog.cellsOf t=n*z) (he:Opens enc held w e c ok) :
  Opens enc held w t (fun l:List α=>l.flatMap c) (fun d l=>l.length=n∧∃ds,d=.agg ds∧F2 ok ds l):=by
 intro fuel cs y h
 obtain ⟨xs,m,_,rfl,hl,hlen,hf⟩:=DataW.trod_array ht h
 rw [hct] at hl
 rw [hc] at hf
 have build:∀k,k≤n→∃l:List α,l.length=k∧F2 ok ((xs.map (·.1)).take k) l∧okl (l.flatMap c) (cs.take (k*z)) w (old w):=by
  intro k
  induction k with
  | zero=>intro _;exact ⟨[],rfl,by rw [List.take_zero];exact .nil,by rw [Nat.zero_mul,List.take_zero];trivial⟩
  | succ k ih =>
   intro hk
   obtain ⟨l,h2,h3,h4⟩:=ih (by omega)
   have hx:=hf k (by omega)
   rw [List.getElem?_eq_getElem (by omega)] at hx
   obtain ⟨x,hok,ho⟩:=he _ _ _ hx
   refine ⟨l++[x],by rw [List.length_append,h2];rfl,?_,?_⟩
   ·rw [List.take_add_one,List.getElem?_map,List.getElem?_eq_getElem (by omega)]
    exact zaK h3 hok
   ·rw [List.flatMap_append,List.flatMap_cons,List.flatMap_nil,List.append_nil,Nat.succ_mul]
    exact q4 h4 ho
 obtain ⟨l,h2,h3,h4⟩:=build n (Nat.le_refl _)
 rw [List.take_of_length_le (by simp;omega)] at h3
 rw [List.take_of_length_le (by omega)] at h4
 exact ⟨l,⟨h2,_,rfl,h3⟩,h4⟩
theorem zqp:Opens enc held w 162 cFm (fun d x=>d=.agg [.lit (.int .i64 x.1),.lit (.int .i64 x.2.1),.lit (.string x.2.2.1),.lit (.int .i64 x.2.2.2)]):=by
 intro fuel cs y h
 obtain ⟨xs,n,_,rfl,hl,hlen,hf⟩:=DataW.trod_struct Tryz.underlying162 h
 rw [show Tryz.prog.cellsOf 162=4 by kernel_rfl] at hl
 have hlen2:xs.length=4:=hlen
 match xs,hlen2 with
 | [y0,y1,y2,y3],_ =>
 obtain ⟨a,ha,oa⟩:=zar (z:=1) (zdg Tryz.underlying3) zbn (hf 0 _ rfl) (by simp)
 obtain ⟨b,hb,ob⟩:=zar (z:=1) (zdg Tryz.underlying3) zbn (hf 1 _ rfl) (by simp)
 obtain ⟨c,hc,oc⟩:=zar (z:=1) (zr6 Tryz.underlying9) zp3 (hf 2 _ rfl) (by simp)
 obtain ⟨e,he,oe⟩:=zar (z:=1) (zdg Tryz.underlying3) zbn (hf 3 _ rfl) (by simp)
 have ha':y0.1=.lit (.int .i64 a):=ha.1
 have hb':y1.1=.lit (.int .i64 b):=hb.1
 have hc':y2.1=.lit (.string c):=hc.1
 have he':y3.1=.lit (.int .i64 e):=he.1
 refine ⟨(a,b,c,e),?_,?_⟩
 ·simp [ha',hb',hc',he']
 have:=q4 (z:=1) (q4 (z:=1) (q4 (z:=1) (q4 (z:=1) (ps:=[]) (o:=0) trivial oa) ob) oc) oe
 rw [List.take_of_length_le (by omega)] at this
 exact this
theorem znS:Opens enc held w 163 (fun l:List Frmt=>l.flatMap cFm) (fun d l=>l.length=7∧∃ds,d=.agg ds∧F2 (fun d x=>d=.agg [.lit (.int .i64 x.1),.lit (.int .i64 x.2.1),.lit (.string x.2.2.1),.lit (.int .i64 x.2.2.2)]) ds l):=zr5 (n:=7) (z:=4) Tryz.underlying163 (by kernel_rfl) (by kernel_rfl) zqp
end
def laidL : List (String × DataW Unit) := [("unicode/utf8.acceptRanges", Rows.laid_unicode_utf8_acceptRanges), ("collet/program.forms", Rows.laid_collet_program_forms), ("unicode/utf8.first", Rows.laid_unicode_utf8_first)]
theorem gFms : Tryz.prog.globalNamed "collet/program.forms" = some 0 := by kernel_rfl
theorem tFms:(Tryz.prog.globals[0]?).map (·.type)=some 163:=by kernel_rfl
theorem znG {W:World} (h:W.ShapedOpen Tryz.prog):∃m,W.cell? ⟨1,0,none⟩=some (.int .i64 m):=by
 obtain ⟨m,hm⟩:=Tryz.laysM219.s1_3 W h
 exact ⟨m,hm⟩
theorem znB {W:World} (hW:W.ShapedOpen Tryz.prog) (h:laidMetH Tryz.prog laidL W):LibP W:=by
 rw [MakeChecks.laidMetH_plain _ _ _ (by kernel_rfl)] at h
 refine ⟨znG hW,?_⟩
 obtain ⟨ps,⟨g0,t0,cs0,f0,p0,q0,hg0,ht0,hv0,hd0,_,e0⟩,_,_⟩:=h.tail
 obtain rfl:=Option.some.inj (gFms.symm.trans hg0)
 obtain rfl:=Option.some.inj (tFms.symm.trans ht0)
 obtain ⟨l,hl,ho⟩:=znS _ _ _ hd0
 have e:l=zg:=by
  obtain ⟨_,ds,h1,hf⟩:=hl
  simp only [Rows.laid_collet_program_forms,DataW.agg.injEq] at h1
  subst h1
  match l,hf with
  | [a,b,c,d,e,f,g],.cons h1 (.cons h2 (.cons h3 (.cons h4 (.cons h5 (.cons h6 (.cons h7 .nil)))))) =>
   obtain ⟨a1,a2,a3,a4⟩:=a
   obtain ⟨b1,b2,b3,b4⟩:=b
   obtain ⟨c1,c2,c3,c4⟩:=c
   obtain ⟨d1,d2,d3,d4⟩:=d
   obtain ⟨e1,e2,e3,e4⟩:=e
   obtain ⟨f1,f2,f3,f4⟩:=f
   obtain ⟨g1,g2,g3,g4⟩:=g
   simp at h1 h2 h3 h4 h5 h6 h7
   obtain ⟨rfl,rfl,rfl,rfl⟩:=h1
   obtain ⟨rfl,rfl,rfl,rfl⟩:=h2
   obtain ⟨rfl,rfl,rfl,rfl⟩:=h3
   obtain ⟨rfl,rfl,rfl,rfl⟩:=h4
   obtain ⟨rfl,rfl,rfl,rfl⟩:=h5
   obtain ⟨rfl,rfl,rfl,rfl⟩:=h6
   obtain ⟨rfl,rfl,rfl,rfl⟩:=h7
   rfl
 subst e
 have hlen:=zK ho
 have hz:(zg.flatMap cFm).length=28:=by decide
 simp only [World.var?,gFms,Option.bind_some] at hv0
 split at hv0
 ·rename_i vs T fz hh
  obtain rfl:=Option.some.inj hv0
  refine .inr ⟨0,0,7,T,vs,fz,rfl,(Array.getElem?_eq_some_iff.1 hh).1,hh,?_,by decide⟩
  unfold okp
  rw [List.drop_zero,← hlen,List.take_length]
  exact ho
 ·cases hv0
theorem znr (os:Os) (args:Array Value):laidMetH Tryz.prog laidL ((World.laidAll Tryz.prog os laidL).forCall (fun _ _=>0) ⟨#[],args,[]⟩).memory:=by
 rw [MakeChecks.laidMetH_plain _ _ _ (by kernel_rfl)]
 exact laidMet_laidAll _ (by kernel_rfl) (by kernel_rfl)
end Go.Proofs.YteimplkdcjapdaaGreatDoor
set_option synthInstance.maxSize 2000
set_option synthInstance.maxHeartbeats 400000
namespace Go.Proofs.YteimplkdcjapdaaGreatDoor
open Go.RowKit
def zrs:Tr:=.s [(2,.bin .lss 3 1 (kI 1))] (.b 2 (.z (.ret false (LF (kI 0)) [])) (.s [(5,.dv .rem 3 0 1),(7,.bin .add 3 3 1),(9,.dv .rem 3 4 1)] (.z (.ret false (5) []))))
theorem x_mod {w0:World} (n m:Int) (r:Int) (hr:modX n m=r):Fun (KN w0) Tryz.prog 14 [.o (.c (pI n)),.o (.c (pI m))] (.o (.c (pI r))):=by
 refine tfn w0 14 ⟨[0,1],[],[],0,0⟩ ⟨2,[sI m,sI n],[],[]⟩ zrs (by kernel_rfl) ?_
 intro v1 e1
 refine ai (fun h2=>?_) fun h2=>?_
 ·
  intro hc
  refine Fun.fin (r:=.o (.c (pV (.int .i64 0)))) (zc (hc)) (fun v W D h=>?_)
  have r0:r=(0:Int):=by
   (have dh2:=LD e1 h2;rw [← hr];unfold modX;rw [if_pos (by omega)])
  rw [r0];exact h
 ·
  have s4:m≠0:=by first | (simp_all;done) | (simp_all;omega)
  refine ai s4 fun v3 e3=>?_
  intro v5 e5
  have s7:m≠0:=by first | (simp_all;done) | (simp_all;omega)
  refine ai s7 fun v6 e6=>?_
  intro hc
  refine Fun.fin (r:=.o (.c (pI v6))) (zc (hc)) (fun v W D h=>?_)
  have r0:r=v6:=by
   (have dh2:=LE e1 h2;rw [← hr];unfold modX;rw [if_neg (by omega)];simp_all)
  rw [r0];exact h
def posA (l r:List Int):Int:=(l.length:Int) - r.length
theorem zaO {l r:List Int} {v:Int} (h:r <:+ l) (hv:posA l r=v):l.drop v.toNat=r∧0≤v∧v≤l.length:=by
 obtain ⟨t,rfl⟩:=h
 unfold posA at hv
 rw [List.length_append] at hv
 obtain rfl:v=t.length:=by omega
 exact ⟨by rw [Int.toNat_natCast,List.drop_left],by omega,by rw [List.length_append];omega⟩
theorem qf (l:List Int) (n:Int):(drawX l n).2 <:+ l:=by
 cases l with
 | nil=>exact List.suffix_refl _
 | cons x r=>exact List.suffix_cons ..
theorem zkJ {l:List Int} {n:Nat} {x m:Int} (h:l[n]?=some x):drawX (l.drop n) m=(modX x m,l.drop (n+1)):=by
 obtain ⟨hk,rfl⟩:=List.getElem?_eq_some_iff.1 h
 rw [List.drop_eq_getElem_cons hk];rfl
theorem ziu {l:List Int} {n:Nat} (m:Int) (h:l.length≤n):drawX (l.drop n) m=(0,[]):=by rw [List.drop_of_length_le h];rfl
def zoN:Tr:=.s [(9,.ln 24 3 0),(10,.bin .geq 3 1 3)] (.b 4 (.z (.ret false (LF (kI 0)) [.bx 900 92 [.h 0,.h 1]])) (.s [(15,.bin .add 3 1 (kI 1)),(27,.bin .sub 3 5 (kI 1)),(28,.ia 24 3 1 0 6),(29,.ld 3 0 7),(31,.call 14 [8,2] (.o .c))] (.z (.ret false (9) [.bx 900 92 [.h 0,.h 5]]))))
theorem zsG {w0:World} (l:List Int) (a n:Int) (r p:Int) (hr:(drawX (l.drop a.toNat) n).1=r) (hp:posA l (drawX (l.drop a.toNat) n).2=p) (ha:0≤a∧a≤l.length) (hl:l.length<9223372036854775807):BFun false (KN w0) Tryz.prog 50 [.o (.c (.p 0 0)),.o (.c (.d (pI n)))] [(92,[.d (pLs cI l),.d (pI a)])] (.o (.c (.d (pI r)))) [(92,[.d (pLs cI l),.d (pI p)])]:=by
 refine tfn w0 50 ⟨[LF (.p 900 0),2],[.bx 900 92 [.h 0,.h 1]],[],0,0⟩ ⟨3,[sI n,sI a,.ls 1 cI kIc l],[],[]⟩ zoN (by kernel_rfl) ?_
 intro v1 e1 v2 e2
 refine ai (fun h3=>?_) fun h3=>?_
 ·
  intro hc
  have r0:r=(0:Int):=by
   (have dh3:=LD e2 h3;have hzv1:=e1;rw [ziu _ (by omega)] at hr hp;first | exact hr.symm | (rw [← hp];unfold posA;simp;omega))
  have r1:p=a:=by
   (have dh3:=LD e2 h3;have hzv1:=e1;rw [ziu _ (by omega)] at hr hp;first | exact hr.symm | (rw [← hp];unfold posA;simp;omega))
  rw [r0,r1];exact con_b (pan:=false) (hc)
 ·
  intro v4 e4 v5 e5
  refine ai (by (have dh3:=LE e2 h3;have hzv1:=e1;have qv4:v4=a+1:=(by rw [← e4,wri (by omega)]);have qv5:v5=a:=(by rw [← e5,wri (by omega)];omega);exact ⟨a.toNat,_,by omega,List.getElem?_eq_getElem (by omega)⟩)) fun n6 x7 s8 s9=>?_
  obtain ⟨v10,e10⟩:=LX (modX x7 n)
  refine cx (.o (.c (sI v10))) (x_mod x7 n v10 e10) rfl ?_
  intro hc
  have r0:r=v10:=by
   (have dh3:=LE e2 h3;have hzv1:=e1;have qv4:v4=a+1:=(by rw [← e4,wri (by omega)]);have qv5:v5=a:=(by rw [← e5,wri (by omega)];omega);have hn:a.toNat=n6:=(by omega);have hlt:=(List.getElem?_eq_some_iff.1 s9).1;rw [hn,zkJ s9] at hr hp;first | (rw [← hr];assumption) | (rw [← hp];unfold posA;rw [List.length_drop];omega))
  have r1:p=v4:=by
   (have dh3:=LE e2 h3;have hzv1:=e1;have qv4:v4=a+1:=(by rw [← e4,wri (by omega)]);have qv5:v5=a:=(by rw [← e5,wri (by omega)];omega);have hn:a.toNat=n6:=(by omega);have hlt:=(List.getElem?_eq_some_iff.1 s9).1;rw [hn,zkJ s9] at hr hp;first | (rw [← hr];assumption) | (rw [← hp];unfold posA;rw [List.length_drop];omega))
  rw [r0,r1];exact con_b (pan:=false) (hc)
theorem zaw {w0:World} (n:Int) (l:List Int) (a:Int) (r p:Int) (hr:(drawX (l.drop a.toNat) n).1=r) (hp:posA l (drawX (l.drop a.toNat) n).2=p) (ha:0≤a∧a≤l.length) (hl:l.length<9223372036854775807):BFun false (KN w0) Tryz.prog 50 [.o (.c (.p 0 0)),.o (.c (.d (pI n)))] [(92,[.d (pLs cI l),.d (pI a)])] (.o (.c (.d (pI r)))) [(92,[.d (pLs cI l),.d (pI p)])]:=zsG l a n r p hr hp ha hl
end Go.Proofs.YteimplkdcjapdaaGreatDoor
set_option synthInstance.maxSize 2000
set_option synthInstance.maxHeartbeats 400000
namespace Go.Proofs.YteimplkdcjapdaaGreatDoor
open Go.RowKit
def vecD (l:List Int) (k:Int):Vec×List Int:=
 (((drawX l (2*k+1)).1 - k,(drawX (drawX l (2*k+1)).2 (2*k+1)).1 - k,(drawX (drawX (drawX l (2*k+1)).2 (2*k+1)).2 (2*k+1)).1 - k),(drawX (drawX (drawX l (2*k+1)).2 (2*k+1)).2 (2*k+1)).2)
theorem zju (l:List Int) (k:Int):(vecD l k).2 <:+ l:=((qf _ _).trans (qf _ _)).trans (qf _ _)
def arcTo (a c:Vec):Vec:=addV c (0,IntKind.i64.wrap (c.1 - a.1),0)
def stmtK (k b f:Int) (l:List Int) (a:Vec):Stm×Vec×List Int:=
 if k=0 then (zd9 (vecD l 8).1,(vecD l 8).1,(vecD l 8).2)
 else if k=1 then (lineX (vecD l 8).1 f,(vecD l 8).1,(vecD l 8).2)
 else if k=2∨k=3∨k=4 then (lineX (a.1+b,a.2.1,a.2.2) f,(a.1+b,a.2.1,a.2.2),l)
 else if k=5∨k=6∨k=7 then (lineX (a.1,a.2.1+b,a.2.2) f,(a.1,a.2.1+b,a.2.2),l)
 else if k=8 then (sideX (1+(drawX l 2).1) (1+(drawX (drawX l 2).2 2).1),a,(drawX (drawX l 2).2 2).2)
 else if k=9 then (sideX 0 0,a,l)
 else if k=10 then
  ((3,0,[],qe (addV a (2+3*(drawX l 2).1,0,0))++qe (arcTo a (addV a (2+3*(drawX l 2).1,0,0)))++[numX f]),arcTo a (addV a (2+3*(drawX l 2).1,0,0)),(drawX l 2).2)
 else ((5,0,[115,105,100,101],[.mk 3 0 [numX b,.mk 2 0 []]]),(b+1,3,0),l)
def stmtX (l:List Int) (a:Vec):Stm×Vec×List Int:=
 stmtK (drawX l 12).1 ((drawX (drawX l 12).2 13).1 - 6) (1+(drawX (drawX (drawX l 12).2 13).2 9).1) (drawX (drawX (drawX l 12).2 13).2 9).2 a
def zoF:Tr:=.s [(3,.bin .mul 3 (kI 2) 2),(4,.bin .add 3 3 (kI 1)),(0,.raw [(1000005,.call ⟨50,[.o (.c (.p 900 0)),4],[.bx 900 92 [.h 0,.h 1]],5,[.bx 900 92 [.h 0,.h 6]]⟩)] 2),(7,.bin .sub 3 5 2),(11,.bin .mul 3 (kI 2) 2),(12,.bin .add 3 8 (kI 1)),(0,.raw [(1000013,.call ⟨50,[.o (.c (.p 900 0)),9],[.bx 900 92 [.h 0,.h 6]],10,[.bx 900 92 [.h 0,.h 11]]⟩)] 2),(15,.bin .sub 3 10 2),(19,.bin .mul 3 (kI 2) 2),(20,.bin .add 3 13 (kI 1)),(0,.raw [(1000021,.call ⟨50,[.o (.c (.p 900 0)),14],[.bx 900 92 [.h 0,.h 11]],15,[.bx 900 92 [.h 0,.h 16]]⟩)] 2),(23,.bin .sub 3 15 2)] (.z (.ret false (.o (.g [7,12,17])) [.bx 900 92 [.h 0,.h 16]]))
theorem zsw {w0:World} (l:List Int) (a most:Int) (r:Vec) (p:Int) (hr:(vecD (l.drop a.toNat) most).1=r) (hp:posA l (vecD (l.drop a.toNat) most).2=p) (ha:0≤a∧a≤l.length) (hl:l.length<9223372036854775807) (hm:0≤most∧most≤100):BFun false (KN w0) Tryz.prog 78 [.o (.c (.p 0 0)),.o (.c (.d (pI most)))] [(92,[.d (pLs cI l),.d (pI a)])] (.o (.g [.d (pI r.1),.d (pI r.2.1),.d (pI r.2.2)])) [(92,[.d (pLs cI l),.d (pI p)])]:=by
 refine tfn w0 78 ⟨[LF (.p 900 0),2],[.bx 900 92 [.h 0,.h 1]],[],0,0⟩ ⟨3,[sI most,sI a,.ls 1 cI kIc l],[],[]⟩ zoF (by kernel_rfl) ?_
 intro v1 e1 v2 e2
 obtain ⟨v3,e3⟩:=LX ((drawX (l.drop (a:Int).toNat) v2).1)
 obtain ⟨v4,e4⟩:=LX (posA l (drawX (l.drop (a:Int).toNat) v2).2)
 have s5:0≤a∧a≤l.length:=by exact ha
 have s6:l.length<9223372036854775807:=by exact hl
 refine rx [sI v3,sI v4] [] [] (fun t u w=>⟨b_con (pan:=false) (zaw v2 l a v3 v4 e3 e4 s5 s6),trivial⟩) ?_
 intro v7 e7 v8 e8 v9 e9
 obtain ⟨v10,e10⟩:=LX ((drawX (l.drop (v4:Int).toNat) v9).1)
 obtain ⟨v11,e11⟩:=LX (posA l (drawX (l.drop (v4:Int).toNat) v9).2)
 have qv1:v1=(2:Int)*most:=(by rw [← e1,wri (by omega)])
 have qv2:v2=v1+(1:Int):=(by rw [← e2,wri (by omega)])
 have rv3:0≤v3∧v3<v2:=(e3 ▸ zH (by omega) (by omega))
 have sv4:=zaO ((qf _ _).trans (List.drop_suffix _ _)) e4
 have qv7:v7=v3 - most:=(by rw [← e7,wri (by omega)])
 have qv8:v8=(2:Int)*most:=(by rw [← e8,wri (by omega)])
 have qv9:v9=v8+(1:Int):=(by rw [← e9,wri (by omega)])
 have rv10:0≤v10∧v10<v9:=(e10 ▸ zH (by omega) (by omega))
 have sv11:=zaO ((qf _ _).trans (List.drop_suffix _ _)) e11
 have s12:0≤v4∧v4≤l.length:=by (exact sv4.2)
 have s13:l.length<9223372036854775807:=by exact hl
 refine rx [sI v10,sI v11] [] [] (fun t u w=>⟨b_con (pan:=false) (zaw v9 l v4 v10 v11 e10 e11 s12 s13),trivial⟩) ?_
 intro v14 e14 v15 e15 v16 e16
 obtain ⟨v17,e17⟩:=LX ((drawX (l.drop (v11:Int).toNat) v16).1)
 obtain ⟨v18,e18⟩:=LX (posA l (drawX (l.drop (v11:Int).toNat) v16).2)
 have qv14:v14=v10 - most:=(by rw [← e14,wri (by omega)])
 have qv15:v15=(2:Int)*most:=(by rw [← e15,wri (by omega)])
 have qv16:v16=v15+(1:Int):=(by rw [← e16,wri (by omega)])
 have rv17:0≤v17∧v17<v16:=(e17 ▸ zH (by omega) (by omega))
 have sv18:=zaO ((qf _ _).trans (List.drop_suffix _ _)) e18
 have s19:0≤v11∧v11≤l.length:=by (exact sv11.2)
 have s20:l.length<9223372036854775807:=by exact hl
 refine rx [sI v17,sI v18] [] [] (fun t u w=>⟨b_con (pan:=false) (zaw v16 l v11 v17 v18 e17 e18 s19 s20),trivial⟩) ?_
 intro v21 e21
 intro hc
 have qv21:v21=v17 - most:=(by rw [← e21,wri (by omega)])
 have zv2:v2=2*most+1:=(by omega)
 have zv9:v9=2*most+1:=(by omega)
 have zv16:v16=2*most+1:=(by omega)
 have r0:r=(v7,v14,v21):=by
  (rw [zv2] at e3 e4 sv4;rw [zv9] at e10 e11 sv11;rw [zv16] at e17 e18 sv18;first | (rw [← hr];unfold vecD;rw [e3,← sv4.1,e10,← sv11.1,e17,qv7,qv14,qv21]) | (rw [← hp];unfold vecD;rw [← sv4.1,← sv11.1,e18]))
 have r1:p=v18:=by
  (rw [zv2] at e3 e4 sv4;rw [zv9] at e10 e11 sv11;rw [zv16] at e17 e18 sv18;first | (rw [← hr];unfold vecD;rw [e3,← sv4.1,e10,← sv11.1,e17,qv7,qv14,qv21]) | (rw [← hp];unfold vecD;rw [← sv4.1,← sv11.1,e18]))
 rw [r0,r1];exact con_b (pan:=false) (hc)
theorem zmF {w0:World} (most:Int) (l:List Int) (a:Int) (r:Vec) (p:Int) (hr:(vecD (l.drop a.toNat) most).1=r) (hp:posA l (vecD (l.drop a.toNat) most).2=p) (ha:0≤a∧a≤l.length) (hl:l.length<9223372036854775807) (hm:0≤most∧most≤100):BFun false (KN w0) Tryz.prog 78 [.o (.c (.p 0 0)),.o (.c (.d (pI most)))] [(92,[.d (pLs cI l),.d (pI a)])] (.o (.g [.d (pI r.1),.d (pI r.2.1),.d (pI r.2.2)])) [(92,[.d (pLs cI l),.d (pI p)])]:=zsw l a most r p hr hp ha hl hm
def zmD:Tr:=.s [(0,.raw [(1000004,.call ⟨50,[.o (.c (.p 900 0)),.o (.c (.k (.int .i64 12)))],[.bx 900 92 [.h 0,.h 1]],5,[.bx 900 92 [.h 0,.h 6]]⟩)] 2),(0,.raw [(1000007,.call ⟨50,[.o (.c (.p 900 0)),.o (.c (.k (.int .i64 13)))],[.bx 900 92 [.h 0,.h 6]],7,[.bx 900 92 [.h 0,.h 8]]⟩)] 2),(8,.bin .sub 3 7 (kI 6)),(0,.raw [(1000011,.call ⟨50,[.o (.c (.p 900 0)),.o (.c (.k (.int .i64 9)))],[.bx 900 92 [.h 0,.h 8]],10,[.bx 900 92 [.h 0,.h 11]]⟩)] 2),(12,.bin .add 3 (kI 1) 10),(18,.bin .eql 3 5 (kI 0))] (.b 13 (.s [(0,.raw [(1000021,.call ⟨78,[.o (.c (.p 900 0)),.o (.c (.k (.int .i64 8)))],[.bx 900 92 [.h 0,.h 11]],.o (.g [14,15,16]),[.bx 900 92 [.h 0,.h 17]]⟩)] 4),(24,.call 69 [.o (.g [14,15,16])] (.o .c))] (.z (.ret false (.t [.g [kI 1,kI 0,.k (.string ⟨#[]⟩),18],.g [14,15,16]]) [.bx 900 92 [.h 0,.h 17]]))) (.s [(20,.bin .eql 3 5 (kI 1))] (.b 14 (.s [(0,.raw [(1000023,.call ⟨78,[.o (.c (.p 900 0)),.o (.c (.k (.int .i64 8)))],[.bx 900 92 [.h 0,.h 11]],.o (.g [15,16,17]),[.bx 900 92 [.h 0,.h 18]]⟩)] 4),(27,.call 29 [.o (.g [15,16,17]),12] (.o (.g 4)))] (.z (.ret false (.t [.g [19,20,21,22],.g [15,16,17]]) [.bx 900 92 [.h 0,.h 18]]))) (.s [(22,.bin .eql 3 5 (kI 2))] (.b 15 (.s [(27,.bin .add 3 2 9),(32,.call 29 [.o (.g [16,3,4]),12] (.o (.g 4)))] (.z (.ret false (.t [.g [17,18,19,20],.g [16,3,4]]) [.bx 900 92 [.h 0,.h 11]]))) (.s [(24,.bin .eql 3 5 (kI 3))] (.b 16 (.s [(29,.bin .add 3 2 9),(34,.call 29 [.o (.g [17,3,4]),12] (.o (.g 4)))] (.z (.ret false (.t [.g [18,19,20,21],.g [17,3,4]]) [.bx 900 92 [.h 0,.h 11]]))) (.s [(26,.bin .eql 3 5 (kI 4))] (.b 17 (.s [(31,.bin .add 3 2 9),(36,.call 29 [.o (.g [18,3,4]),12] (.o (.g 4)))] (.z (.ret false (.t [.g [19,20,21,22],.g [18,3,4]]) [.bx 900 92 [.h 0,.h 11]]))) (.s [(28,.bin .eql 3 5 (kI 5))] (.b 18 (.s [(33,.bin .add 3 3 9),(38,.call 29 [.o (.g [2,19,4]),12] (.o (.g 4)))] (.z (.ret false (.t [.g [20,21,22,23],.g [2,19,4]]) [.bx 900 92 [.h 0,.h 11]]))) (.s [(30,.bin .eql 3 5 (kI 6))] (.b 19 (.s [(35,.bin .add 3 3 9),(40,.call 29 [.o (.g [2,20,4]),12] (.o (.g 4)))] (.z (.ret false (.t [.g [21,22,23,24],.g [2,20,4]]) [.bx 900 92 [.h 0,.h 11]]))) (.s [(32,.bin .eql 3 5 (kI 7))] (.b 20 (.s [(37,.bin .add 3 3 9),(42,.call 29 [.o (.g [2,21,4]),12] (.o (.g 4)))] (.z (.ret false (.t [.g [22,23,24,25],.g [2,21,4]]) [.bx 900 92 [.h 0,.h 11]]))) (.s [(34,.bin .eql 3 5 (kI 8))] (.b 21 (.s [(0,.raw [(1000037,.call ⟨50,[.o (.c (.p 900 0)),.o (.c (.k (.int .i64 2)))],[.bx 900 92 [.h 0,.h 11]],22,[.bx 900 92 [.h 0,.h 23]]⟩)] 2),(38,.bin .add 3 (kI 1) 22),(0,.raw [(1000040,.call ⟨50,[.o (.c (.p 900 0)),.o (.c (.k (.int .i64 2)))],[.bx 900 92 [.h 0,.h 23]],25,[.bx 900 92 [.h 0,.h 26]]⟩)] 2),(41,.bin .add 3 (kI 1) 25),(42,.call 44 [24,27] (.o (.g 4)))] (.z (.ret false (.t [.g [28,29,30,31],.g [2,3,4]]) [.bx 900 92 [.h 0,.h 26]]))) (.s [(36,.bin .eql 3 5 (kI 9))] (.b 22 (.s [(38,.call 44 [LF (kI 0),LF (kI 0)] (.o (.g 4)))] (.z (.ret false (.t [.g [23,24,25,26],.g [2,3,4]]) [.bx 900 92 [.h 0,.h 11]]))) (.s [(38,.bin .eql 3 5 (kI 10))] (.b 23 (.s [(0,.raw [(1000042,.call ⟨50,[.o (.c (.p 900 0)),.o (.c (.k (.int .i64 2)))],[.bx 900 92 [.h 0,.h 11]],24,[.bx 900 92 [.h 0,.h 25]]⟩)] 2),(43,.bin .mul 3 (kI 3) 24),(44,.bin .add 3 (kI 2) 26),(46,.call 64 [.o (.g [2,3,4]),.o (.g [27,kI 0,kI 0])] (.o (.g 3))),(54,.bin .sub 3 28 2),(56,.call 64 [.o (.g [28,29,30]),.o (.g [kI 0,31,kI 0])] (.o (.g 3))),(59,.call 69 [.o (.g [28,29,30])] (.o .c)),(61,.call 69 [.o (.g [32,33,34])] (.o .c)),(0,.raw [(1000062,.ap 58 [20062] 35 36 (LF (.gr 20062)) [] [.gl 20062 60 3 0])] 0),(64,.call 49 [12] (.o (.g 3))),(0,.raw [(1000065,.dat 60 1 [.h 37,.h 38,.h 39] 40)] 1),(0,.raw [(1000066,.app 60 3 20062 0 1 40 [] false)] 0),(0,.gh ⟨29,[.gl 20062 60 3 1,.bx 1 62 [.k (.int .i64 3),.k (.int .i64 0),.k (.string ⟨#[]⟩),.gr 20062]],[.bx 1 62 [.k (.int .i64 3),.k (.int .i64 0),.k (.string ⟨#[]⟩),.h 41]],[20062]⟩ 1)] (.z (.ret false (.t [.g [kI 3,kI 0,.k (.string ⟨#[]⟩),41],.g [32,33,34]]) [.bx 900 92 [.h 0,.h 25]]))) (.s [(41,.call 49 [9] (.o (.g 3))),(0,.raw [(1000043,.dat 60 2 [.h 24,.h 25,.h 26,.k (.int .i64 2),.k (.int .i64 0),.k (.slice none 0 0)] 27)] 1),(0,.raw [(1000045,.dat 60 1 [.k (.int .i64 3),.k (.int .i64 0),.h 27] 28)] 1),(48,.bin .add 3 9 (kI 1))] (.z (.ret false (.t [.g [kI 5,kI 0,.k (.string ⟨#[115,105,100,101]⟩),28],.g [29,kI 3,kI 0]]) [.bx 900 92 [.h 0,.h 11]]))))))))))))))))))))))))
theorem zrf {w0:World} (l:List Int) (a:Int) (at_:Vec) (r:Stm) (r2:Vec) (p:Int) (hr:(stmtX (l.drop a.toNat) at_).1=r) (hr2:(stmtX (l.drop a.toNat) at_).2.1=r2) (hp:posA l (stmtX (l.drop a.toNat) at_).2.2=p) (ha:0≤a∧a≤l.length) (hl:l.length<9223372036854775807) (h1:-1000000≤at_.1∧at_.1≤1000000) (h2:-1000000≤at_.2.1∧at_.2.1≤1000000):BFun false (KN w0) Tryz.prog 48 [.o (.c (.p 0 0)),.o (.g [.d (pI at_.1),.d (pI at_.2.1),.d (pI at_.2.2)])] [(92,[.d (pLs cI l),.d (pI a)])] (.t [.g [.d (pI r.1),.d (pI r.2.1),.d (pS r.2.2.1),.d (pLs cE r.2.2.2)],.g [.d (pI r2.1),.d (pI r2.2.1),.d (pI r2.2.2)]]) [(92,[.d (pLs cI l),.d (pI p)])]:=by
 refine tfn w0 48 ⟨[LF (.p 900 0),.o (.g [2,3,4])],[.bx 900 92 [.h 0,.h 1]],[20062],0,0⟩ ⟨5,[sI at_.2.2,sI at_.2.1,sI at_.1,sI a,.ls 1 cI kIc l],[],[]⟩ zmD (by kernel_rfl) ?_
 obtain ⟨v1,e1⟩:=LX ((drawX (l.drop (a:Int).toNat) (12:Int)).1)
 obtain ⟨v2,e2⟩:=LX (posA l (drawX (l.drop (a:Int).toNat) (12:Int)).2)
 have s3:0≤a∧a≤l.length:=by exact ha
 have s4:l.length<9223372036854775807:=by exact hl
 refine rx [sI v1,sI v2] [] [] (fun t u w=>⟨b_con (pan:=false) (zaw (12:Int) l a v1 v2 e1 e2 s3 s4),trivial⟩) ?_
 obtain ⟨v5,e5⟩:=LX ((drawX (l.drop (v2:Int).toNat) (13:Int)).1)
 obtain ⟨v6,e6⟩:=LX (posA l (drawX (l.drop (v2:Int).toNat) (13:Int)).2)
 have rv1:0≤v1∧v1<12:=(e1 ▸ zH (by omega) (by omega))
 have sv2:=zaO ((qf _ _).trans (List.drop_suffix _ _)) e2
 have rv5:0≤v5∧v5<13:=(e5 ▸ zH (by omega) (by omega))
 have sv6:=zaO ((qf _ _).trans (List.drop_suffix _ _)) e6
 have s7:0≤v2∧v2≤l.length:=by (exact sv2.2)
 have s8:l.length<9223372036854775807:=by exact hl
 refine rx [sI v5,sI v6] [] [] (fun t u w=>⟨b_con (pan:=false) (zaw (13:Int) l v2 v5 v6 e5 e6 s7 s8),trivial⟩) ?_
 intro v9 e9
 obtain ⟨v10,e10⟩:=LX ((drawX (l.drop (v6:Int).toNat) (9:Int)).1)
 obtain ⟨v11,e11⟩:=LX (posA l (drawX (l.drop (v6:Int).toNat) (9:Int)).2)
 have qv9:v9=v5 - (6:Int):=(by rw [← e9,wri (by omega)])
 have rv10:0≤v10∧v10<9:=(e10 ▸ zH (by omega) (by omega))
 have sv11:=zaO ((qf _ _).trans (List.drop_suffix _ _)) e11
 have s12:0≤v6∧v6≤l.length:=by (exact sv6.2)
 have s13:l.length<9223372036854775807:=by exact hl
 refine rx [sI v10,sI v11] [] [] (fun t u w=>⟨b_con (pan:=false) (zaw (9:Int) l v6 v10 v11 e10 e11 s12 s13),trivial⟩) ?_
 intro v14 e14 v15 e15
 refine ai (fun h16=>?_) fun h16=>?_
 ·
  obtain ⟨v17,e17⟩:=LX ((vecD (l.drop (v11:Int).toNat) (8:Int)).1)
  obtain ⟨v18,e18⟩:=LX (posA l (vecD (l.drop (v11:Int).toNat) (8:Int)).2)
  have dh16:=eq_of_beq (e15.trans h16)
  have qv14:v14=(1:Int)+v10:=(by rw [← e14,wri (by omega)])
  have sv18:=zaO ((zju _ _).trans (List.drop_suffix _ _)) e18
  have s19:0≤v11∧v11≤l.length:=by (exact sv11.2)
  have s20:l.length<9223372036854775807:=by exact hl
  have s21:0≤(8:Int)∧(8:Int)≤100:=by (omega)
  refine rx [sI v17.1,sI v17.2.1,sI v17.2.2,sI v18] [] [] (fun t u w=>⟨b_con (pan:=false) (zmF (8:Int) l v11 v17 v18 e17 e18 s19 s20 s21),trivial⟩) ?_
  obtain ⟨v22,e22⟩:=LX (qe v17)
  refine cx (.o (.c (.ls 3 cE kE v22))) (zhY v17 v22 e22) rfl ?_
  intro hc
  have ss1:stmtX (l.drop a.toNat) at_=(((1:Int),(0:Int),[],v22),v17,l.drop v18.toNat):=(by unfold stmtX stmtK;rw [e1,← sv2.1,e5,← sv6.1,e10,← sv11.1];(repeat (first | rw [if_pos (by omega)] | rw [if_neg (by omega)]));simp only [e17,← sv18.1,← e22,qv14,qv9,arcTo]<;>rfl)
  have r0:r=((1:Int),(0:Int),[],v22):=by
   (first | (rw [← hr,ss1];done) | (rw [← hr2,ss1];done) | (rw [← hp,ss1];dsimp only;rw [sv18.1];exact e18))
  have r1:r2=v17:=by
   (first | (rw [← hr,ss1];done) | (rw [← hr2,ss1];done) | (rw [← hp,ss1];dsimp only;rw [sv18.1];exact e18))
  have r2:p=v18:=by
   (first | (rw [← hr,ss1];done) | (rw [← hr2,ss1];done) | (rw [← hp,ss1];dsimp only;rw [sv18.1];exact e18))
  rw [r0,r1,r2];exact con_b (pan:=false) (hc)
 ·
  intro v17 e17
  refine ai (fun h18=>?_) fun h18=>?_
  ·
   obtain ⟨v19,e19⟩:=LX ((vecD (l.drop (v11:Int).toNat) (8:Int)).1)
   obtain ⟨v20,e20⟩:=LX (posA l (vecD (l.drop (v11:Int).toNat) (8:Int)).2)
   have dh16:=ne_of_beq_false (e15.trans h16)
   have dh18:=eq_of_beq (e17.trans h18)
   have qv14:v14=(1:Int)+v10:=(by rw [← e14,wri (by omega)])
   have sv20:=zaO ((zju _ _).trans (List.drop_suffix _ _)) e20
   have s21:0≤v11∧v11≤l.length:=by (exact sv11.2)
   have s22:l.length<9223372036854775807:=by exact hl
   have s23:0≤(8:Int)∧(8:Int)≤100:=by (omega)
   refine rx [sI v19.1,sI v19.2.1,sI v19.2.2,sI v20] [] [] (fun t u w=>⟨b_con (pan:=false) (zmF (8:Int) l v11 v19 v20 e19 e20 s21 s22 s23),trivial⟩) ?_
   obtain ⟨v24,e24⟩:=LX (lineX v19 v14)
   refine cx (.o (.g [sI v24.1,sI v24.2.1,sS v24.2.2.1,.ls 3 cE kE v24.2.2.2])) (zT v19 v14 v24 e24) rfl ?_
   intro hc
   have ss1:stmtX (l.drop a.toNat) at_=(v24,v19,l.drop v20.toNat):=(by unfold stmtX stmtK;rw [e1,← sv2.1,e5,← sv6.1,e10,← sv11.1];(repeat (first | rw [if_pos (by omega)] | rw [if_neg (by omega)]));simp only [e19,← sv20.1,← e24,qv14,qv9,arcTo]<;>rfl)
   have r0:r=v24:=by
    (first | (rw [← hr,ss1];done) | (rw [← hr2,ss1];done) | (rw [← hp,ss1];dsimp only;rw [sv20.1];exact e20))
   have r1:r2=v19:=by
    (first | (rw [← hr,ss1];done) | (rw [← hr2,ss1];done) | (rw [← hp,ss1];dsimp only;rw [sv20.1];exact e20))
   have r2:p=v20:=by
    (first | (rw [← hr,ss1];done) | (rw [← hr2,ss1];done) | (rw [← hp,ss1];dsimp only;rw [sv20.1];exact e20))
   rw [r0,r1,r2];exact con_b (pan:=false) (hc)
  ·
   intro v19 e19
   refine ai (fun h20=>?_) fun h20=>?_
   ·
    intro v21 e21
    obtain ⟨v22,e22⟩:=LX (lineX (v21,at_.2.1,at_.2.2) v14)
    refine cx (.o (.g [sI v22.1,sI v22.2.1,sS v22.2.2.1,.ls 3 cE kE v22.2.2.2])) (zT (v21,at_.2.1,at_.2.2) v14 v22 e22) rfl ?_
    intro hc
    have dh16:=ne_of_beq_false (e15.trans h16)
    have dh18:=ne_of_beq_false (e17.trans h18)
    have dh20:=eq_of_beq (e19.trans h20)
    have qv14:v14=(1:Int)+v10:=(by rw [← e14,wri (by omega)])
    have qv21:v21=at_.1+v9:=(by rw [← e21,wri (by omega)])
    have ss1:stmtX (l.drop a.toNat) at_=(v22,(v21,at_.2.1,at_.2.2),l.drop v11.toNat):=(by unfold stmtX stmtK;rw [e1,← sv2.1,e5,← sv6.1,e10,← sv11.1];(repeat (first | rw [if_pos (by omega)] | rw [if_neg (by omega)]));simp only [← e22,qv21,qv14,qv9,arcTo]<;>rfl)
    have r0:r=v22:=by
     (first | (rw [← hr,ss1];done) | (rw [← hr2,ss1];done) | (rw [← hp,ss1];dsimp only;rw [sv11.1];exact e11))
    have r1:r2=(v21,at_.2.1,at_.2.2):=by
     (first | (rw [← hr,ss1];done) | (rw [← hr2,ss1];done) | (rw [← hp,ss1];dsimp only;rw [sv11.1];exact e11))
    have r2:p=v11:=by
     (first | (rw [← hr,ss1];done) | (rw [← hr2,ss1];done) | (rw [← hp,ss1];dsimp only;rw [sv11.1];exact e11))
    rw [r0,r1,r2];exact con_b (pan:=false) (hc)
   ·
    intro v21 e21
    refine ai (fun h22=>?_) fun h22=>?_
    ·
     intro v23 e23
     obtain ⟨v24,e24⟩:=LX (lineX (v23,at_.2.1,at_.2.2) v14)
     refine cx (.o (.g [sI v24.1,sI v24.2.1,sS v24.2.2.1,.ls 3 cE kE v24.2.2.2])) (zT (v23,at_.2.1,at_.2.2) v14 v24 e24) rfl ?_
     intro hc
     have dh16:=ne_of_beq_false (e15.trans h16)
     have dh18:=ne_of_beq_false (e17.trans h18)
     have dh20:=ne_of_beq_false (e19.trans h20)
     have dh22:=eq_of_beq (e21.trans h22)
     have qv14:v14=(1:Int)+v10:=(by rw [← e14,wri (by omega)])
     have qv23:v23=at_.1+v9:=(by rw [← e23,wri (by omega)])
     have ss1:stmtX (l.drop a.toNat) at_=(v24,(v23,at_.2.1,at_.2.2),l.drop v11.toNat):=(by unfold stmtX stmtK;rw [e1,← sv2.1,e5,← sv6.1,e10,← sv11.1];(repeat (first | rw [if_pos (by omega)] | rw [if_neg (by omega)]));simp only [← e24,qv23,qv14,qv9,arcTo]<;>rfl)
     have r0:r=v24:=by
      (first | (rw [← hr,ss1];done) | (rw [← hr2,ss1];done) | (rw [← hp,ss1];dsimp only;rw [sv11.1];exact e11))
     have r1:r2=(v23,at_.2.1,at_.2.2):=by
      (first | (rw [← hr,ss1];done) | (rw [← hr2,ss1];done) | (rw [← hp,ss1];dsimp only;rw [sv11.1];exact e11))
     have r2:p=v11:=by
      (first | (rw [← hr,ss1];done) | (rw [← hr2,ss1];done) | (rw [← hp,ss1];dsimp only;rw [sv11.1];exact e11))
     rw [r0,r1,r2];exact con_b (pan:=false) (hc)
    ·
     intro v23 e23
     refine ai (fun h24=>?_) fun h24=>?_
     ·
      intro v25 e25
      obtain ⟨v26,e26⟩:=LX (lineX (v25,at_.2.1,at_.2.2) v14)
      refine cx (.o (.g [sI v26.1,sI v26.2.1,sS v26.2.2.1,.ls 3 cE kE v26.2.2.2])) (zT (v25,at_.2.1,at_.2.2) v14 v26 e26) rfl ?_
      intro hc
      have dh16:=ne_of_beq_false (e15.trans h16)
      have dh18:=ne_of_beq_false (e17.trans h18)
      have dh20:=ne_of_beq_false (e19.trans h20)
      have dh22:=ne_of_beq_false (e21.trans h22)
      have dh24:=eq_of_beq (e23.trans h24)
      have qv14:v14=(1:Int)+v10:=(by rw [← e14,wri (by omega)])
      have qv25:v25=at_.1+v9:=(by rw [← e25,wri (by omega)])
      have ss1:stmtX (l.drop a.toNat) at_=(v26,(v25,at_.2.1,at_.2.2),l.drop v11.toNat):=(by unfold stmtX stmtK;rw [e1,← sv2.1,e5,← sv6.1,e10,← sv11.1];(repeat (first | rw [if_pos (by omega)] | rw [if_neg (by omega)]));simp only [← e26,qv25,qv14,qv9,arcTo]<;>rfl)
      have r0:r=v26:=by
       (first | (rw [← hr,ss1];done) | (rw [← hr2,ss1];done) | (rw [← hp,ss1];dsimp only;rw [sv11.1];exact e11))
      have r1:r2=(v25,at_.2.1,at_.2.2):=by
       (first | (rw [← hr,ss1];done) | (rw [← hr2,ss1];done) | (rw [← hp,ss1];dsimp only;rw [sv11.1];exact e11))
      have r2:p=v11:=by
       (first | (rw [← hr,ss1];done) | (rw [← hr2,ss1];done) | (rw [← hp,ss1];dsimp only;rw [sv11.1];exact e11))
      rw [r0,r1,r2];exact con_b (pan:=false) (hc)
     ·
      intro v25 e25
      refine ai (fun h26=>?_) fun h26=>?_
      ·
       intro v27 e27
       obtain ⟨v28,e28⟩:=LX (lineX (at_.1,v27,at_.2.2) v14)
       refine cx (.o (.g [sI v28.1,sI v28.2.1,sS v28.2.2.1,.ls 3 cE kE v28.2.2.2])) (zT (at_.1,v27,at_.2.2) v14 v28 e28) rfl ?_
       intro hc
       have dh16:=ne_of_beq_false (e15.trans h16)
       have dh18:=ne_of_beq_false (e17.trans h18)
       have dh20:=ne_of_beq_false (e19.trans h20)
       have dh22:=ne_of_beq_false (e21.trans h22)
       have dh24:=ne_of_beq_false (e23.trans h24)
       have dh26:=eq_of_beq (e25.trans h26)
       have qv14:v14=(1:Int)+v10:=(by rw [← e14,wri (by omega)])
       have qv27:v27=at_.2.1+v9:=(by rw [← e27,wri (by omega)])
       have ss1:stmtX (l.drop a.toNat) at_=(v28,(at_.1,v27,at_.2.2),l.drop v11.toNat):=(by unfold stmtX stmtK;rw [e1,← sv2.1,e5,← sv6.1,e10,← sv11.1];(repeat (first | rw [if_pos (by omega)] | rw [if_neg (by omega)]));simp only [← e28,qv27,qv14,qv9,arcTo]<;>rfl)
       have r0:r=v28:=by
        (first | (rw [← hr,ss1];done) | (rw [← hr2,ss1];done) | (rw [← hp,ss1];dsimp only;rw [sv11.1];exact e11))
       have r1:r2=(at_.1,v27,at_.2.2):=by
        (first | (rw [← hr,ss1];done) | (rw [← hr2,ss1];done) | (rw [← hp,ss1];dsimp only;rw [sv11.1];exact e11))
       have r2:p=v11:=by
        (first | (rw [← hr,ss1];done) | (rw [← hr2,ss1];done) | (rw [← hp,ss1];dsimp only;rw [sv11.1];exact e11))
       rw [r0,r1,r2];exact con_b (pan:=false) (hc)
      ·
       intro v27 e27
       refine ai (fun h28=>?_) fun h28=>?_
       ·
        intro v29 e29
        obtain ⟨v30,e30⟩:=LX (lineX (at_.1,v29,at_.2.2) v14)
        refine cx (.o (.g [sI v30.1,sI v30.2.1,sS v30.2.2.1,.ls 3 cE kE v30.2.2.2])) (zT (at_.1,v29,at_.2.2) v14 v30 e30) rfl ?_
        intro hc
        have dh16:=ne_of_beq_false (e15.trans h16)
        have dh18:=ne_of_beq_false (e17.trans h18)
        have dh20:=ne_of_beq_false (e19.trans h20)
        have dh22:=ne_of_beq_false (e21.trans h22)
        have dh24:=ne_of_beq_false (e23.trans h24)
        have dh26:=ne_of_beq_false (e25.trans h26)
        have dh28:=eq_of_beq (e27.trans h28)
        have qv14:v14=(1:Int)+v10:=(by rw [← e14,wri (by omega)])
        have qv29:v29=at_.2.1+v9:=(by rw [← e29,wri (by omega)])
        have ss1:stmtX (l.drop a.toNat) at_=(v30,(at_.1,v29,at_.2.2),l.drop v11.toNat):=(by unfold stmtX stmtK;rw [e1,← sv2.1,e5,← sv6.1,e10,← sv11.1];(repeat (first | rw [if_pos (by omega)] | rw [if_neg (by omega)]));simp only [← e30,qv29,qv14,qv9,arcTo]<;>rfl)
        have r0:r=v30:=by
         (first | (rw [← hr,ss1];done) | (rw [← hr2,ss1];done) | (rw [← hp,ss1];dsimp only;rw [sv11.1];exact e11))
        have r1:r2=(at_.1,v29,at_.2.2):=by
         (first | (rw [← hr,ss1];done) | (rw [← hr2,ss1];done) | (rw [← hp,ss1];dsimp only;rw [sv11.1];exact e11))
        have r2:p=v11:=by
         (first | (rw [← hr,ss1];done) | (rw [← hr2,ss1];done) | (rw [← hp,ss1];dsimp only;rw [sv11.1];exact e11))
        rw [r0,r1,r2];exact con_b (pan:=false) (hc)
       ·
        intro v29 e29
        refine ai (fun h30=>?_) fun h30=>?_
        ·
         intro v31 e31
         obtain ⟨v32,e32⟩:=LX (lineX (at_.1,v31,at_.2.2) v14)
         refine cx (.o (.g [sI v32.1,sI v32.2.1,sS v32.2.2.1,.ls 3 cE kE v32.2.2.2])) (zT (at_.1,v31,at_.2.2) v14 v32 e32) rfl ?_
         intro hc
         have dh16:=ne_of_beq_false (e15.trans h16)
         have dh18:=ne_of_beq_false (e17.trans h18)
         have dh20:=ne_of_beq_false (e19.trans h20)
         have dh22:=ne_of_beq_false (e21.trans h22)
         have dh24:=ne_of_beq_false (e23.trans h24)
         have dh26:=ne_of_beq_false (e25.trans h26)
         have dh28:=ne_of_beq_false (e27.trans h28)
         have dh30:=eq_of_beq (e29.trans h30)
         have qv14:v14=(1:Int)+v10:=(by rw [← e14,wri (by omega)])
         have qv31:v31=at_.2.1+v9:=(by rw [← e31,wri (by omega)])
         have ss1:stmtX (l.drop a.toNat) at_=(v32,(at_.1,v31,at_.2.2),l.drop v11.toNat):=(by unfold stmtX stmtK;rw [e1,← sv2.1,e5,← sv6.1,e10,← sv11.1];(repeat (first | rw [if_pos (by omega)] | rw [if_neg (by omega)]));simp only [← e32,qv31,qv14,qv9,arcTo]<;>rfl)
         have r0:r=v32:=by
          (first | (rw [← hr,ss1];done) | (rw [← hr2,ss1];done) | (rw [← hp,ss1];dsimp only;rw [sv11.1];exact e11))
         have r1:r2=(at_.1,v31,at_.2.2):=by
          (first | (rw [← hr,ss1];done) | (rw [← hr2,ss1];done) | (rw [← hp,ss1];dsimp only;rw [sv11.1];exact e11))
         have r2:p=v11:=by
          (first | (rw [← hr,ss1];done) | (rw [← hr2,ss1];done) | (rw [← hp,ss1];dsimp only;rw [sv11.1];exact e11))
         rw [r0,r1,r2];exact con_b (pan:=false) (hc)
        ·
         intro v31 e31
         refine ai (fun h32=>?_) fun h32=>?_
         ·
          obtain ⟨v33,e33⟩:=LX ((drawX (l.drop (v11:Int).toNat) (2:Int)).1)
          obtain ⟨v34,e34⟩:=LX (posA l (drawX (l.drop (v11:Int).toNat) (2:Int)).2)
          have dh16:=ne_of_beq_false (e15.trans h16)
          have dh18:=ne_of_beq_false (e17.trans h18)
          have dh20:=ne_of_beq_false (e19.trans h20)
          have dh22:=ne_of_beq_false (e21.trans h22)
          have dh24:=ne_of_beq_false (e23.trans h24)
          have dh26:=ne_of_beq_false (e25.trans h26)
          have dh28:=ne_of_beq_false (e27.trans h28)
          have dh30:=ne_of_beq_false (e29.trans h30)
          have dh32:=eq_of_beq (e31.trans h32)
          have qv14:v14=(1:Int)+v10:=(by rw [← e14,wri (by omega)])
          have rv33:0≤v33∧v33<2:=(e33 ▸ zH (by omega) (by omega))
          have sv34:=zaO ((qf _ _).trans (List.drop_suffix _ _)) e34
          have s35:0≤v11∧v11≤l.length:=by (exact sv11.2)
          have s36:l.length<9223372036854775807:=by exact hl
          refine rx [sI v33,sI v34] [] [] (fun t u w=>⟨b_con (pan:=false) (zaw (2:Int) l v11 v33 v34 e33 e34 s35 s36),trivial⟩) ?_
          intro v37 e37
          obtain ⟨v38,e38⟩:=LX ((drawX (l.drop (v34:Int).toNat) (2:Int)).1)
          obtain ⟨v39,e39⟩:=LX (posA l (drawX (l.drop (v34:Int).toNat) (2:Int)).2)
          have qv37:v37=(1:Int)+v33:=(by rw [← e37,wri (by omega)])
          have rv38:0≤v38∧v38<2:=(e38 ▸ zH (by omega) (by omega))
          have sv39:=zaO ((qf _ _).trans (List.drop_suffix _ _)) e39
          have s40:0≤v34∧v34≤l.length:=by (exact sv34.2)
          have s41:l.length<9223372036854775807:=by exact hl
          refine rx [sI v38,sI v39] [] [] (fun t u w=>⟨b_con (pan:=false) (zaw (2:Int) l v34 v38 v39 e38 e39 s40 s41),trivial⟩) ?_
          intro v42 e42
          obtain ⟨v43,e43⟩:=LX (sideX v37 v42)
          refine cx (.o (.g [sI v43.1,sI v43.2.1,sS v43.2.2.1,.ls 3 cE kE v43.2.2.2])) (zdB v37 v42 v43 e43) rfl ?_
          intro hc
          have qv42:v42=(1:Int)+v38:=(by rw [← e42,wri (by omega)])
          have ss1:stmtX (l.drop a.toNat) at_=(v43,at_,l.drop v39.toNat):=(by unfold stmtX stmtK;rw [e1,← sv2.1,e5,← sv6.1,e10,← sv11.1];(repeat (first | rw [if_pos (by omega)] | rw [if_neg (by omega)]));simp only [e33,← sv34.1,e38,← sv39.1,← e43,qv42,qv37,qv14,qv9,arcTo]<;>rfl)
          have r0:r=v43:=by
           (first | (rw [← hr,ss1];done) | (rw [← hr2,ss1];done) | (rw [← hp,ss1];dsimp only;rw [sv39.1];exact e39))
          have r1:r2=at_:=by
           (first | (rw [← hr,ss1];done) | (rw [← hr2,ss1];done) | (rw [← hp,ss1];dsimp only;rw [sv39.1];exact e39))
          have r2:p=v39:=by
           (first | (rw [← hr,ss1];done) | (rw [← hr2,ss1];done) | (rw [← hp,ss1];dsimp only;rw [sv39.1];exact e39))
          rw [r0,r1,r2];exact con_b (pan:=false) (hc)
         ·
          intro v33 e33
          refine ai (fun h34=>?_) fun h34=>?_
          ·
           obtain ⟨v35,e35⟩:=LX (sideX (0:Int) (0:Int))
           refine cx (.o (.g [sI v35.1,sI v35.2.1,sS v35.2.2.1,.ls 3 cE kE v35.2.2.2])) (zdB (0:Int) (0:Int) v35 e35) rfl ?_
           intro hc
           have dh16:=ne_of_beq_false (e15.trans h16)
           have dh18:=ne_of_beq_false (e17.trans h18)
           have dh20:=ne_of_beq_false (e19.trans h20)
           have dh22:=ne_of_beq_false (e21.trans h22)
           have dh24:=ne_of_beq_false (e23.trans h24)
           have dh26:=ne_of_beq_false (e25.trans h26)
           have dh28:=ne_of_beq_false (e27.trans h28)
           have dh30:=ne_of_beq_false (e29.trans h30)
           have dh32:=ne_of_beq_false (e31.trans h32)
           have dh34:=eq_of_beq (e33.trans h34)
           have qv14:v14=(1:Int)+v10:=(by rw [← e14,wri (by omega)])
           have ss1:stmtX (l.drop a.toNat) at_=(v35,at_,l.drop v11.toNat):=(by unfold stmtX stmtK;rw [e1,← sv2.1,e5,← sv6.1,e10,← sv11.1];(repeat (first | rw [if_pos (by omega)] | rw [if_neg (by omega)]));simp only [← e35,qv14,qv9,arcTo]<;>rfl)
           have r0:r=v35:=by
            (first | (rw [← hr,ss1];done) | (rw [← hr2,ss1];done) | (rw [← hp,ss1];dsimp only;rw [sv11.1];exact e11))
           have r1:r2=at_:=by
            (first | (rw [← hr,ss1];done) | (rw [← hr2,ss1];done) | (rw [← hp,ss1];dsimp only;rw [sv11.1];exact e11))
           have r2:p=v11:=by
            (first | (rw [← hr,ss1];done) | (rw [← hr2,ss1];done) | (rw [← hp,ss1];dsimp only;rw [sv11.1];exact e11))
           rw [r0,r1,r2];exact con_b (pan:=false) (hc)
          ·
           intro v35 e35
           refine ai (fun h36=>?_) fun h36=>?_
           ·
            obtain ⟨v37,e37⟩:=LX ((drawX (l.drop (v11:Int).toNat) (2:Int)).1)
            obtain ⟨v38,e38⟩:=LX (posA l (drawX (l.drop (v11:Int).toNat) (2:Int)).2)
            have dh16:=ne_of_beq_false (e15.trans h16)
            have dh18:=ne_of_beq_false (e17.trans h18)
            have dh20:=ne_of_beq_false (e19.trans h20)
            have dh22:=ne_of_beq_false (e21.trans h22)
            have dh24:=ne_of_beq_false (e23.trans h24)
            have dh26:=ne_of_beq_false (e25.trans h26)
            have dh28:=ne_of_beq_false (e27.trans h28)
            have dh30:=ne_of_beq_false (e29.trans h30)
            have dh32:=ne_of_beq_false (e31.trans h32)
            have dh34:=ne_of_beq_false (e33.trans h34)
            have dh36:=eq_of_beq (e35.trans h36)
            have qv14:v14=(1:Int)+v10:=(by rw [← e14,wri (by omega)])
            have rv37:0≤v37∧v37<2:=(e37 ▸ zH (by omega) (by omega))
            have sv38:=zaO ((qf _ _).trans (List.drop_suffix _ _)) e38
            have s39:0≤v11∧v11≤l.length:=by (exact sv11.2)
            have s40:l.length<9223372036854775807:=by exact hl
            refine rx [sI v37,sI v38] [] [] (fun t u w=>⟨b_con (pan:=false) (zaw (2:Int) l v11 v37 v38 e37 e38 s39 s40),trivial⟩) ?_
            intro v41 e41 v42 e42
            obtain ⟨v43,e43⟩:=LX (addV at_ (v42,(0:Int),(0:Int)))
            refine cx (.o (.g [sI v43.1,sI v43.2.1,sI v43.2.2])) (zpM at_ (v42,(0:Int),(0:Int)) v43 e43) rfl ?_
            intro v44 e44
            obtain ⟨v45,e45⟩:=LX (addV v43 ((0:Int),v44,(0:Int)))
            refine cx (.o (.g [sI v45.1,sI v45.2.1,sI v45.2.2])) (zpM v43 ((0:Int),v44,(0:Int)) v45 e45) rfl ?_
            obtain ⟨v46,e46⟩:=LX (qe v43)
            refine cx (.o (.c (.q (pLf cE v46)))) (zfd v43 v46 e46) rfl ?_
            obtain ⟨v47,e47⟩:=LX (qe v45)
            refine cx (.o (.c (.ls 3 cE kE v47))) (zhY v45 v47 e47) rfl ?_
            obtain ⟨v48,e48⟩:=LX (v46++v47)
            have s49:v46≠[]:=by (rw [← e46];simp [qe])
            have s50:v47≠[]:=by (rw [← e47];simp [qe])
            have s51:(v46.length+v47.length)*3≤1099511627776:=by (simp only [← e47,← e46];simp [qe])
            refine rx [] [pG cE v48] [] (fun t u w=>⟨e_apF (zs:=(zah Tryz.prog 60).getD []) (kb:=(zaD Tryz.prog 60).getD 0) (by kernel_rfl) (by kernel_rfl) (by kernel_rfl) (by kernel_rfl) (by decide) (by decide +kernel) (by kernel_rfl) (by kernel_rfl) (by kernel_rfl) qu (zz rfl) rfl rfl s49 s50 (by rw [e48];rfl) s51,trivial⟩) ?_
            obtain ⟨v52,e52⟩:=LX (numX v14)
            refine cx (.o (.g [sI v52.op,sI v52.n,.ls 3 cE kE v52.l])) (t_num v14 v52 e52) rfl ?_
            obtain ⟨v53,e53⟩:=LX (([v52]:List Xp))
            refine rx [.ls 3 cE kE v53] [] [] (fun t u w=>⟨e_dat (c:=cE) (l:=([v52]:List Xp)) (ps:=(pI v52.op::pI v52.n::pLs cE v52.l::[])) (qs:=(pI v52.op::pI v52.n::pLs cE v52.l::[])) (by rw [e53];rfl) rfl rfl ((flatE _).trans rfl) (pimps (fun _ _ _ h=>h) <| pimps (fun _ _ _ h=>h) <| pimps (fun _ _ _ h=>h) <| ze) rfl,trivial⟩) ?_
            obtain ⟨v54,e54⟩:=LX (v48++v53)
            have s55:(v48.length+v53.length)*3≤1099511627776:=by (simp only [← e53,← e48,← e47,← e46];simp [qe])
            refine rx [] [pG cE v54] [] (fun t u w=>⟨zV (c:=cE) (zz rfl) qu rfl (by rw [e54];rfl) rfl s55,trivial⟩) ?_
            refine rx [.ls 3 cE kE v54] [] [] (fun t u w hF=>zP (c:=cE) (i:=3) (ls:=[.k (.int .i64 3),.k (.int .i64 0),.k (.string ⟨#[]⟩),.gr 20062]) hF rfl (by decide) rfl qu (by decide) (zz rfl) rfl rfl) ?_
            intro hc
            have qv41:v41=(3:Int)*v37:=(by rw [← e41,wri (by omega)])
            have qv42:v42=(2:Int)+v41:=(by rw [← e42,wri (by omega)])
            have ss1:stmtX (l.drop a.toNat) at_=(((3:Int),(0:Int),[],v54),v45,l.drop v38.toNat):=(by unfold stmtX stmtK;rw [e1,← sv2.1,e5,← sv6.1,e10,← sv11.1];(repeat (first | rw [if_pos (by omega)] | rw [if_neg (by omega)]));simp only [e37,← sv38.1,← e54,← e53,← e52,← e48,← e47,← e46,← e45,← e44,← e43,qv42,qv41,qv14,qv9,arcTo]<;>rfl)
            have r0:r=((3:Int),(0:Int),[],v54):=by
             (first | (rw [← hr,ss1];done) | (rw [← hr2,ss1];done) | (rw [← hp,ss1];dsimp only;rw [sv38.1];exact e38))
            have r1:r2=v45:=by
             (first | (rw [← hr,ss1];done) | (rw [← hr2,ss1];done) | (rw [← hp,ss1];dsimp only;rw [sv38.1];exact e38))
            have r2:p=v38:=by
             (first | (rw [← hr,ss1];done) | (rw [← hr2,ss1];done) | (rw [← hp,ss1];dsimp only;rw [sv38.1];exact e38))
            rw [r0,r1,r2];exact con_b (pan:=false) (hc)
           ·
            obtain ⟨v37,e37⟩:=LX (numX v9)
            refine cx (.o (.g [sI v37.op,sI v37.n,.ls 3 cE kE v37.l])) (t_num v9 v37 e37) rfl ?_
            obtain ⟨v38,e38⟩:=LX (([v37,(Xp.mk (2:Int) (0:Int) [])]:List Xp))
            refine rx [.ls 3 cE kE v38] [] [] (fun t u w=>⟨e_dat (c:=cE) (l:=([v37,(Xp.mk (2:Int) (0:Int) [])]:List Xp)) (ps:=(pI v37.op::pI v37.n::pLs cE v37.l::pV (.int .i64 2)::pV (.int .i64 0)::pV (.slice none 0 0)::[])) (qs:=(pI v37.op::pI v37.n::pLs cE v37.l::pI (Xp.mk (2:Int) (0:Int) []).op::pI (Xp.mk (2:Int) (0:Int) []).n::pLs cE ((Xp.mk (2:Int) (0:Int) []).l)::[])) (by rw [e38];rfl) rfl rfl ((flatE _).trans rfl) (pimps (fun _ _ _ h=>h) <| pimps (fun _ _ _ h=>h) <| pimps (fun _ _ _ h=>h) <| pimps (fun _ _ _ h=>h) <| pimps (fun _ _ _ h=>h) <| pimps (nil_X) <| ze) rfl,trivial⟩) ?_
            obtain ⟨v39,e39⟩:=LX (([(Xp.mk (3:Int) (0:Int) v38)]:List Xp))
            refine rx [.ls 3 cE kE v39] [] [] (fun t u w=>⟨e_dat (c:=cE) (l:=([(Xp.mk (3:Int) (0:Int) v38)]:List Xp)) (ps:=(pV (.int .i64 3)::pV (.int .i64 0)::pLs cE v38::[])) (qs:=(pI (Xp.mk (3:Int) (0:Int) v38).op::pI (Xp.mk (3:Int) (0:Int) v38).n::pLs cE ((Xp.mk (3:Int) (0:Int) v38).l)::[])) (by rw [e39];rfl) rfl rfl ((flatE _).trans rfl) (pimps (fun _ _ _ h=>h) <| pimps (fun _ _ _ h=>h) <| pimps (fun _ _ _ h=>h) <| ze) rfl,trivial⟩) ?_
            intro v40 e40
            intro hc
            have dh16:=ne_of_beq_false (e15.trans h16)
            have dh18:=ne_of_beq_false (e17.trans h18)
            have dh20:=ne_of_beq_false (e19.trans h20)
            have dh22:=ne_of_beq_false (e21.trans h22)
            have dh24:=ne_of_beq_false (e23.trans h24)
            have dh26:=ne_of_beq_false (e25.trans h26)
            have dh28:=ne_of_beq_false (e27.trans h28)
            have dh30:=ne_of_beq_false (e29.trans h30)
            have dh32:=ne_of_beq_false (e31.trans h32)
            have dh34:=ne_of_beq_false (e33.trans h34)
            have dh36:=ne_of_beq_false (e35.trans h36)
            have qv14:v14=(1:Int)+v10:=(by rw [← e14,wri (by omega)])
            have qv40:v40=v9+(1:Int):=(by rw [← e40,wri (by omega)])
            have ss1:stmtX (l.drop a.toNat) at_=(((5:Int),(0:Int),[115,105,100,101],v39),(v40,(3:Int),(0:Int)),l.drop v11.toNat):=(by unfold stmtX stmtK;rw [e1,← sv2.1,e5,← sv6.1,e10,← sv11.1];(repeat (first | rw [if_pos (by omega)] | rw [if_neg (by omega)]));simp only [qv40,← e39,← e38,← e37,qv14,qv9,arcTo]<;>rfl)
            have r0:r=((5:Int),(0:Int),[115,105,100,101],v39):=by
             (first | (rw [← hr,ss1];done) | (rw [← hr2,ss1];done) | (rw [← hp,ss1];dsimp only;rw [sv11.1];exact e11))
            have r1:r2=(v40,(3:Int),(0:Int)):=by
             (first | (rw [← hr,ss1];done) | (rw [← hr2,ss1];done) | (rw [← hp,ss1];dsimp only;rw [sv11.1];exact e11))
            have r2:p=v11:=by
             (first | (rw [← hr,ss1];done) | (rw [← hr2,ss1];done) | (rw [← hp,ss1];dsimp only;rw [sv11.1];exact e11))
            rw [r0,r1,r2];exact con_b (pan:=false) (hc)
end Go.Proofs.YteimplkdcjapdaaGreatDoor
set_option synthInstance.maxSize 2000
set_option synthInstance.maxHeartbeats 400000
namespace Go.Proofs.YteimplkdcjapdaaGreatDoor
open Go.RowKit
theorem zoA {w0:World} (at_:Vec) (l:List Int) (a:Int) (r:Stm) (r2:Vec) (p:Int) (hr:(stmtX (l.drop a.toNat) at_).1=r) (hr2:(stmtX (l.drop a.toNat) at_).2.1=r2) (hp:posA l (stmtX (l.drop a.toNat) at_).2.2=p) (ha:0≤a∧a≤l.length) (hl:l.length<9223372036854775807) (h1:-1000000≤at_.1∧at_.1≤1000000) (h2:-1000000≤at_.2.1∧at_.2.1≤1000000):BFun false (KN w0) Tryz.prog 48 [.o (.c (.p 0 0)),.o (.g [.d (pI at_.1),.d (pI at_.2.1),.d (pI at_.2.2)])] [(92,[.d (pLs cI l),.d (pI a)])] (.t [.g [.d (pI r.1),.d (pI r.2.1),.d (pS r.2.2.1),.d (pLs cE r.2.2.2)],.g [.d (pI r2.1),.d (pI r2.2.1),.d (pI r2.2.2)]]) [(92,[.d (pLs cI l),.d (pI p)])]:=zrf l a at_ r r2 p hr hr2 hp ha hl h1 h2
def cLI (x:List Int):List Pred:=[pLs cI x]
theorem zez {w0:World} (x:List Int):FineAll (KN w0) (cLI x):=⟨zx zR,trivial⟩
def kLI (x:List Int):List SV:=[.ls 1 cI kIc x]
instance {w0:World} {x:List Int}:FiL (KN w0) (kLI x):=inferInstanceAs (FiL (KN w0) [_])
instance {w0:World} {xs:List (List Int)}:Fi (KN w0) (.ls 1 cLI kLI xs):=fi_ls (fun _=>rfl) (fun _=>inferInstance) (fun _=>rfl)
instance {w0:World} {xs:List (List Int)}:FiP (KN w0) (pG cLI xs):=⟨qc zez⟩
instance {w0:World} {xs:List Stm}:Fi (KN w0) (.q (pLf cSt xs)):=⟨by rw [SV.fine];exact zkZ z8⟩
def walkP:List (List Int)→Vec→List Stm
 | [],_=>[]
 | x::r,a=>(stmtX x a).1::walkP r (stmtX x a).2.1
def sideP (b:Bool):List Stm:=(2,0,[],[.mk 2 0 [],numX 3,numX 0,numX 7])::if b then [sideX 0 0] else []
def progX (l:List (List Int)):List Sb:=[([109,97,105,110],1,walkP (l.take 9) (0,0,0)),([115,105,100,101],1,sideP (decide ((l.length:Int) > 5)))]
theorem zro {l:List (List Int)} {k:Nat} {x:List Int} {a:Vec} (h:l[k]?=some x):walkP (l.drop k) a=(stmtX x a).1::walkP (l.drop (k+1)) (stmtX x a).2.1:=by
 obtain ⟨h1,rfl⟩:=List.getElem?_eq_some_iff.1 h
 rw [List.drop_eq_getElem_cons h1,walkP]
theorem zri {l:List (List Int)} {k n:Nat} {x:List Int} (h:l[k]?=some x) (hk:k<n):(l.take n)[k]?=some x:=by rw [List.getElem?_take_of_lt hk];exact h
theorem zkk {a b:Vec} {n m:Int} (h:-n≤a.1∧a.1≤n) (h2:-n≤a.2.1∧a.2.1≤n) (k:-m≤b.1∧b.1≤m) (k2:-m≤b.2.1∧b.2.1≤m) (hn:n≤2000000) (hm:m≤2000000):(addV a b).1=a.1+b.1∧(addV a b).2.1=a.2.1+b.2.1:=by
 unfold addV
 exact ⟨wri (by omega),wri (by omega)⟩
theorem zrn {l:List Int} {k:Int} (h:0≤k) (h2:k≤100):-k≤(vecD l k).1.1∧(vecD l k).1.1≤k∧-k≤(vecD l k).1.2.1∧(vecD l k).1.2.1≤k:=by
 unfold vecD
 have a:=zH (l:=l) (m:=2*k+1) (by omega) (by omega)
 have b:=zH (l:=(drawX l (2*k+1)).2) (m:=2*k+1) (by omega) (by omega)
 dsimp only
 omega
theorem zoh {l:List Int} {a:Vec} {n:Int} (h:-n≤a.1∧a.1≤n) (h2:-n≤a.2.1∧a.2.1≤n) (h0:100≤n) (hn:n≤1000000):(-(n+100)≤(stmtX l a).2.1.1∧(stmtX l a).2.1.1≤n+100)∧-(n+100)≤(stmtX l a).2.1.2.1∧(stmtX l a).2.1.2.1≤n+100:=by
 unfold stmtX
 have b1:=zH (l:=(drawX l 12).2) (m:=13) (by omega) (by omega)
 generalize (drawX (drawX (drawX l 12).2 13).2 9).2=r
 generalize (1+(drawX (drawX (drawX l 12).2 13).2 9).1)=f
 generalize (drawX l 12).1=k
 generalize (drawX (drawX l 12).2 13).1=b at *
 have hv:=zrn (l:=r) (k:=8) (by omega) (by omega)
 have hd:=zH (l:=r) (m:=2) (by omega) (by omega)
 have a1:=zkk (a:=a) (b:=(2+3*(drawX r 2).1,0,0)) h h2 (m:=5) (by dsimp only;omega) (by dsimp only;omega) (by omega) (by omega)
 dsimp only at a1
 have a2:=zkk (a:=addV a (2+3*(drawX r 2).1,0,0)) (b:=(0,IntKind.i64.wrap ((addV a (2+3*(drawX r 2).1,0,0)).1 - a.1),0)) (n:=n+5) (m:=5) (by omega) (by omega) (by dsimp only;omega) (by dsimp only;rw [wri (by omega)];omega) (by omega) (by omega)
 dsimp only at a2
 rw [wri (n:=(addV a (2+3*(drawX r 2).1,0,0)).1 - a.1) (by omega)] at a2
 unfold stmtK
 repeat' split
 all_goals dsimp only
 all_goals first
  | omega
  | (unfold arcTo;rw [wri (n:=(addV a (2+3*(drawX r 2).1,0,0)).1 - a.1) (by omega)];omega)
def zhd:List Atom:=[.sl 0 0,.sl 2 (.o (.c (.k (.slice none 0 0)))),.sl 3 (.o (.c (.p 2 0))),.sl 4 (.o (.c (.p 5 0))),.sl 5 1,.bx 2 56 [.k (.string ⟨#[109,97,105,110]⟩),.k (.int .i64 1),.gr 901],.bx 5 26 [.h 2,.h 3,.h 4],.gl 901 62 4 1,.gn 21025]
def mpA_S:LoopS:=⟨4,zhd.map (tnA (jf [0,kI 0,kI 0,kI 0,kI 0]) (kf [0,0]) (kf [])),(.x 0),(drs [4,6] zhd)⟩
def mpA_t:Tr:=.s [(5002,.ln 22 3 0),(5003,.bin .lss 3 1 5)] (.b 6 (.s [(5006,.bin .lss 3 1 (kI 9))] (.b 7 (.s [(5010,.ia 22 24 1 0 1),(5011,.ld 24 0 8),(0,.raw [(1005015,.call ⟨48,[.o (.c (.p 5013 0)),.o (.g [2,3,4])],[.bx 5013 92 [.h 9,.k (.int .i64 0)]],.t [.g [10,11,12,13],.g [14,15,16]],[.bx 5013 92 [.h 9,.h 17]]⟩)] 8),(0,.gh ⟨6,[.bx 2 56 [.k (.string ⟨#[109,97,105,110]⟩),.k (.int .i64 1),.gr 901]],[.bx 2 56 [.k (.string ⟨#[109,97,105,110]⟩),.k (.int .i64 1),.gr 901],.bx 2 56 [.k (.string ⟨#[109,97,105,110]⟩),.k (.int .i64 1),.h 18]],[]⟩ 1),(0,.raw [(1005026,.dat 62 1 [.h 10,.h 11,.h 12,.h 13] 19)] 1),(0,.raw [(1005027,.app 62 4 901 1 2 19 [] false)] 0),(5033,.bin .add 3 1 (kI 1))] (.z (.nx [0,20,14,15,16] [0,2] []))) (.z (.xt (.x 0) [0] [0,1] [])))) (.z (.xt (.x 0) [0] [0,1] [])))
theorem zrR {w0:World} (l:(List (List Int))) (o2:(List Stm)) (hb:∀x∈l,x.length≤100) (hO:walkP (l.take 9) (0,0,0)=o2):LpH (KN w0) Tryz.prog 10 ⟨ntOf Tryz.prog 10,[],[]⟩ mpA_S 0 ⟨1,[.ls 1 cLI kLI l],[pG cSt ([]:List Stm),pG cSt o2],[]⟩:=by
 refine zi _ ⟨zhd,mpA_S,(5,2,0),(1,2,0),5000⟩ (T:=Int×Vec×(List Stm)) (fun t=>⟨5,[sI t.2.1.2.2,sI t.2.1.2.1,sI t.2.1.1,sI t.1,.ls 1 cLI kLI l],[pG cSt ([]:List Stm),pG cSt t.2.2],[]⟩) (fun (i,at_,o)=>∃k:Nat,i=(k:Int)∧k≤9∧k≤l.length∧o.length=k∧(-(100*k+100)≤at_.1∧at_.1≤100*k+100)∧(-(100*k+100)≤at_.2.1∧at_.2.1≤100*k+100)∧o++walkP ((l.take 9).drop k) at_=o2) (fun (i,at_,o)=>(9 - i).toNat) ((0:Int),((0:Int),(0:Int),(0:Int)),([]:List Stm)) [0,kI 0,kI 0,kI 0,kI 0] [0,0] [] mpA_t mixed ⟨0,rfl,by omega,by omega,rfl,by decide,by decide,hO⟩ rfl rfl rfl rfl (fun _=>rfl) rfl rfl (by kernel_rfl) ?_
 rintro ⟨i,at_,o⟩ hJ
 dsimp only at hJ ⊢
 obtain ⟨k,hi,hk,hl,ho,h1,h2,hs⟩:=hJ
 intro v501 e501 v502 e502
 refine ai (fun h503=>?_) fun h503=>?_
 ·
  intro v504 e504
  refine ai (fun h505=>?_) fun h505=>?_
  ·
   have dh503:=LD e502 h503
   have dh505:=LD e504 h505
   have hzv501:=e501
   refine ai (by (exact ⟨k,_,hi,List.getElem?_eq_getElem (by omega)⟩)) fun n506 x507 s508 s509=>?_
   obtain ⟨v510,e510⟩:=LX ((stmtX (x507.drop ((0:Int):Int).toNat) at_).1)
   obtain ⟨v511,e511⟩:=LX ((stmtX (x507.drop ((0:Int):Int).toNat) at_).2.1)
   obtain ⟨v512,e512⟩:=LX (posA x507 (stmtX (x507.drop ((0:Int):Int).toNat) at_).2.2)
   have s513:0≤(0:Int)∧(0:Int)≤x507.length:=by omega
   have s514:x507.length<9223372036854775807:=by (have hq:=hb _ (List.mem_of_getElem? s509);omega)
   have s515:-1000000≤at_.1∧at_.1≤1000000:=by omega
   have s516:-1000000≤at_.2.1∧at_.2.1≤1000000:=by omega
   refine rx [sI v510.1,sI v510.2.1,sS v510.2.2.1,.ls 3 cE kE v510.2.2.2,sI v511.1,sI v511.2.1,sI v511.2.2,sI v512] [] [] (fun t u w=>⟨b_con (pan:=false) (zoA at_ x507 (0:Int) v510 v511 v512 e510 e511 e512 s513 s514 s515 s516),trivial⟩) ?_
   refine rx [.q (pCkR (KN w0))] [] [] (fun t u w _=>qr (i:=2) (ls:=[.k (.string ⟨#[109,97,105,110]⟩),.k (.int .i64 1),.gr 901]) rfl) ?_
   obtain ⟨v517,e517⟩:=LX (([v510]:List Stm))
   refine rx [.ls 4 cSt kSt v517] [] [] (fun t u w=>⟨e_dat (c:=cSt) (l:=([v510]:List Stm)) (ps:=(pI v510.1::pI v510.2.1::pS v510.2.2.1::pLs cE v510.2.2.2::[])) (qs:=(pI v510.1::pI v510.2.1::pS v510.2.2.1::pLs cE v510.2.2.2::[])) (by rw [e517];rfl) rfl rfl rfl (pimps (fun _ _ _ h=>h) <| pimps (fun _ _ _ h=>h) <| pimps (fun _ _ _ h=>h) <| pimps (fun _ _ _ h=>h) <| ze) rfl,trivial⟩) ?_
   obtain ⟨v518,e518⟩:=LX (o++v517)
   have s519:(o.length+v517.length)*4≤1099511627776:=by (rw [← e517];simp only [List.length_singleton];omega)
   refine rx [] [pG cSt v518] [] (fun t u w=>⟨zV (c:=cSt) z8 (fun _=>rfl) rfl (by rw [e518];rfl) rfl s519,trivial⟩) ?_
   intro v520 e520
   refine nxl (v520,v511,v518) ?_ ?_ rfl
   any_goals dsimp only
   all_goals (have hkn:n506=k:=(by omega);subst hkn;rw [zro (zri s509 (by omega)),show (stmtX x507 at_).1=v510 from e510,show (stmtX x507 at_).2.1=v511 from e511] at hs;have hB:=zoh (l:=x507) (a:=at_) (n:=100*(n506:Int)+100) h1 h2 (by omega) (by omega);rw [show (stmtX x507 at_).2.1=v511 from e511] at hB;have x3:v520=((n506+1:Nat):Int):=(by rw [← e520,hi,wri (by omega)];omega))
   ·show (9 - v520).toNat<(9 - i).toNat
    omega
   ·exact ⟨n506+1,x3,by omega,by have:=(List.getElem?_eq_some_iff.1 s509).1;omega,by rw [← e518,← e517,List.length_append,ho];rfl,by omega,by omega,by rw [← e518,← e517,List.append_assoc];exact hs⟩
  ·
   have dh503:=LD e502 h503
   have dh505:=LE e504 h505
   have hzv501:=e501
   have hq:((o)=o2)∧True:=by
    refine ⟨?_,trivial⟩
    all_goals (rw [List.drop_of_length_le (by rw [List.length_take];omega),walkP,List.append_nil] at hs;exact hs)
   obtain ⟨q0,-⟩:=hq
   rw [← q0]
   rfl
 ·
  have dh503:=LE e502 h503
  have hzv501:=e501
  have hq:((o)=o2)∧True:=by
   refine ⟨?_,trivial⟩
   all_goals (rw [List.drop_of_length_le (by rw [List.length_take];omega),walkP,List.append_nil] at hs;exact hs)
  obtain ⟨q0,-⟩:=hq
  rw [← q0]
  rfl
def zot:Tr:=.s [(0,.gh ⟨1,[.bx 2 56 [.k (.string ⟨#[109,97,105,110]⟩),.k (.int .i64 1),.k (.slice none 0 0)],.gn 901],[.bx 2 56 [.k (.string ⟨#[109,97,105,110]⟩),.k (.int .i64 1),.gr 901],.gl 901 62 4 0],[]⟩ 0),(0,.lp mpA_S 0 0),(1009,.call 49 [LF (kI 3)] (.o (.g 3))),(1010,.call 49 [LF (kI 0)] (.o (.g 3))),(1011,.call 49 [LF (kI 7)] (.o (.g 3))),(0,.raw [(1001012,.dat 60 4 [.k (.int .i64 2),.k (.int .i64 0),.k (.slice none 0 0),.h 1,.h 2,.h 3,.h 4,.h 5,.h 6,.h 7,.h 8,.h 9] 10)] 1),(0,.raw [(1001014,.dat 62 1 [.k (.int .i64 2),.k (.int .i64 0),.k (.string ⟨#[]⟩),.h 10] 11)] 1),(0,.gh ⟨9,[.gl 901 62 4 1,.bx 2 56 [.k (.string ⟨#[109,97,105,110]⟩),.k (.int .i64 1),.gr 901]],[.bx 2 56 [.k (.string ⟨#[109,97,105,110]⟩),.k (.int .i64 1),.h 12]],[901]⟩ 1),(1019,.ln 22 3 0),(1020,.bin .gtr 3 13 (kI 5))] (.b 14 (.s [(1023,.call 44 [LF (kI 0),LF (kI 0)] (.o (.g 4))),(0,.raw [(1001024,.dat 62 1 [.h 15,.h 16,.h 17,.h 18] 19)] 1),(0,.raw [(1001025,.ap 54 [21025] 11 19 (LF (.gr 21025)) [] [.gl 21025 62 4 2])] 0),(0,.gh ⟨11,[.gl 21025 62 4 2,.bx 1016 56 [.k (.string ⟨#[115,105,100,101]⟩),.k (.int .i64 1),.gr 21025]],[.bx 1016 56 [.k (.string ⟨#[115,105,100,101]⟩),.k (.int .i64 1),.h 20]],[21025]⟩ 1),(0,.raw [(1001030,.dat 56 2 [.k (.string ⟨#[109,97,105,110]⟩),.k (.int .i64 1),.h 12,.k (.string ⟨#[115,105,100,101]⟩),.k (.int .i64 1),.h 20] 21)] 1)] (.z (.ret false (21) []))) (.s [(0,.raw [(1001023,.dat 56 2 [.k (.string ⟨#[109,97,105,110]⟩),.k (.int .i64 1),.h 12,.k (.string ⟨#[115,105,100,101]⟩),.k (.int .i64 1),.h 11] 15)] 1)] (.z (.ret false (15) []))))
theorem zsu {w0:World} (l:List (List Int)) (r:List Sb) (hr:progX l=r) (hb:∀x∈l,x.length≤100):Fun (KN w0) Tryz.prog 10 [.o (.c (pLs cLI l))] (.o (.c (pLs cSb r))):=by
 refine tfn w0 10 ⟨[0],[],[21025,901],0,0⟩ ⟨1,[.ls 1 cLI kLI l],[],[]⟩ zot (by kernel_rfl) ?_
 refine rx [] [pG cSt ([]:List Stm)] [] (fun t u w _=>zG (c:=cSt) (i:=2) (ls:=[.k (.string ⟨#[109,97,105,110]⟩),.k (.int .i64 1),.k (.slice none 0 0)]) rfl rfl) ?_
 obtain ⟨o2,hO_mpA⟩:∃(o2:(List Stm)),walkP (l.take 9) (0,0,0)=o2:=⟨_,rfl⟩
 refine rx [] [pG cSt o2] [] (zrR l  o2 hb hO_mpA) ?_
 obtain ⟨v1,e1⟩:=LX (numX (3:Int))
 refine cx (.o (.g [sI v1.op,sI v1.n,.ls 3 cE kE v1.l])) (t_num (3:Int) v1 e1) rfl ?_
 obtain ⟨v2,e2⟩:=LX (numX (0:Int))
 refine cx (.o (.g [sI v2.op,sI v2.n,.ls 3 cE kE v2.l])) (t_num (0:Int) v2 e2) rfl ?_
 obtain ⟨v3,e3⟩:=LX (numX (7:Int))
 refine cx (.o (.g [sI v3.op,sI v3.n,.ls 3 cE kE v3.l])) (t_num (7:Int) v3 e3) rfl ?_
 obtain ⟨v4,e4⟩:=LX (([(Xp.mk (2:Int) (0:Int) []),v1,v2,v3]:List Xp))
 refine rx [.ls 3 cE kE v4] [] [] (fun t u w=>⟨e_dat (c:=cE) (l:=([(Xp.mk (2:Int) (0:Int) []),v1,v2,v3]:List Xp)) (ps:=(pV (.int .i64 2)::pV (.int .i64 0)::pV (.slice none 0 0)::pI v1.op::pI v1.n::pLs cE v1.l::pI v2.op::pI v2.n::pLs cE v2.l::pI v3.op::pI v3.n::pLs cE v3.l::[])) (qs:=(pI (Xp.mk (2:Int) (0:Int) []).op::pI (Xp.mk (2:Int) (0:Int) []).n::pLs cE ((Xp.mk (2:Int) (0:Int) []).l)::pI v1.op::pI v1.n::pLs cE v1.l::pI v2.op::pI v2.n::pLs cE v2.l::pI v3.op::pI v3.n::pLs cE v3.l::[])) (by rw [e4];rfl) rfl rfl ((flatE _).trans rfl) (pimps (fun _ _ _ h=>h) <| pimps (fun _ _ _ h=>h) <| pimps (nil_X) <| pimps (fun _ _ _ h=>h) <| pimps (fun _ _ _ h=>h) <| pimps (fun _ _ _ h=>h) <| pimps (fun _ _ _ h=>h) <| pimps (fun _ _ _ h=>h) <| pimps (fun _ _ _ h=>h) <| pimps (fun _ _ _ h=>h) <| pimps (fun _ _ _ h=>h) <| pimps (fun _ _ _ h=>h) <| ze) rfl,trivial⟩) ?_
 obtain ⟨v5,e5⟩:=LX (([((2:Int),(0:Int),[],v4)]:List Stm))
 refine rx [.q (pLf cSt v5)] [] [] (fun t u w=>⟨zo7 (c:=cSt) (l:=([((2:Int),(0:Int),[],v4)]:List Stm)) (ps:=(pV (.int .i64 2)::pV (.int .i64 0)::pV (.string ⟨#[]⟩)::pLs cE v4::[])) (qs:=(pI ((2:Int),(0:Int),[],v4).1::pI ((2:Int),(0:Int),[],v4).2.1::pS ((2:Int),(0:Int),[],v4).2.2.1::pLs cE (((2:Int),(0:Int),[],v4).2.2.2)::[])) (by rw [e5];rfl) rfl rfl rfl (pimps (fun _ _ _ h=>h) <| pimps (fun _ _ _ h=>h) <| pimps (fun _ _ _ h=>h) <| pimps (fun _ _ _ h=>h) <| ze) rfl,trivial⟩) ?_
 refine rx [.ls 4 cSt kSt o2] [] [] (fun t u w hF=>zP (c:=cSt) (i:=2) (ls:=[.k (.string ⟨#[109,97,105,110]⟩),.k (.int .i64 1),.gr 901]) hF rfl (by decide) rfl (fun _=>rfl) (by decide) z8 rfl rfl) ?_
 intro v6 e6 v7 e7
 refine ai (fun h8=>?_) fun h8=>?_
 ·
  obtain ⟨v9,e9⟩:=LX (sideX (0:Int) (0:Int))
  refine cx (.o (.g [sI v9.1,sI v9.2.1,sS v9.2.2.1,.ls 3 cE kE v9.2.2.2])) (zdB (0:Int) (0:Int) v9 e9) rfl ?_
  obtain ⟨v10,e10⟩:=LX (([v9]:List Stm))
  refine rx [.ls 4 cSt kSt v10] [] [] (fun t u w=>⟨e_dat (c:=cSt) (l:=([v9]:List Stm)) (ps:=(pI v9.1::pI v9.2.1::pS v9.2.2.1::pLs cE v9.2.2.2::[])) (qs:=(pI v9.1::pI v9.2.1::pS v9.2.2.1::pLs cE v9.2.2.2::[])) (by rw [e10];rfl) rfl rfl rfl (pimps (fun _ _ _ h=>h) <| pimps (fun _ _ _ h=>h) <| pimps (fun _ _ _ h=>h) <| pimps (fun _ _ _ h=>h) <| ze) rfl,trivial⟩) ?_
  obtain ⟨v11,e11⟩:=LX (v5++v10)
  have s12:v5≠[]:=by (rw [← e5];simp)
  have s13:v10≠[]:=by (rw [← e10];simp)
  have s14:(v5.length+v10.length)*4≤1099511627776:=by (rw [← e5,← e10];simp)
  refine rx [] [pG cSt v11] [] (fun t u w=>⟨e_apF (zs:=(zah Tryz.prog 62).getD []) (kb:=(zaD Tryz.prog 62).getD 0) (by kernel_rfl) (by kernel_rfl) (by kernel_rfl) (by kernel_rfl) (by decide) (by decide +kernel) (by kernel_rfl) (by kernel_rfl) (by kernel_rfl) (fun _=>rfl) z8 rfl rfl s12 s13 (by rw [e11];rfl) s14,trivial⟩) ?_
  refine rx [.ls 4 cSt kSt v11] [] [] (fun t u w hF=>zP (c:=cSt) (i:=2) (ls:=[.k (.string ⟨#[115,105,100,101]⟩),.k (.int .i64 1),.gr 21025]) hF rfl (by decide) rfl (fun _=>rfl) (by decide) z8 rfl rfl) ?_
  obtain ⟨v15,e15⟩:=LX (([([109,97,105,110],(1:Int),o2),([115,105,100,101],(1:Int),v11)]:List Sb))
  refine rx [.ls 3 cSb kSb v15] [] [] (fun t u w=>⟨e_dat (c:=cSb) (l:=([([109,97,105,110],(1:Int),o2),([115,105,100,101],(1:Int),v11)]:List Sb)) (ps:=(pV (.string ⟨#[109,97,105,110]⟩)::pV (.int .i64 1)::pLs cSt o2::pV (.string ⟨#[115,105,100,101]⟩)::pV (.int .i64 1)::pLs cSt v11::[])) (qs:=(pS ([109,97,105,110],(1:Int),o2).1::pI ([109,97,105,110],(1:Int),o2).2.1::pLs cSt (([109,97,105,110],(1:Int),o2).2.2)::pS ([115,105,100,101],(1:Int),v11).1::pI ([115,105,100,101],(1:Int),v11).2.1::pLs cSt (([115,105,100,101],(1:Int),v11).2.2)::[])) (by rw [e15];rfl) rfl rfl rfl (pimps (fun _ _ _ h=>h) <| pimps (fun _ _ _ h=>h) <| pimps (fun _ _ _ h=>h) <| pimps (fun _ _ _ h=>h) <| pimps (fun _ _ _ h=>h) <| pimps (fun _ _ _ h=>h) <| ze) rfl,trivial⟩) ?_
  intro hc
  refine Fun.fin (r:=.o (.c (pLs cSb v15))) (zc (hc)) (fun v W D h=>?_)
  have r0:r=v15:=by
   (rw [← hr];unfold progX sideP;rw [show decide ((l.length:Int) > 5)=true from (by rw [e6];exact e7.trans h8),hO_mpA];simp only [← e15,← e11,← e10,← e9,← e5,← e4,← e3,← e2,← e1]<;>rfl)
  rw [r0];exact h
 ·
  obtain ⟨v9,e9⟩:=LX (([([109,97,105,110],(1:Int),o2),([115,105,100,101],(1:Int),v5)]:List Sb))
  refine rx [.ls 3 cSb kSb v9] [] [] (fun t u w=>⟨e_dat (c:=cSb) (l:=([([109,97,105,110],(1:Int),o2),([115,105,100,101],(1:Int),v5)]:List Sb)) (ps:=(pV (.string ⟨#[109,97,105,110]⟩)::pV (.int .i64 1)::pLs cSt o2::pV (.string ⟨#[115,105,100,101]⟩)::pV (.int .i64 1)::pLf cSt v5::[])) (qs:=(pS ([109,97,105,110],(1:Int),o2).1::pI ([109,97,105,110],(1:Int),o2).2.1::pLs cSt (([109,97,105,110],(1:Int),o2).2.2)::pS ([115,105,100,101],(1:Int),v5).1::pI ([115,105,100,101],(1:Int),v5).2.1::pLs cSt (([115,105,100,101],(1:Int),v5).2.2)::[])) (by rw [e9];rfl) rfl rfl rfl (pimps (fun _ _ _ h=>h) <| pimps (fun _ _ _ h=>h) <| pimps (fun _ _ _ h=>h) <| pimps (fun _ _ _ h=>h) <| pimps (fun _ _ _ h=>h) <| pimps (fun _ _ _ h=>h.1) <| ze) rfl,trivial⟩) ?_
  intro hc
  refine Fun.fin (r:=.o (.c (pLs cSb v9))) (zc (hc)) (fun v W D h=>?_)
  have r0:r=v9:=by
   (rw [← hr];unfold progX sideP;rw [show decide ((l.length:Int) > 5)=false from (by rw [e6];exact e7.trans h8),hO_mpA];simp only [← e9,← e5,← e4,← e3,← e2,← e1]<;>rfl)
  rw [r0];exact h
end Go.Proofs.YteimplkdcjapdaaGreatDoor
namespace Go.Proofs.YteimplkdcjapdaaGreatDoor
open Go.ChangeShapes Go.WideShapes Go.ChangeAt Go.RowKit Go.Joins Go.Deep
section
variable {H:Type} {enc:TypeId×Value→H} {held:Bool} {w:World}
abbrev IntOk (d:DataW H) (n:Int):Prop:=d=.lit (.int .i64 n)∧(Lit.int .i64 n).wf=true
theorem znT:Opens enc held w 22 (fun l:List (List Int)=>[pLs cLI l]) (SlOk (SlOk IntOk)):=zi7 (c:=cLI) Tryz.underlying22 znm (by decide) (fun _=>rfl) zqq
end
end Go.Proofs.YteimplkdcjapdaaGreatDoor
set_option synthInstance.maxSize 2000
set_option synthInstance.maxHeartbeats 400000
namespace Go.Proofs.YteimplkdcjapdaaGreatDoor
open Go.RowKit
def zlq (l:List (List Int)) (m:Int):List (List Int):=(l.take m.toNat).map (·.take 12)
theorem znC {l:List (List Int)} {k n:Nat} {x:List Int} (h:l[k]?=some x) (hk:k<n):((l.take n).map (·.take 12)).drop k=x.take 12::((l.take n).map (·.take 12)).drop (k+1):=by
 have h2:((l.take n).map (·.take 12))[k]?=some (x.take 12):=by rw [List.getElem?_map,List.getElem?_take_of_lt hk,h];rfl
 obtain ⟨h1,e⟩:=List.getElem?_eq_some_iff.1 h2
 rw [List.drop_eq_getElem_cons h1,e]
mutual
def withX (args:List Int):Xp→Xp
 | .mk op n l=>if op=2∧0≤n∧n<args.length then .mk 1 (args.getD n.toNat 0) [] else .mk op n (withL args l)
def withL (args:List Int):List Xp→List Xp
 | []=>[]
 | e::r=>withX args e::withL args r
end
theorem zcR {args:List Int} {e:Xp} (h:¬ (e.op=2∧0≤e.n∧e.n<args.length)):withX args e=.mk e.op e.n (withL args e.l):=by cases e;rw [withX];exact if_neg h
theorem zgB {args:List Int} {e:Xp} (h:e.op=2∧0≤e.n∧e.n<args.length):withX args e=.mk 1 (args.getD e.n.toNat 0) []:=by cases e;rw [withX];exact if_pos h
theorem za7 {l:List Xp} {k:Nat} {x:Xp} (h:l[k]?=some x) (args:List Int):withL args (l.drop k)=withX args x::withL args (l.drop (k+1)):=by
 obtain ⟨hlt,rfl⟩:=List.getElem?_eq_some_iff.1 h
 rw [List.drop_eq_getElem_cons hlt,withL]
def zha:List Atom:=[.sl 0 0,.sl 1 1,.sl 4 (.o (.c (.k (.slice none 0 0)))),.sl 5 (.o (.c (.gr 901))),.sl 6 2,.gl 901 24 1 1]
def lsA_S:LoopS:=⟨3,zha.map (tnA (jf [0,1,kI 0]) (kf [0,0]) (kf [])),(.x 0),(drs [4] zha)⟩
def lsA_t:Tr:=.s [(5002,.ln 22 3 0),(5003,.bin .lss 3 2 3)] (.b 4 (.s [(5007,.bin .lss 3 2 1)] (.b 5 (.s [(5012,.ia 22 24 1 0 2),(5013,.ld 24 0 6),(5016,.ia 22 24 1 0 2),(5017,.ld 24 0 8),(5018,.ln 24 3 9),(0,.raw [(1005019,.op (.min [3,3] 3) [10,LF (.k (.int .i64 12))] [] 11)] 1),(0,.raw [(1005020,.op (.sc 24 false true false) [7,11] [] 12)] 1),(0,.raw [(1005022,.app 24 1 901 1 2 (.o (.c (.s 5021 0 1 1))) [.bx 5021 24 [.h 12]] false)] 0),(5025,.bin .add 3 2 (kI 1))] (.z (.nx [0,1,13] [0,2] []))) (.z (.xt (.x 0) [0,1] [0,1] [])))) (.z (.xt (.x 0) [0,1] [0,1] [])))
theorem zrO {w0:World} (l:(List (List Int))) (m:Int) (o2:(List (List Int))) (hm:0≤m∧m≤100) (hO:(l.take m.toNat).map (·.take 12)=o2):LpH (KN w0) Tryz.prog 11 ⟨ntOf Tryz.prog 11,[],[]⟩ lsA_S 0 ⟨2,[sI m,.ls 1 cLI kLI l],[pG cLI ([]:List (List Int)),pG cLI o2],[]⟩:=by
 refine zi _ ⟨zha,lsA_S,(3,2,0),(2,2,0),5000⟩ (T:=Int×(List (List Int))) (fun t=>⟨3,[sI t.1,sI m,.ls 1 cLI kLI l],[pG cLI ([]:List (List Int)),pG cLI t.2],[]⟩) (fun (i,o)=>∃k:Nat,i=(k:Int)∧k≤l.length∧(k:Int)≤m∧o.length=k∧o++((l.take m.toNat).map (·.take 12)).drop k=o2) (fun (i,o)=>(m - i).toNat) ((0:Int),([]:List (List Int))) [0,1,kI 0] [0,0] [] lsA_t mixed ⟨0,rfl,by omega,by omega,rfl,hO⟩ rfl rfl rfl rfl (fun _=>rfl) rfl rfl (by kernel_rfl) ?_
 rintro ⟨i,o⟩ hJ
 dsimp only at hJ ⊢
 obtain ⟨k,hi,hk,hkm,ho,hs⟩:=hJ
 intro v501 e501 v502 e502
 refine ai (fun h503=>?_) fun h503=>?_
 ·
  intro v504 e504
  refine ai (fun h505=>?_) fun h505=>?_
  ·
   have dh503:=LD e502 h503
   have dh505:=LD e504 h505
   have hzv501:=e501
   refine ai (by (exact ⟨k,_,hi,List.getElem?_eq_getElem (by omega)⟩)) fun n506 x507 s508 s509=>?_
   refine ai (by (exact ⟨k,_,hi,List.getElem?_eq_getElem (by omega)⟩)) fun n510 x511 s512 s513=>?_
   intro v514 e514
   obtain ⟨v515,e515⟩:=LX ((if (12:Int)<v514 then (12:Int) else v514))
   refine rx [sI v515] [] [] (fun t u w=>⟨e_op2 (za rfl) zf (za rfl) (fun W=>by rw [← e515];exact zlW W),trivial⟩) ?_
   obtain ⟨n516,s517⟩:∃(n516:Nat),v515=(n516:Int):=by exact ⟨min 12 x511.length,by rw [← e515,← e514];split<;>omega⟩
   obtain ⟨v518,e518⟩:=LX (x507.take n516)
   have s519:n516≤x507.length:=by (have hxx:x511=x507:=(by have a1:=s509;have a2:=s513;rw [show n510=n506 by omega,a1] at a2;injection a2 with a2;exact a2.symm);have h3:=s517;rw [← e515,← e514,hxx] at h3;split at h3<;>omega)
   refine rx [.ls 1 cI kIc v518] [] [] (fun t u w=>⟨zak (E:=3) (z:=1) (fun _=>rfl) (by kernel_rfl) (by kernel_rfl) (zm rfl) (za rfl) s517 s519 (zm (by rw [e518];rfl)),trivial⟩) ?_
   obtain ⟨v520,e520⟩:=LX (o++[v518])
   have s521:(o.length+1)*1≤1099511627776:=by (omega)
   refine rx [] [pG cLI v520] [] (fun t u w=>⟨zrI (c:=cLI) (x:=v518) zez (fun _=>rfl) (.inr ⟨rfl,rfl⟩) (by rw [e520];rfl) rfl (fun _ _ _ h=>h) rfl s521,trivial⟩) ?_
   intro v522 e522
   refine nxl (v522,v520) ?_ ?_ rfl
   any_goals dsimp only
   all_goals (have hkn:n506=k:=(by omega);subst hkn;have hxx:x511=x507:=(by have a1:=s509;have a2:=s513;rw [show n510=n506 by omega,a1] at a2;injection a2 with a2;exact a2.symm);have ht:x507.take 12=v518:=(by have h3:=s517;rw [← e515,← e514,hxx] at h3;rw [← e518];split at h3<;>first | (rw [show n516=12 by omega]) | (rw [List.take_of_length_le (by omega),List.take_of_length_le (by omega)]));rw [znC s509 (by omega),ht] at hs;have x3:v522=((n506+1:Nat):Int):=(by rw [← e522,hi,wri (by omega)];omega))
   ·show (m - v522).toNat<(m - i).toNat
    omega
   ·exact ⟨n506+1,x3,by have:=(List.getElem?_eq_some_iff.1 s509).1;omega,by omega,by rw [← e520,List.length_append,ho];rfl,by rw [← e520,List.append_assoc];exact hs⟩
  ·
   have dh503:=LD e502 h503
   have dh505:=LE e504 h505
   have hzv501:=e501
   have hq:((o)=o2)∧True:=by
    refine ⟨?_,trivial⟩
    all_goals (rw [List.drop_of_length_le (by rw [List.length_map,List.length_take];omega),List.append_nil] at hs;exact hs)
   obtain ⟨q0,-⟩:=hq
   rw [← q0]
   rfl
 ·
  have dh503:=LE e502 h503
  have hzv501:=e501
  have hq:((o)=o2)∧True:=by
   refine ⟨?_,trivial⟩
   all_goals (rw [List.drop_of_length_le (by rw [List.length_map,List.length_take];omega),List.append_nil] at hs;exact hs)
  obtain ⟨q0,-⟩:=hq
  rw [← q0]
  rfl
def zms:Tr:=.s [(0,.gh ⟨1,[.sl 5 (.o (.c (.k (.slice none 0 0)))),.gn 901],[.sl 5 (.o (.c (.gr 901))),.gl 901 24 1 0],[]⟩ 0),(0,.lp lsA_S 0 0),(0,.gh ⟨6,.gl 901 24 1 1::[4].map (fun s=>.sl s (.o (.c (.gr 901)))),[4].map (fun s=>.sl s 2),[901]⟩ 1)] (.z (.ret false (2) []))
theorem zq4 {w0:World} (l:List (List Int)) (m:Int) (r:List (List Int)) (hr:zlq l m=r) (hm:0≤m∧m≤100):Fun (KN w0) Tryz.prog 11 [.o (.c (pLs cLI l)),.o (.c (pI m))] (.o (.c (pLs cLI r))):=by
 refine tfn w0 11 ⟨[0,1],[],[901],0,0⟩ ⟨2,[sI m,.ls 1 cLI kLI l],[],[]⟩ zms (by kernel_rfl) ?_
 refine rx [] [pG cLI ([]:List (List Int))] [] (fun t u w _=>zbT (c:=cLI) rfl) ?_
 obtain ⟨o2,hO_lsA⟩:∃(o2:(List (List Int))),(l.take m.toNat).map (·.take 12)=o2:=⟨_,rfl⟩
 refine rx [] [pG cLI o2] [] (zrO l m  o2 hm hO_lsA) ?_
 refine rx [.ls 1 cLI kLI o2] [] [] (fun t u w _=>qS (c:=cLI) (fun _=>rfl) (by decide) zez rfl rfl) ?_
 intro hc
 refine Fun.fin (r:=.o (.c (pLs cLI o2))) (zc (hc)) (fun v W D h=>?_)
 have r0:r=o2:=by
  exact hr.symm.trans hO_lsA
 rw [r0];exact h
def zaU (w0:World) (N:Nat):Prop:=∀(x:Xp) (args:List Int) (e:Xp),withX args x=e→nodes x≤N→nodes x≤1000000→Fun (KN w0) Tryz.prog 68 [.o (.g [pI x.op,pI x.n,pLs cE x.l]),.o (.c (pLs cI args))] (.o (.g [pI e.op,pI e.n,pLs cE e.l]))
def zh8:List Atom:=[.sl 1 3,.sl 4 (.o (.c (.p 1 0))),.sl 5 (.o (.c (.p 22 0))),.sl 35 2,.sl 36 8,.sl 37 9,.bx 0 60 [.h 0,.h 1,.h 2],.bx 1 60 [.k (.int .i64 0),.k (.int .i64 0),.k (.slice none 0 0)],.bx 22 60 [.h 0,.h 1,.gr 901],.gl 901 60 3 1]
def wiA_S:LoopS:=⟨5,zh8.map (tnA (jf (hZ 9 [kI 0])) (kf [0,0]) (kf [])),(.x 0),(drs [5] zh8)⟩
def wiA_t:Tr:=.s [(0,.fb 4 true),(0,.fb 5 true),(0,.fb 7 false),(5000,.bin .lss 3 9 8)] (.b 10 (.s [(5001,.ia 58 60 3 2 9),(5002,.ld 60 3 11),(0,.gh ⟨6,[.bx 22 60 [.h 0,.h 1,.gr 901]],[.bx 22 60 [.h 0,.h 1,.gr 901],.bx 22 60 [.h 0,.h 1,.h 15]],[]⟩ 1),(5009,.call 68 [.o (.g [12,13,14]),3] (.o (.g 3))),(0,.raw [(1005010,.dat 60 1 [.h 16,.h 17,.h 18] 19)] 1),(0,.raw [(1005011,.app 60 3 901 1 2 19 [] false)] 0),(5014,.bin .add 3 9 (kI 1))] (.z (.nx (hZ 9 [20]) [0,2] []))) (.z (.xt (.x 0) (hZ 9 []) [0,1] [])))
theorem zsD {w0:World} (e:Xp) (args:(List Int)) (N:Nat) (v1:Bool) (v3:Bool) (v5:Int) (v6:Bool) (v8:Int) {N:Nat} (IH:zaU w0 N) (h2:v1=true) (h4:v3=true) (h7:v6=false) (o2:(List Xp)) (hlen:(e.l.length:Int)=v8) (hN:nodes e≤N+1) (hN2:nodes e≤1000000) (hO:withL args e.l=o2):LpH (KN w0) Tryz.prog 68 ⟨ntOf Tryz.prog 68,[],[]⟩ wiA_S 0 ⟨9,[sI v8,sB v6,sI v5,sB v3,sB v1,.ls 1 cI kIc args,.ls 3 cE kE e.l,sI e.n,sI e.op],[pG cE ([]:List Xp),pG cE o2],[]⟩:=by
 refine zi _ ⟨zh8,wiA_S,(10,2,0),(9,2,0),5000⟩ (T:=Int×(List Xp)) (fun t=>⟨10,[sI t.1,sI v8,sB v6,sI v5,sB v3,sB v1,.ls 1 cI kIc args,.ls 3 cE kE e.l,sI e.n,sI e.op],[pG cE ([]:List Xp),pG cE t.2],[]⟩) (fun (i,o)=>∃k:Nat,i=(k:Int)∧k≤e.l.length∧o++withL args (e.l.drop k)=o2∧o.length=k) (fun (i,o)=>((e.l.length:Int) - i).toNat) ((0:Int),([]:List Xp)) (hZ 9 [kI 0]) [0,0] [] wiA_t mixed ⟨0,rfl,Nat.zero_le _,by rw [List.drop_zero];exact hO,rfl⟩ rfl rfl rfl rfl (fun _=>rfl) rfl rfl (by kernel_rfl) ?_
 rintro ⟨i,o⟩ hJ
 dsimp only at hJ ⊢
 obtain ⟨k,hi,hk,hs,hlo⟩:=hJ
 refine ai h2 ?_
 refine ai h4 ?_
 refine ai h7 ?_
 intro v501 e501
 refine ai (fun h502=>?_) fun h502=>?_
 ·
  have dh502:=LD e501 h502
  refine ai (by (have hz:=hlen;have hlt:k<e.l.length:=(by omega);exact ⟨k,_,hi,List.getElem?_eq_getElem hlt⟩)) fun n503 x504 s505 s506=>?_
  refine rx [.q (pCkR (KN w0))] [] [] (fun t u w _=>qr (i:=2) (ls:=[.h 0,.h 1,.gr 901]) rfl) ?_
  obtain ⟨v507,e507⟩:=LX (withX args x504)
  have s508:nodes x504≤N:=by exact zA hN s506
  have s509:nodes x504≤1000000:=by exact zA (N:=1000000) (by omega) s506
  refine cx (.o (.g [sI v507.op,sI v507.n,.ls 3 cE kE v507.l])) (IH x504 args v507 e507 s508 s509) rfl ?_
  obtain ⟨v510,e510⟩:=LX (([v507]:List Xp))
  refine rx [.ls 3 cE kE v510] [] [] (fun t u w=>⟨e_dat (c:=cE) (l:=([v507]:List Xp)) (ps:=(pI v507.op::pI v507.n::pLs cE v507.l::[])) (qs:=(pI v507.op::pI v507.n::pLs cE v507.l::[])) (by rw [e510];rfl) rfl rfl ((flatE _).trans rfl) (pimps (fun _ _ _ h=>h) <| pimps (fun _ _ _ h=>h) <| pimps (fun _ _ _ h=>h) <| ze) rfl,trivial⟩) ?_
  obtain ⟨v511,e511⟩:=LX (o++v510)
  have s512:(o.length+v510.length)*3≤1099511627776:=by (have hq:=qv e;rw [← e510];simp only [List.length_singleton];omega)
  refine rx [] [pG cE v511] [] (fun t u w=>⟨zV (c:=cE) (zz rfl) qu rfl (by rw [e511];rfl) rfl s512,trivial⟩) ?_
  intro v513 e513
  refine nxl (v513,v511) ?_ ?_ rfl
  any_goals dsimp only
  all_goals (have hz:=hlen;have hkn:n503=k:=(by omega);subst hkn;have hq2:=qv e;rw [za7 s506,e507] at hs;have hlt:n503<e.l.length:=(List.getElem?_eq_some_iff.1 s506).1;have x3:v513=((n503+1:Nat):Int):=(by rw [← e513,hi,wri (by omega)];omega))
  ·show ((e.l.length:Int) - v513).toNat<((e.l.length:Int) - i).toNat
   omega
  ·exact ⟨n503+1,x3,by omega,by rw [← e511,← e510,List.append_assoc];exact hs,by rw [← e511,← e510,List.length_append,hlo];rfl⟩
 ·
  have dh502:=LE e501 h502
  have hq:((o)=o2)∧True:=by
   refine ⟨?_,trivial⟩
   all_goals (have hz:=hlen;have hkl:k=e.l.length:=(by omega);rw [hkl,List.drop_length,withL,List.append_nil] at hs;exact hs)
  obtain ⟨q0,-⟩:=hq
  rw [← q0]
  rfl
def zh9:List Atom:=[.sl 1 3,.sl 4 (.o (.c (.p 1 0))),.sl 5 (.o (.c (.p 22 0))),.sl 35 2,.sl 36 6,.sl 37 7,.bx 0 60 [.h 0,.h 1,.h 2],.bx 1 60 [.k (.int .i64 0),.k (.int .i64 0),.k (.slice none 0 0)],.bx 22 60 [.h 0,.h 1,.gr 901],.gl 901 60 3 1]
def wiB_S:LoopS:=⟨5,zh9.map (tnA (jf (hZ 7 [kI 0])) (kf [0,0]) (kf [])),(.x 0),(drs [5] zh9)⟩
def wiB_t:Tr:=.s [(0,.fb 4 true),(0,.fb 5 false),(5000,.bin .lss 3 7 6)] (.b 8 (.s [(5001,.ia 58 60 3 2 7),(5002,.ld 60 3 9),(0,.gh ⟨6,[.bx 22 60 [.h 0,.h 1,.gr 901]],[.bx 22 60 [.h 0,.h 1,.gr 901],.bx 22 60 [.h 0,.h 1,.h 13]],[]⟩ 1),(5009,.call 68 [.o (.g [10,11,12]),3] (.o (.g 3))),(0,.raw [(1005010,.dat 60 1 [.h 14,.h 15,.h 16] 17)] 1),(0,.raw [(1005011,.app 60 3 901 1 2 17 [] false)] 0),(5014,.bin .add 3 7 (kI 1))] (.z (.nx (hZ 7 [18]) [0,2] []))) (.z (.xt (.x 0) (hZ 7 []) [0,1] [])))
theorem zsE {w0:World} (e:Xp) (args:(List Int)) (N:Nat) (v1:Bool) (v3:Bool) (v5:Int) {N:Nat} (IH:zaU w0 N) (h2:v1=true) (h4:v3=false) (o2:(List Xp)) (hlen:(e.l.length:Int)=v5) (hN:nodes e≤N+1) (hN2:nodes e≤1000000) (hO:withL args e.l=o2):LpH (KN w0) Tryz.prog 68 ⟨ntOf Tryz.prog 68,[],[]⟩ wiB_S 0 ⟨7,[sI v5,sB v3,sB v1,.ls 1 cI kIc args,.ls 3 cE kE e.l,sI e.n,sI e.op],[pG cE ([]:List Xp),pG cE o2],[]⟩:=by
 refine zi _ ⟨zh9,wiB_S,(8,2,0),(7,2,0),5000⟩ (T:=Int×(List Xp)) (fun t=>⟨8,[sI t.1,sI v5,sB v3,sB v1,.ls 1 cI kIc args,.ls 3 cE kE e.l,sI e.n,sI e.op],[pG cE ([]:List Xp),pG cE t.2],[]⟩) (fun (i,o)=>∃k:Nat,i=(k:Int)∧k≤e.l.length∧o++withL args (e.l.drop k)=o2∧o.length=k) (fun (i,o)=>((e.l.length:Int) - i).toNat) ((0:Int),([]:List Xp)) (hZ 7 [kI 0]) [0,0] [] wiB_t mixed ⟨0,rfl,Nat.zero_le _,by rw [List.drop_zero];exact hO,rfl⟩ rfl rfl rfl rfl (fun _=>rfl) rfl rfl (by kernel_rfl) ?_
 rintro ⟨i,o⟩ hJ
 dsimp only at hJ ⊢
 obtain ⟨k,hi,hk,hs,hlo⟩:=hJ
 refine ai h2 ?_
 refine ai h4 ?_
 intro v501 e501
 refine ai (fun h502=>?_) fun h502=>?_
 ·
  have dh502:=LD e501 h502
  refine ai (by (have hz:=hlen;have hlt:k<e.l.length:=(by omega);exact ⟨k,_,hi,List.getElem?_eq_getElem hlt⟩)) fun n503 x504 s505 s506=>?_
  refine rx [.q (pCkR (KN w0))] [] [] (fun t u w _=>qr (i:=2) (ls:=[.h 0,.h 1,.gr 901]) rfl) ?_
  obtain ⟨v507,e507⟩:=LX (withX args x504)
  have s508:nodes x504≤N:=by exact zA hN s506
  have s509:nodes x504≤1000000:=by exact zA (N:=1000000) (by omega) s506
  refine cx (.o (.g [sI v507.op,sI v507.n,.ls 3 cE kE v507.l])) (IH x504 args v507 e507 s508 s509) rfl ?_
  obtain ⟨v510,e510⟩:=LX (([v507]:List Xp))
  refine rx [.ls 3 cE kE v510] [] [] (fun t u w=>⟨e_dat (c:=cE) (l:=([v507]:List Xp)) (ps:=(pI v507.op::pI v507.n::pLs cE v507.l::[])) (qs:=(pI v507.op::pI v507.n::pLs cE v507.l::[])) (by rw [e510];rfl) rfl rfl ((flatE _).trans rfl) (pimps (fun _ _ _ h=>h) <| pimps (fun _ _ _ h=>h) <| pimps (fun _ _ _ h=>h) <| ze) rfl,trivial⟩) ?_
  obtain ⟨v511,e511⟩:=LX (o++v510)
  have s512:(o.length+v510.length)*3≤1099511627776:=by (have hq:=qv e;rw [← e510];simp only [List.length_singleton];omega)
  refine rx [] [pG cE v511] [] (fun t u w=>⟨zV (c:=cE) (zz rfl) qu rfl (by rw [e511];rfl) rfl s512,trivial⟩) ?_
  intro v513 e513
  refine nxl (v513,v511) ?_ ?_ rfl
  any_goals dsimp only
  all_goals (have hz:=hlen;have hkn:n503=k:=(by omega);subst hkn;have hq2:=qv e;rw [za7 s506,e507] at hs;have hlt:n503<e.l.length:=(List.getElem?_eq_some_iff.1 s506).1;have x3:v513=((n503+1:Nat):Int):=(by rw [← e513,hi,wri (by omega)];omega))
  ·show ((e.l.length:Int) - v513).toNat<((e.l.length:Int) - i).toNat
   omega
  ·exact ⟨n503+1,x3,by omega,by rw [← e511,← e510,List.append_assoc];exact hs,by rw [← e511,← e510,List.length_append,hlo];rfl⟩
 ·
  have dh502:=LE e501 h502
  have hq:((o)=o2)∧True:=by
   refine ⟨?_,trivial⟩
   all_goals (have hz:=hlen;have hkl:k=e.l.length:=(by omega);rw [hkl,List.drop_length,withL,List.append_nil] at hs;exact hs)
  obtain ⟨q0,-⟩:=hq
  rw [← q0]
  rfl
def zia:List Atom:=[.sl 1 3,.sl 4 (.o (.c (.p 1 0))),.sl 5 (.o (.c (.p 22 0))),.sl 35 2,.sl 36 5,.sl 37 6,.bx 0 60 [.h 0,.h 1,.h 2],.bx 1 60 [.k (.int .i64 0),.k (.int .i64 0),.k (.slice none 0 0)],.bx 22 60 [.h 0,.h 1,.gr 901],.gl 901 60 3 1]
def wiC_S:LoopS:=⟨5,zia.map (tnA (jf (hZ 6 [kI 0])) (kf [0,0]) (kf [])),(.x 0),(drs [5] zia)⟩
def wiC_t:Tr:=.s [(0,.fb 4 false),(5000,.bin .lss 3 6 5)] (.b 7 (.s [(5001,.ia 58 60 3 2 6),(5002,.ld 60 3 8),(0,.gh ⟨6,[.bx 22 60 [.h 0,.h 1,.gr 901]],[.bx 22 60 [.h 0,.h 1,.gr 901],.bx 22 60 [.h 0,.h 1,.h 12]],[]⟩ 1),(5009,.call 68 [.o (.g [9,10,11]),3] (.o (.g 3))),(0,.raw [(1005010,.dat 60 1 [.h 13,.h 14,.h 15] 16)] 1),(0,.raw [(1005011,.app 60 3 901 1 2 16 [] false)] 0),(5014,.bin .add 3 6 (kI 1))] (.z (.nx (hZ 6 [17]) [0,2] []))) (.z (.xt (.x 0) (hZ 6 []) [0,1] [])))
theorem zsF {w0:World} (e:Xp) (args:(List Int)) (N:Nat) (v1:Bool) (v3:Int) {N:Nat} (IH:zaU w0 N) (h2:v1=false) (o2:(List Xp)) (hlen:(e.l.length:Int)=v3) (hN:nodes e≤N+1) (hN2:nodes e≤1000000) (hO:withL args e.l=o2):LpH (KN w0) Tryz.prog 68 ⟨ntOf Tryz.prog 68,[],[]⟩ wiC_S 0 ⟨6,[sI v3,sB v1,.ls 1 cI kIc args,.ls 3 cE kE e.l,sI e.n,sI e.op],[pG cE ([]:List Xp),pG cE o2],[]⟩:=by
 refine zi _ ⟨zia,wiC_S,(7,2,0),(6,2,0),5000⟩ (T:=Int×(List Xp)) (fun t=>⟨7,[sI t.1,sI v3,sB v1,.ls 1 cI kIc args,.ls 3 cE kE e.l,sI e.n,sI e.op],[pG cE ([]:List Xp),pG cE t.2],[]⟩) (fun (i,o)=>∃k:Nat,i=(k:Int)∧k≤e.l.length∧o++withL args (e.l.drop k)=o2∧o.length=k) (fun (i,o)=>((e.l.length:Int) - i).toNat) ((0:Int),([]:List Xp)) (hZ 6 [kI 0]) [0,0] [] wiC_t mixed ⟨0,rfl,Nat.zero_le _,by rw [List.drop_zero];exact hO,rfl⟩ rfl rfl rfl rfl (fun _=>rfl) rfl rfl (by kernel_rfl) ?_
 rintro ⟨i,o⟩ hJ
 dsimp only at hJ ⊢
 obtain ⟨k,hi,hk,hs,hlo⟩:=hJ
 refine ai h2 ?_
 intro v501 e501
 refine ai (fun h502=>?_) fun h502=>?_
 ·
  have dh502:=LD e501 h502
  refine ai (by (have hz:=hlen;have hlt:k<e.l.length:=(by omega);exact ⟨k,_,hi,List.getElem?_eq_getElem hlt⟩)) fun n503 x504 s505 s506=>?_
  refine rx [.q (pCkR (KN w0))] [] [] (fun t u w _=>qr (i:=2) (ls:=[.h 0,.h 1,.gr 901]) rfl) ?_
  obtain ⟨v507,e507⟩:=LX (withX args x504)
  have s508:nodes x504≤N:=by exact zA hN s506
  have s509:nodes x504≤1000000:=by exact zA (N:=1000000) (by omega) s506
  refine cx (.o (.g [sI v507.op,sI v507.n,.ls 3 cE kE v507.l])) (IH x504 args v507 e507 s508 s509) rfl ?_
  obtain ⟨v510,e510⟩:=LX (([v507]:List Xp))
  refine rx [.ls 3 cE kE v510] [] [] (fun t u w=>⟨e_dat (c:=cE) (l:=([v507]:List Xp)) (ps:=(pI v507.op::pI v507.n::pLs cE v507.l::[])) (qs:=(pI v507.op::pI v507.n::pLs cE v507.l::[])) (by rw [e510];rfl) rfl rfl ((flatE _).trans rfl) (pimps (fun _ _ _ h=>h) <| pimps (fun _ _ _ h=>h) <| pimps (fun _ _ _ h=>h) <| ze) rfl,trivial⟩) ?_
  obtain ⟨v511,e511⟩:=LX (o++v510)
  have s512:(o.length+v510.length)*3≤1099511627776:=by (have hq:=qv e;rw [← e510];simp only [List.length_singleton];omega)
  refine rx [] [pG cE v511] [] (fun t u w=>⟨zV (c:=cE) (zz rfl) qu rfl (by rw [e511];rfl) rfl s512,trivial⟩) ?_
  intro v513 e513
  refine nxl (v513,v511) ?_ ?_ rfl
  any_goals dsimp only
  all_goals (have hz:=hlen;have hkn:n503=k:=(by omega);subst hkn;have hq2:=qv e;rw [za7 s506,e507] at hs;have hlt:n503<e.l.length:=(List.getElem?_eq_some_iff.1 s506).1;have x3:v513=((n503+1:Nat):Int):=(by rw [← e513,hi,wri (by omega)];omega))
  ·show ((e.l.length:Int) - v513).toNat<((e.l.length:Int) - i).toNat
   omega
  ·exact ⟨n503+1,x3,by omega,by rw [← e511,← e510,List.append_assoc];exact hs,by rw [← e511,← e510,List.length_append,hlo];rfl⟩
 ·
  have dh502:=LE e501 h502
  have hq:((o)=o2)∧True:=by
   refine ⟨?_,trivial⟩
   all_goals (have hz:=hlen;have hkl:k=e.l.length:=(by omega);rw [hkl,List.drop_length,withL,List.append_nil] at hs;exact hs)
  obtain ⟨q0,-⟩:=hq
  rw [← q0]
  rfl
def zj7:Tr:=.s [(4,.bin .eql 3 0 (kI 2))] (.b 4 (.s [(8,.bin .geq 3 1 (kI 0))] (.b 5 (.s [(14,.ln 24 3 3),(15,.bin .lss 3 1 6)] (.b 7 (.s [(20,.ia 24 3 1 3 1),(21,.ld 3 0 8),(0,.gh ⟨2,[.bx 1 60 [.k (.int .i64 1),.h 9,.k (.slice none 0 0)]],[.bx 1 60 [.k (.int .i64 1),.h 9,.h 10]],[]⟩ 1)] (.z (.ret false (.o (.g [kI 1,9,10])) []))) (.s [(0,.gh ⟨3,[.bx 22 60 [.h 0,.h 1,.k (.slice none 0 0)],.gn 901],[.bx 22 60 [.h 0,.h 1,.gr 901],.gl 901 60 3 0],[]⟩ 0),(26,.ln 58 3 2),(0,.lp wiA_S 0 0),(0,.gh ⟨9,[.gl 901 60 3 1,.bx 1 60 [.h 0,.h 1,.gr 901]],[.bx 1 60 [.h 0,.h 1,.h 9]],[901]⟩ 1)] (.z (.ret false (.o (.g [0,1,9])) []))))) (.s [(0,.gh ⟨3,[.bx 22 60 [.h 0,.h 1,.k (.slice none 0 0)],.gn 901],[.bx 22 60 [.h 0,.h 1,.gr 901],.gl 901 60 3 0],[]⟩ 0),(26,.ln 58 3 2),(0,.lp wiB_S 0 0),(0,.gh ⟨9,[.gl 901 60 3 1,.bx 1 60 [.h 0,.h 1,.gr 901]],[.bx 1 60 [.h 0,.h 1,.h 7]],[901]⟩ 1)] (.z (.ret false (.o (.g [0,1,7])) []))))) (.s [(0,.gh ⟨3,[.bx 22 60 [.h 0,.h 1,.k (.slice none 0 0)],.gn 901],[.bx 22 60 [.h 0,.h 1,.gr 901],.gl 901 60 3 0],[]⟩ 0),(26,.ln 58 3 2),(0,.lp wiC_S 0 0),(0,.gh ⟨9,[.gl 901 60 3 1,.bx 1 60 [.h 0,.h 1,.gr 901]],[.bx 1 60 [.h 0,.h 1,.h 6]],[901]⟩ 1)] (.z (.ret false (.o (.g [0,1,6])) []))))
theorem zoG {w0:World} {N:Nat} (IH:zaU w0 N) (e:Xp) (args:List Int) (r:Xp) (hr:withX args e=r) (hN:nodes e≤N+1) (hN2:nodes e≤1000000):Fun (KN w0) Tryz.prog 68 [.o (.g [pI e.op,pI e.n,pLs cE e.l]),.o (.c (pLs cI args))] (.o (.g [pI r.op,pI r.n,pLs cE r.l])):=by
 refine tfn w0 68 ⟨[.o (.g [0,1,2]),3],[],[901],0,0⟩ ⟨4,[.ls 1 cI kIc args,.ls 3 cE kE e.l,sI e.n,sI e.op],[],[]⟩ zj7 (by kernel_rfl) ?_
 intro v1 e1
 refine ai (fun h2=>?_) fun h2=>?_
 ·
  intro v3 e3
  refine ai (fun h4=>?_) fun h4=>?_
  ·
   intro v5 e5 v6 e6
   refine ai (fun h7=>?_) fun h7=>?_
   ·
    have dh2:=eq_of_beq (e1.trans h2)
    have dh4:=LD e3 h4
    have dh7:=LD e6 h7
    refine ai (by (have hz:=e5;have hlt:e.n.toNat<args.length:=(by omega);exact ⟨e.n.toNat,_,by omega,List.getElem?_eq_getElem hlt⟩)) fun n8 x9 s10 s11=>?_
    refine rx [.ls 3 cE kE ([]:List Xp)] [] [] (fun t u w _=>zg5 (i:=2) (ls:=[.k (.int .i64 1),.h 9,.k (.slice none 0 0)]) rfl (fun _ _=>.inl ⟨⟨_,_,rfl⟩,rfl,rfl⟩)) ?_
    intro hc
    refine Fun.fin (r:=.o (.g [pV (.int .i64 1),pI x9,pLs cE ([]:List Xp)])) (zc (hc)) (fun v W D h=>?_)
    have r0:r=(Xp.mk (1:Int) x9 ([]:List Xp)):=by
     (have hz:=e5;rw [← hr,zgB ⟨by omega,by omega,by omega⟩,s10,Int.toNat_natCast,List.getD_eq_getElem?_getD,s11];rfl)
    rw [r0];exact h
   ·
    refine rx [] [pG cE ([]:List Xp)] [] (fun t u w _=>zG (c:=cE) (i:=2) (ls:=[.h 0,.h 1,.k (.slice none 0 0)]) rfl rfl) ?_
    intro v8 e8
    obtain ⟨o2,hO_wiA⟩:∃(o2:(List Xp)),withL args e.l=o2:=⟨_,rfl⟩
    refine rx [] [pG cE o2] [] (zsD e args N v1 v3 v5 v6 v8 IH  h2 h4 h7 o2 e8 hN hN2 hO_wiA) ?_
    refine rx [.ls 3 cE kE o2] [] [] (fun t u w hF=>zP (c:=cE) (i:=2) (ls:=[.h 0,.h 1,.gr 901]) hF rfl (by decide) rfl qu (by decide) (zz rfl) rfl rfl) ?_
    intro hc
    have dh2:=eq_of_beq (e1.trans h2)
    have dh4:=LD e3 h4
    have dh7:=LE e6 h7
    refine Fun.fin (r:=.o (.g [pI e.op,pI e.n,pLs cE o2])) (zc (hc)) (fun v W D h=>?_)
    have r0:r=(Xp.mk e.op e.n o2):=by
     (have hz:=e5;rw [← hr,zcR (by omega),hO_wiA])
    rw [r0];exact h
  ·
   refine rx [] [pG cE ([]:List Xp)] [] (fun t u w _=>zG (c:=cE) (i:=2) (ls:=[.h 0,.h 1,.k (.slice none 0 0)]) rfl rfl) ?_
   intro v5 e5
   obtain ⟨o2,hO_wiB⟩:∃(o2:(List Xp)),withL args e.l=o2:=⟨_,rfl⟩
   refine rx [] [pG cE o2] [] (zsE e args N v1 v3 v5 IH  h2 h4 o2 e5 hN hN2 hO_wiB) ?_
   refine rx [.ls 3 cE kE o2] [] [] (fun t u w hF=>zP (c:=cE) (i:=2) (ls:=[.h 0,.h 1,.gr 901]) hF rfl (by decide) rfl qu (by decide) (zz rfl) rfl rfl) ?_
   intro hc
   have dh2:=eq_of_beq (e1.trans h2)
   have dh4:=LE e3 h4
   refine Fun.fin (r:=.o (.g [pI e.op,pI e.n,pLs cE o2])) (zc (hc)) (fun v W D h=>?_)
   have r0:r=(Xp.mk e.op e.n o2):=by
    (rw [← hr,zcR (by omega),hO_wiB])
   rw [r0];exact h
 ·
  refine rx [] [pG cE ([]:List Xp)] [] (fun t u w _=>zG (c:=cE) (i:=2) (ls:=[.h 0,.h 1,.k (.slice none 0 0)]) rfl rfl) ?_
  intro v3 e3
  obtain ⟨o2,hO_wiC⟩:∃(o2:(List Xp)),withL args e.l=o2:=⟨_,rfl⟩
  refine rx [] [pG cE o2] [] (zsF e args N v1 v3 IH  h2 o2 e3 hN hN2 hO_wiC) ?_
  refine rx [.ls 3 cE kE o2] [] [] (fun t u w hF=>zP (c:=cE) (i:=2) (ls:=[.h 0,.h 1,.gr 901]) hF rfl (by decide) rfl qu (by decide) (zz rfl) rfl rfl) ?_
  intro hc
  have dh2:=ne_of_beq_false (e1.trans h2)
  refine Fun.fin (r:=.o (.g [pI e.op,pI e.n,pLs cE o2])) (zc (hc)) (fun v W D h=>?_)
  have r0:r=(Xp.mk e.op e.n o2):=by
   (rw [← hr,zcR (by omega),hO_wiC])
  rw [r0];exact h
theorem zei {w0:World}:∀N:Nat,zaU w0 N
 | 0=>fun x args e _ h _=>by have:=zag x;omega
 | N+1=>fun x args e hv h h2=>zoG (zei N) x args e hv h h2
theorem zsx {w0:World} (x:Xp) (args:List Int) (e:Xp) (he:withX args x=e) (h:nodes x≤1000000):Fun (KN w0) Tryz.prog 68 [.o (.g [pI x.op,pI x.n,pLs cE x.l]),.o (.c (pLs cI args))] (.o (.g [pI e.op,pI e.n,pLs cE e.l])):=zei (nodes x) x args e he (Nat.le_refl _) h
end Go.Proofs.YteimplkdcjapdaaGreatDoor
set_option synthInstance.maxSize 2000
set_option synthInstance.maxHeartbeats 400000
namespace Go.Proofs.YteimplkdcjapdaaGreatDoor
open Go.RowKit
def putS (args:List Int) (s:Stm):Stm:=(s.1,s.2.1,[],withL args s.2.2.2)
def putP (args:List Int) (l:List Stm):List Stm:=(l.filter fun s=>!(s.1 == 5)).map (putS args)
theorem zpu {l:List Stm} {k:Nat} {s:Stm} (args:List Int) (h:l[k]?=some s):putP args (l.drop k)=if s.1=5 then putP args (l.drop (k+1)) else putS args s::putP args (l.drop (k+1)):=by
 obtain ⟨hlt,rfl⟩:=List.getElem?_eq_some_iff.1 h
 unfold putP
 rw [List.drop_eq_getElem_cons hlt,List.filter_cons]
 by_cases h5:l[k].1=5
 ·rw [if_pos h5,if_neg (by simp [h5])]
 ·rw [if_neg h5,if_pos (by simp [h5]),List.map_cons]
def zhw:List Atom:=[.sl 1 1,.sl 4 (.o (.c (.k (.slice none 0 0)))),.sl 5 (.o (.c (.gr 901))),.sl 8 (.o (.c (.p 5013 0))),.sl 11 0,.sl 12 2,.sl 13 3,.sl 26 9,.sl 27 11,.sl 28 12,.bx 5003 62 [.h 6,.h 7,.h 8,.h 9],.bx 5013 62 [.h 6,.h 7,.k (.string ⟨#[]⟩),.gr 902],.gl 901 62 4 1,.gl 902 60 3 3]
def puB_S:LoopS:=⟨8,zhw.map (tnA (jf (hZ 12 [kI 0])) (kf [0,1,2,2]) (kf [])),(.x 2),(drs [9] zhw)⟩
def puB_t:Tr:=.s [(0,.fb 4 true),(0,.fb 10 false),(7000,.bin .lss 3 12 11)] (.b 13 (.s [(7001,.ia 58 60 3 9 12),(7002,.ld 60 3 14),(0,.gh ⟨9,[.bx 5013 62 [.h 6,.h 7,.k (.string ⟨#[]⟩),.gr 902]],[.bx 5013 62 [.h 6,.h 7,.k (.string ⟨#[]⟩),.gr 902],.bx 5013 62 [.h 6,.h 7,.k (.string ⟨#[]⟩),.h 18]],[]⟩ 1),(7009,.call 68 [.o (.g [15,16,17]),1] (.o (.g 3))),(0,.raw [(1007010,.dat 60 1 [.h 19,.h 20,.h 21] 22)] 1),(0,.raw [(1007011,.app 60 3 902 3 4 22 [] false)] 0),(7014,.bin .add 3 12 (kI 1))] (.z (.nx (hZ 12 [23]) [0,1,2,4] []))) (.z (.xt (.x 2) (hZ 12 []) [0,1,2,3] [])))
theorem zse {w0:World} (l:(List Stm)) (args:(List Int)) (v1:Int) (i:Int) (o:(List Stm)) (v501:Bool) (n503:Nat) (x504:Stm) (v507:Bool) (v509:Int) (h502:v501=true) (h508:v507=false) (p2:(List Xp)) (hx:x504.2.2.2.length≤1000∧∀e∈x504.2.2.2,nodes e≤1000000) (hlen2:(x504.2.2.2.length:Int)=v509) (hO2:withL args x504.2.2.2=p2):LpH (KN w0) Tryz.prog 28 ⟨ntOf Tryz.prog 28,[],[]⟩ puB_S 1 ⟨12,[sI v509,sB v507,.ls 3 cE kE x504.2.2.2,sS x504.2.2.1,sI x504.2.1,sI x504.1,.p (kSt x504),sB v501,sI i,sI v1,.ls 1 cI kIc args,.ls 4 cSt kSt l],[pG cSt ([]:List Stm),pG cSt o,pG cE ([]:List Xp),pG cE p2],[]⟩:=by
 refine zi _ ⟨zhw,puB_S,(13,4,0),(12,4,0),7000⟩ (T:=Int×(List Xp)) (fun t=>⟨13,[sI t.1,sI v509,sB v507,.ls 3 cE kE x504.2.2.2,sS x504.2.2.1,sI x504.2.1,sI x504.1,.p (kSt x504),sB v501,sI i,sI v1,.ls 1 cI kIc args,.ls 4 cSt kSt l],[pG cSt ([]:List Stm),pG cSt o,pG cE ([]:List Xp),pG cE t.2],[]⟩) (fun (j,p)=>∃k:Nat,j=(k:Int)∧k≤x504.2.2.2.length∧p.length=k∧p++withL args (x504.2.2.2.drop k)=p2) (fun (j,p)=>((x504.2.2.2.length:Int) - j).toNat) ((0:Int),([]:List Xp)) (hZ 12 [kI 0]) [0,1,2,2] [] puB_t mixed ⟨0,rfl,Nat.zero_le _,rfl,hO2⟩ rfl rfl rfl rfl (fun _=>rfl) rfl rfl (by kernel_rfl) ?_
 rintro ⟨j,p⟩ hJ
 dsimp only at hJ ⊢
 obtain ⟨k,hi,hk,ho,hs⟩:=hJ
 refine ai h502 ?_
 refine ai h508 ?_
 intro v1001 e1001
 refine ai (fun h1002=>?_) fun h1002=>?_
 ·
  have dh1002:=LD e1001 h1002
  refine ai (by (have hz:=hlen2;exact ⟨k,_,hi,List.getElem?_eq_getElem (by omega)⟩)) fun n1003 x1004 s1005 s1006=>?_
  refine rx [.q (pCkR (KN w0))] [] [] (fun t u w _=>qr (i:=3) (ls:=[.h 6,.h 7,.k (.string ⟨#[]⟩),.gr 902]) rfl) ?_
  obtain ⟨v1007,e1007⟩:=LX (withX args x1004)
  have s1008:nodes x1004≤1000000:=by exact hx.2 _ (List.mem_of_getElem? s1006)
  refine cx (.o (.g [sI v1007.op,sI v1007.n,.ls 3 cE kE v1007.l])) (zsx x1004 args v1007 e1007 s1008) rfl ?_
  obtain ⟨v1009,e1009⟩:=LX (([v1007]:List Xp))
  refine rx [.ls 3 cE kE v1009] [] [] (fun t u w=>⟨e_dat (c:=cE) (l:=([v1007]:List Xp)) (ps:=(pI v1007.op::pI v1007.n::pLs cE v1007.l::[])) (qs:=(pI v1007.op::pI v1007.n::pLs cE v1007.l::[])) (by rw [e1009];rfl) rfl rfl ((flatE _).trans rfl) (pimps (fun _ _ _ h=>h) <| pimps (fun _ _ _ h=>h) <| pimps (fun _ _ _ h=>h) <| ze) rfl,trivial⟩) ?_
  obtain ⟨v1010,e1010⟩:=LX (p++v1009)
  have s1011:(p.length+v1009.length)*3≤1099511627776:=by (have hq:=hx.1;rw [← e1009];simp only [List.length_singleton];omega)
  refine rx [] [pG cE v1010] [] (fun t u w=>⟨zV (c:=cE) (zz rfl) qu rfl (by rw [e1010];rfl) rfl s1011,trivial⟩) ?_
  intro v1012 e1012
  refine nxl (v1012,v1010) ?_ ?_ rfl
  any_goals dsimp only
  all_goals (have hz:=hlen2;have hkn:n1003=k:=(by omega);subst hkn;have hq:=hx.1;rw [za7 s1006,e1007] at hs;have hlt:n1003<x504.2.2.2.length:=(List.getElem?_eq_some_iff.1 s1006).1;have x3:v1012=((n1003+1:Nat):Int):=(by rw [← e1012,hi,wri (by omega)];omega))
  ·show ((x504.2.2.2.length:Int) - v1012).toNat<((x504.2.2.2.length:Int) - j).toNat
   omega
  ·exact ⟨n1003+1,x3,by omega,by rw [← e1010,← e1009,List.length_append,ho];rfl,by rw [← e1010,← e1009,List.append_assoc];exact hs⟩
 ·
  have dh1002:=LE e1001 h1002
  have hq:((p)=p2)∧True:=by
   refine ⟨?_,trivial⟩
   all_goals (have hz:=hlen2;have hkl:k=x504.2.2.2.length:=(by omega);rw [hkl,List.drop_length,withL,List.append_nil] at hs;exact hs)
  obtain ⟨q0,-⟩:=hq
  rw [← q0]
  rfl
def zhv:List Atom:=[.sl 1 1,.sl 4 (.o (.c (.k (.slice none 0 0)))),.sl 5 (.o (.c (.gr 901))),.sl 11 0,.sl 12 2,.sl 13 3,.gl 901 62 4 1,.gn 902]
def puA_S:LoopS:=⟨3,zhv.map (tnA (jf [0,1,2,kI 0]) (kf [0,0]) (kf [])),(.x 0),(drs [5] zhv)⟩
def puA_t:Tr:=.s [(5000,.bin .lss 3 3 2)] (.b 4 (.s [(5001,.ia 54 62 4 0 3),(5002,.ld 62 4 5),(5007,.bin .eql 3 6 (kI 5))] (.b 10 (.s [(5008,.bin .add 3 3 (kI 1))] (.z (.nx [0,1,2,11] [0,1] []))) (.s [(0,.gh ⟨6,[.bx 5013 62 [.h 6,.h 7,.k (.string ⟨#[]⟩),.k (.slice none 0 0)],.gn 902],[.bx 5013 62 [.h 6,.h 7,.k (.string ⟨#[]⟩),.gr 902],.gl 902 60 3 2],[]⟩ 0),(5017,.ln 58 3 9),(0,.lp puB_S 1 0),(0,.gh ⟨1000012,[.gn 1],[],[]⟩ 0),(0,.gh ⟨12,[.gl 902 60 3 3,.bx 5013 62 [.h 6,.h 7,.k (.string ⟨#[]⟩),.gr 902]],[.bx 5013 62 [.h 6,.h 7,.k (.string ⟨#[]⟩),.h 12],.gn 902],[902]⟩ 1),(0,.raw [(1006021,.dat 62 1 [.h 6,.h 7,.k (.string ⟨#[]⟩),.h 12] 13)] 1),(0,.raw [(1006022,.app 62 4 901 1 4 13 [] false)] 0),(6024,.bin .add 3 3 (kI 1))] (.z (.nx [0,1,2,14] [0,4] []))))) (.z (.xt (.x 0) [0,1,2] [0,1] [])))
theorem zsd {w0:World} (l:(List Stm)) (args:(List Int)) (v1:Int) (o2:(List Stm)) (hlen:(l.length:Int)=v1) (hl1:l.length≤1000000) (hE:∀s∈l,s.2.2.2.length≤1000∧∀e∈s.2.2.2,nodes e≤1000000) (hO:putP args l=o2):LpH (KN w0) Tryz.prog 28 ⟨ntOf Tryz.prog 28,[],[]⟩ puA_S 0 ⟨3,[sI v1,.ls 1 cI kIc args,.ls 4 cSt kSt l],[pG cSt ([]:List Stm),pG cSt o2],[]⟩:=by
 refine zi _ ⟨zhv,puA_S,(4,2,0),(3,2,0),5000⟩ (T:=Int×(List Stm)) (fun t=>⟨4,[sI t.1,sI v1,.ls 1 cI kIc args,.ls 4 cSt kSt l],[pG cSt ([]:List Stm),pG cSt t.2],[]⟩) (fun (i,o)=>∃k:Nat,i=(k:Int)∧k≤l.length∧o.length≤k∧o++putP args (l.drop k)=o2) (fun (i,o)=>((l.length:Int) - i).toNat) ((0:Int),([]:List Stm)) [0,1,2,kI 0] [0,0] [] puA_t mixed ⟨0,rfl,Nat.zero_le _,Nat.le_refl _,hO⟩ rfl rfl rfl rfl (fun _=>rfl) rfl rfl (by kernel_rfl) ?_
 rintro ⟨i,o⟩ hJ
 dsimp only at hJ ⊢
 obtain ⟨k,hi,hk,ho,hs⟩:=hJ
 intro v501 e501
 refine ai (fun h502=>?_) fun h502=>?_
 ·
  have dh502:=LD e501 h502
  refine ai (by (have hz:=hlen;exact ⟨k,_,hi,List.getElem?_eq_getElem (by omega)⟩)) fun n503 x504 s505 s506=>?_
  intro v507 e507
  refine ai (fun h508=>?_) fun h508=>?_
  ·
   intro v509 e509
   have dh508:=eq_of_beq (e507.trans h508)
   refine nxl (v509,o) ?_ ?_ rfl
   any_goals dsimp only
   all_goals (have hz:=hlen;have hkn:n503=k:=(by omega);subst hkn;rw [zpu args s506] at hs;have hlt:n503<l.length:=(List.getElem?_eq_some_iff.1 s506).1;have x3:v509=((n503+1:Nat):Int):=(by rw [← e509,hi,wri (by omega)];omega);rw [if_pos dh508] at hs)
   ·show ((l.length:Int) - v509).toNat<((l.length:Int) - i).toNat
    omega
   ·exact ⟨n503+1,x3,by omega,by omega,hs⟩
  ·
   refine rx [] [pG cE ([]:List Xp)] [] (fun t u w _=>zG (c:=cE) (i:=3) (ls:=[.h 6,.h 7,.k (.string ⟨#[]⟩),.k (.slice none 0 0)]) rfl rfl) ?_
   intro v509 e509
   obtain ⟨p2,hO_puB⟩:∃(p2:(List Xp)),withL args x504.2.2.2=p2:=⟨_,rfl⟩
   refine rx [] [pG cE p2] [] (zse l args v1 i o v501 n503 x504 v507 v509 h502 h508 p2 (hE _ (List.mem_of_getElem? s506)) e509 hO_puB) ?_
   refine rx [] [] [] (fun t u w _=>qA) ?_
   refine rx [.ls 3 cE kE p2] [] [] (fun t u w hF=>zcj (c:=cE) (i:=3) (ls:=[.h 6,.h 7,.k (.string ⟨#[]⟩),.gr 902]) hF rfl (by decide) rfl qu (by decide) (zz rfl) rfl rfl) ?_
   obtain ⟨v510,e510⟩:=LX (([(x504.1,x504.2.1,[],p2)]:List Stm))
   refine rx [.ls 4 cSt kSt v510] [] [] (fun t u w=>⟨e_dat (c:=cSt) (l:=([(x504.1,x504.2.1,[],p2)]:List Stm)) (ps:=(pI x504.1::pI x504.2.1::pV (.string ⟨#[]⟩)::pLs cE p2::[])) (qs:=(pI (x504.1,x504.2.1,[],p2).1::pI (x504.1,x504.2.1,[],p2).2.1::pS (x504.1,x504.2.1,[],p2).2.2.1::pLs cE ((x504.1,x504.2.1,[],p2).2.2.2)::[])) (by rw [e510];rfl) rfl rfl rfl (pimps (fun _ _ _ h=>h) <| pimps (fun _ _ _ h=>h) <| pimps (fun _ _ _ h=>h) <| pimps (fun _ _ _ h=>h) <| ze) rfl,trivial⟩) ?_
   obtain ⟨v511,e511⟩:=LX (o++v510)
   have s512:(o.length+v510.length)*4≤1099511627776:=by (rw [← e510];simp only [List.length_singleton];omega)
   refine rx [] [pG cSt v511] [] (fun t u w=>⟨zV (c:=cSt) z8 (fun _=>rfl) rfl (by rw [e511];rfl) rfl s512,trivial⟩) ?_
   intro v513 e513
   have dh508:=ne_of_beq_false (e507.trans h508)
   refine nxl (v513,v511) ?_ ?_ rfl
   any_goals dsimp only
   all_goals (have hz:=hlen;have hkn:n503=k:=(by omega);subst hkn;rw [zpu args s506] at hs;have hlt:n503<l.length:=(List.getElem?_eq_some_iff.1 s506).1;have x3:v513=((n503+1:Nat):Int):=(by rw [← e513,hi,wri (by omega)];omega);rw [if_neg dh508,show putS args x504=(x504.1,x504.2.1,[],p2) from (by unfold putS;rw [hO_puB])] at hs)
   ·show ((l.length:Int) - v513).toNat<((l.length:Int) - i).toNat
    omega
   ·exact ⟨n503+1,x3,by omega,by rw [← e511,← e510,List.length_append];simp only [List.length_singleton];omega,by rw [← e511,← e510,List.append_assoc];exact hs⟩
 ·
  have dh502:=LE e501 h502
  have hq:((o)=o2)∧True:=by
   refine ⟨?_,trivial⟩
   all_goals (have hz:=hlen;have hkl:k=l.length:=(by omega);rw [hkl,List.drop_length,show putP args []=[] from rfl,List.append_nil] at hs;exact hs)
  obtain ⟨q0,-⟩:=hq
  rw [← q0]
  rfl
def zrc:Tr:=.s [(0,.gh ⟨1,[.sl 5 (.o (.c (.k (.slice none 0 0)))),.gn 901],[.sl 5 (.o (.c (.gr 901))),.gl 901 62 4 0],[]⟩ 0),(3,.ln 54 3 0),(0,.lp puA_S 0 0),(0,.gh ⟨14,.gl 901 62 4 1::[4].map (fun s=>.sl s (.o (.c (.gr 901)))),[4].map (fun s=>.sl s 3),[901]⟩ 1)] (.z (.ret false (3) []))
theorem t_put {w0:World} (l:List Stm) (args:List Int) (r:List Stm) (hr:putP args l=r) (hl1:l.length≤1000000) (hE:∀s∈l,s.2.2.2.length≤1000∧∀e∈s.2.2.2,nodes e≤1000000):Fun (KN w0) Tryz.prog 28 [.o (.c (pLs cSt l)),.o (.c (pLs cI args))] (.o (.c (pLs cSt r))):=by
 refine tfn w0 28 ⟨[0,1],[],[902,901],0,0⟩ ⟨2,[.ls 1 cI kIc args,.ls 4 cSt kSt l],[],[]⟩ zrc (by kernel_rfl) ?_
 refine rx [] [pG cSt ([]:List Stm)] [] (fun t u w _=>zbT (c:=cSt) rfl) ?_
 intro v1 e1
 obtain ⟨o2,hO_puA⟩:∃(o2:(List Stm)),putP args l=o2:=⟨_,rfl⟩
 refine rx [] [pG cSt o2] [] (zsd l args v1  o2 e1 hl1 hE hO_puA) ?_
 refine rx [.ls 4 cSt kSt o2] [] [] (fun t u w _=>qS (c:=cSt) (fun _=>rfl) (by decide) z8 rfl rfl) ?_
 intro hc
 refine Fun.fin (r:=.o (.c (pLs cSt o2))) (zc (hc)) (fun v W D h=>?_)
 have r0:r=o2:=by
  exact hr.symm.trans hO_puA
 rw [r0];exact h
end Go.Proofs.YteimplkdcjapdaaGreatDoor
namespace Go.Proofs.YteimplkdcjapdaaGreatDoor
open Go.RowKit
def Sm (a:Int) (e:Xp):Prop:=(∃n,(-1048576≤n∧n≤1048576)∧e=numX n)∨(e=.mk 2 0 []∧(1≤a∧a≤4))
def Gs (a:Int) (s:Stm):Prop:=s.2.2.1=[]∧((s.1=1∧s.2.1=0∧s.2.2.2.length=3)∨(s.1=2∧s.2.1=0∧s.2.2.2.length=4)∨(s.1=3∧s.2.1=0∧s.2.2.2.length=7)∨(s.1=4∧s.2.1=0∧s.2.2.2.length=0)∨(s.1=4∧s.2.1=1∧s.2.2.2.length=1)∨(s.1=4∧s.2.1=2∧s.2.2.2.length=1))∧∀e∈s.2.2.2,Sm a e
theorem zmd {a n:Int} (h:-1048576≤n∧n≤1048576):Sm a (numX n):=.inl ⟨n,h,rfl⟩
theorem zp4 {a:Int} (h:1≤a∧a≤4):z6 (.mk 2 0 []) a=0:=by
 show (if (1:Int) > 30 then (2:Int) else if zj 2 0 0 a≠0 then zj 2 0 0 a else 0)=0
 have hf:zj 2 0 0 a=0:=by
  unfold zj
  rw [if_pos (.inr rfl),if_neg (by omega),if_neg (by omega),if_neg (by omega)]
 rw [if_neg (by omega),hf];rfl
theorem zrD {a:Int} {e:Xp} (h:Sm a e):z6 e a=0:=by
 rcases h with ⟨n,hn,rfl⟩ | ⟨rfl,ha⟩
 ·exact zes hn
 ·exact zp4 ha
theorem zam {a:Int}:∀{l:List Xp},(∀e∈l,Sm a e)→zbb a l=0
 | [],_=>rfl
 | e::r,h=>by rw [zbb,zrD (h e (by simp)),zam fun x hx=>h x (List.mem_cons_of_mem _ hx)];rfl
theorem znN {a:Int} {e:Xp} (h:Sm a e):nodes e=1:=by
 rcases h with ⟨n,hn,rfl⟩ | ⟨rfl,ha⟩<;>rfl
theorem ziN {a:Int} {s:Stm} (h:Gs a s):s.1≠5:=by have:=h.2.1;omega
theorem zld {a:Int} {s:Stm} (h:Gs a s):s.2.2.2.length≤7:=by have:=h.2.1;omega
theorem qL {a k n m:Int} {l:List Xp} {f:Frmt} (h1:zg.find? (fun f=>(f.1 == k) && (f.2.1 == n))=some f) (h2:(manyF f,f.2.2.2,zaf f)=(m,0,false)) (hl:(l.length:Int)=m) (h:zbb a l=0):stmE a (k,n,[],l)=0:=by
 unfold stmE
 rw [show zg.find? (zae (k,n,[],l))=some f from h1]
 injection h2 with h3 h4
 injection h4 with h4 h5
 have e:fitsF (k,n,[],l) f=true:=by
  unfold fitsF
  rw [h3,h4,h5]
  dsimp only
  rw [hl]
  simp
 dsimp only
 rw [if_pos e,h5]
 exact h
theorem gs_ok {a:Int} {s:Stm} (h:Gs a s):stmE a s=0:=by
 obtain ⟨k,n,w,l⟩:=s
 obtain ⟨h1,h2,h3⟩:=h
 dsimp only at h1 h2 h3
 obtain rfl:=h1
 rcases h2 with ⟨rfl,rfl,hl⟩ | ⟨rfl,rfl,hl⟩ | ⟨rfl,rfl,hl⟩ | ⟨rfl,rfl,hl⟩ | ⟨rfl,rfl,hl⟩ | ⟨rfl,rfl,hl⟩
 ·exact qL (f:=zg.getD 0 (0,0,[],0)) (m:=3) (by kernel_rfl) (by kernel_rfl) (by omega) (zam h3)
 ·exact qL (f:=zg.getD 1 (0,0,[],0)) (m:=4) (by kernel_rfl) (by kernel_rfl) (by omega) (zam h3)
 ·exact qL (f:=zg.getD 2 (0,0,[],0)) (m:=7) (by kernel_rfl) (by kernel_rfl) (by omega) (zam h3)
 ·exact qL (f:=zg.getD 3 (0,0,[],0)) (m:=0) (by kernel_rfl) (by kernel_rfl) (by omega) (zam h3)
 ·exact qL (f:=zg.getD 4 (0,0,[],0)) (m:=1) (by kernel_rfl) (by kernel_rfl) (by omega) (zam h3)
 ·exact qL (f:=zg.getD 5 (0,0,[],0)) (m:=1) (by kernel_rfl) (by kernel_rfl) (by omega) (zam h3)
theorem zoK {l:List Int} (n:Int):withX l (numX n)=numX n:=by
 rw [zcR fun h=>absurd h.1 (by show ¬ (1:Int)=2;decide)];rfl
theorem zoJ (n:Int):withX [n] (.mk 2 0 [])=numX n:=by
 rw [zgB ⟨rfl,Int.le_refl _,by show (0:Int)<((1:Nat):Int);decide⟩];rfl
theorem zdC {l:List Int}:∀{e:List Xp},withL l e=e.map (withX l)
 | []=>rfl
 | x::r=>by rw [withL,zdC];rfl
theorem zrq {a n:Int} {e:Xp} (h:Sm a e) (hn:-1048576≤n∧n≤1048576):Sm 0 (withX [n] e):=by
 rcases h with ⟨k,hk,rfl⟩ | ⟨rfl,ha⟩
 ·rw [zoK];exact zmd hk
 ·rw [zoJ];exact zmd hn
theorem zsf {a n:Int} {s:Stm} (h:Gs a s) (hn:-1048576≤n∧n≤1048576):Gs 0 (putS [n] s):=by
 refine ⟨rfl,?_,fun e he=>?_⟩
 ·have:=h.2.1
  unfold putS
  rw [zdC,List.length_map]
  exact this
 ·rw [putS,zdC] at he
  obtain ⟨x,hx,rfl⟩:=List.mem_map.1 he
  exact zrq (h.2.2 x hx) hn
def Ps (a:Int) (s:Stm):Prop:=s.1=5∨Gs a s
theorem zqz {a n:Int} {l:List Stm} (h:∀s∈l,Ps a s) (hn:-1048576≤n∧n≤1048576):∀s∈putP [n] l,Gs 0 s:=fun s hs=>by
 obtain ⟨x,hx,rfl⟩:=List.mem_map.1 hs
 obtain ⟨h1,h2⟩:=List.mem_filter.1 hx
 exact zsf ((h x h1).resolve_left (by simpa using h2)) hn
theorem zn5 {v:List Int} {l:List Stm}:(putP v l).length≤l.length:=by
 unfold putP;rw [List.length_map];exact List.length_filter_le _ _
theorem zqQ {a:Int} {l:List Stm} (h:∀s∈l,Gs a s):∀s∈l,stmE a s=0:=fun s hs=>gs_ok (h s hs)
theorem gs_w {a:Int} {s:Stm} (h:Gs a s):s.2.2.2.length≤1000000∧∀e∈s.2.2.2,nodes e≤1000000:=⟨by have:=zld h;omega,fun e he=>by rw [znN (h.2.2 e he)];omega⟩
theorem gs_w2 {a:Int} {s:Stm} (h:Gs a s):s.2.2.2.length≤1000∧∀e∈s.2.2.2,nodes e≤1000000:=⟨by have:=zld h;omega,(gs_w h).2⟩
def setd (d:Int) (s:Rn):Rn:=(s.1,s.2.1,d,s.2.2.2)
def mapR (f:Rn→Rn):RE→RE
 | .ok s=>.ok (f s)
 | .error e=>.error e
theorem zlt {d e:Int}:∀{r:RE},mapR (setd d) (mapR (setd e) r)=mapR (setd d) r
 | .ok _=>rfl
 | .error _=>rfl
theorem zil {d:Int} {m:Mov} {s:Rn}:addS m (setd d s)=mapR (setd d) (addS m s):=by
 unfold addS setd
 dsimp only
 split
 ·rfl
 ·split<;>rfl
theorem zkn {f:List Int} {d:Int}:∀{l:List Vec} {k:Nat} {s:Rn},addsL f k l (setd d s)=mapR (setd d) (addsL f k l s)
 | [],_,_=>rfl
 | p::r,k,s=>by
  rw [addsL,addsL,zil]
  cases h:addS (2,(0,0,0),p,(0,0,0),f.getD (k - 1) 0) s with
  | ok t=>exact zkn
  | error e=>rfl
theorem off_d {d:Int} {s:Rn}:offS (setd d s)=mapR (setd d) (offS s):=by
 obtain ⟨p,mv,dn,c⟩:=s
 cases c with
 | none=>rfl
 | some c =>
  show (if c.2.2.1=[] then Except.ok (p,mv,d,none) else if backL (waysL c.1 c.2.2.1) then .error 17 else if turnL (zL c) (waysL c.1 c.2.2.1) then .error 17 else if (zL c).all inV then addsL c.2.2.2 0 (zL c) (c.1,mv,d,none) else .error 3:RE)=mapR (setd d) (if c.2.2.1=[] then Except.ok (p,mv,dn,none) else if backL (waysL c.1 c.2.2.1) then .error 17 else if turnL (zL c) (waysL c.1 c.2.2.1) then .error 17 else if (zL c).all inV then addsL c.2.2.2 0 (zL c) (c.1,mv,dn,none) else .error 3:RE)
  have e:=zkn (f:=c.2.2.2) (d:=d) (l:=zL c) (k:=0) (s:=(c.1,mv,dn,none))
  rw [show setd d (c.1,mv,dn,none)=(c.1,mv,d,none) from rfl] at e
  rw [e]
  repeat' split
  all_goals rfl
theorem zpg {x:Stm} {v:List Int} {d:Int} {s:Rn}:handS x v (setd d s)=mapR (setd d) (handS x v s):=by
 unfold handS
 split
 ·unfold zJ
  rw [show (setd d s).2.2.2=s.2.2.2 from rfl,zil]
  repeat' split
  all_goals rfl
 ·split
  ·obtain ⟨p,mv,dn,c⟩:=s
   unfold lineS
   cases c with
   | none =>
    show (if _ then addS _ (setd d (p,mv,dn,none)) else _)=mapR (setd d) (if _ then addS _ (p,mv,dn,none) else _)
    rw [zil]
    split<;>rfl
   | some c =>
    show (if _ then (if vecOf v 0=p then Except.ok (p,mv,d,some c) else if headV p (vecOf v 0)=(0,0,0) then .error 17 else .ok (vecOf v 0,mv,d,some (c.1,c.2.1,c.2.2.1++[vecOf v 0],c.2.2.2++[v.getD 3 0]))) else .error 3:RE)=mapR (setd d) (if _ then (if vecOf v 0=p then Except.ok (p,mv,dn,some c) else if headV p (vecOf v 0)=(0,0,0) then .error 17 else .ok (vecOf v 0,mv,dn,some (c.1,c.2.1,c.2.2.1++[vecOf v 0],c.2.2.2++[v.getD 3 0]))) else .error 3:RE)
    repeat' split
    all_goals rfl
  ·split
   ·unfold arcS
    rw [show (setd d s).2.2.2=s.2.2.2 from rfl,show arcM v (setd d s)=arcM v s from rfl,zil]
    repeat' split
    all_goals rfl
   ·unfold turnS
    rw [show (setd d s).2.2.2=s.2.2.2 from rfl,off_d]
    repeat' split
    all_goals rfl
def step0 (args:List Int) (s:Rn) (x:Stm):RE:=match valsE args x.2.2.2 with
 | .ok v=>handS x v s
 | .error e=>.error e
theorem zqM {args:List Int} {d:Int} {s:Rn} {x:Stm}:step0 args (setd d s) x=mapR (setd d) (step0 args s x):=by
 unfold step0
 cases valsE args x.2.2.2 with
 | ok v=>exact zpg
 | error e=>rfl
theorem zk3 {args:List Int} {d:Int}:∀{l:List Stm} {s:Rn},l.foldlM (step0 args) (setd d s)=mapR (setd d) (l.foldlM (step0 args) s)
 | [],_=>rfl
 | x::r,s=>by
  rw [List.foldlM_cons,List.foldlM_cons,zqM]
  cases step0 args s x with
  | ok t=>exact zk3 (l:=r) (s:=t)
  | error e=>rfl
theorem zsn {su:List (List UInt8×Sb)} {m:Nat} {args:List Int} {s:Rn} {x:Stm} (h:s.2.2.1<1000) (h5:x.1≠5):stepC su m args s x=mapR (setd (s.2.2.1+1)) (step0 args s x):=by
 unfold stepC step0
 rw [if_neg (by omega),if_pos h5]
 cases valsE args x.2.2.2 with
 | ok v=>exact zpg (d:=s.2.2.1+1) (s:=s)
 | error e=>rfl
theorem zpd {su:List (List UInt8×Sb)} {m:Nat} {args:List Int}:∀{l:List Stm} {s:Rn},(∀x∈l,x.1≠5)→s.2.2.1+l.length≤1000→l.foldlM (stepC su m args) s=mapR (setd (s.2.2.1+l.length)) (l.foldlM (step0 args) s)
 | [],s,_,_=>by
  show Except.ok s=Except.ok (setd (s.2.2.1+0) s)
  rw [Int.add_zero];rfl
 | x::r,s,h,hl=>by
  rw [List.length_cons] at hl
  rw [List.foldlM_cons,List.foldlM_cons,zsn (by omega) (h x (by simp))]
  cases step0 args s x with
  | error e=>rfl
  | ok t =>
   show r.foldlM (stepC su m args) (setd (s.2.2.1+1) t)=mapR (setd (s.2.2.1+((r.length+1:Nat):Int))) (r.foldlM (step0 args) t)
   rw [zpd (l:=r) (s:=setd (s.2.2.1+1) t) (fun y hy=>h y (List.mem_cons_of_mem _ hy)) (by show s.2.2.1+1+(r.length:Int)≤1000;omega),zk3,zlt]
   show mapR (setd (s.2.2.1+1+(r.length:Int))) _=_
   rw [show s.2.2.1+1+(r.length:Int)=s.2.2.1+((r.length+1:Nat):Int) by omega]
def finR:RE→List Mov×Int
 | .error e=>([],e)
 | .ok s=>match offS s with
  | .error e=>([],e)
  | .ok t=>(t.2.1,0)
theorem fin_d {d:Int}:∀{r:RE},finR (mapR (setd d) r)=finR r
 | .error _=>rfl
 | .ok s=>by
  unfold mapR finR
  dsimp only
  rw [off_d]
  cases offS s<;>rfl
theorem zqB {l:List Sb} {args:List Int} {x:Sb} (h:zD l=0) (hx:l[0]?=some x) (ha:x.2.1=args.length):runP l args (0,0,0)=finR (zB (suOf l) 7 x.2.2 args ((0,0,0),[],0,none)):=by
 unfold runP
 rw [zdt h (by decide +kernel) hx,if_neg (by omega)]
 cases zB (suOf l) 7 x.2.2 args ((0,0,0),[],0,none) with
 | error e=>rfl
 | ok s =>
  unfold finR
  dsimp only
  cases offS s<;>rfl
theorem zp8 {l:List Stm} {su:List (List UInt8×Sb)} {args:List Int}:(finR (zB su 7 l args ((0,0,0),[],0,none))).1.length≤40:=by
 cases h:zB su 7 l args ((0,0,0),[],0,none) with
 | error e=>exact Nat.zero_le _
 | ok s =>
  have hg:=za1 7 l args _ s h ⟨Nat.zero_le _,Int.le_refl _,by show (0:Int)≤1000;omega,fun d hd=>by cases hd⟩
  unfold finR
  dsimp only
  cases h2:offS s with
  | error e=>exact Nat.zero_le _
  | ok t=>exact (zpe h2 hg).mv
theorem ziH {f:Rn→Stm→RE}:∀{a b:List Stm} {s:Rn},(a++b).foldlM f s=(match a.foldlM f s with
  | .ok t=>b.foldlM f t
  | .error e=>.error e)
 | [],b,s=>rfl
 | x::r,b,s=>by
  rw [List.cons_append,List.foldlM_cons,List.foldlM_cons]
  cases f s x with
  | ok t=>exact ziH (a:=r) (b:=b) (s:=t)
  | error e=>rfl
theorem zbS {f:Rn→Stm→RE} {x:Stm} {b:List Stm} {s:Rn}:(x::b).foldlM f s=(match f s x with
  | .ok t=>b.foldlM f t
  | .error e=>.error e):=by
 rw [List.foldlM_cons]
 cases f s x<;>rfl
section
variable {n:Int} (hn:-1048576≤n∧n≤1048576) {before inner:List Stm} (hb:∀s∈before,Gs 0 s) (hi:∀s∈inner,Gs 1 s) (hbl:before.length≤20) (hil:inner.length≤40)
include hn hb hi hbl hil
end
end Go.Proofs.YteimplkdcjapdaaGreatDoor
namespace Go.Proofs.YteimplkdcjapdaaGreatDoor
open Go.RowKit
def Rg (n:Int):Prop:=-1048576≤n∧n≤1048576
theorem zeI {a:Int} {l:List Int} (h:∀n∈l,Rg n):∀e∈l.map numX,Sm a e:=fun e he=>by
 obtain ⟨n,hn,rfl⟩:=List.mem_map.1 he
 exact zmd (h n hn)
def RgV (v:Vec):Prop:=Rg v.1∧Rg v.2.1∧Rg v.2.2
theorem zn8 {v:Vec} (h:RgV v):Gs 0 (zd9 v):=⟨rfl,.inl ⟨rfl,rfl,rfl⟩,zeI (l:=[v.1,v.2.1,v.2.2]) fun n hn=>by
 simp only [List.mem_cons,List.not_mem_nil,or_false] at hn
 rcases hn with rfl | rfl | rfl
 ·exact h.1
 ·exact h.2.1
 ·exact h.2.2⟩
theorem zg8 {v:Vec} {f:Int} (h:RgV v) (hf:Rg f):Gs 0 (lineX v f):=⟨rfl,.inr (.inl ⟨rfl,rfl,rfl⟩),zeI (l:=[v.1,v.2.1,v.2.2,f]) fun n hn=>by
 simp only [List.mem_cons,List.not_mem_nil,or_false] at hn
 rcases hn with rfl | rfl | rfl | rfl
 ·exact h.1
 ·exact h.2.1
 ·exact h.2.2
 ·exact hf⟩
theorem zry {v w:Vec} {f:Int} (h:RgV v) (h2:RgV w) (hf:Rg f):Gs 0 (3,0,[],qe v++qe w++[numX f]):=⟨rfl,.inr (.inr (.inl ⟨rfl,rfl,rfl⟩)),zeI (l:=[v.1,v.2.1,v.2.2,w.1,w.2.1,w.2.2,f]) fun n hn=>by
 simp only [List.mem_cons,List.not_mem_nil,or_false] at hn
 rcases hn with rfl | rfl | rfl | rfl | rfl | rfl | rfl
 ·exact h.1
 ·exact h.2.1
 ·exact h.2.2
 ·exact h2.1
 ·exact h2.2.1
 ·exact h2.2.2
 ·exact hf⟩
theorem zqH {k r:Int} (h:k=1∨k=2) (hr:Rg r):Gs 0 (sideX k r):=by
 have e:sideX k r=(4,k,[],[numX r]):=if_neg (by omega)
 rw [e]
 refine ⟨rfl,?_,zeI (l:=[r]) fun n hn=>by obtain rfl:=List.mem_singleton.1 hn;exact hr⟩
 rcases h with rfl | rfl
 ·exact .inr (.inr (.inr (.inr (.inl ⟨rfl,rfl,rfl⟩))))
 ·exact .inr (.inr (.inr (.inr (.inr ⟨rfl,rfl,rfl⟩))))
theorem zof:Gs 0 (sideX 0 0):=⟨rfl,.inr (.inr (.inr (.inl ⟨rfl,rfl,rfl⟩))),fun e he=>by cases he⟩
def Ws (s:Stm):Prop:=s.2.2.2.length≤1000∧∀e∈s.2.2.2,nodes e≤1000000
def Bn (n:Int) (v:Vec):Prop:=(-n≤v.1∧v.1≤n)∧(-n≤v.2.1∧v.2.1≤n)∧-n≤v.2.2∧v.2.2≤n
theorem bn_rg {n:Int} {v:Vec} (h:Bn n v) (hn:n≤1000000):RgV v:=by
 obtain ⟨h1,h2,h3⟩:=h
 exact ⟨⟨by omega,by omega⟩,⟨by omega,by omega⟩,⟨by omega,by omega⟩⟩
theorem bn_up {n m:Int} {v:Vec} (h:Bn n v) (hn:n≤m):Bn m v:=by
 obtain ⟨h1,h2,h3⟩:=h
 exact ⟨by omega,by omega,by omega⟩
theorem zoS {n m:Int} {v w:Vec} (h:Bn n v) (h2:Bn m w) (hn:n≤2000000) (hm:m≤2000000):Bn (n+m) (addV v w):=by
 obtain ⟨h1,h3,h5⟩:=h
 obtain ⟨h2,h4,h6⟩:=h2
 unfold addV
 refine ⟨?_,?_,?_⟩
 all_goals
  show -(n+m)≤IntKind.i64.wrap _∧IntKind.i64.wrap _≤n+m
  rw [wri (by omega)]
  omega
theorem zrm {l:List Int}:Bn 8 (vecD l 8).1:=by
 unfold vecD
 have a:=zH (l:=l) (m:=2*8+1) (by omega) (by omega)
 have b:=zH (l:=(drawX l (2*8+1)).2) (m:=2*8+1) (by omega) (by omega)
 have c:=zH (l:=(drawX (drawX l (2*8+1)).2 (2*8+1)).2) (m:=2*8+1) (by omega) (by omega)
 exact ⟨by dsimp only;omega,by dsimp only;omega,by dsimp only;omega⟩
theorem zoi {l:List Int} {a:Vec} {n:Int} (h:Bn n a) (h0:100≤n) (hn:n≤900000):(Ps 0 (stmtX l a).1∧Ws (stmtX l a).1)∧Bn (n+100) (stmtX l a).2.1:=by
 unfold stmtX
 have b1:=zH (l:=(drawX l 12).2) (m:=13) (by omega) (by omega)
 have b2:=zH (l:=(drawX (drawX l 12).2 13).2) (m:=9) (by omega) (by omega)
 generalize (drawX (drawX (drawX l 12).2 13).2 9).2=r
 generalize (drawX (drawX (drawX l 12).2 13).2 9).1=f at *
 generalize (drawX l 12).1=k
 generalize (drawX (drawX l 12).2 13).1=b at *
 have hv:=bn_up (zrm (l:=r)) (show (8:Int)≤n+100 by omega)
 have hd:=zH (l:=r) (m:=2) (by omega) (by omega)
 have he:=zH (l:=(drawX r 2).2) (m:=2) (by omega) (by omega)
 have hu:=bn_up h (show n≤n+100 by omega)
 have hc:=zoS h (w:=(2+3*(drawX r 2).1,0,0)) (m:=5) ⟨by dsimp only;omega,by dsimp only;omega,by dsimp only;omega⟩ (by omega) (by omega)
 have ha:Bn (n+5+5) (arcTo a (addV a (2+3*(drawX r 2).1,0,0))):=by
  refine zoS hc ⟨by dsimp only;omega,?_,by dsimp only;omega⟩ (by omega) (by omega)
  have e:(addV a (2+3*(drawX r 2).1,0,0)).1=a.1+(2+3*(drawX r 2).1):=wri (by have:=h.1;omega)
  dsimp only
  rw [e,wri (by omega)]
  omega
 have lift:∀{s:Stm} {v:Vec} {t:List Int},Gs 0 s→Bn (n+100) v→(Ps 0 (s,v,t).1∧Ws (s,v,t).1)∧Bn (n+100) (s,v,t).2.1:=fun g b=>⟨⟨.inr g,gs_w2 g⟩,b⟩
 obtain ⟨h1,h2,h3⟩:=h
 have hx:Bn (n+100) (a.1+(b - 6),a.2.1,a.2.2):=⟨by dsimp only;omega,by dsimp only;omega,by dsimp only;omega⟩
 have hy:Bn (n+100) (a.1,a.2.1+(b - 6),a.2.2):=⟨by dsimp only;omega,by dsimp only;omega,by dsimp only;omega⟩
 have hf:Rg (1+f):=⟨by omega,by omega⟩
 unfold stmtK
 split
 ·exact lift (zn8 (bn_rg hv (by omega))) hv
 split
 ·exact lift (zg8 (bn_rg hv (by omega)) hf) hv
 split
 ·exact lift (zg8 (bn_rg hx (by omega)) hf) hx
 split
 ·exact lift (zg8 (bn_rg hy (by omega)) hf) hy
 split
 ·exact lift (zqH (by omega) ⟨by omega,by omega⟩) hu
 split
 ·exact lift zof hu
 split
 ·exact lift (zry (bn_rg hc (by omega)) (bn_rg ha (by omega)) hf) (bn_up ha (by omega))
 ·refine ⟨⟨.inl rfl,by show 1≤1000;omega,fun e he=>?_⟩,⟨by dsimp only;omega,by dsimp only;omega,by dsimp only;omega⟩⟩
  obtain rfl:=List.mem_singleton.1 he
  show 3≤1000000
  omega
theorem zmQ:∀{l:List (List Int)} {a:Vec} {n:Int},Bn n a→100≤n→n+100*(l.length:Int)≤900000→∀s∈walkP l a,Ps 0 s∧Ws s
 | [],_,_,_,_,_,s,hs=>by cases hs
 | x::r,a,n,h,h0,hn,s,hs=>by
  rw [List.length_cons] at hn
  have hx:=zoi (l:=x) h h0 (by omega)
  rw [walkP] at hs
  rcases List.mem_cons.1 hs with rfl | hs
  ·exact hx.1
  ·exact zmQ hx.2 (by omega) (by omega) s hs
theorem zjv:∀{l:List (List Int)} {a:Vec},(walkP l a).length=l.length
 | [],_=>rfl
 | x::r,a=>by rw [walkP,List.length_cons,List.length_cons,zjv]
theorem zhb {l:List (List Int)} {k:Nat} {x:Sb} (h:(progX l)[k]?=some x) (hk:(0:Int)=k):x.2.2.length≤9∧∀s∈x.2.2,Ps 0 s∧Ws s:=by
 obtain rfl:k=0:=by omega
 obtain rfl:=Option.some.inj h
 have hl:(l.take 9).length≤9:=List.length_take_le _ _
 refine ⟨by show (walkP (l.take 9) (0,0,0)).length≤9;rw [zjv];exact hl,zmQ (n:=100) ⟨by dsimp only;omega,by dsimp only;omega,by dsimp only;omega⟩ (by omega) (by omega)⟩
theorem znD {l:List (List Int)} {m:Int}:∀x∈zlq l m,x.length≤100:=fun x hx=>by
 obtain ⟨y,_,rfl⟩:=List.mem_map.1 hx
 have:=List.length_take_le 12 y
 omega
end Go.Proofs.YteimplkdcjapdaaGreatDoor
namespace Go.Proofs.YteimplkdcjapdaaGreatDoor
open Go.RowKit
def By (b:Vec):Prop:=(-4≤b.1∧b.1≤4)∧(-4≤b.2.1∧b.2.1≤4)∧-4≤b.2.2∧b.2.2≤4
theorem wI_rc {a b c:Int}:wI (wI (a+b)+c)=wI (wI (a+c)+b):=by
 show IntKind.i64.wrap (IntKind.i64.wrap (a+b)+c)=IntKind.i64.wrap (IntKind.i64.wrap (a+c)+b)
 simp only [IntKind.wrap_i64]
 omega
theorem zfx {a b c:Vec}:addV (addV a b) c=addV (addV a c) b:=by
 unfold addV
 dsimp only
 rw [wI_rc,wI_rc (a:=a.2.1),wI_rc (a:=a.2.2)]
theorem zbJ {a b:Vec} (ha:inV a=true) (hb:By b):addV a b=(a.1+b.1,a.2.1+b.2.1,a.2.2+b.2.2):=by
 obtain ⟨h1,h2,h3⟩:=zeD.1 ha
 obtain ⟨k1,k2,k3⟩:=hb
 unfold addV
 rw [wI_eq (by omega),wI_eq (by omega),wI_eq (by omega)]
theorem zkm {a c b:Vec} (ha:inV a=true) (hc:inV c=true) (hb:By b):addV a b=addV c b↔a=c:=by
 refine ⟨fun h=>?_,fun h=>by rw [h]⟩
 rw [zbJ ha hb,zbJ hc hb] at h
 have h1:=congrArg Prod.fst h
 have h2:=congrArg (fun v:Vec=>v.2.1) h
 have h3:=congrArg (fun v:Vec=>v.2.2) h
 dsimp only at h1 h2 h3
 obtain ⟨a1,a2,a3⟩:=a
 obtain ⟨c1,c2,c3⟩:=c
 dsimp only at h1 h2 h3
 rw [show a1=c1 by omega,show a2=c2 by omega,show a3=c3 by omega]
def shM (b:Vec) (m:Mov):Mov:=(m.1,addV m.2.1 b,addV m.2.2.1 b,if m.1=3 then addV m.2.2.2.1 b else m.2.2.2.1,m.2.2.2.2)
def ShC (b:Vec):Option Str→Option Str→Prop
 | none,none=>True
 | some c,some d=>(d.1=addV c.1 b∧inV c.1=true∧inV d.1=true)∧d.2.1=c.2.1∧(d.2.2.1=c.2.2.1.map (fun p=>addV p b)∧∀p∈c.2.2.1,inV p=true∧inV (addV p b)=true)∧d.2.2.2=c.2.2.2
 | _,_=>False
structure Shr (b:Vec) (s t:Rn):Prop where
 p:t.1=addV s.1 b
 i:inV s.1=true∧inV t.1=true
 m:t.2.1=s.2.1.map (shM b)
 c:ShC b s.2.2.2 t.2.2.2
section
variable {b:Vec} (hb:By b)
include hb
theorem zii {k f:Int} {fr fr2 to_ co:Vec} {s t s2 t2:Rn} (hR:Shr b s t) (hi:inV to_=true∧inV (addV to_ b)=true) (h:addS (k,fr,to_,co,f) s=.ok s2) (h2:addS (k,fr2,addV to_ b,(if k=3 then addV co b else co),f) t=.ok t2):Shr b s2 t2:=by
 unfold addS at h h2
 dsimp only at h h2
 have hq:t.1=addV to_ b↔s.1=to_:=by rw [hR.p];exact zkm hR.i.1 hi.1 hb
 by_cases hc:k≠3∧s.1=to_
 ·rw [if_pos hc] at h
  rw [if_pos ⟨hc.1,hq.2 hc.2⟩] at h2
  injection h with h
  injection h2 with h2
  rw [← h,← h2];exact hR
 ·rw [if_neg hc] at h
  rw [if_neg fun e=>hc ⟨e.1,hq.1 e.2⟩] at h2
  split at h
  ·cases h
  split at h2
  ·cases h2
  injection h with h
  injection h2 with h2
  rw [← h,← h2]
  refine ⟨rfl,hi,?_,hR.c⟩
  rw [List.map_append,List.map_singleton,hR.m]
  show _++[(k,t.1,addV to_ b,_,f)]=_++[(k,addV s.1 b,addV to_ b,_,f)]
  rw [hR.p]
theorem zko {f:List Int}:∀{l:List Vec} {k:Nat} {s t s2 t2:Rn},Shr b s t→(∀p∈l,inV p=true∧inV (addV p b)=true)→addsL f k l s=.ok s2→addsL f k (l.map fun p=>addV p b) t=.ok t2→Shr b s2 t2
 | [],k,s,t,s2,t2,hR,_,h,h2=>by
  injection h with h
  injection h2 with h2
  rw [← h,← h2];exact hR
 | p::r,k,s,t,s2,t2,hR,hi,h,h2=>by
  rw [List.map_cons] at h2
  rw [addsL] at h h2
  split at h
  ·rename_i s3 h3
   split at h2
   ·rename_i t3 h4
    exact zko (zii hb (k:=2) (co:=(0,0,0)) hR (hi p (by simp)) h3 h4) (fun q hq=>hi q (List.mem_cons_of_mem _ hq)) h h2
   ·cases h2
  ·cases h
theorem zqd {p q:Vec} (hp:inV p=true∧inV (addV p b)=true) (hq:inV q=true∧inV (addV q b)=true):headV (addV p b) (addV q b)=headV p q:=by
 rw [zlf (in_sm hp.2) (in_sm hq.2),zlf (in_sm hp.1) (in_sm hq.1),zbJ hp.1 hb,zbJ hq.1 hb]
 dsimp only
 rw [show q.1+b.1 - (p.1+b.1)=q.1 - p.1 by omega,show q.2.1+b.2.1 - (p.2.1+b.2.1)=q.2.1 - p.2.1 by omega,show q.2.2+b.2.2 - (p.2.2+b.2.2)=q.2.2 - p.2.2 by omega]
theorem zmR:∀{l:List Vec} {p:Vec},(inV p=true∧inV (addV p b)=true)→(∀q∈l,inV q=true∧inV (addV q b)=true)→waysL (addV p b) (l.map fun p=>addV p b)=waysL p l
 | [],_,_,_=>rfl
 | q::r,p,hp,hl=>by
  rw [List.map_cons,waysL,waysL,zqd hb hp (hl q (by simp)),zmR (hl q (by simp)) fun x hx=>hl x (List.mem_cons_of_mem _ hx)]
omit hb in
theorem zf5 {left:Int}:∀{l w:List Vec},qF left (l.map fun p=>addV p b) w=(qF left l w).map fun p=>addV p b
 | [],[]=>rfl
 | [],_::_=>rfl
 | _::_,[]=>rfl
 | p::r,w::ws=>by
  have ih:=zf5 (left:=left) (l:=r) (w:=ws)
  cases ws with
  | nil =>
   show addV (addV p b) (zM left w)::qF left (r.map fun p=>addV p b) []=addV (addV p (zM left w)) b::(qF left r []).map fun p=>addV p b
   rw [ih,zfx]
  | cons u us =>
   show (if u≠w then addV (addV (addV p b) (zM left w)) (zM left u) else addV (addV p b) (zM left w))::qF left (r.map fun p=>addV p b) (u::us)=addV (if u≠w then addV (addV p (zM left w)) (zM left u) else addV p (zM left w)) b::(qF left r (u::us)).map fun p=>addV p b
   rw [ih]
   split
   ·rw [zfx (a:=p),zfx]
   ·rw [zfx]
theorem znK {c d:Str} (h:ShC b (some c) (some d)):zL d=(zL c).map (fun p=>addV p b)∧waysL d.1 d.2.2.1=waysL c.1 c.2.2.1:=by
 obtain ⟨⟨h1,h2,h3⟩,h4,⟨h5,h6⟩,h7⟩:=h
 have hw:waysL d.1 d.2.2.1=waysL c.1 c.2.2.1:=by
  rw [h1,h5]
  exact zmR hb ⟨h2,by rw [← h1];exact h3⟩ h6
 refine ⟨?_,hw⟩
 unfold zL
 rw [hw,h1,h4,h5,List.map_cons,zf5,zfx]
theorem zpp {s t s2 t2:Rn} (hR:Shr b s t) (h:offS s=.ok s2) (h2:offS t=.ok t2):Shr b s2 t2:=by
 obtain ⟨p,mv,dn,c⟩:=s
 obtain ⟨p2,mv2,dn2,c2⟩:=t
 have hc:=hR.c
 match c,c2,hc with
 | none,none,_ =>
  injection h with h
  injection h2 with h2
  rw [← h,← h2];exact hR
 | some c,some d,hc =>
  have hm:=znK hb hc
  have hq:=hc
  obtain ⟨⟨h1,h3,h4⟩,h5,⟨h6,h7⟩,h8⟩:=hq
  unfold offS at h h2
  dsimp only at h h2
  by_cases he:c.2.2.1=[]
  ·rw [if_pos he] at h
   rw [if_pos (by rw [h6,he];rfl)] at h2
   injection h with h
   injection h2 with h2
   rw [← h,← h2]
   exact ⟨hR.p,hR.i,hR.m,trivial⟩
  ·rw [if_neg he] at h
   rw [if_neg (by rw [h6];intro e;exact he (List.map_eq_nil_iff.1 e))] at h2
   split at h
   ·cases h
   split at h
   ·cases h
   split at h
   ·rename_i ha
    split at h2
    ·cases h2
    split at h2
    ·cases h2
    split at h2
    ·rename_i hb2
     rw [hm.1] at h2 hb2
     rw [h8] at h2
     refine zko hb (s:=(c.1,mv,dn,none)) (t:=(d.1,mv2,dn2,none)) ⟨h1,⟨h3,h4⟩,hR.m,trivial⟩ (fun q hq=>⟨List.all_eq_true.1 ha q hq,List.all_eq_true.1 hb2 _ (List.mem_map.2 ⟨q,hq,rfl⟩)⟩) h h2
    ·cases h2
   ·cases h
end
end Go.Proofs.YteimplkdcjapdaaGreatDoor
namespace Go.Proofs.YteimplkdcjapdaaGreatDoor
open Go.RowKit
def cmpV (b:Vec) (k:Nat):Int:=if k%3=0 then b.1 else if k%3=1 then b.2.1 else b.2.2
def mvE (b:Vec) (kind:Int) (k:Nat) (e:Xp):Xp:=if kind≠4∧k<6∧(k<3∨kind=3) then .mk 3 0 [e,numX (cmpV b k)] else e
def mvL (b:Vec) (kind:Int):Nat→List Xp→List Xp
 | _,[]=>[]
 | k,e::r=>mvE b kind k e::mvL b kind (k+1) r
def mvS (b:Vec) (s:Stm):Stm:=(s.1,s.2.1,[],mvL b s.1 0 s.2.2.2)
def mvN (b:Vec) (kind:Int):Nat→List Int→List Int
 | _,[]=>[]
 | k,n::r=>(if kind≠4∧k<6∧(k<3∨kind=3) then n+cmpV b k else n)::mvN b kind (k+1) r
theorem zo2 {b:Vec} (hb:By b) (k:Nat):Rg (cmpV b k):=by
 obtain ⟨h1,h2,h3⟩:=hb
 unfold cmpV Rg
 repeat' split
 all_goals omega
theorem zkE {n a:Int} (h:Rg n):chkX (numX n) a=0:=by
 have q:=zes (a:=a) h
 exact q
theorem zkC {n c a:Int} (hn:Rg n) (hc:Rg c):z6 (.mk 3 0 [numX n,numX c]) a=0:=by
 show (if (3:Int) > 30 then (2:Int) else chkX (.mk 3 0 [numX n,numX c]) a)=0
 rw [if_neg (by omega),chkX,chkL,chkL,chkL,zkE hn,zkE hc]
 have hf:zj 3 0 2 a=0:=by
  unfold zj
  rw [if_neg (by omega),if_pos ⟨by omega,rfl,rfl⟩]
 show (if zj 3 0 2 a≠0 then zj 3 0 2 a else _)=0
 rw [hf];rfl
theorem zkS {n:Int} {args:List Int} (h:Rg n):evalX args (numX n)=some n:=by
 have hq:evalX args (numX n)=valO n:=by unfold numX evalX;rfl
 rw [hq]
 unfold valO
 rw [if_pos (zcc.2 h)]
theorem znt {n c:Int} (hn:Rg n) (hc:Rg c) (h:(evalE (.mk 3 0 [numX n,numX c]) []).2=0):(evalE (.mk 3 0 [numX n,numX c]) []).1=n+c:=by
 have e:evalX [] (.mk 3 0 [numX n,numX c])=valO (n+c):=by
  rw [evalX,evalL,evalL,evalL,zkS hn,zkS hc]
  rfl
 unfold evalE at h ⊢
 rw [zkC hn hc,e] at h ⊢
 cases hv:valO (n+c) with
 | none=>rw [hv] at h;cases h
 | some v=>exact (zX hv).1
theorem zmM {args:List Int} {x:Xp} {r:List Xp} {v:List Int} (h:valsE args (x::r)=.ok v):(evalE x args).2=0∧∃u,valsE args r=.ok u∧v=(evalE x args).1::u:=by
 rw [valsE] at h
 by_cases h0:(evalE x args).2≠0
 ·rw [if_pos h0] at h;cases h
 ·rw [if_neg h0] at h
  cases hr:valsE args r with
  | error e=>rw [hr] at h;cases h
  | ok u =>
   rw [hr] at h
   injection h with h
   exact ⟨by omega,u,rfl,h.symm⟩
theorem zmO {b:Vec} (hb:By b) {kind:Int}:∀{l:List Int} {k:Nat} {v:List Int},(∀n∈l,Rg n)→valsE [] (mvL b kind k (l.map numX))=.ok v→v=mvN b kind k l
 | [],k,v,_,h=>by injection h with h;exact h.symm
 | n::r,k,v,hl,h=>by
  rw [List.map_cons,mvL] at h
  obtain ⟨h0,u,hu,e⟩:=zmM h
  have hn:=hl n (by simp)
  rw [e,mvN,zmO hb (fun x hx=>hl x (List.mem_cons_of_mem _ hx)) hu]
  unfold mvE at h0 ⊢
  split
  ·rename_i hc
   rw [if_pos hc] at h0
   rw [znt hn (zo2 hb k) h0]
  ·rw [ziy hn]
theorem zhi:∀{l:List Xp},(∀e∈l,Sm 0 e)→∃ns:List Int,l=ns.map numX∧∀n∈ns,Rg n
 | [],_=>⟨[],rfl,fun n hn=>by cases hn⟩
 | e::r,h=>by
  obtain ⟨ns,h1,h2⟩:=zhi fun x hx=>h x (List.mem_cons_of_mem e hx)
  rcases h e (by simp) with ⟨n,hn,rfl⟩ | ⟨_,h0⟩
  ·exact ⟨n::ns,by rw [h1];rfl,fun x hx=>by
    rcases List.mem_cons.1 hx with rfl | hx
    ·exact hn
    ·exact h2 x hx⟩
  ·exact absurd h0.1 (by decide)
theorem zoX {m:Mov} (h:chkM m=0):inV m.2.2.1=true∧inV m.2.2.2.1=true:=by
 unfold chkM at h
 split at h
 ·split at h
  ·rename_i h1;simp only [Bool.and_eq_true] at h1;exact ⟨h1.2.1,h1.2.2.1⟩
  ·cases h
 ·split at h
  ·split at h
   ·rename_i h1;simp only [Bool.and_eq_true] at h1;exact ⟨h1.2.1,h1.2.2.1⟩
   ·cases h
  ·cases h
section
variable {b:Vec} (hb:By b)
include hb
theorem zn9 {a1 a2 a3:Int} {s t s2 t2:Rn} (hR:Shr b s t) (h:zJ [a1,a2,a3] s=.ok s2) (h2:zJ [a1+b.1,a2+b.2.1,a3+b.2.2] t=.ok t2):Shr b s2 t2:=by
 unfold zJ at h h2
 rw [show vecOf [a1,a2,a3] 0=(a1,a2,a3) from rfl] at h
 rw [show vecOf [a1+b.1,a2+b.2.1,a3+b.2.2] 0=(a1+b.1,a2+b.2.1,a3+b.2.2) from rfl] at h2
 split at h
 ·cases h
 split at h
 ·rename_i hi
  split at h2
  ·cases h2
  split at h2
  ·rename_i hj
   have e:addV (a1,a2,a3) b=(a1+b.1,a2+b.2.1,a3+b.2.2):=zbJ hi hb
   exact zii hb (k:=1) (co:=(0,0,0)) (to_:=(a1,a2,a3)) hR ⟨hi,by rw [e];exact hj⟩ h (by rw [e];exact h2)
  ·cases h2
 ·cases h
theorem zqj {a1 a2 a3 f:Int} {s t s2 t2:Rn} (hR:Shr b s t) (h:lineS [a1,a2,a3,f] s=.ok s2) (h2:lineS [a1+b.1,a2+b.2.1,a3+b.2.2,f] t=.ok t2):Shr b s2 t2:=by
 obtain ⟨p,mv,dn,c⟩:=s
 obtain ⟨p2,mv2,dn2,c2⟩:=t
 unfold lineS at h h2
 rw [show vecOf [a1,a2,a3,f] 0=(a1,a2,a3) from rfl,show [a1,a2,a3,f].getD 3 0=f from rfl] at h
 rw [show vecOf [a1+b.1,a2+b.2.1,a3+b.2.2,f] 0=(a1+b.1,a2+b.2.1,a3+b.2.2) from rfl,show [a1+b.1,a2+b.2.1,a3+b.2.2,f].getD 3 0=f from rfl] at h2
 split at h
 ·rename_i hi
  split at h2
  ·rename_i hj
   simp only [Bool.and_eq_true] at hi hj
   have e:addV (a1,a2,a3) b=(a1+b.1,a2+b.2.1,a3+b.2.2):=zbJ hi.1 hb
   rw [← e] at h2 hj
   have hc:=hR.c
   match c,c2,hc with
   | none,none,_ =>
    exact zii hb (k:=2) (co:=(0,0,0)) (to_:=(a1,a2,a3)) hR ⟨hi.1,hj.1⟩ h h2
   | some c,some d,hc =>
    dsimp only at h h2
    have hq:addV (a1,a2,a3) b=p2↔(a1,a2,a3)=p:=by
     have:=hR.p
     dsimp only at this
     rw [this];exact zkm hi.1 hR.i.1 hb
    by_cases he:(a1,a2,a3)=p
    ·rw [if_pos he] at h
     rw [if_pos (hq.2 he)] at h2
     injection h with h
     injection h2 with h2
     rw [← h,← h2];exact hR
    ·rw [if_neg he] at h
     rw [if_neg fun x=>he (hq.1 x)] at h2
     split at h
     ·cases h
     split at h2
     ·cases h2
     injection h with h
     injection h2 with h2
     rw [← h,← h2]
     obtain ⟨k1,k2,⟨k3,k4⟩,k5⟩:=hc
     refine ⟨rfl,⟨hi.1,hj.1⟩,hR.m,k1,k2,⟨?_,?_⟩,?_⟩
     ·show d.2.2.1++[_]=(c.2.2.1++[_]).map _
      rw [k3,List.map_append];rfl
     ·intro q hq
      rcases List.mem_append.1 hq with hq | hq
      ·exact k4 q hq
      ·obtain rfl:=List.mem_singleton.1 hq
       exact ⟨hi.1,hj.1⟩
     ·show d.2.2.2++_=c.2.2.2++_
      rw [k5]
  ·cases h2
 ·cases h
theorem zrz {a1 a2 a3 a4 a5 a6 f:Int} {s t s2 t2:Rn} (hR:Shr b s t) (h:arcS [a1,a2,a3,a4,a5,a6,f] s=.ok s2) (h2:arcS [a1+b.1,a2+b.2.1,a3+b.2.2,a4+b.1,a5+b.2.1,a6+b.2.2,f] t=.ok t2):Shr b s2 t2:=by
 unfold arcS at h h2
 rw [show arcM [a1,a2,a3,a4,a5,a6,f] s=(3,s.1,(a4,a5,a6),(a1,a2,a3),f) from rfl] at h
 rw [show arcM [a1+b.1,a2+b.2.1,a3+b.2.2,a4+b.1,a5+b.2.1,a6+b.2.2,f] t=(3,t.1,(a4+b.1,a5+b.2.1,a6+b.2.2),(a1+b.1,a2+b.2.1,a3+b.2.2),f) from rfl] at h2
 split at h
 ·cases h
 split at h
 ·cases h
 rename_i hc
 split at h2
 ·cases h2
 split at h2
 ·cases h2
 rename_i hd
 have hi:=zoX (Decidable.not_not.1 hc)
 have hj:=zoX (Decidable.not_not.1 hd)
 have e1:addV (a4,a5,a6) b=(a4+b.1,a5+b.2.1,a6+b.2.2):=zbJ hi.1 hb
 have e2:addV (a1,a2,a3) b=(a1+b.1,a2+b.2.1,a3+b.2.2):=zbJ hi.2 hb
 exact zii hb (k:=3) (co:=(a1,a2,a3)) (to_:=(a4,a5,a6)) hR ⟨hi.1,by rw [e1];exact hj.1⟩ h (by rw [if_pos rfl,e1,e2];exact h2)
theorem zrj {n:Int} {v:List Int} {s t s2 t2:Rn} (hR:Shr b s t) (h:turnS n v s=.ok s2) (h2:turnS n v t=.ok t2):Shr b s2 t2:=by
 unfold turnS at h h2
 by_cases hn:n=0
 ·rw [if_pos hn] at h h2
  exact zpp hb hR h h2
 ·rw [if_neg hn] at h h2
  split at h
  ·cases h
  split at h
  ·cases h
  split at h2
  ·cases h2
  injection h with h
  injection h2 with h2
  rw [← h,← h2]
  exact ⟨hR.p,hR.i,hR.m,⟨hR.p,hR.i.1,hR.i.2⟩,rfl,⟨rfl,fun p hp=>by cases hp⟩,rfl⟩
theorem mvN4:∀{k:Nat} {l:List Int},mvN b 4 k l=l
 | _,[]=>rfl
 | k,n::r=>by rw [mvN,if_neg (fun h=>h.1 rfl),mvN4]
theorem zqP {x:Stm} (hx:Gs 0 x) {s t s2 t2:Rn} (hR:Shr b s t) (h:step0 [] s x=.ok s2) (h2:step0 [] t (mvS b x)=.ok t2):Shr b s2 t2:=by
 obtain ⟨k,n,w,l⟩:=x
 obtain ⟨hw,hk,hl⟩:=hx
 obtain ⟨ns,e,hn⟩:=zhi hl
 dsimp only at hw hk e
 subst hw e
 unfold step0 at h h2
 rw [show ((k,n,[],ns.map numX):Stm).2.2.2=ns.map numX from rfl,zgA hn] at h
 rw [show (mvS b (k,n,[],ns.map numX)).2.2.2=mvL b k 0 (ns.map numX) from rfl] at h2
 cases hv:valsE [] (mvL b k 0 (ns.map numX)) with
 | error e=>rw [hv] at h2;cases h2
 | ok v =>
  rw [hv] at h2
  have e:=zmO hb hn hv
  subst e
  rw [List.length_map] at hk
  dsimp only at h h2
  rcases hk with ⟨rfl,rfl,hl⟩ | ⟨rfl,rfl,hl⟩ | ⟨rfl,rfl,hl⟩ | ⟨rfl,_⟩ | ⟨rfl,_⟩ | ⟨rfl,_⟩
  ·match ns,hl with
   | [a1,a2,a3],_ =>
    rw [hand1 rfl] at h h2
    exact zn9 hb hR h h2
  ·match ns,hl with
   | [a1,a2,a3,f],_ =>
    rw [hand2 rfl] at h h2
    exact zqj hb hR h h2
  ·match ns,hl with
   | [a1,a2,a3,a4,a5,a6,f],_ =>
    rw [hand3 rfl] at h h2
    exact zrz hb hR h h2
  all_goals
   rw [hand4 rfl] at h h2
   rw [mvN4 hb] at h2
   exact zrj hb hR h h2
theorem zk5:∀{l:List Stm} {s t s2 t2:Rn},(∀x∈l,Gs 0 x)→Shr b s t→l.foldlM (step0 []) s=.ok s2→(l.map (mvS b)).foldlM (step0 []) t=.ok t2→Shr b s2 t2
 | [],s,t,s2,t2,_,hR,h,h2=>by
  injection h with h
  injection h2 with h2
  rw [← h,← h2];exact hR
 | x::r,s,t,s2,t2,hl,hR,h,h2=>by
  rw [List.map_cons,zbS] at h2
  rw [zbS] at h
  cases h3:step0 [] s x with
  | error e=>rw [h3] at h;cases h
  | ok s3 =>
   cases h4:step0 [] t (mvS b x) with
   | error e=>rw [h4] at h2;cases h2
   | ok t3 =>
    rw [h3] at h
    rw [h4] at h2
    exact zk5 (fun y hy=>hl y (List.mem_cons_of_mem _ hy)) (zqP hb (hl x (by simp)) hR h3 h4) h h2
end
end Go.Proofs.YteimplkdcjapdaaGreatDoor
namespace Go.Proofs.YteimplkdcjapdaaGreatDoor
open Go.RowKit
theorem zeo {m:Mov} {s:Rn} {e:Int} (h:addS m s=.error e):e≠0:=by
 unfold addS at h
 split at h
 ·cases h
 split at h
 ·injection h with h;omega
 ·cases h
theorem zij {f:List Int} {e:Int}:∀{l:List Vec} {k:Nat} {s:Rn},addsL f k l s=.error e→e≠0
 | [],_,_,h=>by cases h
 | p::r,k,s,h=>by
  rw [addsL] at h
  split at h
  ·exact zij h
  ·rename_i e2 h2
   injection h with h
   rw [← h];exact zeo h2
theorem zpn {s:Rn} {e:Int} (h:offS s=.error e):e≠0:=by
 unfold offS at h
 split at h
 ·cases h
 split at h
 ·cases h
 split at h
 ·injection h with h;omega
 split at h
 ·injection h with h;omega
 split at h
 ·exact zij h
 ·injection h with h;omega
theorem zqa {x:Stm} {v:List Int} {s:Rn} {e:Int} (h:handS x v s=.error e):e≠0:=by
 unfold handS at h
 split at h
 ·unfold zJ at h
  split at h
  ·injection h with h;omega
  split at h
  ·exact zeo h
  ·injection h with h;omega
 split at h
 ·unfold lineS at h
  split at h
  ·split at h
   ·exact zeo h
   ·split at h
    ·cases h
    split at h
    ·injection h with h;omega
    ·cases h
  ·injection h with h;omega
 split at h
 ·unfold arcS at h
  split at h
  ·injection h with h;omega
  split at h
  ·rename_i hc
   injection h with h
   rw [← h];exact hc
  ·exact zeo h
 ·unfold turnS at h
  split at h
  ·exact zpn h
  split at h
  ·injection h with h;omega
  split at h
  ·injection h with h;omega
  ·cases h
theorem zmN {args:List Int} {e:Int}:∀{l:List Xp},valsE args l=.error e→e≠0
 | [],h=>by cases h
 | x::r,h=>by
  rw [valsE] at h
  split at h
  ·rename_i hc
   injection h with h
   rw [← h];exact hc
  ·split at h
   ·cases h
   ·rename_i e2 h2
    injection h with h
    rw [← h];exact zmN h2
theorem zqN {args:List Int} {x:Stm} {s:Rn} {e:Int} (h:step0 args s x=.error e):e≠0:=by
 unfold step0 at h
 split at h
 ·exact zqa h
 ·rename_i e2 h2
  injection h with h
  rw [← h];exact zmN h2
theorem zk4 {args:List Int} {e:Int}:∀{l:List Stm} {s:Rn},l.foldlM (step0 args) s=.error e→e≠0
 | [],_,h=>by cases h
 | x::r,s,h=>by
  rw [zbS] at h
  cases h2:step0 args s x with
  | ok t=>rw [h2] at h;exact zk4 h
  | error e2 =>
   rw [h2] at h
   injection h with h
   rw [← h];exact zqN h2
theorem zkX {args:List Int} {l:List Stm} {s:Rn} (h:(finR (l.foldlM (step0 args) s)).2=0):∃t u,l.foldlM (step0 args) s=.ok t∧offS t=.ok u∧finR (l.foldlM (step0 args) s)=(u.2.1,0):=by
 cases h2:l.foldlM (step0 args) s with
 | error e =>
  rw [h2] at h
  exact absurd h (zk4 h2)
 | ok t =>
  rw [h2] at h
  unfold finR at h
  dsimp only at h
  cases h3:offS t with
  | error e=>rw [h3] at h;exact absurd h (zpn h3)
  | ok u=>exact ⟨t,u,rfl,h3,by unfold finR;dsimp only;rw [h3]⟩
theorem run_0 {l:List Stm} {st:Vec} (hc:zD (mainX l)=0) (hs:inV st=true) (h5:∀x∈l,x.1≠5) (hl:l.length≤100):runP (mainX l) [] st=finR (l.foldlM (step0 []) (st,[],0,none)):=by
 unfold runP
 rw [zdt hc hs (x:=([109,97,105,110],0,l)) rfl,if_neg (by show ¬ (0:Int)≠0;omega)]
 have e:finR (zB (suOf (mainX l)) 7 l [] (st,[],0,none))=finR (l.foldlM (step0 []) (st,[],0,none)):=by
  rw [zdR,zpd h5 (by show (0:Int)+(l.length:Int)≤1000;omega)]
  exact fin_d
 rw [← e]
 show (match (match zB (suOf (mainX l)) 7 l [] (st,[],0,none) with
  | .error e=>.error e
  | .ok s=>match offS s with
   | .error e=>.error e
   | .ok t=>.ok t.2.1:Except Int (List Mov)) with
  | .ok r=>(r,(0:Int))
  | .error k=>([],k))=_
 cases zB (suOf (mainX l)) 7 l [] (st,[],0,none) with
 | error e=>rfl
 | ok s =>
  unfold finR
  dsimp only
  cases offS s<;>rfl
theorem zlu {b:Vec} {kind:Int}:∀{l:List Xp} {k:Nat},(mvL b kind k l).length=l.length
 | [],_=>rfl
 | x::r,k=>by rw [mvL,List.length_cons,List.length_cons,zlu]
theorem zpl {b:Vec} (hb:By b) {kind:Int}:∀{l:List Int} {k:Nat},(∀n∈l,Rg n)→∀e∈mvL b kind k (l.map numX),z6 e 0=0∧nodes e≤1000000
 | [],_,_,e,he=>by cases he
 | n::r,k,h,e,he=>by
  rw [List.map_cons,mvL] at he
  rcases List.mem_cons.1 he with rfl | he
  ·have hn:=h n (by simp)
   unfold mvE
   split
   ·exact ⟨zkC hn (zo2 hb k),by show 3≤1000000;omega⟩
   ·exact ⟨zes hn,by show 1≤1000000;omega⟩
  ·exact zpl hb (fun x hx=>h x (List.mem_cons_of_mem _ hx)) e he
theorem ziA {a:Int}:∀{l:List Xp},(∀e∈l,z6 e a=0)→zbb a l=0
 | [],_=>rfl
 | e::r,h=>by rw [zbb,h e (by simp),ziA fun x hx=>h x (List.mem_cons_of_mem _ hx)];rfl
theorem zpm {b:Vec} (hb:By b) {s:Stm} (h:Gs 0 s):stmE 0 (mvS b s)=0∧(mvS b s).2.2.2.length≤1000000∧∀e∈(mvS b s).2.2.2,nodes e≤1000000:=by
 obtain ⟨k,n,w,l⟩:=s
 obtain ⟨h1,h2,h3⟩:=h
 obtain ⟨ns,e,hn⟩:=zhi h3
 dsimp only at h1 h2 e
 subst h1 e
 rw [List.length_map] at h2
 have hm:=zpl hb (kind:=k) (k:=0) hn
 have hl:(mvL b k 0 (ns.map numX)).length=ns.length:=by rw [zlu,List.length_map]
 have hx:=ziA (a:=0) (l:=mvL b k 0 (ns.map numX)) fun e he=>(hm e he).1
 refine ⟨?_,by show (mvL b k 0 (ns.map numX)).length≤1000000;omega,fun e he=>(hm e he).2⟩
 show stmE 0 (k,n,[],mvL b k 0 (ns.map numX))=0
 generalize mvL b k 0 (ns.map numX)=l at *
 rcases h2 with ⟨rfl,rfl,hq⟩ | ⟨rfl,rfl,hq⟩ | ⟨rfl,rfl,hq⟩ | ⟨rfl,rfl,hq⟩ | ⟨rfl,rfl,hq⟩ | ⟨rfl,rfl,hq⟩
 ·exact qL (f:=zg.getD 0 (0,0,[],0)) (m:=3) (by kernel_rfl) (by kernel_rfl) (by omega) hx
 ·exact qL (f:=zg.getD 1 (0,0,[],0)) (m:=4) (by kernel_rfl) (by kernel_rfl) (by omega) hx
 ·exact qL (f:=zg.getD 2 (0,0,[],0)) (m:=7) (by kernel_rfl) (by kernel_rfl) (by omega) hx
 ·exact qL (f:=zg.getD 3 (0,0,[],0)) (m:=0) (by kernel_rfl) (by kernel_rfl) (by omega) hx
 ·exact qL (f:=zg.getD 4 (0,0,[],0)) (m:=1) (by kernel_rfl) (by kernel_rfl) (by omega) hx
 ·exact qL (f:=zg.getD 5 (0,0,[],0)) (m:=1) (by kernel_rfl) (by kernel_rfl) (by omega) hx
theorem by_in {b:Vec} (hb:By b):inV b=true:=by
 obtain ⟨h1,h2,h3⟩:=hb
 exact zeD.2 ⟨by omega,by omega,by omega⟩
theorem zbr {l:List Stm} (h:∀x∈l,Gs 0 x) (hl:l.length≤20):zD (mainX l)=0∧SbW (mainX l):=⟨zdS (by omega) (zqQ h),zjg (by omega) fun s hs=>gs_w (h s hs)⟩
theorem zhg {b:Vec} (hb:By b) {l:List Stm} (h:∀x∈l,Gs 0 x) (hl:l.length≤20):zD (mainX (l.map (mvS b)))=0∧SbW (mainX (l.map (mvS b))):=by
 refine ⟨zdS (by rw [List.length_map];omega) fun s hs=>?_,zjg (by rw [List.length_map];omega) fun s hs=>?_⟩
 ·obtain ⟨x,hx,rfl⟩:=List.mem_map.1 hs
  exact (zpm hb (h x hx)).1
 ·obtain ⟨x,hx,rfl⟩:=List.mem_map.1 hs
  exact (zpm hb (h x hx)).2
theorem zsi {b:Vec} (hb:By b) {l:List Stm} (h:∀x∈l,Gs 0 x) (hl:l.length≤20) (h1:(runP (mainX l) [] (0,0,0)).2=0) (h2:(runP (mainX (l.map (mvS b))) [] b).2=0):(runP (mainX (l.map (mvS b))) [] b).1=(runP (mainX l) [] (0,0,0)).1.map (shM b):=by
 have h5:∀x∈l.map (mvS b),x.1≠5:=fun s hs=>by
  obtain ⟨x,hx,rfl⟩:=List.mem_map.1 hs
  show x.1≠5
  exact ziN (h x hx)
 rw [run_0 (zbr h hl).1 (by decide +kernel) (fun x hx=>ziN (h x hx)) (by omega)] at h1 ⊢
 rw [run_0 (zhg hb h hl).1 (by_in hb) h5 (by rw [List.length_map];omega)] at h2 ⊢
 obtain ⟨t1,u1,e1,o1,f1⟩:=zkX h1
 obtain ⟨t2,u2,e2,o2,f2⟩:=zkX h2
 rw [f1,f2]
 have hp:addV (0,0,0) b=b:=by
  rw [zbJ (by decide +kernel) hb]
  show (0+b.1,0+b.2.1,0+b.2.2)=b
  rw [Int.zero_add,Int.zero_add,Int.zero_add]
 exact (zpp hb (zk5 hb h (s:=((0,0,0),[],0,none)) (t:=(b,[],0,none)) ⟨hp.symm,⟨by decide +kernel,by_in hb⟩,rfl,trivial⟩ e1 e2) o1 o2).m
theorem zbk {m:Mov} {s t:Rn} (h:addS m s=.ok t):s.2.1 <+: t.2.1∧t.2.2.2=s.2.2.2:=by
 unfold addS at h
 split at h
 ·injection h with h;rw [← h];exact ⟨List.prefix_refl _,rfl⟩
 split at h
 ·cases h
 ·injection h with h;rw [← h];exact ⟨List.prefix_append _ _,rfl⟩
theorem zik {f:List Int}:∀{l:List Vec} {k:Nat} {s t:Rn},addsL f k l s=.ok t→s.2.1 <+: t.2.1
 | [],_,_,_,h=>by injection h with h;rw [← h];exact List.prefix_refl _
 | p::r,k,s,t,h=>by
  rw [addsL] at h
  split at h
  ·rename_i u hu
   exact (zbk hu).1.trans (zik h)
  ·cases h
theorem zpo {s t:Rn} (h:offS s=.ok t):s.2.1 <+: t.2.1:=by
 unfold offS at h
 split at h
 ·injection h with h;rw [← h];exact List.prefix_refl _
 split at h
 ·injection h with h;rw [← h];exact List.prefix_refl _
 split at h
 ·cases h
 split at h
 ·cases h
 split at h
 ·exact zik (s:=(_,s.2.1,s.2.2.1,none)) h
 ·cases h
theorem zqb {x:Stm} {v:List Int} {s t:Rn} (h:handS x v s=.ok t):s.2.1 <+: t.2.1:=by
 unfold handS at h
 split at h
 ·unfold zJ at h
  split at h
  ·cases h
  split at h
  ·exact (zbk h).1
  ·cases h
 split at h
 ·unfold lineS at h
  split at h
  ·split at h
   ·exact (zbk h).1
   ·split at h
    ·injection h with h;rw [← h];exact List.prefix_refl _
    split at h
    ·cases h
    ·injection h with h;rw [← h];exact List.prefix_refl _
  ·cases h
 split at h
 ·unfold arcS at h
  split at h
  ·cases h
  split at h
  ·cases h
  ·exact (zbk h).1
 ·unfold turnS at h
  split at h
  ·exact zpo h
  split at h
  ·cases h
  split at h
  ·cases h
  ·injection h with h;rw [← h];exact List.prefix_refl _
theorem zqc {x:Stm} {v:List Int} {s t:Rn} (hk:x.1=1∨x.1=2∨x.1=3) (hs:s.2.2.2=none) (h:handS x v s=.ok t):t.2.2.2=none:=by
 rcases hk with hk | hk | hk
 ·rw [hand1 hk] at h
  unfold zJ at h
  split at h
  ·cases h
  split at h
  ·exact (zbk h).2.trans hs
  ·cases h
 ·rw [hand2 hk] at h
  unfold lineS at h
  rw [hs] at h
  split at h
  ·exact (zbk h).2.trans hs
  ·cases h
 ·rw [hand3 hk] at h
  unfold arcS at h
  split at h
  ·cases h
  split at h
  ·cases h
  ·exact (zbk h).2.trans hs
theorem zqO {args:List Int} {x:Stm} {s t:Rn} (h:step0 args s x=.ok t):s.2.1 <+: t.2.1∧((x.1=1∨x.1=2∨x.1=3)→s.2.2.2=none→t.2.2.2=none):=by
 unfold step0 at h
 split at h
 ·exact ⟨zqb h,fun a b=>zqc a b h⟩
 ·cases h
theorem zgZ {args:List Int}:∀{l:List Stm} {s t:Rn},l.foldlM (step0 args) s=.ok t→s.2.1 <+: t.2.1∧((∀x∈l,x.1=1∨x.1=2∨x.1=3)→s.2.2.2=none→t.2.2.2=none)
 | [],s,t,h=>by injection h with h;rw [← h];exact ⟨List.prefix_refl _,fun _ h=>h⟩
 | x::r,s,t,h=>by
  rw [zbS] at h
  cases h2:step0 args s x with
  | error e=>rw [h2] at h;cases h
  | ok u =>
   rw [h2] at h
   have a:=zqO h2
   have b:=zgZ (l:=r) h
   exact ⟨a.1.trans b.1,fun hk hs=>b.2 (fun y hy=>hk y (List.mem_cons_of_mem _ hy)) (a.2 (hk x (by simp)) hs)⟩
theorem zqD {l:List Stm} (h:∀x∈l,Gs 0 x) (hl:l.length≤20) (n:Nat) (h4:∀x∈l.take n,x.1≠4) (h1:(runP (mainX l) [] (0,0,0)).2=0):(runP (mainX (l.take n)) [] (0,0,0)).2=0∧(runP (mainX (l.take n)) [] (0,0,0)).1 <+: (runP (mainX l) [] (0,0,0)).1:=by
 have hg:∀x∈l.take n,Gs 0 x:=fun x hx=>h x (List.mem_of_mem_take hx)
 have hn:(l.take n).length≤20:=Nat.le_trans (List.length_take_le' _ _) hl
 rw [run_0 (zbr h hl).1 (by decide +kernel) (fun x hx=>ziN (h x hx)) (by omega)] at h1 ⊢
 rw [run_0 (zbr hg hn).1 (by decide +kernel) (fun x hx=>ziN (hg x hx)) (by omega)]
 obtain ⟨t,u,e,o,f⟩:=zkX h1
 rw [f]
 have e2:=e
 rw [← List.take_append_drop n l,ziH] at e2
 cases hp:(l.take n).foldlM (step0 []) ((0,0,0),[],0,none) with
 | error k=>rw [hp] at e2;cases e2
 | ok s =>
  rw [hp] at e2
  have hs:=(zgZ hp).2 (fun x hx=>by have:=(hg x hx).2.1;have:=h4 x hx;omega) rfl
  have ho:offS s=.ok s:=by unfold offS;rw [hs]
  have hf:finR (.ok s)=(s.2.1,0):=by unfold finR;dsimp only;rw [ho]
  rw [hf]
  exact ⟨rfl,(zgZ e2).1.trans (zpo o)⟩
end Go.Proofs.YteimplkdcjapdaaGreatDoor
set_option synthInstance.maxSize 2000
set_option synthInstance.maxHeartbeats 400000
namespace Go.Proofs.YteimplkdcjapdaaGreatDoor
open Go.RowKit
def sameF (a b:List Mov) (k:Nat):Bool:=decide (a.drop k=b.drop k)
theorem ze3 {a b:List Mov} {k:Nat} {x:Mov} (h:a[k]?=some x):sameF a b k=(decide (b[k]?=some x) && sameF a b (k+1)):=by
 have e:(a.drop k=b.drop k)↔(b[k]?=some x∧a.drop (k+1)=b.drop (k+1)):=by
  refine ⟨fun e=>⟨?_,?_⟩,fun ⟨e,e2⟩=>?_⟩
  ·have q:=congrArg List.head? e
   rw [List.head?_drop,List.head?_drop,h] at q
   exact q.symm
  ·have q:=congrArg List.tail e
   rwa [List.tail_drop,List.tail_drop] at q
  ·obtain ⟨h1,rfl⟩:=List.getElem?_eq_some_iff.1 h
   obtain ⟨h2,e⟩:=List.getElem?_eq_some_iff.1 e
   rw [List.drop_eq_getElem_cons h1,List.drop_eq_getElem_cons h2,e2,e]
 unfold sameF
 rw [← Bool.decide_and]
 exact decide_eq_decide.2 e
theorem zl7 {b:List Mov} {k:Nat} {x y:Mov} {v:Bool} (h:b[k]?=some y) (e:(!decide (x=y))=v) (hv:v=true):decide (b[k]?=some x)=false:=decide_eq_false fun q=>by
 rw [h] at q
 injection q with q
 rw [hv,q,decide_eq_true rfl] at e
 cases e
theorem zjf {b:List Mov} {k:Nat} {x y:Mov} {v:Bool} (h:b[k]?=some y) (e:(!decide (x=y))=v) (hv:v=false):decide (b[k]?=some x)=true:=by
 by_cases q:x=y
 ·rw [h,q];exact decide_eq_true rfl
 ·rw [hv,decide_eq_false q] at e;cases e
theorem zjd {a b:List Mov} {v1 v2:Int} {v:Bool} (h1:(a.length:Int)=v1) (h2:(b.length:Int)=v2) (e:(v1 != v2)=v) (hv:v=false):a.length=b.length:=by
 rw [hv,bne_eq_false_iff_eq] at e
 omega
def zdu:List Atom:=[.sl 0 0,.sl 1 1,.sl 5 5]
def zhB:LoopS:=⟨4,zdu.map (tnA (jf (hZ 5 [kI 0])) (kf []) (kf [])),(.x 0),(drs [2] zdu)⟩
def zqE:Tr:=.s [(0,.fb 4 false),(5002,.ln 36 3 0),(5003,.bin .lss 3 5 6)] (.b 7 (.s [(5006,.ia 36 45 11 0 5),(5007,.ld 45 11 8),(5010,.ia 36 45 11 1 5),(5011,.ld 45 11 20),(0,.raw [(1005012,.bin .neq 45 (.o (.g [9,10,11,12,13,14,15,16,17,18,19])) (.o (.g [21,22,23,24,25,26,27,28,29,30,31])) 32)] 1)] (.b 32 (.z .no) (.s [(5014,.bin .add 3 5 (kI 1))] (.z (.nx (hZ 5 [33]) [] []))))) (.z (.xt (.x 0) (hZ 5 []) [] [])))
theorem zod {w0:World} (a:(List Mov)) (b:(List Mov)) (v1:Int) (v2:Int) (v3:Bool) (h4:v3=false) (hb:a.length<9223372036854775808∧a.length=b.length) (hO:sameF a b 0=true):LpH (KN w0) Tryz.prog 18 ⟨ntOf Tryz.prog 18,[],[]⟩ zhB 0 ⟨5,[sB v3,sI v2,sI v1,.ls 11 cM kM b,.ls 11 cM kM a],[],[]⟩:=by
 refine zi _ ⟨zdu,zhB,(6,0,0),(5,0,0),5000⟩ (T:=Int) (fun t=>⟨6,[sI t,sB v3,sI v2,sI v1,.ls 11 cM kM b,.ls 11 cM kM a],[],[]⟩) (fun i=>∃k:Nat,i=(k:Int)∧k≤a.length∧sameF a b k=true) (fun i=>((a.length:Int) - i).toNat) (0:Int) (hZ 5 [kI 0]) [] [] zqE mixed ⟨0,rfl,Nat.zero_le _,hO⟩ rfl rfl rfl rfl (fun _=>rfl) rfl rfl (by kernel_rfl) ?_
 intro i hJ
 obtain ⟨k,hi,hk,hs⟩:=hJ
 refine ai h4 ?_
 intro v501 e501 v502 e502
 refine ai (fun h503=>?_) fun h503=>?_
 ·
  have dh503:=LD e502 h503
  refine ai (by (have hz:=e501;have hlt:k<a.length:=(by omega);exact ⟨k,_,hi,List.getElem?_eq_getElem hlt⟩)) fun n504 x505 s506 s507=>?_
  refine ai (by (have hz:=e501;have hlt:k<b.length:=(by omega);exact ⟨k,_,hi,List.getElem?_eq_getElem hlt⟩)) fun n508 x509 s510 s511=>?_
  obtain ⟨v512,e512⟩:=LX (!decide (x505=x509))
  refine rx [sB v512] [] [] (fun t u w=>⟨e_eqM (x:=x505) (y:=x509) (neg:=true) ⟨(za rfl),(za rfl),(za rfl),(za rfl),(za rfl),(za rfl),(za rfl),(za rfl),(za rfl),(za rfl),(za rfl),trivial⟩ ⟨(za rfl),(za rfl),(za rfl),(za rfl),(za rfl),(za rfl),(za rfl),(za rfl),(za rfl),(za rfl),(za rfl),trivial⟩ (za (by rw [e512];rfl)),trivial⟩) ?_
  refine ai (fun h513=>?_) fun h513=>?_
  ·
   have dh513:=(Bool.not_eq_true' _).mp (e512.trans h513)
   exfalso
   (have hz:=e501;have hkn:n504=k:=(by omega);subst hkn;have hlt:n504<a.length:=(List.getElem?_eq_some_iff.1 s507).1;have hd:=ze3 (b:=b) s507;rw [hs] at hd;have hm:n504=n508:=(by omega);subst hm;have hq:decide (b[n504]?=some x505)=false:=zl7 s511 e512 h513;rw [hq] at hd;exfalso;rw [Bool.false_and] at hd;first | exact absurd hd (by decide) | exact hd | exact hd.symm)
  ·
   intro v514 e514
   have dh513:=(Bool.not_eq_false' _).mp (e512.trans h513)
   refine nxl v514 ?_ ?_ rfl
   all_goals (have hz:=e501;have hkn:n504=k:=(by omega);subst hkn;have hlt:n504<a.length:=(List.getElem?_eq_some_iff.1 s507).1;have hd:=ze3 (b:=b) s507;rw [hs] at hd;have hm:n504=n508:=(by omega);subst hm;have hq:decide (b[n504]?=some x505)=true:=zjf s511 e512 h513;rw [hq] at hd;have x3:v514=((n504+1:Nat):Int):=(by rw [← e514,hi,wri (by omega)];omega);have hn:sameF a b (n504+1)=true:=(by rw [Bool.true_and] at hd;exact hd.symm))
   ·show ((a.length:Int) - v514).toNat<((a.length:Int) - i).toNat
    omega
   ·exact ⟨n504+1,x3,by omega,hn⟩
 ·
  rfl
def zdv:List Atom:=[.sl 0 0,.sl 1 1,.sl 5 5]
def zhC:LoopS:=⟨4,zdv.map (tnA (jf (hZ 5 [kI 0])) (kf []) (kf [])),.r,(drs [2] zdv)++[.sl 4 5]⟩
def zqF:Tr:=.s [(0,.fb 4 false),(5002,.ln 36 3 0),(5003,.bin .lss 3 5 6)] (.b 7 (.s [(5006,.ia 36 45 11 0 5),(5007,.ld 45 11 8),(5010,.ia 36 45 11 1 5),(5011,.ld 45 11 20),(0,.raw [(1005012,.bin .neq 45 (.o (.g [9,10,11,12,13,14,15,16,17,18,19])) (.o (.g [21,22,23,24,25,26,27,28,29,30,31])) 32)] 1)] (.b 32 (.z (.xt .r (hZ 5 [kB false]) [] [])) (.s [(5014,.bin .add 3 5 (kI 1))] (.z (.nx (hZ 5 [33]) [] []))))) (.z .no))
theorem zoe {w0:World} (a:(List Mov)) (b:(List Mov)) (v1:Int) (v2:Int) (v3:Bool) (h4:v3=false) (o:Bool) (hb:a.length<9223372036854775808∧a.length=b.length) (hO:sameF a b 0=o) (ho:o≠true):LpH (KN w0) Tryz.prog 18 ⟨ntOf Tryz.prog 18,[],[]⟩ zhC 0 ⟨6,[sB o,sB v3,sI v2,sI v1,.ls 11 cM kM b,.ls 11 cM kM a],[],[]⟩:=by
 refine zi _ ⟨zdv,zhC,(6,0,0),(6,0,0),5000⟩ (T:=Int) (fun t=>⟨6,[sI t,sB v3,sI v2,sI v1,.ls 11 cM kM b,.ls 11 cM kM a],[],[]⟩) (fun i=>∃k:Nat,i=(k:Int)∧k≤a.length∧sameF a b k=o) (fun i=>((a.length:Int) - i).toNat) (0:Int) (hZ 5 [kI 0]) [] [] zqF mixed ⟨0,rfl,Nat.zero_le _,hO⟩ rfl rfl rfl rfl (fun _=>rfl) rfl rfl (by kernel_rfl) ?_
 intro i hJ
 obtain ⟨k,hi,hk,hs⟩:=hJ
 refine ai h4 ?_
 intro v501 e501 v502 e502
 refine ai (fun h503=>?_) fun h503=>?_
 ·
  have dh503:=LD e502 h503
  refine ai (by (have hz:=e501;have hlt:k<a.length:=(by omega);exact ⟨k,_,hi,List.getElem?_eq_getElem hlt⟩)) fun n504 x505 s506 s507=>?_
  refine ai (by (have hz:=e501;have hlt:k<b.length:=(by omega);exact ⟨k,_,hi,List.getElem?_eq_getElem hlt⟩)) fun n508 x509 s510 s511=>?_
  obtain ⟨v512,e512⟩:=LX (!decide (x505=x509))
  refine rx [sB v512] [] [] (fun t u w=>⟨e_eqM (x:=x505) (y:=x509) (neg:=true) ⟨(za rfl),(za rfl),(za rfl),(za rfl),(za rfl),(za rfl),(za rfl),(za rfl),(za rfl),(za rfl),(za rfl),trivial⟩ ⟨(za rfl),(za rfl),(za rfl),(za rfl),(za rfl),(za rfl),(za rfl),(za rfl),(za rfl),(za rfl),(za rfl),trivial⟩ (za (by rw [e512];rfl)),trivial⟩) ?_
  refine ai (fun h513=>?_) fun h513=>?_
  ·
   have dh513:=(Bool.not_eq_true' _).mp (e512.trans h513)
   have hq:((false)=o)∧True:=by
    refine ⟨?_,trivial⟩
    (have hz:=e501;have hkn:n504=k:=(by omega);subst hkn;have hlt:n504<a.length:=(List.getElem?_eq_some_iff.1 s507).1;have hd:=ze3 (b:=b) s507;rw [hs] at hd;have hm:n504=n508:=(by omega);subst hm;have hq:decide (b[n504]?=some x505)=false:=zl7 s511 e512 h513;rw [hq] at hd;rw [Bool.false_and] at hd;first | exact absurd hd (by decide) | exact hd | exact hd.symm)
   obtain ⟨q0,-⟩:=hq
   rw [← q0]
   rfl
  ·
   intro v514 e514
   have dh513:=(Bool.not_eq_false' _).mp (e512.trans h513)
   refine nxl v514 ?_ ?_ rfl
   all_goals (have hz:=e501;have hkn:n504=k:=(by omega);subst hkn;have hlt:n504<a.length:=(List.getElem?_eq_some_iff.1 s507).1;have hd:=ze3 (b:=b) s507;rw [hs] at hd;have hm:n504=n508:=(by omega);subst hm;have hq:decide (b[n504]?=some x505)=true:=zjf s511 e512 h513;rw [hq] at hd;have x3:v514=((n504+1:Nat):Int):=(by rw [← e514,hi,wri (by omega)];omega);have hn:sameF a b (n504+1)=o:=(by rw [Bool.true_and] at hd;exact hd.symm))
   ·show ((a.length:Int) - v514).toNat<((a.length:Int) - i).toNat
    omega
   ·exact ⟨n504+1,x3,by omega,hn⟩
 ·
  have dh503:=LE e502 h503
  exfalso
  (have hz:=e501;have hkl:k=a.length:=(by omega);rw [hkl] at hs;exact absurd (hs.symm.trans (by unfold sameF;rw [List.drop_length,List.drop_eq_nil_of_le (by omega)];rfl)) ho)
def zox:Tr:=.s [(2,.ln 36 3 0),(4,.ln 36 3 1),(5,.bin .neq 3 2 3)] (.b 4 (.z (.ret false (LF (kB false)) [])) (.r (.s [(0,.lp zhB 0 0)] (.z (.ret false (LF (kB true)) []))) (.s [(0,.lp zhC 0 1)] (.z (.ret false (5) [])))))
theorem zpN {w0:World} (a b:List Mov) (r:Bool) (hr:sameF a b 0=r) (hb_:a.length<9223372036854775808):Fun (KN w0) Tryz.prog 18 [.o (.c (pLs cM a)),.o (.c (pLs cM b))] (.o (.c (pB r))):=by
 refine tfn w0 18 ⟨[0,1],[],[],0,0⟩ ⟨2,[.ls 11 cM kM b,.ls 11 cM kM a],[],[]⟩ zox (by kernel_rfl) ?_
 intro v1 e1 v2 e2 v3 e3
 refine ai (fun h4=>?_) fun h4=>?_
 ·
  intro hc
  refine Fun.fin (r:=.o (.c (pV (.bool false)))) (zc (hc)) (fun v W D h=>?_)
  have r0:r=false:=by
   (have q:r=false:=(by rw [← hr];exact decide_eq_false fun e=>by have hq:=e3;rw [h4,← e1,← e2,show a=b from e] at hq;simp at hq);first | exact q | exact q.symm)
  rw [r0];exact h
 ·
  by_cases c4:sameF a b 0=true
  ·
   refine Or.inl ?_
   refine rx [] [] [] (zod a b v1 v2 v3 h4   ⟨hb_,zjd e1 e2 e3 h4⟩ c4  ) ?_
   intro hc
   refine Fun.fin (r:=.o (.c (pV (.bool true)))) (zc (hc)) (fun v W D h=>?_)
   have r0:r=true:=by
    (have q:r=true:=hr.symm.trans c4;first | exact q | exact q.symm)
   rw [r0];exact h
  ·
   refine Or.inr ?_
   obtain ⟨o,hO_sam_B⟩:∃(o:Bool),sameF a b 0=o∧o≠true:=⟨_,rfl,by simpa using c4⟩
   refine rx [sB o] [] [] (zoe a b v1 v2 v3 h4 o  ⟨hb_,zjd e1 e2 e3 h4⟩ hO_sam_B.1 hO_sam_B.2  ) ?_
   intro hc
   refine Fun.fin (r:=.o (.c (pB o))) (zc (hc)) (fun v W D h=>?_)
   have r0:r=o:=by
    (have q:r=o:=hr.symm.trans hO_sam_B.1;first | exact q | exact q.symm)
   rw [r0];exact h
end Go.Proofs.YteimplkdcjapdaaGreatDoor
