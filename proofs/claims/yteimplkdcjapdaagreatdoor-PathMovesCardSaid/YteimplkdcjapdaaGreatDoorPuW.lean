/-
  Merged: PlOp, PmT, PmA, PmB, PlOq, PlOr, PmC, PmD, PcA, PcB, PsA, PsB, PsC, PnA, PnB, PnC, PvA, PvP, PvB, PvQ, PvC, PvD.
-/
import Derived.Test.YteimplkdcjapdaaGreatDoorPuA
import Derived.Test.YteimplkdcjapdaaGreatDoorPuV
import Derived.SizedLaws
import Derived.OpenShut
import Derived.Carry
import Derived.LaidMore
import Derived.Lay
import Derived.Stop.Joined
import Derived.Stop.LaidErr
import Derived.LaidLaws
import Derived.Lib.LaidTab
import Derived.Lib.AppendIntMem
import Derived.Lib.SmallJoins
import Derived.ChangeMaps5
import Derived.Test.YteimplkdcjapdaaGreatDoorPuU
import Derived.Test.YteimplkdcjapdaaGreatDoorPuJ
import Derived.Test.YteimplkdcjapdaaGreatDoorPuS
import Derived.Lib.Hide
set_option linter.unusedSimpArgs false
set_option linter.unusedVariables false
set_option linter.unusedSectionVars false
set_option maxRecDepth 100000
namespace Go.Proofs.YteimplkdcjapdaaGreatDoor
open Go.ChangeShapes Go.WideShapes Go.ChangeAt Go.RowKit Go.Joins Go.Deep
def old (W:World):Dat:=fun q=>q<W.heap.size
theorem zqi {W:World} {f:FuncId} {sh:List PSh} {args:Array Value} (hF:Fun (KN W) Tryz.prog f sh (.o (.c (pV (.bool true))))) (hs:oka sh args.toList W (old W)) :
  Calls Tryz.prog f args W fun e W'=>e=.returned (.bool true)∧Below W.heap.size W W':=by
 have:=hF W (old W) args.toList hs ⟨Below.refl _ _,fun q h=>h,fun q h=>h⟩
 rw [Array.toArray_toList] at this
 refine this.mono fun e W' hr=>?_
 obtain ⟨v,D',rfl,hv,hk⟩:=hr
 have hv':v=.bool true:=hv
 subst hv'
 exact ⟨rfl,hk.bel⟩
section
variable {H:Type} {enc:TypeId×Value→H}
theorem zmU {a:Assume} {C:Checked} {os:Os} {f:FuncId} {fn:Func} {s:ChangeSpec} {conds:List PathCond} {apart fresh handsOn again:Bool} {X:World→Array Value→Prop}
  (hX:∀(w w':World) (args:Array Value),w.heap=w'.heap→X w args→X w' args)
  (own:ownKnob C.prog.godebug=none) (started:os.Started) (noInit:C.prog.inits.idxOf? f=none) (hfn:C.prog.funcs[f]?=some fn)
  (witness:∃(w:World) (tape:Tape) (i:Input),w.os=os∧(w.forCall tape i).Shaped C.prog∧i.vars=[]∧Input.okWide C.prog (w.forCall tape i) .any w.heap.size f i ∧
   ((s.pre enc C.prog fn conds apart (w.forCall tape i).memory i.args∧X (w.forCall tape i).memory i.args)∧sizedMet enc C.prog fn (OpenSpec.ofChange s) apart (w.forCall tape i).memory i.args)∧a.holds C.prog (lone (Frame.enter C.prog f i.args .normal) [] (w.forCall tape i)))
  (contract:∀(W:World) (base:Nat) (args:Array Value) (ds gs:List (DataW H)) (before:List MemPlace),
   (∀(j:Nat) t v,fn.params[j]?=some t→args[j]?=some v→Value.okWide C.prog W .any base t v) →
   DataW.Whole enc C.prog fn.params.toList s.vars apart W args.toList ds gs before→X W args →
   (∀(j:Nat) t d,fn.params.toList[j]?=some t→ds[j]?=some d→∀n∈d.weights C.prog t,n≤reachBytes)→W.ShapedOpen C.prog →
   Calls C.prog f args W fun e W'=>∃v,e=.returned v∧s.post enc C.prog fn apart fresh handsOn again W args v W') :
  ReturnsInHanded a C os f .any (fun w args=>(s.pre enc C.prog fn conds apart w args∧X w args)∧sizedMet enc C.prog fn (OpenSpec.ofChange s) apart w args) (s.post enc C.prog fn apart fresh handsOn again):=by
 refine returnsInHanded_of_calls own started noInit witness ?_
 intro w tape i _ hsh _ hok hpre _
 obtain ⟨_,_,_,fn',hfn',_,_,_,_,hval⟩:=hok
 have e:fn'=fn:=Option.some.inj (hfn'.symm.trans hfn)
 subst e
 obtain ⟨⟨⟨ds,gs,before,hw,_⟩,hx⟩,hz⟩:=hpre
 have hw':=DataW.Whole.of_heap (w':=w.forCall tape i) (by rfl) hw
 refine (contract (w.forCall tape i) w.heap.size i.args ds gs before hval hw' (hX _ _ _ (by rfl) hx) ?_ hsh).mono fun e W' ⟨v,he,hp⟩=>?_
 ·intro j t d ht hd n hn
  have:=List.all_eq_true.1 (hz.weights hw) _ (DataW.weights_mem_each (j:=j) (by
   rw [List.getElem?_append_left (List.getElem?_eq_some_iff.1 ht).1];exact ht) (by
   rw [List.getElem?_append_left (List.getElem?_eq_some_iff.1 hd).1];exact hd) n hn)
  simpa using this
 ·subst he
  exact ChangeSpec.post_blind hp
end
theorem zbn:Tryz.prog.cellsOf 3=1:=by kernel_rfl
theorem znm:Tryz.prog.cellsOf 24=1:=by kernel_rfl
theorem zp3:Tryz.prog.cellsOf 9=1:=by kernel_rfl
section
variable {H:Type} {enc:TypeId×Value→H} {held:Bool} {w:World} {base:Nat} {v:Value} {d:DataW H} {p:List MemPlace}
def Opens (enc:TypeId×Value→H) (held:Bool) (w:World) (e:TypeId) {α:Type} (c:α→List Pred) (ok:DataW H→α→Prop):Prop:=
 ∀(fuel:Nat) (cs:List Value) (y:DataW H×List MemPlace),DataW.trod enc Tryz.prog w 0 (fun _=>true) held fuel e cs=some y→∃x:α,ok y.1 x∧okl (c x) cs w (old w)
theorem zdg {t:TypeId} {k:IntKind} (ht:Tryz.prog.underlying t=some (.int k)):Opens enc held w t (fun n:Int=>[pV (.int k n)]) (fun d n=>d=.lit (.int k n)∧(Lit.int k n).wf=true):=by
 intro fuel cs y h
 obtain ⟨n,rfl,rfl,hw⟩:=DataW.trod_int ht h
 exact ⟨n,⟨rfl,hw⟩,rfl,trivial⟩
theorem zr6 {t:TypeId} (ht:Tryz.prog.underlying t=some .string):Opens enc held w t (fun s:List UInt8=>[pS s]) (fun d s=>d=.lit (.string s)∧s.length≤maxLen):=by
 intro fuel cs y h
 obtain ⟨s,rfl,rfl,hw⟩:=DataW.trod_string ht h
 exact ⟨s.data.toList,⟨rfl,hw⟩,rfl,trivial⟩
theorem znQ {W:World} {D:Dat} {ps qs:List Pred} {vs:List Value} {k:Nat} (h:okp ps vs W D) (hk:ps.length=k) (h2:okl qs ((vs.drop k).take qs.length) W D):okp (ps++qs) vs W D:=by
 subst hk
 unfold okp at h ⊢
 rw [List.length_append,List.take_add]
 exact qB h h2
theorem znP {W:World} {D:Dat} {ps:List Pred} {vs us:List Value} (h:okl ps us W D) (he:∀i,i<ps.length→vs[i]?=us[i]?):okl ps (vs.take ps.length) W D:=by
 have hl:=zK h
 have e:vs.take ps.length=us:=by
  apply List.ext_getElem?
  intro i
  rw [List.getElem?_take]
  split
  ·exact he i ‹_›
  ·rw [List.getElem?_eq_none (by omega)]
 rw [e];exact h
theorem zsL {W:World} {D:Dat} {ps qs:List Pred} {cs:List Value} {o z:Nat} (h:okl ps (cs.take o) W D) (h2:okl qs ((cs.drop o).take z) W D):okl (ps++qs) (cs.take (o+z)) W D:=by
 rw [List.take_add];exact qB h h2
inductive F2 {α β:Type} (R:α→β→Prop):List α→List β→Prop
 | nil:F2 R [] []
 | cons {a b l k}:R a b→F2 R l k→F2 R (a::l) (b::k)
def SlOk {α:Type} (ok:DataW H→α→Prop) (d:DataW H) (l:List α):Prop:=
 ((d=.nil∧l=[])∨∃ds sp,d=.slice ds sp∧F2 ok ds l)∧l.length≤maxLen
theorem zaK {α β:Type} {R:α→β→Prop}:∀{l:List α} {k:List β} {a:α} {b:β},F2 R l k→R a b→F2 R (l++[a]) (k++[b])
 | [],[],_,_,_,h=>.cons h .nil
 | _::_,_::_,_,_,.cons h1 h2,h=>.cons h1 (zaK h2 h)
theorem zi7 {t e:TypeId} {α:Type} {c:α→List Pred} {ok:DataW H→α→Prop} {z:Nat} (ht:Tryz.prog.underlying t=some (.slice e)) (hc:Tryz.prog.cellsOf e=z) (h0:0<z) (hz:∀x,(c x).length=z) (he:Opens enc held w e c ok) :
  Opens enc held w t (fun l:List α=>[pLs c l]) (SlOk ok):=by
 intro fuel cs y h
 rcases DataW.trod_slice ht h with ⟨rfl,rfl⟩ | ⟨a,len,cap,elems,rest,n,_,rfl,rfl,_,hl,hm,hlen,hel,_,_⟩
 ·exact ⟨[],⟨.inl ⟨rfl,rfl⟩,Nat.zero_le _⟩,.inl ⟨⟨_,_,rfl⟩,rfl,rfl⟩,trivial⟩
 rw [hc] at hel
 have each:∀i (hi:i<elems.length),∃(x:α) (us:List Value),ok elems[i].1 x∧okl (c x) us w (old w)∧∀j,j<z→w.cell? ((a.add (i*z)).add j)=us[j]?:=by
  intro i hi
  have h1:=hel i (by omega)
  rw [List.getElem?_eq_getElem hi,Option.bind_eq_some_iff] at h1
  obtain ⟨us,hus,h2⟩:=h1
  obtain ⟨x,hx,hok⟩:=he n us _ h2
  obtain ⟨_,hul,hcell⟩:=World.cells?_some hus
  exact ⟨x,us,hx,hok,fun j hj=>hcell j hj⟩
 rcases Nat.eq_zero_or_pos len with h00 | h00
 ·subst h00
  have e0:elems=[]:=List.eq_nil_of_length_eq_zero hlen
  subst e0
  exact ⟨[],⟨.inr ⟨_,_,rfl,.nil⟩,Nat.zero_le _⟩,.inl ⟨⟨_,_,rfl⟩,rfl,rfl⟩,trivial⟩
 obtain ⟨q,o,sp⟩:=a
 obtain ⟨x0,us0,_,ho0,hc0⟩:=each 0 (by omega)
 have hl0:=zK ho0
 rw [hz] at hl0
 have h1:w.cell? ⟨q,o,sp⟩=some us0[0]:=by
  have:=hc0 0 h0
  rw [List.getElem?_eq_getElem (by omega)] at this
  simpa [Addr.add] using this
 have hsp:sp=none:=by
  cases sp with
  | none=>rfl
  | some x =>
   unfold World.cell? at h1
   dsimp only at h1
   split at h1<;>simp at h1
 subst hsp
 have hblk:∃vs T fz,w.heap[q]?=some (.cells vs T fz):=by
  unfold World.cell? at h1
  dsimp only at h1
  split at h1
  ·rename_i cs T fz hh
   exact ⟨cs,T,fz,hh⟩
  ·cases h1
 obtain ⟨vs,T,fz,hh⟩:=hblk
 have hq:q<w.heap.size:=(Array.getElem?_eq_some_iff.1 hh).1
 have hcell:∀i j,(⟨q,o,none⟩:Addr).add i=⟨q,o+i,none⟩∧w.cell? (((⟨q,o,none⟩:Addr).add i).add j)=vs.toList[o+i+j]?:=by
  intro i j
  rw [show (⟨q,o,none⟩:Addr).add i=⟨q,o+i,none⟩ from qW ..,show (⟨q,o+i,none⟩:Addr).add j=⟨q,o+i+j,none⟩ from qW ..,zq hh]
  exact ⟨rfl,by rw [Array.getElem?_toList]⟩
 have build:∀m,m≤elems.length→∃l:List α,l.length=m∧F2 ok ((elems.map (·.1)).take m) l∧okp (l.flatMap c) (vs.toList.drop o) w (old w):=by
  intro m
  induction m with
  | zero=>intro _;exact ⟨[],rfl,by rw [List.take_zero];exact .nil,trivial⟩
  | succ m ih =>
   intro hm1
   obtain ⟨l,h2,h3,h4⟩:=ih (by omega)
   obtain ⟨x,us,hx,hok,hcl⟩:=each m (by omega)
   refine ⟨l++[x],by rw [List.length_append,h2];rfl,?_,?_⟩
   ·rw [List.take_add_one,List.getElem?_map,List.getElem?_eq_getElem (by omega)]
    exact zaK h3 hx
   ·rw [List.flatMap_append,List.flatMap_cons,List.flatMap_nil,List.append_nil]
    refine znQ (k:=m*z) h4 (by rw [qC hz,h2]) (znP hok fun i hi=>?_)
    rw [hz] at hi
    rw [List.drop_drop,List.getElem?_drop,← hcl i hi,(hcell (m*z) i).2]
 obtain ⟨l,h2,h3,h4⟩:=build elems.length (Nat.le_refl _)
 rw [List.take_of_length_le (by simp)] at h3
 exact ⟨l,⟨.inr ⟨_,_,rfl,h3⟩,by omega⟩,.inr ⟨q,o,cap,T,vs,fz,by rw [h2,hlen],hq,hh,h4,by omega⟩,trivial⟩
theorem zar {e:TypeId} {α:Type} {c:α→List Pred} {ok:DataW H→α→Prop} {n o z i:Nat} {cs:List Value} {xs:List (DataW H×List MemPlace)} (he:Opens enc held w e c ok) (hz:Tryz.prog.cellsOf e=z) (h:DataW.trod enc Tryz.prog w 0 (fun _=>true) held n e ((cs.drop o).take (Tryz.prog.cellsOf e))=xs[i]?) (hi:i<xs.length) :
  ∃x,ok xs[i].1 x∧okl (c x) ((cs.drop o).take z) w (old w):=by
 rw [List.getElem?_eq_getElem hi,hz] at h
 exact he _ _ _ h
theorem zqq:Opens enc held w 24 (fun l:List Int=>[pLs cI l]) (SlOk fun d n=>d=.lit (.int .i64 n)∧(Lit.int .i64 n).wf=true):=zi7 (c:=cI) Tryz.underlying24 zbn (by decide) (fun _=>rfl) (zdg Tryz.underlying3)
theorem znV {t:TypeId} {α:Type} {c:α→Pred} {ok:DataW H→α→Prop} (h:Opens enc held w t (fun x=>[c x]) ok) (h1:v.cells=#[v]) (hd:DataW.Trod enc Tryz.prog w 0 (fun _=>true) held t v d p):∃x,ok d x∧c x v w (old w):=by
 obtain ⟨fuel,hf⟩:=hd
 rw [h1] at hf
 obtain ⟨x,hx,ho⟩:=h _ _ _ hf
 exact ⟨x,hx,ho.1⟩
end
section
variable {H:Type} {enc:TypeId×Value→H} {held:Bool} {w:World} {base:Nat} {v:Value} {d:DataW H} {p:List MemPlace}
theorem zr7:Opens enc held w 26 (fun x:Vec=>[pI x.1,pI x.2.1,pI x.2.2]) (fun _ _=>True):=by
 intro fuel cs y h
 obtain ⟨xs,n,_,rfl,hl,hlen,hf⟩:=DataW.trod_struct Tryz.underlying26 h
 rw [show Tryz.prog.cellsOf 26=3 by kernel_rfl] at hl
 have hlen2:xs.length=3:=hlen
 match xs,hlen2 with
 | [y0,y1,y2],_ =>
 obtain ⟨a,_,oa⟩:=zar (z:=1) (zdg Tryz.underlying3) zbn (hf 0 _ rfl) (by simp)
 obtain ⟨b,_,ob⟩:=zar (z:=1) (zdg Tryz.underlying3) zbn (hf 1 _ rfl) (by simp)
 obtain ⟨c,_,oc⟩:=zar (z:=1) (zdg Tryz.underlying3) zbn (hf 2 _ rfl) (by simp)
 refine ⟨(a,b,c),trivial,?_⟩
 have:=zsL (z:=1) (zsL (z:=1) (zsL (z:=1) (ps:=[]) (o:=0) trivial oa) ob) oc
 rw [List.take_of_length_le (by omega)] at this
 exact this
theorem zr5 {t e:TypeId} {α:Type} {c:α→List Pred} {ok:DataW H→α→Prop} {n z:Nat} (ht:Tryz.prog.underlying t=some (.array n e)) (hc:Tryz.prog.cellsOf e=z) (hct:Tryz.prog.cellsOf t=n*z) (he:Opens enc held w e c ok) :
  Opens enc held w t (fun l:List α=>l.flatMap c) (fun d l=>l.length=n∧∃ds,d=.agg ds∧F2 ok ds l):=by
 intro fuel cs y h
 obtain ⟨xs,m,_,rfl,hl,hlen,hf⟩:=DataW.trod_array ht h
 rw [hct] at hl
 rw [hc] at hf
 have build:∀k,k≤n→∃l:List α,l.length=k∧F2 ok ((xs.map (·.1)).take k) l∧okl (l.flatMap c) (cs.take (k*z)) w (old w):=by
  intro k
  induction k with
  | zero=>intro _;exact ⟨[],rfl,by rw [List.take_zero];exact .nil,by rw [Nat.zero_mul,List.take_zero];trivial⟩
  | succ k ih =>
   intro hk
   obtain ⟨l,h2,h3,h4⟩:=ih (by omega)
   have hx:=hf k (by omega)
   rw [List.getElem?_eq_getElem (by omega)] at hx
   obtain ⟨x,hok,ho⟩:=he _ _ _ hx
   refine ⟨l++[x],by rw [List.length_append,h2];rfl,?_,?_⟩
   ·rw [List.take_add_one,List.getElem?_map,List.getElem?_eq_getElem (by omega)]
    exact zaK h3 hok
   ·rw [List.flatMap_append,List.flatMap_cons,List.flatMap_nil,List.append_nil,Nat.succ_mul]
    exact zsL h4 ho
 obtain ⟨l,h2,h3,h4⟩:=build n (Nat.le_refl _)
 rw [List.take_of_length_le (by simp;omega)] at h3
 rw [List.take_of_length_le (by omega)] at h4
 exact ⟨l,⟨h2,_,rfl,h3⟩,h4⟩
theorem zqp:Opens enc held w 162 cFm (fun d x=>d=.agg [.lit (.int .i64 x.1),.lit (.int .i64 x.2.1),.lit (.string x.2.2.1),.lit (.int .i64 x.2.2.2)]):=by
 intro fuel cs y h
 obtain ⟨xs,n,_,rfl,hl,hlen,hf⟩:=DataW.trod_struct Tryz.underlying162 h
 rw [show Tryz.prog.cellsOf 162=4 by kernel_rfl] at hl
 have hlen2:xs.length=4:=hlen
 match xs,hlen2 with
 | [y0,y1,y2,y3],_ =>
 obtain ⟨a,ha,oa⟩:=zar (z:=1) (zdg Tryz.underlying3) zbn (hf 0 _ rfl) (by simp)
 obtain ⟨b,hb,ob⟩:=zar (z:=1) (zdg Tryz.underlying3) zbn (hf 1 _ rfl) (by simp)
 obtain ⟨c,hc,oc⟩:=zar (z:=1) (zr6 Tryz.underlying9) zp3 (hf 2 _ rfl) (by simp)
 obtain ⟨e,he,oe⟩:=zar (z:=1) (zdg Tryz.underlying3) zbn (hf 3 _ rfl) (by simp)
 have ha':y0.1=.lit (.int .i64 a):=ha.1
 have hb':y1.1=.lit (.int .i64 b):=hb.1
 have hc':y2.1=.lit (.string c):=hc.1
 have he':y3.1=.lit (.int .i64 e):=he.1
 refine ⟨(a,b,c,e),?_,?_⟩
 ·simp [ha',hb',hc',he']
 have:=zsL (z:=1) (zsL (z:=1) (zsL (z:=1) (zsL (z:=1) (ps:=[]) (o:=0) trivial oa) ob) oc) oe
 rw [List.take_of_length_le (by omega)] at this
 exact this
theorem znS:Opens enc held w 163 (fun l:List Frmt=>l.flatMap cFm) (fun d l=>l.length=7∧∃ds,d=.agg ds∧F2 (fun d x=>d=.agg [.lit (.int .i64 x.1),.lit (.int .i64 x.2.1),.lit (.string x.2.2.1),.lit (.int .i64 x.2.2.2)]) ds l):=zr5 (n:=7) (z:=4) Tryz.underlying163 (by kernel_rfl) (by kernel_rfl) zqp
end
def laidL : List (String × DataW Unit) := [("unicode/utf8.acceptRanges", Rows.laid_unicode_utf8_acceptRanges), ("collet/program.forms", Rows.laid_collet_program_forms), ("unicode/utf8.first", Rows.laid_unicode_utf8_first)]
theorem gFms : Tryz.prog.globalNamed "collet/program.forms" = some 0 := by kernel_rfl
theorem tFms:(Tryz.prog.globals[0]?).map (·.type)=some 163:=by kernel_rfl
theorem znG {W:World} (h:W.ShapedOpen Tryz.prog):∃m,W.cell? ⟨1,0,none⟩=some (.int .i64 m):=by
 obtain ⟨m,hm⟩:=Tryz.laysM219.s1_3 W h
 exact ⟨m,hm⟩
theorem znB {W:World} (hW:W.ShapedOpen Tryz.prog) (h:laidMetH Tryz.prog laidL W):LibP W:=by
 rw [MakeChecks.laidMetH_plain _ _ _ (by kernel_rfl)] at h
 refine ⟨znG hW,?_⟩
 obtain ⟨ps,⟨g0,t0,cs0,f0,p0,q0,hg0,ht0,hv0,hd0,_,e0⟩,_,_⟩:=h.tail
 obtain rfl:=Option.some.inj (gFms.symm.trans hg0)
 obtain rfl:=Option.some.inj (tFms.symm.trans ht0)
 obtain ⟨l,hl,ho⟩:=znS _ _ _ hd0
 have e:l=zg:=by
  obtain ⟨_,ds,h1,hf⟩:=hl
  simp only [Rows.laid_collet_program_forms,DataW.agg.injEq] at h1
  subst h1
  match l,hf with
  | [a,b,c,d,e,f,g],.cons h1 (.cons h2 (.cons h3 (.cons h4 (.cons h5 (.cons h6 (.cons h7 .nil)))))) =>
   obtain ⟨a1,a2,a3,a4⟩:=a
   obtain ⟨b1,b2,b3,b4⟩:=b
   obtain ⟨c1,c2,c3,c4⟩:=c
   obtain ⟨d1,d2,d3,d4⟩:=d
   obtain ⟨e1,e2,e3,e4⟩:=e
   obtain ⟨f1,f2,f3,f4⟩:=f
   obtain ⟨g1,g2,g3,g4⟩:=g
   simp at h1 h2 h3 h4 h5 h6 h7
   obtain ⟨rfl,rfl,rfl,rfl⟩:=h1
   obtain ⟨rfl,rfl,rfl,rfl⟩:=h2
   obtain ⟨rfl,rfl,rfl,rfl⟩:=h3
   obtain ⟨rfl,rfl,rfl,rfl⟩:=h4
   obtain ⟨rfl,rfl,rfl,rfl⟩:=h5
   obtain ⟨rfl,rfl,rfl,rfl⟩:=h6
   obtain ⟨rfl,rfl,rfl,rfl⟩:=h7
   rfl
 subst e
 have hlen:=zK ho
 have hz:(zg.flatMap cFm).length=28:=by decide
 simp only [World.var?,gFms,Option.bind_some] at hv0
 split at hv0
 ·rename_i vs T fz hh
  obtain rfl:=Option.some.inj hv0
  refine .inr ⟨0,0,7,T,vs,fz,rfl,(Array.getElem?_eq_some_iff.1 hh).1,hh,?_,by decide⟩
  unfold okp
  rw [List.drop_zero,← hlen,List.take_length]
  exact ho
 ·cases hv0
theorem znr (os:Os) (args:Array Value):laidMetH Tryz.prog laidL ((World.laidAll Tryz.prog os laidL).forCall (fun _ _=>0) ⟨#[],args,[]⟩).memory:=by
 rw [MakeChecks.laidMetH_plain _ _ _ (by kernel_rfl)]
 exact laidMet_laidAll _ (by kernel_rfl) (by kernel_rfl)
end Go.Proofs.YteimplkdcjapdaaGreatDoor
set_option synthInstance.maxSize 2000
set_option synthInstance.maxHeartbeats 400000
namespace Go.Proofs.YteimplkdcjapdaaGreatDoor
open Go.RowKit
def zrs:Tr:=.s [(2,.bin .lss 3 1 (kI 1))] (.b 2 (.z (.ret false (LF (kI 0)) [])) (.s [(5,.dv .rem 3 0 1),(7,.bin .add 3 3 1),(9,.dv .rem 3 4 1)] (.z (.ret false (5) []))))
theorem x_mod {w0:World} (n m:Int) (r:Int) (hr:modX n m=r):Fun (KN w0) Tryz.prog 14 [.o (.c (pI n)),.o (.c (pI m))] (.o (.c (pI r))):=by
 refine tfn w0 14 ⟨[0,1],[],[],0,0⟩ ⟨2,[sI m,sI n],[],[]⟩ zrs (by kernel_rfl) ?_
 intro v1 e1
 refine ai (fun h2=>?_) fun h2=>?_
 ·
  intro hc
  refine Fun.fin (r:=.o (.c (pV (.int .i64 0)))) (zc (hc)) (fun v W D h=>?_)
  have r0:r=(0:Int):=by
   (have dh2:=LD e1 h2;rw [← hr];unfold modX;rw [if_pos (by omega)])
  rw [r0];exact h
 ·
  have s4:m≠0:=by first | (simp_all;done) | (simp_all;omega)
  refine ai s4 fun v3 e3=>?_
  intro v5 e5
  have s7:m≠0:=by first | (simp_all;done) | (simp_all;omega)
  refine ai s7 fun v6 e6=>?_
  intro hc
  refine Fun.fin (r:=.o (.c (pI v6))) (zc (hc)) (fun v W D h=>?_)
  have r0:r=v6:=by
   (have dh2:=LE e1 h2;rw [← hr];unfold modX;rw [if_neg (by omega)];simp_all)
  rw [r0];exact h
def posA (l r:List Int):Int:=(l.length:Int) - r.length
theorem zaO {l r:List Int} {v:Int} (h:r <:+ l) (hv:posA l r=v):l.drop v.toNat=r∧0≤v∧v≤l.length:=by
 obtain ⟨t,rfl⟩:=h
 unfold posA at hv
 rw [List.length_append] at hv
 obtain rfl:v=t.length:=by omega
 exact ⟨by rw [Int.toNat_natCast,List.drop_left],by omega,by rw [List.length_append];omega⟩
theorem qf (l:List Int) (n:Int):(drawX l n).2 <:+ l:=by
 cases l with
 | nil=>exact List.suffix_refl _
 | cons x r=>exact List.suffix_cons ..
theorem zkJ {l:List Int} {n:Nat} {x m:Int} (h:l[n]?=some x):drawX (l.drop n) m=(modX x m,l.drop (n+1)):=by
 obtain ⟨hk,rfl⟩:=List.getElem?_eq_some_iff.1 h
 rw [List.drop_eq_getElem_cons hk];rfl
theorem ziu {l:List Int} {n:Nat} (m:Int) (h:l.length≤n):drawX (l.drop n) m=(0,[]):=by rw [List.drop_of_length_le h];rfl
def zoN:Tr:=.s [(9,.ln 24 3 0),(10,.bin .geq 3 1 3)] (.b 4 (.z (.ret false (LF (kI 0)) [.bx 900 92 [.h 0,.h 1]])) (.s [(15,.bin .add 3 1 (kI 1)),(27,.bin .sub 3 5 (kI 1)),(28,.ia 24 3 1 0 6),(29,.ld 3 0 7),(31,.call 14 [8,2] (.o .c))] (.z (.ret false (9) [.bx 900 92 [.h 0,.h 5]]))))
theorem zsG {w0:World} (l:List Int) (a n:Int) (r p:Int) (hr:(drawX (l.drop a.toNat) n).1=r) (hp:posA l (drawX (l.drop a.toNat) n).2=p) (ha:0≤a∧a≤l.length) (hl:l.length<9223372036854775807):BFun false (KN w0) Tryz.prog 50 [.o (.c (.p 0 0)),.o (.c (.d (pI n)))] [(92,[.d (pLs cI l),.d (pI a)])] (.o (.c (.d (pI r)))) [(92,[.d (pLs cI l),.d (pI p)])]:=by
 refine tfn w0 50 ⟨[LF (.p 900 0),2],[.bx 900 92 [.h 0,.h 1]],[],0,0⟩ ⟨3,[sI n,sI a,.ls 1 cI kIc l],[],[]⟩ zoN (by kernel_rfl) ?_
 intro v1 e1 v2 e2
 refine ai (fun h3=>?_) fun h3=>?_
 ·
  intro hc
  have r0:r=(0:Int):=by
   (have dh3:=LD e2 h3;have hzv1:=e1;rw [ziu _ (by omega)] at hr hp;first | exact hr.symm | (rw [← hp];unfold posA;simp;omega))
  have r1:p=a:=by
   (have dh3:=LD e2 h3;have hzv1:=e1;rw [ziu _ (by omega)] at hr hp;first | exact hr.symm | (rw [← hp];unfold posA;simp;omega))
  rw [r0,r1];exact con_b (pan:=false) (hc)
 ·
  intro v4 e4 v5 e5
  refine ai (by (have dh3:=LE e2 h3;have hzv1:=e1;have qv4:v4=a+1:=(by rw [← e4,wri (by omega)]);have qv5:v5=a:=(by rw [← e5,wri (by omega)];omega);exact ⟨a.toNat,_,by omega,List.getElem?_eq_getElem (by omega)⟩)) fun n6 x7 s8 s9=>?_
  obtain ⟨v10,e10⟩:=LX (modX x7 n)
  refine cx (.o (.c (sI v10))) (x_mod x7 n v10 e10) rfl ?_
  intro hc
  have r0:r=v10:=by
   (have dh3:=LE e2 h3;have hzv1:=e1;have qv4:v4=a+1:=(by rw [← e4,wri (by omega)]);have qv5:v5=a:=(by rw [← e5,wri (by omega)];omega);have hn:a.toNat=n6:=(by omega);have hlt:=(List.getElem?_eq_some_iff.1 s9).1;rw [hn,zkJ s9] at hr hp;first | (rw [← hr];assumption) | (rw [← hp];unfold posA;rw [List.length_drop];omega))
  have r1:p=v4:=by
   (have dh3:=LE e2 h3;have hzv1:=e1;have qv4:v4=a+1:=(by rw [← e4,wri (by omega)]);have qv5:v5=a:=(by rw [← e5,wri (by omega)];omega);have hn:a.toNat=n6:=(by omega);have hlt:=(List.getElem?_eq_some_iff.1 s9).1;rw [hn,zkJ s9] at hr hp;first | (rw [← hr];assumption) | (rw [← hp];unfold posA;rw [List.length_drop];omega))
  rw [r0,r1];exact con_b (pan:=false) (hc)
theorem zaw {w0:World} (n:Int) (l:List Int) (a:Int) (r p:Int) (hr:(drawX (l.drop a.toNat) n).1=r) (hp:posA l (drawX (l.drop a.toNat) n).2=p) (ha:0≤a∧a≤l.length) (hl:l.length<9223372036854775807):BFun false (KN w0) Tryz.prog 50 [.o (.c (.p 0 0)),.o (.c (.d (pI n)))] [(92,[.d (pLs cI l),.d (pI a)])] (.o (.c (.d (pI r)))) [(92,[.d (pLs cI l),.d (pI p)])]:=zsG l a n r p hr hp ha hl
end Go.Proofs.YteimplkdcjapdaaGreatDoor
set_option synthInstance.maxSize 2000
set_option synthInstance.maxHeartbeats 400000
namespace Go.Proofs.YteimplkdcjapdaaGreatDoor
open Go.RowKit
def vecD (l:List Int) (k:Int):Vec×List Int:=
 (((drawX l (2*k+1)).1 - k,(drawX (drawX l (2*k+1)).2 (2*k+1)).1 - k,(drawX (drawX (drawX l (2*k+1)).2 (2*k+1)).2 (2*k+1)).1 - k),(drawX (drawX (drawX l (2*k+1)).2 (2*k+1)).2 (2*k+1)).2)
theorem zju (l:List Int) (k:Int):(vecD l k).2 <:+ l:=((qf _ _).trans (qf _ _)).trans (qf _ _)
def zoF:Tr:=.s [(3,.bin .mul 3 (kI 2) 2),(4,.bin .add 3 3 (kI 1)),(0,.raw [(1000005,.call ⟨50,[.o (.c (.p 900 0)),4],[.bx 900 92 [.h 0,.h 1]],5,[.bx 900 92 [.h 0,.h 6]]⟩)] 2),(7,.bin .sub 3 5 2),(11,.bin .mul 3 (kI 2) 2),(12,.bin .add 3 8 (kI 1)),(0,.raw [(1000013,.call ⟨50,[.o (.c (.p 900 0)),9],[.bx 900 92 [.h 0,.h 6]],10,[.bx 900 92 [.h 0,.h 11]]⟩)] 2),(15,.bin .sub 3 10 2),(19,.bin .mul 3 (kI 2) 2),(20,.bin .add 3 13 (kI 1)),(0,.raw [(1000021,.call ⟨50,[.o (.c (.p 900 0)),14],[.bx 900 92 [.h 0,.h 11]],15,[.bx 900 92 [.h 0,.h 16]]⟩)] 2),(23,.bin .sub 3 15 2)] (.z (.ret false (.o (.g [7,12,17])) [.bx 900 92 [.h 0,.h 16]]))
theorem zsw {w0:World} (l:List Int) (a most:Int) (r:Vec) (p:Int) (hr:(vecD (l.drop a.toNat) most).1=r) (hp:posA l (vecD (l.drop a.toNat) most).2=p) (ha:0≤a∧a≤l.length) (hl:l.length<9223372036854775807) (hm:0≤most∧most≤100):BFun false (KN w0) Tryz.prog 78 [.o (.c (.p 0 0)),.o (.c (.d (pI most)))] [(92,[.d (pLs cI l),.d (pI a)])] (.o (.g [.d (pI r.1),.d (pI r.2.1),.d (pI r.2.2)])) [(92,[.d (pLs cI l),.d (pI p)])]:=by
 refine tfn w0 78 ⟨[LF (.p 900 0),2],[.bx 900 92 [.h 0,.h 1]],[],0,0⟩ ⟨3,[sI most,sI a,.ls 1 cI kIc l],[],[]⟩ zoF (by kernel_rfl) ?_
 intro v1 e1 v2 e2
 obtain ⟨v3,e3⟩:=LX ((drawX (l.drop (a:Int).toNat) v2).1)
 obtain ⟨v4,e4⟩:=LX (posA l (drawX (l.drop (a:Int).toNat) v2).2)
 have s5:0≤a∧a≤l.length:=by exact ha
 have s6:l.length<9223372036854775807:=by exact hl
 refine rx [sI v3,sI v4] [] [] (fun t u w=>⟨b_con (pan:=false) (zaw v2 l a v3 v4 e3 e4 s5 s6),trivial⟩) ?_
 intro v7 e7 v8 e8 v9 e9
 obtain ⟨v10,e10⟩:=LX ((drawX (l.drop (v4:Int).toNat) v9).1)
 obtain ⟨v11,e11⟩:=LX (posA l (drawX (l.drop (v4:Int).toNat) v9).2)
 have qv1:v1=(2:Int)*most:=(by rw [← e1,wri (by omega)])
 have qv2:v2=v1+(1:Int):=(by rw [← e2,wri (by omega)])
 have rv3:0≤v3∧v3<v2:=(e3 ▸ zH (by omega) (by omega))
 have sv4:=zaO ((qf _ _).trans (List.drop_suffix _ _)) e4
 have qv7:v7=v3 - most:=(by rw [← e7,wri (by omega)])
 have qv8:v8=(2:Int)*most:=(by rw [← e8,wri (by omega)])
 have qv9:v9=v8+(1:Int):=(by rw [← e9,wri (by omega)])
 have rv10:0≤v10∧v10<v9:=(e10 ▸ zH (by omega) (by omega))
 have sv11:=zaO ((qf _ _).trans (List.drop_suffix _ _)) e11
 have s12:0≤v4∧v4≤l.length:=by (exact sv4.2)
 have s13:l.length<9223372036854775807:=by exact hl
 refine rx [sI v10,sI v11] [] [] (fun t u w=>⟨b_con (pan:=false) (zaw v9 l v4 v10 v11 e10 e11 s12 s13),trivial⟩) ?_
 intro v14 e14 v15 e15 v16 e16
 obtain ⟨v17,e17⟩:=LX ((drawX (l.drop (v11:Int).toNat) v16).1)
 obtain ⟨v18,e18⟩:=LX (posA l (drawX (l.drop (v11:Int).toNat) v16).2)
 have qv14:v14=v10 - most:=(by rw [← e14,wri (by omega)])
 have qv15:v15=(2:Int)*most:=(by rw [← e15,wri (by omega)])
 have qv16:v16=v15+(1:Int):=(by rw [← e16,wri (by omega)])
 have rv17:0≤v17∧v17<v16:=(e17 ▸ zH (by omega) (by omega))
 have sv18:=zaO ((qf _ _).trans (List.drop_suffix _ _)) e18
 have s19:0≤v11∧v11≤l.length:=by (exact sv11.2)
 have s20:l.length<9223372036854775807:=by exact hl
 refine rx [sI v17,sI v18] [] [] (fun t u w=>⟨b_con (pan:=false) (zaw v16 l v11 v17 v18 e17 e18 s19 s20),trivial⟩) ?_
 intro v21 e21
 intro hc
 have qv21:v21=v17 - most:=(by rw [← e21,wri (by omega)])
 have zv2:v2=2*most+1:=(by omega)
 have zv9:v9=2*most+1:=(by omega)
 have zv16:v16=2*most+1:=(by omega)
 have r0:r=(v7,v14,v21):=by
  (rw [zv2] at e3 e4 sv4;rw [zv9] at e10 e11 sv11;rw [zv16] at e17 e18 sv18;first | (rw [← hr];unfold vecD;rw [e3,← sv4.1,e10,← sv11.1,e17,qv7,qv14,qv21]) | (rw [← hp];unfold vecD;rw [← sv4.1,← sv11.1,e18]))
 have r1:p=v18:=by
  (rw [zv2] at e3 e4 sv4;rw [zv9] at e10 e11 sv11;rw [zv16] at e17 e18 sv18;first | (rw [← hr];unfold vecD;rw [e3,← sv4.1,e10,← sv11.1,e17,qv7,qv14,qv21]) | (rw [← hp];unfold vecD;rw [← sv4.1,← sv11.1,e18]))
 rw [r0,r1];exact con_b (pan:=false) (hc)
theorem zmF {w0:World} (most:Int) (l:List Int) (a:Int) (r:Vec) (p:Int) (hr:(vecD (l.drop a.toNat) most).1=r) (hp:posA l (vecD (l.drop a.toNat) most).2=p) (ha:0≤a∧a≤l.length) (hl:l.length<9223372036854775807) (hm:0≤most∧most≤100):BFun false (KN w0) Tryz.prog 78 [.o (.c (.p 0 0)),.o (.c (.d (pI most)))] [(92,[.d (pLs cI l),.d (pI a)])] (.o (.g [.d (pI r.1),.d (pI r.2.1),.d (pI r.2.2)])) [(92,[.d (pLs cI l),.d (pI p)])]:=zsw l a most r p hr hp ha hl hm
end Go.Proofs.YteimplkdcjapdaaGreatDoor
set_option synthInstance.maxSize 2000
set_option synthInstance.maxHeartbeats 400000
namespace Go.Proofs.YteimplkdcjapdaaGreatDoor
open Go.RowKit
def cLI (x:List Int):List Pred:=[pLs cI x]
theorem zez {w0:World} (x:List Int):FineAll (KN w0) (cLI x):=⟨zx zR,trivial⟩
def kLI (x:List Int):List SV:=[.ls 1 cI kIc x]
instance {w0:World} {x:List Int}:FiL (KN w0) (kLI x):=inferInstanceAs (FiL (KN w0) [_])
instance {w0:World} {xs:List (List Int)}:Fi (KN w0) (.ls 1 cLI kLI xs):=fi_ls (fun _=>rfl) (fun _=>inferInstance) (fun _=>rfl)
instance {w0:World} {xs:List (List Int)}:FiP (KN w0) (pG cLI xs):=⟨qc zez⟩
instance {w0:World} {xs:List Stm}:Fi (KN w0) (.q (pLf cSt xs)):=⟨by rw [SV.fine];exact zkZ z8⟩
end Go.Proofs.YteimplkdcjapdaaGreatDoor
namespace Go.Proofs.YteimplkdcjapdaaGreatDoor
open Go.ChangeShapes Go.WideShapes Go.ChangeAt Go.RowKit Go.Joins Go.Deep
section
variable {H:Type} {enc:TypeId×Value→H} {held:Bool} {w:World}
abbrev IntOk (d:DataW H) (n:Int):Prop:=d=.lit (.int .i64 n)∧(Lit.int .i64 n).wf=true
theorem znT:Opens enc held w 22 (fun l:List (List Int)=>[pLs cLI l]) (SlOk (SlOk IntOk)):=zi7 (c:=cLI) Tryz.underlying22 znm (by decide) (fun _=>rfl) zqq
end
end Go.Proofs.YteimplkdcjapdaaGreatDoor
namespace Go.Proofs.YteimplkdcjapdaaGreatDoor
open Go.ChangeShapes Go.WideShapes Go.ChangeAt Go.RowKit Go.Joins Go.Deep
section
variable {H:Type} {enc:TypeId×Value→H} {held:Bool} {w:World}
theorem zuD:Tryz.prog.cellsOf 26=3:=by kernel_rfl
theorem zwe:Opens enc held w 45 cM (fun _ _=>True):=by
 intro fuel cs y h
 obtain ⟨xs,n,_,rfl,hl,hlen,hf⟩:=DataW.trod_struct Tryz.underlying45 h
 rw [show Tryz.prog.cellsOf 45=11 by kernel_rfl] at hl
 have hlen2:xs.length=5:=hlen
 match xs,hlen2 with
 | [y0,y1,y2,y3,y4],_ =>
 obtain ⟨a,_,oa⟩:=zar (z:=1) (zdg Tryz.underlying3) zbn (hf 0 _ rfl) (by simp)
 obtain ⟨b,_,ob⟩:=zar (z:=3) zr7 zuD (hf 1 _ rfl) (by simp)
 obtain ⟨c,_,oc⟩:=zar (z:=3) zr7 zuD (hf 2 _ rfl) (by simp)
 obtain ⟨e,_,oe⟩:=zar (z:=3) zr7 zuD (hf 3 _ rfl) (by simp)
 obtain ⟨f,_,of_⟩:=zar (z:=1) (zdg Tryz.underlying3) zbn (hf 4 _ rfl) (by simp)
 refine ⟨(a,b,c,e,f),trivial,?_⟩
 have:=zsL (z:=1) (zsL (z:=3) (zsL (z:=3) (zsL (z:=3) (zsL (z:=1) (ps:=[]) (o:=0) trivial oa) ob) oc) oe) of_
 rw [List.take_of_length_le (by omega)] at this
 exact this
theorem zvV:Opens enc held w 36 (fun l:List Mov=>[pLs cM l]) (SlOk fun _ _=>True):=zi7 (z:=11) Tryz.underlying36 (by kernel_rfl) (by decide) (fun _=>rfl) zwe
end
end Go.Proofs.YteimplkdcjapdaaGreatDoor
set_option synthInstance.maxSize 2000
set_option synthInstance.maxHeartbeats 400000
namespace Go.Proofs.YteimplkdcjapdaaGreatDoor
open Go.RowKit
def zlq (l:List (List Int)) (m:Int):List (List Int):=(l.take m.toNat).map (·.take 12)
theorem znC {l:List (List Int)} {k n:Nat} {x:List Int} (h:l[k]?=some x) (hk:k<n):((l.take n).map (·.take 12)).drop k=x.take 12::((l.take n).map (·.take 12)).drop (k+1):=by
 have h2:((l.take n).map (·.take 12))[k]?=some (x.take 12):=by rw [List.getElem?_map,List.getElem?_take_of_lt hk,h];rfl
 obtain ⟨h1,e⟩:=List.getElem?_eq_some_iff.1 h2
 rw [List.drop_eq_getElem_cons h1,e]
def zha:List Atom:=[.sl 0 0,.sl 1 1,.sl 4 (.o (.c (.k (.slice none 0 0)))),.sl 5 (.o (.c (.gr 901))),.sl 6 2,.gl 901 24 1 1]
def lsA_S:LoopS:=⟨3,zha.map (tnA (jf [0,1,kI 0]) (kf [0,0]) (kf [])),(.x 0),(drs [4] zha)⟩
def lsA_t:Tr:=.s [(5002,.ln 22 3 0),(5003,.bin .lss 3 2 3)] (.b 4 (.s [(5007,.bin .lss 3 2 1)] (.b 5 (.s [(5012,.ia 22 24 1 0 2),(5013,.ld 24 0 6),(5016,.ia 22 24 1 0 2),(5017,.ld 24 0 8),(5018,.ln 24 3 9),(0,.raw [(1005019,.op (.min [3,3] 3) [10,LF (.k (.int .i64 12))] [] 11)] 1),(0,.raw [(1005020,.op (.sc 24 false true false) [7,11] [] 12)] 1),(0,.raw [(1005022,.app 24 1 901 1 2 (.o (.c (.s 5021 0 1 1))) [.bx 5021 24 [.h 12]] false)] 0),(5025,.bin .add 3 2 (kI 1))] (.z (.nx [0,1,13] [0,2] []))) (.z (.xt (.x 0) [0,1] [0,1] [])))) (.z (.xt (.x 0) [0,1] [0,1] [])))
theorem zrO {w0:World} (l:(List (List Int))) (m:Int) (o2:(List (List Int))) (hm:0≤m∧m≤100) (hO:(l.take m.toNat).map (·.take 12)=o2):LpH (KN w0) Tryz.prog 11 ⟨ntOf Tryz.prog 11,[],[]⟩ lsA_S 0 ⟨2,[sI m,.ls 1 cLI kLI l],[pG cLI ([]:List (List Int)),pG cLI o2],[]⟩:=by
 refine zi _ ⟨zha,lsA_S,(3,2,0),(2,2,0),5000⟩ (T:=Int×(List (List Int))) (fun t=>⟨3,[sI t.1,sI m,.ls 1 cLI kLI l],[pG cLI ([]:List (List Int)),pG cLI t.2],[]⟩) (fun (i,o)=>∃k:Nat,i=(k:Int)∧k≤l.length∧(k:Int)≤m∧o.length=k∧o++((l.take m.toNat).map (·.take 12)).drop k=o2) (fun (i,o)=>(m - i).toNat) ((0:Int),([]:List (List Int))) [0,1,kI 0] [0,0] [] lsA_t mixed ⟨0,rfl,by omega,by omega,rfl,hO⟩ rfl rfl rfl rfl (fun _=>rfl) rfl rfl (by kernel_rfl) ?_
 rintro ⟨i,o⟩ hJ
 dsimp only at hJ ⊢
 obtain ⟨k,hi,hk,hkm,ho,hs⟩:=hJ
 intro v501 e501 v502 e502
 refine ai (fun h503=>?_) fun h503=>?_
 ·
  intro v504 e504
  refine ai (fun h505=>?_) fun h505=>?_
  ·
   have dh503:=LD e502 h503
   have dh505:=LD e504 h505
   have hzv501:=e501
   refine ai (by (exact ⟨k,_,hi,List.getElem?_eq_getElem (by omega)⟩)) fun n506 x507 s508 s509=>?_
   refine ai (by (exact ⟨k,_,hi,List.getElem?_eq_getElem (by omega)⟩)) fun n510 x511 s512 s513=>?_
   intro v514 e514
   obtain ⟨v515,e515⟩:=LX ((if (12:Int)<v514 then (12:Int) else v514))
   refine rx [sI v515] [] [] (fun t u w=>⟨e_op2 (za rfl) zf (za rfl) (fun W=>by rw [← e515];exact zlW W),trivial⟩) ?_
   obtain ⟨n516,s517⟩:∃(n516:Nat),v515=(n516:Int):=by exact ⟨min 12 x511.length,by rw [← e515,← e514];split<;>omega⟩
   obtain ⟨v518,e518⟩:=LX (x507.take n516)
   have s519:n516≤x507.length:=by (have hxx:x511=x507:=(by have a1:=s509;have a2:=s513;rw [show n510=n506 by omega,a1] at a2;injection a2 with a2;exact a2.symm);have h3:=s517;rw [← e515,← e514,hxx] at h3;split at h3<;>omega)
   refine rx [.ls 1 cI kIc v518] [] [] (fun t u w=>⟨zak (E:=3) (z:=1) (fun _=>rfl) (by kernel_rfl) (by kernel_rfl) (zm rfl) (za rfl) s517 s519 (zm (by rw [e518];rfl)),trivial⟩) ?_
   obtain ⟨v520,e520⟩:=LX (o++[v518])
   have s521:(o.length+1)*1≤1099511627776:=by (omega)
   refine rx [] [pG cLI v520] [] (fun t u w=>⟨zrI (c:=cLI) (x:=v518) zez (fun _=>rfl) (.inr ⟨rfl,rfl⟩) (by rw [e520];rfl) rfl (fun _ _ _ h=>h) rfl s521,trivial⟩) ?_
   intro v522 e522
   refine nxl (v522,v520) ?_ ?_ rfl
   any_goals dsimp only
   all_goals (have hkn:n506=k:=(by omega);subst hkn;have hxx:x511=x507:=(by have a1:=s509;have a2:=s513;rw [show n510=n506 by omega,a1] at a2;injection a2 with a2;exact a2.symm);have ht:x507.take 12=v518:=(by have h3:=s517;rw [← e515,← e514,hxx] at h3;rw [← e518];split at h3<;>first | (rw [show n516=12 by omega]) | (rw [List.take_of_length_le (by omega),List.take_of_length_le (by omega)]));rw [znC s509 (by omega),ht] at hs;have x3:v522=((n506+1:Nat):Int):=(by rw [← e522,hi,wri (by omega)];omega))
   ·show (m - v522).toNat<(m - i).toNat
    omega
   ·exact ⟨n506+1,x3,by have:=(List.getElem?_eq_some_iff.1 s509).1;omega,by omega,by rw [← e520,List.length_append,ho];rfl,by rw [← e520,List.append_assoc];exact hs⟩
  ·
   have dh503:=LD e502 h503
   have dh505:=LE e504 h505
   have hzv501:=e501
   have hq:((o)=o2)∧True:=by
    refine ⟨?_,trivial⟩
    all_goals (rw [List.drop_of_length_le (by rw [List.length_map,List.length_take];omega),List.append_nil] at hs;exact hs)
   obtain ⟨q0,-⟩:=hq
   rw [← q0]
   rfl
 ·
  have dh503:=LE e502 h503
  have hzv501:=e501
  have hq:((o)=o2)∧True:=by
   refine ⟨?_,trivial⟩
   all_goals (rw [List.drop_of_length_le (by rw [List.length_map,List.length_take];omega),List.append_nil] at hs;exact hs)
  obtain ⟨q0,-⟩:=hq
  rw [← q0]
  rfl
def zms:Tr:=.s [(0,.gh ⟨1,[.sl 5 (.o (.c (.k (.slice none 0 0)))),.gn 901],[.sl 5 (.o (.c (.gr 901))),.gl 901 24 1 0],[]⟩ 0),(0,.lp lsA_S 0 0),(0,.gh ⟨6,.gl 901 24 1 1::[4].map (fun s=>.sl s (.o (.c (.gr 901)))),[4].map (fun s=>.sl s 2),[901]⟩ 1)] (.z (.ret false (2) []))
theorem zq4 {w0:World} (l:List (List Int)) (m:Int) (r:List (List Int)) (hr:zlq l m=r) (hm:0≤m∧m≤100):Fun (KN w0) Tryz.prog 11 [.o (.c (pLs cLI l)),.o (.c (pI m))] (.o (.c (pLs cLI r))):=by
 refine tfn w0 11 ⟨[0,1],[],[901],0,0⟩ ⟨2,[sI m,.ls 1 cLI kLI l],[],[]⟩ zms (by kernel_rfl) ?_
 refine rx [] [pG cLI ([]:List (List Int))] [] (fun t u w _=>zbT (c:=cLI) rfl) ?_
 obtain ⟨o2,hO_lsA⟩:∃(o2:(List (List Int))),(l.take m.toNat).map (·.take 12)=o2:=⟨_,rfl⟩
 refine rx [] [pG cLI o2] [] (zrO l m  o2 hm hO_lsA) ?_
 refine rx [.ls 1 cLI kLI o2] [] [] (fun t u w _=>qS (c:=cLI) (fun _=>rfl) (by decide) zez rfl rfl) ?_
 intro hc
 refine Fun.fin (r:=.o (.c (pLs cLI o2))) (zc (hc)) (fun v W D h=>?_)
 have r0:r=o2:=by
  exact hr.symm.trans hO_lsA
 rw [r0];exact h
end Go.Proofs.YteimplkdcjapdaaGreatDoor
set_option synthInstance.maxSize 2000
set_option synthInstance.maxHeartbeats 400000
namespace Go.Proofs.YteimplkdcjapdaaGreatDoor
open Go.RowKit
def Sm (a:Int) (e:Xp):Prop:=(∃n,(-1048576≤n∧n≤1048576)∧e=numX n)∨(e=.mk 2 0 []∧(1≤a∧a≤4))
def Gs (a:Int) (s:Stm):Prop:=s.2.2.1=[]∧((s.1=1∧s.2.1=0∧s.2.2.2.length=3)∨(s.1=2∧s.2.1=0∧s.2.2.2.length=4)∨(s.1=3∧s.2.1=0∧s.2.2.2.length=7)∨(s.1=4∧s.2.1=0∧s.2.2.2.length=0)∨(s.1=4∧s.2.1=1∧s.2.2.2.length=1)∨(s.1=4∧s.2.1=2∧s.2.2.2.length=1))∧∀e∈s.2.2.2,Sm a e
section
variable {n:Int} (hn:-1048576≤n∧n≤1048576) {before inner:List Stm} (hb:∀s∈before,Gs 0 s) (hi:∀s∈inner,Gs 1 s) (hbl:before.length≤20) (hil:inner.length≤40)
include hn hb hi hbl hil
end
theorem znD {l:List (List Int)} {m:Int}:∀x∈zlq l m,x.length≤100:=fun x hx=>by
 obtain ⟨y,_,rfl⟩:=List.mem_map.1 hx
 have:=List.length_take_le 12 y
 omega
def By (b:Vec):Prop:=(-4≤b.1∧b.1≤4)∧(-4≤b.2.1∧b.2.1≤4)∧-4≤b.2.2∧b.2.2≤4
def shM (b:Vec) (m:Mov):Mov:=(m.1,addV m.2.1 b,addV m.2.2.1 b,if m.1=3 then addV m.2.2.2.1 b else m.2.2.2.1,m.2.2.2.2)
def ShC (b:Vec):Option Str→Option Str→Prop
 | none,none=>True
 | some c,some d=>(d.1=addV c.1 b∧inV c.1=true∧inV d.1=true)∧d.2.1=c.2.1∧(d.2.2.1=c.2.2.1.map (fun p=>addV p b)∧∀p∈c.2.2.1,inV p=true∧inV (addV p b)=true)∧d.2.2.2=c.2.2.2
 | _,_=>False
structure Shr (b:Vec) (s t:Rn):Prop where
 p:t.1=addV s.1 b
 i:inV s.1=true∧inV t.1=true
 m:t.2.1=s.2.1.map (shM b)
 c:ShC b s.2.2.2 t.2.2.2
section
variable {b:Vec} (hb:By b)
include hb
end
section
variable {b:Vec} (hb:By b)
include hb
end
end Go.Proofs.YteimplkdcjapdaaGreatDoor
namespace Go.Proofs.YteimplkdcjapdaaGreatDoor
open Go.RowKit
def conn:Vec→List Mov→Vec→Prop
 | p,[],q=>p=q
 | p,m::r,q=>chkM m=0∧m.2.1=p∧conn m.2.2.1 r q
structure Iv (st:Vec) (s:Rn):Prop where
 ln:s.2.1.length≤40
 pt:inV s.1=true
 no:s.2.2.2=none→conn st s.2.1 s.1
 so:∀c,s.2.2.2=some c→conn st s.2.1 c.1∧inV c.1=true∧c.2.2.2.length=c.2.2.1.length∧(∀f∈c.2.2.2,1≤f∧f≤100)∧(c.2.2.1=[]→s.1=c.1)
variable {st:Vec}
end Go.Proofs.YteimplkdcjapdaaGreatDoor
namespace Go.Proofs.YteimplkdcjapdaaGreatDoor
open Go.RowKit
attribute [local go_sem] Oper.semAt_some
structure At5 (n:Nat) (m:Mov) (s k:Int) (v:Vec) (b:Bool) (W:World):Prop where
 c0:W.heap[n]?=some (.cells (mcs m).toArray 45 (0,0))
 c1:W.heap[n+1]?=some (.cells #[.int .i64 s] 3 (0,0))
 c2:W.heap[n+1+1]?=some (.cells (vcs v).toArray 26 (0,0))
 c3:W.heap[n+1+1+1]?=some (.cells #[.bool b] 4 (0,0))
 c4:W.heap[n+1+1+1+1]?=some (.cells #[.int .i64 k] 3 (0,0))
theorem At5.lt {n:Nat} {m:Mov} {s k:Int} {v:Vec} {b:Bool} {W:World} (h:At5 n m s k v b W):n+1+1+1+1<W.heap.size:=(Array.getElem?_eq_some_iff.1 h.c4).1
theorem At5.own {n:Nat} {m:Mov} {s k:Int} {v:Vec} {b:Bool} {W W':World} {row:Option Nat} (h:At5 n m s k v b W) (hg:W.grownBy W' row) (hr:∀r,row=some r→∃o:Obj,W.heap[r]?=some o∧o.isCells=false):At5 n m s k v b W' :=
 ⟨zfP h.c0 rfl hg hr,zfP h.c1 rfl hg hr,zfP h.c2 rfl hg hr,zfP h.c3 rfl hg hr,zfP h.c4 rfl hg hr⟩
end Go.Proofs.YteimplkdcjapdaaGreatDoor
namespace Go.Proofs.YteimplkdcjapdaaGreatDoor
open Go.RowKit
theorem zts {a b c:Int} (ha:a≠-9223372036854775808) (hb:b≠-9223372036854775808) (hc:c≠-9223372036854775808):divL 0 [a,b,c]=((Nat.gcd (Nat.gcd (Nat.gcd 0 a.natAbs) b.natAbs) c.natAbs:Nat):Int):=by
 rw [divL,if_neg ha,divL,if_neg hb,divL,if_neg hc,divL]
theorem zs1 {a:Int} {g:Nat} (h:g ∣ a.natAbs):(g:Int)*a.tdiv g=a:=Int.mul_tdiv_cancel' (Int.ofNat_dvd_left.2 h)
theorem zte {a:Int} {g:Nat} (h:a.natAbs≤1000):(a.tdiv g).natAbs≤1000:=by
 rw [Int.natAbs_tdiv]
 exact Nat.le_trans (Nat.div_le_self _ _) h
theorem zs0 {v:Vec} (hv:smV v):0≤(primV v).2∧(primV v).2*(primV v).1.1=v.1∧(primV v).2*(primV v).1.2.1=v.2.1∧(primV v).2*(primV v).1.2.2=v.2.2∧((primV v).2=0→(primV v).1=(0,0,0)):=by
 obtain ⟨x,y,z⟩:=v
 obtain ⟨h1,h2,h3⟩:=hv
 dsimp only at h1 h2 h3
 have e:=zts (a:=x) (b:=y) (c:=z) (by omega) (by omega) (by omega)
 unfold primV
 dsimp only
 rw [e]
 generalize hg:Nat.gcd (Nat.gcd (Nat.gcd 0 x.natAbs) y.natAbs) z.natAbs=g
 have d3:g ∣ z.natAbs:=hg ▸ Nat.gcd_dvd_right _ _
 have d12:g ∣ Nat.gcd (Nat.gcd 0 x.natAbs) y.natAbs:=hg ▸ Nat.gcd_dvd_left _ _
 have d2:g ∣ y.natAbs:=Nat.dvd_trans d12 (Nat.gcd_dvd_right _ _)
 have d1:g ∣ x.natAbs:=Nat.dvd_trans (Nat.dvd_trans d12 (Nat.gcd_dvd_left _ _)) (Nat.gcd_dvd_right _ _)
 by_cases h0:(g:Int)=0
 ·rw [if_pos h0]
  have g0:g=0:=by omega
  rw [g0] at d1 d2 d3
  have e1:=Nat.eq_zero_of_zero_dvd d1
  have e2:=Nat.eq_zero_of_zero_dvd d2
  have e3:=Nat.eq_zero_of_zero_dvd d3
  refine ⟨Int.le_refl _,?_,?_,?_,fun _=>rfl⟩
  ·show (0:Int)*0=x;omega
  ·show (0:Int)*0=y;omega
  ·show (0:Int)*0=z;omega
 ·rw [if_neg h0]
  have b1:=zte (a:=x) (g:=g) (by omega)
  have b2:=zte (a:=y) (g:=g) (by omega)
  have b3:=zte (a:=z) (g:=g) (by omega)
  refine ⟨Int.natCast_nonneg g,?_,?_,?_,fun h=>absurd h h0⟩
  ·show (g:Int)*wI (x.tdiv g)=x
   rw [wI_eq (by omega)];exact zs1 d1
  ·show (g:Int)*wI (y.tdiv g)=y
   rw [wI_eq (by omega)];exact zs1 d2
  ·show (g:Int)*wI (z.tdiv g)=z
   rw [wI_eq (by omega)];exact zs1 d3
def arcIJ (r:Nat):Nat→Nat→Nat→List (Nat×Nat)
 | 0,_,_=>[]
 | k+1,j,i=>(if downI (r*r) j i*downI (r*r) j i+j*j=r*r then [(downI (r*r) j i,j)] else [])++arcIJ r k (j+1) (downI (r*r) j i)
theorem ztw {c a b:Vec} {r:Nat}:∀{k j i:Nat},arcG c a b r k j i=(arcIJ r k j i).map fun p=>plusV (plusV c a p.1) b p.2
 | 0,_,_=>rfl
 | k+1,j,i=>by
  rw [arcG,arcIJ,List.map_append,ztw]
  split<;>rfl
theorem zsT (m:Mov):0≤stepM m∧stepM m≤48:=zb5 (m:=m) trivial
theorem ztq:∀l:List Mov,0≤sumM l∧sumM l≤48*(l.length:Int)
 | []=>⟨Int.le_refl _,Int.le_refl _⟩
 | m::r=>by
  have h1:=zsT m
  have h2:=ztq r
  rw [sumM,List.length_cons]
  omega
structure PnD (st:Vec) (g:List Mov):Prop where
 ln:g.length≤40
 ck:chkP g=0
 fs:∀{k:Nat} {m:Mov},g[k]?=some m→(0:Int)=(k:Int)→m.2.1=st
 al:∀m∈g,chkM m=0
variable {st:Vec} {g:List Mov}
end Go.Proofs.YteimplkdcjapdaaGreatDoor
set_option synthInstance.maxSize 2000
set_option synthInstance.maxHeartbeats 400000
namespace Go.Proofs.YteimplkdcjapdaaGreatDoor
open Go.RowKit
theorem zwp {a b:Nat} (ha:a<9223372036854775808) (hb:b<9223372036854775808):a.gcd b<9223372036854775808:=by
 rcases Nat.eq_zero_or_pos a with h | h
 ·rw [h,Nat.gcd_zero_left];exact hb
 ·exact Nat.lt_of_le_of_lt (Nat.gcd_le_left b h) ha
theorem zuH {g a o:Int} (h:((g.toNat.gcd a.toNat:Nat):Int)=o) (hg:g<9223372036854775808) (ha:a<9223372036854775808):0≤o∧o<9223372036854775808:=by
 have:=zwp (a:=g.toNat) (b:=a.toNat) (by omega) (by omega)
 omega
theorem gh_hk {K:Kit} {F:Fact} {id s n:Nat} {v:Value} (h:F.c n=pV v):Gh.sound K F ⟨id,[.sl s (.o (.c (.h n)))],[.sl s (.o (.c (.k v)))],[]⟩:=by
 intro β a W hg hA
 have h1:F.c n (a.tmps.getD s undef) W β.D:=hA _ (List.mem_cons_self ..)
 refine ⟨β,hg,fun _ _=>Loc.same.rfl,fun _ h=>h,fun _ h=>.inl h,fun c hc=>(by cases hc),fun A hAm=>?_⟩
 obtain rfl:=List.mem_singleton.1 hAm
 rw [h] at h1
 exact h1
theorem zuA {v:Vec} {g:Int} (h:divL 0 [v.1,v.2.1,v.2.2]=g):primV v=if g=0 then ((0,0,0),0) else ((wI (v.1.tdiv g),wI (v.2.1.tdiv g),wI (v.2.2.tdiv g)),g):=by
 unfold primV;rw [h]
theorem zuY {v:Vec} (h:v.1=-9223372036854775808∨v.2.1=-9223372036854775808∨v.2.2=-9223372036854775808):divL 0 [v.1,v.2.1,v.2.2]=0:=zit 0 (by rcases h with h | h | h<;>simp [h])
def zvZ:Tr:=.z (.ret false (.o (.g [0,1,2])) [])
theorem zwb {w0:World} (a:Vec) (r:Vec) (hr:a=r):Fun (KN w0) Tryz.prog 89 [.o (.g [pI a.1,pI a.2.1,pI a.2.2])] (.o (.g [pI r.1,pI r.2.1,pI r.2.2])):=by
 refine tfn w0 89 ⟨[.o (.g [0,1,2])],[],[],0,0⟩ ⟨3,[sI a.2.2,sI a.2.1,sI a.1],[],[]⟩ zvZ (by kernel_rfl) ?_
 intro hc
 refine Fun.fin (r:=.o (.g [pI a.1,pI a.2.1,pI a.2.2])) (zc (hc)) (fun v W D h=>?_)
 have r0:r=a:=by
  exact hr.symm
 rw [r0];exact h
def zwm:Tr:=.s [(3,.call 89 [.o (.g [0,1,2])] (.o (.g 3))),(12,.bin .lss 3 3 (kI (-24)))] (.b 6 (.z (.ret false (LF (kB false)) [])) (.s [(17,.bin .gtr 3 3 (kI 24))] (.b 7 (.z (.ret false (LF (kB false)) [])) (.s [(0,.raw [(1000020,.bin .add 3 (LF (.k (.int .i64 0))) (LF (.k (.int .i64 1))) (LF (.k (.int .i64 1))))] 0),(27,.bin .lss 3 4 (kI (-24)))] (.b 8 (.z (.ret false (LF (kB false)) [])) (.s [(32,.bin .gtr 3 4 (kI 24))] (.b 9 (.z (.ret false (LF (kB false)) [])) (.s [(0,.raw [(1000035,.bin .add 3 (LF (.k (.int .i64 1))) (LF (.k (.int .i64 1))) (LF (.k (.int .i64 2))))] 0),(42,.bin .lss 3 5 (kI (-24)))] (.b 10 (.z (.ret false (LF (kB false)) [])) (.s [(47,.bin .gtr 3 5 (kI 24))] (.b 11 (.z (.ret false (LF (kB false)) [])) (.s [(0,.raw [(1000050,.bin .add 3 (LF (.k (.int .i64 2))) (LF (.k (.int .i64 1))) (LF (.k (.int .i64 3))))] 0)] (.z (.ret false (LF (kB true)) []))))))))))))))
theorem t_rin {w0:World} (a:Vec) (r:Bool) (hr:inV a=r):Fun (KN w0) Tryz.prog 59 [.o (.g [pI a.1,pI a.2.1,pI a.2.2])] (.o (.c (pB r))):=by
 refine tfn w0 59 ⟨[.o (.g [0,1,2])],[],[],0,4⟩ ⟨3,[sI a.2.2,sI a.2.1,sI a.1],[],[]⟩ zwm (by kernel_rfl) ?_
 obtain ⟨v1,e1⟩:=LX (a)
 refine cx (.o (.g [sI v1.1,sI v1.2.1,sI v1.2.2])) (zwb a v1 e1) rfl ?_
 intro v2 e2
 refine ai (fun h3=>?_) fun h3=>?_
 ·
  intro hc
  refine Fun.fin (r:=.o (.c (pV (.bool false)))) (zc (hc)) (fun v W D h=>?_)
  have r0:r=false:=by
   (have dh3:=LD e2 h3;subst e1;rw [← hr];rw [Bool.eq_false_iff];intro hq;have hq2:=zeD.1 hq;omega)
  rw [r0];exact h
 ·
  intro v4 e4
  refine ai (fun h5=>?_) fun h5=>?_
  ·
   intro hc
   refine Fun.fin (r:=.o (.c (pV (.bool false)))) (zc (hc)) (fun v W D h=>?_)
   have r0:r=false:=by
    (have dh3:=LE e2 h3;have dh5:=LD e4 h5;subst e1;rw [← hr];rw [Bool.eq_false_iff];intro hq;have hq2:=zeD.1 hq;omega)
   rw [r0];exact h
  ·
   refine rx [] [] [] (fun t u w=>⟨e_bin zf zf zf (r_ar rfl),trivial⟩) ?_
   intro v6 e6
   refine ai (fun h7=>?_) fun h7=>?_
   ·
    intro hc
    refine Fun.fin (r:=.o (.c (pV (.bool false)))) (zc (hc)) (fun v W D h=>?_)
    have r0:r=false:=by
     (have dh3:=LE e2 h3;have dh5:=LE e4 h5;have dh7:=LD e6 h7;subst e1;rw [← hr];rw [Bool.eq_false_iff];intro hq;have hq2:=zeD.1 hq;omega)
    rw [r0];exact h
   ·
    intro v8 e8
    refine ai (fun h9=>?_) fun h9=>?_
    ·
     intro hc
     refine Fun.fin (r:=.o (.c (pV (.bool false)))) (zc (hc)) (fun v W D h=>?_)
     have r0:r=false:=by
      (have dh3:=LE e2 h3;have dh5:=LE e4 h5;have dh7:=LE e6 h7;have dh9:=LD e8 h9;subst e1;rw [← hr];rw [Bool.eq_false_iff];intro hq;have hq2:=zeD.1 hq;omega)
     rw [r0];exact h
    ·
     refine rx [] [] [] (fun t u w=>⟨e_bin zf zf zf (r_ar rfl),trivial⟩) ?_
     intro v10 e10
     refine ai (fun h11=>?_) fun h11=>?_
     ·
      intro hc
      refine Fun.fin (r:=.o (.c (pV (.bool false)))) (zc (hc)) (fun v W D h=>?_)
      have r0:r=false:=by
       (have dh3:=LE e2 h3;have dh5:=LE e4 h5;have dh7:=LE e6 h7;have dh9:=LE e8 h9;have dh11:=LD e10 h11;subst e1;rw [← hr];rw [Bool.eq_false_iff];intro hq;have hq2:=zeD.1 hq;omega)
      rw [r0];exact h
     ·
      intro v12 e12
      refine ai (fun h13=>?_) fun h13=>?_
      ·
       intro hc
       refine Fun.fin (r:=.o (.c (pV (.bool false)))) (zc (hc)) (fun v W D h=>?_)
       have r0:r=false:=by
        (have dh3:=LE e2 h3;have dh5:=LE e4 h5;have dh7:=LE e6 h7;have dh9:=LE e8 h9;have dh11:=LE e10 h11;have dh13:=LD e12 h13;subst e1;rw [← hr];rw [Bool.eq_false_iff];intro hq;have hq2:=zeD.1 hq;omega)
       rw [r0];exact h
      ·
       refine rx [] [] [] (fun t u w=>⟨e_bin zf zf zf (r_ar rfl),trivial⟩) ?_
       intro hc
       refine Fun.fin (r:=.o (.c (pV (.bool true)))) (zc (hc)) (fun v W D h=>?_)
       have r0:r=true:=by
        (have dh3:=LE e2 h3;have dh5:=LE e4 h5;have dh7:=LE e6 h7;have dh9:=LE e8 h9;have dh11:=LE e10 h11;have dh13:=LE e12 h13;subst e1;rw [← hr];exact zeD.2 (by omega))
       rw [r0];exact h
def zuN:List Atom:=[.sl 1 (.o (.c (.p 0 0))),.sl 2 (.o (.c (.p 1 0))),.sl 4 (.o (.c (.p 5 0))),.sl 5 12,.sl 6 (.o (.c (.k (.int .i64 0)))),.sl 7 11,.bx 0 26 [.h 0,.h 1,.h 2],.bx 1 26 [.k (.int .i64 0),.k (.int .i64 0),.k (.int .i64 0)],.bx 5 23 [.h 3,.h 4,.h 5]]
def zvo:LoopS:=⟨9,zuN.map (tnA (jf (hZ 11 [10,7])) (kf []) (kf [])),(.x 2),(drs [5] zuN).map (tnA (jf (hZ 12 [11])) (kf []) (kf []))⟩
def zwv:Tr:=.s [(0,.fb 8 true),(0,.fb 9 false),(8001,.bin .gtr 3 11 (kI 0))] (.b 13 (.s [(8005,.dv .rem 3 12 11)] (.z (.nx (hZ 11 [14,11]) [] []))) (.z (.xt (.x 2) (hZ 11 [12]) [] [])))
theorem zvF {w0:World} (a:Vec) (v1:Vec) (k:Int) (g:Int) (v501:Bool) (v504:Bool) (v506:Int) (s503:v501=true) (h505:v504=false) (go:Int) (hg:0≤g) (hG:g<9223372036854775808) (hn:0≤v506) (hNN:v506<9223372036854775808) (hO:((g.toNat.gcd v506.toNat:Nat):Int)=go):LpH (KN w0) Tryz.prog 123 ⟨ntOf Tryz.prog 123,[],[]⟩ zvo 1 ⟨12,[sI go,sI v506,sB v504,sB v501,sI g,sI k,sI v1.2.2,sI v1.2.1,sI v1.1,sI a.2.2,sI a.2.1,sI a.1],[],[]⟩:=by
 refine zi _ ⟨zuN,zvo,(13,0,0),(12,0,0),8000⟩ (T:=Int×Int) (fun t=>⟨13,[sI t.2,sI t.1,sI v506,sB v504,sB v501,sI g,sI k,sI v1.2.2,sI v1.2.1,sI v1.1,sI a.2.2,sI a.2.1,sI a.1],[],[]⟩) (fun (aj,gj)=>0≤gj∧gj<9223372036854775808∧0≤aj∧aj<9223372036854775808∧((gj.toNat.gcd aj.toNat:Nat):Int)=go) (fun (aj,gj)=>aj.toNat) (v506,g) (hZ 11 [10,7]) [] [] zwv mixed ⟨hg,hG,hn,hNN,hO⟩ rfl rfl rfl rfl (fun _=>rfl) rfl rfl (by kernel_rfl) ?_
 rintro ⟨aj,gj⟩ hJ
 dsimp only at hJ ⊢
 obtain ⟨u1,u2,u3,u4,u5⟩:=hJ
 refine ai s503 ?_
 refine ai h505 ?_
 intro v1001 e1001
 refine ai (fun h1002=>?_) fun h1002=>?_
 ·
  have s1004:aj≠0:=by (have dh1002:=LD e1001 h1002;omega)
  refine ai s1004 fun v1003 e1003=>?_
  refine nxl (v1003,aj) ?_ ?_ rfl
  all_goals (have dh1002:=LD e1001 h1002;have hm:v1003=gj%aj:=(by rw [← e1003,Int.tmod_eq_emod_of_nonneg u1]);have hp:=Int.emod_nonneg gj (show aj≠0 by omega);have hq:=Int.emod_lt_of_pos gj (show 0<aj by omega);have ht:v1003.toNat=gj.toNat%aj.toNat:=(by rw [hm];exact Int.toNat_emod u1 u3))
  ·show v1003.toNat<aj.toNat
   omega
  ·exact ⟨u3,u4,by omega,by omega,by rw [← u5,ht,Nat.gcd_comm gj.toNat,Nat.gcd_rec aj.toNat gj.toNat,Nat.gcd_comm]⟩
 ·
  have hq:((gj)=go)∧True:=by
   refine ⟨?_,trivial⟩
   (have dh1002:=LE e1001 h1002;have h0:aj=0:=(by omega);rw [← u5,h0,Int.toNat_zero,Nat.gcd_zero_right];omega)
  obtain ⟨q0,-⟩:=hq
  rw [← q0]
  rfl
def zuO:List Atom:=[.sl 1 (.o (.c (.p 0 0))),.sl 2 (.o (.c (.p 1 0))),.sl 4 (.o (.c (.p 5 0))),.sl 5 12,.sl 6 (.o (.c (.k (.int .i64 1)))),.sl 7 11,.bx 0 26 [.h 0,.h 1,.h 2],.bx 1 26 [.k (.int .i64 0),.k (.int .i64 0),.k (.int .i64 0)],.bx 5 23 [.h 3,.h 4,.h 5]]
def zvp:LoopS:=⟨9,zuO.map (tnA (jf (hZ 11 [10,7])) (kf []) (kf [])),(.x 2),(drs [5] zuO).map (tnA (jf (hZ 12 [11])) (kf []) (kf []))⟩
def zww:Tr:=.s [(0,.fb 8 true),(0,.fb 9 false),(9001,.bin .gtr 3 11 (kI 0))] (.b 13 (.s [(9005,.dv .rem 3 12 11)] (.z (.nx (hZ 11 [14,11]) [] []))) (.z (.xt (.x 2) (hZ 11 [12]) [] [])))
theorem zvG {w0:World} (a:Vec) (v1:Vec) (k:Int) (g:Int) (v501:Bool) (v505:Bool) (v507:Int) (s504:v501=true) (h506:v505=false) (go:Int) (hg:0≤g) (hG:g<9223372036854775808) (hn:0≤v507) (hNN:v507<9223372036854775808) (hO:((g.toNat.gcd v507.toNat:Nat):Int)=go):LpH (KN w0) Tryz.prog 123 ⟨ntOf Tryz.prog 123,[],[]⟩ zvp 1 ⟨12,[sI go,sI v507,sB v505,sB v501,sI g,sI k,sI v1.2.2,sI v1.2.1,sI v1.1,sI a.2.2,sI a.2.1,sI a.1],[],[]⟩:=by
 refine zi _ ⟨zuO,zvp,(13,0,0),(12,0,0),9000⟩ (T:=Int×Int) (fun t=>⟨13,[sI t.2,sI t.1,sI v507,sB v505,sB v501,sI g,sI k,sI v1.2.2,sI v1.2.1,sI v1.1,sI a.2.2,sI a.2.1,sI a.1],[],[]⟩) (fun (aj,gj)=>0≤gj∧gj<9223372036854775808∧0≤aj∧aj<9223372036854775808∧((gj.toNat.gcd aj.toNat:Nat):Int)=go) (fun (aj,gj)=>aj.toNat) (v507,g) (hZ 11 [10,7]) [] [] zww mixed ⟨hg,hG,hn,hNN,hO⟩ rfl rfl rfl rfl (fun _=>rfl) rfl rfl (by kernel_rfl) ?_
 rintro ⟨aj,gj⟩ hJ
 dsimp only at hJ ⊢
 obtain ⟨u1,u2,u3,u4,u5⟩:=hJ
 refine ai s504 ?_
 refine ai h506 ?_
 intro v1001 e1001
 refine ai (fun h1002=>?_) fun h1002=>?_
 ·
  have s1004:aj≠0:=by (have dh1002:=LD e1001 h1002;omega)
  refine ai s1004 fun v1003 e1003=>?_
  refine nxl (v1003,aj) ?_ ?_ rfl
  all_goals (have dh1002:=LD e1001 h1002;have hm:v1003=gj%aj:=(by rw [← e1003,Int.tmod_eq_emod_of_nonneg u1]);have hp:=Int.emod_nonneg gj (show aj≠0 by omega);have hq:=Int.emod_lt_of_pos gj (show 0<aj by omega);have ht:v1003.toNat=gj.toNat%aj.toNat:=(by rw [hm];exact Int.toNat_emod u1 u3))
  ·show v1003.toNat<aj.toNat
   omega
  ·exact ⟨u3,u4,by omega,by omega,by rw [← u5,ht,Nat.gcd_comm gj.toNat,Nat.gcd_rec aj.toNat gj.toNat,Nat.gcd_comm]⟩
 ·
  have hq:((gj)=go)∧True:=by
   refine ⟨?_,trivial⟩
   (have dh1002:=LE e1001 h1002;have h0:aj=0:=(by omega);rw [← u5,h0,Int.toNat_zero,Nat.gcd_zero_right];omega)
  obtain ⟨q0,-⟩:=hq
  rw [← q0]
  rfl
def zuP:List Atom:=[.sl 1 (.o (.c (.p 0 0))),.sl 2 (.o (.c (.p 1 0))),.sl 4 (.o (.c (.p 5 0))),.sl 5 12,.sl 6 (.o (.c (.k (.int .i64 2)))),.sl 7 11,.bx 0 26 [.h 0,.h 1,.h 2],.bx 1 26 [.k (.int .i64 0),.k (.int .i64 0),.k (.int .i64 0)],.bx 5 23 [.h 3,.h 4,.h 5]]
def zvq:LoopS:=⟨9,zuP.map (tnA (jf (hZ 11 [10,7])) (kf []) (kf [])),(.x 2),(drs [5] zuP).map (tnA (jf (hZ 12 [11])) (kf []) (kf []))⟩
def zwx:Tr:=.s [(0,.fb 8 true),(0,.fb 9 false),(10001,.bin .gtr 3 11 (kI 0))] (.b 13 (.s [(10005,.dv .rem 3 12 11)] (.z (.nx (hZ 11 [14,11]) [] []))) (.z (.xt (.x 2) (hZ 11 [12]) [] [])))
theorem zvH {w0:World} (a:Vec) (v1:Vec) (k:Int) (g:Int) (v501:Bool) (v506:Bool) (v508:Int) (s505:v501=true) (h507:v506=false) (go:Int) (hg:0≤g) (hG:g<9223372036854775808) (hn:0≤v508) (hNN:v508<9223372036854775808) (hO:((g.toNat.gcd v508.toNat:Nat):Int)=go):LpH (KN w0) Tryz.prog 123 ⟨ntOf Tryz.prog 123,[],[]⟩ zvq 1 ⟨12,[sI go,sI v508,sB v506,sB v501,sI g,sI k,sI v1.2.2,sI v1.2.1,sI v1.1,sI a.2.2,sI a.2.1,sI a.1],[],[]⟩:=by
 refine zi _ ⟨zuP,zvq,(13,0,0),(12,0,0),10000⟩ (T:=Int×Int) (fun t=>⟨13,[sI t.2,sI t.1,sI v508,sB v506,sB v501,sI g,sI k,sI v1.2.2,sI v1.2.1,sI v1.1,sI a.2.2,sI a.2.1,sI a.1],[],[]⟩) (fun (aj,gj)=>0≤gj∧gj<9223372036854775808∧0≤aj∧aj<9223372036854775808∧((gj.toNat.gcd aj.toNat:Nat):Int)=go) (fun (aj,gj)=>aj.toNat) (v508,g) (hZ 11 [10,7]) [] [] zwx mixed ⟨hg,hG,hn,hNN,hO⟩ rfl rfl rfl rfl (fun _=>rfl) rfl rfl (by kernel_rfl) ?_
 rintro ⟨aj,gj⟩ hJ
 dsimp only at hJ ⊢
 obtain ⟨u1,u2,u3,u4,u5⟩:=hJ
 refine ai s505 ?_
 refine ai h507 ?_
 intro v1001 e1001
 refine ai (fun h1002=>?_) fun h1002=>?_
 ·
  have s1004:aj≠0:=by (have dh1002:=LD e1001 h1002;omega)
  refine ai s1004 fun v1003 e1003=>?_
  refine nxl (v1003,aj) ?_ ?_ rfl
  all_goals (have dh1002:=LD e1001 h1002;have hm:v1003=gj%aj:=(by rw [← e1003,Int.tmod_eq_emod_of_nonneg u1]);have hp:=Int.emod_nonneg gj (show aj≠0 by omega);have hq:=Int.emod_lt_of_pos gj (show 0<aj by omega);have ht:v1003.toNat=gj.toNat%aj.toNat:=(by rw [hm];exact Int.toNat_emod u1 u3))
  ·show v1003.toNat<aj.toNat
   omega
  ·exact ⟨u3,u4,by omega,by omega,by rw [← u5,ht,Nat.gcd_comm gj.toNat,Nat.gcd_rec aj.toNat gj.toNat,Nat.gcd_comm]⟩
 ·
  have hq:((gj)=go)∧True:=by
   refine ⟨?_,trivial⟩
   (have dh1002:=LE e1001 h1002;have h0:aj=0:=(by omega);rw [← u5,h0,Int.toNat_zero,Nat.gcd_zero_right];omega)
  obtain ⟨q0,-⟩:=hq
  rw [← q0]
  rfl
def zu5:List Atom:=[.sl 1 (.o (.c (.p 0 0))),.sl 2 (.o (.c (.p 1 0))),.sl 4 (.o (.c (.p 5 0))),.sl 5 7,.sl 6 6,.bx 0 26 [.h 0,.h 1,.h 2],.bx 1 26 [.k (.int .i64 0),.k (.int .i64 0),.k (.int .i64 0)],.bx 5 23 [.h 3,.h 4,.h 5]]
def pvA_S:LoopS:=⟨4,zu5.map (tnA (jf (hZ 6 [kI 0,kI 0])) (kf []) (kf [])),(.x 0),(drs [4] zu5).map (tnA (jf (hZ 7 [6])) (kf []) (kf []))⟩
def pvA_t:Tr:=.s [(5001,.bin .lss 3 6 (kI 3))] (.r (.s [(0,.gh ⟨4,[.sl 6 6],[.sl 6 (.o (.c (.k (.int .i64 0))))],[]⟩ 0),(0,.fb 8 true),(5005,.bin .eql 3 3 (kI (-9223372036854775808)))] (.b 9 (.z .no) (.s [(5009,.call 149 [3] (.o .c)),(0,.lp zvo 1 1),(0,.raw [(1006012,.bin .add 3 (LF (.k (.int .i64 0))) (LF (.k (.int .i64 1))) (LF (.k (.int .i64 1))))] 0)] (.z (.nx (hZ 6 [kI 1,11]) [] []))))) (.r (.s [(0,.gh ⟨4,[.sl 6 6],[.sl 6 (.o (.c (.k (.int .i64 1))))],[]⟩ 0),(0,.fb 8 true),(5005,.bin .eql 3 4 (kI (-9223372036854775808)))] (.b 9 (.z .no) (.s [(5009,.call 149 [4] (.o .c)),(0,.lp zvp 1 1),(0,.raw [(1006012,.bin .add 3 (LF (.k (.int .i64 1))) (LF (.k (.int .i64 1))) (LF (.k (.int .i64 2))))] 0)] (.z (.nx (hZ 6 [kI 2,11]) [] []))))) (.r (.s [(0,.gh ⟨4,[.sl 6 6],[.sl 6 (.o (.c (.k (.int .i64 2))))],[]⟩ 0),(0,.fb 8 true),(5005,.bin .eql 3 5 (kI (-9223372036854775808)))] (.b 9 (.z .no) (.s [(5009,.call 149 [5] (.o .c)),(0,.lp zvq 1 1),(0,.raw [(1006012,.bin .add 3 (LF (.k (.int .i64 2))) (LF (.k (.int .i64 1))) (LF (.k (.int .i64 3))))] 0)] (.z (.nx (hZ 6 [kI 3,11]) [] []))))) (.s [(0,.fb 8 false)] (.z (.xt (.x 0) (hZ 6 [7]) [] []))))))
theorem zwq {w0:World} (a:Vec) (v1:Vec) (o:Int) (hv:a=v1) (ha:okV a) (hx:(a.1≠-9223372036854775808∧a.2.1≠-9223372036854775808∧a.2.2≠-9223372036854775808)) (hO:((Nat.gcd (Nat.gcd (Nat.gcd 0 a.1.natAbs) a.2.1.natAbs) a.2.2.natAbs:Nat):Int)=o):LpH (KN w0) Tryz.prog 123 ⟨ntOf Tryz.prog 123,[],[]⟩ pvA_S 0 ⟨7,[sI o,sI v1.2.2,sI v1.2.1,sI v1.1,sI a.2.2,sI a.2.1,sI a.1],[],[]⟩:=by
 refine zi _ ⟨zu5,pvA_S,(8,0,0),(7,0,0),5000⟩ (T:=Int×Int) (fun t=>⟨8,[sI t.2,sI t.1,sI v1.2.2,sI v1.2.1,sI v1.1,sI a.2.2,sI a.2.1,sI a.1],[],[]⟩) (fun (k,g)=>0≤g∧g<9223372036854775808∧((k=0∧g=0)∨(k=1∧a.1≠-9223372036854775808∧((Nat.gcd 0 a.1.natAbs:Nat):Int)=g)∨(k=2∧a.1≠-9223372036854775808∧a.2.1≠-9223372036854775808∧((Nat.gcd (Nat.gcd 0 a.1.natAbs) a.2.1.natAbs:Nat):Int)=g)∨(k=3∧(a.1≠-9223372036854775808∧a.2.1≠-9223372036854775808∧a.2.2≠-9223372036854775808)∧((Nat.gcd (Nat.gcd (Nat.gcd 0 a.1.natAbs) a.2.1.natAbs) a.2.2.natAbs:Nat):Int)=g))) (fun (k,g)=>((3:Int) - k).toNat) ((0:Int),(0:Int)) (hZ 6 [kI 0,kI 0]) [] [] pvA_t mixed ⟨by omega,by omega,.inl ⟨rfl,rfl⟩⟩ rfl rfl rfl rfl (fun _=>rfl) rfl rfl (by kernel_rfl) ?_
 rintro ⟨k,g⟩ hJ
 dsimp only at hJ ⊢
 obtain ⟨u1,u2,u6⟩:=hJ
 intro v501 e501
 cases h502:(k == (0:Int)) with
 | true =>
  refine Or.inl ?_
  refine rx [] [] [] (fun t u w _=>gh_hk (congrArg pI (beq_iff_eq.1 h502))) ?_
  have s503:v501=true:=by (have kh502:=beq_iff_eq.1 h502;rw [← e501];exact decide_eq_true (by omega))
  refine ai s503 ?_
  intro v504 e504
  refine ai (fun h505=>?_) fun h505=>?_
  ·
   exfalso
   (exfalso;have kh502:=beq_iff_eq.1 h502;have mh505:=beq_iff_eq.1 (e504.trans h505);subst hv;omega)
  ·
   obtain ⟨v506,e506⟩:=LX ((v1.1.natAbs:Int))
   have s507:-9223372036854775808<v1.1∧v1.1<9223372036854775808:=by (have kh502:=beq_iff_eq.1 h502;have mh505:=beq_eq_false_iff_ne.1 (e504.trans h505);subst hv;have:=ha;unfold okV at this;omega)
   refine cx (.o (.c (sI v506))) (zuI v1.1 v506 e506 s507) rfl ?_
   obtain ⟨go,hO_pvI0⟩:∃(go:Int),((g.toNat.gcd v506.toNat:Nat):Int)=go:=⟨_,rfl⟩
   refine rx [sI go] [] [] (zvF a v1 k g v501 v504 v506 s503 h505 go  u1 u2 (by rw [← e506];omega) (by rw [← e506];have kh502:=beq_iff_eq.1 h502;have mh505:=beq_eq_false_iff_ne.1 (e504.trans h505);subst hv;have:=ha;unfold okV at this;omega) hO_pvI0) ?_
   refine rx [] [] [] (fun t u w=>⟨e_bin zf zf zf (r_ar rfl),trivial⟩) ?_
   refine nxl ((1:Int),go) ?_ ?_ rfl
   all_goals (have kh502:=beq_iff_eq.1 h502;have mh505:=beq_eq_false_iff_ne.1 (e504.trans h505);subst hv;have hgo:((Nat.gcd 0 a.1.natAbs:Nat):Int)=go:=(by rw [← hO_pvI0,← e506,Int.toNat_natCast];rw [show g=0 by omega];rfl))
   ·show ((3:Int) - (1:Int)).toNat<((3:Int) - k).toNat
    omega
   ·have hq:=zuH hO_pvI0 u2 (by rw [← e506];have:=ha;unfold okV at this;omega)
    exact ⟨hq.1,hq.2,.inr (.inl ⟨rfl,by omega,hgo⟩)⟩
 | false =>
  refine Or.inr ?_
  cases h503:(k == (1:Int)) with
  | true =>
   refine Or.inl ?_
   refine rx [] [] [] (fun t u w _=>gh_hk (congrArg pI (beq_iff_eq.1 h503))) ?_
   have s504:v501=true:=by (have kh502:=beq_eq_false_iff_ne.1 h502;have kh503:=beq_iff_eq.1 h503;rw [← e501];exact decide_eq_true (by omega))
   refine ai s504 ?_
   intro v505 e505
   refine ai (fun h506=>?_) fun h506=>?_
   ·
    exfalso
    (exfalso;have kh502:=beq_eq_false_iff_ne.1 h502;have kh503:=beq_iff_eq.1 h503;have mh506:=beq_iff_eq.1 (e505.trans h506);subst hv;omega)
   ·
    obtain ⟨v507,e507⟩:=LX ((v1.2.1.natAbs:Int))
    have s508:-9223372036854775808<v1.2.1∧v1.2.1<9223372036854775808:=by (have kh502:=beq_eq_false_iff_ne.1 h502;have kh503:=beq_iff_eq.1 h503;have mh506:=beq_eq_false_iff_ne.1 (e505.trans h506);subst hv;have:=ha;unfold okV at this;omega)
    refine cx (.o (.c (sI v507))) (zuI v1.2.1 v507 e507 s508) rfl ?_
    obtain ⟨go,hO_pvI1⟩:∃(go:Int),((g.toNat.gcd v507.toNat:Nat):Int)=go:=⟨_,rfl⟩
    refine rx [sI go] [] [] (zvG a v1 k g v501 v505 v507 s504 h506 go  u1 u2 (by rw [← e507];omega) (by rw [← e507];have kh502:=beq_eq_false_iff_ne.1 h502;have kh503:=beq_iff_eq.1 h503;have mh506:=beq_eq_false_iff_ne.1 (e505.trans h506);subst hv;have:=ha;unfold okV at this;omega) hO_pvI1) ?_
    refine rx [] [] [] (fun t u w=>⟨e_bin zf zf zf (r_ar rfl),trivial⟩) ?_
    refine nxl ((2:Int),go) ?_ ?_ rfl
    all_goals (have kh502:=beq_eq_false_iff_ne.1 h502;have kh503:=beq_iff_eq.1 h503;have mh506:=beq_eq_false_iff_ne.1 (e505.trans h506);subst hv;have hgo:((Nat.gcd (Nat.gcd 0 a.1.natAbs) a.2.1.natAbs:Nat):Int)=go:=(by rw [← hO_pvI1,← e507,Int.toNat_natCast];rw [show g=((Nat.gcd 0 a.1.natAbs:Nat):Int) by omega,Int.toNat_natCast]))
    ·show ((3:Int) - (2:Int)).toNat<((3:Int) - k).toNat
     omega
    ·have hq:=zuH hO_pvI1 u2 (by rw [← e507];have:=ha;unfold okV at this;omega)
     exact ⟨hq.1,hq.2,.inr (.inr (.inl ⟨rfl,by omega,by omega,hgo⟩))⟩
  | false =>
   refine Or.inr ?_
   cases h504:(k == (2:Int)) with
   | true =>
    refine Or.inl ?_
    refine rx [] [] [] (fun t u w _=>gh_hk (congrArg pI (beq_iff_eq.1 h504))) ?_
    have s505:v501=true:=by (have kh502:=beq_eq_false_iff_ne.1 h502;have kh503:=beq_eq_false_iff_ne.1 h503;have kh504:=beq_iff_eq.1 h504;rw [← e501];exact decide_eq_true (by omega))
    refine ai s505 ?_
    intro v506 e506
    refine ai (fun h507=>?_) fun h507=>?_
    ·
     exfalso
     (exfalso;have kh502:=beq_eq_false_iff_ne.1 h502;have kh503:=beq_eq_false_iff_ne.1 h503;have kh504:=beq_iff_eq.1 h504;have mh507:=beq_iff_eq.1 (e506.trans h507);subst hv;omega)
    ·
     obtain ⟨v508,e508⟩:=LX ((v1.2.2.natAbs:Int))
     have s509:-9223372036854775808<v1.2.2∧v1.2.2<9223372036854775808:=by (have kh502:=beq_eq_false_iff_ne.1 h502;have kh503:=beq_eq_false_iff_ne.1 h503;have kh504:=beq_iff_eq.1 h504;have mh507:=beq_eq_false_iff_ne.1 (e506.trans h507);subst hv;have:=ha;unfold okV at this;omega)
     refine cx (.o (.c (sI v508))) (zuI v1.2.2 v508 e508 s509) rfl ?_
     obtain ⟨go,hO_pvI2⟩:∃(go:Int),((g.toNat.gcd v508.toNat:Nat):Int)=go:=⟨_,rfl⟩
     refine rx [sI go] [] [] (zvH a v1 k g v501 v506 v508 s505 h507 go  u1 u2 (by rw [← e508];omega) (by rw [← e508];have kh502:=beq_eq_false_iff_ne.1 h502;have kh503:=beq_eq_false_iff_ne.1 h503;have kh504:=beq_iff_eq.1 h504;have mh507:=beq_eq_false_iff_ne.1 (e506.trans h507);subst hv;have:=ha;unfold okV at this;omega) hO_pvI2) ?_
     refine rx [] [] [] (fun t u w=>⟨e_bin zf zf zf (r_ar rfl),trivial⟩) ?_
     refine nxl ((3:Int),go) ?_ ?_ rfl
     all_goals (have kh502:=beq_eq_false_iff_ne.1 h502;have kh503:=beq_eq_false_iff_ne.1 h503;have kh504:=beq_iff_eq.1 h504;have mh507:=beq_eq_false_iff_ne.1 (e506.trans h507);subst hv;have hgo:((Nat.gcd (Nat.gcd (Nat.gcd 0 a.1.natAbs) a.2.1.natAbs) a.2.2.natAbs:Nat):Int)=go:=(by rw [← hO_pvI2,← e508,Int.toNat_natCast];rw [show g=((Nat.gcd (Nat.gcd 0 a.1.natAbs) a.2.1.natAbs:Nat):Int) by omega,Int.toNat_natCast]))
     ·show ((3:Int) - (3:Int)).toNat<((3:Int) - k).toNat
      omega
     ·have hq:=zuH hO_pvI2 u2 (by rw [← e508];have:=ha;unfold okV at this;omega)
      exact ⟨hq.1,hq.2,.inr (.inr (.inr ⟨rfl,⟨by omega,by omega,by omega⟩,hgo⟩))⟩
   | false =>
    refine Or.inr ?_
    have s505:v501=false:=by (have kh502:=beq_eq_false_iff_ne.1 h502;have kh503:=beq_eq_false_iff_ne.1 h503;have kh504:=beq_eq_false_iff_ne.1 h504;rw [← e501];exact decide_eq_false (by omega))
    refine ai s505 ?_
    have hq:((g)=o)∧True:=by
     refine ⟨?_,trivial⟩
     (have kh502:=beq_eq_false_iff_ne.1 h502;have kh503:=beq_eq_false_iff_ne.1 h503;have kh504:=beq_eq_false_iff_ne.1 h504;have hq:=of_decide_eq_false (e501.trans s505);rcases u6 with u6 | u6 | u6 | u6<;>omega)
    obtain ⟨q0,-⟩:=hq
    rw [← q0]
    rfl
def zu6:List Atom:=[.sl 1 (.o (.c (.p 0 0))),.sl 2 (.o (.c (.p 1 0))),.sl 4 (.o (.c (.p 5 0))),.sl 5 7,.sl 6 6,.bx 0 26 [.h 0,.h 1,.h 2],.bx 1 26 [.k (.int .i64 0),.k (.int .i64 0),.k (.int .i64 0)],.bx 5 23 [.h 3,.h 4,.h 5]]
def pvB_S:LoopS:=⟨4,zu6.map (tnA (jf (hZ 6 [kI 0,kI 0])) (kf []) (kf [])),.r,(drs [3,4] zu6)++[.sl 3 6]⟩
def pvB_t:Tr:=.s [(6001,.bin .lss 3 6 (kI 3))] (.r (.s [(0,.gh ⟨4,[.sl 6 6],[.sl 6 (.o (.c (.k (.int .i64 0))))],[]⟩ 0),(0,.fb 8 true),(6005,.bin .eql 3 3 (kI (-9223372036854775808)))] (.b 9 (.z (.xt .r (hZ 6 [kI 0]) [] [])) (.s [(6009,.call 149 [3] (.o .c)),(0,.lp zvo 1 1),(0,.raw [(1007012,.bin .add 3 (LF (.k (.int .i64 0))) (LF (.k (.int .i64 1))) (LF (.k (.int .i64 1))))] 0)] (.z (.nx (hZ 6 [kI 1,11]) [] []))))) (.r (.s [(0,.gh ⟨4,[.sl 6 6],[.sl 6 (.o (.c (.k (.int .i64 1))))],[]⟩ 0),(0,.fb 8 true),(6005,.bin .eql 3 4 (kI (-9223372036854775808)))] (.b 9 (.z (.xt .r (hZ 6 [kI 0]) [] [])) (.s [(6009,.call 149 [4] (.o .c)),(0,.lp zvp 1 1),(0,.raw [(1007012,.bin .add 3 (LF (.k (.int .i64 1))) (LF (.k (.int .i64 1))) (LF (.k (.int .i64 2))))] 0)] (.z (.nx (hZ 6 [kI 2,11]) [] []))))) (.r (.s [(0,.gh ⟨4,[.sl 6 6],[.sl 6 (.o (.c (.k (.int .i64 2))))],[]⟩ 0),(0,.fb 8 true),(6005,.bin .eql 3 5 (kI (-9223372036854775808)))] (.b 9 (.z (.xt .r (hZ 6 [kI 0]) [] [])) (.s [(6009,.call 149 [5] (.o .c)),(0,.lp zvq 1 1),(0,.raw [(1007012,.bin .add 3 (LF (.k (.int .i64 2))) (LF (.k (.int .i64 1))) (LF (.k (.int .i64 3))))] 0)] (.z (.nx (hZ 6 [kI 3,11]) [] []))))) (.s [(0,.fb 8 false)] (.z .no)))))
theorem zwr {w0:World} (a:Vec) (v1:Vec) (ob:Int) (hv:a=v1) (ha:okV a) (hx:¬ (a.1≠-9223372036854775808∧a.2.1≠-9223372036854775808∧a.2.2≠-9223372036854775808)) (hO:(0:Int)=ob):LpH (KN w0) Tryz.prog 123 ⟨ntOf Tryz.prog 123,[],[]⟩ pvB_S 0 ⟨7,[sI ob,sI v1.2.2,sI v1.2.1,sI v1.1,sI a.2.2,sI a.2.1,sI a.1],[],[]⟩:=by
 refine zi _ ⟨zu6,pvB_S,(8,0,0),(7,0,0),6000⟩ (T:=Int×Int) (fun t=>⟨8,[sI t.2,sI t.1,sI v1.2.2,sI v1.2.1,sI v1.1,sI a.2.2,sI a.2.1,sI a.1],[],[]⟩) (fun (k,g)=>0≤g∧g<9223372036854775808∧((k=0∧g=0)∨(k=1∧a.1≠-9223372036854775808∧((Nat.gcd 0 a.1.natAbs:Nat):Int)=g)∨(k=2∧a.1≠-9223372036854775808∧a.2.1≠-9223372036854775808∧((Nat.gcd (Nat.gcd 0 a.1.natAbs) a.2.1.natAbs:Nat):Int)=g)∨(k=3∧(a.1≠-9223372036854775808∧a.2.1≠-9223372036854775808∧a.2.2≠-9223372036854775808)∧((Nat.gcd (Nat.gcd (Nat.gcd 0 a.1.natAbs) a.2.1.natAbs) a.2.2.natAbs:Nat):Int)=g))) (fun (k,g)=>((3:Int) - k).toNat) ((0:Int),(0:Int)) (hZ 6 [kI 0,kI 0]) [] [] pvB_t mixed ⟨by omega,by omega,.inl ⟨rfl,rfl⟩⟩ rfl rfl rfl rfl (fun _=>rfl) rfl rfl (by kernel_rfl) ?_
 rintro ⟨k,g⟩ hJ
 dsimp only at hJ ⊢
 obtain ⟨u1,u2,u6⟩:=hJ
 intro v501 e501
 cases h502:(k == (0:Int)) with
 | true =>
  refine Or.inl ?_
  refine rx [] [] [] (fun t u w _=>gh_hk (congrArg pI (beq_iff_eq.1 h502))) ?_
  have s503:v501=true:=by (have kh502:=beq_iff_eq.1 h502;rw [← e501];exact decide_eq_true (by omega))
  refine ai s503 ?_
  intro v504 e504
  refine ai (fun h505=>?_) fun h505=>?_
  ·
   have hq:(((0:Int))=ob)∧True:=by
    refine ⟨?_,trivial⟩
    first | exact hO | exact hO.symm
   obtain ⟨q0,-⟩:=hq
   rw [← q0]
   rfl
  ·
   obtain ⟨v506,e506⟩:=LX ((v1.1.natAbs:Int))
   have s507:-9223372036854775808<v1.1∧v1.1<9223372036854775808:=by (have kh502:=beq_iff_eq.1 h502;have mh505:=beq_eq_false_iff_ne.1 (e504.trans h505);subst hv;have:=ha;unfold okV at this;omega)
   refine cx (.o (.c (sI v506))) (zuI v1.1 v506 e506 s507) rfl ?_
   obtain ⟨go,hO_pvI0⟩:∃(go:Int),((g.toNat.gcd v506.toNat:Nat):Int)=go:=⟨_,rfl⟩
   refine rx [sI go] [] [] (zvF a v1 k g v501 v504 v506 s503 h505 go  u1 u2 (by rw [← e506];omega) (by rw [← e506];have kh502:=beq_iff_eq.1 h502;have mh505:=beq_eq_false_iff_ne.1 (e504.trans h505);subst hv;have:=ha;unfold okV at this;omega) hO_pvI0) ?_
   refine rx [] [] [] (fun t u w=>⟨e_bin zf zf zf (r_ar rfl),trivial⟩) ?_
   refine nxl ((1:Int),go) ?_ ?_ rfl
   all_goals (have kh502:=beq_iff_eq.1 h502;have mh505:=beq_eq_false_iff_ne.1 (e504.trans h505);subst hv;have hgo:((Nat.gcd 0 a.1.natAbs:Nat):Int)=go:=(by rw [← hO_pvI0,← e506,Int.toNat_natCast];rw [show g=0 by omega];rfl))
   ·show ((3:Int) - (1:Int)).toNat<((3:Int) - k).toNat
    omega
   ·have hq:=zuH hO_pvI0 u2 (by rw [← e506];have:=ha;unfold okV at this;omega)
    exact ⟨hq.1,hq.2,.inr (.inl ⟨rfl,by omega,hgo⟩)⟩
 | false =>
  refine Or.inr ?_
  cases h503:(k == (1:Int)) with
  | true =>
   refine Or.inl ?_
   refine rx [] [] [] (fun t u w _=>gh_hk (congrArg pI (beq_iff_eq.1 h503))) ?_
   have s504:v501=true:=by (have kh502:=beq_eq_false_iff_ne.1 h502;have kh503:=beq_iff_eq.1 h503;rw [← e501];exact decide_eq_true (by omega))
   refine ai s504 ?_
   intro v505 e505
   refine ai (fun h506=>?_) fun h506=>?_
   ·
    have hq:(((0:Int))=ob)∧True:=by
     refine ⟨?_,trivial⟩
     first | exact hO | exact hO.symm
    obtain ⟨q0,-⟩:=hq
    rw [← q0]
    rfl
   ·
    obtain ⟨v507,e507⟩:=LX ((v1.2.1.natAbs:Int))
    have s508:-9223372036854775808<v1.2.1∧v1.2.1<9223372036854775808:=by (have kh502:=beq_eq_false_iff_ne.1 h502;have kh503:=beq_iff_eq.1 h503;have mh506:=beq_eq_false_iff_ne.1 (e505.trans h506);subst hv;have:=ha;unfold okV at this;omega)
    refine cx (.o (.c (sI v507))) (zuI v1.2.1 v507 e507 s508) rfl ?_
    obtain ⟨go,hO_pvI1⟩:∃(go:Int),((g.toNat.gcd v507.toNat:Nat):Int)=go:=⟨_,rfl⟩
    refine rx [sI go] [] [] (zvG a v1 k g v501 v505 v507 s504 h506 go  u1 u2 (by rw [← e507];omega) (by rw [← e507];have kh502:=beq_eq_false_iff_ne.1 h502;have kh503:=beq_iff_eq.1 h503;have mh506:=beq_eq_false_iff_ne.1 (e505.trans h506);subst hv;have:=ha;unfold okV at this;omega) hO_pvI1) ?_
    refine rx [] [] [] (fun t u w=>⟨e_bin zf zf zf (r_ar rfl),trivial⟩) ?_
    refine nxl ((2:Int),go) ?_ ?_ rfl
    all_goals (have kh502:=beq_eq_false_iff_ne.1 h502;have kh503:=beq_iff_eq.1 h503;have mh506:=beq_eq_false_iff_ne.1 (e505.trans h506);subst hv;have hgo:((Nat.gcd (Nat.gcd 0 a.1.natAbs) a.2.1.natAbs:Nat):Int)=go:=(by rw [← hO_pvI1,← e507,Int.toNat_natCast];rw [show g=((Nat.gcd 0 a.1.natAbs:Nat):Int) by omega,Int.toNat_natCast]))
    ·show ((3:Int) - (2:Int)).toNat<((3:Int) - k).toNat
     omega
    ·have hq:=zuH hO_pvI1 u2 (by rw [← e507];have:=ha;unfold okV at this;omega)
     exact ⟨hq.1,hq.2,.inr (.inr (.inl ⟨rfl,by omega,by omega,hgo⟩))⟩
  | false =>
   refine Or.inr ?_
   cases h504:(k == (2:Int)) with
   | true =>
    refine Or.inl ?_
    refine rx [] [] [] (fun t u w _=>gh_hk (congrArg pI (beq_iff_eq.1 h504))) ?_
    have s505:v501=true:=by (have kh502:=beq_eq_false_iff_ne.1 h502;have kh503:=beq_eq_false_iff_ne.1 h503;have kh504:=beq_iff_eq.1 h504;rw [← e501];exact decide_eq_true (by omega))
    refine ai s505 ?_
    intro v506 e506
    refine ai (fun h507=>?_) fun h507=>?_
    ·
     have hq:(((0:Int))=ob)∧True:=by
      refine ⟨?_,trivial⟩
      first | exact hO | exact hO.symm
     obtain ⟨q0,-⟩:=hq
     rw [← q0]
     rfl
    ·
     obtain ⟨v508,e508⟩:=LX ((v1.2.2.natAbs:Int))
     have s509:-9223372036854775808<v1.2.2∧v1.2.2<9223372036854775808:=by (have kh502:=beq_eq_false_iff_ne.1 h502;have kh503:=beq_eq_false_iff_ne.1 h503;have kh504:=beq_iff_eq.1 h504;have mh507:=beq_eq_false_iff_ne.1 (e506.trans h507);subst hv;have:=ha;unfold okV at this;omega)
     refine cx (.o (.c (sI v508))) (zuI v1.2.2 v508 e508 s509) rfl ?_
     obtain ⟨go,hO_pvI2⟩:∃(go:Int),((g.toNat.gcd v508.toNat:Nat):Int)=go:=⟨_,rfl⟩
     refine rx [sI go] [] [] (zvH a v1 k g v501 v506 v508 s505 h507 go  u1 u2 (by rw [← e508];omega) (by rw [← e508];have kh502:=beq_eq_false_iff_ne.1 h502;have kh503:=beq_eq_false_iff_ne.1 h503;have kh504:=beq_iff_eq.1 h504;have mh507:=beq_eq_false_iff_ne.1 (e506.trans h507);subst hv;have:=ha;unfold okV at this;omega) hO_pvI2) ?_
     refine rx [] [] [] (fun t u w=>⟨e_bin zf zf zf (r_ar rfl),trivial⟩) ?_
     refine nxl ((3:Int),go) ?_ ?_ rfl
     all_goals (have kh502:=beq_eq_false_iff_ne.1 h502;have kh503:=beq_eq_false_iff_ne.1 h503;have kh504:=beq_iff_eq.1 h504;have mh507:=beq_eq_false_iff_ne.1 (e506.trans h507);subst hv;have hgo:((Nat.gcd (Nat.gcd (Nat.gcd 0 a.1.natAbs) a.2.1.natAbs) a.2.2.natAbs:Nat):Int)=go:=(by rw [← hO_pvI2,← e508,Int.toNat_natCast];rw [show g=((Nat.gcd (Nat.gcd 0 a.1.natAbs) a.2.1.natAbs:Nat):Int) by omega,Int.toNat_natCast]))
     ·show ((3:Int) - (3:Int)).toNat<((3:Int) - k).toNat
      omega
     ·have hq:=zuH hO_pvI2 u2 (by rw [← e508];have:=ha;unfold okV at this;omega)
      exact ⟨hq.1,hq.2,.inr (.inr (.inr ⟨rfl,⟨by omega,by omega,by omega⟩,hgo⟩))⟩
   | false =>
    refine Or.inr ?_
    have s505:v501=false:=by (have kh502:=beq_eq_false_iff_ne.1 h502;have kh503:=beq_eq_false_iff_ne.1 h503;have kh504:=beq_eq_false_iff_ne.1 h504;rw [← e501];exact decide_eq_false (by omega))
    refine ai s505 ?_
    exfalso
    (have kh502:=beq_eq_false_iff_ne.1 h502;have kh503:=beq_eq_false_iff_ne.1 h503;have kh504:=beq_eq_false_iff_ne.1 h504;have hq:=of_decide_eq_false (e501.trans s505);rcases u6 with u6 | u6 | u6 | u6<;>first | omega | (exact absurd u6.2.1 hx))
def zvT:Tr:=.s [(4,.call 89 [.o (.g [0,1,2])] (.o (.g 3)))] (.r (.s [(0,.lp pvA_S 0 1),(1010,.bin .eql 3 6 (kI 0))] (.b 7 (.z (.ret false (.t [.g [kI 0,kI 0,kI 0],.c (kI 0)]) [])) (.s [(1014,.dv .quo 3 0 6),(1018,.dv .quo 3 1 6),(1022,.dv .quo 3 2 6)] (.z (.ret false (.t [.g [8,9,10],6]) []))))) (.s [(0,.lp pvB_S 0 1)] (.z (.ret false (.t [.g [kI 0,kI 0,kI 0],6]) []))))
theorem zvg {w0:World} (a:Vec) (r:Vec) (g:Int) (hr:(primV a).1=r) (hg:(primV a).2=g) (ha:okV a):Fun (KN w0) Tryz.prog 123 [.o (.g [pI a.1,pI a.2.1,pI a.2.2])] (.t [.g [pI r.1,pI r.2.1,pI r.2.2],.c (pI g)]):=by
 refine tfn w0 123 ⟨[.o (.g [0,1,2])],[],[],0,0⟩ ⟨3,[sI a.2.2,sI a.2.1,sI a.1],[],[]⟩ zvT (by kernel_rfl) ?_
 obtain ⟨v1,e1⟩:=LX (a)
 refine cx (.o (.g [sI v1.1,sI v1.2.1,sI v1.2.2])) (zwb a v1 e1) rfl ?_
 by_cases c4:(a.1≠-9223372036854775808∧a.2.1≠-9223372036854775808∧a.2.2≠-9223372036854775808)
 ·
  refine Or.inl ?_
  obtain ⟨o,hO_pvA⟩:∃(o:Int),((Nat.gcd (Nat.gcd (Nat.gcd 0 a.1.natAbs) a.2.1.natAbs) a.2.2.natAbs:Nat):Int)=o:=⟨_,rfl⟩
  refine rx [sI o] [] [] (zwq a v1  o  e1 ha c4 hO_pvA) ?_
  intro v2 e2
  refine ai (fun h3=>?_) fun h3=>?_
  ·
   intro hc
   refine Fun.fin (r:=.t [.g [pV (.int .i64 0),pV (.int .i64 0),pV (.int .i64 0)],.c (pV (.int .i64 0))]) (zc (hc)) (fun v W D h=>?_)
   have r0:r=((0:Int),(0:Int),(0:Int)):=by
    (have hz:=zuA (v:=a) (g:=o) (by rw [zts c4.1 c4.2.1 c4.2.2];exact hO_pvA);have hd:=beq_iff_eq.1 (e2.trans h3);rw [if_pos hd] at hz;rw [hz] at hr hg;simp_all)
   have r1:g=(0:Int):=by
    (have hz:=zuA (v:=a) (g:=o) (by rw [zts c4.1 c4.2.1 c4.2.2];exact hO_pvA);have hd:=beq_iff_eq.1 (e2.trans h3);rw [if_pos hd] at hz;rw [hz] at hr hg;simp_all)
   rw [r0,r1];exact h
  ·
   have s5:o≠0:=by exact beq_eq_false_iff_ne.1 (e2.trans h3)
   refine ai s5 fun v4 e4=>?_
   have s7:o≠0:=by exact beq_eq_false_iff_ne.1 (e2.trans h3)
   refine ai s7 fun v6 e6=>?_
   have s9:o≠0:=by exact beq_eq_false_iff_ne.1 (e2.trans h3)
   refine ai s9 fun v8 e8=>?_
   intro hc
   refine Fun.fin (r:=.t [.g [pI v4,pI v6,pI v8],.c (pI o)]) (zc (hc)) (fun v W D h=>?_)
   have r0:r=(v4,v6,v8):=by
    (have hz:=zuA (v:=a) (g:=o) (by rw [zts c4.1 c4.2.1 c4.2.2];exact hO_pvA);have hd:=beq_eq_false_iff_ne.1 (e2.trans h3);rw [if_neg hd] at hz;rw [hz] at hr hg;simp_all)
   have r1:g=o:=by
    (have hz:=zuA (v:=a) (g:=o) (by rw [zts c4.1 c4.2.1 c4.2.2];exact hO_pvA);have hd:=beq_eq_false_iff_ne.1 (e2.trans h3);rw [if_neg hd] at hz;rw [hz] at hr hg;simp_all)
   rw [r0,r1];exact h
 ·
  refine Or.inr ?_
  obtain ⟨ob,hO_pvB⟩:∃(ob:Int),(0:Int)=ob:=⟨_,rfl⟩
  refine rx [sI ob] [] [] (zwr a v1  ob  e1 ha c4 hO_pvB) ?_
  intro hc
  refine Fun.fin (r:=.t [.g [pV (.int .i64 0),pV (.int .i64 0),pV (.int .i64 0)],.c (pI ob)]) (zc (hc)) (fun v W D h=>?_)
  have r0:r=((0:Int),(0:Int),(0:Int)):=by
   (have hz:=zuA (zuY (v:=a) (by omega));rw [if_pos rfl] at hz;rw [hz] at hr hg;first | exact hr.symm | exact hg.symm | (rw [← hr]) | (rw [← hg];exact hO_pvB) | simp_all)
  have r1:g=ob:=by
   (have hz:=zuA (zuY (v:=a) (by omega));rw [if_pos rfl] at hz;rw [hz] at hr hg;first | exact hr.symm | exact hg.symm | (rw [← hr]) | (rw [← hg];exact hO_pvB) | simp_all)
  rw [r0,r1];exact h
def mxI (a b:Int):Int:=if b > a then b else a
def lenR (v:Vec):Int:=
 if wI (wI (mxI v.1 (wI (0 - v.1))+mxI v.2.1 (wI (0 - v.2.1)))+mxI v.2.2 (wI (0 - v.2.2)))≠mxI (mxI v.1 (wI (0 - v.1))) (mxI (mxI v.2.1 (wI (0 - v.2.1))) (mxI v.2.2 (wI (0 - v.2.2)))) then 0
 else wI (wI (mxI v.1 (wI (0 - v.1))+mxI v.2.1 (wI (0 - v.2.1)))+mxI v.2.2 (wI (0 - v.2.2)))
def lenS (v:Vec):Int:=if v.2.1=0∧v.2.2=0 then v.1.natAbs else if v.1=0∧v.2.2=0 then v.2.1.natAbs else if v.1=0∧v.2.1=0 then v.2.2.natAbs else 0
theorem zvB {a:Int} (h:-1000≤a∧a≤1000):mxI a (wI (0 - a))=a.natAbs:=by
 rw [wI_eq (by omega)]
 unfold mxI
 split<;>omega
theorem zvA {v:Vec} (h:smV v):lenR v=lenS v:=by
 obtain ⟨h1,h2,h3⟩:=h
 unfold lenR
 rw [zvB h1,zvB h2,zvB h3,wI_eq (x:=(v.1.natAbs:Int)+v.2.1.natAbs) (by omega),wI_eq (x:=(v.1.natAbs:Int)+v.2.1.natAbs+v.2.2.natAbs) (by omega)]
 unfold mxI lenS
 split<;>split<;>(try split)<;>(try split)<;>(try split)<;>omega
def isU (d:Vec):Prop:=d=(1,0,0)∨d=(0,1,0)∨d=(0,0,1)∨d=(-1,0,0)∨d=(0,-1,0)∨d=(0,0,-1)
theorem zvM {d:Int} (h:d*d≤1):d=-1∨d=0∨d=1:=by
 by_cases h1:2≤d
 ·have:=Int.mul_le_mul h1 h1 (by omega) (by omega)
  omega
 ·by_cases h2:d≤-2
  ·have h3:2≤-d:=by omega
   have:=Int.mul_le_mul h3 h3 (by omega) (by omega)
   rw [Int.neg_mul_neg] at this
   omega
  ·omega
theorem sq_nn (d:Int):0≤d*d:=by
 rcases Int.le_total 0 d with h | h
 ·exact Int.mul_nonneg h h
 ·have:=Int.mul_nonneg (show 0≤-d by omega) (show 0≤-d by omega)
  rwa [Int.neg_mul_neg] at this
theorem sq_le {d:Int} (h:-1000≤d∧d≤1000):d*d≤1000000:=by
 rcases Int.le_total 0 d with h1 | h1
 ·exact Int.mul_le_mul h.2 h.2 h1 (by omega)
 ·have:=Int.mul_le_mul (show -d≤1000 by omega) (show -d≤1000 by omega) (show 0≤-d by omega) (by omega)
  rwa [Int.neg_mul_neg] at this
theorem zvi {d:Vec} (hd:smV d) (h:unitV d=true):isU d:=by
 obtain ⟨x,y,z⟩:=d
 obtain ⟨h1,h2,h3⟩:=hd
 dsimp only at h1 h2 h3
 have a1:=sq_le h1
 have a2:=sq_le h2
 have a3:=sq_le h3
 have n1:=sq_nn x
 have n2:=sq_nn y
 have n3:=sq_nn z
 unfold unitV dotV at h
 dsimp only at h
 have e:=beq_iff_eq.1 h
 have w:∀{a:Int},0≤a→a≤9000000→wI a=a:=fun p q=>wri (by omega)
 rw [w n1 (by omega),w n2 (by omega),w n3 (by omega),w (a:=x*x+y*y) (by omega) (by omega),w (a:=x*x+y*y+z*z) (by omega) (by omega)] at e
 have e1:x*x≤1:=by omega
 have e2:y*y≤1:=by omega
 have e3:z*z≤1:=by omega
 unfold isU
 rcases zvM e1 with rfl | rfl | rfl<;>rcases zvM e2 with rfl | rfl | rfl<;>rcases zvM e3 with rfl | rfl | rfl<;>first | (exfalso;omega) | simp
theorem zvx {v:Vec} (h:smV v):smV (primV v).1:=by
 obtain ⟨x,y,z⟩:=v
 obtain ⟨h1,h2,h3⟩:=h
 dsimp only at h1 h2 h3
 have e:=zts (a:=x) (b:=y) (c:=z) (by omega) (by omega) (by omega)
 unfold primV
 dsimp only
 rw [e]
 generalize Nat.gcd (Nat.gcd (Nat.gcd 0 x.natAbs) y.natAbs) z.natAbs=g
 split
 ·exact ⟨by dsimp only;omega,by dsimp only;omega,by dsimp only;omega⟩
 ·have b1:=zte (a:=x) (g:=g) (by omega)
  have b2:=zte (a:=y) (g:=g) (by omega)
  have b3:=zte (a:=z) (g:=g) (by omega)
  refine ⟨?_,?_,?_⟩
  ·show -1000≤wI (x.tdiv g)∧wI (x.tdiv g)≤1000
   rw [wI_eq (by omega)];omega
  ·show -1000≤wI (y.tdiv g)∧wI (y.tdiv g)≤1000
   rw [wI_eq (by omega)];omega
  ·show -1000≤wI (z.tdiv g)∧wI (z.tdiv g)≤1000
   rw [wI_eq (by omega)];omega
theorem zvs {v:Vec} (h:smV v):unitV (primV v).1=true→1≤lenS v∧(primV v).2=lenS v:=fun hu=>by
 have hi:=zvi (zvx h) hu
 obtain ⟨p0,p1,p2,p3,p4⟩:=zs0 h
 have hne:(primV v).2≠0:=fun e=>by
  rw [p4 e] at hu
  exact absurd hu (by decide)
 unfold lenS
 generalize (primV v).2=g at *
 generalize (primV v).1=d at *
 rcases hi with rfl | rfl | rfl | rfl | rfl | rfl
 all_goals
  dsimp only at p1 p2 p3
  split<;>(try split)<;>(try split)<;>omega
theorem zvl {v:Vec} (h:smV v) (hl:1≤lenS v):unitV (primV v).1=true:=by
 obtain ⟨x,y,z⟩:=v
 obtain ⟨h1,h2,h3⟩:=h
 dsimp only at h1 h2 h3
 have e:=zts (a:=x) (b:=y) (c:=z) (by omega) (by omega) (by omega)
 have q:∀a:Int,-1000≤a∧a≤1000→a≠0→wI (a.tdiv (a.natAbs:Int))=1∨wI (a.tdiv (a.natAbs:Int))=-1:=fun a ha h0=>by
  rw [zpD (by omega) h0]
  unfold sg
  split
  ·exact .inl rfl
  ·rw [if_pos (by omega)];exact .inr rfl
 have z0:∀g:Nat,wI ((0:Int).tdiv g)=0:=fun g=>by rw [Int.zero_tdiv];exact wI_eq (by omega)
 unfold lenS at hl
 dsimp only at hl
 unfold primV
 dsimp only
 rw [e]
 split at hl
 ·rename_i hc
  obtain ⟨rfl,rfl⟩:=hc
  have hx:x≠0:=by omega
  simp only [Int.natAbs_zero,Nat.gcd_zero_right,Nat.gcd_zero_left]
  rw [if_neg (by omega)]
  dsimp only
  rw [z0]
  rcases q x h1 hx with e | e<;>rw [e]<;>decide
 ·split at hl
  ·rename_i hc
   obtain ⟨rfl,rfl⟩:=hc
   have hy:y≠0:=by omega
   simp only [Int.natAbs_zero,Nat.gcd_zero_right,Nat.gcd_zero_left]
   rw [if_neg (by omega)]
   dsimp only
   rw [z0]
   rcases q y h2 hy with e | e<;>rw [e]<;>decide
  ·split at hl
   ·rename_i hc
    obtain ⟨rfl,rfl⟩:=hc
    have hz:z≠0:=by omega
    simp only [Int.natAbs_zero,Nat.gcd_zero_right,Nat.gcd_zero_left]
    rw [if_neg (by omega)]
    dsimp only
    rw [z0]
    rcases q z h3 hz with e | e<;>rw [e]<;>decide
   ·omega
def zup (m:Mov):Bool:=decide (lenR (subV m.2.1 m.2.2.2.1) ≥ 1) && (lenR (subV m.2.1 m.2.2.2.1) == lenR (subV m.2.2.1 m.2.2.2.1) && dotV (subV m.2.1 m.2.2.2.1) (subV m.2.2.1 m.2.2.2.1) == 0)
theorem zvk (v:Vec):lenS (-v.1,-v.2.1,-v.2.2)=lenS v:=by
 unfold lenS
 dsimp only
 simp only [Int.neg_eq_zero,Int.natAbs_neg]
theorem zuE {a b:Int} (ha:-1000≤a∧a≤1000) (hb:-1000≤b∧b≤1000):-1000000≤a*b∧a*b≤1000000:=by
 have h1:(a*b).natAbs≤1000000:=by
  rw [Int.natAbs_mul]
  exact Nat.mul_le_mul (show a.natAbs≤1000 by omega) (show b.natAbs≤1000 by omega)
 omega
theorem zv7 {a b:Vec} (ha:smV a) (hb:smV b):dotV a b=a.1*b.1+a.2.1*b.2.1+a.2.2*b.2.2:=by
 obtain ⟨a1,a2,a3⟩:=ha
 obtain ⟨b1,b2,b3⟩:=hb
 have m1:=zuE a1 b1
 have m2:=zuE a2 b2
 have m3:=zuE a3 b3
 unfold dotV
 have w:∀{x:Int},-9000000≤x∧x≤9000000→wI x=x:=fun h=>wri (by omega)
 rw [w (x:=a.1*b.1) (by omega),w (x:=a.2.1*b.2.1) (by omega),w (x:=a.2.2*b.2.2) (by omega),w (x:=a.1*b.1+a.2.1*b.2.1) (by omega),w (by omega)]
theorem zvK {m:Mov} (i1:inV m.2.1=true) (i2:inV m.2.2.1=true) (i3:inV m.2.2.2.1=true):fitA m=(!decide (m.2.1=m.2.2.1) && zup m):=by
 have s1:=in_sm i1
 have s2:=in_sm i2
 have s3:=in_sm i3
 rw [zeD] at i1 i2 i3
 have ea:=zso s2 s3
 have eb:=zso s1 s3
 have ec:=zso s3 s1
 have ed:=zso s3 s2
 have ha:smV (subV m.2.2.2.1 m.2.2.1):=by rw [ea];exact ⟨by dsimp only;omega,by dsimp only;omega,by dsimp only;omega⟩
 have hb:smV (subV m.2.2.2.1 m.2.1):=by rw [eb];exact ⟨by dsimp only;omega,by dsimp only;omega,by dsimp only;omega⟩
 have hc:smV (subV m.2.1 m.2.2.2.1):=by rw [ec];exact ⟨by dsimp only;omega,by dsimp only;omega,by dsimp only;omega⟩
 have hd:smV (subV m.2.2.1 m.2.2.2.1):=by rw [ed];exact ⟨by dsimp only;omega,by dsimp only;omega,by dsimp only;omega⟩
 have nc:subV m.2.1 m.2.2.2.1=(-(subV m.2.2.2.1 m.2.1).1,-(subV m.2.2.2.1 m.2.1).2.1,-(subV m.2.2.2.1 m.2.1).2.2):=by rw [ec,eb];exact Prod.ext (by dsimp only;omega) (Prod.ext (by dsimp only;omega) (by dsimp only;omega))
 have nd:subV m.2.2.1 m.2.2.2.1=(-(subV m.2.2.2.1 m.2.2.1).1,-(subV m.2.2.2.1 m.2.2.1).2.1,-(subV m.2.2.2.1 m.2.2.1).2.2):=by rw [ed,ea];exact Prod.ext (by dsimp only;omega) (Prod.ext (by dsimp only;omega) (by dsimp only;omega))
 have lc:lenR (subV m.2.1 m.2.2.2.1)=lenS (subV m.2.2.2.1 m.2.1):=by rw [zvA hc,nc,zvk]
 have ld:lenR (subV m.2.2.1 m.2.2.2.1)=lenS (subV m.2.2.2.1 m.2.2.1):=by rw [zvA hd,nd,zvk]
 have hdot:dotV (subV m.2.1 m.2.2.2.1) (subV m.2.2.1 m.2.2.2.1)=(subV m.2.2.2.1 m.2.1).1*(subV m.2.2.2.1 m.2.2.1).1+(subV m.2.2.2.1 m.2.1).2.1*(subV m.2.2.2.1 m.2.2.1).2.1+(subV m.2.2.2.1 m.2.1).2.2*(subV m.2.2.2.1 m.2.2.1).2.2:=by
  rw [zv7 hc hd,nc,nd]
  dsimp only
  rw [Int.neg_mul_neg,Int.neg_mul_neg,Int.neg_mul_neg]
 have heq:m.2.1=m.2.2.1→subV m.2.2.2.1 m.2.1=subV m.2.2.2.1 m.2.2.1:=fun e=>by rw [e]
 unfold fitA zup
 rw [lc,ld,hdot]
 unfold sideA sideB
 obtain ⟨p0,p1,p2,p3,p4⟩:=zs0 ha
 obtain ⟨q0,q1,q2,q3,q4⟩:=zs0 hb
 have ua:=zvs ha
 have ub:=zvs hb
 have va:=zvl ha
 have vb:=zvl hb
 have da:=zvx ha
 have db:=zvx hb
 clear lc ld hdot nc nd ea eb ec ed
 generalize subV m.2.2.2.1 m.2.2.1=u at *
 generalize subV m.2.2.2.1 m.2.1=w at *
 by_cases hw:1≤lenS w
 ·by_cases hu:1≤lenS u
  ·have u1:=va hu
   have w1:=vb hw
   have u2:=(ua u1).2
   have w2:=(ub w1).2
   have iu:=zvi da u1
   have iw:=zvi db w1
   rw [u1,w1,u2,w2,decide_eq_true hw,Bool.true_and,Bool.true_and,Bool.true_and]
   by_cases hl:lenS w=lenS u
   ·rw [hl,beq_self_eq_true,Bool.true_and,Bool.true_and,← p1,← p2,← p3,← q1,← q2,← q3,u2,w2,hl]
    generalize lenS u=r at *
    have hr:0<r*r:=Int.mul_pos (by omega) (by omega)
    have hne:(primV u).1≠(primV w).1→m.2.1≠m.2.2.1:=fun h e=>h (by rw [heq e])
    rw [zv7 da db]
    rcases iu with e | e | e | e | e | e<;>rcases iw with f | f | f | f | f | f<;>rw [e,f] at hne ⊢<;>dsimp only <;>
     first
     | (have hn:=hne (by decide);rw [decide_eq_false hn];simp only [Int.mul_zero,Int.zero_mul,Int.add_zero,Int.zero_add];rfl)
     | (simp only [Int.mul_one,Int.mul_zero,Int.add_zero,Int.zero_add,Int.mul_neg_one,Int.mul_neg,Int.neg_mul,Int.neg_neg,Int.one_mul];first | (rw [show (r*r == 0)=false from beq_eq_false_iff_ne.2 (by omega),Bool.and_false];rfl) | (rw [show (-(r*r) == 0)=false from beq_eq_false_iff_ne.2 (by omega),Bool.and_false];rfl))
   ·rw [show (lenS u == lenS w)=false from beq_eq_false_iff_ne.2 (fun e=>hl e.symm),show (lenS w == lenS u)=false from beq_eq_false_iff_ne.2 hl]
    simp
  ·have u1:unitV (primV u).1=false:=by
    cases h:unitV (primV u).1 with
    | false=>rfl
    | true=>exact absurd (ua h).1 hu
   rw [u1,Bool.false_and]
   have hl:(lenS w == lenS u)=false:=beq_eq_false_iff_ne.2 (by omega)
   rw [hl]
   simp
 ·have w1:unitV (primV w).1=false:=by
   cases h:unitV (primV w).1 with
   | false=>rfl
   | true=>exact absurd (ub h).1 hw
  rw [w1,show decide (lenS w ≥ 1)=false from decide_eq_false hw]
  simp
def chkR (m:Mov):Int:=
 if m.1<1∨m.1 > 3 then 16
 else if (inV m.2.1 && (inV m.2.2.1 && inV m.2.2.2.1))=false then 3
 else if (m.1=1∧m.2.2.2.2≠0)∨(m.1≠1∧(m.2.2.2.2<1∨m.2.2.2.2 > 100)) then 3
 else if m.2.1=m.2.2.1∨(m.1≠3∧m.2.2.2.1≠(0,0,0))∨(m.1=3∧zup m=false) then 16
 else 0
theorem zue (m:Mov):chkR m=chkM m:=by
 unfold chkR chkM
 have ft:¬ (false=true):=by decide
 have tf:¬ (true=false):=by decide
 by_cases hk:m.1<1∨m.1 > 3
 ·have h1:strM m=false:=by unfold strM;simp;omega
  rw [if_pos hk,h1,if_neg ft,if_neg (show ¬ m.1=3 by omega)]
 ·rw [if_neg hk]
  cases hi:(inV m.2.1 && (inV m.2.2.1 && inV m.2.2.2.1)) with
  | false =>
   have hj:∀b:Bool,(inV m.2.1 && (inV m.2.2.1 && (inV m.2.2.2.1 && b)))=false:=fun b=>by
    rw [← Bool.and_assoc (inV m.2.2.1),← Bool.and_assoc,hi];rfl
   rw [if_pos rfl]
   simp only [hj]
   by_cases h3:m.1=3
   ·rw [show strM m=false by unfold strM;rw [h3];rfl,if_neg ft,if_pos h3,if_neg ft]
   ·have h1:strM m=true:=by unfold strM;simp;omega
    rw [h1,if_pos rfl,if_neg ft]
  | true =>
   simp only [Bool.and_eq_true] at hi
   have hq:=zvK hi.1 hi.2.1 hi.2.2
   rw [if_neg tf,hi.1,hi.2.1,hi.2.2,Bool.true_and,Bool.true_and,Bool.true_and,Bool.true_and,Bool.true_and,Bool.true_and,hq]
   by_cases h3:m.1=3
   ·have h1:strM m=false:=by unfold strM;rw [h3];rfl
    rw [h1,if_neg ft,if_pos h3]
    by_cases hf:1≤m.2.2.2.2∧m.2.2.2.2≤100
    ·rw [if_neg (show ¬ ((m.1=1∧m.2.2.2.2≠0)∨(m.1≠1∧(m.2.2.2.2<1∨m.2.2.2.2 > 100))) by omega),decide_eq_true hf.1,decide_eq_true hf.2]
     by_cases hz:m.2.1=m.2.2.1
     ·rw [if_pos (show m.2.1=m.2.2.1∨_ from .inl hz),decide_eq_true hz];rfl
     ·rw [decide_eq_false hz]
      cases hr:zup m with
      | false=>rw [if_pos (show m.2.1=m.2.2.1∨(m.1≠3∧m.2.2.2.1≠(0,0,0))∨(m.1=3∧false=false) from .inr (.inr ⟨h3,rfl⟩))];rfl
      | true=>rw [if_neg (show ¬ (m.2.1=m.2.2.1∨(m.1≠3∧m.2.2.2.1≠(0,0,0))∨(m.1=3∧true=false)) by simp [hz,h3])];rfl
    ·rw [if_pos (show (m.1=1∧m.2.2.2.2≠0)∨(m.1≠1∧(m.2.2.2.2<1∨m.2.2.2.2 > 100)) by omega)]
     have:(decide (1≤m.2.2.2.2) && decide (m.2.2.2.2≤100))=false:=by
      by_cases h1:1≤m.2.2.2.2
      ·rw [decide_eq_false (show ¬ m.2.2.2.2≤100 by omega),Bool.and_false]
      ·rw [decide_eq_false h1,Bool.false_and]
     rw [this];rfl
   ·have h1:strM m=true:=by unfold strM;simp;omega
    have hlo:(decide (lowM m≤m.2.2.2.2) && decide (m.2.2.2.2≤highM m))=!decide ((m.1=1∧m.2.2.2.2≠0)∨(m.1≠1∧(m.2.2.2.2<1∨m.2.2.2.2 > 100))):=by
     unfold lowM highM
     by_cases hg:(m.1=1∧m.2.2.2.2≠0)∨(m.1≠1∧(m.2.2.2.2<1∨m.2.2.2.2 > 100))
     ·rw [decide_eq_true hg,Bool.not_true,Bool.and_eq_false_iff]
      by_cases h:m.1=1
      ·rw [if_pos h,if_pos h]
       by_cases h0:(0:Int)≤m.2.2.2.2
       ·exact .inr (decide_eq_false (by omega))
       ·exact .inl (decide_eq_false h0)
      ·rw [if_neg h,if_neg h]
       by_cases h0:(1:Int)≤m.2.2.2.2
       ·exact .inr (decide_eq_false (by omega))
       ·exact .inl (decide_eq_false h0)
     ·rw [decide_eq_false hg,Bool.not_false,Bool.and_eq_true]
      by_cases h:m.1=1
      ·rw [if_pos h,if_pos h];exact ⟨decide_eq_true (by omega),decide_eq_true (by omega)⟩
      ·rw [if_neg h,if_neg h];exact ⟨decide_eq_true (by omega),decide_eq_true (by omega)⟩
    rw [h1,if_pos (rfl:true=true),hlo]
    by_cases hf:(m.1=1∧m.2.2.2.2≠0)∨(m.1≠1∧(m.2.2.2.2<1∨m.2.2.2.2 > 100))
    ·rw [if_pos hf,decide_eq_true hf];rfl
    ·rw [if_neg hf,decide_eq_false hf,Bool.not_false,if_pos (rfl:true=true)]
     unfold fitS
     by_cases hz:m.2.1=m.2.2.1
     ·rw [if_pos (show m.2.1=m.2.2.1∨_ from .inl hz),decide_eq_true hz];rfl
     ·by_cases hy:m.2.2.2.1=(0,0,0)
      ·rw [if_neg (show ¬ (m.2.1=m.2.2.1∨(m.1≠3∧m.2.2.2.1≠(0,0,0))∨(m.1=3∧zup m=false)) by simp [hz,hy,h3]),decide_eq_false hz,decide_eq_true hy];rfl
      ·rw [if_pos (show m.2.1=m.2.2.1∨(m.1≠3∧m.2.2.2.1≠(0,0,0))∨(m.1=3∧zup m=false) from .inr (.inl ⟨h3,hy⟩)),decide_eq_false hz,decide_eq_false hy];rfl
end Go.Proofs.YteimplkdcjapdaaGreatDoor
set_option synthInstance.maxSize 2000
set_option synthInstance.maxHeartbeats 400000
namespace Go.Proofs.YteimplkdcjapdaaGreatDoor
open Go.RowKit
def zvu:Tr:=.s [(6,.un .neg 0),(0,.raw [(1000007,.op (.max [3,3] 3) [0,3] [] 4)] 1),(12,.un .neg 1),(0,.raw [(1000013,.op (.max [3,3] 3) [1,5] [] 6)] 1),(18,.un .neg 2),(0,.raw [(1000019,.op (.max [3,3] 3) [2,7] [] 8)] 1),(25,.bin .add 3 4 6),(27,.bin .add 3 9 8),(0,.raw [(1000031,.op (.max [3,3] 3) [6,8] [] 11)] 1),(0,.raw [(1000032,.op (.max [3,3] 3) [4,11] [] 12)] 1),(33,.bin .neq 3 10 12)] (.b 13 (.z (.ret false (LF (kI 0)) [])) (.s [(36,.bin .add 3 4 6),(38,.bin .add 3 14 8)] (.z (.ret false (15) []))))
theorem zuS {w0:World} (a:Vec) (r:Int) (hr:lenR a=r):Fun (KN w0) Tryz.prog 124 [.o (.g [pI a.1,pI a.2.1,pI a.2.2])] (.o (.c (pI r))):=by
 refine tfn w0 124 ⟨[.o (.g [0,1,2])],[],[],0,0⟩ ⟨3,[sI a.2.2,sI a.2.1,sI a.1],[],[]⟩ zvu (by kernel_rfl) ?_
 intro v1 e1
 obtain ⟨v2,e2⟩:=LX ((if v1 > a.1 then v1 else a.1))
 refine rx [sI v2] [] [] (fun t u w=>⟨e_op2 (za rfl) (za rfl) (za rfl) (fun W=>by rw [← e2];exact zfZ W),trivial⟩) ?_
 intro v3 e3
 obtain ⟨v4,e4⟩:=LX ((if v3 > a.2.1 then v3 else a.2.1))
 refine rx [sI v4] [] [] (fun t u w=>⟨e_op2 (za rfl) (za rfl) (za rfl) (fun W=>by rw [← e4];exact zfZ W),trivial⟩) ?_
 intro v5 e5
 obtain ⟨v6,e6⟩:=LX ((if v5 > a.2.2 then v5 else a.2.2))
 refine rx [sI v6] [] [] (fun t u w=>⟨e_op2 (za rfl) (za rfl) (za rfl) (fun W=>by rw [← e6];exact zfZ W),trivial⟩) ?_
 intro v7 e7 v8 e8
 obtain ⟨v9,e9⟩:=LX ((if v6 > v4 then v6 else v4))
 refine rx [sI v9] [] [] (fun t u w=>⟨e_op2 (za rfl) (za rfl) (za rfl) (fun W=>by rw [← e9];exact zfZ W),trivial⟩) ?_
 obtain ⟨v10,e10⟩:=LX ((if v9 > v2 then v9 else v2))
 refine rx [sI v10] [] [] (fun t u w=>⟨e_op2 (za rfl) (za rfl) (za rfl) (fun W=>by rw [← e10];exact zfZ W),trivial⟩) ?_
 intro v11 e11
 refine ai (fun h12=>?_) fun h12=>?_
 ·
  intro hc
  refine Fun.fin (r:=.o (.c (pV (.int .i64 0)))) (zc (hc)) (fun v W D h=>?_)
  have r0:r=(0:Int):=by
   (rw [← hr];unfold lenR mxI;simp_all)
  rw [r0];exact h
 ·
  intro v13 e13 v14 e14
  intro hc
  refine Fun.fin (r:=.o (.c (pI v14))) (zc (hc)) (fun v W D h=>?_)
  have r0:r=v14:=by
   (rw [← hr];unfold lenR mxI;simp_all)
  rw [r0];exact h
def zu3:Tr:=.s [(6,.call 63 [.o (.g [1,2,3]),.o (.g [7,8,9])] (.o (.g 3))),(13,.call 63 [.o (.g [4,5,6]),.o (.g [7,8,9])] (.o (.g 3))),(17,.call 124 [.o (.g [11,12,13])] (.o .c)),(18,.bin .geq 3 17 (kI 1))] (.b 18 (.s [(21,.call 124 [.o (.g [11,12,13])] (.o .c)),(23,.call 124 [.o (.g [14,15,16])] (.o .c)),(24,.bin .eql 3 19 20)] (.b 21 (.s [(29,.call 125 [.o (.g [11,12,13]),.o (.g [14,15,16])] (.o .c)),(30,.bin .eql 3 22 (kI 0))] (.z (.ret false (23) []))) (.z (.ret false (LF (kB false)) [])))) (.z (.ret false (LF (kB false)) [])))
theorem zuJ {w0:World} (m:Mov) (r:Bool) (hr:zup m=r):Fun (KN w0) Tryz.prog 97 [.o (.g [pI m.1,pI m.2.1.1,pI m.2.1.2.1,pI m.2.1.2.2,pI m.2.2.1.1,pI m.2.2.1.2.1,pI m.2.2.1.2.2,pI m.2.2.2.1.1,pI m.2.2.2.1.2.1,pI m.2.2.2.1.2.2,pI m.2.2.2.2])] (.o (.c (pB r))):=by
 refine tfn w0 97 ⟨[.o (.g [0,1,2,3,4,5,6,7,8,9,10])],[],[],0,0⟩ ⟨11,[sI m.2.2.2.2,sI m.2.2.2.1.2.2,sI m.2.2.2.1.2.1,sI m.2.2.2.1.1,sI m.2.2.1.2.2,sI m.2.2.1.2.1,sI m.2.2.1.1,sI m.2.1.2.2,sI m.2.1.2.1,sI m.2.1.1,sI m.1],[],[]⟩ zu3 (by kernel_rfl) ?_
 obtain ⟨v1,e1⟩:=LX (subV m.2.1 m.2.2.2.1)
 refine cx (.o (.g [sI v1.1,sI v1.2.1,sI v1.2.2])) (zuG m.2.1 m.2.2.2.1 v1 e1) rfl ?_
 obtain ⟨v2,e2⟩:=LX (subV m.2.2.1 m.2.2.2.1)
 refine cx (.o (.g [sI v2.1,sI v2.2.1,sI v2.2.2])) (zuG m.2.2.1 m.2.2.2.1 v2 e2) rfl ?_
 obtain ⟨v3,e3⟩:=LX (lenR v1)
 refine cx (.o (.c (sI v3))) (zuS v1 v3 e3) rfl ?_
 intro v4 e4
 refine ai (fun h5=>?_) fun h5=>?_
 ·
  obtain ⟨v6,e6⟩:=LX (lenR v1)
  refine cx (.o (.c (sI v6))) (zuS v1 v6 e6) rfl ?_
  obtain ⟨v7,e7⟩:=LX (lenR v2)
  refine cx (.o (.c (sI v7))) (zuS v2 v7 e7) rfl ?_
  intro v8 e8
  refine ai (fun h9=>?_) fun h9=>?_
  ·
   obtain ⟨v10,e10⟩:=LX (dotV v1 v2)
   refine cx (.o (.c (sI v10))) (zwF v1 v2 v10 e10) rfl ?_
   intro v11 e11
   intro hc
   refine Fun.fin (r:=.o (.c (pB v11))) (zc (hc)) (fun v W D h=>?_)
   have r0:r=v11:=by
    (rw [← hr];unfold zup;simp_all<;>(intros;omega))
   rw [r0];exact h
  ·
   intro hc
   refine Fun.fin (r:=.o (.c (pV (.bool false)))) (zc (hc)) (fun v W D h=>?_)
   have r0:r=false:=by
    (rw [← hr];unfold zup;simp_all<;>(intros;omega))
   rw [r0];exact h
 ·
  intro hc
  refine Fun.fin (r:=.o (.c (pV (.bool false)))) (zc (hc)) (fun v W D h=>?_)
  have r0:r=false:=by
   (rw [← hr];unfold zup;simp_all<;>(intros;omega))
  rw [r0];exact h
def zv3:Tr:=.s [(4,.bin .lss 3 0 (kI 1))] (.b 11 (.z (.ret false (LF (kI 16)) [])) (.s [(8,.bin .gtr 3 0 (kI 3))] (.b 12 (.z (.ret false (LF (kI 16)) [])) (.s [(12,.call 59 [.o (.g [1,2,3])] (.o .c)),(13,.un .not 13)] (.b 14 (.z (.ret false (LF (kI 3)) [])) (.s [(17,.call 59 [.o (.g [4,5,6])] (.o .c)),(18,.un .not 15)] (.b 16 (.z (.ret false (LF (kI 3)) [])) (.s [(23,.call 59 [.o (.g [7,8,9])] (.o .c)),(24,.un .not 17)] (.b 18 (.z (.ret false (LF (kI 3)) [])) (.s [(28,.bin .eql 3 0 (kI 1))] (.b 19 (.s [(32,.bin .neq 3 10 (kI 0))] (.b 20 (.z (.ret false (LF (kI 3)) [])) (.s [(37,.bin .neq 3 0 (kI 1)),(0,.fb 21 false),(0,.raw [(1000053,.bin .eql 26 (.o (.g [1,2,3])) (.o (.g [4,5,6])) 22)] 1)] (.b 22 (.z (.ret false (LF (kI 16)) [])) (.s [(57,.bin .neq 3 0 (kI 3))] (.b 23 (.s [(0,.raw [(1000062,.bin .neq 26 (.o (.g [7,8,9])) (.o (.g [.k (.int .i64 0),.k (.int .i64 0),.k (.int .i64 0)])) 24)] 1)] (.b 24 (.z (.ret false (LF (kI 16)) [])) (.s [(68,.bin .eql 3 0 (kI 3)),(0,.fb 25 false)] (.z (.ret false (LF (kI 0)) []))))) (.s [(68,.bin .eql 3 0 (kI 3)),(0,.fb 24 true),(71,.call 97 [.o (.g [0,1,2,3,4,5,6,7,8,9,10])] (.o .c)),(72,.un .not 25)] (.b 26 (.z (.ret false (LF (kI 16)) [])) (.z (.ret false (LF (kI 0)) [])))))))))) (.s [(37,.bin .neq 3 0 (kI 1)),(0,.fb 20 true),(41,.bin .lss 3 10 (kI 1))] (.b 21 (.z (.ret false (LF (kI 3)) [])) (.s [(45,.bin .gtr 3 10 (kI 100))] (.b 22 (.z (.ret false (LF (kI 3)) [])) (.s [(0,.raw [(1000053,.bin .eql 26 (.o (.g [1,2,3])) (.o (.g [4,5,6])) 23)] 1)] (.b 23 (.z (.ret false (LF (kI 16)) [])) (.s [(57,.bin .neq 3 0 (kI 3))] (.b 24 (.s [(0,.raw [(1000062,.bin .neq 26 (.o (.g [7,8,9])) (.o (.g [.k (.int .i64 0),.k (.int .i64 0),.k (.int .i64 0)])) 25)] 1)] (.b 25 (.z (.ret false (LF (kI 16)) [])) (.s [(68,.bin .eql 3 0 (kI 3)),(0,.fb 26 false)] (.z (.ret false (LF (kI 0)) []))))) (.s [(68,.bin .eql 3 0 (kI 3)),(0,.fb 25 true),(71,.call 97 [.o (.g [0,1,2,3,4,5,6,7,8,9,10])] (.o .c)),(72,.un .not 26)] (.b 27 (.z (.ret false (LF (kI 16)) [])) (.z (.ret false (LF (kI 0)) [])))))))))))))))))))))))
theorem zuw {w0:World} (m:Mov) (r:Int) (hr:chkM m=r):Fun (KN w0) Tryz.prog 65 [.o (.g [pI m.1,pI m.2.1.1,pI m.2.1.2.1,pI m.2.1.2.2,pI m.2.2.1.1,pI m.2.2.1.2.1,pI m.2.2.1.2.2,pI m.2.2.2.1.1,pI m.2.2.2.1.2.1,pI m.2.2.2.1.2.2,pI m.2.2.2.2])] (.o (.c (pI r))):=by
 refine tfn w0 65 ⟨[.o (.g [0,1,2,3,4,5,6,7,8,9,10])],[],[],0,0⟩ ⟨11,[sI m.2.2.2.2,sI m.2.2.2.1.2.2,sI m.2.2.2.1.2.1,sI m.2.2.2.1.1,sI m.2.2.1.2.2,sI m.2.2.1.2.1,sI m.2.2.1.1,sI m.2.1.2.2,sI m.2.1.2.1,sI m.2.1.1,sI m.1],[],[]⟩ zv3 (by kernel_rfl) ?_
 intro v1 e1
 refine ai (fun h2=>?_) fun h2=>?_
 ·
  intro hc
  refine Fun.fin (r:=.o (.c (pV (.int .i64 16)))) (zc (hc)) (fun v W D h=>?_)
  have r0:r=(16:Int):=by
   (have dh2:=LD e1 h2;rw [← hr,← zue];unfold chkR;simp_all<;>omega)
  rw [r0];exact h
 ·
  intro v3 e3
  refine ai (fun h4=>?_) fun h4=>?_
  ·
   intro hc
   refine Fun.fin (r:=.o (.c (pV (.int .i64 16)))) (zc (hc)) (fun v W D h=>?_)
   have r0:r=(16:Int):=by
    (have dh2:=LE e1 h2;have dh4:=LD e3 h4;rw [← hr,← zue];unfold chkR;simp_all<;>omega)
   rw [r0];exact h
  ·
   obtain ⟨v5,e5⟩:=LX (inV m.2.1)
   refine cx (.o (.c (sB v5))) (t_rin m.2.1 v5 e5) rfl ?_
   intro v6 e6
   refine ai (fun h7=>?_) fun h7=>?_
   ·
    intro hc
    refine Fun.fin (r:=.o (.c (pV (.int .i64 3)))) (zc (hc)) (fun v W D h=>?_)
    have r0:r=(3:Int):=by
     (have dh2:=LE e1 h2;have dh4:=LE e3 h4;have dh7:=(Bool.not_eq_true' _).mp (e6.trans h7);rw [← hr,← zue];unfold chkR;simp_all<;>omega)
    rw [r0];exact h
   ·
    obtain ⟨v8,e8⟩:=LX (inV m.2.2.1)
    refine cx (.o (.c (sB v8))) (t_rin m.2.2.1 v8 e8) rfl ?_
    intro v9 e9
    refine ai (fun h10=>?_) fun h10=>?_
    ·
     intro hc
     refine Fun.fin (r:=.o (.c (pV (.int .i64 3)))) (zc (hc)) (fun v W D h=>?_)
     have r0:r=(3:Int):=by
      (have dh2:=LE e1 h2;have dh4:=LE e3 h4;have dh7:=(Bool.not_eq_false' _).mp (e6.trans h7);have dh10:=(Bool.not_eq_true' _).mp (e9.trans h10);rw [← hr,← zue];unfold chkR;simp_all<;>omega)
     rw [r0];exact h
    ·
     obtain ⟨v11,e11⟩:=LX (inV m.2.2.2.1)
     refine cx (.o (.c (sB v11))) (t_rin m.2.2.2.1 v11 e11) rfl ?_
     intro v12 e12
     refine ai (fun h13=>?_) fun h13=>?_
     ·
      intro hc
      refine Fun.fin (r:=.o (.c (pV (.int .i64 3)))) (zc (hc)) (fun v W D h=>?_)
      have r0:r=(3:Int):=by
       (have dh2:=LE e1 h2;have dh4:=LE e3 h4;have dh7:=(Bool.not_eq_false' _).mp (e6.trans h7);have dh10:=(Bool.not_eq_false' _).mp (e9.trans h10);have dh13:=(Bool.not_eq_true' _).mp (e12.trans h13);rw [← hr,← zue];unfold chkR;simp_all<;>omega)
      rw [r0];exact h
     ·
      intro v14 e14
      refine ai (fun h15=>?_) fun h15=>?_
      ·
       intro v16 e16
       refine ai (fun h17=>?_) fun h17=>?_
       ·
        intro hc
        refine Fun.fin (r:=.o (.c (pV (.int .i64 3)))) (zc (hc)) (fun v W D h=>?_)
        have r0:r=(3:Int):=by
         (have dh2:=LE e1 h2;have dh4:=LE e3 h4;have dh7:=(Bool.not_eq_false' _).mp (e6.trans h7);have dh10:=(Bool.not_eq_false' _).mp (e9.trans h10);have dh13:=(Bool.not_eq_false' _).mp (e12.trans h13);have dh15:=eq_of_beq (e14.trans h15);have dh17:=bne_iff_ne.1 (e16.trans h17);rw [← hr,← zue];unfold chkR;simp_all<;>omega)
        rw [r0];exact h
       ·
        intro v18 e18
        have s19:v18=false:=by (rw [← e18];have q:=e14.trans h15;first | exact congrArg Bool.not q | (rw [bne_eq_false_iff_eq] at q;exact beq_iff_eq.2 q) | (rw [bne_iff_ne] at q;exact beq_eq_false_iff_ne.2 q))
        refine ai s19 ?_
        obtain ⟨v20,e20⟩:=LX (decide (m.2.1=m.2.2.1))
        refine rx [sB v20] [] [] (fun t u w=>⟨e_eqV (x:=m.2.1) (y:=m.2.2.1) (neg:=false) ⟨(za rfl),(za rfl),(za rfl),trivial⟩ ⟨(za rfl),(za rfl),(za rfl),trivial⟩ (za (by rw [e20];rfl)),trivial⟩) ?_
        refine ai (fun h21=>?_) fun h21=>?_
        ·
         intro hc
         refine Fun.fin (r:=.o (.c (pV (.int .i64 16)))) (zc (hc)) (fun v W D h=>?_)
         have r0:r=(16:Int):=by
          (have dh2:=LE e1 h2;have dh4:=LE e3 h4;have dh7:=(Bool.not_eq_false' _).mp (e6.trans h7);have dh10:=(Bool.not_eq_false' _).mp (e9.trans h10);have dh13:=(Bool.not_eq_false' _).mp (e12.trans h13);have dh15:=eq_of_beq (e14.trans h15);have dh17:=bne_eq_false_iff_eq.1 (e16.trans h17);have dh21:=LD e20 h21;rw [← hr,← zue];unfold chkR;simp_all<;>omega)
         rw [r0];exact h
        ·
         intro v22 e22
         refine ai (fun h23=>?_) fun h23=>?_
         ·
          obtain ⟨v24,e24⟩:=LX (!decide (m.2.2.2.1=((0:Int),(0:Int),(0:Int))))
          refine rx [sB v24] [] [] (fun t u w=>⟨e_eqV (x:=m.2.2.2.1) (y:=((0:Int),(0:Int),(0:Int))) (neg:=true) ⟨(za rfl),(za rfl),(za rfl),trivial⟩ ⟨zf,zf,zf,trivial⟩ (za (by rw [e24];rfl)),trivial⟩) ?_
          refine ai (fun h25=>?_) fun h25=>?_
          ·
           intro hc
           refine Fun.fin (r:=.o (.c (pV (.int .i64 16)))) (zc (hc)) (fun v W D h=>?_)
           have r0:r=(16:Int):=by
            (have dh2:=LE e1 h2;have dh4:=LE e3 h4;have dh7:=(Bool.not_eq_false' _).mp (e6.trans h7);have dh10:=(Bool.not_eq_false' _).mp (e9.trans h10);have dh13:=(Bool.not_eq_false' _).mp (e12.trans h13);have dh15:=eq_of_beq (e14.trans h15);have dh17:=bne_eq_false_iff_eq.1 (e16.trans h17);have dh21:=LE e20 h21;have dh23:=bne_iff_ne.1 (e22.trans h23);have dh25:=(Bool.not_eq_true' _).mp (e24.trans h25);rw [← hr,← zue];unfold chkR;simp_all<;>omega)
           rw [r0];exact h
          ·
           intro v26 e26
           have s27:v26=false:=by (rw [← e26];have q:=e22.trans h23;first | exact congrArg Bool.not q | (rw [bne_eq_false_iff_eq] at q;exact beq_iff_eq.2 q) | (rw [bne_iff_ne] at q;exact beq_eq_false_iff_ne.2 q))
           refine ai s27 ?_
           intro hc
           refine Fun.fin (r:=.o (.c (pV (.int .i64 0)))) (zc (hc)) (fun v W D h=>?_)
           have r0:r=(0:Int):=by
            (have dh2:=LE e1 h2;have dh4:=LE e3 h4;have dh7:=(Bool.not_eq_false' _).mp (e6.trans h7);have dh10:=(Bool.not_eq_false' _).mp (e9.trans h10);have dh13:=(Bool.not_eq_false' _).mp (e12.trans h13);have dh15:=eq_of_beq (e14.trans h15);have dh17:=bne_eq_false_iff_eq.1 (e16.trans h17);have dh21:=LE e20 h21;have dh23:=bne_iff_ne.1 (e22.trans h23);have dh25:=(Bool.not_eq_false' _).mp (e24.trans h25);rw [← hr,← zue];unfold chkR;simp_all<;>omega)
           rw [r0];exact h
         ·
          intro v24 e24
          have s25:v24=true:=by (rw [← e24];have q:=e22.trans h23;first | exact congrArg Bool.not q | (rw [bne_eq_false_iff_eq] at q;exact beq_iff_eq.2 q) | (rw [bne_iff_ne] at q;exact beq_eq_false_iff_ne.2 q))
          refine ai s25 ?_
          obtain ⟨v26,e26⟩:=LX (zup m)
          refine cx (.o (.c (sB v26))) (zuJ m v26 e26) rfl ?_
          intro v27 e27
          refine ai (fun h28=>?_) fun h28=>?_
          ·
           intro hc
           refine Fun.fin (r:=.o (.c (pV (.int .i64 16)))) (zc (hc)) (fun v W D h=>?_)
           have r0:r=(16:Int):=by
            (have dh2:=LE e1 h2;have dh4:=LE e3 h4;have dh7:=(Bool.not_eq_false' _).mp (e6.trans h7);have dh10:=(Bool.not_eq_false' _).mp (e9.trans h10);have dh13:=(Bool.not_eq_false' _).mp (e12.trans h13);have dh15:=eq_of_beq (e14.trans h15);have dh17:=bne_eq_false_iff_eq.1 (e16.trans h17);have dh21:=LE e20 h21;have dh23:=bne_eq_false_iff_eq.1 (e22.trans h23);have dh28:=(Bool.not_eq_true' _).mp (e27.trans h28);rw [← hr,← zue];unfold chkR;simp_all<;>omega)
           rw [r0];exact h
          ·
           intro hc
           refine Fun.fin (r:=.o (.c (pV (.int .i64 0)))) (zc (hc)) (fun v W D h=>?_)
           have r0:r=(0:Int):=by
            (have dh2:=LE e1 h2;have dh4:=LE e3 h4;have dh7:=(Bool.not_eq_false' _).mp (e6.trans h7);have dh10:=(Bool.not_eq_false' _).mp (e9.trans h10);have dh13:=(Bool.not_eq_false' _).mp (e12.trans h13);have dh15:=eq_of_beq (e14.trans h15);have dh17:=bne_eq_false_iff_eq.1 (e16.trans h17);have dh21:=LE e20 h21;have dh23:=bne_eq_false_iff_eq.1 (e22.trans h23);have dh28:=(Bool.not_eq_false' _).mp (e27.trans h28);rw [← hr,← zue];unfold chkR;simp_all<;>omega)
           rw [r0];exact h
      ·
       intro v16 e16
       have s17:v16=true:=by (rw [← e16];have q:=e14.trans h15;first | exact congrArg Bool.not q | (rw [bne_eq_false_iff_eq] at q;exact beq_iff_eq.2 q) | (rw [bne_iff_ne] at q;exact beq_eq_false_iff_ne.2 q))
       refine ai s17 ?_
       intro v18 e18
       refine ai (fun h19=>?_) fun h19=>?_
       ·
        intro hc
        refine Fun.fin (r:=.o (.c (pV (.int .i64 3)))) (zc (hc)) (fun v W D h=>?_)
        have r0:r=(3:Int):=by
         (have dh2:=LE e1 h2;have dh4:=LE e3 h4;have dh7:=(Bool.not_eq_false' _).mp (e6.trans h7);have dh10:=(Bool.not_eq_false' _).mp (e9.trans h10);have dh13:=(Bool.not_eq_false' _).mp (e12.trans h13);have dh15:=ne_of_beq_false (e14.trans h15);have dh19:=LD e18 h19;rw [← hr,← zue];unfold chkR;simp_all<;>omega)
        rw [r0];exact h
       ·
        intro v20 e20
        refine ai (fun h21=>?_) fun h21=>?_
        ·
         intro hc
         refine Fun.fin (r:=.o (.c (pV (.int .i64 3)))) (zc (hc)) (fun v W D h=>?_)
         have r0:r=(3:Int):=by
          (have dh2:=LE e1 h2;have dh4:=LE e3 h4;have dh7:=(Bool.not_eq_false' _).mp (e6.trans h7);have dh10:=(Bool.not_eq_false' _).mp (e9.trans h10);have dh13:=(Bool.not_eq_false' _).mp (e12.trans h13);have dh15:=ne_of_beq_false (e14.trans h15);have dh19:=LE e18 h19;have dh21:=LD e20 h21;rw [← hr,← zue];unfold chkR;simp_all<;>omega)
         rw [r0];exact h
        ·
         obtain ⟨v22,e22⟩:=LX (decide (m.2.1=m.2.2.1))
         refine rx [sB v22] [] [] (fun t u w=>⟨e_eqV (x:=m.2.1) (y:=m.2.2.1) (neg:=false) ⟨(za rfl),(za rfl),(za rfl),trivial⟩ ⟨(za rfl),(za rfl),(za rfl),trivial⟩ (za (by rw [e22];rfl)),trivial⟩) ?_
         refine ai (fun h23=>?_) fun h23=>?_
         ·
          intro hc
          refine Fun.fin (r:=.o (.c (pV (.int .i64 16)))) (zc (hc)) (fun v W D h=>?_)
          have r0:r=(16:Int):=by
           (have dh2:=LE e1 h2;have dh4:=LE e3 h4;have dh7:=(Bool.not_eq_false' _).mp (e6.trans h7);have dh10:=(Bool.not_eq_false' _).mp (e9.trans h10);have dh13:=(Bool.not_eq_false' _).mp (e12.trans h13);have dh15:=ne_of_beq_false (e14.trans h15);have dh19:=LE e18 h19;have dh21:=LE e20 h21;have dh23:=LD e22 h23;rw [← hr,← zue];unfold chkR;simp_all<;>omega)
          rw [r0];exact h
         ·
          intro v24 e24
          refine ai (fun h25=>?_) fun h25=>?_
          ·
           obtain ⟨v26,e26⟩:=LX (!decide (m.2.2.2.1=((0:Int),(0:Int),(0:Int))))
           refine rx [sB v26] [] [] (fun t u w=>⟨e_eqV (x:=m.2.2.2.1) (y:=((0:Int),(0:Int),(0:Int))) (neg:=true) ⟨(za rfl),(za rfl),(za rfl),trivial⟩ ⟨zf,zf,zf,trivial⟩ (za (by rw [e26];rfl)),trivial⟩) ?_
           refine ai (fun h27=>?_) fun h27=>?_
           ·
            intro hc
            refine Fun.fin (r:=.o (.c (pV (.int .i64 16)))) (zc (hc)) (fun v W D h=>?_)
            have r0:r=(16:Int):=by
             (have dh2:=LE e1 h2;have dh4:=LE e3 h4;have dh7:=(Bool.not_eq_false' _).mp (e6.trans h7);have dh10:=(Bool.not_eq_false' _).mp (e9.trans h10);have dh13:=(Bool.not_eq_false' _).mp (e12.trans h13);have dh15:=ne_of_beq_false (e14.trans h15);have dh19:=LE e18 h19;have dh21:=LE e20 h21;have dh23:=LE e22 h23;have dh25:=bne_iff_ne.1 (e24.trans h25);have dh27:=(Bool.not_eq_true' _).mp (e26.trans h27);rw [← hr,← zue];unfold chkR;simp_all<;>omega)
            rw [r0];exact h
           ·
            intro v28 e28
            have s29:v28=false:=by (rw [← e28];have q:=e24.trans h25;first | exact congrArg Bool.not q | (rw [bne_eq_false_iff_eq] at q;exact beq_iff_eq.2 q) | (rw [bne_iff_ne] at q;exact beq_eq_false_iff_ne.2 q))
            refine ai s29 ?_
            intro hc
            refine Fun.fin (r:=.o (.c (pV (.int .i64 0)))) (zc (hc)) (fun v W D h=>?_)
            have r0:r=(0:Int):=by
             (have dh2:=LE e1 h2;have dh4:=LE e3 h4;have dh7:=(Bool.not_eq_false' _).mp (e6.trans h7);have dh10:=(Bool.not_eq_false' _).mp (e9.trans h10);have dh13:=(Bool.not_eq_false' _).mp (e12.trans h13);have dh15:=ne_of_beq_false (e14.trans h15);have dh19:=LE e18 h19;have dh21:=LE e20 h21;have dh23:=LE e22 h23;have dh25:=bne_iff_ne.1 (e24.trans h25);have dh27:=(Bool.not_eq_false' _).mp (e26.trans h27);rw [← hr,← zue];unfold chkR;simp_all<;>omega)
            rw [r0];exact h
          ·
           intro v26 e26
           have s27:v26=true:=by (rw [← e26];have q:=e24.trans h25;first | exact congrArg Bool.not q | (rw [bne_eq_false_iff_eq] at q;exact beq_iff_eq.2 q) | (rw [bne_iff_ne] at q;exact beq_eq_false_iff_ne.2 q))
           refine ai s27 ?_
           obtain ⟨v28,e28⟩:=LX (zup m)
           refine cx (.o (.c (sB v28))) (zuJ m v28 e28) rfl ?_
           intro v29 e29
           refine ai (fun h30=>?_) fun h30=>?_
           ·
            intro hc
            refine Fun.fin (r:=.o (.c (pV (.int .i64 16)))) (zc (hc)) (fun v W D h=>?_)
            have r0:r=(16:Int):=by
             (have dh2:=LE e1 h2;have dh4:=LE e3 h4;have dh7:=(Bool.not_eq_false' _).mp (e6.trans h7);have dh10:=(Bool.not_eq_false' _).mp (e9.trans h10);have dh13:=(Bool.not_eq_false' _).mp (e12.trans h13);have dh15:=ne_of_beq_false (e14.trans h15);have dh19:=LE e18 h19;have dh21:=LE e20 h21;have dh23:=LE e22 h23;have dh25:=bne_eq_false_iff_eq.1 (e24.trans h25);have dh30:=(Bool.not_eq_true' _).mp (e29.trans h30);rw [← hr,← zue];unfold chkR;simp_all<;>omega)
            rw [r0];exact h
           ·
            intro hc
            refine Fun.fin (r:=.o (.c (pV (.int .i64 0)))) (zc (hc)) (fun v W D h=>?_)
            have r0:r=(0:Int):=by
             (have dh2:=LE e1 h2;have dh4:=LE e3 h4;have dh7:=(Bool.not_eq_false' _).mp (e6.trans h7);have dh10:=(Bool.not_eq_false' _).mp (e9.trans h10);have dh13:=(Bool.not_eq_false' _).mp (e12.trans h13);have dh15:=ne_of_beq_false (e14.trans h15);have dh19:=LE e18 h19;have dh21:=LE e20 h21;have dh23:=LE e22 h23;have dh25:=bne_eq_false_iff_eq.1 (e24.trans h25);have dh30:=(Bool.not_eq_false' _).mp (e29.trans h30);rw [← hr,← zue];unfold chkR;simp_all<;>omega)
            rw [r0];exact h
def zuj (m:Mov):Vec:=subV (addV m.2.1 m.2.2.1) m.2.2.2.1
def rowR (c a b:Vec) (r i:Nat):Nat→Nat→List Vec
 | 0,_=>[]
 | k+1,j=>(if i*i+j*j=r*r then [plusV (plusV c a i) b j] else [])++rowR c a b r i k (j+1)
def colR (c a b:Vec) (r:Nat):Nat→List Vec
 | 0=>[]
 | n+1=>rowR c a b r n (r+1) 0++colR c a b r n
def rowN (r i:Nat):Nat→Nat→Nat
 | 0,_=>0
 | k+1,j=>(if i*i+j*j=r*r then 1 else 0)+rowN r i k (j+1)
def colN (r:Nat):Nat→Nat
 | 0=>0
 | n+1=>rowN r n (r+1) 0+colN r n
theorem zvL {c a b:Vec} {r i:Nat}:∀{k j:Nat},(rowR c a b r i k j).length=rowN r i k j
 | 0,_=>rfl
 | k+1,j=>by
  rw [rowR,rowN,List.length_append,zvL]
  split<;>rfl
theorem zu4 {c a b:Vec} {r:Nat}:∀{n:Nat},(colR c a b r n).length=colN r n
 | 0=>rfl
 | n+1=>by rw [colR,colN,List.length_append,zvL,zu4]
theorem zwc:∀r,r<49→colN r (r+1)=(arcIJ r (r+1) 0 r).length:=by decide +kernel
theorem zwa {r i:Nat}:∀{k j:Nat},rowN r i k j≤k
 | 0,_=>Nat.le_refl 0
 | k+1,j=>by
  have:=zwa (r:=r) (i:=i) (k:=k) (j:=j+1)
  rw [rowN]
  split<;>omega
theorem zv6 {r:Nat}:∀{n:Nat},colN r n≤n*(r+1)
 | 0=>Nat.zero_le _
 | n+1=>by
  have h1:=zv6 (r:=r) (n:=n)
  have h2:=zwa (r:=r) (i:=n) (k:=r+1) (j:=0)
  rw [colN,Nat.succ_mul]
  omega
def pathR (m:Mov):List Vec:=
 if chkM m≠0 then []
 else if m.1≠3 then lineP m.2.1 (primV (subV m.2.2.1 m.2.1)).1 (primV (subV m.2.2.1 m.2.1)).2.toNat
 else colR (zuj m) (primV (subV m.2.1 (zuj m))).1 (primV (subV m.2.2.1 (zuj m))).1 (primV (subV m.2.1 (zuj m))).2.toNat ((primV (subV m.2.1 (zuj m))).2.toNat+1)
theorem zuy {m:Mov} (h:chkM m=0):subV m.2.1 (zuj m)=subV m.2.2.2.1 m.2.2.1:=by
 obtain ⟨i1,i2,i3⟩:=zkB h
 have s1:=in_sm i1
 have s2:=in_sm i2
 have s3:=in_sm i3
 rw [zeD] at i1 i2 i3
 have ea:=zwo s1 s2
 have sa:smV (addV m.2.1 m.2.2.1):=by rw [ea];exact ⟨by dsimp only;omega,by dsimp only;omega,by dsimp only;omega⟩
 have ec:zuj m=_:=zso s3 sa
 have sc:smV (zuj m):=by rw [ec,ea];exact ⟨by dsimp only;omega,by dsimp only;omega,by dsimp only;omega⟩
 rw [zso sc s1,zso s2 s3,ec,ea]
 exact Prod.ext (by dsimp only;omega) (Prod.ext (by dsimp only;omega) (by dsimp only;omega))
theorem zvc {m:Mov} (h:chkM m=0):(sideA m).2≤48∧0≤(sideA m).2:=by
 obtain ⟨i1,i2,i3⟩:=zkB h
 have hle:(sideA m).2≤((48:Nat):Int):=zd8 (zge i3 i2)
 exact ⟨by omega,zqs _⟩
theorem zvn (m:Mov):(pathR m).length=(zbu m).length:=by
 unfold pathR zbu
 by_cases h:chkM m=0
 ·rw [if_neg (fun e=>e h),if_pos h]
  have hs:=zvc h
  rcases zsR m h with hk | ⟨hk,h3⟩
  ·rw [if_pos (by intro e;unfold strM at hk;rw [e] at hk;cases hk),zjb hk]
  ·rw [if_neg (by simpa using h3),zsS h3,zu4,zuy h,ztw,List.length_map]
   exact zwc _ (by show (sideA m).2.toNat<49;omega)
 ·rw [if_pos h,if_neg h]
theorem zwf (m:Mov):(pathR m).length≤49:=by rw [zvn];exact zlU (m:=m) trivial
end Go.Proofs.YteimplkdcjapdaaGreatDoor
set_option synthInstance.maxSize 2000
set_option synthInstance.maxHeartbeats 400000
namespace Go.Proofs.YteimplkdcjapdaaGreatDoor
open Go.RowKit
theorem nil_V:∀v W D,pV (.slice none 0 0) v W D→pLs cV ([]:List Vec) v W D:=fun v W D h=>.inl ⟨⟨none,0,h⟩,rfl,rfl⟩
theorem pyth {i r:Int} {q:Nat} (hi:0≤i∧i≤48) (hr:0≤r∧r≤48) (hq:q≤49):(IntKind.i64.wrap (IntKind.i64.wrap (i*i)+IntKind.i64.wrap ((q:Int)*q)) == IntKind.i64.wrap (r*r))=decide (i.toNat*i.toNat+q*q=r.toNat*r.toNat):=by
 obtain ⟨a,rfl⟩:∃a:Nat,i=a:=⟨i.toNat,by omega⟩
 obtain ⟨b,rfl⟩:∃b:Nat,r=b:=⟨r.toNat,by omega⟩
 have h1:a*a≤48*48:=Nat.mul_le_mul (by omega) (by omega)
 have h2:b*b≤48*48:=Nat.mul_le_mul (by omega) (by omega)
 have h3:q*q≤49*49:=Nat.mul_le_mul hq hq
 rw [← Int.natCast_mul,← Int.natCast_mul,← Int.natCast_mul,wri (n:=((a*a:Nat):Int)) (by omega),wri (n:=((q*q:Nat):Int)) (by omega),wri (n:=((b*b:Nat):Int)) (by omega),wri (by omega),Int.toNat_natCast,Int.toNat_natCast]
 by_cases h:a*a+q*q=b*b
 ·rw [decide_eq_true h];exact beq_iff_eq.2 (by omega)
 ·rw [decide_eq_false h];exact beq_eq_false_iff_ne.2 (by omega)
def zvS:Tr:=.s [(8,.bin .mul 3 6 3),(9,.bin .add 3 0 7),(15,.bin .mul 3 6 4),(16,.bin .add 3 1 9),(22,.bin .mul 3 6 5),(23,.bin .add 3 2 11)] (.z (.ret false (.o (.g [8,10,12])) []))
theorem zuv {w0:World} (a b:Vec) (n:Int) (r:Vec) (hr:plusV a b n=r):Fun (KN w0) Tryz.prog 95 [.o (.g [pI a.1,pI a.2.1,pI a.2.2]),.o (.g [pI b.1,pI b.2.1,pI b.2.2]),.o (.c (pI n))] (.o (.g [pI r.1,pI r.2.1,pI r.2.2])):=by
 refine tfn w0 95 ⟨[.o (.g [0,1,2]),.o (.g [3,4,5]),6],[],[],0,0⟩ ⟨7,[sI n,sI b.2.2,sI b.2.1,sI b.1,sI a.2.2,sI a.2.1,sI a.1],[],[]⟩ zvS (by kernel_rfl) ?_
 intro v1 e1 v2 e2 v3 e3 v4 e4 v5 e5 v6 e6
 intro hc
 refine Fun.fin (r:=.o (.g [pI v2,pI v4,pI v6])) (zc (hc)) (fun v W D h=>?_)
 have r0:r=(v2,v4,v6):=by
  (rw [← hr];unfold plusV addV wI;simp_all)
 rw [r0];exact h
def zvt:Tr:=.s [(6,.call 64 [.o (.g [1,2,3]),.o (.g [4,5,6])] (.o (.g 3))),(9,.call 63 [.o (.g [11,12,13]),.o (.g [7,8,9])] (.o (.g 3)))] (.z (.ret false (.o (.g [14,15,16])) []))
theorem zvY {w0:World} (m:Mov) (r:Vec) (hr:zuj m=r):Fun (KN w0) Tryz.prog 126 [.o (.g [pI m.1,pI m.2.1.1,pI m.2.1.2.1,pI m.2.1.2.2,pI m.2.2.1.1,pI m.2.2.1.2.1,pI m.2.2.1.2.2,pI m.2.2.2.1.1,pI m.2.2.2.1.2.1,pI m.2.2.2.1.2.2,pI m.2.2.2.2])] (.o (.g [pI r.1,pI r.2.1,pI r.2.2])):=by
 refine tfn w0 126 ⟨[.o (.g [0,1,2,3,4,5,6,7,8,9,10])],[],[],0,0⟩ ⟨11,[sI m.2.2.2.2,sI m.2.2.2.1.2.2,sI m.2.2.2.1.2.1,sI m.2.2.2.1.1,sI m.2.2.1.2.2,sI m.2.2.1.2.1,sI m.2.2.1.1,sI m.2.1.2.2,sI m.2.1.2.1,sI m.2.1.1,sI m.1],[],[]⟩ zvt (by kernel_rfl) ?_
 obtain ⟨v1,e1⟩:=LX (addV m.2.1 m.2.2.1)
 refine cx (.o (.g [sI v1.1,sI v1.2.1,sI v1.2.2])) (zpM m.2.1 m.2.2.1 v1 e1) rfl ?_
 obtain ⟨v2,e2⟩:=LX (subV v1 m.2.2.2.1)
 refine cx (.o (.g [sI v2.1,sI v2.2.1,sI v2.2.2])) (zuG v1 m.2.2.2.1 v2 e2) rfl ?_
 intro hc
 refine Fun.fin (r:=.o (.g [pI v2.1,pI v2.2.1,pI v2.2.2])) (zc (hc)) (fun v W D h=>?_)
 have r0:r=v2:=by
  (rw [← hr];unfold zuj;simp_all)
 rw [r0];exact h
def zu9:List Atom:=[.sl 1 (.o (.c (.p 0 0))),.sl 2 (.o (.c (.k (.slice none 0 0)))),.sl 3 (.o (.c (.gr 901))),.sl 4 (.o (.c (.p 18 0))),.sl 5 20,.sl 6 21,.bx 0 45 [.h 0,.h 1,.h 2,.h 3,.h 4,.h 5,.h 6,.h 7,.h 8,.h 9,.h 10],.bx 18 26 [.h 17,.h 18,.h 19],.gl 901 26 3 1]
def pvK_S:LoopS:=⟨7,zu9.map (tnA (jf (hZ 21 [kI 0])) (kf [0,0]) (kf [])),(.x 0),(drs [5] zu9)⟩
def pvK_t:Tr:=.s [(0,.fb 12 false),(0,.fb 13 true),(5002,.bin .leq 3 21 20)] (.b 22 (.s [(5008,.call 95 [.o (.g [1,2,3]),.o (.g [17,18,19]),21] (.o (.g 3))),(0,.raw [(1005009,.dat 26 1 [.h 23,.h 24,.h 25] 26)] 1),(0,.raw [(1005010,.app 26 3 901 1 2 26 [] false)] 0),(5013,.bin .add 3 21 (kI 1))] (.z (.nx (hZ 21 [27]) [0,2] []))) (.z (.xt (.x 0) (hZ 21 []) [0,1] [])))
theorem zwB {w0:World} (m:Mov) (v1:Int) (v2:Bool) (v4:Bool) (v6:Vec) (v7:Vec) (v8:Int) (h3:v2=false) (h5:v4=true) (o2:(List Vec)) (hN:0≤v8∧v8≤48) (hO:lineP m.2.1 v7 v8.toNat=o2):LpH (KN w0) Tryz.prog 98 ⟨ntOf Tryz.prog 98,[],[]⟩ pvK_S 0 ⟨21,[sI v8,sI v7.2.2,sI v7.2.1,sI v7.1,sI v6.2.2,sI v6.2.1,sI v6.1,sB v4,sB v2,sI v1,sI m.2.2.2.2,sI m.2.2.2.1.2.2,sI m.2.2.2.1.2.1,sI m.2.2.2.1.1,sI m.2.2.1.2.2,sI m.2.2.1.2.1,sI m.2.2.1.1,sI m.2.1.2.2,sI m.2.1.2.1,sI m.2.1.1,sI m.1],[pG cV ([]:List Vec),pG cV o2],[]⟩:=by
 refine zi _ ⟨zu9,pvK_S,(22,2,0),(21,2,0),5000⟩ (T:=Int×(List Vec)) (fun t=>⟨22,[sI t.1,sI v8,sI v7.2.2,sI v7.2.1,sI v7.1,sI v6.2.2,sI v6.2.1,sI v6.1,sB v4,sB v2,sI v1,sI m.2.2.2.2,sI m.2.2.2.1.2.2,sI m.2.2.2.1.2.1,sI m.2.2.2.1.1,sI m.2.2.1.2.2,sI m.2.2.1.2.1,sI m.2.2.1.1,sI m.2.1.2.2,sI m.2.1.2.1,sI m.2.1.1,sI m.1],[pG cV ([]:List Vec),pG cV t.2],[]⟩) (fun (k,o)=>∃q:Nat,k=(q:Int)∧q≤v8.toNat+1∧o=(lineP m.2.1 v7 v8.toNat).take q) (fun (k,o)=>(v8+1 - k).toNat) ((0:Int),([]:List Vec)) (hZ 21 [kI 0]) [0,0] [] pvK_t mixed ⟨0,rfl,Nat.zero_le _,rfl⟩ rfl rfl rfl rfl (fun _=>rfl) rfl rfl (by kernel_rfl) ?_
 rintro ⟨k,o⟩ hJ
 dsimp only at hJ ⊢
 obtain ⟨q,hk,hq,ho⟩:=hJ
 refine ai h3 ?_
 refine ai h5 ?_
 intro v501 e501
 refine ai (fun h502=>?_) fun h502=>?_
 ·
  obtain ⟨v503,e503⟩:=LX (plusV m.2.1 v7 k)
  refine cx (.o (.g [sI v503.1,sI v503.2.1,sI v503.2.2])) (zuv m.2.1 v7 k v503 e503) rfl ?_
  obtain ⟨v504,e504⟩:=LX (([v503]:List Vec))
  refine rx [.ls 3 cV kV v504] [] [] (fun t u w=>⟨e_dat (c:=cV) (l:=([v503]:List Vec)) (ps:=(pI v503.1::pI v503.2.1::pI v503.2.2::[])) (qs:=(pI v503.1::pI v503.2.1::pI v503.2.2::[])) (by rw [e504];rfl) rfl rfl rfl (pimps (fun _ _ _ h=>h) <| pimps (fun _ _ _ h=>h) <| pimps (fun _ _ _ h=>h) <| ze) rfl,trivial⟩) ?_
  obtain ⟨v505,e505⟩:=LX (o++v504)
  have s506:(o.length+v504.length)*3≤1099511627776:=by (have dh502:=LD e501 h502;rw [← e504,ho];have:=List.length_take_le q (lineP m.2.1 v7 v8.toNat);simp only [List.length_singleton];omega)
  refine rx [] [pG cV v505] [] (fun t u w=>⟨zV (c:=cV) qy (fun _=>rfl) rfl (by rw [e505];rfl) rfl s506,trivial⟩) ?_
  intro v507 e507
  refine nxl (v507,v505) ?_ ?_ rfl
  all_goals (have dh502:=LD e501 h502;have x3:v507=((q+1:Nat):Int):=(by rw [← e507,hk,wri (by omega)];omega))
  ·show (v8+1 - v507).toNat<(v8+1 - k).toNat
   omega
  ·exact ⟨q+1,x3,by omega,by rw [zd2 (by omega),← ho,← e505,← e504,← e503,hk]⟩
 ·
  have hq:((o)=o2)∧True:=by
   refine ⟨?_,trivial⟩
   (have dh502:=LE e501 h502;rw [ho,List.take_of_length_le (by simp [lineP];omega)];exact hO)
  obtain ⟨q0,-⟩:=hq
  rw [← q0]
  rfl
def zu8:List Atom:=[.sl 2 (.o (.c (.k (.slice none 0 0)))),.sl 3 (.o (.c (.gr 901))),.sl 7 (.o (.c (.p 11 0))),.sl 8 (.o (.c (.p 21 0))),.sl 9 23,.sl 10 (.o (.c (.p 32 0))),.sl 12 31,.sl 13 33,.bx 0 45 [.h 0,.h 1,.h 2,.h 3,.h 4,.h 5,.h 6,.h 7,.h 8,.h 9,.h 10],.bx 11 26 [.h 14,.h 15,.h 16],.bx 21 26 [.h 20,.h 21,.h 22],.bx 32 26 [.h 27,.h 28,.h 29],.gl 901 26 3 2]
def pvJ_S:LoopS:=⟨18,zu8.map (tnA (jf (hZ 33 [kI 0])) (kf [0,1,1]) (kf [])),(.x 4),(drs [7] zu8)⟩
def pvJ_t:Tr:=.s [(0,.fb 12 false),(0,.fb 13 false),(0,.fb 32 true),(8002,.bin .leq 3 33 23)] (.b 34 (.s [(8005,.bin .mul 3 31 31),(8008,.bin .mul 3 33 33),(8009,.bin .add 3 35 36),(8012,.bin .mul 3 23 23),(8013,.bin .eql 3 37 38)] (.b 39 (.s [(8018,.call 95 [.o (.g [14,15,16]),.o (.g [20,21,22]),31] (.o (.g 3))),(8021,.call 95 [.o (.g [40,41,42]),.o (.g [27,28,29]),33] (.o (.g 3))),(0,.raw [(1008022,.dat 26 1 [.h 43,.h 44,.h 45] 46)] 1),(0,.raw [(1008023,.app 26 3 901 2 3 46 [] false)] 0),(8026,.bin .add 3 33 (kI 1))] (.z (.nx (hZ 33 [47]) [0,1,3] []))) (.s [(8015,.bin .add 3 33 (kI 1))] (.z (.nx (hZ 33 [40]) [0,1,2] []))))) (.z (.xt (.x 4) (hZ 33 []) [0,1,2] [])))
theorem zwy {w0:World} (m:Mov) (v1:Int) (v2:Bool) (v4:Bool) (v6:Vec) (v7:Vec) (v8:Vec) (v9:Int) (v11:Vec) (v12:Vec) (v13:Int) (i:Int) (o:(List Vec)) (v501:Bool) (h3:v2=false) (h5:v4=false) (h502:v501=true) (o3:(List Vec)) (h9:0≤v9∧v9≤48) (hi:0≤i∧i≤48) (hl:o.length≤3000) (hO:o++rowR v6 v8 v12 v9.toNat i.toNat (v9.toNat+1) 0=o3):LpH (KN w0) Tryz.prog 98 ⟨ntOf Tryz.prog 98,[],[]⟩ pvJ_S 2 ⟨33,[sB v501,sI i,sI v13,sI v12.2.2,sI v12.2.1,sI v12.1,sI v11.2.2,sI v11.2.1,sI v11.1,sI v9,sI v8.2.2,sI v8.2.1,sI v8.1,sI v7.2.2,sI v7.2.1,sI v7.1,sI v6.2.2,sI v6.2.1,sI v6.1,sB v4,sB v2,sI v1,sI m.2.2.2.2,sI m.2.2.2.1.2.2,sI m.2.2.2.1.2.1,sI m.2.2.2.1.1,sI m.2.2.1.2.2,sI m.2.2.1.2.1,sI m.2.2.1.1,sI m.2.1.2.2,sI m.2.1.2.1,sI m.2.1.1,sI m.1],[pG cV ([]:List Vec),pG cV o,pG cV o3],[]⟩:=by
 refine zi _ ⟨zu8,pvJ_S,(34,3,0),(33,3,0),8000⟩ (T:=Int×(List Vec)) (fun t=>⟨34,[sI t.1,sB v501,sI i,sI v13,sI v12.2.2,sI v12.2.1,sI v12.1,sI v11.2.2,sI v11.2.1,sI v11.1,sI v9,sI v8.2.2,sI v8.2.1,sI v8.1,sI v7.2.2,sI v7.2.1,sI v7.1,sI v6.2.2,sI v6.2.1,sI v6.1,sB v4,sB v2,sI v1,sI m.2.2.2.2,sI m.2.2.2.1.2.2,sI m.2.2.2.1.2.1,sI m.2.2.2.1.1,sI m.2.2.1.2.2,sI m.2.2.1.2.1,sI m.2.2.1.1,sI m.2.1.2.2,sI m.2.1.2.1,sI m.2.1.1,sI m.1],[pG cV ([]:List Vec),pG cV o,pG cV t.2],[]⟩) (fun (j,p)=>∃q:Nat,j=(q:Int)∧q≤v9.toNat+1∧p.length≤o.length+q∧p++rowR v6 v8 v12 v9.toNat i.toNat (v9.toNat+1 - q) q=o3) (fun (j,p)=>(v9+1 - j).toNat) ((0:Int),o) (hZ 33 [kI 0]) [0,1,1] [] pvJ_t mixed ⟨0,rfl,Nat.zero_le _,Nat.le_refl _,hO⟩ rfl rfl rfl rfl (fun _=>rfl) rfl rfl (by kernel_rfl) ?_
 rintro ⟨j,p⟩ hJ
 dsimp only at hJ ⊢
 obtain ⟨q,hj,hq,hp,ho⟩:=hJ
 refine ai h3 ?_
 refine ai h5 ?_
 refine ai h502 ?_
 intro v1001 e1001
 refine ai (fun h1002=>?_) fun h1002=>?_
 ·
  intro v1003 e1003 v1004 e1004 v1005 e1005 v1006 e1006 v1007 e1007
  refine ai (fun h1008=>?_) fun h1008=>?_
  ·
   obtain ⟨v1009,e1009⟩:=LX (plusV v6 v8 i)
   refine cx (.o (.g [sI v1009.1,sI v1009.2.1,sI v1009.2.2])) (zuv v6 v8 i v1009 e1009) rfl ?_
   obtain ⟨v1010,e1010⟩:=LX (plusV v1009 v12 j)
   refine cx (.o (.g [sI v1010.1,sI v1010.2.1,sI v1010.2.2])) (zuv v1009 v12 j v1010 e1010) rfl ?_
   obtain ⟨v1011,e1011⟩:=LX (([v1010]:List Vec))
   refine rx [.ls 3 cV kV v1011] [] [] (fun t u w=>⟨e_dat (c:=cV) (l:=([v1010]:List Vec)) (ps:=(pI v1010.1::pI v1010.2.1::pI v1010.2.2::[])) (qs:=(pI v1010.1::pI v1010.2.1::pI v1010.2.2::[])) (by rw [e1011];rfl) rfl rfl rfl (pimps (fun _ _ _ h=>h) <| pimps (fun _ _ _ h=>h) <| pimps (fun _ _ _ h=>h) <| ze) rfl,trivial⟩) ?_
   obtain ⟨v1012,e1012⟩:=LX (p++v1011)
   have s1013:(p.length+v1011.length)*3≤1099511627776:=by (rw [← e1011];simp only [List.length_singleton];omega)
   refine rx [] [pG cV v1012] [] (fun t u w=>⟨zV (c:=cV) qy (fun _=>rfl) rfl (by rw [e1012];rfl) rfl s1013,trivial⟩) ?_
   intro v1014 e1014
   refine nxl (v1014,v1012) ?_ ?_ rfl
   all_goals (have dh1002:=LD e1001 h1002;have dh1008:=eq_of_beq (e1007.trans h1008);have x3:v1014=((q+1:Nat):Int):=(by rw [← e1014,hj,wri (by omega)];omega);have hy:decide (i.toNat*i.toNat+q*q=v9.toNat*v9.toNat)=true:=(by rw [← pyth hi h9 (by omega),← hj,e1003,e1004,e1005,e1006,e1007];exact h1008);rw [show v9.toNat+1 - q=v9.toNat - q+1 by omega,rowR] at ho;rw [if_pos (of_decide_eq_true hy)] at ho)
   ·show (v9+1 - v1014).toNat<(v9+1 - j).toNat
    omega
   ·exact ⟨q+1,x3,by omega,by rw [← e1012,← e1011,List.length_append,List.length_singleton];omega,by rw [← ho,← e1012,← e1011,← e1010,← e1009,List.append_assoc,show v9.toNat+1 - (q+1)=v9.toNat - q by omega,hj,show ((i.toNat:Nat):Int)=i by omega]⟩
  ·
   intro v1009 e1009
   refine nxl (v1009,p) ?_ ?_ rfl
   all_goals (have dh1002:=LD e1001 h1002;have dh1008:=ne_of_beq_false (e1007.trans h1008);have x3:v1009=((q+1:Nat):Int):=(by rw [← e1009,hj,wri (by omega)];omega);have hy:decide (i.toNat*i.toNat+q*q=v9.toNat*v9.toNat)=false:=(by rw [← pyth hi h9 (by omega),← hj,e1003,e1004,e1005,e1006,e1007];exact h1008);rw [show v9.toNat+1 - q=v9.toNat - q+1 by omega,rowR] at ho;rw [if_neg (of_decide_eq_false hy),List.nil_append] at ho)
   ·show (v9+1 - v1009).toNat<(v9+1 - j).toNat
    omega
   ·exact ⟨q+1,x3,by omega,by show p.length≤o.length+(q+1);omega,by rw [← ho,show v9.toNat+1 - (q+1)=v9.toNat - q by omega]⟩
 ·
  have hq:((p)=o3)∧True:=by
   refine ⟨?_,trivial⟩
   (have dh1002:=LE e1001 h1002;rw [show v9.toNat+1 - q=0 by omega,rowR,List.append_nil] at ho;exact ho)
  obtain ⟨q0,-⟩:=hq
  rw [← q0]
  rfl
def zu7:List Atom:=[.sl 2 (.o (.c (.k (.slice none 0 0)))),.sl 3 (.o (.c (.gr 901))),.sl 7 (.o (.c (.p 11 0))),.sl 8 (.o (.c (.p 21 0))),.sl 9 23,.sl 10 (.o (.c (.p 32 0))),.sl 12 31,.bx 0 45 [.h 0,.h 1,.h 2,.h 3,.h 4,.h 5,.h 6,.h 7,.h 8,.h 9,.h 10],.bx 11 26 [.h 14,.h 15,.h 16],.bx 21 26 [.h 20,.h 21,.h 22],.bx 32 26 [.h 27,.h 28,.h 29],.gl 901 26 3 1]
def pvH_S:LoopS:=⟨15,zu7.map (tnA (jf (hZ 31 [23])) (kf [0,0]) (kf [])),(.x 2),(drs [6] zu7)⟩
def pvH_t:Tr:=.s [(0,.fb 12 false),(0,.fb 13 false),(6001,.bin .geq 3 31 (kI 0))] (.b 32 (.s [(0,.lp pvJ_S 2 0),(7004,.bin .sub 3 31 (kI 1))] (.z (.nx (hZ 31 [33]) [0,2] []))) (.z (.xt (.x 2) (hZ 31 []) [0,1] [])))
theorem zwu {w0:World} (m:Mov) (v1:Int) (v2:Bool) (v4:Bool) (v6:Vec) (v7:Vec) (v8:Vec) (v9:Int) (v11:Vec) (v12:Vec) (v13:Int) (h3:v2=false) (h5:v4=false) (o2:(List Vec)) (h9:0≤v9∧v9≤48) (hO:colR v6 v8 v12 v9.toNat (v9.toNat+1)=o2) (hl:o2.length≤3000):LpH (KN w0) Tryz.prog 98 ⟨ntOf Tryz.prog 98,[],[]⟩ pvH_S 1 ⟨31,[sI v13,sI v12.2.2,sI v12.2.1,sI v12.1,sI v11.2.2,sI v11.2.1,sI v11.1,sI v9,sI v8.2.2,sI v8.2.1,sI v8.1,sI v7.2.2,sI v7.2.1,sI v7.1,sI v6.2.2,sI v6.2.1,sI v6.1,sB v4,sB v2,sI v1,sI m.2.2.2.2,sI m.2.2.2.1.2.2,sI m.2.2.2.1.2.1,sI m.2.2.2.1.1,sI m.2.2.1.2.2,sI m.2.2.1.2.1,sI m.2.2.1.1,sI m.2.1.2.2,sI m.2.1.2.1,sI m.2.1.1,sI m.1],[pG cV ([]:List Vec),pG cV o2],[]⟩:=by
 refine zi _ ⟨zu7,pvH_S,(32,2,0),(31,2,0),6000⟩ (T:=Int×(List Vec)) (fun t=>⟨32,[sI t.1,sI v13,sI v12.2.2,sI v12.2.1,sI v12.1,sI v11.2.2,sI v11.2.1,sI v11.1,sI v9,sI v8.2.2,sI v8.2.1,sI v8.1,sI v7.2.2,sI v7.2.1,sI v7.1,sI v6.2.2,sI v6.2.1,sI v6.1,sB v4,sB v2,sI v1,sI m.2.2.2.2,sI m.2.2.2.1.2.2,sI m.2.2.2.1.2.1,sI m.2.2.2.1.1,sI m.2.2.1.2.2,sI m.2.2.1.2.1,sI m.2.2.1.1,sI m.2.1.2.2,sI m.2.1.2.1,sI m.2.1.1,sI m.1],[pG cV ([]:List Vec),pG cV t.2],[]⟩) (fun (i,o)=>∃n:Nat,i=(n:Int) - 1∧n≤v9.toNat+1∧o++colR v6 v8 v12 v9.toNat n=o2) (fun (i,o)=>(i+1).toNat) (v9,([]:List Vec)) (hZ 31 [23]) [0,0] [] pvH_t mixed ⟨v9.toNat+1,by omega,Nat.le_refl _,hO⟩ rfl rfl rfl rfl (fun _=>rfl) rfl rfl (by kernel_rfl) ?_
 rintro ⟨i,o⟩ hJ
 dsimp only at hJ ⊢
 obtain ⟨n,hn,hn2,ho⟩:=hJ
 refine ai h3 ?_
 refine ai h5 ?_
 intro v501 e501
 refine ai (fun h502=>?_) fun h502=>?_
 ·
  obtain ⟨o3,hO_pvJ⟩:∃(o3:(List Vec)),o++rowR v6 v8 v12 v9.toNat i.toNat (v9.toNat+1) 0=o3:=⟨_,rfl⟩
  refine rx [] [pG cV o3] [] (zwy m v1 v2 v4 v6 v7 v8 v9 v11 v12 v13 i o v501 h3 h5 h502 o3  h9 (by have dh502:=LD e501 h502;omega) (by have hz:=congrArg List.length ho;rw [List.length_append] at hz;omega) hO_pvJ) ?_
  intro v503 e503
  refine nxl (v503,o3) ?_ ?_ rfl
  all_goals (have dh502:=LD e501 h502;obtain ⟨n,rfl⟩:∃k:Nat,n=k+1:=⟨n - 1,by omega⟩;have x3:v503=(n:Int) - 1:=(by rw [← e503,wri (by omega)];omega);rw [colR,← List.append_assoc,show n=i.toNat by omega,hO_pvJ,show i.toNat=n by omega] at ho)
  ·show (v503+1).toNat<(i+1).toNat
   omega
  ·exact ⟨n,x3,by omega,ho⟩
 ·
  have hq:((o)=o2)∧True:=by
   refine ⟨?_,trivial⟩
   (have dh502:=LE e501 h502;have hz:n=0:=(by omega);rw [hz,colR,List.append_nil] at ho;exact ho)
  obtain ⟨q0,-⟩:=hq
  rw [← q0]
  rfl
def zvQ:Tr:=.s [(3,.call 65 [.o (.g [0,1,2,3,4,5,6,7,8,9,10])] (.o .c)),(4,.bin .neq 37 11 (kI 0))] (.b 12 (.z (.ret false (LF (.k (.slice none 0 0))) [])) (.s [(0,.gh ⟨3,[.sl 3 (.o (.c (.k (.slice none 0 0)))),.gn 901],[.sl 3 (.o (.c (.gr 901))),.gl 901 26 3 0],[]⟩ 0),(8,.bin .neq 3 0 (kI 3))] (.b 13 (.s [(13,.call 63 [.o (.g [4,5,6]),.o (.g [1,2,3])] (.o (.g 3))),(14,.call 123 [.o (.g [14,15,16])] (.t [.g 3,.c])),(0,.lp pvK_S 0 0),(0,.gh ⟨10,.gl 901 26 3 1::[2].map (fun s=>.sl s (.o (.c (.gr 901)))),[2].map (fun s=>.sl s 21),[901]⟩ 1)] (.z (.ret false (21) []))) (.s [(10,.call 126 [.o (.g [0,1,2,3,4,5,6,7,8,9,10])] (.o (.g 3))),(16,.call 63 [.o (.g [1,2,3]),.o (.g [14,15,16])] (.o (.g 3))),(17,.call 123 [.o (.g [17,18,19])] (.t [.g 3,.c])),(27,.call 63 [.o (.g [4,5,6]),.o (.g [14,15,16])] (.o (.g 3))),(28,.call 123 [.o (.g [24,25,26])] (.t [.g 3,.c])),(0,.lp pvH_S 1 0),(0,.gh ⟨22,.gl 901 26 3 1::[2].map (fun s=>.sl s (.o (.c (.gr 901)))),[2].map (fun s=>.sl s 31),[901]⟩ 1)] (.z (.ret false (31) []))))))
theorem zwn {w0:World} (m:Mov) (r:List Vec) (hr:pathR m=r):Fun (KN w0) Tryz.prog 98 [.o (.g [pI m.1,pI m.2.1.1,pI m.2.1.2.1,pI m.2.1.2.2,pI m.2.2.1.1,pI m.2.2.1.2.1,pI m.2.2.1.2.2,pI m.2.2.2.1.1,pI m.2.2.2.1.2.1,pI m.2.2.2.1.2.2,pI m.2.2.2.2])] (.o (.c (pLs cV r))):=by
 refine tfn w0 98 ⟨[.o (.g [0,1,2,3,4,5,6,7,8,9,10])],[],[901],0,0⟩ ⟨11,[sI m.2.2.2.2,sI m.2.2.2.1.2.2,sI m.2.2.2.1.2.1,sI m.2.2.2.1.1,sI m.2.2.1.2.2,sI m.2.2.1.2.1,sI m.2.2.1.1,sI m.2.1.2.2,sI m.2.1.2.1,sI m.2.1.1,sI m.1],[],[]⟩ zvQ (by kernel_rfl) ?_
 obtain ⟨v1,e1⟩:=LX (chkM m)
 refine cx (.o (.c (sI v1))) (zuw m v1 e1) rfl ?_
 intro v2 e2
 refine ai (fun h3=>?_) fun h3=>?_
 ·
  intro hc
  refine Fun.fin (r:=.o (.c (pV (.slice none 0 0)))) (zc (hc)) (fun v W D h=>?_)
  have r0:r=([]:List Vec):=by
   (rw [← hr];unfold pathR;rw [if_pos (by rw [e1];exact bne_iff_ne.1 (e2.trans h3))])
  rw [r0];exact nil_V _ _ _ h
 ·
  refine rx [] [pG cV ([]:List Vec)] [] (fun t u w _=>zbT (c:=cV) rfl) ?_
  intro v4 e4
  refine ai (fun h5=>?_) fun h5=>?_
  ·
   obtain ⟨v6,e6⟩:=LX (subV m.2.2.1 m.2.1)
   refine cx (.o (.g [sI v6.1,sI v6.2.1,sI v6.2.2])) (zuG m.2.2.1 m.2.1 v6 e6) rfl ?_
   obtain ⟨v7,e7⟩:=LX ((primV v6).1)
   obtain ⟨v8,e8⟩:=LX ((primV v6).2)
   have s9:okV v6:=by (rw [← e6];exact zde _ _)
   refine cx (.t [.g [sI v7.1,sI v7.2.1,sI v7.2.2],.c (sI v8)]) (zvg v6 v7 v8 e7 e8 s9) rfl ?_
   obtain ⟨o2,hO_pvK⟩:∃(o2:(List Vec)),lineP m.2.1 v7 v8.toNat=o2:=⟨_,rfl⟩
   refine rx [] [pG cV o2] [] (zwB m v1 v2 v4 v6 v7 v8 h3 h5 o2  (by rw [← e8,← e6];have hi_:=zkB (show chkM m=0 by rw [e1];exact bne_eq_false_iff_eq.1 (e2.trans h3));have hl_:(primV (subV m.2.2.1 m.2.1)).2≤((48:Nat):Int):=zd8 (zge hi_.2.1 hi_.1);have hp_:=zqs (subV m.2.2.1 m.2.1);omega) hO_pvK) ?_
   refine rx [.ls 3 cV kV o2] [] [] (fun t u w _=>qS (c:=cV) (fun _=>rfl) (by decide) qy rfl rfl) ?_
   intro hc
   refine Fun.fin (r:=.o (.c (pLs cV o2))) (zc (hc)) (fun v W D h=>?_)
   have r0:r=o2:=by
    (rw [← hr];unfold pathR;rw [if_neg (fun e=>e (show chkM m=0 by rw [e1];exact bne_eq_false_iff_eq.1 (e2.trans h3))),if_pos (bne_iff_ne.1 (e4.trans h5)),e6,e7,e8];exact hO_pvK)
   rw [r0];exact h
  ·
   obtain ⟨v6,e6⟩:=LX (zuj m)
   refine cx (.o (.g [sI v6.1,sI v6.2.1,sI v6.2.2])) (zvY m v6 e6) rfl ?_
   obtain ⟨v7,e7⟩:=LX (subV m.2.1 v6)
   refine cx (.o (.g [sI v7.1,sI v7.2.1,sI v7.2.2])) (zuG m.2.1 v6 v7 e7) rfl ?_
   obtain ⟨v8,e8⟩:=LX ((primV v7).1)
   obtain ⟨v9,e9⟩:=LX ((primV v7).2)
   have s10:okV v7:=by (rw [← e7];exact zde _ _)
   refine cx (.t [.g [sI v8.1,sI v8.2.1,sI v8.2.2],.c (sI v9)]) (zvg v7 v8 v9 e8 e9 s10) rfl ?_
   obtain ⟨v11,e11⟩:=LX (subV m.2.2.1 v6)
   refine cx (.o (.g [sI v11.1,sI v11.2.1,sI v11.2.2])) (zuG m.2.2.1 v6 v11 e11) rfl ?_
   obtain ⟨v12,e12⟩:=LX ((primV v11).1)
   obtain ⟨v13,e13⟩:=LX ((primV v11).2)
   have s14:okV v11:=by (rw [← e11];exact zde _ _)
   refine cx (.t [.g [sI v12.1,sI v12.2.1,sI v12.2.2],.c (sI v13)]) (zvg v11 v12 v13 e12 e13 s14) rfl ?_
   obtain ⟨o2,hO_pvH⟩:∃(o2:(List Vec)),colR v6 v8 v12 v9.toNat (v9.toNat+1)=o2:=⟨_,rfl⟩
   refine rx [] [pG cV o2] [] (zwu m v1 v2 v4 v6 v7 v8 v9 v11 v12 v13 h3 h5 o2  (by have hs_:=zvc (show chkM m=0 by rw [e1];exact bne_eq_false_iff_eq.1 (e2.trans h3));have he_:v9=(sideA m).2:=(by rw [← e9,← e7,← e6,zuy (show chkM m=0 by rw [e1];exact bne_eq_false_iff_eq.1 (e2.trans h3))];rfl);omega) hO_pvH (by rw [← hO_pvH,zu4];have h9_:0≤v9∧v9≤48:=(by have hs_:=zvc (show chkM m=0 by rw [e1];exact bne_eq_false_iff_eq.1 (e2.trans h3));have he_:v9=(sideA m).2:=(by rw [← e9,← e7,← e6,zuy (show chkM m=0 by rw [e1];exact bne_eq_false_iff_eq.1 (e2.trans h3))];rfl);omega);exact Nat.le_trans zv6 (Nat.le_trans (Nat.mul_le_mul (show v9.toNat+1≤49 by omega) (show v9.toNat+1≤49 by omega)) (by omega)))) ?_
   refine rx [.ls 3 cV kV o2] [] [] (fun t u w _=>qS (c:=cV) (fun _=>rfl) (by decide) qy rfl rfl) ?_
   intro hc
   refine Fun.fin (r:=.o (.c (pLs cV o2))) (zc (hc)) (fun v W D h=>?_)
   have r0:r=o2:=by
    (rw [← hr];unfold pathR;rw [if_neg (fun e=>e (show chkM m=0 by rw [e1];exact bne_eq_false_iff_eq.1 (e2.trans h3))),if_neg (fun e=>e (bne_eq_false_iff_eq.1 (e4.trans h5))),e6,e7,e8,e9,e11,e12];exact hO_pvH)
   rw [r0];exact h
def zvw:Tr:=.s [(3,.call 98 [.o (.g [0,1,2,3,4,5,6,7,8,9,10])] (.o .c)),(4,.ln 35 3 11),(5,.bin .sub 3 12 (kI 1)),(0,.raw [(1000006,.op (.max [3,3] 3) [13,LF (.k (.int .i64 0))] [] 14)] 1)] (.z (.ret false (14) []))
theorem zuX {w0:World} (m:Mov) (r:Int) (hr:stepM m=r):Fun (KN w0) Tryz.prog 67 [.o (.g [pI m.1,pI m.2.1.1,pI m.2.1.2.1,pI m.2.1.2.2,pI m.2.2.1.1,pI m.2.2.1.2.1,pI m.2.2.1.2.2,pI m.2.2.2.1.1,pI m.2.2.2.1.2.1,pI m.2.2.2.1.2.2,pI m.2.2.2.2])] (.o (.c (pI r))):=by
 refine tfn w0 67 ⟨[.o (.g [0,1,2,3,4,5,6,7,8,9,10])],[],[],0,0⟩ ⟨11,[sI m.2.2.2.2,sI m.2.2.2.1.2.2,sI m.2.2.2.1.2.1,sI m.2.2.2.1.1,sI m.2.2.1.2.2,sI m.2.2.1.2.1,sI m.2.2.1.1,sI m.2.1.2.2,sI m.2.1.2.1,sI m.2.1.1,sI m.1],[],[]⟩ zvw (by kernel_rfl) ?_
 obtain ⟨v1,e1⟩:=LX (pathR m)
 refine cx (.o (.c (.ls 3 cV kV v1))) (zwn m v1 e1) rfl ?_
 intro v2 e2 v3 e3
 obtain ⟨v4,e4⟩:=LX ((if (0:Int) > v3 then (0:Int) else v3))
 refine rx [sI v4] [] [] (fun t u w=>⟨e_op2 (za rfl) zf (za rfl) (fun W=>by rw [← e4];exact zfZ W),trivial⟩) ?_
 intro hc
 refine Fun.fin (r:=.o (.c (pI v4))) (zc (hc)) (fun v W D h=>?_)
 have r0:r=v4:=by
  (rw [← hr,zjk,← zvn];have hl:=zwf m;rw [e1] at hl ⊢;have hw:v3=v2 - 1:=(by rw [← e3,wri (by omega)]);rw [← e4];split<;>omega)
 rw [r0];exact h
end Go.Proofs.YteimplkdcjapdaaGreatDoor
set_option synthInstance.maxSize 2000
set_option synthInstance.maxHeartbeats 400000
namespace Go.Proofs.YteimplkdcjapdaaGreatDoor
open Go.RowKit
def zun:List Atom:=[.sl 0 0,.sl 3 3]
def zut:LoopS:=⟨4,zun.map (tnA (jf [0,1,2,kI 0]) (kf []) (kf [])),(.x 0),(drs [1] zun)⟩
def zve:Tr:=.s [(0,.fb 2 false),(5002,.ln 36 3 0),(5003,.bin .lss 3 3 4)] (.b 5 (.s [(5006,.ia 36 45 11 0 3),(5007,.ld 45 11 6),(5008,.call 65 [.o (.g [7,8,9,10,11,12,13,14,15,16,17])] (.o .c)),(5011,.bin .neq 37 18 (kI 0))] (.b 19 (.z .no) (.s [(5013,.bin .gtr 3 3 (kI 0))] (.b 20 (.s [(5017,.ia 36 45 11 0 3),(5018,.fa 45 1 1 2 21),(5019,.ld 26 3 22),(5022,.bin .sub 3 3 (kI 1)),(5023,.ia 36 45 11 0 26),(5024,.fa 45 2 4 2 27),(5025,.ld 26 3 28),(0,.raw [(1005026,.bin .neq 26 (.o (.g [23,24,25])) (.o (.g [29,30,31])) 32)] 1)] (.b 32 (.z .no) (.s [(5029,.bin .add 3 3 (kI 1))] (.z (.nx [0,1,2,33] [] []))))) (.s [(5029,.bin .add 3 3 (kI 1))] (.z (.nx [0,1,2,21] [] []))))))) (.z (.xt (.x 0) [0,1,2] [] [])))
theorem zuZ {w0:World} (l:(List Mov)) (v1:Int) (v2:Bool) (h3:v2=false) (hb:l.length<9223372036854775808) (hO:ordL (prevO l 0) (l.drop 0)=0):LpH (KN w0) Tryz.prog 23 ⟨ntOf Tryz.prog 23,[],[]⟩ zut 0 ⟨3,[sB v2,sI v1,.ls 11 cM kM l],[],[]⟩:=by
 refine zi _ ⟨zun,zut,(4,0,0),(3,0,0),5000⟩ (T:=Int) (fun t=>⟨4,[sI t,sB v2,sI v1,.ls 11 cM kM l],[],[]⟩) (fun i=>∃k:Nat,i=(k:Int)∧k≤l.length∧ordL (prevO l k) (l.drop k)=0) (fun i=>((l.length:Int) - i).toNat) (0:Int) [0,1,2,kI 0] [] [] zve mixed ⟨0,rfl,Nat.zero_le _,hO⟩ rfl rfl rfl rfl (fun _=>rfl) rfl rfl (by kernel_rfl) ?_
 intro i hJ
 obtain ⟨k,hi,hk,hs⟩:=hJ
 refine ai h3 ?_
 intro v501 e501 v502 e502
 refine ai (fun h503=>?_) fun h503=>?_
 ·
  refine ai (by (have dh503:=LD e502 h503;have hz:=e501;have hlt:k<l.length:=(by omega);exact ⟨k,_,hi,List.getElem?_eq_getElem hlt⟩)) fun n504 x505 s506 s507=>?_
  obtain ⟨v508,e508⟩:=LX (chkM x505)
  refine cx (.o (.c (sI v508))) (zuw x505 v508 e508) rfl ?_
  intro v509 e509
  refine ai (fun h510=>?_) fun h510=>?_
  ·
   exfalso
   (have dh503:=LD e502 h503;have dh510:=bne_iff_ne.1 (e509.trans h510);have hz:=e501;have hkn:n504=k:=(by omega);subst hkn;have hlt:n504<l.length:=(List.getElem?_eq_some_iff.1 s507).1;have hd:=q6 s507;rw [hs] at hd;exfalso;first | omega | (split at hd<;>omega))
  ·
   intro v511 e511
   refine ai (fun h512=>?_) fun h512=>?_
   ·
    refine ai (by (have dh503:=LD e502 h503;have dh510:=bne_eq_false_iff_eq.1 (e509.trans h510);have dh512:=LD e511 h512;have hz:=e501;have hlt:k<l.length:=(by omega);exact ⟨k,_,hi,List.getElem?_eq_getElem hlt⟩)) fun n513 x514 s515 s516=>?_
    intro v517 e517
    refine ai (by (have dh503:=LD e502 h503;have dh510:=bne_eq_false_iff_eq.1 (e509.trans h510);have dh512:=LD e511 h512;have hz:=e501;have hw:v517=i - 1:=(by rw [← e517,wri (by omega)]);have hlt:k - 1<l.length:=(by omega);exact ⟨k - 1,_,by omega,List.getElem?_eq_getElem hlt⟩)) fun n518 x519 s520 s521=>?_
    obtain ⟨v522,e522⟩:=LX (!decide (x514.2.1=x519.2.2.1))
    refine rx [sB v522] [] [] (fun t u w=>⟨e_eqV (x:=x514.2.1) (y:=x519.2.2.1) (neg:=true) ⟨(za rfl),(za rfl),(za rfl),trivial⟩ ⟨(za rfl),(za rfl),(za rfl),trivial⟩ (za (by rw [e522];rfl)),trivial⟩) ?_
    refine ai (fun h523=>?_) fun h523=>?_
    ·
     exfalso
     (have dh503:=LD e502 h503;have dh510:=bne_eq_false_iff_eq.1 (e509.trans h510);have dh512:=LD e511 h512;have dh523:=(Bool.not_eq_true' _).mp (e522.trans h523);have hz:=e501;have hkn:n504=k:=(by omega);subst hkn;have hlt:n504<l.length:=(List.getElem?_eq_some_iff.1 s507).1;have hd:=q6 s507;rw [hs] at hd;have hn2:n513=n504:=(by omega);rw [hn2,s507] at s516;have hx2:=(Option.some.inj s516).symm;rw [hx2] at dh523;have hq:v517=i - 1:=(by rw [← e517,wri (by omega)]);have hp:=zcP (k:=n504) s521 (by omega);rw [hp] at hd;simp only [Option.all_some,dh523,if_true,Bool.false_eq_true,if_false] at hd;exfalso;first | omega | (split at hd<;>omega))
    ·
     intro v524 e524
     refine nxl v524 ?_ ?_ rfl
     all_goals (have dh503:=LD e502 h503;have dh510:=bne_eq_false_iff_eq.1 (e509.trans h510);have dh512:=LD e511 h512;have dh523:=(Bool.not_eq_false' _).mp (e522.trans h523);have hz:=e501;have hkn:n504=k:=(by omega);subst hkn;have hlt:n504<l.length:=(List.getElem?_eq_some_iff.1 s507).1;have hd:=q6 s507;rw [hs] at hd;have hn2:n513=n504:=(by omega);rw [hn2,s507] at s516;have hx2:=(Option.some.inj s516).symm;rw [hx2] at dh523;have hq:v517=i - 1:=(by rw [← e517,wri (by omega)]);have hp:=zcP (k:=n504) s521 (by omega);rw [hp] at hd;simp only [Option.all_some,dh523,if_true,Bool.false_eq_true,if_false] at hd;have x3:v524=((n504+1:Nat):Int):=(by rw [← e524,hi,wri (by omega)];omega);have hn:ordL (prevO l (n504+1)) (l.drop (n504+1))=0:=(by first | omega | (split at hd<;>omega)))
     ·show ((l.length:Int) - v524).toNat<((l.length:Int) - i).toNat
      omega
     ·exact ⟨n504+1,x3,by omega,hn⟩
   ·
    intro v513 e513
    refine nxl v513 ?_ ?_ rfl
    all_goals (have dh503:=LD e502 h503;have dh510:=bne_eq_false_iff_eq.1 (e509.trans h510);have dh512:=LE e511 h512;have hz:=e501;have hkn:n504=k:=(by omega);subst hkn;have hlt:n504<l.length:=(List.getElem?_eq_some_iff.1 s507).1;have hd:=q6 s507;rw [hs] at hd;have hp:=zfY (l:=l) (k:=n504) (by omega);rw [hp] at hd;simp only [Option.all_none,if_true] at hd;have x3:v513=((n504+1:Nat):Int):=(by rw [← e513,hi,wri (by omega)];omega);have hn:ordL (prevO l (n504+1)) (l.drop (n504+1))=0:=(by first | omega | (split at hd<;>omega)))
    ·show ((l.length:Int) - v513).toNat<((l.length:Int) - i).toNat
     omega
    ·exact ⟨n504+1,x3,by omega,hn⟩
 ·
  rfl
def zuo:List Atom:=[.sl 0 0,.sl 3 3]
def zuu:LoopS:=⟨4,zuo.map (tnA (jf [0,1,2,kI 0]) (kf []) (kf [])),.r,(drs [1] zuo)++[.sl 2 3]⟩
def zvf:Tr:=.s [(0,.fb 2 false),(5002,.ln 36 3 0),(5003,.bin .lss 3 3 4)] (.b 5 (.s [(5006,.ia 36 45 11 0 3),(5007,.ld 45 11 6),(5008,.call 65 [.o (.g [7,8,9,10,11,12,13,14,15,16,17])] (.o .c)),(5011,.bin .neq 37 18 (kI 0))] (.b 19 (.z (.xt .r [0,1,2,18] [] [])) (.s [(5013,.bin .gtr 3 3 (kI 0))] (.b 20 (.s [(5017,.ia 36 45 11 0 3),(5018,.fa 45 1 1 2 21),(5019,.ld 26 3 22),(5022,.bin .sub 3 3 (kI 1)),(5023,.ia 36 45 11 0 26),(5024,.fa 45 2 4 2 27),(5025,.ld 26 3 28),(0,.raw [(1005026,.bin .neq 26 (.o (.g [23,24,25])) (.o (.g [29,30,31])) 32)] 1)] (.b 32 (.z (.xt .r [0,1,2,kI 7] [] [])) (.s [(5029,.bin .add 3 3 (kI 1))] (.z (.nx [0,1,2,33] [] []))))) (.s [(5029,.bin .add 3 3 (kI 1))] (.z (.nx [0,1,2,21] [] []))))))) (.z .no))
theorem zu0 {w0:World} (l:(List Mov)) (v1:Int) (v2:Bool) (h3:v2=false) (o:Int) (hb:l.length<9223372036854775808) (hO:ordL (prevO l 0) (l.drop 0)=o) (ho:o≠0):LpH (KN w0) Tryz.prog 23 ⟨ntOf Tryz.prog 23,[],[]⟩ zuu 0 ⟨4,[sI o,sB v2,sI v1,.ls 11 cM kM l],[],[]⟩:=by
 refine zi _ ⟨zuo,zuu,(4,0,0),(4,0,0),5000⟩ (T:=Int) (fun t=>⟨4,[sI t,sB v2,sI v1,.ls 11 cM kM l],[],[]⟩) (fun i=>∃k:Nat,i=(k:Int)∧k≤l.length∧ordL (prevO l k) (l.drop k)=o) (fun i=>((l.length:Int) - i).toNat) (0:Int) [0,1,2,kI 0] [] [] zvf mixed ⟨0,rfl,Nat.zero_le _,hO⟩ rfl rfl rfl rfl (fun _=>rfl) rfl rfl (by kernel_rfl) ?_
 intro i hJ
 obtain ⟨k,hi,hk,hs⟩:=hJ
 refine ai h3 ?_
 intro v501 e501 v502 e502
 refine ai (fun h503=>?_) fun h503=>?_
 ·
  refine ai (by (have dh503:=LD e502 h503;have hz:=e501;have hlt:k<l.length:=(by omega);exact ⟨k,_,hi,List.getElem?_eq_getElem hlt⟩)) fun n504 x505 s506 s507=>?_
  obtain ⟨v508,e508⟩:=LX (chkM x505)
  refine cx (.o (.c (sI v508))) (zuw x505 v508 e508) rfl ?_
  intro v509 e509
  refine ai (fun h510=>?_) fun h510=>?_
  ·
   have hq:((v508)=o)∧True:=by
    refine ⟨?_,trivial⟩
    (have dh503:=LD e502 h503;have dh510:=bne_iff_ne.1 (e509.trans h510);have hz:=e501;have hkn:n504=k:=(by omega);subst hkn;have hlt:n504<l.length:=(List.getElem?_eq_some_iff.1 s507).1;have hd:=q6 s507;rw [hs] at hd;first | omega | (split at hd<;>omega))
   obtain ⟨q0,-⟩:=hq
   rw [← q0]
   rfl
  ·
   intro v511 e511
   refine ai (fun h512=>?_) fun h512=>?_
   ·
    refine ai (by (have dh503:=LD e502 h503;have dh510:=bne_eq_false_iff_eq.1 (e509.trans h510);have dh512:=LD e511 h512;have hz:=e501;have hlt:k<l.length:=(by omega);exact ⟨k,_,hi,List.getElem?_eq_getElem hlt⟩)) fun n513 x514 s515 s516=>?_
    intro v517 e517
    refine ai (by (have dh503:=LD e502 h503;have dh510:=bne_eq_false_iff_eq.1 (e509.trans h510);have dh512:=LD e511 h512;have hz:=e501;have hw:v517=i - 1:=(by rw [← e517,wri (by omega)]);have hlt:k - 1<l.length:=(by omega);exact ⟨k - 1,_,by omega,List.getElem?_eq_getElem hlt⟩)) fun n518 x519 s520 s521=>?_
    obtain ⟨v522,e522⟩:=LX (!decide (x514.2.1=x519.2.2.1))
    refine rx [sB v522] [] [] (fun t u w=>⟨e_eqV (x:=x514.2.1) (y:=x519.2.2.1) (neg:=true) ⟨(za rfl),(za rfl),(za rfl),trivial⟩ ⟨(za rfl),(za rfl),(za rfl),trivial⟩ (za (by rw [e522];rfl)),trivial⟩) ?_
    refine ai (fun h523=>?_) fun h523=>?_
    ·
     have hq:(((7:Int))=o)∧True:=by
      refine ⟨?_,trivial⟩
      (have dh503:=LD e502 h503;have dh510:=bne_eq_false_iff_eq.1 (e509.trans h510);have dh512:=LD e511 h512;have dh523:=(Bool.not_eq_true' _).mp (e522.trans h523);have hz:=e501;have hkn:n504=k:=(by omega);subst hkn;have hlt:n504<l.length:=(List.getElem?_eq_some_iff.1 s507).1;have hd:=q6 s507;rw [hs] at hd;have hn2:n513=n504:=(by omega);rw [hn2,s507] at s516;have hx2:=(Option.some.inj s516).symm;rw [hx2] at dh523;have hq:v517=i - 1:=(by rw [← e517,wri (by omega)]);have hp:=zcP (k:=n504) s521 (by omega);rw [hp] at hd;simp only [Option.all_some,dh523,if_true,Bool.false_eq_true,if_false] at hd;first | omega | (split at hd<;>omega))
     obtain ⟨q0,-⟩:=hq
     rw [← q0]
     rfl
    ·
     intro v524 e524
     refine nxl v524 ?_ ?_ rfl
     all_goals (have dh503:=LD e502 h503;have dh510:=bne_eq_false_iff_eq.1 (e509.trans h510);have dh512:=LD e511 h512;have dh523:=(Bool.not_eq_false' _).mp (e522.trans h523);have hz:=e501;have hkn:n504=k:=(by omega);subst hkn;have hlt:n504<l.length:=(List.getElem?_eq_some_iff.1 s507).1;have hd:=q6 s507;rw [hs] at hd;have hn2:n513=n504:=(by omega);rw [hn2,s507] at s516;have hx2:=(Option.some.inj s516).symm;rw [hx2] at dh523;have hq:v517=i - 1:=(by rw [← e517,wri (by omega)]);have hp:=zcP (k:=n504) s521 (by omega);rw [hp] at hd;simp only [Option.all_some,dh523,if_true,Bool.false_eq_true,if_false] at hd;have x3:v524=((n504+1:Nat):Int):=(by rw [← e524,hi,wri (by omega)];omega);have hn:ordL (prevO l (n504+1)) (l.drop (n504+1))=o:=(by first | omega | (split at hd<;>omega)))
     ·show ((l.length:Int) - v524).toNat<((l.length:Int) - i).toNat
      omega
     ·exact ⟨n504+1,x3,by omega,hn⟩
   ·
    intro v513 e513
    refine nxl v513 ?_ ?_ rfl
    all_goals (have dh503:=LD e502 h503;have dh510:=bne_eq_false_iff_eq.1 (e509.trans h510);have dh512:=LE e511 h512;have hz:=e501;have hkn:n504=k:=(by omega);subst hkn;have hlt:n504<l.length:=(List.getElem?_eq_some_iff.1 s507).1;have hd:=q6 s507;rw [hs] at hd;have hp:=zfY (l:=l) (k:=n504) (by omega);rw [hp] at hd;simp only [Option.all_none,if_true] at hd;have x3:v513=((n504+1:Nat):Int):=(by rw [← e513,hi,wri (by omega)];omega);have hn:ordL (prevO l (n504+1)) (l.drop (n504+1))=o:=(by first | omega | (split at hd<;>omega)))
    ·show ((l.length:Int) - v513).toNat<((l.length:Int) - i).toNat
     omega
    ·exact ⟨n504+1,x3,by omega,hn⟩
 ·
  exfalso
  (have dh503:=LE e502 h503;have hz:=e501;have hkl:k=l.length:=(by omega);rw [hkl] at hs;exact absurd (hs.symm.trans (zqr rfl)) ho)
def zvR:Tr:=.s [(2,.ln 36 3 0),(3,.bin .gtr 3 1 (kI 40))] (.b 2 (.z (.ret false (LF (kI 2)) [])) (.r (.s [(0,.lp zut 0 0)] (.z (.ret false (LF (kI 0)) []))) (.s [(0,.lp zuu 0 1)] (.z (.ret false (3) [])))))
theorem zuU {w0:World} (l:List Mov) (r:Int) (hr:chkP l=r) (hb_:l.length<9223372036854775808):Fun (KN w0) Tryz.prog 23 [.o (.c (pLs cM l))] (.o (.c (pI r))):=by
 refine tfn w0 23 ⟨[0],[],[],0,0⟩ ⟨1,[.ls 11 cM kM l],[],[]⟩ zvR (by kernel_rfl) ?_
 intro v1 e1 v2 e2
 refine ai (fun h3=>?_) fun h3=>?_
 ·
  intro hc
  refine Fun.fin (r:=.o (.c (pV (.int .i64 2)))) (zc (hc)) (fun v W D h=>?_)
  have r0:r=(2:Int):=by
   (have dh3:=LD e2 h3;rw [← hr];unfold chkP;rw [if_pos (by omega)])
  rw [r0];exact h
 ·
  by_cases c4:ordL (prevO l 0) (l.drop 0)=0
  ·
   refine Or.inl ?_
   refine rx [] [] [] (zuZ l v1 v2 h3   hb_ c4  ) ?_
   intro hc
   refine Fun.fin (r:=.o (.c (pV (.int .i64 0)))) (zc (hc)) (fun v W D h=>?_)
   have r0:r=(0:Int):=by
    (have dh3:=LE e2 h3;rw [← hr];unfold chkP;rw [if_neg (by omega)];exact c4)
   rw [r0];exact h
  ·
   refine Or.inr ?_
   obtain ⟨o,hO_t_rpchk_B⟩:∃(o:Int),ordL (prevO l 0) (l.drop 0)=o∧o≠0:=⟨_,rfl,by simpa using c4⟩
   refine rx [sI o] [] [] (zu0 l v1 v2 h3 o  hb_ hO_t_rpchk_B.1 hO_t_rpchk_B.2  ) ?_
   intro hc
   refine Fun.fin (r:=.o (.c (pI o))) (zc (hc)) (fun v W D h=>?_)
   have r0:r=o:=by
    (have dh3:=LE e2 h3;rw [← hr];unfold chkP;rw [if_neg (by omega)];exact hO_t_rpchk_B.1)
   rw [r0];exact h
def zvb:List Atom:=[.sl 0 0,.sl 2 (.o (.c (.k (.int .i64 0)))),.sl 3 4,.sl 4 3]
def pvS_S:LoopS:=⟨5,zvb.map (tnA (jf [0,1,2,kI 0,kI 0]) (kf []) (kf [])),(.x 0),(drs [3] zvb).map (tnA (jf (hZ 4 [3])) (kf []) (kf []))⟩
def pvS_t:Tr:=.s [(0,.fb 2 false),(5002,.ln 36 3 0),(5003,.bin .lss 3 3 5)] (.b 6 (.s [(5007,.ia 36 45 11 0 3),(5008,.ld 45 11 7),(5009,.call 67 [.o (.g [8,9,10,11,12,13,14,15,16,17,18])] (.o .c)),(5010,.bin .add 3 4 19),(5013,.bin .add 3 3 (kI 1))] (.z (.nx [0,1,2,21,20] [] []))) (.z (.xt (.x 0) [0,1,2,4] [] [])))
theorem zwD {w0:World} (l:(List Mov)) (v1:Int) (v3:Bool) (h4:v3=false) (o:Int) (hb:l.length≤40) (hO:sumM l=o):LpH (KN w0) Tryz.prog 25 ⟨ntOf Tryz.prog 25,[],[]⟩ pvS_S 0 ⟨4,[sI o,sB v3,sI v1,.ls 11 cM kM l],[],[]⟩:=by
 refine zi _ ⟨zvb,pvS_S,(5,0,0),(4,0,0),5000⟩ (T:=Int×Int) (fun t=>⟨5,[sI t.2,sI t.1,sB v3,sI v1,.ls 11 cM kM l],[],[]⟩) (fun (i,n)=>∃k:Nat,i=(k:Int)∧k≤l.length∧0≤n∧n≤48*(k:Int)∧n+sumM (l.drop k)=o) (fun (i,n)=>((l.length:Int) - i).toNat) ((0:Int),(0:Int)) [0,1,2,kI 0,kI 0] [] [] pvS_t mixed ⟨0,rfl,Nat.zero_le _,by decide,by decide,by rw [List.drop_zero,Int.zero_add];exact hO⟩ rfl rfl rfl rfl (fun _=>rfl) rfl rfl (by kernel_rfl) ?_
 rintro ⟨i,n⟩ hJ
 dsimp only at hJ ⊢
 obtain ⟨k,hi,hk,hn0,hn1,hs⟩:=hJ
 refine ai h4 ?_
 intro v501 e501 v502 e502
 refine ai (fun h503=>?_) fun h503=>?_
 ·
  refine ai (by (have dh503:=LD e502 h503;have hz:=e501;have hlt:k<l.length:=(by omega);exact ⟨k,_,hi,List.getElem?_eq_getElem hlt⟩)) fun n504 x505 s506 s507=>?_
  obtain ⟨v508,e508⟩:=LX (stepM x505)
  refine cx (.o (.c (sI v508))) (zuX x505 v508 e508) rfl ?_
  intro v509 e509 v510 e510
  refine nxl (v510,v509) ?_ ?_ rfl
  all_goals (have dh503:=LD e502 h503;have hz:=e501;have hkn:n504=k:=(by omega);subst hkn;have hlt:n504<l.length:=(List.getElem?_eq_some_iff.1 s507).1;have hd:=zoj s507;have hst:=zsT x505;have x3:v510=((n504+1:Nat):Int):=(by rw [← e510,hi,wri (by omega)];omega);have x4:v509=n+v508:=(by rw [← e509,wri (by omega)]))
  ·show ((l.length:Int) - v510).toNat<((l.length:Int) - i).toNat
   omega
  ·exact ⟨n504+1,x3,by omega,by omega,by omega,by omega⟩
 ·
  have hq:((n)=o)∧True:=by
   refine ⟨?_,trivial⟩
   (have dh503:=LE e502 h503;have hz:=e501;have hkl:k=l.length:=(by omega);rw [hkl,List.drop_length,sumM] at hs;omega)
  obtain ⟨q0,-⟩:=hq
  rw [← q0]
  rfl
def zvh:Tr:=.s [(2,.call 23 [0] (.o .c)),(3,.bin .neq 37 1 (kI 0))] (.b 2 (.z (.ret false (LF (kI 0)) [])) (.s [(0,.lp pvS_S 0 1)] (.z (.ret false (3) []))))
theorem zux {w0:World} (l:List Mov) (r:Int) (hr:zjl l=r) (hb:l.length<9223372036854775808):Fun (KN w0) Tryz.prog 25 [.o (.c (pLs cM l))] (.o (.c (pI r))):=by
 refine tfn w0 25 ⟨[0],[],[],0,0⟩ ⟨1,[.ls 11 cM kM l],[],[]⟩ zvh (by kernel_rfl) ?_
 obtain ⟨v1,e1⟩:=LX (chkP l)
 have s2:l.length<9223372036854775808:=by exact hb
 refine cx (.o (.c (sI v1))) (zuU l v1 e1 s2) rfl ?_
 intro v3 e3
 refine ai (fun h4=>?_) fun h4=>?_
 ·
  intro hc
  refine Fun.fin (r:=.o (.c (pV (.int .i64 0)))) (zc (hc)) (fun v W D h=>?_)
  have r0:r=(0:Int):=by
   (have dh4:=bne_iff_ne.1 (e3.trans h4);rw [← hr];unfold zjl;rw [e1];rw [if_neg (by omega)])
  rw [r0];exact h
 ·
  obtain ⟨o,hO_pvS⟩:∃(o:Int),sumM l=o:=⟨_,rfl⟩
  refine rx [sI o] [] [] (zwD l v1 v3 h4 o  (zer (e1.trans (bne_eq_false_iff_eq.1 (e3.trans h4)))) hO_pvS) ?_
  intro hc
  refine Fun.fin (r:=.o (.c (pI o))) (zc (hc)) (fun v W D h=>?_)
  have r0:r=o:=by
   (have dh4:=bne_eq_false_iff_eq.1 (e3.trans h4);rw [← hr];unfold zjl;rw [e1];rw [if_pos (by omega)];exact hO_pvS)
  rw [r0];exact h
def zul:List Atom:=[.sl 0 0,.sl 1 6,.sl 7 5]
def zur:LoopS:=⟨4,zul.map (tnA (jf (hZ 5 [kI 0,1])) (kf []) (kf [])),(.x 0),(drs [1,2] zul)⟩
def zu1:Tr:=.s [(0,.fb 3 false),(0,.fb 4 false),(5002,.ln 36 3 0),(5003,.bin .lss 3 5 7)] (.b 8 (.s [(5006,.ia 36 45 11 0 5),(5007,.ld 45 11 9),(5008,.call 67 [.o (.g [10,11,12,13,14,15,16,17,18,19,20])] (.o .c)),(5012,.bin .leq 3 6 21)] (.b 22 (.z .no) (.s [(5015,.bin .sub 3 6 21),(5018,.bin .add 3 5 (kI 1))] (.z (.nx (hZ 5 [24,23]) [] []))))) (.z (.xt (.x 0) (hZ 5 []) [] [])))
theorem zuV {w0:World} (l:(List Mov)) (s:Int) (v1:Int) (v3:Bool) (v5:Bool) (h4:v3=false) (h6:v5=false) (hb:l.length≤40) (hS:0≤s∧s<9223372036854775808) (hO:findL 0 (l.drop 0) s=((0:Int),(0:Int),false)):LpH (KN w0) Tryz.prog 27 ⟨ntOf Tryz.prog 27,[],[]⟩ zur 0 ⟨5,[sB v5,sB v3,sI v1,sI s,.ls 11 cM kM l],[],[]⟩:=by
 refine zi _ ⟨zul,zur,(7,0,0),(5,0,0),5000⟩ (T:=Int×Int) (fun t=>⟨7,[sI t.2,sI t.1,sB v5,sB v3,sI v1,sI s,.ls 11 cM kM l],[],[]⟩) (fun (i,st)=>∃k:Nat,i=(k:Int)∧k≤l.length∧-100000≤st∧st<9223372036854775808∧(k=0∨0≤st)∧findL k (l.drop k) st=((0:Int),(0:Int),false)) (fun (i,st)=>((l.length:Int) - i).toNat) ((0:Int),s) (hZ 5 [kI 0,1]) [] [] zu1 mixed ⟨0,rfl,Nat.zero_le _,by omega,hS.2,.inl rfl,hO⟩ rfl rfl rfl rfl (fun _=>rfl) rfl rfl (by kernel_rfl) ?_
 rintro ⟨i,st⟩ hJ
 dsimp only at hJ ⊢
 obtain ⟨k,hi,hk,hs0,hs1,hs2,hs⟩:=hJ
 refine ai h4 ?_
 refine ai h6 ?_
 intro v501 e501 v502 e502
 refine ai (fun h503=>?_) fun h503=>?_
 ·
  refine ai (by (have dh503:=LD e502 h503;have hz:=e501;have hlt:k<l.length:=(by omega);exact ⟨k,_,hi,List.getElem?_eq_getElem hlt⟩)) fun n504 x505 s506 s507=>?_
  obtain ⟨v508,e508⟩:=LX (stepM x505)
  refine cx (.o (.c (sI v508))) (zuX x505 v508 e508) rfl ?_
  intro v509 e509
  refine ai (fun h510=>?_) fun h510=>?_
  ·
   exfalso
   (have dh503:=LD e502 h503;have dh510:=LD e509 h510;have hz:=e501;have hkn:n504=k:=(by omega);subst hkn;have hlt:n504<l.length:=(List.getElem?_eq_some_iff.1 s507).1;have hd:=zbQ s507 st;have hst:=zsT x505;rw [hs] at hd;rw [if_pos (by omega)] at hd;exact absurd (congrArg (fun p=>p.2.2) hd) (by simp))
  ·
   intro v511 e511 v512 e512
   refine nxl (v512,v511) ?_ ?_ rfl
   all_goals (have dh503:=LD e502 h503;have dh510:=LE e509 h510;have hz:=e501;have hkn:n504=k:=(by omega);subst hkn;have hlt:n504<l.length:=(List.getElem?_eq_some_iff.1 s507).1;have hd:=zbQ s507 st;have hst:=zsT x505;rw [hs] at hd;rw [if_neg (by omega)] at hd;have x3:v512=((n504+1:Nat):Int):=(by rw [← e512,hi,wri (by omega)];omega);have x4:v511=st - stepM x505:=(by rw [← e511,e508,wri (by omega)]))
   ·show ((l.length:Int) - v512).toNat<((l.length:Int) - i).toNat
    omega
   ·exact ⟨n504+1,x3,by omega,by omega,by omega,.inr (by omega),by rw [x4];exact hd.symm⟩
 ·
  rfl
def zum:List Atom:=[.sl 0 0,.sl 1 6,.sl 7 5]
def zus:LoopS:=⟨4,zum.map (tnA (jf (hZ 5 [kI 0,1])) (kf []) (kf [])),.r,(drs [1,2] zum)++[.sl 4 5,.sl 5 6,.sl 6 7]⟩
def zu2:Tr:=.s [(0,.fb 3 false),(0,.fb 4 false),(5002,.ln 36 3 0),(5003,.bin .lss 3 5 7)] (.b 8 (.s [(5006,.ia 36 45 11 0 5),(5007,.ld 45 11 9),(5008,.call 67 [.o (.g [10,11,12,13,14,15,16,17,18,19,20])] (.o .c)),(5012,.bin .leq 3 6 21)] (.b 22 (.z (.xt .r (hZ 7 [kB true]) [] [])) (.s [(5015,.bin .sub 3 6 21),(5018,.bin .add 3 5 (kI 1))] (.z (.nx (hZ 5 [24,23]) [] []))))) (.z .no))
theorem zuW {w0:World} (l:(List Mov)) (s:Int) (v1:Int) (v3:Bool) (v5:Bool) (h4:v3=false) (h6:v5=false) (o1:Int) (o2:Int) (o3:Bool) (hb:l.length≤40) (hS:0≤s∧s<9223372036854775808) (hO:findL 0 (l.drop 0) s=(o1,o2,o3)) (ho:(o1,o2,o3)≠((0:Int),(0:Int),false)):LpH (KN w0) Tryz.prog 27 ⟨ntOf Tryz.prog 27,[],[]⟩ zus 0 ⟨8,[sB o3,sI o2,sI o1,sB v5,sB v3,sI v1,sI s,.ls 11 cM kM l],[],[]⟩:=by
 refine zi _ ⟨zum,zus,(7,0,0),(8,0,0),5000⟩ (T:=Int×Int) (fun t=>⟨7,[sI t.2,sI t.1,sB v5,sB v3,sI v1,sI s,.ls 11 cM kM l],[],[]⟩) (fun (i,st)=>∃k:Nat,i=(k:Int)∧k≤l.length∧-100000≤st∧st<9223372036854775808∧(k=0∨0≤st)∧findL k (l.drop k) st=(o1,o2,o3)) (fun (i,st)=>((l.length:Int) - i).toNat) ((0:Int),s) (hZ 5 [kI 0,1]) [] [] zu2 mixed ⟨0,rfl,Nat.zero_le _,by omega,hS.2,.inl rfl,hO⟩ rfl rfl rfl rfl (fun _=>rfl) rfl rfl (by kernel_rfl) ?_
 rintro ⟨i,st⟩ hJ
 dsimp only at hJ ⊢
 obtain ⟨k,hi,hk,hs0,hs1,hs2,hs⟩:=hJ
 refine ai h4 ?_
 refine ai h6 ?_
 intro v501 e501 v502 e502
 refine ai (fun h503=>?_) fun h503=>?_
 ·
  refine ai (by (have dh503:=LD e502 h503;have hz:=e501;have hlt:k<l.length:=(by omega);exact ⟨k,_,hi,List.getElem?_eq_getElem hlt⟩)) fun n504 x505 s506 s507=>?_
  obtain ⟨v508,e508⟩:=LX (stepM x505)
  refine cx (.o (.c (sI v508))) (zuX x505 v508 e508) rfl ?_
  intro v509 e509
  refine ai (fun h510=>?_) fun h510=>?_
  ·
   have hq:((i)=o1)∧((st)=o2)∧((true)=o3)∧True:=by
    refine ⟨?_,?_,?_,trivial⟩
    all_goals (have dh503:=LD e502 h503;have dh510:=LD e509 h510;have hz:=e501;have hkn:n504=k:=(by omega);subst hkn;have hlt:n504<l.length:=(List.getElem?_eq_some_iff.1 s507).1;have hd:=zbQ s507 st;have hst:=zsT x505;rw [hs] at hd;rw [if_pos (by omega)] at hd;simp only [Prod.mk.injEq] at hd;obtain ⟨q1,q2,q3⟩:=hd;first | (rw [q1];exact hi) | exact q2.symm | exact q3.symm | (constructor<;>simp_all))
   obtain ⟨q0,q1,q2,-⟩:=hq
   rw [← q0,← q1,← q2]
   rfl
  ·
   intro v511 e511 v512 e512
   refine nxl (v512,v511) ?_ ?_ rfl
   all_goals (have dh503:=LD e502 h503;have dh510:=LE e509 h510;have hz:=e501;have hkn:n504=k:=(by omega);subst hkn;have hlt:n504<l.length:=(List.getElem?_eq_some_iff.1 s507).1;have hd:=zbQ s507 st;have hst:=zsT x505;rw [hs] at hd;rw [if_neg (by omega)] at hd;have x3:v512=((n504+1:Nat):Int):=(by rw [← e512,hi,wri (by omega)];omega);have x4:v511=st - stepM x505:=(by rw [← e511,e508,wri (by omega)]))
   ·show ((l.length:Int) - v512).toNat<((l.length:Int) - i).toNat
    omega
   ·exact ⟨n504+1,x3,by omega,by omega,by omega,.inr (by omega),by rw [x4];exact hd.symm⟩
 ·
  exfalso
  (have dh503:=LE e502 h503;have hz:=e501;have hkl:k=l.length:=(by omega);rw [hkl,List.drop_length,findL] at hs;exact absurd hs.symm ho)
def zvv:Tr:=.s [(4,.call 23 [0] (.o .c)),(5,.bin .neq 37 2 (kI 0))] (.b 3 (.z (.ret false (.t [.c (kI 0),.c (kI 0),.c (kB false)]) [])) (.s [(8,.bin .lss 3 1 (kI 0))] (.b 4 (.z (.ret false (.t [.c (kI 0),.c (kI 0),.c (kB false)]) [])) (.r (.s [(0,.lp zur 0 0)] (.z (.ret false (.t [.c (kI 0),.c (kI 0),.c (kB false)]) []))) (.s [(0,.lp zus 0 3)] (.z (.ret false (.t [5,6,7]) [])))))))
theorem zvr {w0:World} (l:List Mov) (s:Int) (r1 r2:Int) (r3:Bool) (h1:(findP l s).1=r1) (h2:(findP l s).2.1=r2) (h3:(findP l s).2.2=r3) (hb:l.length<9223372036854775808) (hs_:s<9223372036854775808):Fun (KN w0) Tryz.prog 27 [.o (.c (pLs cM l)),.o (.c (pI s))] (.t [.c (pI r1),.c (pI r2),.c (pB r3)]):=by
 refine tfn w0 27 ⟨[0,1],[],[],0,0⟩ ⟨2,[sI s,.ls 11 cM kM l],[],[]⟩ zvv (by kernel_rfl) ?_
 obtain ⟨v1,e1⟩:=LX (chkP l)
 have s2:l.length<9223372036854775808:=by exact hb
 refine cx (.o (.c (sI v1))) (zuU l v1 e1 s2) rfl ?_
 intro v3 e3
 refine ai (fun h4=>?_) fun h4=>?_
 ·
  intro hc
  refine Fun.fin (r:=.t [.c (pV (.int .i64 0)),.c (pV (.int .i64 0)),.c (pV (.bool false))]) (zc (hc)) (fun v W D h=>?_)
  have r0:r1=(0:Int):=by
   (have dh4:=bne_iff_ne.1 (e3.trans h4);have hz:findP l s=((0:Int),(0:Int),false):=(by unfold findP;rw [e1,if_neg (by omega)]);rw [hz] at h1 h2 h3;first | exact h1.symm | exact h2.symm | exact h3.symm)
  have r1:r2=(0:Int):=by
   (have dh4:=bne_iff_ne.1 (e3.trans h4);have hz:findP l s=((0:Int),(0:Int),false):=(by unfold findP;rw [e1,if_neg (by omega)]);rw [hz] at h1 h2 h3;first | exact h1.symm | exact h2.symm | exact h3.symm)
  have r2:r3=false:=by
   (have dh4:=bne_iff_ne.1 (e3.trans h4);have hz:findP l s=((0:Int),(0:Int),false):=(by unfold findP;rw [e1,if_neg (by omega)]);rw [hz] at h1 h2 h3;first | exact h1.symm | exact h2.symm | exact h3.symm)
  rw [r0,r1,r2];exact h
 ·
  intro v5 e5
  refine ai (fun h6=>?_) fun h6=>?_
  ·
   intro hc
   refine Fun.fin (r:=.t [.c (pV (.int .i64 0)),.c (pV (.int .i64 0)),.c (pV (.bool false))]) (zc (hc)) (fun v W D h=>?_)
   have r0:r1=(0:Int):=by
    (have dh4:=bne_eq_false_iff_eq.1 (e3.trans h4);have dh6:=LD e5 h6;have hz:findP l s=((0:Int),(0:Int),false):=(by unfold findP;rw [e1,if_neg (by omega)]);rw [hz] at h1 h2 h3;first | exact h1.symm | exact h2.symm | exact h3.symm)
   have r1:r2=(0:Int):=by
    (have dh4:=bne_eq_false_iff_eq.1 (e3.trans h4);have dh6:=LD e5 h6;have hz:findP l s=((0:Int),(0:Int),false):=(by unfold findP;rw [e1,if_neg (by omega)]);rw [hz] at h1 h2 h3;first | exact h1.symm | exact h2.symm | exact h3.symm)
   have r2:r3=false:=by
    (have dh4:=bne_eq_false_iff_eq.1 (e3.trans h4);have dh6:=LD e5 h6;have hz:findP l s=((0:Int),(0:Int),false):=(by unfold findP;rw [e1,if_neg (by omega)]);rw [hz] at h1 h2 h3;first | exact h1.symm | exact h2.symm | exact h3.symm)
   rw [r0,r1,r2];exact h
  ·
   by_cases c4:findL 0 (l.drop 0) s=((0:Int),(0:Int),false)
   ·
    refine Or.inl ?_
    refine rx [] [] [] (zuV l s v1 v3 v5 h4 h6   (zer (e1.trans (bne_eq_false_iff_eq.1 (e3.trans h4)))) ⟨by have:=LE e5 h6;omega,hs_⟩ c4) ?_
    intro hc
    refine Fun.fin (r:=.t [.c (pV (.int .i64 0)),.c (pV (.int .i64 0)),.c (pV (.bool false))]) (zc (hc)) (fun v W D h=>?_)
    have r0:r1=(0:Int):=by
     (have dh4:=bne_eq_false_iff_eq.1 (e3.trans h4);have dh6:=LE e5 h6;have hz:=c4;have hy:findP l s=findL 0 (l.drop 0) s:=(by unfold findP;rw [e1,if_pos (by omega)];rfl);rw [hy,hz] at h1 h2 h3;first | exact h1.symm | exact h2.symm | exact h3.symm)
    have r1:r2=(0:Int):=by
     (have dh4:=bne_eq_false_iff_eq.1 (e3.trans h4);have dh6:=LE e5 h6;have hz:=c4;have hy:findP l s=findL 0 (l.drop 0) s:=(by unfold findP;rw [e1,if_pos (by omega)];rfl);rw [hy,hz] at h1 h2 h3;first | exact h1.symm | exact h2.symm | exact h3.symm)
    have r2:r3=false:=by
     (have dh4:=bne_eq_false_iff_eq.1 (e3.trans h4);have dh6:=LE e5 h6;have hz:=c4;have hy:findP l s=findL 0 (l.drop 0) s:=(by unfold findP;rw [e1,if_pos (by omega)];rfl);rw [hy,hz] at h1 h2 h3;first | exact h1.symm | exact h2.symm | exact h3.symm)
    rw [r0,r1,r2];exact h
   ·
    refine Or.inr ?_
    obtain ⟨o1,o2,o3,hO_t_rpfind_B⟩:∃(o1:Int) (o2:Int) (o3:Bool),findL 0 (l.drop 0) s=(o1,o2,o3)∧(o1,o2,o3)≠((0:Int),(0:Int),false):=⟨(findL 0 (l.drop 0) s).1,(findL 0 (l.drop 0) s).2.1,(findL 0 (l.drop 0) s).2.2,rfl,c4⟩
    refine rx [sI o1,sI o2,sB o3] [] [] (zuW l s v1 v3 v5 h4 h6 o1 o2 o3  (zer (e1.trans (bne_eq_false_iff_eq.1 (e3.trans h4)))) ⟨by have:=LE e5 h6;omega,hs_⟩ hO_t_rpfind_B.1 hO_t_rpfind_B.2) ?_
    intro hc
    refine Fun.fin (r:=.t [.c (pI o1),.c (pI o2),.c (pB o3)]) (zc (hc)) (fun v W D h=>?_)
    have r0:r1=o1:=by
     (have dh4:=bne_eq_false_iff_eq.1 (e3.trans h4);have dh6:=LE e5 h6;have hz:=hO_t_rpfind_B.1;have hy:findP l s=findL 0 (l.drop 0) s:=(by unfold findP;rw [e1,if_pos (by omega)];rfl);rw [hy,hz] at h1 h2 h3;first | exact h1.symm | exact h2.symm | exact h3.symm)
    have r1:r2=o2:=by
     (have dh4:=bne_eq_false_iff_eq.1 (e3.trans h4);have dh6:=LE e5 h6;have hz:=hO_t_rpfind_B.1;have hy:findP l s=findL 0 (l.drop 0) s:=(by unfold findP;rw [e1,if_pos (by omega)];rfl);rw [hy,hz] at h1 h2 h3;first | exact h1.symm | exact h2.symm | exact h3.symm)
    have r2:r3=o3:=by
     (have dh4:=bne_eq_false_iff_eq.1 (e3.trans h4);have dh6:=LE e5 h6;have hz:=hO_t_rpfind_B.1;have hy:findP l s=findL 0 (l.drop 0) s:=(by unfold findP;rw [e1,if_pos (by omega)];rfl);rw [hy,hz] at h1 h2 h3;first | exact h1.symm | exact h2.symm | exact h3.symm)
    rw [r0,r1,r2];exact h
end Go.Proofs.YteimplkdcjapdaaGreatDoor
