/-
  Merged: PlOp, PmT, PmA, PmB, PlOq, PmC, PmD, PcA, PcB, PsA, PsB, PsC, PnA, PnB, PnC.
-/
import Derived.Test.YteimplkdcjapdaaGreatDoorPqA
import Derived.Test.YteimplkdcjapdaaGreatDoorPqV
import Derived.SizedLaws
import Derived.OpenShut
import Derived.Carry
import Derived.LaidMore
import Derived.Lay
import Derived.Stop.Joined
import Derived.Stop.LaidErr
import Derived.LaidLaws
import Derived.Lib.LaidTab
import Derived.Lib.AppendIntMem
import Derived.Lib.SmallJoins
import Derived.ChangeMaps5
import Derived.Test.YteimplkdcjapdaaGreatDoorPqU
import Derived.Test.YteimplkdcjapdaaGreatDoorPqS
import Derived.Lib.Hide
set_option linter.unusedSimpArgs false
set_option linter.unusedVariables false
set_option linter.unusedSectionVars false
set_option maxRecDepth 100000
set_option maxHeartbeats 8000000
namespace Go.Proofs.YteimplkdcjapdaaGreatDoor
open Go.ChangeShapes Go.WideShapes Go.ChangeAt Go.RowKit Go.Joins Go.Deep
def old (W:World):Dat:=fun q=>q<W.heap.size
theorem zqi {W:World} {f:FuncId} {sh:List PSh} {args:Array Value} (hF:Fun (KN W) Tryz.prog f sh (.o (.c (pV (.bool true))))) (hs:oka sh args.toList W (old W)) :
  Calls Tryz.prog f args W fun e W'=>e=.returned (.bool true)∧Below W.heap.size W W':=by
 have:=hF W (old W) args.toList hs ⟨Below.refl _ _,fun q h=>h,fun q h=>h⟩
 rw [Array.toArray_toList] at this
 refine this.mono fun e W' hr=>?_
 obtain ⟨v,D',rfl,hv,hk⟩:=hr
 have hv':v=.bool true:=hv
 subst hv'
 exact ⟨rfl,hk.bel⟩
section
variable {H:Type} {enc:TypeId×Value→H}
theorem zmU {a:Assume} {C:Checked} {os:Os} {f:FuncId} {fn:Func} {s:ChangeSpec} {conds:List PathCond} {apart fresh handsOn again:Bool} {X:World→Array Value→Prop}
  (hX:∀(w w':World) (args:Array Value),w.heap=w'.heap→X w args→X w' args)
  (own:ownKnob C.prog.godebug=none) (started:os.Started) (noInit:C.prog.inits.idxOf? f=none) (hfn:C.prog.funcs[f]?=some fn)
  (witness:∃(w:World) (tape:Tape) (i:Input),w.os=os∧(w.forCall tape i).Shaped C.prog∧i.vars=[]∧Input.okWide C.prog (w.forCall tape i) .any w.heap.size f i ∧
   ((s.pre enc C.prog fn conds apart (w.forCall tape i).memory i.args∧X (w.forCall tape i).memory i.args)∧sizedMet enc C.prog fn (OpenSpec.ofChange s) apart (w.forCall tape i).memory i.args)∧a.holds C.prog (lone (Frame.enter C.prog f i.args .normal) [] (w.forCall tape i)))
  (contract:∀(W:World) (base:Nat) (args:Array Value) (ds gs:List (DataW H)) (before:List MemPlace),
   (∀(j:Nat) t v,fn.params[j]?=some t→args[j]?=some v→Value.okWide C.prog W .any base t v) →
   DataW.Whole enc C.prog fn.params.toList s.vars apart W args.toList ds gs before→X W args →
   (∀(j:Nat) t d,fn.params.toList[j]?=some t→ds[j]?=some d→∀n∈d.weights C.prog t,n≤reachBytes)→W.ShapedOpen C.prog →
   Calls C.prog f args W fun e W'=>∃v,e=.returned v∧s.post enc C.prog fn apart fresh handsOn again W args v W') :
  ReturnsInHanded a C os f .any (fun w args=>(s.pre enc C.prog fn conds apart w args∧X w args)∧sizedMet enc C.prog fn (OpenSpec.ofChange s) apart w args) (s.post enc C.prog fn apart fresh handsOn again):=by
 refine returnsInHanded_of_calls own started noInit witness ?_
 intro w tape i _ hsh _ hok hpre _
 obtain ⟨_,_,_,fn',hfn',_,_,_,_,hval⟩:=hok
 have e:fn'=fn:=Option.some.inj (hfn'.symm.trans hfn)
 subst e
 obtain ⟨⟨⟨ds,gs,before,hw,_⟩,hx⟩,hz⟩:=hpre
 have hw':=DataW.Whole.of_heap (w':=w.forCall tape i) (by rfl) hw
 refine (contract (w.forCall tape i) w.heap.size i.args ds gs before hval hw' (hX _ _ _ (by rfl) hx) ?_ hsh).mono fun e W' ⟨v,he,hp⟩=>?_
 ·intro j t d ht hd n hn
  have:=List.all_eq_true.1 (hz.weights hw) _ (DataW.weights_mem_each (j:=j) (by
   rw [List.getElem?_append_left (List.getElem?_eq_some_iff.1 ht).1];exact ht) (by
   rw [List.getElem?_append_left (List.getElem?_eq_some_iff.1 hd).1];exact hd) n hn)
  simpa using this
 ·subst he
  exact ChangeSpec.post_blind hp
end
theorem zbn:Tryz.prog.cellsOf 3=1:=by kernel_rfl
theorem znm:Tryz.prog.cellsOf 24=1:=by kernel_rfl
theorem zp3:Tryz.prog.cellsOf 9=1:=by kernel_rfl
theorem zeR {P:Program} {w:World} {r:Reach} {b0:Nat} {fs:Array Field} {t:TypeId} {v:Value} (ht:P.underlying t=some (.struct fs)) (h:Value.okWide P w r b0 t v):∃cs,v=.agg cs∧cs.size=P.cellsOf t:=by
 simp only [Value.okWide,ht] at h
 obtain ⟨cs,h1,h2,_⟩:=h
 exact ⟨cs,h1,h2⟩
section
variable {H:Type} {enc:TypeId×Value→H} {held:Bool} {w:World} {base:Nat} {v:Value} {d:DataW H} {p:List MemPlace}
def Opens (enc:TypeId×Value→H) (held:Bool) (w:World) (e:TypeId) {α:Type} (c:α→List Pred) (ok:DataW H→α→Prop):Prop:=
 ∀(fuel:Nat) (cs:List Value) (y:DataW H×List MemPlace),DataW.trod enc Tryz.prog w 0 (fun _=>true) held fuel e cs=some y→∃x:α,ok y.1 x∧okl (c x) cs w (old w)
theorem zdg {t:TypeId} {k:IntKind} (ht:Tryz.prog.underlying t=some (.int k)):Opens enc held w t (fun n:Int=>[pV (.int k n)]) (fun d n=>d=.lit (.int k n)∧(Lit.int k n).wf=true):=by
 intro fuel cs y h
 obtain ⟨n,rfl,rfl,hw⟩:=DataW.trod_int ht h
 exact ⟨n,⟨rfl,hw⟩,rfl,trivial⟩
theorem zr6 {t:TypeId} (ht:Tryz.prog.underlying t=some .string):Opens enc held w t (fun s:List UInt8=>[pS s]) (fun d s=>d=.lit (.string s)∧s.length≤maxLen):=by
 intro fuel cs y h
 obtain ⟨s,rfl,rfl,hw⟩:=DataW.trod_string ht h
 exact ⟨s.data.toList,⟨rfl,hw⟩,rfl,trivial⟩
theorem znQ {W:World} {D:Dat} {ps qs:List Pred} {vs:List Value} {k:Nat} (h:okp ps vs W D) (hk:ps.length=k) (h2:okl qs ((vs.drop k).take qs.length) W D):okp (ps++qs) vs W D:=by
 subst hk
 unfold okp at h ⊢
 rw [List.length_append,List.take_add]
 exact qB h h2
theorem znP {W:World} {D:Dat} {ps:List Pred} {vs us:List Value} (h:okl ps us W D) (he:∀i,i<ps.length→vs[i]?=us[i]?):okl ps (vs.take ps.length) W D:=by
 have hl:=zK h
 have e:vs.take ps.length=us:=by
  apply List.ext_getElem?
  intro i
  rw [List.getElem?_take]
  split
  ·exact he i ‹_›
  ·rw [List.getElem?_eq_none (by omega)]
 rw [e];exact h
theorem zsL {W:World} {D:Dat} {ps qs:List Pred} {cs:List Value} {o z:Nat} (h:okl ps (cs.take o) W D) (h2:okl qs ((cs.drop o).take z) W D):okl (ps++qs) (cs.take (o+z)) W D:=by
 rw [List.take_add];exact qB h h2
inductive F2 {α β:Type} (R:α→β→Prop):List α→List β→Prop
 | nil:F2 R [] []
 | cons {a b l k}:R a b→F2 R l k→F2 R (a::l) (b::k)
def SlOk {α:Type} (ok:DataW H→α→Prop) (d:DataW H) (l:List α):Prop:=
 ((d=.nil∧l=[])∨∃ds sp,d=.slice ds sp∧F2 ok ds l)∧l.length≤maxLen
theorem zaK {α β:Type} {R:α→β→Prop}:∀{l:List α} {k:List β} {a:α} {b:β},F2 R l k→R a b→F2 R (l++[a]) (k++[b])
 | [],[],_,_,_,h=>.cons h .nil
 | _::_,_::_,_,_,.cons h1 h2,h=>.cons h1 (zaK h2 h)
theorem zi7 {t e:TypeId} {α:Type} {c:α→List Pred} {ok:DataW H→α→Prop} {z:Nat} (ht:Tryz.prog.underlying t=some (.slice e)) (hc:Tryz.prog.cellsOf e=z) (h0:0<z) (hz:∀x,(c x).length=z) (he:Opens enc held w e c ok) :
  Opens enc held w t (fun l:List α=>[pLs c l]) (SlOk ok):=by
 intro fuel cs y h
 rcases DataW.trod_slice ht h with ⟨rfl,rfl⟩ | ⟨a,len,cap,elems,rest,n,_,rfl,rfl,_,hl,hm,hlen,hel,_,_⟩
 ·exact ⟨[],⟨.inl ⟨rfl,rfl⟩,Nat.zero_le _⟩,.inl ⟨⟨_,_,rfl⟩,rfl,rfl⟩,trivial⟩
 rw [hc] at hel
 have each:∀i (hi:i<elems.length),∃(x:α) (us:List Value),ok elems[i].1 x∧okl (c x) us w (old w)∧∀j,j<z→w.cell? ((a.add (i*z)).add j)=us[j]?:=by
  intro i hi
  have h1:=hel i (by omega)
  rw [List.getElem?_eq_getElem hi,Option.bind_eq_some_iff] at h1
  obtain ⟨us,hus,h2⟩:=h1
  obtain ⟨x,hx,hok⟩:=he n us _ h2
  obtain ⟨_,hul,hcell⟩:=World.cells?_some hus
  exact ⟨x,us,hx,hok,fun j hj=>hcell j hj⟩
 rcases Nat.eq_zero_or_pos len with h00 | h00
 ·subst h00
  have e0:elems=[]:=List.eq_nil_of_length_eq_zero hlen
  subst e0
  exact ⟨[],⟨.inr ⟨_,_,rfl,.nil⟩,Nat.zero_le _⟩,.inl ⟨⟨_,_,rfl⟩,rfl,rfl⟩,trivial⟩
 obtain ⟨q,o,sp⟩:=a
 obtain ⟨x0,us0,_,ho0,hc0⟩:=each 0 (by omega)
 have hl0:=zK ho0
 rw [hz] at hl0
 have h1:w.cell? ⟨q,o,sp⟩=some us0[0]:=by
  have:=hc0 0 h0
  rw [List.getElem?_eq_getElem (by omega)] at this
  simpa [Addr.add] using this
 have hsp:sp=none:=by
  cases sp with
  | none=>rfl
  | some x =>
   unfold World.cell? at h1
   dsimp only at h1
   split at h1<;>simp at h1
 subst hsp
 have hblk:∃vs T fz,w.heap[q]?=some (.cells vs T fz):=by
  unfold World.cell? at h1
  dsimp only at h1
  split at h1
  ·rename_i cs T fz hh
   exact ⟨cs,T,fz,hh⟩
  ·cases h1
 obtain ⟨vs,T,fz,hh⟩:=hblk
 have hq:q<w.heap.size:=(Array.getElem?_eq_some_iff.1 hh).1
 have hcell:∀i j,(⟨q,o,none⟩:Addr).add i=⟨q,o+i,none⟩∧w.cell? (((⟨q,o,none⟩:Addr).add i).add j)=vs.toList[o+i+j]?:=by
  intro i j
  rw [show (⟨q,o,none⟩:Addr).add i=⟨q,o+i,none⟩ from qW ..,show (⟨q,o+i,none⟩:Addr).add j=⟨q,o+i+j,none⟩ from qW ..,zq hh]
  exact ⟨rfl,by rw [Array.getElem?_toList]⟩
 have build:∀m,m≤elems.length→∃l:List α,l.length=m∧F2 ok ((elems.map (·.1)).take m) l∧okp (l.flatMap c) (vs.toList.drop o) w (old w):=by
  intro m
  induction m with
  | zero=>intro _;exact ⟨[],rfl,by rw [List.take_zero];exact .nil,trivial⟩
  | succ m ih =>
   intro hm1
   obtain ⟨l,h2,h3,h4⟩:=ih (by omega)
   obtain ⟨x,us,hx,hok,hcl⟩:=each m (by omega)
   refine ⟨l++[x],by rw [List.length_append,h2];rfl,?_,?_⟩
   ·rw [List.take_add_one,List.getElem?_map,List.getElem?_eq_getElem (by omega)]
    exact zaK h3 hx
   ·rw [List.flatMap_append,List.flatMap_cons,List.flatMap_nil,List.append_nil]
    refine znQ (k:=m*z) h4 (by rw [qC hz,h2]) (znP hok fun i hi=>?_)
    rw [hz] at hi
    rw [List.drop_drop,List.getElem?_drop,← hcl i hi,(hcell (m*z) i).2]
 obtain ⟨l,h2,h3,h4⟩:=build elems.length (Nat.le_refl _)
 rw [List.take_of_length_le (by simp)] at h3
 exact ⟨l,⟨.inr ⟨_,_,rfl,h3⟩,by omega⟩,.inr ⟨q,o,cap,T,vs,fz,by rw [h2,hlen],hq,hh,h4,by omega⟩,trivial⟩
theorem zar {e:TypeId} {α:Type} {c:α→List Pred} {ok:DataW H→α→Prop} {n o z i:Nat} {cs:List Value} {xs:List (DataW H×List MemPlace)} (he:Opens enc held w e c ok) (hz:Tryz.prog.cellsOf e=z) (h:DataW.trod enc Tryz.prog w 0 (fun _=>true) held n e ((cs.drop o).take (Tryz.prog.cellsOf e))=xs[i]?) (hi:i<xs.length) :
  ∃x,ok xs[i].1 x∧okl (c x) ((cs.drop o).take z) w (old w):=by
 rw [List.getElem?_eq_getElem hi,hz] at h
 exact he _ _ _ h
theorem zqq:Opens enc held w 24 (fun l:List Int=>[pLs cI l]) (SlOk fun d n=>d=.lit (.int .i64 n)∧(Lit.int .i64 n).wf=true):=zi7 (c:=cI) Tryz.underlying24 zbn (by decide) (fun _=>rfl) (zdg Tryz.underlying3)
theorem znV {t:TypeId} {α:Type} {c:α→Pred} {ok:DataW H→α→Prop} (h:Opens enc held w t (fun x=>[c x]) ok) (h1:v.cells=#[v]) (hd:DataW.Trod enc Tryz.prog w 0 (fun _=>true) held t v d p):∃x,ok d x∧c x v w (old w):=by
 obtain ⟨fuel,hf⟩:=hd
 rw [h1] at hf
 obtain ⟨x,hx,ho⟩:=h _ _ _ hf
 exact ⟨x,hx,ho.1⟩
theorem znU {t:TypeId} {α:Type} {c:α→List Pred} {ok:DataW H→α→Prop} {cs:Array Value} (h:Opens enc held w t c ok) (hd:DataW.Trod enc Tryz.prog w 0 (fun _=>true) held t (.agg cs) d p):∃x,ok d x∧(PSh.o (.g (c x))).ok (.agg cs) w (old w):=by
 obtain ⟨fuel,hf⟩:=hd
 obtain ⟨x,hx,ho⟩:=h _ _ _ hf
 exact ⟨x,hx,_,rfl,ho⟩
end
section
variable {H:Type} {enc:TypeId×Value→H} {held:Bool} {w:World} {base:Nat} {v:Value} {d:DataW H} {p:List MemPlace}
theorem zr7:Opens enc held w 26 (fun x:Vec=>[pI x.1,pI x.2.1,pI x.2.2]) (fun _ _=>True):=by
 intro fuel cs y h
 obtain ⟨xs,n,_,rfl,hl,hlen,hf⟩:=DataW.trod_struct Tryz.underlying26 h
 rw [show Tryz.prog.cellsOf 26=3 by kernel_rfl] at hl
 have hlen2:xs.length=3:=hlen
 match xs,hlen2 with
 | [y0,y1,y2],_ =>
 obtain ⟨a,_,oa⟩:=zar (z:=1) (zdg Tryz.underlying3) zbn (hf 0 _ rfl) (by simp)
 obtain ⟨b,_,ob⟩:=zar (z:=1) (zdg Tryz.underlying3) zbn (hf 1 _ rfl) (by simp)
 obtain ⟨c,_,oc⟩:=zar (z:=1) (zdg Tryz.underlying3) zbn (hf 2 _ rfl) (by simp)
 refine ⟨(a,b,c),trivial,?_⟩
 have:=zsL (z:=1) (zsL (z:=1) (zsL (z:=1) (ps:=[]) (o:=0) trivial oa) ob) oc
 rw [List.take_of_length_le (by omega)] at this
 exact this
theorem zr5 {t e:TypeId} {α:Type} {c:α→List Pred} {ok:DataW H→α→Prop} {n z:Nat} (ht:Tryz.prog.underlying t=some (.array n e)) (hc:Tryz.prog.cellsOf e=z) (hct:Tryz.prog.cellsOf t=n*z) (he:Opens enc held w e c ok) :
  Opens enc held w t (fun l:List α=>l.flatMap c) (fun d l=>l.length=n∧∃ds,d=.agg ds∧F2 ok ds l):=by
 intro fuel cs y h
 obtain ⟨xs,m,_,rfl,hl,hlen,hf⟩:=DataW.trod_array ht h
 rw [hct] at hl
 rw [hc] at hf
 have build:∀k,k≤n→∃l:List α,l.length=k∧F2 ok ((xs.map (·.1)).take k) l∧okl (l.flatMap c) (cs.take (k*z)) w (old w):=by
  intro k
  induction k with
  | zero=>intro _;exact ⟨[],rfl,by rw [List.take_zero];exact .nil,by rw [Nat.zero_mul,List.take_zero];trivial⟩
  | succ k ih =>
   intro hk
   obtain ⟨l,h2,h3,h4⟩:=ih (by omega)
   have hx:=hf k (by omega)
   rw [List.getElem?_eq_getElem (by omega)] at hx
   obtain ⟨x,hok,ho⟩:=he _ _ _ hx
   refine ⟨l++[x],by rw [List.length_append,h2];rfl,?_,?_⟩
   ·rw [List.take_add_one,List.getElem?_map,List.getElem?_eq_getElem (by omega)]
    exact zaK h3 hok
   ·rw [List.flatMap_append,List.flatMap_cons,List.flatMap_nil,List.append_nil,Nat.succ_mul]
    exact zsL h4 ho
 obtain ⟨l,h2,h3,h4⟩:=build n (Nat.le_refl _)
 rw [List.take_of_length_le (by simp;omega)] at h3
 rw [List.take_of_length_le (by omega)] at h4
 exact ⟨l,⟨h2,_,rfl,h3⟩,h4⟩
theorem zqp:Opens enc held w 162 cFm (fun d x=>d=.agg [.lit (.int .i64 x.1),.lit (.int .i64 x.2.1),.lit (.string x.2.2.1),.lit (.int .i64 x.2.2.2)]):=by
 intro fuel cs y h
 obtain ⟨xs,n,_,rfl,hl,hlen,hf⟩:=DataW.trod_struct Tryz.underlying162 h
 rw [show Tryz.prog.cellsOf 162=4 by kernel_rfl] at hl
 have hlen2:xs.length=4:=hlen
 match xs,hlen2 with
 | [y0,y1,y2,y3],_ =>
 obtain ⟨a,ha,oa⟩:=zar (z:=1) (zdg Tryz.underlying3) zbn (hf 0 _ rfl) (by simp)
 obtain ⟨b,hb,ob⟩:=zar (z:=1) (zdg Tryz.underlying3) zbn (hf 1 _ rfl) (by simp)
 obtain ⟨c,hc,oc⟩:=zar (z:=1) (zr6 Tryz.underlying9) zp3 (hf 2 _ rfl) (by simp)
 obtain ⟨e,he,oe⟩:=zar (z:=1) (zdg Tryz.underlying3) zbn (hf 3 _ rfl) (by simp)
 have ha':y0.1=.lit (.int .i64 a):=ha.1
 have hb':y1.1=.lit (.int .i64 b):=hb.1
 have hc':y2.1=.lit (.string c):=hc.1
 have he':y3.1=.lit (.int .i64 e):=he.1
 refine ⟨(a,b,c,e),?_,?_⟩
 ·simp [ha',hb',hc',he']
 have:=zsL (z:=1) (zsL (z:=1) (zsL (z:=1) (zsL (z:=1) (ps:=[]) (o:=0) trivial oa) ob) oc) oe
 rw [List.take_of_length_le (by omega)] at this
 exact this
theorem znS:Opens enc held w 163 (fun l:List Frmt=>l.flatMap cFm) (fun d l=>l.length=7∧∃ds,d=.agg ds∧F2 (fun d x=>d=.agg [.lit (.int .i64 x.1),.lit (.int .i64 x.2.1),.lit (.string x.2.2.1),.lit (.int .i64 x.2.2.2)]) ds l):=zr5 (n:=7) (z:=4) Tryz.underlying163 (by kernel_rfl) (by kernel_rfl) zqp
end
def laidL : List (String × DataW Unit) := [("unicode/utf8.acceptRanges", Rows.laid_unicode_utf8_acceptRanges), ("collet/program.forms", Rows.laid_collet_program_forms), ("unicode/utf8.first", Rows.laid_unicode_utf8_first)]
theorem gFms : Tryz.prog.globalNamed "collet/program.forms" = some 0 := by kernel_rfl
theorem tFms:(Tryz.prog.globals[0]?).map (·.type)=some 163:=by kernel_rfl
theorem znG {W:World} (h:W.ShapedOpen Tryz.prog):∃m,W.cell? ⟨1,0,none⟩=some (.int .i64 m):=by
 obtain ⟨m,hm⟩:=Tryz.laysM219.s1_3 W h
 exact ⟨m,hm⟩
theorem znB {W:World} (hW:W.ShapedOpen Tryz.prog) (h:laidMetH Tryz.prog laidL W):LibP W:=by
 rw [MakeChecks.laidMetH_plain _ _ _ (by kernel_rfl)] at h
 refine ⟨znG hW,?_⟩
 obtain ⟨ps,⟨g0,t0,cs0,f0,p0,q0,hg0,ht0,hv0,hd0,_,e0⟩,_,_⟩:=h.tail
 obtain rfl:=Option.some.inj (gFms.symm.trans hg0)
 obtain rfl:=Option.some.inj (tFms.symm.trans ht0)
 obtain ⟨l,hl,ho⟩:=znS _ _ _ hd0
 have e:l=zg:=by
  obtain ⟨_,ds,h1,hf⟩:=hl
  simp only [Rows.laid_collet_program_forms,DataW.agg.injEq] at h1
  subst h1
  match l,hf with
  | [a,b,c,d,e,f,g],.cons h1 (.cons h2 (.cons h3 (.cons h4 (.cons h5 (.cons h6 (.cons h7 .nil)))))) =>
   obtain ⟨a1,a2,a3,a4⟩:=a
   obtain ⟨b1,b2,b3,b4⟩:=b
   obtain ⟨c1,c2,c3,c4⟩:=c
   obtain ⟨d1,d2,d3,d4⟩:=d
   obtain ⟨e1,e2,e3,e4⟩:=e
   obtain ⟨f1,f2,f3,f4⟩:=f
   obtain ⟨g1,g2,g3,g4⟩:=g
   simp at h1 h2 h3 h4 h5 h6 h7
   obtain ⟨rfl,rfl,rfl,rfl⟩:=h1
   obtain ⟨rfl,rfl,rfl,rfl⟩:=h2
   obtain ⟨rfl,rfl,rfl,rfl⟩:=h3
   obtain ⟨rfl,rfl,rfl,rfl⟩:=h4
   obtain ⟨rfl,rfl,rfl,rfl⟩:=h5
   obtain ⟨rfl,rfl,rfl,rfl⟩:=h6
   obtain ⟨rfl,rfl,rfl,rfl⟩:=h7
   rfl
 subst e
 have hlen:=zK ho
 have hz:(zg.flatMap cFm).length=28:=by decide
 simp only [World.var?,gFms,Option.bind_some] at hv0
 split at hv0
 ·rename_i vs T fz hh
  obtain rfl:=Option.some.inj hv0
  refine .inr ⟨0,0,7,T,vs,fz,rfl,(Array.getElem?_eq_some_iff.1 hh).1,hh,?_,by decide⟩
  unfold okp
  rw [List.drop_zero,← hlen,List.take_length]
  exact ho
 ·cases hv0
theorem znr (os:Os) (args:Array Value):laidMetH Tryz.prog laidL ((World.laidAll Tryz.prog os laidL).forCall (fun _ _=>0) ⟨#[],args,[]⟩).memory:=by
 rw [MakeChecks.laidMetH_plain _ _ _ (by kernel_rfl)]
 exact laidMet_laidAll _ (by kernel_rfl) (by kernel_rfl)
end Go.Proofs.YteimplkdcjapdaaGreatDoor
set_option synthInstance.maxSize 2000
set_option synthInstance.maxHeartbeats 400000
namespace Go.Proofs.YteimplkdcjapdaaGreatDoor
open Go.RowKit
def zrs:Tr:=.s [(2,.bin .lss 3 1 (kI 1))] (.b 2 (.z (.ret false (LF (kI 0)) [])) (.s [(5,.dv .rem 3 0 1),(7,.bin .add 3 3 1),(9,.dv .rem 3 4 1)] (.z (.ret false (5) []))))
theorem x_mod {w0:World} (n m:Int) (r:Int) (hr:modX n m=r):Fun (KN w0) Tryz.prog 14 [.o (.c (pI n)),.o (.c (pI m))] (.o (.c (pI r))):=by
 refine tfn w0 14 ⟨[0,1],[],[],0,0⟩ ⟨2,[sI m,sI n],[],[]⟩ zrs (by kernel_rfl) ?_
 intro v1 e1
 refine ai (fun h2=>?_) fun h2=>?_
 ·
  intro hc
  refine Fun.fin (r:=.o (.c (pV (.int .i64 0)))) (zc (hc)) (fun v W D h=>?_)
  have r0:r=(0:Int):=by
   (have dh2:=LD e1 h2;rw [← hr];unfold modX;rw [if_pos (by omega)])
  rw [r0];exact h
 ·
  have s4:m≠0:=by first | (simp_all;done) | (simp_all;omega)
  refine ai s4 fun v3 e3=>?_
  intro v5 e5
  have s7:m≠0:=by first | (simp_all;done) | (simp_all;omega)
  refine ai s7 fun v6 e6=>?_
  intro hc
  refine Fun.fin (r:=.o (.c (pI v6))) (zc (hc)) (fun v W D h=>?_)
  have r0:r=v6:=by
   (have dh2:=LE e1 h2;rw [← hr];unfold modX;rw [if_neg (by omega)];simp_all)
  rw [r0];exact h
def posA (l r:List Int):Int:=(l.length:Int) - r.length
theorem zaO {l r:List Int} {v:Int} (h:r <:+ l) (hv:posA l r=v):l.drop v.toNat=r∧0≤v∧v≤l.length:=by
 obtain ⟨t,rfl⟩:=h
 unfold posA at hv
 rw [List.length_append] at hv
 obtain rfl:v=t.length:=by omega
 exact ⟨by rw [Int.toNat_natCast,List.drop_left],by omega,by rw [List.length_append];omega⟩
theorem qf (l:List Int) (n:Int):(drawX l n).2 <:+ l:=by
 cases l with
 | nil=>exact List.suffix_refl _
 | cons x r=>exact List.suffix_cons ..
theorem zkJ {l:List Int} {n:Nat} {x m:Int} (h:l[n]?=some x):drawX (l.drop n) m=(modX x m,l.drop (n+1)):=by
 obtain ⟨hk,rfl⟩:=List.getElem?_eq_some_iff.1 h
 rw [List.drop_eq_getElem_cons hk];rfl
theorem ziu {l:List Int} {n:Nat} (m:Int) (h:l.length≤n):drawX (l.drop n) m=(0,[]):=by rw [List.drop_of_length_le h];rfl
def zoN:Tr:=.s [(9,.ln 24 3 0),(10,.bin .geq 3 1 3)] (.b 4 (.z (.ret false (LF (kI 0)) [.bx 900 92 [.h 0,.h 1]])) (.s [(15,.bin .add 3 1 (kI 1)),(27,.bin .sub 3 5 (kI 1)),(28,.ia 24 3 1 0 6),(29,.ld 3 0 7),(31,.call 14 [8,2] (.o .c))] (.z (.ret false (9) [.bx 900 92 [.h 0,.h 5]]))))
theorem zsG {w0:World} (l:List Int) (a n:Int) (r p:Int) (hr:(drawX (l.drop a.toNat) n).1=r) (hp:posA l (drawX (l.drop a.toNat) n).2=p) (ha:0≤a∧a≤l.length) (hl:l.length<9223372036854775807):BFun false (KN w0) Tryz.prog 50 [.o (.c (.p 0 0)),.o (.c (.d (pI n)))] [(92,[.d (pLs cI l),.d (pI a)])] (.o (.c (.d (pI r)))) [(92,[.d (pLs cI l),.d (pI p)])]:=by
 refine tfn w0 50 ⟨[LF (.p 900 0),2],[.bx 900 92 [.h 0,.h 1]],[],0,0⟩ ⟨3,[sI n,sI a,.ls 1 cI kIc l],[],[]⟩ zoN (by kernel_rfl) ?_
 intro v1 e1 v2 e2
 refine ai (fun h3=>?_) fun h3=>?_
 ·
  intro hc
  have r0:r=(0:Int):=by
   (have dh3:=LD e2 h3;have hzv1:=e1;rw [ziu _ (by omega)] at hr hp;first | exact hr.symm | (rw [← hp];unfold posA;simp;omega))
  have r1:p=a:=by
   (have dh3:=LD e2 h3;have hzv1:=e1;rw [ziu _ (by omega)] at hr hp;first | exact hr.symm | (rw [← hp];unfold posA;simp;omega))
  rw [r0,r1];exact con_b (pan:=false) (hc)
 ·
  intro v4 e4 v5 e5
  refine ai (by (have dh3:=LE e2 h3;have hzv1:=e1;have qv4:v4=a+1:=(by rw [← e4,wri (by omega)]);have qv5:v5=a:=(by rw [← e5,wri (by omega)];omega);exact ⟨a.toNat,_,by omega,List.getElem?_eq_getElem (by omega)⟩)) fun n6 x7 s8 s9=>?_
  obtain ⟨v10,e10⟩:=LX (modX x7 n)
  refine cx (.o (.c (sI v10))) (x_mod x7 n v10 e10) rfl ?_
  intro hc
  have r0:r=v10:=by
   (have dh3:=LE e2 h3;have hzv1:=e1;have qv4:v4=a+1:=(by rw [← e4,wri (by omega)]);have qv5:v5=a:=(by rw [← e5,wri (by omega)];omega);have hn:a.toNat=n6:=(by omega);have hlt:=(List.getElem?_eq_some_iff.1 s9).1;rw [hn,zkJ s9] at hr hp;first | (rw [← hr];assumption) | (rw [← hp];unfold posA;rw [List.length_drop];omega))
  have r1:p=v4:=by
   (have dh3:=LE e2 h3;have hzv1:=e1;have qv4:v4=a+1:=(by rw [← e4,wri (by omega)]);have qv5:v5=a:=(by rw [← e5,wri (by omega)];omega);have hn:a.toNat=n6:=(by omega);have hlt:=(List.getElem?_eq_some_iff.1 s9).1;rw [hn,zkJ s9] at hr hp;first | (rw [← hr];assumption) | (rw [← hp];unfold posA;rw [List.length_drop];omega))
  rw [r0,r1];exact con_b (pan:=false) (hc)
theorem zaw {w0:World} (n:Int) (l:List Int) (a:Int) (r p:Int) (hr:(drawX (l.drop a.toNat) n).1=r) (hp:posA l (drawX (l.drop a.toNat) n).2=p) (ha:0≤a∧a≤l.length) (hl:l.length<9223372036854775807):BFun false (KN w0) Tryz.prog 50 [.o (.c (.p 0 0)),.o (.c (.d (pI n)))] [(92,[.d (pLs cI l),.d (pI a)])] (.o (.c (.d (pI r)))) [(92,[.d (pLs cI l),.d (pI p)])]:=zsG l a n r p hr hp ha hl
end Go.Proofs.YteimplkdcjapdaaGreatDoor
set_option synthInstance.maxSize 2000
set_option synthInstance.maxHeartbeats 400000
namespace Go.Proofs.YteimplkdcjapdaaGreatDoor
open Go.RowKit
def vecD (l:List Int) (k:Int):Vec×List Int:=
 (((drawX l (2*k+1)).1 - k,(drawX (drawX l (2*k+1)).2 (2*k+1)).1 - k,(drawX (drawX (drawX l (2*k+1)).2 (2*k+1)).2 (2*k+1)).1 - k),(drawX (drawX (drawX l (2*k+1)).2 (2*k+1)).2 (2*k+1)).2)
theorem zju (l:List Int) (k:Int):(vecD l k).2 <:+ l:=((qf _ _).trans (qf _ _)).trans (qf _ _)
def arcTo (a c:Vec):Vec:=addV c (0,IntKind.i64.wrap (c.1 - a.1),0)
def stmtK (k b f:Int) (l:List Int) (a:Vec):Stm×Vec×List Int:=
 if k=0 then (zd9 (vecD l 8).1,(vecD l 8).1,(vecD l 8).2)
 else if k=1 then (lineX (vecD l 8).1 f,(vecD l 8).1,(vecD l 8).2)
 else if k=2∨k=3∨k=4 then (lineX (a.1+b,a.2.1,a.2.2) f,(a.1+b,a.2.1,a.2.2),l)
 else if k=5∨k=6∨k=7 then (lineX (a.1,a.2.1+b,a.2.2) f,(a.1,a.2.1+b,a.2.2),l)
 else if k=8 then (sideX (1+(drawX l 2).1) (1+(drawX (drawX l 2).2 2).1),a,(drawX (drawX l 2).2 2).2)
 else if k=9 then (sideX 0 0,a,l)
 else if k=10 then
  ((3,0,[],qe (addV a (2+3*(drawX l 2).1,0,0))++qe (arcTo a (addV a (2+3*(drawX l 2).1,0,0)))++[numX f]),arcTo a (addV a (2+3*(drawX l 2).1,0,0)),(drawX l 2).2)
 else ((5,0,[115,105,100,101],[.mk 3 0 [numX b,.mk 2 0 []]]),(b+1,3,0),l)
def stmtX (l:List Int) (a:Vec):Stm×Vec×List Int:=
 stmtK (drawX l 12).1 ((drawX (drawX l 12).2 13).1 - 6) (1+(drawX (drawX (drawX l 12).2 13).2 9).1) (drawX (drawX (drawX l 12).2 13).2 9).2 a
def zoF:Tr:=.s [(3,.bin .mul 3 (kI 2) 2),(4,.bin .add 3 3 (kI 1)),(0,.raw [(1000005,.call ⟨50,[.o (.c (.p 900 0)),4],[.bx 900 92 [.h 0,.h 1]],5,[.bx 900 92 [.h 0,.h 6]]⟩)] 2),(7,.bin .sub 3 5 2),(11,.bin .mul 3 (kI 2) 2),(12,.bin .add 3 8 (kI 1)),(0,.raw [(1000013,.call ⟨50,[.o (.c (.p 900 0)),9],[.bx 900 92 [.h 0,.h 6]],10,[.bx 900 92 [.h 0,.h 11]]⟩)] 2),(15,.bin .sub 3 10 2),(19,.bin .mul 3 (kI 2) 2),(20,.bin .add 3 13 (kI 1)),(0,.raw [(1000021,.call ⟨50,[.o (.c (.p 900 0)),14],[.bx 900 92 [.h 0,.h 11]],15,[.bx 900 92 [.h 0,.h 16]]⟩)] 2),(23,.bin .sub 3 15 2)] (.z (.ret false (.o (.g [7,12,17])) [.bx 900 92 [.h 0,.h 16]]))
theorem zsw {w0:World} (l:List Int) (a most:Int) (r:Vec) (p:Int) (hr:(vecD (l.drop a.toNat) most).1=r) (hp:posA l (vecD (l.drop a.toNat) most).2=p) (ha:0≤a∧a≤l.length) (hl:l.length<9223372036854775807) (hm:0≤most∧most≤100):BFun false (KN w0) Tryz.prog 78 [.o (.c (.p 0 0)),.o (.c (.d (pI most)))] [(92,[.d (pLs cI l),.d (pI a)])] (.o (.g [.d (pI r.1),.d (pI r.2.1),.d (pI r.2.2)])) [(92,[.d (pLs cI l),.d (pI p)])]:=by
 refine tfn w0 78 ⟨[LF (.p 900 0),2],[.bx 900 92 [.h 0,.h 1]],[],0,0⟩ ⟨3,[sI most,sI a,.ls 1 cI kIc l],[],[]⟩ zoF (by kernel_rfl) ?_
 intro v1 e1 v2 e2
 obtain ⟨v3,e3⟩:=LX ((drawX (l.drop (a:Int).toNat) v2).1)
 obtain ⟨v4,e4⟩:=LX (posA l (drawX (l.drop (a:Int).toNat) v2).2)
 have s5:0≤a∧a≤l.length:=by exact ha
 have s6:l.length<9223372036854775807:=by exact hl
 refine rx [sI v3,sI v4] [] [] (fun t u w=>⟨b_con (pan:=false) (zaw v2 l a v3 v4 e3 e4 s5 s6),trivial⟩) ?_
 intro v7 e7 v8 e8 v9 e9
 obtain ⟨v10,e10⟩:=LX ((drawX (l.drop (v4:Int).toNat) v9).1)
 obtain ⟨v11,e11⟩:=LX (posA l (drawX (l.drop (v4:Int).toNat) v9).2)
 have qv1:v1=(2:Int)*most:=(by rw [← e1,wri (by omega)])
 have qv2:v2=v1+(1:Int):=(by rw [← e2,wri (by omega)])
 have rv3:0≤v3∧v3<v2:=(e3 ▸ zH (by omega) (by omega))
 have sv4:=zaO ((qf _ _).trans (List.drop_suffix _ _)) e4
 have qv7:v7=v3 - most:=(by rw [← e7,wri (by omega)])
 have qv8:v8=(2:Int)*most:=(by rw [← e8,wri (by omega)])
 have qv9:v9=v8+(1:Int):=(by rw [← e9,wri (by omega)])
 have rv10:0≤v10∧v10<v9:=(e10 ▸ zH (by omega) (by omega))
 have sv11:=zaO ((qf _ _).trans (List.drop_suffix _ _)) e11
 have s12:0≤v4∧v4≤l.length:=by (exact sv4.2)
 have s13:l.length<9223372036854775807:=by exact hl
 refine rx [sI v10,sI v11] [] [] (fun t u w=>⟨b_con (pan:=false) (zaw v9 l v4 v10 v11 e10 e11 s12 s13),trivial⟩) ?_
 intro v14 e14 v15 e15 v16 e16
 obtain ⟨v17,e17⟩:=LX ((drawX (l.drop (v11:Int).toNat) v16).1)
 obtain ⟨v18,e18⟩:=LX (posA l (drawX (l.drop (v11:Int).toNat) v16).2)
 have qv14:v14=v10 - most:=(by rw [← e14,wri (by omega)])
 have qv15:v15=(2:Int)*most:=(by rw [← e15,wri (by omega)])
 have qv16:v16=v15+(1:Int):=(by rw [← e16,wri (by omega)])
 have rv17:0≤v17∧v17<v16:=(e17 ▸ zH (by omega) (by omega))
 have sv18:=zaO ((qf _ _).trans (List.drop_suffix _ _)) e18
 have s19:0≤v11∧v11≤l.length:=by (exact sv11.2)
 have s20:l.length<9223372036854775807:=by exact hl
 refine rx [sI v17,sI v18] [] [] (fun t u w=>⟨b_con (pan:=false) (zaw v16 l v11 v17 v18 e17 e18 s19 s20),trivial⟩) ?_
 intro v21 e21
 intro hc
 have qv21:v21=v17 - most:=(by rw [← e21,wri (by omega)])
 have zv2:v2=2*most+1:=(by omega)
 have zv9:v9=2*most+1:=(by omega)
 have zv16:v16=2*most+1:=(by omega)
 have r0:r=(v7,v14,v21):=by
  (rw [zv2] at e3 e4 sv4;rw [zv9] at e10 e11 sv11;rw [zv16] at e17 e18 sv18;first | (rw [← hr];unfold vecD;rw [e3,← sv4.1,e10,← sv11.1,e17,qv7,qv14,qv21]) | (rw [← hp];unfold vecD;rw [← sv4.1,← sv11.1,e18]))
 have r1:p=v18:=by
  (rw [zv2] at e3 e4 sv4;rw [zv9] at e10 e11 sv11;rw [zv16] at e17 e18 sv18;first | (rw [← hr];unfold vecD;rw [e3,← sv4.1,e10,← sv11.1,e17,qv7,qv14,qv21]) | (rw [← hp];unfold vecD;rw [← sv4.1,← sv11.1,e18]))
 rw [r0,r1];exact con_b (pan:=false) (hc)
theorem zmF {w0:World} (most:Int) (l:List Int) (a:Int) (r:Vec) (p:Int) (hr:(vecD (l.drop a.toNat) most).1=r) (hp:posA l (vecD (l.drop a.toNat) most).2=p) (ha:0≤a∧a≤l.length) (hl:l.length<9223372036854775807) (hm:0≤most∧most≤100):BFun false (KN w0) Tryz.prog 78 [.o (.c (.p 0 0)),.o (.c (.d (pI most)))] [(92,[.d (pLs cI l),.d (pI a)])] (.o (.g [.d (pI r.1),.d (pI r.2.1),.d (pI r.2.2)])) [(92,[.d (pLs cI l),.d (pI p)])]:=zsw l a most r p hr hp ha hl hm
def zmD:Tr:=.s [(0,.raw [(1000004,.call ⟨50,[.o (.c (.p 900 0)),.o (.c (.k (.int .i64 12)))],[.bx 900 92 [.h 0,.h 1]],5,[.bx 900 92 [.h 0,.h 6]]⟩)] 2),(0,.raw [(1000007,.call ⟨50,[.o (.c (.p 900 0)),.o (.c (.k (.int .i64 13)))],[.bx 900 92 [.h 0,.h 6]],7,[.bx 900 92 [.h 0,.h 8]]⟩)] 2),(8,.bin .sub 3 7 (kI 6)),(0,.raw [(1000011,.call ⟨50,[.o (.c (.p 900 0)),.o (.c (.k (.int .i64 9)))],[.bx 900 92 [.h 0,.h 8]],10,[.bx 900 92 [.h 0,.h 11]]⟩)] 2),(12,.bin .add 3 (kI 1) 10),(18,.bin .eql 3 5 (kI 0))] (.b 13 (.s [(0,.raw [(1000021,.call ⟨78,[.o (.c (.p 900 0)),.o (.c (.k (.int .i64 8)))],[.bx 900 92 [.h 0,.h 11]],.o (.g [14,15,16]),[.bx 900 92 [.h 0,.h 17]]⟩)] 4),(24,.call 69 [.o (.g [14,15,16])] (.o .c))] (.z (.ret false (.t [.g [kI 1,kI 0,.k (.string ⟨#[]⟩),18],.g [14,15,16]]) [.bx 900 92 [.h 0,.h 17]]))) (.s [(20,.bin .eql 3 5 (kI 1))] (.b 14 (.s [(0,.raw [(1000023,.call ⟨78,[.o (.c (.p 900 0)),.o (.c (.k (.int .i64 8)))],[.bx 900 92 [.h 0,.h 11]],.o (.g [15,16,17]),[.bx 900 92 [.h 0,.h 18]]⟩)] 4),(27,.call 29 [.o (.g [15,16,17]),12] (.o (.g 4)))] (.z (.ret false (.t [.g [19,20,21,22],.g [15,16,17]]) [.bx 900 92 [.h 0,.h 18]]))) (.s [(22,.bin .eql 3 5 (kI 2))] (.b 15 (.s [(27,.bin .add 3 2 9),(32,.call 29 [.o (.g [16,3,4]),12] (.o (.g 4)))] (.z (.ret false (.t [.g [17,18,19,20],.g [16,3,4]]) [.bx 900 92 [.h 0,.h 11]]))) (.s [(24,.bin .eql 3 5 (kI 3))] (.b 16 (.s [(29,.bin .add 3 2 9),(34,.call 29 [.o (.g [17,3,4]),12] (.o (.g 4)))] (.z (.ret false (.t [.g [18,19,20,21],.g [17,3,4]]) [.bx 900 92 [.h 0,.h 11]]))) (.s [(26,.bin .eql 3 5 (kI 4))] (.b 17 (.s [(31,.bin .add 3 2 9),(36,.call 29 [.o (.g [18,3,4]),12] (.o (.g 4)))] (.z (.ret false (.t [.g [19,20,21,22],.g [18,3,4]]) [.bx 900 92 [.h 0,.h 11]]))) (.s [(28,.bin .eql 3 5 (kI 5))] (.b 18 (.s [(33,.bin .add 3 3 9),(38,.call 29 [.o (.g [2,19,4]),12] (.o (.g 4)))] (.z (.ret false (.t [.g [20,21,22,23],.g [2,19,4]]) [.bx 900 92 [.h 0,.h 11]]))) (.s [(30,.bin .eql 3 5 (kI 6))] (.b 19 (.s [(35,.bin .add 3 3 9),(40,.call 29 [.o (.g [2,20,4]),12] (.o (.g 4)))] (.z (.ret false (.t [.g [21,22,23,24],.g [2,20,4]]) [.bx 900 92 [.h 0,.h 11]]))) (.s [(32,.bin .eql 3 5 (kI 7))] (.b 20 (.s [(37,.bin .add 3 3 9),(42,.call 29 [.o (.g [2,21,4]),12] (.o (.g 4)))] (.z (.ret false (.t [.g [22,23,24,25],.g [2,21,4]]) [.bx 900 92 [.h 0,.h 11]]))) (.s [(34,.bin .eql 3 5 (kI 8))] (.b 21 (.s [(0,.raw [(1000037,.call ⟨50,[.o (.c (.p 900 0)),.o (.c (.k (.int .i64 2)))],[.bx 900 92 [.h 0,.h 11]],22,[.bx 900 92 [.h 0,.h 23]]⟩)] 2),(38,.bin .add 3 (kI 1) 22),(0,.raw [(1000040,.call ⟨50,[.o (.c (.p 900 0)),.o (.c (.k (.int .i64 2)))],[.bx 900 92 [.h 0,.h 23]],25,[.bx 900 92 [.h 0,.h 26]]⟩)] 2),(41,.bin .add 3 (kI 1) 25),(42,.call 44 [24,27] (.o (.g 4)))] (.z (.ret false (.t [.g [28,29,30,31],.g [2,3,4]]) [.bx 900 92 [.h 0,.h 26]]))) (.s [(36,.bin .eql 3 5 (kI 9))] (.b 22 (.s [(38,.call 44 [LF (kI 0),LF (kI 0)] (.o (.g 4)))] (.z (.ret false (.t [.g [23,24,25,26],.g [2,3,4]]) [.bx 900 92 [.h 0,.h 11]]))) (.s [(38,.bin .eql 3 5 (kI 10))] (.b 23 (.s [(0,.raw [(1000042,.call ⟨50,[.o (.c (.p 900 0)),.o (.c (.k (.int .i64 2)))],[.bx 900 92 [.h 0,.h 11]],24,[.bx 900 92 [.h 0,.h 25]]⟩)] 2),(43,.bin .mul 3 (kI 3) 24),(44,.bin .add 3 (kI 2) 26),(46,.call 64 [.o (.g [2,3,4]),.o (.g [27,kI 0,kI 0])] (.o (.g 3))),(54,.bin .sub 3 28 2),(56,.call 64 [.o (.g [28,29,30]),.o (.g [kI 0,31,kI 0])] (.o (.g 3))),(59,.call 69 [.o (.g [28,29,30])] (.o .c)),(61,.call 69 [.o (.g [32,33,34])] (.o .c)),(0,.raw [(1000062,.ap 58 [20062] 35 36 (LF (.gr 20062)) [] [.gl 20062 60 3 0])] 0),(64,.call 49 [12] (.o (.g 3))),(0,.raw [(1000065,.dat 60 1 [.h 37,.h 38,.h 39] 40)] 1),(0,.raw [(1000066,.app 60 3 20062 0 1 40 [] false)] 0),(0,.gh ⟨29,[.gl 20062 60 3 1,.bx 1 62 [.k (.int .i64 3),.k (.int .i64 0),.k (.string ⟨#[]⟩),.gr 20062]],[.bx 1 62 [.k (.int .i64 3),.k (.int .i64 0),.k (.string ⟨#[]⟩),.h 41]],[20062]⟩ 1)] (.z (.ret false (.t [.g [kI 3,kI 0,.k (.string ⟨#[]⟩),41],.g [32,33,34]]) [.bx 900 92 [.h 0,.h 25]]))) (.s [(41,.call 49 [9] (.o (.g 3))),(0,.raw [(1000043,.dat 60 2 [.h 24,.h 25,.h 26,.k (.int .i64 2),.k (.int .i64 0),.k (.slice none 0 0)] 27)] 1),(0,.raw [(1000045,.dat 60 1 [.k (.int .i64 3),.k (.int .i64 0),.h 27] 28)] 1),(48,.bin .add 3 9 (kI 1))] (.z (.ret false (.t [.g [kI 5,kI 0,.k (.string ⟨#[115,105,100,101]⟩),28],.g [29,kI 3,kI 0]]) [.bx 900 92 [.h 0,.h 11]]))))))))))))))))))))))))
theorem zrf {w0:World} (l:List Int) (a:Int) (at_:Vec) (r:Stm) (r2:Vec) (p:Int) (hr:(stmtX (l.drop a.toNat) at_).1=r) (hr2:(stmtX (l.drop a.toNat) at_).2.1=r2) (hp:posA l (stmtX (l.drop a.toNat) at_).2.2=p) (ha:0≤a∧a≤l.length) (hl:l.length<9223372036854775807) (h1:-1000000≤at_.1∧at_.1≤1000000) (h2:-1000000≤at_.2.1∧at_.2.1≤1000000):BFun false (KN w0) Tryz.prog 48 [.o (.c (.p 0 0)),.o (.g [.d (pI at_.1),.d (pI at_.2.1),.d (pI at_.2.2)])] [(92,[.d (pLs cI l),.d (pI a)])] (.t [.g [.d (pI r.1),.d (pI r.2.1),.d (pS r.2.2.1),.d (pLs cE r.2.2.2)],.g [.d (pI r2.1),.d (pI r2.2.1),.d (pI r2.2.2)]]) [(92,[.d (pLs cI l),.d (pI p)])]:=by
 refine tfn w0 48 ⟨[LF (.p 900 0),.o (.g [2,3,4])],[.bx 900 92 [.h 0,.h 1]],[20062],0,0⟩ ⟨5,[sI at_.2.2,sI at_.2.1,sI at_.1,sI a,.ls 1 cI kIc l],[],[]⟩ zmD (by kernel_rfl) ?_
 obtain ⟨v1,e1⟩:=LX ((drawX (l.drop (a:Int).toNat) (12:Int)).1)
 obtain ⟨v2,e2⟩:=LX (posA l (drawX (l.drop (a:Int).toNat) (12:Int)).2)
 have s3:0≤a∧a≤l.length:=by exact ha
 have s4:l.length<9223372036854775807:=by exact hl
 refine rx [sI v1,sI v2] [] [] (fun t u w=>⟨b_con (pan:=false) (zaw (12:Int) l a v1 v2 e1 e2 s3 s4),trivial⟩) ?_
 obtain ⟨v5,e5⟩:=LX ((drawX (l.drop (v2:Int).toNat) (13:Int)).1)
 obtain ⟨v6,e6⟩:=LX (posA l (drawX (l.drop (v2:Int).toNat) (13:Int)).2)
 have rv1:0≤v1∧v1<12:=(e1 ▸ zH (by omega) (by omega))
 have sv2:=zaO ((qf _ _).trans (List.drop_suffix _ _)) e2
 have rv5:0≤v5∧v5<13:=(e5 ▸ zH (by omega) (by omega))
 have sv6:=zaO ((qf _ _).trans (List.drop_suffix _ _)) e6
 have s7:0≤v2∧v2≤l.length:=by (exact sv2.2)
 have s8:l.length<9223372036854775807:=by exact hl
 refine rx [sI v5,sI v6] [] [] (fun t u w=>⟨b_con (pan:=false) (zaw (13:Int) l v2 v5 v6 e5 e6 s7 s8),trivial⟩) ?_
 intro v9 e9
 obtain ⟨v10,e10⟩:=LX ((drawX (l.drop (v6:Int).toNat) (9:Int)).1)
 obtain ⟨v11,e11⟩:=LX (posA l (drawX (l.drop (v6:Int).toNat) (9:Int)).2)
 have qv9:v9=v5 - (6:Int):=(by rw [← e9,wri (by omega)])
 have rv10:0≤v10∧v10<9:=(e10 ▸ zH (by omega) (by omega))
 have sv11:=zaO ((qf _ _).trans (List.drop_suffix _ _)) e11
 have s12:0≤v6∧v6≤l.length:=by (exact sv6.2)
 have s13:l.length<9223372036854775807:=by exact hl
 refine rx [sI v10,sI v11] [] [] (fun t u w=>⟨b_con (pan:=false) (zaw (9:Int) l v6 v10 v11 e10 e11 s12 s13),trivial⟩) ?_
 intro v14 e14 v15 e15
 refine ai (fun h16=>?_) fun h16=>?_
 ·
  obtain ⟨v17,e17⟩:=LX ((vecD (l.drop (v11:Int).toNat) (8:Int)).1)
  obtain ⟨v18,e18⟩:=LX (posA l (vecD (l.drop (v11:Int).toNat) (8:Int)).2)
  have dh16:=eq_of_beq (e15.trans h16)
  have qv14:v14=(1:Int)+v10:=(by rw [← e14,wri (by omega)])
  have sv18:=zaO ((zju _ _).trans (List.drop_suffix _ _)) e18
  have s19:0≤v11∧v11≤l.length:=by (exact sv11.2)
  have s20:l.length<9223372036854775807:=by exact hl
  have s21:0≤(8:Int)∧(8:Int)≤100:=by (omega)
  refine rx [sI v17.1,sI v17.2.1,sI v17.2.2,sI v18] [] [] (fun t u w=>⟨b_con (pan:=false) (zmF (8:Int) l v11 v17 v18 e17 e18 s19 s20 s21),trivial⟩) ?_
  obtain ⟨v22,e22⟩:=LX (qe v17)
  refine cx (.o (.c (.ls 3 cE kE v22))) (zhY v17 v22 e22) rfl ?_
  intro hc
  have ss1:stmtX (l.drop a.toNat) at_=(((1:Int),(0:Int),[],v22),v17,l.drop v18.toNat):=(by unfold stmtX stmtK;rw [e1,← sv2.1,e5,← sv6.1,e10,← sv11.1];(repeat (first | rw [if_pos (by omega)] | rw [if_neg (by omega)]));simp only [e17,← sv18.1,← e22,qv14,qv9,arcTo]<;>rfl)
  have r0:r=((1:Int),(0:Int),[],v22):=by
   (first | (rw [← hr,ss1];done) | (rw [← hr2,ss1];done) | (rw [← hp,ss1];dsimp only;rw [sv18.1];exact e18))
  have r1:r2=v17:=by
   (first | (rw [← hr,ss1];done) | (rw [← hr2,ss1];done) | (rw [← hp,ss1];dsimp only;rw [sv18.1];exact e18))
  have r2:p=v18:=by
   (first | (rw [← hr,ss1];done) | (rw [← hr2,ss1];done) | (rw [← hp,ss1];dsimp only;rw [sv18.1];exact e18))
  rw [r0,r1,r2];exact con_b (pan:=false) (hc)
 ·
  intro v17 e17
  refine ai (fun h18=>?_) fun h18=>?_
  ·
   obtain ⟨v19,e19⟩:=LX ((vecD (l.drop (v11:Int).toNat) (8:Int)).1)
   obtain ⟨v20,e20⟩:=LX (posA l (vecD (l.drop (v11:Int).toNat) (8:Int)).2)
   have dh16:=ne_of_beq_false (e15.trans h16)
   have dh18:=eq_of_beq (e17.trans h18)
   have qv14:v14=(1:Int)+v10:=(by rw [← e14,wri (by omega)])
   have sv20:=zaO ((zju _ _).trans (List.drop_suffix _ _)) e20
   have s21:0≤v11∧v11≤l.length:=by (exact sv11.2)
   have s22:l.length<9223372036854775807:=by exact hl
   have s23:0≤(8:Int)∧(8:Int)≤100:=by (omega)
   refine rx [sI v19.1,sI v19.2.1,sI v19.2.2,sI v20] [] [] (fun t u w=>⟨b_con (pan:=false) (zmF (8:Int) l v11 v19 v20 e19 e20 s21 s22 s23),trivial⟩) ?_
   obtain ⟨v24,e24⟩:=LX (lineX v19 v14)
   refine cx (.o (.g [sI v24.1,sI v24.2.1,sS v24.2.2.1,.ls 3 cE kE v24.2.2.2])) (zT v19 v14 v24 e24) rfl ?_
   intro hc
   have ss1:stmtX (l.drop a.toNat) at_=(v24,v19,l.drop v20.toNat):=(by unfold stmtX stmtK;rw [e1,← sv2.1,e5,← sv6.1,e10,← sv11.1];(repeat (first | rw [if_pos (by omega)] | rw [if_neg (by omega)]));simp only [e19,← sv20.1,← e24,qv14,qv9,arcTo]<;>rfl)
   have r0:r=v24:=by
    (first | (rw [← hr,ss1];done) | (rw [← hr2,ss1];done) | (rw [← hp,ss1];dsimp only;rw [sv20.1];exact e20))
   have r1:r2=v19:=by
    (first | (rw [← hr,ss1];done) | (rw [← hr2,ss1];done) | (rw [← hp,ss1];dsimp only;rw [sv20.1];exact e20))
   have r2:p=v20:=by
    (first | (rw [← hr,ss1];done) | (rw [← hr2,ss1];done) | (rw [← hp,ss1];dsimp only;rw [sv20.1];exact e20))
   rw [r0,r1,r2];exact con_b (pan:=false) (hc)
  ·
   intro v19 e19
   refine ai (fun h20=>?_) fun h20=>?_
   ·
    intro v21 e21
    obtain ⟨v22,e22⟩:=LX (lineX (v21,at_.2.1,at_.2.2) v14)
    refine cx (.o (.g [sI v22.1,sI v22.2.1,sS v22.2.2.1,.ls 3 cE kE v22.2.2.2])) (zT (v21,at_.2.1,at_.2.2) v14 v22 e22) rfl ?_
    intro hc
    have dh16:=ne_of_beq_false (e15.trans h16)
    have dh18:=ne_of_beq_false (e17.trans h18)
    have dh20:=eq_of_beq (e19.trans h20)
    have qv14:v14=(1:Int)+v10:=(by rw [← e14,wri (by omega)])
    have qv21:v21=at_.1+v9:=(by rw [← e21,wri (by omega)])
    have ss1:stmtX (l.drop a.toNat) at_=(v22,(v21,at_.2.1,at_.2.2),l.drop v11.toNat):=(by unfold stmtX stmtK;rw [e1,← sv2.1,e5,← sv6.1,e10,← sv11.1];(repeat (first | rw [if_pos (by omega)] | rw [if_neg (by omega)]));simp only [← e22,qv21,qv14,qv9,arcTo]<;>rfl)
    have r0:r=v22:=by
     (first | (rw [← hr,ss1];done) | (rw [← hr2,ss1];done) | (rw [← hp,ss1];dsimp only;rw [sv11.1];exact e11))
    have r1:r2=(v21,at_.2.1,at_.2.2):=by
     (first | (rw [← hr,ss1];done) | (rw [← hr2,ss1];done) | (rw [← hp,ss1];dsimp only;rw [sv11.1];exact e11))
    have r2:p=v11:=by
     (first | (rw [← hr,ss1];done) | (rw [← hr2,ss1];done) | (rw [← hp,ss1];dsimp only;rw [sv11.1];exact e11))
    rw [r0,r1,r2];exact con_b (pan:=false) (hc)
   ·
    intro v21 e21
    refine ai (fun h22=>?_) fun h22=>?_
    ·
     intro v23 e23
     obtain ⟨v24,e24⟩:=LX (lineX (v23,at_.2.1,at_.2.2) v14)
     refine cx (.o (.g [sI v24.1,sI v24.2.1,sS v24.2.2.1,.ls 3 cE kE v24.2.2.2])) (zT (v23,at_.2.1,at_.2.2) v14 v24 e24) rfl ?_
     intro hc
     have dh16:=ne_of_beq_false (e15.trans h16)
     have dh18:=ne_of_beq_false (e17.trans h18)
     have dh20:=ne_of_beq_false (e19.trans h20)
     have dh22:=eq_of_beq (e21.trans h22)
     have qv14:v14=(1:Int)+v10:=(by rw [← e14,wri (by omega)])
     have qv23:v23=at_.1+v9:=(by rw [← e23,wri (by omega)])
     have ss1:stmtX (l.drop a.toNat) at_=(v24,(v23,at_.2.1,at_.2.2),l.drop v11.toNat):=(by unfold stmtX stmtK;rw [e1,← sv2.1,e5,← sv6.1,e10,← sv11.1];(repeat (first | rw [if_pos (by omega)] | rw [if_neg (by omega)]));simp only [← e24,qv23,qv14,qv9,arcTo]<;>rfl)
     have r0:r=v24:=by
      (first | (rw [← hr,ss1];done) | (rw [← hr2,ss1];done) | (rw [← hp,ss1];dsimp only;rw [sv11.1];exact e11))
     have r1:r2=(v23,at_.2.1,at_.2.2):=by
      (first | (rw [← hr,ss1];done) | (rw [← hr2,ss1];done) | (rw [← hp,ss1];dsimp only;rw [sv11.1];exact e11))
     have r2:p=v11:=by
      (first | (rw [← hr,ss1];done) | (rw [← hr2,ss1];done) | (rw [← hp,ss1];dsimp only;rw [sv11.1];exact e11))
     rw [r0,r1,r2];exact con_b (pan:=false) (hc)
    ·
     intro v23 e23
     refine ai (fun h24=>?_) fun h24=>?_
     ·
      intro v25 e25
      obtain ⟨v26,e26⟩:=LX (lineX (v25,at_.2.1,at_.2.2) v14)
      refine cx (.o (.g [sI v26.1,sI v26.2.1,sS v26.2.2.1,.ls 3 cE kE v26.2.2.2])) (zT (v25,at_.2.1,at_.2.2) v14 v26 e26) rfl ?_
      intro hc
      have dh16:=ne_of_beq_false (e15.trans h16)
      have dh18:=ne_of_beq_false (e17.trans h18)
      have dh20:=ne_of_beq_false (e19.trans h20)
      have dh22:=ne_of_beq_false (e21.trans h22)
      have dh24:=eq_of_beq (e23.trans h24)
      have qv14:v14=(1:Int)+v10:=(by rw [← e14,wri (by omega)])
      have qv25:v25=at_.1+v9:=(by rw [← e25,wri (by omega)])
      have ss1:stmtX (l.drop a.toNat) at_=(v26,(v25,at_.2.1,at_.2.2),l.drop v11.toNat):=(by unfold stmtX stmtK;rw [e1,← sv2.1,e5,← sv6.1,e10,← sv11.1];(repeat (first | rw [if_pos (by omega)] | rw [if_neg (by omega)]));simp only [← e26,qv25,qv14,qv9,arcTo]<;>rfl)
      have r0:r=v26:=by
       (first | (rw [← hr,ss1];done) | (rw [← hr2,ss1];done) | (rw [← hp,ss1];dsimp only;rw [sv11.1];exact e11))
      have r1:r2=(v25,at_.2.1,at_.2.2):=by
       (first | (rw [← hr,ss1];done) | (rw [← hr2,ss1];done) | (rw [← hp,ss1];dsimp only;rw [sv11.1];exact e11))
      have r2:p=v11:=by
       (first | (rw [← hr,ss1];done) | (rw [← hr2,ss1];done) | (rw [← hp,ss1];dsimp only;rw [sv11.1];exact e11))
      rw [r0,r1,r2];exact con_b (pan:=false) (hc)
     ·
      intro v25 e25
      refine ai (fun h26=>?_) fun h26=>?_
      ·
       intro v27 e27
       obtain ⟨v28,e28⟩:=LX (lineX (at_.1,v27,at_.2.2) v14)
       refine cx (.o (.g [sI v28.1,sI v28.2.1,sS v28.2.2.1,.ls 3 cE kE v28.2.2.2])) (zT (at_.1,v27,at_.2.2) v14 v28 e28) rfl ?_
       intro hc
       have dh16:=ne_of_beq_false (e15.trans h16)
       have dh18:=ne_of_beq_false (e17.trans h18)
       have dh20:=ne_of_beq_false (e19.trans h20)
       have dh22:=ne_of_beq_false (e21.trans h22)
       have dh24:=ne_of_beq_false (e23.trans h24)
       have dh26:=eq_of_beq (e25.trans h26)
       have qv14:v14=(1:Int)+v10:=(by rw [← e14,wri (by omega)])
       have qv27:v27=at_.2.1+v9:=(by rw [← e27,wri (by omega)])
       have ss1:stmtX (l.drop a.toNat) at_=(v28,(at_.1,v27,at_.2.2),l.drop v11.toNat):=(by unfold stmtX stmtK;rw [e1,← sv2.1,e5,← sv6.1,e10,← sv11.1];(repeat (first | rw [if_pos (by omega)] | rw [if_neg (by omega)]));simp only [← e28,qv27,qv14,qv9,arcTo]<;>rfl)
       have r0:r=v28:=by
        (first | (rw [← hr,ss1];done) | (rw [← hr2,ss1];done) | (rw [← hp,ss1];dsimp only;rw [sv11.1];exact e11))
       have r1:r2=(at_.1,v27,at_.2.2):=by
        (first | (rw [← hr,ss1];done) | (rw [← hr2,ss1];done) | (rw [← hp,ss1];dsimp only;rw [sv11.1];exact e11))
       have r2:p=v11:=by
        (first | (rw [← hr,ss1];done) | (rw [← hr2,ss1];done) | (rw [← hp,ss1];dsimp only;rw [sv11.1];exact e11))
       rw [r0,r1,r2];exact con_b (pan:=false) (hc)
      ·
       intro v27 e27
       refine ai (fun h28=>?_) fun h28=>?_
       ·
        intro v29 e29
        obtain ⟨v30,e30⟩:=LX (lineX (at_.1,v29,at_.2.2) v14)
        refine cx (.o (.g [sI v30.1,sI v30.2.1,sS v30.2.2.1,.ls 3 cE kE v30.2.2.2])) (zT (at_.1,v29,at_.2.2) v14 v30 e30) rfl ?_
        intro hc
        have dh16:=ne_of_beq_false (e15.trans h16)
        have dh18:=ne_of_beq_false (e17.trans h18)
        have dh20:=ne_of_beq_false (e19.trans h20)
        have dh22:=ne_of_beq_false (e21.trans h22)
        have dh24:=ne_of_beq_false (e23.trans h24)
        have dh26:=ne_of_beq_false (e25.trans h26)
        have dh28:=eq_of_beq (e27.trans h28)
        have qv14:v14=(1:Int)+v10:=(by rw [← e14,wri (by omega)])
        have qv29:v29=at_.2.1+v9:=(by rw [← e29,wri (by omega)])
        have ss1:stmtX (l.drop a.toNat) at_=(v30,(at_.1,v29,at_.2.2),l.drop v11.toNat):=(by unfold stmtX stmtK;rw [e1,← sv2.1,e5,← sv6.1,e10,← sv11.1];(repeat (first | rw [if_pos (by omega)] | rw [if_neg (by omega)]));simp only [← e30,qv29,qv14,qv9,arcTo]<;>rfl)
        have r0:r=v30:=by
         (first | (rw [← hr,ss1];done) | (rw [← hr2,ss1];done) | (rw [← hp,ss1];dsimp only;rw [sv11.1];exact e11))
        have r1:r2=(at_.1,v29,at_.2.2):=by
         (first | (rw [← hr,ss1];done) | (rw [← hr2,ss1];done) | (rw [← hp,ss1];dsimp only;rw [sv11.1];exact e11))
        have r2:p=v11:=by
         (first | (rw [← hr,ss1];done) | (rw [← hr2,ss1];done) | (rw [← hp,ss1];dsimp only;rw [sv11.1];exact e11))
        rw [r0,r1,r2];exact con_b (pan:=false) (hc)
       ·
        intro v29 e29
        refine ai (fun h30=>?_) fun h30=>?_
        ·
         intro v31 e31
         obtain ⟨v32,e32⟩:=LX (lineX (at_.1,v31,at_.2.2) v14)
         refine cx (.o (.g [sI v32.1,sI v32.2.1,sS v32.2.2.1,.ls 3 cE kE v32.2.2.2])) (zT (at_.1,v31,at_.2.2) v14 v32 e32) rfl ?_
         intro hc
         have dh16:=ne_of_beq_false (e15.trans h16)
         have dh18:=ne_of_beq_false (e17.trans h18)
         have dh20:=ne_of_beq_false (e19.trans h20)
         have dh22:=ne_of_beq_false (e21.trans h22)
         have dh24:=ne_of_beq_false (e23.trans h24)
         have dh26:=ne_of_beq_false (e25.trans h26)
         have dh28:=ne_of_beq_false (e27.trans h28)
         have dh30:=eq_of_beq (e29.trans h30)
         have qv14:v14=(1:Int)+v10:=(by rw [← e14,wri (by omega)])
         have qv31:v31=at_.2.1+v9:=(by rw [← e31,wri (by omega)])
         have ss1:stmtX (l.drop a.toNat) at_=(v32,(at_.1,v31,at_.2.2),l.drop v11.toNat):=(by unfold stmtX stmtK;rw [e1,← sv2.1,e5,← sv6.1,e10,← sv11.1];(repeat (first | rw [if_pos (by omega)] | rw [if_neg (by omega)]));simp only [← e32,qv31,qv14,qv9,arcTo]<;>rfl)
         have r0:r=v32:=by
          (first | (rw [← hr,ss1];done) | (rw [← hr2,ss1];done) | (rw [← hp,ss1];dsimp only;rw [sv11.1];exact e11))
         have r1:r2=(at_.1,v31,at_.2.2):=by
          (first | (rw [← hr,ss1];done) | (rw [← hr2,ss1];done) | (rw [← hp,ss1];dsimp only;rw [sv11.1];exact e11))
         have r2:p=v11:=by
          (first | (rw [← hr,ss1];done) | (rw [← hr2,ss1];done) | (rw [← hp,ss1];dsimp only;rw [sv11.1];exact e11))
         rw [r0,r1,r2];exact con_b (pan:=false) (hc)
        ·
         intro v31 e31
         refine ai (fun h32=>?_) fun h32=>?_
         ·
          obtain ⟨v33,e33⟩:=LX ((drawX (l.drop (v11:Int).toNat) (2:Int)).1)
          obtain ⟨v34,e34⟩:=LX (posA l (drawX (l.drop (v11:Int).toNat) (2:Int)).2)
          have dh16:=ne_of_beq_false (e15.trans h16)
          have dh18:=ne_of_beq_false (e17.trans h18)
          have dh20:=ne_of_beq_false (e19.trans h20)
          have dh22:=ne_of_beq_false (e21.trans h22)
          have dh24:=ne_of_beq_false (e23.trans h24)
          have dh26:=ne_of_beq_false (e25.trans h26)
          have dh28:=ne_of_beq_false (e27.trans h28)
          have dh30:=ne_of_beq_false (e29.trans h30)
          have dh32:=eq_of_beq (e31.trans h32)
          have qv14:v14=(1:Int)+v10:=(by rw [← e14,wri (by omega)])
          have rv33:0≤v33∧v33<2:=(e33 ▸ zH (by omega) (by omega))
          have sv34:=zaO ((qf _ _).trans (List.drop_suffix _ _)) e34
          have s35:0≤v11∧v11≤l.length:=by (exact sv11.2)
          have s36:l.length<9223372036854775807:=by exact hl
          refine rx [sI v33,sI v34] [] [] (fun t u w=>⟨b_con (pan:=false) (zaw (2:Int) l v11 v33 v34 e33 e34 s35 s36),trivial⟩) ?_
          intro v37 e37
          obtain ⟨v38,e38⟩:=LX ((drawX (l.drop (v34:Int).toNat) (2:Int)).1)
          obtain ⟨v39,e39⟩:=LX (posA l (drawX (l.drop (v34:Int).toNat) (2:Int)).2)
          have qv37:v37=(1:Int)+v33:=(by rw [← e37,wri (by omega)])
          have rv38:0≤v38∧v38<2:=(e38 ▸ zH (by omega) (by omega))
          have sv39:=zaO ((qf _ _).trans (List.drop_suffix _ _)) e39
          have s40:0≤v34∧v34≤l.length:=by (exact sv34.2)
          have s41:l.length<9223372036854775807:=by exact hl
          refine rx [sI v38,sI v39] [] [] (fun t u w=>⟨b_con (pan:=false) (zaw (2:Int) l v34 v38 v39 e38 e39 s40 s41),trivial⟩) ?_
          intro v42 e42
          obtain ⟨v43,e43⟩:=LX (sideX v37 v42)
          refine cx (.o (.g [sI v43.1,sI v43.2.1,sS v43.2.2.1,.ls 3 cE kE v43.2.2.2])) (zdB v37 v42 v43 e43) rfl ?_
          intro hc
          have qv42:v42=(1:Int)+v38:=(by rw [← e42,wri (by omega)])
          have ss1:stmtX (l.drop a.toNat) at_=(v43,at_,l.drop v39.toNat):=(by unfold stmtX stmtK;rw [e1,← sv2.1,e5,← sv6.1,e10,← sv11.1];(repeat (first | rw [if_pos (by omega)] | rw [if_neg (by omega)]));simp only [e33,← sv34.1,e38,← sv39.1,← e43,qv42,qv37,qv14,qv9,arcTo]<;>rfl)
          have r0:r=v43:=by
           (first | (rw [← hr,ss1];done) | (rw [← hr2,ss1];done) | (rw [← hp,ss1];dsimp only;rw [sv39.1];exact e39))
          have r1:r2=at_:=by
           (first | (rw [← hr,ss1];done) | (rw [← hr2,ss1];done) | (rw [← hp,ss1];dsimp only;rw [sv39.1];exact e39))
          have r2:p=v39:=by
           (first | (rw [← hr,ss1];done) | (rw [← hr2,ss1];done) | (rw [← hp,ss1];dsimp only;rw [sv39.1];exact e39))
          rw [r0,r1,r2];exact con_b (pan:=false) (hc)
         ·
          intro v33 e33
          refine ai (fun h34=>?_) fun h34=>?_
          ·
           obtain ⟨v35,e35⟩:=LX (sideX (0:Int) (0:Int))
           refine cx (.o (.g [sI v35.1,sI v35.2.1,sS v35.2.2.1,.ls 3 cE kE v35.2.2.2])) (zdB (0:Int) (0:Int) v35 e35) rfl ?_
           intro hc
           have dh16:=ne_of_beq_false (e15.trans h16)
           have dh18:=ne_of_beq_false (e17.trans h18)
           have dh20:=ne_of_beq_false (e19.trans h20)
           have dh22:=ne_of_beq_false (e21.trans h22)
           have dh24:=ne_of_beq_false (e23.trans h24)
           have dh26:=ne_of_beq_false (e25.trans h26)
           have dh28:=ne_of_beq_false (e27.trans h28)
           have dh30:=ne_of_beq_false (e29.trans h30)
           have dh32:=ne_of_beq_false (e31.trans h32)
           have dh34:=eq_of_beq (e33.trans h34)
           have qv14:v14=(1:Int)+v10:=(by rw [← e14,wri (by omega)])
           have ss1:stmtX (l.drop a.toNat) at_=(v35,at_,l.drop v11.toNat):=(by unfold stmtX stmtK;rw [e1,← sv2.1,e5,← sv6.1,e10,← sv11.1];(repeat (first | rw [if_pos (by omega)] | rw [if_neg (by omega)]));simp only [← e35,qv14,qv9,arcTo]<;>rfl)
           have r0:r=v35:=by
            (first | (rw [← hr,ss1];done) | (rw [← hr2,ss1];done) | (rw [← hp,ss1];dsimp only;rw [sv11.1];exact e11))
           have r1:r2=at_:=by
            (first | (rw [← hr,ss1];done) | (rw [← hr2,ss1];done) | (rw [← hp,ss1];dsimp only;rw [sv11.1];exact e11))
           have r2:p=v11:=by
            (first | (rw [← hr,ss1];done) | (rw [← hr2,ss1];done) | (rw [← hp,ss1];dsimp only;rw [sv11.1];exact e11))
           rw [r0,r1,r2];exact con_b (pan:=false) (hc)
          ·
           intro v35 e35
           refine ai (fun h36=>?_) fun h36=>?_
           ·
            obtain ⟨v37,e37⟩:=LX ((drawX (l.drop (v11:Int).toNat) (2:Int)).1)
            obtain ⟨v38,e38⟩:=LX (posA l (drawX (l.drop (v11:Int).toNat) (2:Int)).2)
            have dh16:=ne_of_beq_false (e15.trans h16)
            have dh18:=ne_of_beq_false (e17.trans h18)
            have dh20:=ne_of_beq_false (e19.trans h20)
            have dh22:=ne_of_beq_false (e21.trans h22)
            have dh24:=ne_of_beq_false (e23.trans h24)
            have dh26:=ne_of_beq_false (e25.trans h26)
            have dh28:=ne_of_beq_false (e27.trans h28)
            have dh30:=ne_of_beq_false (e29.trans h30)
            have dh32:=ne_of_beq_false (e31.trans h32)
            have dh34:=ne_of_beq_false (e33.trans h34)
            have dh36:=eq_of_beq (e35.trans h36)
            have qv14:v14=(1:Int)+v10:=(by rw [← e14,wri (by omega)])
            have rv37:0≤v37∧v37<2:=(e37 ▸ zH (by omega) (by omega))
            have sv38:=zaO ((qf _ _).trans (List.drop_suffix _ _)) e38
            have s39:0≤v11∧v11≤l.length:=by (exact sv11.2)
            have s40:l.length<9223372036854775807:=by exact hl
            refine rx [sI v37,sI v38] [] [] (fun t u w=>⟨b_con (pan:=false) (zaw (2:Int) l v11 v37 v38 e37 e38 s39 s40),trivial⟩) ?_
            intro v41 e41 v42 e42
            obtain ⟨v43,e43⟩:=LX (addV at_ (v42,(0:Int),(0:Int)))
            refine cx (.o (.g [sI v43.1,sI v43.2.1,sI v43.2.2])) (zpM at_ (v42,(0:Int),(0:Int)) v43 e43) rfl ?_
            intro v44 e44
            obtain ⟨v45,e45⟩:=LX (addV v43 ((0:Int),v44,(0:Int)))
            refine cx (.o (.g [sI v45.1,sI v45.2.1,sI v45.2.2])) (zpM v43 ((0:Int),v44,(0:Int)) v45 e45) rfl ?_
            obtain ⟨v46,e46⟩:=LX (qe v43)
            refine cx (.o (.c (.q (pLf cE v46)))) (zfd v43 v46 e46) rfl ?_
            obtain ⟨v47,e47⟩:=LX (qe v45)
            refine cx (.o (.c (.ls 3 cE kE v47))) (zhY v45 v47 e47) rfl ?_
            obtain ⟨v48,e48⟩:=LX (v46++v47)
            have s49:v46≠[]:=by (rw [← e46];simp [qe])
            have s50:v47≠[]:=by (rw [← e47];simp [qe])
            have s51:(v46.length+v47.length)*3≤1099511627776:=by (simp only [← e47,← e46];simp [qe])
            refine rx [] [pG cE v48] [] (fun t u w=>⟨e_apF (zs:=(zah Tryz.prog 60).getD []) (kb:=(zaD Tryz.prog 60).getD 0) (by kernel_rfl) (by kernel_rfl) (by kernel_rfl) (by kernel_rfl) (by decide) (by decide +kernel) (by kernel_rfl) (by kernel_rfl) (by kernel_rfl) qu (zz rfl) rfl rfl s49 s50 (by rw [e48];rfl) s51,trivial⟩) ?_
            obtain ⟨v52,e52⟩:=LX (numX v14)
            refine cx (.o (.g [sI v52.op,sI v52.n,.ls 3 cE kE v52.l])) (t_num v14 v52 e52) rfl ?_
            obtain ⟨v53,e53⟩:=LX (([v52]:List Xp))
            refine rx [.ls 3 cE kE v53] [] [] (fun t u w=>⟨e_dat (c:=cE) (l:=([v52]:List Xp)) (ps:=(pI v52.op::pI v52.n::pLs cE v52.l::[])) (qs:=(pI v52.op::pI v52.n::pLs cE v52.l::[])) (by rw [e53];rfl) rfl rfl ((flatE _).trans rfl) (pimps (fun _ _ _ h=>h) <| pimps (fun _ _ _ h=>h) <| pimps (fun _ _ _ h=>h) <| ze) rfl,trivial⟩) ?_
            obtain ⟨v54,e54⟩:=LX (v48++v53)
            have s55:(v48.length+v53.length)*3≤1099511627776:=by (simp only [← e53,← e48,← e47,← e46];simp [qe])
            refine rx [] [pG cE v54] [] (fun t u w=>⟨zV (c:=cE) (zz rfl) qu rfl (by rw [e54];rfl) rfl s55,trivial⟩) ?_
            refine rx [.ls 3 cE kE v54] [] [] (fun t u w hF=>zP (c:=cE) (i:=3) (ls:=[.k (.int .i64 3),.k (.int .i64 0),.k (.string ⟨#[]⟩),.gr 20062]) hF rfl (by decide) rfl qu (by decide) (zz rfl) rfl rfl) ?_
            intro hc
            have qv41:v41=(3:Int)*v37:=(by rw [← e41,wri (by omega)])
            have qv42:v42=(2:Int)+v41:=(by rw [← e42,wri (by omega)])
            have ss1:stmtX (l.drop a.toNat) at_=(((3:Int),(0:Int),[],v54),v45,l.drop v38.toNat):=(by unfold stmtX stmtK;rw [e1,← sv2.1,e5,← sv6.1,e10,← sv11.1];(repeat (first | rw [if_pos (by omega)] | rw [if_neg (by omega)]));simp only [e37,← sv38.1,← e54,← e53,← e52,← e48,← e47,← e46,← e45,← e44,← e43,qv42,qv41,qv14,qv9,arcTo]<;>rfl)
            have r0:r=((3:Int),(0:Int),[],v54):=by
             (first | (rw [← hr,ss1];done) | (rw [← hr2,ss1];done) | (rw [← hp,ss1];dsimp only;rw [sv38.1];exact e38))
            have r1:r2=v45:=by
             (first | (rw [← hr,ss1];done) | (rw [← hr2,ss1];done) | (rw [← hp,ss1];dsimp only;rw [sv38.1];exact e38))
            have r2:p=v38:=by
             (first | (rw [← hr,ss1];done) | (rw [← hr2,ss1];done) | (rw [← hp,ss1];dsimp only;rw [sv38.1];exact e38))
            rw [r0,r1,r2];exact con_b (pan:=false) (hc)
           ·
            obtain ⟨v37,e37⟩:=LX (numX v9)
            refine cx (.o (.g [sI v37.op,sI v37.n,.ls 3 cE kE v37.l])) (t_num v9 v37 e37) rfl ?_
            obtain ⟨v38,e38⟩:=LX (([v37,(Xp.mk (2:Int) (0:Int) [])]:List Xp))
            refine rx [.ls 3 cE kE v38] [] [] (fun t u w=>⟨e_dat (c:=cE) (l:=([v37,(Xp.mk (2:Int) (0:Int) [])]:List Xp)) (ps:=(pI v37.op::pI v37.n::pLs cE v37.l::pV (.int .i64 2)::pV (.int .i64 0)::pV (.slice none 0 0)::[])) (qs:=(pI v37.op::pI v37.n::pLs cE v37.l::pI (Xp.mk (2:Int) (0:Int) []).op::pI (Xp.mk (2:Int) (0:Int) []).n::pLs cE ((Xp.mk (2:Int) (0:Int) []).l)::[])) (by rw [e38];rfl) rfl rfl ((flatE _).trans rfl) (pimps (fun _ _ _ h=>h) <| pimps (fun _ _ _ h=>h) <| pimps (fun _ _ _ h=>h) <| pimps (fun _ _ _ h=>h) <| pimps (fun _ _ _ h=>h) <| pimps (nil_X) <| ze) rfl,trivial⟩) ?_
            obtain ⟨v39,e39⟩:=LX (([(Xp.mk (3:Int) (0:Int) v38)]:List Xp))
            refine rx [.ls 3 cE kE v39] [] [] (fun t u w=>⟨e_dat (c:=cE) (l:=([(Xp.mk (3:Int) (0:Int) v38)]:List Xp)) (ps:=(pV (.int .i64 3)::pV (.int .i64 0)::pLs cE v38::[])) (qs:=(pI (Xp.mk (3:Int) (0:Int) v38).op::pI (Xp.mk (3:Int) (0:Int) v38).n::pLs cE ((Xp.mk (3:Int) (0:Int) v38).l)::[])) (by rw [e39];rfl) rfl rfl ((flatE _).trans rfl) (pimps (fun _ _ _ h=>h) <| pimps (fun _ _ _ h=>h) <| pimps (fun _ _ _ h=>h) <| ze) rfl,trivial⟩) ?_
            intro v40 e40
            intro hc
            have dh16:=ne_of_beq_false (e15.trans h16)
            have dh18:=ne_of_beq_false (e17.trans h18)
            have dh20:=ne_of_beq_false (e19.trans h20)
            have dh22:=ne_of_beq_false (e21.trans h22)
            have dh24:=ne_of_beq_false (e23.trans h24)
            have dh26:=ne_of_beq_false (e25.trans h26)
            have dh28:=ne_of_beq_false (e27.trans h28)
            have dh30:=ne_of_beq_false (e29.trans h30)
            have dh32:=ne_of_beq_false (e31.trans h32)
            have dh34:=ne_of_beq_false (e33.trans h34)
            have dh36:=ne_of_beq_false (e35.trans h36)
            have qv14:v14=(1:Int)+v10:=(by rw [← e14,wri (by omega)])
            have qv40:v40=v9+(1:Int):=(by rw [← e40,wri (by omega)])
            have ss1:stmtX (l.drop a.toNat) at_=(((5:Int),(0:Int),[115,105,100,101],v39),(v40,(3:Int),(0:Int)),l.drop v11.toNat):=(by unfold stmtX stmtK;rw [e1,← sv2.1,e5,← sv6.1,e10,← sv11.1];(repeat (first | rw [if_pos (by omega)] | rw [if_neg (by omega)]));simp only [qv40,← e39,← e38,← e37,qv14,qv9,arcTo]<;>rfl)
            have r0:r=((5:Int),(0:Int),[115,105,100,101],v39):=by
             (first | (rw [← hr,ss1];done) | (rw [← hr2,ss1];done) | (rw [← hp,ss1];dsimp only;rw [sv11.1];exact e11))
            have r1:r2=(v40,(3:Int),(0:Int)):=by
             (first | (rw [← hr,ss1];done) | (rw [← hr2,ss1];done) | (rw [← hp,ss1];dsimp only;rw [sv11.1];exact e11))
            have r2:p=v11:=by
             (first | (rw [← hr,ss1];done) | (rw [← hr2,ss1];done) | (rw [← hp,ss1];dsimp only;rw [sv11.1];exact e11))
            rw [r0,r1,r2];exact con_b (pan:=false) (hc)
end Go.Proofs.YteimplkdcjapdaaGreatDoor
set_option synthInstance.maxSize 2000
set_option synthInstance.maxHeartbeats 400000
namespace Go.Proofs.YteimplkdcjapdaaGreatDoor
open Go.RowKit
theorem zoA {w0:World} (at_:Vec) (l:List Int) (a:Int) (r:Stm) (r2:Vec) (p:Int) (hr:(stmtX (l.drop a.toNat) at_).1=r) (hr2:(stmtX (l.drop a.toNat) at_).2.1=r2) (hp:posA l (stmtX (l.drop a.toNat) at_).2.2=p) (ha:0≤a∧a≤l.length) (hl:l.length<9223372036854775807) (h1:-1000000≤at_.1∧at_.1≤1000000) (h2:-1000000≤at_.2.1∧at_.2.1≤1000000):BFun false (KN w0) Tryz.prog 48 [.o (.c (.p 0 0)),.o (.g [.d (pI at_.1),.d (pI at_.2.1),.d (pI at_.2.2)])] [(92,[.d (pLs cI l),.d (pI a)])] (.t [.g [.d (pI r.1),.d (pI r.2.1),.d (pS r.2.2.1),.d (pLs cE r.2.2.2)],.g [.d (pI r2.1),.d (pI r2.2.1),.d (pI r2.2.2)]]) [(92,[.d (pLs cI l),.d (pI p)])]:=zrf l a at_ r r2 p hr hr2 hp ha hl h1 h2
def cLI (x:List Int):List Pred:=[pLs cI x]
theorem zez {w0:World} (x:List Int):FineAll (KN w0) (cLI x):=⟨zx zR,trivial⟩
def kLI (x:List Int):List SV:=[.ls 1 cI kIc x]
instance {w0:World} {x:List Int}:FiL (KN w0) (kLI x):=inferInstanceAs (FiL (KN w0) [_])
instance {w0:World} {xs:List (List Int)}:Fi (KN w0) (.ls 1 cLI kLI xs):=fi_ls (fun _=>rfl) (fun _=>inferInstance) (fun _=>rfl)
instance {w0:World} {xs:List (List Int)}:FiP (KN w0) (pG cLI xs):=⟨qc zez⟩
instance {w0:World} {xs:List Stm}:Fi (KN w0) (.q (pLf cSt xs)):=⟨by rw [SV.fine];exact zkZ z8⟩
def walkP:List (List Int)→Vec→List Stm
 | [],_=>[]
 | x::r,a=>(stmtX x a).1::walkP r (stmtX x a).2.1
def sideP (b:Bool):List Stm:=(2,0,[],[.mk 2 0 [],numX 3,numX 0,numX 7])::if b then [sideX 0 0] else []
def progX (l:List (List Int)):List Sb:=[([109,97,105,110],1,walkP (l.take 9) (0,0,0)),([115,105,100,101],1,sideP (decide ((l.length:Int) > 5)))]
theorem zro {l:List (List Int)} {k:Nat} {x:List Int} {a:Vec} (h:l[k]?=some x):walkP (l.drop k) a=(stmtX x a).1::walkP (l.drop (k+1)) (stmtX x a).2.1:=by
 obtain ⟨h1,rfl⟩:=List.getElem?_eq_some_iff.1 h
 rw [List.drop_eq_getElem_cons h1,walkP]
theorem zri {l:List (List Int)} {k n:Nat} {x:List Int} (h:l[k]?=some x) (hk:k<n):(l.take n)[k]?=some x:=by rw [List.getElem?_take_of_lt hk];exact h
theorem zkk {a b:Vec} {n m:Int} (h:-n≤a.1∧a.1≤n) (h2:-n≤a.2.1∧a.2.1≤n) (k:-m≤b.1∧b.1≤m) (k2:-m≤b.2.1∧b.2.1≤m) (hn:n≤2000000) (hm:m≤2000000):(addV a b).1=a.1+b.1∧(addV a b).2.1=a.2.1+b.2.1:=by
 unfold addV
 exact ⟨wri (by omega),wri (by omega)⟩
theorem zrn {l:List Int} {k:Int} (h:0≤k) (h2:k≤100):-k≤(vecD l k).1.1∧(vecD l k).1.1≤k∧-k≤(vecD l k).1.2.1∧(vecD l k).1.2.1≤k:=by
 unfold vecD
 have a:=zH (l:=l) (m:=2*k+1) (by omega) (by omega)
 have b:=zH (l:=(drawX l (2*k+1)).2) (m:=2*k+1) (by omega) (by omega)
 dsimp only
 omega
theorem zoh {l:List Int} {a:Vec} {n:Int} (h:-n≤a.1∧a.1≤n) (h2:-n≤a.2.1∧a.2.1≤n) (h0:100≤n) (hn:n≤1000000):(-(n+100)≤(stmtX l a).2.1.1∧(stmtX l a).2.1.1≤n+100)∧-(n+100)≤(stmtX l a).2.1.2.1∧(stmtX l a).2.1.2.1≤n+100:=by
 unfold stmtX
 have b1:=zH (l:=(drawX l 12).2) (m:=13) (by omega) (by omega)
 generalize (drawX (drawX (drawX l 12).2 13).2 9).2=r
 generalize (1+(drawX (drawX (drawX l 12).2 13).2 9).1)=f
 generalize (drawX l 12).1=k
 generalize (drawX (drawX l 12).2 13).1=b at *
 have hv:=zrn (l:=r) (k:=8) (by omega) (by omega)
 have hd:=zH (l:=r) (m:=2) (by omega) (by omega)
 have a1:=zkk (a:=a) (b:=(2+3*(drawX r 2).1,0,0)) h h2 (m:=5) (by dsimp only;omega) (by dsimp only;omega) (by omega) (by omega)
 dsimp only at a1
 have a2:=zkk (a:=addV a (2+3*(drawX r 2).1,0,0)) (b:=(0,IntKind.i64.wrap ((addV a (2+3*(drawX r 2).1,0,0)).1 - a.1),0)) (n:=n+5) (m:=5) (by omega) (by omega) (by dsimp only;omega) (by dsimp only;rw [wri (by omega)];omega) (by omega) (by omega)
 dsimp only at a2
 rw [wri (n:=(addV a (2+3*(drawX r 2).1,0,0)).1 - a.1) (by omega)] at a2
 unfold stmtK
 repeat' split
 all_goals dsimp only
 all_goals first
  | omega
  | (unfold arcTo;rw [wri (n:=(addV a (2+3*(drawX r 2).1,0,0)).1 - a.1) (by omega)];omega)
def zhd:List Atom:=[.sl 0 0,.sl 2 (.o (.c (.k (.slice none 0 0)))),.sl 3 (.o (.c (.p 2 0))),.sl 4 (.o (.c (.p 5 0))),.sl 5 1,.bx 2 56 [.k (.string ⟨#[109,97,105,110]⟩),.k (.int .i64 1),.gr 901],.bx 5 26 [.h 2,.h 3,.h 4],.gl 901 62 4 1,.gn 21025]
def mpA_S:LoopS:=⟨4,zhd.map (tnA (jf [0,kI 0,kI 0,kI 0,kI 0]) (kf [0,0]) (kf [])),(.x 0),(drs [4,6] zhd)⟩
def mpA_t:Tr:=.s [(5002,.ln 22 3 0),(5003,.bin .lss 3 1 5)] (.b 6 (.s [(5006,.bin .lss 3 1 (kI 9))] (.b 7 (.s [(5010,.ia 22 24 1 0 1),(5011,.ld 24 0 8),(0,.raw [(1005015,.call ⟨48,[.o (.c (.p 5013 0)),.o (.g [2,3,4])],[.bx 5013 92 [.h 9,.k (.int .i64 0)]],.t [.g [10,11,12,13],.g [14,15,16]],[.bx 5013 92 [.h 9,.h 17]]⟩)] 8),(0,.gh ⟨6,[.bx 2 56 [.k (.string ⟨#[109,97,105,110]⟩),.k (.int .i64 1),.gr 901]],[.bx 2 56 [.k (.string ⟨#[109,97,105,110]⟩),.k (.int .i64 1),.gr 901],.bx 2 56 [.k (.string ⟨#[109,97,105,110]⟩),.k (.int .i64 1),.h 18]],[]⟩ 1),(0,.raw [(1005026,.dat 62 1 [.h 10,.h 11,.h 12,.h 13] 19)] 1),(0,.raw [(1005027,.app 62 4 901 1 2 19 [] false)] 0),(5033,.bin .add 3 1 (kI 1))] (.z (.nx [0,20,14,15,16] [0,2] []))) (.z (.xt (.x 0) [0] [0,1] [])))) (.z (.xt (.x 0) [0] [0,1] [])))
theorem zrR {w0:World} (l:(List (List Int))) (o2:(List Stm)) (hb:∀x∈l,x.length≤100) (hO:walkP (l.take 9) (0,0,0)=o2):LpH (KN w0) Tryz.prog 10 ⟨ntOf Tryz.prog 10,[],[]⟩ mpA_S 0 ⟨1,[.ls 1 cLI kLI l],[pG cSt ([]:List Stm),pG cSt o2],[]⟩:=by
 refine zi _ ⟨zhd,mpA_S,(5,2,0),(1,2,0),5000⟩ (T:=Int×Vec×(List Stm)) (fun t=>⟨5,[sI t.2.1.2.2,sI t.2.1.2.1,sI t.2.1.1,sI t.1,.ls 1 cLI kLI l],[pG cSt ([]:List Stm),pG cSt t.2.2],[]⟩) (fun (i,at_,o)=>∃k:Nat,i=(k:Int)∧k≤9∧k≤l.length∧o.length=k∧(-(100*k+100)≤at_.1∧at_.1≤100*k+100)∧(-(100*k+100)≤at_.2.1∧at_.2.1≤100*k+100)∧o++walkP ((l.take 9).drop k) at_=o2) (fun (i,at_,o)=>(9 - i).toNat) ((0:Int),((0:Int),(0:Int),(0:Int)),([]:List Stm)) [0,kI 0,kI 0,kI 0,kI 0] [0,0] [] mpA_t mixed ⟨0,rfl,by omega,by omega,rfl,by decide,by decide,hO⟩ rfl rfl rfl rfl (fun _=>rfl) rfl rfl (by kernel_rfl) ?_
 rintro ⟨i,at_,o⟩ hJ
 dsimp only at hJ ⊢
 obtain ⟨k,hi,hk,hl,ho,h1,h2,hs⟩:=hJ
 intro v501 e501 v502 e502
 refine ai (fun h503=>?_) fun h503=>?_
 ·
  intro v504 e504
  refine ai (fun h505=>?_) fun h505=>?_
  ·
   have dh503:=LD e502 h503
   have dh505:=LD e504 h505
   have hzv501:=e501
   refine ai (by (exact ⟨k,_,hi,List.getElem?_eq_getElem (by omega)⟩)) fun n506 x507 s508 s509=>?_
   obtain ⟨v510,e510⟩:=LX ((stmtX (x507.drop ((0:Int):Int).toNat) at_).1)
   obtain ⟨v511,e511⟩:=LX ((stmtX (x507.drop ((0:Int):Int).toNat) at_).2.1)
   obtain ⟨v512,e512⟩:=LX (posA x507 (stmtX (x507.drop ((0:Int):Int).toNat) at_).2.2)
   have s513:0≤(0:Int)∧(0:Int)≤x507.length:=by omega
   have s514:x507.length<9223372036854775807:=by (have hq:=hb _ (List.mem_of_getElem? s509);omega)
   have s515:-1000000≤at_.1∧at_.1≤1000000:=by omega
   have s516:-1000000≤at_.2.1∧at_.2.1≤1000000:=by omega
   refine rx [sI v510.1,sI v510.2.1,sS v510.2.2.1,.ls 3 cE kE v510.2.2.2,sI v511.1,sI v511.2.1,sI v511.2.2,sI v512] [] [] (fun t u w=>⟨b_con (pan:=false) (zoA at_ x507 (0:Int) v510 v511 v512 e510 e511 e512 s513 s514 s515 s516),trivial⟩) ?_
   refine rx [.q (pCkR (KN w0))] [] [] (fun t u w _=>qr (i:=2) (ls:=[.k (.string ⟨#[109,97,105,110]⟩),.k (.int .i64 1),.gr 901]) rfl) ?_
   obtain ⟨v517,e517⟩:=LX (([v510]:List Stm))
   refine rx [.ls 4 cSt kSt v517] [] [] (fun t u w=>⟨e_dat (c:=cSt) (l:=([v510]:List Stm)) (ps:=(pI v510.1::pI v510.2.1::pS v510.2.2.1::pLs cE v510.2.2.2::[])) (qs:=(pI v510.1::pI v510.2.1::pS v510.2.2.1::pLs cE v510.2.2.2::[])) (by rw [e517];rfl) rfl rfl rfl (pimps (fun _ _ _ h=>h) <| pimps (fun _ _ _ h=>h) <| pimps (fun _ _ _ h=>h) <| pimps (fun _ _ _ h=>h) <| ze) rfl,trivial⟩) ?_
   obtain ⟨v518,e518⟩:=LX (o++v517)
   have s519:(o.length+v517.length)*4≤1099511627776:=by (rw [← e517];simp only [List.length_singleton];omega)
   refine rx [] [pG cSt v518] [] (fun t u w=>⟨zV (c:=cSt) z8 (fun _=>rfl) rfl (by rw [e518];rfl) rfl s519,trivial⟩) ?_
   intro v520 e520
   refine nxl (v520,v511,v518) ?_ ?_ rfl
   any_goals dsimp only
   all_goals (have hkn:n506=k:=(by omega);subst hkn;rw [zro (zri s509 (by omega)),show (stmtX x507 at_).1=v510 from e510,show (stmtX x507 at_).2.1=v511 from e511] at hs;have hB:=zoh (l:=x507) (a:=at_) (n:=100*(n506:Int)+100) h1 h2 (by omega) (by omega);rw [show (stmtX x507 at_).2.1=v511 from e511] at hB;have x3:v520=((n506+1:Nat):Int):=(by rw [← e520,hi,wri (by omega)];omega))
   ·show (9 - v520).toNat<(9 - i).toNat
    omega
   ·exact ⟨n506+1,x3,by omega,by have:=(List.getElem?_eq_some_iff.1 s509).1;omega,by rw [← e518,← e517,List.length_append,ho];rfl,by omega,by omega,by rw [← e518,← e517,List.append_assoc];exact hs⟩
  ·
   have dh503:=LD e502 h503
   have dh505:=LE e504 h505
   have hzv501:=e501
   have hq:((o)=o2)∧True:=by
    refine ⟨?_,trivial⟩
    all_goals (rw [List.drop_of_length_le (by rw [List.length_take];omega),walkP,List.append_nil] at hs;exact hs)
   obtain ⟨q0,-⟩:=hq
   rw [← q0]
   rfl
 ·
  have dh503:=LE e502 h503
  have hzv501:=e501
  have hq:((o)=o2)∧True:=by
   refine ⟨?_,trivial⟩
   all_goals (rw [List.drop_of_length_le (by rw [List.length_take];omega),walkP,List.append_nil] at hs;exact hs)
  obtain ⟨q0,-⟩:=hq
  rw [← q0]
  rfl
def zot:Tr:=.s [(0,.gh ⟨1,[.bx 2 56 [.k (.string ⟨#[109,97,105,110]⟩),.k (.int .i64 1),.k (.slice none 0 0)],.gn 901],[.bx 2 56 [.k (.string ⟨#[109,97,105,110]⟩),.k (.int .i64 1),.gr 901],.gl 901 62 4 0],[]⟩ 0),(0,.lp mpA_S 0 0),(1009,.call 49 [LF (kI 3)] (.o (.g 3))),(1010,.call 49 [LF (kI 0)] (.o (.g 3))),(1011,.call 49 [LF (kI 7)] (.o (.g 3))),(0,.raw [(1001012,.dat 60 4 [.k (.int .i64 2),.k (.int .i64 0),.k (.slice none 0 0),.h 1,.h 2,.h 3,.h 4,.h 5,.h 6,.h 7,.h 8,.h 9] 10)] 1),(0,.raw [(1001014,.dat 62 1 [.k (.int .i64 2),.k (.int .i64 0),.k (.string ⟨#[]⟩),.h 10] 11)] 1),(0,.gh ⟨9,[.gl 901 62 4 1,.bx 2 56 [.k (.string ⟨#[109,97,105,110]⟩),.k (.int .i64 1),.gr 901]],[.bx 2 56 [.k (.string ⟨#[109,97,105,110]⟩),.k (.int .i64 1),.h 12]],[901]⟩ 1),(1019,.ln 22 3 0),(1020,.bin .gtr 3 13 (kI 5))] (.b 14 (.s [(1023,.call 44 [LF (kI 0),LF (kI 0)] (.o (.g 4))),(0,.raw [(1001024,.dat 62 1 [.h 15,.h 16,.h 17,.h 18] 19)] 1),(0,.raw [(1001025,.ap 54 [21025] 11 19 (LF (.gr 21025)) [] [.gl 21025 62 4 2])] 0),(0,.gh ⟨11,[.gl 21025 62 4 2,.bx 1016 56 [.k (.string ⟨#[115,105,100,101]⟩),.k (.int .i64 1),.gr 21025]],[.bx 1016 56 [.k (.string ⟨#[115,105,100,101]⟩),.k (.int .i64 1),.h 20]],[21025]⟩ 1),(0,.raw [(1001030,.dat 56 2 [.k (.string ⟨#[109,97,105,110]⟩),.k (.int .i64 1),.h 12,.k (.string ⟨#[115,105,100,101]⟩),.k (.int .i64 1),.h 20] 21)] 1)] (.z (.ret false (21) []))) (.s [(0,.raw [(1001023,.dat 56 2 [.k (.string ⟨#[109,97,105,110]⟩),.k (.int .i64 1),.h 12,.k (.string ⟨#[115,105,100,101]⟩),.k (.int .i64 1),.h 11] 15)] 1)] (.z (.ret false (15) []))))
theorem zsu {w0:World} (l:List (List Int)) (r:List Sb) (hr:progX l=r) (hb:∀x∈l,x.length≤100):Fun (KN w0) Tryz.prog 10 [.o (.c (pLs cLI l))] (.o (.c (pLs cSb r))):=by
 refine tfn w0 10 ⟨[0],[],[21025,901],0,0⟩ ⟨1,[.ls 1 cLI kLI l],[],[]⟩ zot (by kernel_rfl) ?_
 refine rx [] [pG cSt ([]:List Stm)] [] (fun t u w _=>zG (c:=cSt) (i:=2) (ls:=[.k (.string ⟨#[109,97,105,110]⟩),.k (.int .i64 1),.k (.slice none 0 0)]) rfl rfl) ?_
 obtain ⟨o2,hO_mpA⟩:∃(o2:(List Stm)),walkP (l.take 9) (0,0,0)=o2:=⟨_,rfl⟩
 refine rx [] [pG cSt o2] [] (zrR l  o2 hb hO_mpA) ?_
 obtain ⟨v1,e1⟩:=LX (numX (3:Int))
 refine cx (.o (.g [sI v1.op,sI v1.n,.ls 3 cE kE v1.l])) (t_num (3:Int) v1 e1) rfl ?_
 obtain ⟨v2,e2⟩:=LX (numX (0:Int))
 refine cx (.o (.g [sI v2.op,sI v2.n,.ls 3 cE kE v2.l])) (t_num (0:Int) v2 e2) rfl ?_
 obtain ⟨v3,e3⟩:=LX (numX (7:Int))
 refine cx (.o (.g [sI v3.op,sI v3.n,.ls 3 cE kE v3.l])) (t_num (7:Int) v3 e3) rfl ?_
 obtain ⟨v4,e4⟩:=LX (([(Xp.mk (2:Int) (0:Int) []),v1,v2,v3]:List Xp))
 refine rx [.ls 3 cE kE v4] [] [] (fun t u w=>⟨e_dat (c:=cE) (l:=([(Xp.mk (2:Int) (0:Int) []),v1,v2,v3]:List Xp)) (ps:=(pV (.int .i64 2)::pV (.int .i64 0)::pV (.slice none 0 0)::pI v1.op::pI v1.n::pLs cE v1.l::pI v2.op::pI v2.n::pLs cE v2.l::pI v3.op::pI v3.n::pLs cE v3.l::[])) (qs:=(pI (Xp.mk (2:Int) (0:Int) []).op::pI (Xp.mk (2:Int) (0:Int) []).n::pLs cE ((Xp.mk (2:Int) (0:Int) []).l)::pI v1.op::pI v1.n::pLs cE v1.l::pI v2.op::pI v2.n::pLs cE v2.l::pI v3.op::pI v3.n::pLs cE v3.l::[])) (by rw [e4];rfl) rfl rfl ((flatE _).trans rfl) (pimps (fun _ _ _ h=>h) <| pimps (fun _ _ _ h=>h) <| pimps (nil_X) <| pimps (fun _ _ _ h=>h) <| pimps (fun _ _ _ h=>h) <| pimps (fun _ _ _ h=>h) <| pimps (fun _ _ _ h=>h) <| pimps (fun _ _ _ h=>h) <| pimps (fun _ _ _ h=>h) <| pimps (fun _ _ _ h=>h) <| pimps (fun _ _ _ h=>h) <| pimps (fun _ _ _ h=>h) <| ze) rfl,trivial⟩) ?_
 obtain ⟨v5,e5⟩:=LX (([((2:Int),(0:Int),[],v4)]:List Stm))
 refine rx [.q (pLf cSt v5)] [] [] (fun t u w=>⟨zo7 (c:=cSt) (l:=([((2:Int),(0:Int),[],v4)]:List Stm)) (ps:=(pV (.int .i64 2)::pV (.int .i64 0)::pV (.string ⟨#[]⟩)::pLs cE v4::[])) (qs:=(pI ((2:Int),(0:Int),[],v4).1::pI ((2:Int),(0:Int),[],v4).2.1::pS ((2:Int),(0:Int),[],v4).2.2.1::pLs cE (((2:Int),(0:Int),[],v4).2.2.2)::[])) (by rw [e5];rfl) rfl rfl rfl (pimps (fun _ _ _ h=>h) <| pimps (fun _ _ _ h=>h) <| pimps (fun _ _ _ h=>h) <| pimps (fun _ _ _ h=>h) <| ze) rfl,trivial⟩) ?_
 refine rx [.ls 4 cSt kSt o2] [] [] (fun t u w hF=>zP (c:=cSt) (i:=2) (ls:=[.k (.string ⟨#[109,97,105,110]⟩),.k (.int .i64 1),.gr 901]) hF rfl (by decide) rfl (fun _=>rfl) (by decide) z8 rfl rfl) ?_
 intro v6 e6 v7 e7
 refine ai (fun h8=>?_) fun h8=>?_
 ·
  obtain ⟨v9,e9⟩:=LX (sideX (0:Int) (0:Int))
  refine cx (.o (.g [sI v9.1,sI v9.2.1,sS v9.2.2.1,.ls 3 cE kE v9.2.2.2])) (zdB (0:Int) (0:Int) v9 e9) rfl ?_
  obtain ⟨v10,e10⟩:=LX (([v9]:List Stm))
  refine rx [.ls 4 cSt kSt v10] [] [] (fun t u w=>⟨e_dat (c:=cSt) (l:=([v9]:List Stm)) (ps:=(pI v9.1::pI v9.2.1::pS v9.2.2.1::pLs cE v9.2.2.2::[])) (qs:=(pI v9.1::pI v9.2.1::pS v9.2.2.1::pLs cE v9.2.2.2::[])) (by rw [e10];rfl) rfl rfl rfl (pimps (fun _ _ _ h=>h) <| pimps (fun _ _ _ h=>h) <| pimps (fun _ _ _ h=>h) <| pimps (fun _ _ _ h=>h) <| ze) rfl,trivial⟩) ?_
  obtain ⟨v11,e11⟩:=LX (v5++v10)
  have s12:v5≠[]:=by (rw [← e5];simp)
  have s13:v10≠[]:=by (rw [← e10];simp)
  have s14:(v5.length+v10.length)*4≤1099511627776:=by (rw [← e5,← e10];simp)
  refine rx [] [pG cSt v11] [] (fun t u w=>⟨e_apF (zs:=(zah Tryz.prog 62).getD []) (kb:=(zaD Tryz.prog 62).getD 0) (by kernel_rfl) (by kernel_rfl) (by kernel_rfl) (by kernel_rfl) (by decide) (by decide +kernel) (by kernel_rfl) (by kernel_rfl) (by kernel_rfl) (fun _=>rfl) z8 rfl rfl s12 s13 (by rw [e11];rfl) s14,trivial⟩) ?_
  refine rx [.ls 4 cSt kSt v11] [] [] (fun t u w hF=>zP (c:=cSt) (i:=2) (ls:=[.k (.string ⟨#[115,105,100,101]⟩),.k (.int .i64 1),.gr 21025]) hF rfl (by decide) rfl (fun _=>rfl) (by decide) z8 rfl rfl) ?_
  obtain ⟨v15,e15⟩:=LX (([([109,97,105,110],(1:Int),o2),([115,105,100,101],(1:Int),v11)]:List Sb))
  refine rx [.ls 3 cSb kSb v15] [] [] (fun t u w=>⟨e_dat (c:=cSb) (l:=([([109,97,105,110],(1:Int),o2),([115,105,100,101],(1:Int),v11)]:List Sb)) (ps:=(pV (.string ⟨#[109,97,105,110]⟩)::pV (.int .i64 1)::pLs cSt o2::pV (.string ⟨#[115,105,100,101]⟩)::pV (.int .i64 1)::pLs cSt v11::[])) (qs:=(pS ([109,97,105,110],(1:Int),o2).1::pI ([109,97,105,110],(1:Int),o2).2.1::pLs cSt (([109,97,105,110],(1:Int),o2).2.2)::pS ([115,105,100,101],(1:Int),v11).1::pI ([115,105,100,101],(1:Int),v11).2.1::pLs cSt (([115,105,100,101],(1:Int),v11).2.2)::[])) (by rw [e15];rfl) rfl rfl rfl (pimps (fun _ _ _ h=>h) <| pimps (fun _ _ _ h=>h) <| pimps (fun _ _ _ h=>h) <| pimps (fun _ _ _ h=>h) <| pimps (fun _ _ _ h=>h) <| pimps (fun _ _ _ h=>h) <| ze) rfl,trivial⟩) ?_
  intro hc
  refine Fun.fin (r:=.o (.c (pLs cSb v15))) (zc (hc)) (fun v W D h=>?_)
  have r0:r=v15:=by
   (rw [← hr];unfold progX sideP;rw [show decide ((l.length:Int) > 5)=true from (by rw [e6];exact e7.trans h8),hO_mpA];simp only [← e15,← e11,← e10,← e9,← e5,← e4,← e3,← e2,← e1]<;>rfl)
  rw [r0];exact h
 ·
  obtain ⟨v9,e9⟩:=LX (([([109,97,105,110],(1:Int),o2),([115,105,100,101],(1:Int),v5)]:List Sb))
  refine rx [.ls 3 cSb kSb v9] [] [] (fun t u w=>⟨e_dat (c:=cSb) (l:=([([109,97,105,110],(1:Int),o2),([115,105,100,101],(1:Int),v5)]:List Sb)) (ps:=(pV (.string ⟨#[109,97,105,110]⟩)::pV (.int .i64 1)::pLs cSt o2::pV (.string ⟨#[115,105,100,101]⟩)::pV (.int .i64 1)::pLf cSt v5::[])) (qs:=(pS ([109,97,105,110],(1:Int),o2).1::pI ([109,97,105,110],(1:Int),o2).2.1::pLs cSt (([109,97,105,110],(1:Int),o2).2.2)::pS ([115,105,100,101],(1:Int),v5).1::pI ([115,105,100,101],(1:Int),v5).2.1::pLs cSt (([115,105,100,101],(1:Int),v5).2.2)::[])) (by rw [e9];rfl) rfl rfl rfl (pimps (fun _ _ _ h=>h) <| pimps (fun _ _ _ h=>h) <| pimps (fun _ _ _ h=>h) <| pimps (fun _ _ _ h=>h) <| pimps (fun _ _ _ h=>h) <| pimps (fun _ _ _ h=>h.1) <| ze) rfl,trivial⟩) ?_
  intro hc
  refine Fun.fin (r:=.o (.c (pLs cSb v9))) (zc (hc)) (fun v W D h=>?_)
  have r0:r=v9:=by
   (rw [← hr];unfold progX sideP;rw [show decide ((l.length:Int) > 5)=false from (by rw [e6];exact e7.trans h8),hO_mpA];simp only [← e9,← e5,← e4,← e3,← e2,← e1]<;>rfl)
  rw [r0];exact h
end Go.Proofs.YteimplkdcjapdaaGreatDoor
namespace Go.Proofs.YteimplkdcjapdaaGreatDoor
open Go.ChangeShapes Go.WideShapes Go.ChangeAt Go.RowKit Go.Joins Go.Deep
section
variable {H:Type} {enc:TypeId×Value→H} {held:Bool} {w:World}
abbrev IntOk (d:DataW H) (n:Int):Prop:=d=.lit (.int .i64 n)∧(Lit.int .i64 n).wf=true
theorem znT:Opens enc held w 22 (fun l:List (List Int)=>[pLs cLI l]) (SlOk (SlOk IntOk)):=zi7 (c:=cLI) Tryz.underlying22 znm (by decide) (fun _=>rfl) zqq
end
end Go.Proofs.YteimplkdcjapdaaGreatDoor
set_option synthInstance.maxSize 2000
set_option synthInstance.maxHeartbeats 400000
namespace Go.Proofs.YteimplkdcjapdaaGreatDoor
open Go.RowKit
def zlq (l:List (List Int)) (m:Int):List (List Int):=(l.take m.toNat).map (·.take 12)
theorem znC {l:List (List Int)} {k n:Nat} {x:List Int} (h:l[k]?=some x) (hk:k<n):((l.take n).map (·.take 12)).drop k=x.take 12::((l.take n).map (·.take 12)).drop (k+1):=by
 have h2:((l.take n).map (·.take 12))[k]?=some (x.take 12):=by rw [List.getElem?_map,List.getElem?_take_of_lt hk,h];rfl
 obtain ⟨h1,e⟩:=List.getElem?_eq_some_iff.1 h2
 rw [List.drop_eq_getElem_cons h1,e]
def zha:List Atom:=[.sl 0 0,.sl 1 1,.sl 4 (.o (.c (.k (.slice none 0 0)))),.sl 5 (.o (.c (.gr 901))),.sl 6 2,.gl 901 24 1 1]
def lsA_S:LoopS:=⟨3,zha.map (tnA (jf [0,1,kI 0]) (kf [0,0]) (kf [])),(.x 0),(drs [4] zha)⟩
def lsA_t:Tr:=.s [(5002,.ln 22 3 0),(5003,.bin .lss 3 2 3)] (.b 4 (.s [(5007,.bin .lss 3 2 1)] (.b 5 (.s [(5012,.ia 22 24 1 0 2),(5013,.ld 24 0 6),(5016,.ia 22 24 1 0 2),(5017,.ld 24 0 8),(5018,.ln 24 3 9),(0,.raw [(1005019,.op (.min [3,3] 3) [10,LF (.k (.int .i64 12))] [] 11)] 1),(0,.raw [(1005020,.op (.sc 24 false true false) [7,11] [] 12)] 1),(0,.raw [(1005022,.app 24 1 901 1 2 (.o (.c (.s 5021 0 1 1))) [.bx 5021 24 [.h 12]] false)] 0),(5025,.bin .add 3 2 (kI 1))] (.z (.nx [0,1,13] [0,2] []))) (.z (.xt (.x 0) [0,1] [0,1] [])))) (.z (.xt (.x 0) [0,1] [0,1] [])))
theorem zrO {w0:World} (l:(List (List Int))) (m:Int) (o2:(List (List Int))) (hm:0≤m∧m≤100) (hO:(l.take m.toNat).map (·.take 12)=o2):LpH (KN w0) Tryz.prog 11 ⟨ntOf Tryz.prog 11,[],[]⟩ lsA_S 0 ⟨2,[sI m,.ls 1 cLI kLI l],[pG cLI ([]:List (List Int)),pG cLI o2],[]⟩:=by
 refine zi _ ⟨zha,lsA_S,(3,2,0),(2,2,0),5000⟩ (T:=Int×(List (List Int))) (fun t=>⟨3,[sI t.1,sI m,.ls 1 cLI kLI l],[pG cLI ([]:List (List Int)),pG cLI t.2],[]⟩) (fun (i,o)=>∃k:Nat,i=(k:Int)∧k≤l.length∧(k:Int)≤m∧o.length=k∧o++((l.take m.toNat).map (·.take 12)).drop k=o2) (fun (i,o)=>(m - i).toNat) ((0:Int),([]:List (List Int))) [0,1,kI 0] [0,0] [] lsA_t mixed ⟨0,rfl,by omega,by omega,rfl,hO⟩ rfl rfl rfl rfl (fun _=>rfl) rfl rfl (by kernel_rfl) ?_
 rintro ⟨i,o⟩ hJ
 dsimp only at hJ ⊢
 obtain ⟨k,hi,hk,hkm,ho,hs⟩:=hJ
 intro v501 e501 v502 e502
 refine ai (fun h503=>?_) fun h503=>?_
 ·
  intro v504 e504
  refine ai (fun h505=>?_) fun h505=>?_
  ·
   have dh503:=LD e502 h503
   have dh505:=LD e504 h505
   have hzv501:=e501
   refine ai (by (exact ⟨k,_,hi,List.getElem?_eq_getElem (by omega)⟩)) fun n506 x507 s508 s509=>?_
   refine ai (by (exact ⟨k,_,hi,List.getElem?_eq_getElem (by omega)⟩)) fun n510 x511 s512 s513=>?_
   intro v514 e514
   obtain ⟨v515,e515⟩:=LX ((if (12:Int)<v514 then (12:Int) else v514))
   refine rx [sI v515] [] [] (fun t u w=>⟨e_op2 (za rfl) zf (za rfl) (fun W=>by rw [← e515];exact zlW W),trivial⟩) ?_
   obtain ⟨n516,s517⟩:∃(n516:Nat),v515=(n516:Int):=by exact ⟨min 12 x511.length,by rw [← e515,← e514];split<;>omega⟩
   obtain ⟨v518,e518⟩:=LX (x507.take n516)
   have s519:n516≤x507.length:=by (have hxx:x511=x507:=(by have a1:=s509;have a2:=s513;rw [show n510=n506 by omega,a1] at a2;injection a2 with a2;exact a2.symm);have h3:=s517;rw [← e515,← e514,hxx] at h3;split at h3<;>omega)
   refine rx [.ls 1 cI kIc v518] [] [] (fun t u w=>⟨zak (E:=3) (z:=1) (fun _=>rfl) (by kernel_rfl) (by kernel_rfl) (zm rfl) (za rfl) s517 s519 (zm (by rw [e518];rfl)),trivial⟩) ?_
   obtain ⟨v520,e520⟩:=LX (o++[v518])
   have s521:(o.length+1)*1≤1099511627776:=by (omega)
   refine rx [] [pG cLI v520] [] (fun t u w=>⟨zrI (c:=cLI) (x:=v518) zez (fun _=>rfl) (.inr ⟨rfl,rfl⟩) (by rw [e520];rfl) rfl (fun _ _ _ h=>h) rfl s521,trivial⟩) ?_
   intro v522 e522
   refine nxl (v522,v520) ?_ ?_ rfl
   any_goals dsimp only
   all_goals (have hkn:n506=k:=(by omega);subst hkn;have hxx:x511=x507:=(by have a1:=s509;have a2:=s513;rw [show n510=n506 by omega,a1] at a2;injection a2 with a2;exact a2.symm);have ht:x507.take 12=v518:=(by have h3:=s517;rw [← e515,← e514,hxx] at h3;rw [← e518];split at h3<;>first | (rw [show n516=12 by omega]) | (rw [List.take_of_length_le (by omega),List.take_of_length_le (by omega)]));rw [znC s509 (by omega),ht] at hs;have x3:v522=((n506+1:Nat):Int):=(by rw [← e522,hi,wri (by omega)];omega))
   ·show (m - v522).toNat<(m - i).toNat
    omega
   ·exact ⟨n506+1,x3,by have:=(List.getElem?_eq_some_iff.1 s509).1;omega,by omega,by rw [← e520,List.length_append,ho];rfl,by rw [← e520,List.append_assoc];exact hs⟩
  ·
   have dh503:=LD e502 h503
   have dh505:=LE e504 h505
   have hzv501:=e501
   have hq:((o)=o2)∧True:=by
    refine ⟨?_,trivial⟩
    all_goals (rw [List.drop_of_length_le (by rw [List.length_map,List.length_take];omega),List.append_nil] at hs;exact hs)
   obtain ⟨q0,-⟩:=hq
   rw [← q0]
   rfl
 ·
  have dh503:=LE e502 h503
  have hzv501:=e501
  have hq:((o)=o2)∧True:=by
   refine ⟨?_,trivial⟩
   all_goals (rw [List.drop_of_length_le (by rw [List.length_map,List.length_take];omega),List.append_nil] at hs;exact hs)
  obtain ⟨q0,-⟩:=hq
  rw [← q0]
  rfl
def zms:Tr:=.s [(0,.gh ⟨1,[.sl 5 (.o (.c (.k (.slice none 0 0)))),.gn 901],[.sl 5 (.o (.c (.gr 901))),.gl 901 24 1 0],[]⟩ 0),(0,.lp lsA_S 0 0),(0,.gh ⟨6,.gl 901 24 1 1::[4].map (fun s=>.sl s (.o (.c (.gr 901)))),[4].map (fun s=>.sl s 2),[901]⟩ 1)] (.z (.ret false (2) []))
theorem zq4 {w0:World} (l:List (List Int)) (m:Int) (r:List (List Int)) (hr:zlq l m=r) (hm:0≤m∧m≤100):Fun (KN w0) Tryz.prog 11 [.o (.c (pLs cLI l)),.o (.c (pI m))] (.o (.c (pLs cLI r))):=by
 refine tfn w0 11 ⟨[0,1],[],[901],0,0⟩ ⟨2,[sI m,.ls 1 cLI kLI l],[],[]⟩ zms (by kernel_rfl) ?_
 refine rx [] [pG cLI ([]:List (List Int))] [] (fun t u w _=>zbT (c:=cLI) rfl) ?_
 obtain ⟨o2,hO_lsA⟩:∃(o2:(List (List Int))),(l.take m.toNat).map (·.take 12)=o2:=⟨_,rfl⟩
 refine rx [] [pG cLI o2] [] (zrO l m  o2 hm hO_lsA) ?_
 refine rx [.ls 1 cLI kLI o2] [] [] (fun t u w _=>qS (c:=cLI) (fun _=>rfl) (by decide) zez rfl rfl) ?_
 intro hc
 refine Fun.fin (r:=.o (.c (pLs cLI o2))) (zc (hc)) (fun v W D h=>?_)
 have r0:r=o2:=by
  exact hr.symm.trans hO_lsA
 rw [r0];exact h
end Go.Proofs.YteimplkdcjapdaaGreatDoor
set_option synthInstance.maxSize 2000
set_option synthInstance.maxHeartbeats 400000
namespace Go.Proofs.YteimplkdcjapdaaGreatDoor
open Go.RowKit
end Go.Proofs.YteimplkdcjapdaaGreatDoor
namespace Go.Proofs.YteimplkdcjapdaaGreatDoor
open Go.RowKit
def Sm (a:Int) (e:Xp):Prop:=(∃n,(-1048576≤n∧n≤1048576)∧e=numX n)∨(e=.mk 2 0 []∧(1≤a∧a≤4))
def Gs (a:Int) (s:Stm):Prop:=s.2.2.1=[]∧((s.1=1∧s.2.1=0∧s.2.2.2.length=3)∨(s.1=2∧s.2.1=0∧s.2.2.2.length=4)∨(s.1=3∧s.2.1=0∧s.2.2.2.length=7)∨(s.1=4∧s.2.1=0∧s.2.2.2.length=0)∨(s.1=4∧s.2.1=1∧s.2.2.2.length=1)∨(s.1=4∧s.2.1=2∧s.2.2.2.length=1))∧∀e∈s.2.2.2,Sm a e
theorem sm_up {e:Xp} (h:Sm 0 e) (a:Int):Sm a e:=h.elim .inl fun h=>absurd h.2.1 (by decide)
theorem gs_up {s:Stm} (h:Gs 0 s) (a:Int):Gs a s:=⟨h.1,h.2.1,fun e he=>sm_up (h.2.2 e he) a⟩
theorem zmd {a n:Int} (h:-1048576≤n∧n≤1048576):Sm a (numX n):=.inl ⟨n,h,rfl⟩
theorem zp4 {a:Int} (h:1≤a∧a≤4):z6 (.mk 2 0 []) a=0:=by
 show (if (1:Int) > 30 then (2:Int) else if zj 2 0 0 a≠0 then zj 2 0 0 a else 0)=0
 have hf:zj 2 0 0 a=0:=by
  unfold zj
  rw [if_pos (.inr rfl),if_neg (by omega),if_neg (by omega),if_neg (by omega)]
 rw [if_neg (by omega),hf];rfl
theorem zrD {a:Int} {e:Xp} (h:Sm a e):z6 e a=0:=by
 rcases h with ⟨n,hn,rfl⟩ | ⟨rfl,ha⟩
 ·exact zes hn
 ·exact zp4 ha
theorem zam {a:Int}:∀{l:List Xp},(∀e∈l,Sm a e)→zbb a l=0
 | [],_=>rfl
 | e::r,h=>by rw [zbb,zrD (h e (by simp)),zam fun x hx=>h x (List.mem_cons_of_mem _ hx)];rfl
theorem znN {a:Int} {e:Xp} (h:Sm a e):nodes e=1:=by
 rcases h with ⟨n,hn,rfl⟩ | ⟨rfl,ha⟩<;>rfl
theorem zld {a:Int} {s:Stm} (h:Gs a s):s.2.2.2.length≤7:=by have:=h.2.1;omega
theorem qL {a k n m:Int} {l:List Xp} {f:Frmt} (h1:zg.find? (fun f=>(f.1 == k) && (f.2.1 == n))=some f) (h2:(manyF f,f.2.2.2,zaf f)=(m,0,false)) (hl:(l.length:Int)=m) (h:zbb a l=0):stmE a (k,n,[],l)=0:=by
 unfold stmE
 rw [show zg.find? (zae (k,n,[],l))=some f from h1]
 injection h2 with h3 h4
 injection h4 with h4 h5
 have e:fitsF (k,n,[],l) f=true:=by
  unfold fitsF
  rw [h3,h4,h5]
  dsimp only
  rw [hl]
  simp
 dsimp only
 rw [if_pos e,h5]
 exact h
theorem gs_ok {a:Int} {s:Stm} (h:Gs a s):stmE a s=0:=by
 obtain ⟨k,n,w,l⟩:=s
 obtain ⟨h1,h2,h3⟩:=h
 dsimp only at h1 h2 h3
 obtain rfl:=h1
 rcases h2 with ⟨rfl,rfl,hl⟩ | ⟨rfl,rfl,hl⟩ | ⟨rfl,rfl,hl⟩ | ⟨rfl,rfl,hl⟩ | ⟨rfl,rfl,hl⟩ | ⟨rfl,rfl,hl⟩
 ·exact qL (f:=zg.getD 0 (0,0,[],0)) (m:=3) (by kernel_rfl) (by kernel_rfl) (by omega) (zam h3)
 ·exact qL (f:=zg.getD 1 (0,0,[],0)) (m:=4) (by kernel_rfl) (by kernel_rfl) (by omega) (zam h3)
 ·exact qL (f:=zg.getD 2 (0,0,[],0)) (m:=7) (by kernel_rfl) (by kernel_rfl) (by omega) (zam h3)
 ·exact qL (f:=zg.getD 3 (0,0,[],0)) (m:=0) (by kernel_rfl) (by kernel_rfl) (by omega) (zam h3)
 ·exact qL (f:=zg.getD 4 (0,0,[],0)) (m:=1) (by kernel_rfl) (by kernel_rfl) (by omega) (zam h3)
 ·exact qL (f:=zg.getD 5 (0,0,[],0)) (m:=1) (by kernel_rfl) (by kernel_rfl) (by omega) (zam h3)
def Ps (a:Int) (s:Stm):Prop:=s.1=5∨Gs a s
theorem gs_w {a:Int} {s:Stm} (h:Gs a s):s.2.2.2.length≤1000000∧∀e∈s.2.2.2,nodes e≤1000000:=⟨by have:=zld h;omega,fun e he=>by rw [znN (h.2.2 e he)];omega⟩
theorem gs_w2 {a:Int} {s:Stm} (h:Gs a s):s.2.2.2.length≤1000∧∀e∈s.2.2.2,nodes e≤1000000:=⟨by have:=zld h;omega,(gs_w h).2⟩
theorem zt5 {l:List Sb} (hl:l.length≤1000000) (h:∀s∈l,s.2.2.length≤1000000∧∀t∈s.2.2,t.2.2.2.length≤1000000∧∀e∈t.2.2.2,nodes e≤1000000):SbW l:=⟨hl,h⟩
section
variable {n:Int} (hn:-1048576≤n∧n≤1048576) {before inner:List Stm} (hb:∀s∈before,Gs 0 s) (hi:∀s∈inner,Gs 1 s) (hbl:before.length≤20) (hil:inner.length≤40)
include hn hb hi hbl hil
end
end Go.Proofs.YteimplkdcjapdaaGreatDoor
namespace Go.Proofs.YteimplkdcjapdaaGreatDoor
open Go.RowKit
def Rg (n:Int):Prop:=-1048576≤n∧n≤1048576
theorem zeI {a:Int} {l:List Int} (h:∀n∈l,Rg n):∀e∈l.map numX,Sm a e:=fun e he=>by
 obtain ⟨n,hn,rfl⟩:=List.mem_map.1 he
 exact zmd (h n hn)
def RgV (v:Vec):Prop:=Rg v.1∧Rg v.2.1∧Rg v.2.2
theorem zn8 {v:Vec} (h:RgV v):Gs 0 (zd9 v):=⟨rfl,.inl ⟨rfl,rfl,rfl⟩,zeI (l:=[v.1,v.2.1,v.2.2]) fun n hn=>by
 simp only [List.mem_cons,List.not_mem_nil,or_false] at hn
 rcases hn with rfl | rfl | rfl
 ·exact h.1
 ·exact h.2.1
 ·exact h.2.2⟩
theorem zg8 {v:Vec} {f:Int} (h:RgV v) (hf:Rg f):Gs 0 (lineX v f):=⟨rfl,.inr (.inl ⟨rfl,rfl,rfl⟩),zeI (l:=[v.1,v.2.1,v.2.2,f]) fun n hn=>by
 simp only [List.mem_cons,List.not_mem_nil,or_false] at hn
 rcases hn with rfl | rfl | rfl | rfl
 ·exact h.1
 ·exact h.2.1
 ·exact h.2.2
 ·exact hf⟩
theorem zry {v w:Vec} {f:Int} (h:RgV v) (h2:RgV w) (hf:Rg f):Gs 0 (3,0,[],qe v++qe w++[numX f]):=⟨rfl,.inr (.inr (.inl ⟨rfl,rfl,rfl⟩)),zeI (l:=[v.1,v.2.1,v.2.2,w.1,w.2.1,w.2.2,f]) fun n hn=>by
 simp only [List.mem_cons,List.not_mem_nil,or_false] at hn
 rcases hn with rfl | rfl | rfl | rfl | rfl | rfl | rfl
 ·exact h.1
 ·exact h.2.1
 ·exact h.2.2
 ·exact h2.1
 ·exact h2.2.1
 ·exact h2.2.2
 ·exact hf⟩
theorem zqH {k r:Int} (h:k=1∨k=2) (hr:Rg r):Gs 0 (sideX k r):=by
 have e:sideX k r=(4,k,[],[numX r]):=if_neg (by omega)
 rw [e]
 refine ⟨rfl,?_,zeI (l:=[r]) fun n hn=>by obtain rfl:=List.mem_singleton.1 hn;exact hr⟩
 rcases h with rfl | rfl
 ·exact .inr (.inr (.inr (.inr (.inl ⟨rfl,rfl,rfl⟩))))
 ·exact .inr (.inr (.inr (.inr (.inr ⟨rfl,rfl,rfl⟩))))
theorem zof:Gs 0 (sideX 0 0):=⟨rfl,.inr (.inr (.inr (.inl ⟨rfl,rfl,rfl⟩))),fun e he=>by cases he⟩
def Ws (s:Stm):Prop:=s.2.2.2.length≤1000∧∀e∈s.2.2.2,nodes e≤1000000
def Bn (n:Int) (v:Vec):Prop:=(-n≤v.1∧v.1≤n)∧(-n≤v.2.1∧v.2.1≤n)∧-n≤v.2.2∧v.2.2≤n
theorem bn_rg {n:Int} {v:Vec} (h:Bn n v) (hn:n≤1000000):RgV v:=by
 obtain ⟨h1,h2,h3⟩:=h
 exact ⟨⟨by omega,by omega⟩,⟨by omega,by omega⟩,⟨by omega,by omega⟩⟩
theorem bn_up {n m:Int} {v:Vec} (h:Bn n v) (hn:n≤m):Bn m v:=by
 obtain ⟨h1,h2,h3⟩:=h
 exact ⟨by omega,by omega,by omega⟩
theorem zoS {n m:Int} {v w:Vec} (h:Bn n v) (h2:Bn m w) (hn:n≤2000000) (hm:m≤2000000):Bn (n+m) (addV v w):=by
 obtain ⟨h1,h3,h5⟩:=h
 obtain ⟨h2,h4,h6⟩:=h2
 unfold addV
 refine ⟨?_,?_,?_⟩
 all_goals
  show -(n+m)≤IntKind.i64.wrap _∧IntKind.i64.wrap _≤n+m
  rw [wri (by omega)]
  omega
theorem zrm {l:List Int}:Bn 8 (vecD l 8).1:=by
 unfold vecD
 have a:=zH (l:=l) (m:=2*8+1) (by omega) (by omega)
 have b:=zH (l:=(drawX l (2*8+1)).2) (m:=2*8+1) (by omega) (by omega)
 have c:=zH (l:=(drawX (drawX l (2*8+1)).2 (2*8+1)).2) (m:=2*8+1) (by omega) (by omega)
 exact ⟨by dsimp only;omega,by dsimp only;omega,by dsimp only;omega⟩
theorem zoi {l:List Int} {a:Vec} {n:Int} (h:Bn n a) (h0:100≤n) (hn:n≤900000):(Ps 0 (stmtX l a).1∧Ws (stmtX l a).1)∧Bn (n+100) (stmtX l a).2.1:=by
 unfold stmtX
 have b1:=zH (l:=(drawX l 12).2) (m:=13) (by omega) (by omega)
 have b2:=zH (l:=(drawX (drawX l 12).2 13).2) (m:=9) (by omega) (by omega)
 generalize (drawX (drawX (drawX l 12).2 13).2 9).2=r
 generalize (drawX (drawX (drawX l 12).2 13).2 9).1=f at *
 generalize (drawX l 12).1=k
 generalize (drawX (drawX l 12).2 13).1=b at *
 have hv:=bn_up (zrm (l:=r)) (show (8:Int)≤n+100 by omega)
 have hd:=zH (l:=r) (m:=2) (by omega) (by omega)
 have he:=zH (l:=(drawX r 2).2) (m:=2) (by omega) (by omega)
 have hu:=bn_up h (show n≤n+100 by omega)
 have hc:=zoS h (w:=(2+3*(drawX r 2).1,0,0)) (m:=5) ⟨by dsimp only;omega,by dsimp only;omega,by dsimp only;omega⟩ (by omega) (by omega)
 have ha:Bn (n+5+5) (arcTo a (addV a (2+3*(drawX r 2).1,0,0))):=by
  refine zoS hc ⟨by dsimp only;omega,?_,by dsimp only;omega⟩ (by omega) (by omega)
  have e:(addV a (2+3*(drawX r 2).1,0,0)).1=a.1+(2+3*(drawX r 2).1):=wri (by have:=h.1;omega)
  dsimp only
  rw [e,wri (by omega)]
  omega
 have lift:∀{s:Stm} {v:Vec} {t:List Int},Gs 0 s→Bn (n+100) v→(Ps 0 (s,v,t).1∧Ws (s,v,t).1)∧Bn (n+100) (s,v,t).2.1:=fun g b=>⟨⟨.inr g,gs_w2 g⟩,b⟩
 obtain ⟨h1,h2,h3⟩:=h
 have hx:Bn (n+100) (a.1+(b - 6),a.2.1,a.2.2):=⟨by dsimp only;omega,by dsimp only;omega,by dsimp only;omega⟩
 have hy:Bn (n+100) (a.1,a.2.1+(b - 6),a.2.2):=⟨by dsimp only;omega,by dsimp only;omega,by dsimp only;omega⟩
 have hf:Rg (1+f):=⟨by omega,by omega⟩
 unfold stmtK
 split
 ·exact lift (zn8 (bn_rg hv (by omega))) hv
 split
 ·exact lift (zg8 (bn_rg hv (by omega)) hf) hv
 split
 ·exact lift (zg8 (bn_rg hx (by omega)) hf) hx
 split
 ·exact lift (zg8 (bn_rg hy (by omega)) hf) hy
 split
 ·exact lift (zqH (by omega) ⟨by omega,by omega⟩) hu
 split
 ·exact lift zof hu
 split
 ·exact lift (zry (bn_rg hc (by omega)) (bn_rg ha (by omega)) hf) (bn_up ha (by omega))
 ·refine ⟨⟨.inl rfl,by show 1≤1000;omega,fun e he=>?_⟩,⟨by dsimp only;omega,by dsimp only;omega,by dsimp only;omega⟩⟩
  obtain rfl:=List.mem_singleton.1 he
  show 3≤1000000
  omega
theorem zmQ:∀{l:List (List Int)} {a:Vec} {n:Int},Bn n a→100≤n→n+100*(l.length:Int)≤900000→∀s∈walkP l a,Ps 0 s∧Ws s
 | [],_,_,_,_,_,s,hs=>by cases hs
 | x::r,a,n,h,h0,hn,s,hs=>by
  rw [List.length_cons] at hn
  have hx:=zoi (l:=x) h h0 (by omega)
  rw [walkP] at hs
  rcases List.mem_cons.1 hs with rfl | hs
  ·exact hx.1
  ·exact zmQ hx.2 (by omega) (by omega) s hs
theorem zjv:∀{l:List (List Int)} {a:Vec},(walkP l a).length=l.length
 | [],_=>rfl
 | x::r,a=>by rw [walkP,List.length_cons,List.length_cons,zjv]
theorem zhb {l:List (List Int)} {k:Nat} {x:Sb} (h:(progX l)[k]?=some x) (hk:(0:Int)=k):x.2.2.length≤9∧∀s∈x.2.2,Ps 0 s∧Ws s:=by
 obtain rfl:k=0:=by omega
 obtain rfl:=Option.some.inj h
 have hl:(l.take 9).length≤9:=List.length_take_le _ _
 refine ⟨by show (walkP (l.take 9) (0,0,0)).length≤9;rw [zjv];exact hl,zmQ (n:=100) ⟨by dsimp only;omega,by dsimp only;omega,by dsimp only;omega⟩ (by omega) (by omega)⟩
theorem zt6 {l:List (List Int)} {k:Nat} {x:Sb} (h:(progX l)[k]?=some x) (hk:(1:Int)=k):x.2.2.length≤2∧∀s∈x.2.2,Ps 1 s∧Ws s:=by
 obtain rfl:k=1:=by omega
 obtain rfl:=Option.some.inj h
 have h1:Gs 1 (2,0,[],[.mk 2 0 [],numX 3,numX 0,numX 7]):=⟨rfl,.inr (.inl ⟨rfl,rfl,rfl⟩),fun e he=>by
  rcases List.mem_cons.1 he with rfl | he
  ·exact .inr ⟨rfl,by omega,by omega⟩
  ·exact zeI (l:=[3,0,7]) (fun n hn=>by
    simp only [List.mem_cons,List.not_mem_nil,or_false] at hn
    rcases hn with rfl | rfl | rfl<;>exact ⟨by omega,by omega⟩) e he⟩
 have h2:Gs 1 (sideX 0 0):=gs_up zof 1
 show (sideP (decide ((l.length:Int) > 5))).length≤2∧∀s∈sideP (decide ((l.length:Int) > 5)),Ps 1 s∧Ws s
 cases decide ((l.length:Int) > 5) with
 | false=>exact ⟨by show 1≤2;omega,fun s hs=>by obtain rfl:=List.mem_singleton.1 hs;exact ⟨.inr h1,gs_w2 h1⟩⟩
 | true =>
  refine ⟨Nat.le_refl 2,fun s hs=>?_⟩
  rcases List.mem_cons.1 hs with rfl | hs
  ·exact ⟨.inr h1,gs_w2 h1⟩
  ·obtain rfl:=List.mem_singleton.1 hs
   exact ⟨.inr h2,gs_w2 h2⟩
theorem znD {l:List (List Int)} {m:Int}:∀x∈zlq l m,x.length≤100:=fun x hx=>by
 obtain ⟨y,_,rfl⟩:=List.mem_map.1 hx
 have:=List.length_take_le 12 y
 omega
end Go.Proofs.YteimplkdcjapdaaGreatDoor
namespace Go.Proofs.YteimplkdcjapdaaGreatDoor
open Go.RowKit
def By (b:Vec):Prop:=(-4≤b.1∧b.1≤4)∧(-4≤b.2.1∧b.2.1≤4)∧-4≤b.2.2∧b.2.2≤4
def shM (b:Vec) (m:Mov):Mov:=(m.1,addV m.2.1 b,addV m.2.2.1 b,if m.1=3 then addV m.2.2.2.1 b else m.2.2.2.1,m.2.2.2.2)
def ShC (b:Vec):Option Str→Option Str→Prop
 | none,none=>True
 | some c,some d=>(d.1=addV c.1 b∧inV c.1=true∧inV d.1=true)∧d.2.1=c.2.1∧(d.2.2.1=c.2.2.1.map (fun p=>addV p b)∧∀p∈c.2.2.1,inV p=true∧inV (addV p b)=true)∧d.2.2.2=c.2.2.2
 | _,_=>False
structure Shr (b:Vec) (s t:Rn):Prop where
 p:t.1=addV s.1 b
 i:inV s.1=true∧inV t.1=true
 m:t.2.1=s.2.1.map (shM b)
 c:ShC b s.2.2.2 t.2.2.2
section
variable {b:Vec} (hb:By b)
include hb
end
end Go.Proofs.YteimplkdcjapdaaGreatDoor
namespace Go.Proofs.YteimplkdcjapdaaGreatDoor
open Go.RowKit
theorem zkE {n a:Int} (h:Rg n):chkX (numX n) a=0:=by
 have q:=zes (a:=a) h
 exact q
theorem zoX {m:Mov} (h:chkM m=0):inV m.2.2.1=true∧inV m.2.2.2.1=true:=by
 unfold chkM at h
 split at h
 ·split at h
  ·rename_i h1;simp only [Bool.and_eq_true] at h1;exact ⟨h1.2.1,h1.2.2.1⟩
  ·cases h
 ·split at h
  ·split at h
   ·rename_i h1;simp only [Bool.and_eq_true] at h1;exact ⟨h1.2.1,h1.2.2.1⟩
   ·cases h
  ·cases h
section
variable {b:Vec} (hb:By b)
include hb
end
end Go.Proofs.YteimplkdcjapdaaGreatDoor
namespace Go.Proofs.YteimplkdcjapdaaGreatDoor
open Go.RowKit
theorem zeo {m:Mov} {s:Rn} {e:Int} (h:addS m s=.error e):e≠0:=by
 unfold addS at h
 split at h
 ·cases h
 split at h
 ·injection h with h;omega
 ·cases h
theorem zij {f:List Int} {e:Int}:∀{l:List Vec} {k:Nat} {s:Rn},addsL f k l s=.error e→e≠0
 | [],_,_,h=>by cases h
 | p::r,k,s,h=>by
  rw [addsL] at h
  split at h
  ·exact zij h
  ·rename_i e2 h2
   injection h with h
   rw [← h];exact zeo h2
theorem zpn {s:Rn} {e:Int} (h:offS s=.error e):e≠0:=by
 unfold offS at h
 split at h
 ·cases h
 split at h
 ·cases h
 split at h
 ·injection h with h;omega
 split at h
 ·injection h with h;omega
 split at h
 ·exact zij h
 ·injection h with h;omega
theorem zqa {x:Stm} {v:List Int} {s:Rn} {e:Int} (h:handS x v s=.error e):e≠0:=by
 unfold handS at h
 split at h
 ·unfold zJ at h
  split at h
  ·injection h with h;omega
  split at h
  ·exact zeo h
  ·injection h with h;omega
 split at h
 ·unfold lineS at h
  split at h
  ·split at h
   ·exact zeo h
   ·split at h
    ·cases h
    split at h
    ·injection h with h;omega
    ·cases h
  ·injection h with h;omega
 split at h
 ·unfold arcS at h
  split at h
  ·injection h with h;omega
  split at h
  ·rename_i hc
   injection h with h
   rw [← h];exact hc
  ·exact zeo h
 ·unfold turnS at h
  split at h
  ·exact zpn h
  split at h
  ·injection h with h;omega
  split at h
  ·injection h with h;omega
  ·cases h
theorem zmN {args:List Int} {e:Int}:∀{l:List Xp},valsE args l=.error e→e≠0
 | [],h=>by cases h
 | x::r,h=>by
  rw [valsE] at h
  split at h
  ·rename_i hc
   injection h with h
   rw [← h];exact hc
  ·split at h
   ·cases h
   ·rename_i e2 h2
    injection h with h
    rw [← h];exact zmN h2
theorem ziA {a:Int}:∀{l:List Xp},(∀e∈l,z6 e a=0)→zbb a l=0
 | [],_=>rfl
 | e::r,h=>by rw [zbb,h e (by simp),ziA fun x hx=>h x (List.mem_cons_of_mem _ hx)];rfl
end Go.Proofs.YteimplkdcjapdaaGreatDoor
namespace Go.Proofs.YteimplkdcjapdaaGreatDoor
open Go.RowKit
def conn:Vec→List Mov→Vec→Prop
 | p,[],q=>p=q
 | p,m::r,q=>chkM m=0∧m.2.1=p∧conn m.2.2.1 r q
theorem ztj:∀{l:List Mov} {p q:Vec} {m:Mov},conn p l q→chkM m=0→m.2.1=q→conn p (l++[m]) m.2.2.1
 | [],p,q,m,h,h1,h2=>⟨h1,h2.trans (Eq.symm h),rfl⟩
 | x::r,p,q,m,h,h1,h2=>⟨h.1,h.2.1,ztj h.2.2 h1 h2⟩
theorem ztk:∀{l:List Mov} {p q:Vec},conn p l q→ordL (some p) l=0
 | [],_,_,_=>rfl
 | x::r,p,q,h=>by
  rw [ordL,if_neg (fun e=>e h.1),if_pos (by simp [h.2.1])]
  exact ztk h.2.2
theorem ztP {l:List Mov} {p q:Vec} (h:conn p l q) (hl:l.length≤40):chkP l=0:=by
 unfold chkP
 rw [if_neg (by omega)]
 cases l with
 | nil=>rfl
 | cons x r =>
  rw [ordL,if_neg (fun e=>e h.1),if_pos (show Option.all (fun q=>decide (x.2.1=q)) none=true from rfl)]
  exact ztk h.2.2
theorem ztr {l:List Mov} {p q:Vec} {m:Mov} (h:conn p l q) (hm:l[0]?=some m):m.2.1=p:=by
 cases l with
 | nil=>cases hm
 | cons x r=>obtain rfl:=Option.some.inj hm;exact h.2.1
theorem zti:∀{l:List Mov} {p q:Vec},conn p l q→∀m∈l,chkM m=0
 | [],_,_,_,m,hm=>by cases hm
 | x::r,p,q,h,m,hm=>by
  rcases List.mem_cons.1 hm with rfl | hm
  ·exact h.1
  ·exact zti h.2.2 m hm
theorem zs7 {k f:Int} {p q:Vec} (hp:inV p=true) (hq:inV q=true) (hne:p≠q) (h:(k=1∧f=0)∨(k=2∧1≤f∧f≤100)):chkM (k,p,q,(0,0,0),f)=0:=by
 have hs:strM (k,p,q,(0,0,0),f)=true:=by unfold strM;rcases h with h | h<;>simp [h.1]
 have hz:inV (0,0,0)=true:=by decide
 have hf:fitS (k,p,q,(0,0,0),f)=true:=by simp [fitS,hne]
 have hlo:decide (lowM (k,p,q,(0,0,0),f)≤f)=true:=by
  unfold lowM;rcases h with ⟨rfl,rfl⟩ | ⟨rfl,h⟩
  ·rfl
  ·exact decide_eq_true h.1
 have hhi:decide (f≤highM (k,p,q,(0,0,0),f))=true:=by
  unfold highM;rcases h with ⟨rfl,rfl⟩ | ⟨rfl,h⟩
  ·rfl
  ·exact decide_eq_true h.2
 unfold chkM
 dsimp only
 rw [if_pos hs,hp,hq,hz,hlo,hhi,hf]
 rfl
structure Iv (st:Vec) (s:Rn):Prop where
 ln:s.2.1.length≤40
 pt:inV s.1=true
 no:s.2.2.2=none→conn st s.2.1 s.1
 so:∀c,s.2.2.2=some c→conn st s.2.1 c.1∧inV c.1=true∧c.2.2.2.length=c.2.2.1.length∧(∀f∈c.2.2.2,1≤f∧f≤100)∧(c.2.2.1=[]→s.1=c.1)
variable {st:Vec}
theorem ztT {s:Rn} {d:Int} (h:Iv st s):Iv st (s.1,s.2.1,d,s.2.2.2):=⟨h.ln,h.pt,h.no,h.so⟩
theorem ztl {m:Mov} {s t:Rn} (h:addS m s=.ok t) (hn:s.2.2.2=none) (hi:Iv st s) (hm:m.1=3∨s.1≠m.2.2.1→chkM (m.1,s.1,m.2.2)=0) (hin:inV m.2.2.1=true):Iv st t∧t.2.2.2=none:=by
 unfold addS at h
 split at h
 ·injection h with h;rw [← h];exact ⟨hi,hn⟩
 ·rename_i hc
  split at h
  ·cases h
  ·rename_i hl
   injection h with h
   rw [← h]
   have hc':m.1=3∨s.1≠m.2.2.1:=by
    by_cases h3:m.1=3
    ·exact .inl h3
    ·exact .inr fun e=>hc ⟨h3,e⟩
   refine ⟨⟨?_,hin,fun _=>ztj (m:=(m.1,s.1,m.2.2)) (hi.no hn) (hm hc') rfl,fun c hcc=>?_⟩,hn⟩
   ·show (s.2.1++[_]).length≤40
    rw [List.length_append,List.length_singleton];omega
   ·have hcc:s.2.2.2=some c:=hcc
    rw [hn] at hcc;cases hcc
theorem zt2 {l:List Int} {k:Nat} (h:∀f∈l,1≤f∧f≤100) (hk:k<l.length):1≤l.getD k 0∧l.getD k 0≤100:=by
 rw [List.getD_eq_getElem?_getD,List.getElem?_eq_getElem hk]
 exact h _ (List.getElem_mem hk)
theorem ztD {f:List Int} (hf:∀x∈f,1≤x∧x≤100):∀{l:List Vec} {k:Nat} {s t:Rn},addsL f k l s=.ok t→s.2.2.2=none→Iv st s→l.all inV=true→k+l.length≤f.length+1→f≠[]→Iv st t
 | [],_,_,_,h,_,hi,_,_,_=>by rw [addsL] at h;injection h with h;rw [← h];exact hi
 | p::r,k,s,t,h,hn,hi,ha,hk,hne=>by
  rw [addsL] at h
  rw [List.all_cons,Bool.and_eq_true] at ha
  rw [List.length_cons] at hk
  have hpos:0<f.length:=List.length_pos_iff.2 hne
  split at h
  ·rename_i u hu
   have h1:=ztl hu hn hi (fun hc=>zs7 hi.pt ha.1 (hc.resolve_left (by show ¬ (2:Int)=3;decide)) (.inr ⟨rfl,zt2 hf (by omega)⟩)) ha.1
   exact ztD hf h h1.2 h1.1 ha.2 (by omega) hne
  ·cases h
theorem ztf {f:List Int}:∀{l:List Vec} {k:Nat} {s t:Rn},addsL f k l s=.ok t→s.2.2.2=none→t.2.2.2=none
 | [],_,_,_,h,hn=>by rw [addsL] at h;injection h with h;rw [← h];exact hn
 | p::r,k,s,t,h,hn=>by
  rw [addsL] at h
  split at h
  ·rename_i u hu
   exact ztf h ((qd hu).trans hn)
  ·cases h
theorem ztU {s t:Rn} (h:offS s=.ok t) (hi:Iv st s):Iv st t∧conn st t.2.1 t.1:=by
 obtain ⟨pt,mv,dn,c⟩:=s
 cases c with
 | none=>injection h with h;rw [← h];exact ⟨hi,hi.no rfl⟩
 | some c =>
  obtain ⟨h1,h2,h3,h4,h5⟩:=hi.so c rfl
  unfold offS at h
  dsimp only at h
  split at h
  ·rename_i he
   injection h with h;rw [← h]
   have e:pt=c.1:=h5 he
   exact ⟨⟨hi.ln,hi.pt,fun _=>by show conn st mv pt;rw [e];exact h1,fun d hd=>by cases hd⟩,by show conn st mv pt;rw [e];exact h1⟩
  ·rename_i he
   split at h
   ·cases h
   ·split at h
    ·cases h
    ·split at h
     ·rename_i ha
      have hne:c.2.2.2≠[]:=fun e=>he (List.length_eq_zero_iff.1 (by rw [← h3,e];rfl))
      have hk:Iv st (c.1,mv,dn,none):=⟨hi.ln,h2,fun _=>h1,fun d hd=>by cases hd⟩
      have ht:=ztD h4 h rfl hk ha (by rw [zl,h3];omega) hne
      have hn:=ztf h rfl
      exact ⟨ht,ht.no hn⟩
     ·cases h
theorem zt3 {x:Stm} {v:List Int} {s t:Rn} (h:handS x v s=.ok t) (hi:Iv st s):Iv st t:=by
 unfold handS at h
 split at h
 ·unfold zJ at h
  split at h
  ·cases h
  ·rename_i hc
   split at h
   ·rename_i hin
    have hn:s.2.2.2=none:=by simpa using hc
    exact (ztl h hn hi (fun hc=>zs7 hi.pt hin (hc.resolve_left (by show ¬ (1:Int)=3;decide)) (.inl ⟨rfl,rfl⟩)) hin).1
   ·cases h
 ·split at h
  ·unfold lineS at h
   split at h
   ·rename_i hg
    simp only [Bool.and_eq_true,decide_eq_true_eq] at hg
    split at h
    ·rename_i hn
     exact (ztl h hn hi (fun hc=>zs7 hi.pt hg.1 (hc.resolve_left (by show ¬ (2:Int)=3;decide)) (.inr ⟨rfl,hg.2⟩)) hg.1).1
    ·rename_i c hc
     obtain ⟨h1,h2,h3,h4,h5⟩:=hi.so c hc
     split at h
     ·injection h with h;rw [← h];exact hi
     ·split at h
      ·cases h
      ·injection h with h
       rw [← h]
       refine ⟨hi.ln,hg.1,fun e=>(by cases e),fun d hd=>?_⟩
       obtain rfl:=Option.some.inj hd
       refine ⟨h1,h2,by simp [h3],fun f hf=>?_,fun e=>?_⟩
       ·rcases List.mem_append.1 hf with hf | hf
        ·exact h4 f hf
        ·obtain rfl:=List.mem_singleton.1 hf;exact hg.2
       ·exact absurd e (by simp)
   ·cases h
  ·split at h
   ·unfold arcS at h
    split at h
    ·cases h
    ·rename_i hc
     split at h
     ·cases h
     ·rename_i hk
      have hn:s.2.2.2=none:=by simpa using hc
      have hk:chkM (arcM v s)=0:=by simpa using hk
      exact (ztl h hn hi (fun _=>hk) (zoX hk).1).1
   ·unfold turnS at h
    split at h
    ·exact (ztU h hi).1
    ·split at h
     ·cases h
     ·rename_i hc
      split at h
      ·cases h
      ·injection h with h
       rw [← h]
       have hn:s.2.2.2=none:=by simpa using hc
       refine ⟨hi.ln,hi.pt,fun e=>(by cases e),fun d hd=>?_⟩
       obtain rfl:=Option.some.inj hd
       exact ⟨hi.no hn,hi.pt,rfl,fun f hf=>(by cases hf),fun _=>rfl⟩
theorem ztm {su:List (List UInt8×Sb)}:∀(n:Nat) (l:List Stm) (args:List Int) (s s':Rn),zB su n l args s=.ok s'→Iv st s→Iv st s'
 | 0,_,_,_,_,h,hg=>by injection h with h;rw [← h];exact hg
 | n+1,l,args,s,s',h,hg=>by
  rw [zdR] at h
  induction l generalizing s with
  | nil=>injection h with h;rw [← h];exact hg
  | cons x r ih =>
   rw [List.foldlM_cons] at h
   cases hx:stepC su n args s x with
   | error e=>rw [hx] at h;cases h
   | ok t =>
    rw [hx] at h
    refine ih t h ?_
    unfold stepC at hx
    split at hx
    ·cases hx
    ·split at hx
     ·split at hx
      ·exact zt3 hx (ztT hg)
      ·cases hx
     ·split at hx
      ·cases hx
      ·split at hx
       ·cases hx
       ·split at hx
        ·exact ztm n _ _ _ _ hx (ztT hg)
        ·cases hx
theorem ztQ {l:List Sb} {args:List Int} {start:Vec} {g:List Mov} (h:runS l args start=.ok g):g.length≤40∧∃q,conn start g q:=by
 unfold runS at h
 split at h
 ·cases h
 ·split at h
  ·cases h
  ·rename_i hs
   have hs:inV start=true:=by simpa using hs
   split at h
   ·cases h
   ·split at h
    ·cases h
    ·split at h
     ·cases h
     ·rename_i s hc
      split at h
      ·cases h
      ·rename_i t ht
       injection h with h
       have i0:Iv start (start,[],0,none):=⟨Nat.zero_le _,hs,fun _=>rfl,fun c hc=>by cases hc⟩
       have i1:=ztU ht (ztm 7 _ _ _ _ hc i0)
       rw [← h]
       exact ⟨i1.1.ln,_,i1.2⟩
theorem zth {su:List (List UInt8×Sb)} {e:Int}:∀(n:Nat) (l:List Stm) (args:List Int) (s:Rn),zB su n l args s=.error e→e≠0
 | 0,_,_,_,h=>by cases h
 | n+1,l,args,s,h=>by
  rw [zdR] at h
  induction l generalizing s with
  | nil=>cases h
  | cons x r ih =>
   rw [List.foldlM_cons] at h
   cases hx:stepC su n args s x with
   | ok t=>rw [hx] at h;exact ih t h
   | error k =>
    rw [hx] at h
    injection h with h
    subst h
    unfold stepC at hx
    split at hx
    ·injection hx with hx;omega
    ·split at hx
     ·split at hx
      ·exact zqa hx
      ·rename_i e2 h2
       injection hx with hx
       rw [← hx];exact zmN h2
     ·split at hx
      ·injection hx with hx;omega
      ·split at hx
       ·injection hx with hx;omega
       ·split at hx
        ·exact zth n _ _ _ hx
        ·rename_i e2 h2
         injection hx with hx
         rw [← hx];exact zmN h2
theorem zt4 {l:List Sb} {args:List Int} {start:Vec} {e:Int} (h:runS l args start=.error e):e≠0:=by
 unfold runS at h
 split at h
 ·rename_i hc;injection h with h;rw [← h];exact hc
 ·split at h
  ·injection h with h;omega
  ·split at h
   ·injection h with h;omega
   ·split at h
    ·injection h with h;omega
    ·split at h
     ·rename_i k hk;injection h with h;rw [← h];exact zth _ _ _ _ hk
     ·split at h
      ·rename_i k hk;injection h with h;rw [← h];exact zpn hk
      ·cases h
theorem zs6 {l:List Sb} {args:List Int} {start:Vec} {g:List Mov} {e:Int} (hr:(runP l args start).1=g) (he:(runP l args start).2=e):(e=0→g.length≤40∧∃q,conn start g q)∧(e≠0→g=[]):=by
 unfold runP at hr he
 cases h:runS l args start with
 | error k =>
  rw [h] at hr he
  exact ⟨fun h0=>absurd (he.trans h0) (zt4 h),fun _=>hr.symm⟩
 | ok m =>
  rw [h] at hr he
  obtain rfl:m=g:=hr
  exact ⟨fun _=>ztQ h,fun h0=>absurd he.symm h0⟩
end Go.Proofs.YteimplkdcjapdaaGreatDoor
namespace Go.Proofs.YteimplkdcjapdaaGreatDoor
open Go.RowKit
attribute [local go_sem] Oper.semAt_some
def atP (m:Mov) (s:Int):Vec×Bool:=if chkM m=0∧0≤s then match (ptsM m)[s.toNat]? with
  | some v=>(v,true)
  | none=>((0,0,0),false)
 else ((0,0,0),false)
theorem five {W W5:World} {a b c d e:Obj} (h:((((W.alloc a).alloc b).alloc c).alloc d).alloc e=W5):W5.heap.size=W.heap.size+1+1+1+1+1∧W5.heap[W.heap.size]?=some a∧W5.heap[W.heap.size+1]?=some b∧W5.heap[W.heap.size+1+1]?=some c∧W5.heap[W.heap.size+1+1+1]?=some d∧W5.heap[W.heap.size+1+1+1+1]?=some e∧Below W.heap.size W W5:=by
 have ha:=heap_alloc_new W a
 have hb:=heap_alloc_new (W.alloc a) b
 have hc:=heap_alloc_new ((W.alloc a).alloc b) c
 have hd:=heap_alloc_new (((W.alloc a).alloc b).alloc c) d
 have he:=heap_alloc_new ((((W.alloc a).alloc b).alloc c).alloc d) e
 simp only [World.size_alloc] at hb hc hd he
 rw [← h]
 refine ⟨by simp,?_,?_,?_,?_,he,?_⟩
 ·exact (Below.heap_alloc _ _ _ (by simp<;>omega)).trans ((Below.heap_alloc _ _ _ (by simp<;>omega)).trans ((Below.heap_alloc _ _ _ (by simp<;>omega)).trans ((Below.heap_alloc _ _ _ (by simp<;>omega)).trans ha)))
 ·exact (Below.heap_alloc _ _ _ (by simp<;>omega)).trans ((Below.heap_alloc _ _ _ (by simp<;>omega)).trans ((Below.heap_alloc _ _ _ (by simp<;>omega)).trans hb))
 ·exact (Below.heap_alloc _ _ _ (by simp<;>omega)).trans ((Below.heap_alloc _ _ _ (by simp<;>omega)).trans hc)
 ·exact (Below.heap_alloc _ _ _ (by simp<;>omega)).trans hd
 ·exact (((((Below.refl _ W).alloc (Nat.le_refl _) _).alloc (by simp) _).alloc (by simp;omega) _).alloc (by simp;omega) _).alloc (by simp;omega) _
structure At5 (n:Nat) (m:Mov) (s k:Int) (v:Vec) (b:Bool) (W:World):Prop where
 c0:W.heap[n]?=some (.cells (mcs m).toArray 45 (0,0))
 c1:W.heap[n+1]?=some (.cells #[.int .i64 s] 3 (0,0))
 c2:W.heap[n+1+1]?=some (.cells (vcs v).toArray 26 (0,0))
 c3:W.heap[n+1+1+1]?=some (.cells #[.bool b] 4 (0,0))
 c4:W.heap[n+1+1+1+1]?=some (.cells #[.int .i64 k] 3 (0,0))
theorem At5.lt {n:Nat} {m:Mov} {s k:Int} {v:Vec} {b:Bool} {W:World} (h:At5 n m s k v b W):n+1+1+1+1<W.heap.size:=(Array.getElem?_eq_some_iff.1 h.c4).1
theorem At5.via {n:Nat} {m:Mov} {s k:Int} {v:Vec} {b:Bool} {W W':World} (h:At5 n m s k v b W) (hb:Below W.heap.size W W'):At5 n m s k v b W':=by
 have:=h.lt
 exact ⟨(hb.block _ (by omega)).trans h.c0,(hb.block _ (by omega)).trans h.c1,(hb.block _ (by omega)).trans h.c2,(hb.block _ (by omega)).trans h.c3,(hb.block _ (by omega)).trans h.c4⟩
theorem At5.own {n:Nat} {m:Mov} {s k:Int} {v:Vec} {b:Bool} {W W':World} {row:Option Nat} (h:At5 n m s k v b W) (hg:W.grownBy W' row) (hr:∀r,row=some r→∃o:Obj,W.heap[r]?=some o∧o.isCells=false):At5 n m s k v b W' :=
 ⟨zfP h.c0 rfl hg hr,zfP h.c1 rfl hg hr,zfP h.c2 rfl hg hr,zfP h.c3 rfl hg hr,zfP h.c4 rfl hg hr⟩
theorem cellM {W:World} {b:Nat} {T:TypeId} {m:Mov} (h:W.heap[b]?=some (.cells (mcs m).toArray T (0,0))):W.cell? ⟨b,0,none⟩=some (.int .i64 m.1)∧W.cell? ⟨b,1,none⟩=some (.int .i64 m.2.1.1)∧W.cell? ⟨b,2,none⟩=some (.int .i64 m.2.1.2.1)∧W.cell? ⟨b,3,none⟩=some (.int .i64 m.2.1.2.2)∧W.cell? ⟨b,4,none⟩=some (.int .i64 m.2.2.1.1)∧W.cell? ⟨b,5,none⟩=some (.int .i64 m.2.2.1.2.1)∧W.cell? ⟨b,6,none⟩=some (.int .i64 m.2.2.1.2.2)∧W.cell? ⟨b,7,none⟩=some (.int .i64 m.2.2.2.1.1)∧W.cell? ⟨b,8,none⟩=some (.int .i64 m.2.2.2.1.2.1)∧W.cell? ⟨b,9,none⟩=some (.int .i64 m.2.2.2.1.2.2)∧W.cell? ⟨b,10,none⟩=some (.int .i64 m.2.2.2.2):=
 ⟨by rw [zq h];rfl,by rw [zq h];rfl,by rw [zq h];rfl,by rw [zq h];rfl,by rw [zq h];rfl,by rw [zq h];rfl,by rw [zq h];rfl,by rw [zq h];rfl,by rw [zq h];rfl,by rw [zq h];rfl,by rw [zq h];rfl⟩
theorem froz {W:World} {b i:Nat} {T:TypeId} {cs:Array Value} (h:W.heap[b]?=some (.cells cs T (0,0))):W.frozen? ⟨b,i,none⟩=false:=by simp [World.frozen?,h]
theorem cellB {W:World} {b:Nat} {T:TypeId} {u:Value} (h:W.heap[b]?=some (.cells #[u] T (0,0))):W.cell? ⟨b,0,none⟩=some u:=by rw [zq h];rfl
theorem ztW (m:Mov) (hc:chkM m=0) (n₀:Nat) (W:World) (hn₀:n₀≤W.heap.size) (g B:Nat) (lb:Array Value) (hg:(∃b1 b2 b3:Nat,strM m=true∧g=194∧lb=#[.pointer (some ⟨b1,0,none⟩),.pointer (some ⟨b2,0,none⟩),.pointer (some ⟨b3,0,none⟩)] ∧
   W.heap[b1]?=some (.cells #[.int .i64 (primV (subV m.2.2.1 m.2.1)).2] 3 (0,0))∧W.heap[b2]?=some (.cells (mcs m).toArray 169 (0,0))∧W.heap[b3]?=some (.cells (vcs (primV (subV m.2.2.1 m.2.1)).1).toArray 26 (0,0))∧∀b∈[b1,b2,b3],B≤b)
  ∨ (∃b1 b2 b3 b4:Nat,(m.1 == 3)=true∧g=202∧lb=#[.pointer (some ⟨b1,0,none⟩),.pointer (some ⟨b2,0,none⟩),.pointer (some ⟨b3,0,none⟩),.pointer (some ⟨b4,0,none⟩)] ∧
   W.heap[b1]?=some (.cells #[.int .i64 (sideA m).2] 3 (0,0))∧W.heap[b2]?=some (.cells (vcs (plusV m.2.1 (sideA m).1 (wI (0 - (sideA m).2)))).toArray 26 (0,0))∧W.heap[b3]?=some (.cells (vcs (sideA m).1).toArray 26 (0,0))∧W.heap[b4]?=some (.cells (vcs (sideB m).1).toArray 26 (0,0))∧∀b∈[b1,b2,b3,b4],B≤b)) :
  (∀args w,(callFunc g args).run Tryz.prog w=.ok (.enter g args) w)∧∃bs:List Nat,(∀b∈bs,B≤b∧b<W.heap.size)∧SeqStopsK Fence.wide (4 - 1) Tryz.prog g lb (fun x=>#[vagg x]) (KpS n₀ bs) (fun ys=>ys=ptsM m) (fun pre=>pre <+: ptsM m) 60 W:=by
 have hi:=zkB hc
 rcases hg with ⟨b1,b2,b3,hk,rfl,rfl,h1,h2,h3,hge⟩ | ⟨b1,b2,b3,b4,hk,rfl,rfl,h1,h2,h3,h4,hge⟩
 ·have hl:(primV (subV m.2.2.1 m.2.1)).2≤((48:Nat):Int):=zd8 (zge hi.2.1 hi.1)
  have hp0:=zqs (subV m.2.2.1 m.2.1)
  have eN:(((primV (subV m.2.2.1 m.2.1)).2.toNat:Nat):Int)=(primV (subV m.2.2.1 m.2.1)).2:=Int.toNat_of_nonneg hp0
  rw [← eN] at h1
  have g1:=(Array.getElem?_eq_some_iff.1 h1).1
  have g2:=(Array.getElem?_eq_some_iff.1 h2).1
  have g3:=(Array.getElem?_eq_some_iff.1 h3).1
  refine ⟨fun _ _=>qO (by kernel_rfl),[b1,b2,b3],fun b hb=>?_,fun l J Jx W1 hW hJ hJx hY h0=>?_⟩
  ·refine ⟨hge b hb,?_⟩
   simp only [List.mem_cons,List.not_mem_nil,or_false] at hb
   rcases hb with rfl | rfl | rfl<;>assumption
  ·rw [zjb hk]
   exact zsm (4 - 1) (by omega) l b1 b2 b3 n₀ m _ _ (by omega) J Jx W1 hJ (fun pre x W hJp hl=>hY pre x W hJp (by omega)) ((hW.block b1 g1).trans h1) ((hW.block b2 g2).trans h2) ((hW.block b3 g3).trans h3) (Nat.le_trans hn₀ hW.size) h0
 ·have hl:(sideA m).2≤((48:Nat):Int):=zd8 (zge hi.2.2 hi.2.1)
  have hp0:0≤(sideA m).2:=zqs _
  have eN:(((sideA m).2.toNat:Nat):Int)=(sideA m).2:=Int.toNat_of_nonneg hp0
  rw [← eN] at h1
  have g1:=(Array.getElem?_eq_some_iff.1 h1).1
  have g2:=(Array.getElem?_eq_some_iff.1 h2).1
  have g3:=(Array.getElem?_eq_some_iff.1 h3).1
  have g4:=(Array.getElem?_eq_some_iff.1 h4).1
  refine ⟨fun _ _=>qO (by kernel_rfl),[b1,b2,b3,b4],fun b hb=>?_,fun l J Jx W1 hW hJ hJx hY h0=>?_⟩
  ·refine ⟨hge b hb,?_⟩
   simp only [List.mem_cons,List.not_mem_nil,or_false] at hb
   rcases hb with rfl | rfl | rfl | rfl<;>assumption
  ·rw [zsS hk]
   exact ztX (4 - 1) (by omega) l b1 b2 b3 b4 n₀ _ _ _ _ (by omega) J Jx W1 hJ (fun pre x W hJp hl=>hY pre x W hJp (by omega)) ((hW.block b1 g1).trans h1) ((hW.block b2 g2).trans h2) ((hW.block b3 g3).trans h3) ((hW.block b4 g4).trans h4) (Nat.le_trans hn₀ hW.size) h0
theorem zsN {W:World} {b i:Nat} {cs:Array Value} {T:TypeId} (v:Value) (h:W.heap[b]?=some (.cells cs T (0,0))):(W.setCell ⟨b,i,none⟩ v).heap[b]?=some (.cells (cs.setIfInBounds i v) T (0,0)):=by
 obtain ⟨hlt,hk⟩:=Array.getElem?_eq_some_iff.1 h
 show (W.heap.modify b _)[b]?=_
 rw [Array.getElem?_eq_getElem (by rw [Array.size_modify];exact hlt),Array.getElem_modify_self,hk]
 rfl
theorem zsJ {W:World} {n b i:Nat} {v:Value} (h:n≤b):Below n W (W.setCell ⟨b,i,none⟩ v):=
 ⟨rfl,rfl,rfl,Nat.le_of_eq (World.size_setCell _ _ _).symm,fun k hk=>Below.heap_setCell _ _ _ _ (by show k≠b;omega)⟩
theorem At5.setv {n:Nat} {m:Mov} {s k:Int} {v:Vec} {b:Bool} {W:World} (x:Vec) (h:At5 n m s k v b W):At5 n m s k x b (((W.setCell ⟨n+1+1,0,none⟩ (.int .i64 x.1)).setCell ⟨n+1+1,1,none⟩ (.int .i64 x.2.1)).setCell ⟨n+1+1,2,none⟩ (.int .i64 x.2.2)):=by
 have o:∀j,j≠n+1+1→(((W.setCell ⟨n+1+1,0,none⟩ (.int .i64 x.1)).setCell ⟨n+1+1,1,none⟩ (.int .i64 x.2.1)).setCell ⟨n+1+1,2,none⟩ (.int .i64 x.2.2)).heap[j]?=W.heap[j]?:=fun j hj =>
  (Below.heap_setCell _ _ _ _ hj).trans ((Below.heap_setCell _ _ _ _ hj).trans (Below.heap_setCell _ _ _ _ hj))
 exact ⟨(o _ (by omega)).trans h.c0,(o _ (by omega)).trans h.c1,zsN _ (zsN _ (zsN _ h.c2)),(o _ (by omega)).trans h.c3,(o _ (by omega)).trans h.c4⟩
theorem At5.setb {n:Nat} {m:Mov} {s k:Int} {v:Vec} {b:Bool} {W:World} (x:Bool) (h:At5 n m s k v b W):At5 n m s k v x (W.setCell ⟨n+1+1+1,0,none⟩ (.bool x)):=
 ⟨(Below.heap_setCell _ _ _ _ (show n≠n+1+1+1 by omega)).trans h.c0,(Below.heap_setCell _ _ _ _ (show n+1≠n+1+1+1 by omega)).trans h.c1,(Below.heap_setCell _ _ _ _ (show n+1+1≠n+1+1+1 by omega)).trans h.c2,zsN _ h.c3,(Below.heap_setCell _ _ _ _ (show n+1+1+1+1≠n+1+1+1 by omega)).trans h.c4⟩
theorem At5.setk {n:Nat} {m:Mov} {s k:Int} {v:Vec} {b:Bool} {W:World} (x:Int) (h:At5 n m s k v b W):At5 n m s x v b (W.setCell ⟨n+1+1+1+1,0,none⟩ (.int .i64 x)):=
 ⟨(Below.heap_setCell _ _ _ _ (show n≠n+1+1+1+1 by omega)).trans h.c0,(Below.heap_setCell _ _ _ _ (show n+1≠n+1+1+1+1 by omega)).trans h.c1,(Below.heap_setCell _ _ _ _ (show n+1+1≠n+1+1+1+1 by omega)).trans h.c2,(Below.heap_setCell _ _ _ _ (show n+1+1+1≠n+1+1+1+1 by omega)).trans h.c3,zsN _ h.c4⟩
theorem zs3 {W:World} {n:Nat} {m:Mov} {s k:Int} {v:Vec} {b:Bool} (h:At5 n m s k v b W) {tmps:Array Value} (h4:tmps[4]?=some (.pointer (some ⟨n+1+1,0,none⟩))) (h5:tmps[5]?=some (.pointer (some ⟨n+1+1+1,0,none⟩))) :
  (results Tryz.f42 tmps).run Tryz.prog W=.ok (.tuple #[vagg v,.bool b]) W:=by
 obtain ⟨q0,q1,q2⟩:=cellV h.c2
 have g0:=cellB h.c3
 simp [results,Tryz.results42,h4,h5,q0,q1,q2,g0,go_sem,vagg,vcs]
theorem zua (m:Mov) (s:Int) (hc:¬ chkM m=0) (W:World):Calls Tryz.prog 42 #[magg m,.int .i64 s] W fun e W'=>e=.returned (.tuple #[vagg (0,0,0),.bool false])∧Below W.heap.size W W':=by
 have hd:(chkM m != 0)=true:=by simpa using hc
 obtain ⟨W5,hW5⟩:∃W5,((((W.alloc (.cells (mcs m).toArray 45)).alloc (.cells #[.int .i64 s] 3)).alloc (.cells #[.int .i64 0,.int .i64 0,.int .i64 0] 26)).alloc (.cells #[.bool false] 4)).alloc (.cells #[.int .i64 0] 3)=W5:=⟨_,rfl⟩
 obtain ⟨z5,a0,a1,a2,a3,a4,hB⟩:=five hW5
 have A5:At5 W.heap.size m s 0 (0,0,0) false W5:=⟨a0,a1,a2,a3,a4⟩
 clear a0 a1 a2 a3 a4
 obtain ⟨u0,u1,u2,u3,u4,u5,u6,u7,u8,u9,u10⟩:=cellM A5.c0
 unfold magg mcs
 unfold mcs at hW5
 have HW:=Lib.hid hW5
 clear hW5 u0 u1 u2 u3 u4 u5 u6 u7 u8 u9 u10
 go_enter Tryz.func42,Tryz.ntmps42
 go_wp2_with (go_at_call 66;refine (zkD m _).mono ?_;rintro e w1 ⟨rfl,hp1⟩;rw [HW.out] at hp1;have A6:=A5.via hp1;obtain ⟨q0,q1,q2⟩:=cellV A6.c2;have f0:=froz (i:=0) A6.c2;have f1:=froz (i:=1) A6.c2;have f2:=froz (i:=2) A6.c2;have g0:=cellB A6.c3;have g1:=froz (i:=0) A6.c3)
 refine bodyPost_ret (zs3 ((A6.setv (0,0,0)).setb false) rfl rfl) rfl ?_
 exact ⟨rfl,((((hB.trans (hp1.mono (by omega))).trans (zsJ (by omega))).trans (zsJ (by omega))).trans (zsJ (by omega))).trans (zsJ (by omega))⟩
def AtI (W:World) (m:Mov) (s:Int) (B:Nat) (pre:List Vec) (W':World):Prop:=At5 W.heap.size m s (pre.length:Int) (0,0,0) false W'∧Below W.heap.size W W'∧¬ (0≤s∧s<(pre.length:Int))∧B≤W'.heap.size
def AtZ (W:World) (m:Mov) (s:Int) (c:Code) (pre:List Vec) (W':World):Prop:=c=.ret∧(∃x k,At5 W.heap.size m s k x true W'∧pre.getLast?=some x∧s=(pre.length:Int) - 1)∧Below W.heap.size W W'
def AtX (W:World) (m:Mov) (s:Int) (B:Nat) (v13 v14:Value) (x:Vec) (a:Act) (W':World):Prop:=
 ∃q,a={ tmps:=#[magg m,.int .i64 s,.pointer (some ⟨W.heap.size,0,none⟩),.pointer (some ⟨W.heap.size+1,0,none⟩),.pointer (some ⟨W.heap.size+1+1,0,none⟩),.pointer (some ⟨W.heap.size+1+1+1,0,none⟩),.pointer (some ⟨W.heap.size+1+1+1+1,0,none⟩),.pointer (some ⟨q,0,none⟩),magg m,.int .i64 (chkM m),.bool false,undef,magg m,v13,v14,vagg x,undef,undef,undef,undef,undef,undef,undef],defers:=[] }∧B≤q∧W'.heap[q]?=some (.cells (vcs x).toArray 26 (0,0))
theorem zsW (W:World) (m:Mov) (s:Int) {B C:Nat} (hB:W.heap.size≤B):OwnFrom B (AtI W m s C):=fun _ _ _ _ ⟨h1,h2,h3,h4⟩ hg hr =>
 ⟨h1.own hg (fun r e=>(hr r e).2),h2.grown hg h2.size (fun k e=>by have:=(hr k e).1;omega),h3,Nat.le_trans h4 hg.size⟩
theorem zty (W:World) (m:Mov) (s:Int) (c:Code) {B:Nat} (hB:W.heap.size≤B):OwnFrom B (AtZ W m s c):=fun _ _ _ _ ⟨h1,⟨x,k,h2,h3⟩,h4⟩ hg hr =>
 ⟨h1,⟨x,k,h2.own hg (fun r e=>(hr r e).2),h3⟩,h4.grown hg h4.size (fun k e=>by have:=(hr k e).1;omega)⟩
theorem ztx (W:World) (m:Mov) (s:Int) (C:Nat) (v13 v14:Value) (x:Vec) (a:Act) {B:Nat}:OwnFrom B (fun (_:Unit) W'=>AtX W m s C v13 v14 x a W'):=fun _ _ _ _ ⟨q,h1,h2,h3⟩ hg hr =>
 ⟨q,h1,h2,zfP h3 rfl hg (fun r e=>(hr r e).2)⟩
theorem ztz {m:Mov} {s:Int} (hc:chkM m=0) (h:¬ (0≤s∧s<((ptsM m).length:Int))):atP m s=((0,0,0),false):=by
 unfold atP
 by_cases h0:0≤s
 ·rw [if_pos ⟨hc,h0⟩,List.getElem?_eq_none (by omega)]
 ·rw [if_neg (fun e=>h0 e.2)]
theorem ztA {m:Mov} {s:Int} {pre:List Vec} {x:Vec} (hc:chkM m=0) (hp:pre <+: ptsM m) (hl:pre.getLast?=some x) (hs:s=(pre.length:Int) - 1):atP m s=(x,true):=by
 obtain ⟨t,ht⟩:=hp
 have hne:0<pre.length:=by
  cases pre with
  | nil=>cases hl
  | cons y r=>simp
 have hx:(ptsM m)[s.toNat]?=some x:=by
  rw [← ht,List.getElem?_append_left (by omega),show s.toNat=pre.length - 1 by omega,← List.getLast?_eq_getElem?]
  exact hl
 unfold atP
 rw [if_pos ⟨hc,by omega⟩,hx]
theorem zt0 (m:Mov) (s:Int) (hc:chkM m=0) (hs:s<9223372036854775807) (W:World):Calls Tryz.prog 42 #[magg m,.int .i64 s] W fun e W'=>e=.returned (.tuple #[vagg (atP m s).1,.bool (atP m s).2])∧Below W.heap.size W W':=by
 have hd:(chkM m != 0)=false:=by rw [hc];rfl
 obtain ⟨W5,hW5⟩:∃W5,((((W.alloc (.cells (mcs m).toArray 45)).alloc (.cells #[.int .i64 s] 3)).alloc (.cells #[.int .i64 0,.int .i64 0,.int .i64 0] 26)).alloc (.cells #[.bool false] 4)).alloc (.cells #[.int .i64 0] 3)=W5:=⟨_,rfl⟩
 obtain ⟨z5,a0,a1,a2,a3,a4,hB⟩:=five hW5
 have A5:At5 W.heap.size m s 0 (0,0,0) false W5:=⟨a0,a1,a2,a3,a4⟩
 clear a0 a1 a2 a3 a4
 have HC:=Lib.hid hc
 have HM:=Lib.hid (zsR m hc)
 clear hc
 unfold magg mcs
 unfold mcs at hW5
 have HW:=Lib.hid hW5
 clear hW5
 refine (callsIn_wide (n:=4)).1 ?_
 refine callsIn_of_wp_marks Tryz.func42 rfl trivial ?_ rfl
 simp only [Tryz.ntmps42,List.size_toArray,List.length_cons,List.length_nil,Nat.reduceAdd,Nat.reduceSub,Array.replicate_succ,Array.replicate_zero,List.push_toArray,List.append_toArray,List.nil_append,List.cons_append]
 have hme : ∀ (u : Value) (w : World), (method 338 169 u "collet/move.steps").run Tryz.prog w = .ok (193, u) w := fun u w => zlh (by kernel_rfl)
 have hma : ∀ (u : Value) (w : World), (method 338 170 u "collet/move.steps").run Tryz.prog w = .ok (199, u) w := fun u w => zlh (by kernel_rfl)
 rcases HM.out with hk | ⟨hk,h3⟩
 ·have HK:=Lib.hid hk
  clear hk
  gi_wp2_with (first
   | (refine ⟨trivial,?_⟩;gi_at_call 66;refine (callsIn_wide.2 (zkD m _)).mono ?_;rintro e w1 ⟨rfl,hp1⟩;rw [HW.out] at hp1;have A6:=A5.via hp1;obtain ⟨u0,u1,u2,u3,u4,u5,u6,u7,u8,u9,u10⟩:=cellM A6.c0)
   | (refine ⟨trivial,?_⟩;gi_at_call 77;refine (callsIn_wide.2 (zr4 m HK.out _)).mono ?_;rintro e w2 ⟨rfl,hp2⟩)
   | (refine ⟨trivial,?_⟩;gi_at_call 193;refine (callsIn_wide.2 (zme m _)).mono ?_;rintro e w3 ⟨b1,b2,b3,rfl,k1,k2,k3,hp3,hge⟩))
  clear u0 u1 u2 u3 u4 u5 u6 u7 u8 u9 u10
  have s1:=hp1.size
  have s2:=hp2.size
  have s3:=hp3.size
  have hn3:W.heap.size≤w3.heap.size:=by omega
  have A8:=(A6.via hp2).via hp3
  have B8:Below W.heap.size W w3:=((hB.trans (hp1.mono (by omega))).trans (hp2.mono (by omega))).trans (hp3.mono (by omega))
  obtain ⟨eg,bs,hbs,hseq⟩:=ztW m HC.out W.heap.size w3 hn3 _ w2.heap.size _ (.inl ⟨b1,b2,b3,HK.out,rfl,rfl,k1,k2,k3,hge⟩)
  clear hme hma k1 k2 k3 hge
  refine wpIn_rangeFunc_ownH rfl (by omega) rfl trivial eg hseq kpS_t (fun W1 l o o' hl h hc1 hw=>?kb) (Below.refl _ _) (fun _=>rfl) (AtI W m s w3.heap.size) (AtZ W m s) (zsW W m s hn3) (fun c=>zty W m s c hn3) ⟨A8,B8,by show ¬ (0≤s∧s<((0:Nat):Int));omega,Nat.le_refl _⟩ (AtX W m s w3.heap.size (.iface 169 (magg m)) (.func (.func 194) #[] #[.pointer (some ⟨b1,0,none⟩),.pointer (some ⟨b2,0,none⟩),.pointer (some ⟨b3,0,none⟩)])) (fun x a'=>ztx W m s _ _ _ x a') ?assign ?body ?done ?stop
  case assign =>
   intro l pre x W1 K hI hK
   have hB1:Below W1.heap.size W1 (W1.alloc (.cells (vcs x).toArray 26)):=(Below.refl _ W1).alloc (Nat.le_refl _) _
   have hlt:=hI.2.1.size
   have hn1:(W1.alloc (.cells (vcs x).toArray 26)).heap[W1.heap.size]?=some (.cells (vcs x).toArray 26 (0,0)):=heap_alloc_new _ _
   have hgr:=zbc hB1
   have hI1:=zsW W m s hn3 pre W1 _ none hI hgr (fun _ e=>by cases e)
   have hb1:w3.heap.size≤W1.heap.size:=hI.2.2.2
   have hK1:=hK _ _ ⟨hB1.size,fun k o _ h _=>(hB1.block k (Array.getElem?_eq_some_iff.1 h).1).trans h⟩ ⟨hB1.mono hlt,fun b hb=>hB1.block b (Nat.lt_of_lt_of_le (hbs b hb).2 hb1)⟩ hI1 ⟨W1.heap.size,rfl,hb1,hn1⟩
   clear hI1 hn1 hB1 hgr
   unfold vagg vcs magg mcs at *
   gi_wp2
   exact hK1
  case body =>
   rintro l pre x a' W1 hl ⟨r0,hr0⟩ ⟨hA,hBW,hns,hB3⟩ ⟨q,rfl,hq,hqh⟩ hlen
   have g4:=cellB hA.c4
   have f4:=froz (i:=0) hA.c4
   have g1:=cellB hA.c1
   have f20:=froz (i:=0) hA.c2
   have f21:=froz (i:=1) hA.c2
   have f22:=froz (i:=2) hA.c2
   have f3:=froz (i:=0) hA.c3
   obtain ⟨c20,c21,c22⟩:=cellV hA.c2
   have g3:=cellB hA.c3
   obtain ⟨q0,q1,q2⟩:=cellV hqh
   have hlI:(pre.length:Int)<60:=by omega
   have H:=Lib.hid (And.intro hA (And.intro hBW (And.intro hns hlen)))
   clear hA hBW hns hlen hqh
   rcases Bool.eq_false_or_eq_true ((pre.length:Int) == s) with he | he
   ·gi_wp2
    refine ⟨((((KeepsOthers.setCell _ _ _).trans (KeepsOthers.setCell _ _ _)).trans (KeepsOthers.setCell _ _ _)).trans (KeepsOthers.setCell _ _ _)).from _,rfl,⟨x,_,(H.out.1.setv x).setb true,by simp,?_⟩,(((H.out.2.1.trans (zsJ (by omega))).trans (zsJ (by omega))).trans (zsJ (by omega))).trans (zsJ (by omega))⟩
    have:=beq_iff_eq.1 he
    rw [List.length_append,List.length_singleton]
    omega
   ·gi_wp2
    have hne:¬ (pre.length:Int)=s:=by simpa using he
    have hnl:=H.out.2.2.1
    have hk:=H.out.1.setk ((pre.length:Int)+1)
    have el:((pre++[x]).length:Int)=(pre.length:Int)+1:=by rw [List.length_append,List.length_singleton];omega
    refine ⟨(KeepsOthers.setCell _ _ _).from _,⟨zsJ (by omega),fun b hb=>Below.heap_setCell _ _ _ _ (show b≠W.heap.size+1+1+1+1 by have:=(hbs b hb).1;omega)⟩,?_,H.out.2.1.trans (zsJ (by omega)),by rw [el];omega,by rw [World.size_setCell];exact hB3⟩
    rw [el]
    exact hk
  case done =>
   rintro D xs W1 hD hS ⟨hA,hBW,hns,-⟩ hK
   have f20:=froz (i:=0) hA.c2
   have f21:=froz (i:=1) hA.c2
   have f22:=froz (i:=2) hA.c2
   have f3:=froz (i:=0) hA.c3
   obtain ⟨c20,c21,c22⟩:=cellV hA.c2
   have g3:=cellB hA.c3
   have H:=Lib.hid (And.intro hA (And.intro hBW (And.intro hns hK)))
   clear hA hBW hns hK
   gi_wp2
   obtain ⟨hA,hBW,hns,hK⟩:=H.out
   have hne:D≠W.heap.size+1+1∧D≠W.heap.size+1+1+1:=by have:=A8.lt;omega
   have hK4:((((W1.setCell ⟨W.heap.size+1+1,0,none⟩ (.int .i64 0)).setCell ⟨W.heap.size+1+1,1,none⟩ (.int .i64 0)).setCell ⟨W.heap.size+1+1,2,none⟩ (.int .i64 0)).setCell ⟨W.heap.size+1+1+1,0,none⟩ (.bool false)).heap[D]?=some (.deferred (some [])):=
    (Below.heap_setCell _ _ _ _ hne.2).trans ((Below.heap_setCell _ _ _ _ hne.1).trans ((Below.heap_setCell _ _ _ _ hne.1).trans ((Below.heap_setCell _ _ _ _ hne.1).trans hK)))
   refine ⟨by simp,.inl ⟨_,_,rfl,run_takeDeferred hK4,?_⟩⟩
   have hgr:=grownBy_putObj' ((((W1.setCell ⟨W.heap.size+1+1,0,none⟩ (.int .i64 0)).setCell ⟨W.heap.size+1+1,1,none⟩ (.int .i64 0)).setCell ⟨W.heap.size+1+1,2,none⟩ (.int .i64 0)).setCell ⟨W.heap.size+1+1+1,0,none⟩ (.bool false)) D (.deferred none)
   have hB4:=(((hBW.trans (zsJ (i:=0) (v:=.int .i64 0) (show W.heap.size≤W.heap.size+1+1 by omega))).trans (zsJ (i:=1) (v:=.int .i64 0) (show W.heap.size≤W.heap.size+1+1 by omega))).trans (zsJ (i:=2) (v:=.int .i64 0) (show W.heap.size≤W.heap.size+1+1 by omega))).trans (zsJ (i:=0) (v:=.bool false) (show W.heap.size≤W.heap.size+1+1+1 by omega))
   refine ⟨_,zs3 (((hA.setv (0,0,0)).setb false).own hgr (fun r e=>by cases e;exact ⟨_,hK4,rfl⟩)) rfl rfl,?_,hB4.grown hgr hB4.size (fun k e=>by cases e;omega)⟩
   rw [ztz HC.out (by rw [← show xs=ptsM m from hS];exact hns)]
  case stop =>
   rintro D c pre W1 hD hSp ⟨rfl,⟨x,k,hA,hl,hsl⟩,hBW⟩ hK
   have H:=Lib.hid (And.intro hA (And.intro hl (And.intro hsl (And.intro hBW hK))))
   clear hA hl hsl hBW hK
   gi_wp2
   obtain ⟨hA,hl,hsl,hBW,hK⟩:=H.out
   refine ⟨by simp,.inl ⟨_,_,rfl,run_takeDeferred hK,?_⟩⟩
   have hgr:=grownBy_putObj' W1 D (.deferred none)
   refine ⟨_,zs3 (hA.own hgr (fun r e=>by cases e;exact ⟨_,hK,rfl⟩)) rfl rfl,?_,hBW.grown hgr hBW.size (fun k e=>by cases e;omega)⟩
   rw [ztA HC.out hSp hl hsl]
  case kb =>
   have h1:=(Array.getElem?_eq_some_iff.1 h).1
   refine ⟨(Below.refl W.heap.size W1).grown (grownBy_putObj' W1 l o') (by omega) (fun k e=>by cases e;omega),fun b hb=>?_⟩
   have hb':=hbs b hb
   exact (grownBy_putObj' W1 l o').block b (by omega) (fun e=>by injection e with e;omega)
 ·have HK:=Lib.hid hk
  have H3:=Lib.hid h3
  clear hk h3
  gi_wp2_with (first
   | (refine ⟨trivial,?_⟩;gi_at_call 66;refine (callsIn_wide.2 (zkD m _)).mono ?_;rintro e w1 ⟨rfl,hp1⟩;rw [HW.out] at hp1;have A6:=A5.via hp1;obtain ⟨u0,u1,u2,u3,u4,u5,u6,u7,u8,u9,u10⟩:=cellM A6.c0)
   | (refine ⟨trivial,?_⟩;gi_at_call 77;refine (callsIn_wide.2 (ztE m HK.out H3.out _)).mono ?_;rintro e w2 ⟨rfl,hp2⟩)
   | (refine ⟨trivial,?_⟩;gi_at_call 199;refine (callsIn_wide.2 (zsV m _)).mono ?_;rintro e w3 ⟨b1,b2,b3,b4,rfl,k1,k2,k3,k4,hp3,hge⟩))
  clear u0 u1 u2 u3 u4 u5 u6 u7 u8 u9 u10
  have s1:=hp1.size
  have s2:=hp2.size
  have s3:=hp3.size
  have hn3:W.heap.size≤w3.heap.size:=by omega
  have A8:=(A6.via hp2).via hp3
  have B8:Below W.heap.size W w3:=((hB.trans (hp1.mono (by omega))).trans (hp2.mono (by omega))).trans (hp3.mono (by omega))
  obtain ⟨eg,bs,hbs,hseq⟩:=ztW m HC.out W.heap.size w3 hn3 _ w2.heap.size _ (.inr ⟨b1,b2,b3,b4,H3.out,rfl,rfl,k1,k2,k3,k4,hge⟩)
  clear hme hma k1 k2 k3 k4 hge
  refine wpIn_rangeFunc_ownH rfl (by omega) rfl trivial eg hseq kpS_t (fun W1 l o o' hl h hc1 hw=>?kb) (Below.refl _ _) (fun _=>rfl) (AtI W m s w3.heap.size) (AtZ W m s) (zsW W m s hn3) (fun c=>zty W m s c hn3) ⟨A8,B8,by show ¬ (0≤s∧s<((0:Nat):Int));omega,Nat.le_refl _⟩ (AtX W m s w3.heap.size (.iface 170 (magg m)) (.func (.func 202) #[] #[.pointer (some ⟨b1,0,none⟩),.pointer (some ⟨b2,0,none⟩),.pointer (some ⟨b3,0,none⟩),.pointer (some ⟨b4,0,none⟩)])) (fun x a'=>ztx W m s _ _ _ x a') ?assign ?body ?done ?stop
  case assign =>
   intro l pre x W1 K hI hK
   have hB1:Below W1.heap.size W1 (W1.alloc (.cells (vcs x).toArray 26)):=(Below.refl _ W1).alloc (Nat.le_refl _) _
   have hlt:=hI.2.1.size
   have hn1:(W1.alloc (.cells (vcs x).toArray 26)).heap[W1.heap.size]?=some (.cells (vcs x).toArray 26 (0,0)):=heap_alloc_new _ _
   have hgr:=zbc hB1
   have hI1:=zsW W m s hn3 pre W1 _ none hI hgr (fun _ e=>by cases e)
   have hb1:w3.heap.size≤W1.heap.size:=hI.2.2.2
   have hK1:=hK _ _ ⟨hB1.size,fun k o _ h _=>(hB1.block k (Array.getElem?_eq_some_iff.1 h).1).trans h⟩ ⟨hB1.mono hlt,fun b hb=>hB1.block b (Nat.lt_of_lt_of_le (hbs b hb).2 hb1)⟩ hI1 ⟨W1.heap.size,rfl,hb1,hn1⟩
   clear hI1 hn1 hB1 hgr
   unfold vagg vcs magg mcs at *
   gi_wp2
   exact hK1
  case body =>
   rintro l pre x a' W1 hl ⟨r0,hr0⟩ ⟨hA,hBW,hns,hB3⟩ ⟨q,rfl,hq,hqh⟩ hlen
   have g4:=cellB hA.c4
   have f4:=froz (i:=0) hA.c4
   have g1:=cellB hA.c1
   have f20:=froz (i:=0) hA.c2
   have f21:=froz (i:=1) hA.c2
   have f22:=froz (i:=2) hA.c2
   have f3:=froz (i:=0) hA.c3
   obtain ⟨c20,c21,c22⟩:=cellV hA.c2
   have g3:=cellB hA.c3
   obtain ⟨q0,q1,q2⟩:=cellV hqh
   have hlI:(pre.length:Int)<60:=by omega
   have H:=Lib.hid (And.intro hA (And.intro hBW (And.intro hns hlen)))
   clear hA hBW hns hlen hqh
   rcases Bool.eq_false_or_eq_true ((pre.length:Int) == s) with he | he
   ·gi_wp2
    refine ⟨((((KeepsOthers.setCell _ _ _).trans (KeepsOthers.setCell _ _ _)).trans (KeepsOthers.setCell _ _ _)).trans (KeepsOthers.setCell _ _ _)).from _,rfl,⟨x,_,(H.out.1.setv x).setb true,by simp,?_⟩,(((H.out.2.1.trans (zsJ (by omega))).trans (zsJ (by omega))).trans (zsJ (by omega))).trans (zsJ (by omega))⟩
    have:=beq_iff_eq.1 he
    rw [List.length_append,List.length_singleton]
    omega
   ·gi_wp2
    have hne:¬ (pre.length:Int)=s:=by simpa using he
    have hnl:=H.out.2.2.1
    have hk:=H.out.1.setk ((pre.length:Int)+1)
    have el:((pre++[x]).length:Int)=(pre.length:Int)+1:=by rw [List.length_append,List.length_singleton];omega
    refine ⟨(KeepsOthers.setCell _ _ _).from _,⟨zsJ (by omega),fun b hb=>Below.heap_setCell _ _ _ _ (show b≠W.heap.size+1+1+1+1 by have:=(hbs b hb).1;omega)⟩,?_,H.out.2.1.trans (zsJ (by omega)),by rw [el];omega,by rw [World.size_setCell];exact hB3⟩
    rw [el]
    exact hk
  case done =>
   rintro D xs W1 hD hS ⟨hA,hBW,hns,-⟩ hK
   have f20:=froz (i:=0) hA.c2
   have f21:=froz (i:=1) hA.c2
   have f22:=froz (i:=2) hA.c2
   have f3:=froz (i:=0) hA.c3
   obtain ⟨c20,c21,c22⟩:=cellV hA.c2
   have g3:=cellB hA.c3
   have H:=Lib.hid (And.intro hA (And.intro hBW (And.intro hns hK)))
   clear hA hBW hns hK
   gi_wp2
   obtain ⟨hA,hBW,hns,hK⟩:=H.out
   have hne:D≠W.heap.size+1+1∧D≠W.heap.size+1+1+1:=by have:=A8.lt;omega
   have hK4:((((W1.setCell ⟨W.heap.size+1+1,0,none⟩ (.int .i64 0)).setCell ⟨W.heap.size+1+1,1,none⟩ (.int .i64 0)).setCell ⟨W.heap.size+1+1,2,none⟩ (.int .i64 0)).setCell ⟨W.heap.size+1+1+1,0,none⟩ (.bool false)).heap[D]?=some (.deferred (some [])):=
    (Below.heap_setCell _ _ _ _ hne.2).trans ((Below.heap_setCell _ _ _ _ hne.1).trans ((Below.heap_setCell _ _ _ _ hne.1).trans ((Below.heap_setCell _ _ _ _ hne.1).trans hK)))
   refine ⟨by simp,.inl ⟨_,_,rfl,run_takeDeferred hK4,?_⟩⟩
   have hgr:=grownBy_putObj' ((((W1.setCell ⟨W.heap.size+1+1,0,none⟩ (.int .i64 0)).setCell ⟨W.heap.size+1+1,1,none⟩ (.int .i64 0)).setCell ⟨W.heap.size+1+1,2,none⟩ (.int .i64 0)).setCell ⟨W.heap.size+1+1+1,0,none⟩ (.bool false)) D (.deferred none)
   have hB4:=(((hBW.trans (zsJ (i:=0) (v:=.int .i64 0) (show W.heap.size≤W.heap.size+1+1 by omega))).trans (zsJ (i:=1) (v:=.int .i64 0) (show W.heap.size≤W.heap.size+1+1 by omega))).trans (zsJ (i:=2) (v:=.int .i64 0) (show W.heap.size≤W.heap.size+1+1 by omega))).trans (zsJ (i:=0) (v:=.bool false) (show W.heap.size≤W.heap.size+1+1+1 by omega))
   refine ⟨_,zs3 (((hA.setv (0,0,0)).setb false).own hgr (fun r e=>by cases e;exact ⟨_,hK4,rfl⟩)) rfl rfl,?_,hB4.grown hgr hB4.size (fun k e=>by cases e;omega)⟩
   rw [ztz HC.out (by rw [← show xs=ptsM m from hS];exact hns)]
  case stop =>
   rintro D c pre W1 hD hSp ⟨rfl,⟨x,k,hA,hl,hsl⟩,hBW⟩ hK
   have H:=Lib.hid (And.intro hA (And.intro hl (And.intro hsl (And.intro hBW hK))))
   clear hA hl hsl hBW hK
   gi_wp2
   obtain ⟨hA,hl,hsl,hBW,hK⟩:=H.out
   refine ⟨by simp,.inl ⟨_,_,rfl,run_takeDeferred hK,?_⟩⟩
   have hgr:=grownBy_putObj' W1 D (.deferred none)
   refine ⟨_,zs3 (hA.own hgr (fun r e=>by cases e;exact ⟨_,hK,rfl⟩)) rfl rfl,?_,hBW.grown hgr hBW.size (fun k e=>by cases e;omega)⟩
   rw [ztA HC.out hSp hl hsl]
  case kb =>
   have h1:=(Array.getElem?_eq_some_iff.1 h).1
   refine ⟨(Below.refl W.heap.size W1).grown (grownBy_putObj' W1 l o') (by omega) (fun k e=>by cases e;omega),fun b hb=>?_⟩
   have hb':=hbs b hb
   exact (grownBy_putObj' W1 l o').block b (by omega) (fun e=>by injection e with e;omega)
theorem zt9 (m:Mov) (s:Int) (hs:s<9223372036854775807) (W:World):Calls Tryz.prog 42 #[magg m,.int .i64 s] W fun e W'=>e=.returned (.tuple #[vagg (atP m s).1,.bool (atP m s).2])∧Below W.heap.size W W':=by
 by_cases hc:chkM m=0
 ·exact zt0 m s hc hs W
 ·have e:atP m s=((0,0,0),false):=if_neg fun h=>hc h.1
  rw [e]
  exact zua m s hc W
theorem t_at {w0:World} (m:Mov) (s:Int) (r:Vec) (b:Bool) (hr:(atP m s).1=r) (hb:(atP m s).2=b) (hs:s<9223372036854775807):Fun (KN w0) Tryz.prog 42 [.o (.g [pI m.1,pI m.2.1.1,pI m.2.1.2.1,pI m.2.1.2.2,pI m.2.2.1.1,pI m.2.2.1.2.1,pI m.2.2.1.2.2,pI m.2.2.2.1.1,pI m.2.2.2.1.2.1,pI m.2.2.2.1.2.2,pI m.2.2.2.2]),.o (.c (pI s))] (.t [.g [pI r.1,pI r.2.1,pI r.2.2],.c (pB b)]):=by
 subst hr hb
 intro W D vs hs' hf
 match vs,hs' with
 | [v,u],⟨⟨us,hv,hu⟩,hi,_⟩ =>
  have hus:us=(mcs m).toArray:=by
   apply Array.ext'
   match hl:us.toList,hu with
   | [a0,a1,a2,a3,a4,a5,a6,a7,a8,a9,a10],h =>
    obtain ⟨h0,h1,h2,h3,h4,h5,h6,h7,h8,h9,h10,_⟩:=h
    rw [h0,h1,h2,h3,h4,h5,h6,h7,h8,h9,h10];rfl
  subst hus
  have hi:u=.int .i64 s:=hi
  subst hv hi
  refine (zt9 m s hs W).mono ?_
  rintro e W' ⟨rfl,hb⟩
  exact ⟨_,D,rfl,⟨_,rfl,⟨_,rfl,rfl,rfl,rfl,trivial⟩,rfl,trivial⟩,⟨hb,fun _ h=>h,fun _ h=>.inl h,fun q hq=>Nat.lt_of_lt_of_le (hf.dlt q hq) hb.size⟩⟩
end Go.Proofs.YteimplkdcjapdaaGreatDoor
namespace Go.Proofs.YteimplkdcjapdaaGreatDoor
open Go.RowKit
theorem zts {a b c:Int} (ha:a≠-9223372036854775808) (hb:b≠-9223372036854775808) (hc:c≠-9223372036854775808):divL 0 [a,b,c]=((Nat.gcd (Nat.gcd (Nat.gcd 0 a.natAbs) b.natAbs) c.natAbs:Nat):Int):=by
 rw [divL,if_neg ha,divL,if_neg hb,divL,if_neg hc,divL]
theorem zs1 {a:Int} {g:Nat} (h:g ∣ a.natAbs):(g:Int)*a.tdiv g=a:=Int.mul_tdiv_cancel' (Int.ofNat_dvd_left.2 h)
theorem zte {a:Int} {g:Nat} (h:a.natAbs≤1000):(a.tdiv g).natAbs≤1000:=by
 rw [Int.natAbs_tdiv]
 exact Nat.le_trans (Nat.div_le_self _ _) h
theorem zs0 {v:Vec} (hv:smV v):0≤(primV v).2∧(primV v).2*(primV v).1.1=v.1∧(primV v).2*(primV v).1.2.1=v.2.1∧(primV v).2*(primV v).1.2.2=v.2.2∧((primV v).2=0→(primV v).1=(0,0,0)):=by
 obtain ⟨x,y,z⟩:=v
 obtain ⟨h1,h2,h3⟩:=hv
 dsimp only at h1 h2 h3
 have e:=zts (a:=x) (b:=y) (c:=z) (by omega) (by omega) (by omega)
 unfold primV
 dsimp only
 rw [e]
 generalize hg:Nat.gcd (Nat.gcd (Nat.gcd 0 x.natAbs) y.natAbs) z.natAbs=g
 have d3:g ∣ z.natAbs:=hg ▸ Nat.gcd_dvd_right _ _
 have d12:g ∣ Nat.gcd (Nat.gcd 0 x.natAbs) y.natAbs:=hg ▸ Nat.gcd_dvd_left _ _
 have d2:g ∣ y.natAbs:=Nat.dvd_trans d12 (Nat.gcd_dvd_right _ _)
 have d1:g ∣ x.natAbs:=Nat.dvd_trans (Nat.dvd_trans d12 (Nat.gcd_dvd_left _ _)) (Nat.gcd_dvd_right _ _)
 by_cases h0:(g:Int)=0
 ·rw [if_pos h0]
  have g0:g=0:=by omega
  rw [g0] at d1 d2 d3
  have e1:=Nat.eq_zero_of_zero_dvd d1
  have e2:=Nat.eq_zero_of_zero_dvd d2
  have e3:=Nat.eq_zero_of_zero_dvd d3
  refine ⟨Int.le_refl _,?_,?_,?_,fun _=>rfl⟩
  ·show (0:Int)*0=x;omega
  ·show (0:Int)*0=y;omega
  ·show (0:Int)*0=z;omega
 ·rw [if_neg h0]
  have b1:=zte (a:=x) (g:=g) (by omega)
  have b2:=zte (a:=y) (g:=g) (by omega)
  have b3:=zte (a:=z) (g:=g) (by omega)
  refine ⟨Int.natCast_nonneg g,?_,?_,?_,fun h=>absurd h h0⟩
  ·show (g:Int)*wI (x.tdiv g)=x
   rw [wI_eq (by omega)];exact zs1 d1
  ·show (g:Int)*wI (y.tdiv g)=y
   rw [wI_eq (by omega)];exact zs1 d2
  ·show (g:Int)*wI (z.tdiv g)=z
   rw [wI_eq (by omega)];exact zs1 d3
theorem zsY {p u d:Vec} {n:Int} (h1:n*u.1=d.1) (h2:n*u.2.1=d.2.1) (h3:n*u.2.2=d.2.2) (hp:smV p) (hd:smV d):plusV p u n=(p.1+d.1,p.2.1+d.2.1,p.2.2+d.2.2):=by
 unfold plusV
 obtain ⟨p1,p2,p3⟩:=hp
 obtain ⟨d1,d2,d3⟩:=hd
 rw [h1,h2,h3,wI_eq (by omega),wI_eq (by omega),wI_eq (by omega)]
 unfold addV
 dsimp only
 rw [wI_eq (by omega),wI_eq (by omega),wI_eq (by omega)]
theorem ztv (a d:Vec) (n:Nat):(lineP a d n).getLast?=some (plusV a d (n:Int)):=by
 rw [List.getLast?_eq_getElem?]
 simp [lineP]
def arcIJ (r:Nat):Nat→Nat→Nat→List (Nat×Nat)
 | 0,_,_=>[]
 | k+1,j,i=>(if downI (r*r) j i*downI (r*r) j i+j*j=r*r then [(downI (r*r) j i,j)] else [])++arcIJ r k (j+1) (downI (r*r) j i)
theorem ztw {c a b:Vec} {r:Nat}:∀{k j i:Nat},arcG c a b r k j i=(arcIJ r k j i).map fun p=>plusV (plusV c a p.1) b p.2
 | 0,_,_=>rfl
 | k+1,j,i=>by
  rw [arcG,arcIJ,List.map_append,ztw]
  split<;>rfl
theorem ztZ:∀r,r<49→1≤r→2≤(arcIJ r (r+1) 0 r).length∧(arcIJ r (r+1) 0 r).getLast?=some (0,r):=by decide +kernel
theorem ztL {m:Mov} (h:chkM m=0):(strM m=true→fitS m=true)∧(m.1=3→fitA m=true):=by
 unfold chkM at h
 by_cases hs:strM m=true
 ·rw [if_pos hs] at h
  split at h
  ·split at h
   ·rename_i hf
    exact ⟨fun _=>hf,fun h3=>by unfold strM at hs;rw [h3] at hs;cases hs⟩
   ·exact absurd h (by decide)
  ·exact absurd h (by decide)
 ·rw [if_neg hs] at h
  split at h
  ·split at h
   ·split at h
    ·rename_i hf
     exact ⟨fun h=>absurd h hs,fun _=>hf⟩
    ·exact absurd h (by decide)
   ·exact absurd h (by decide)
  ·exact absurd h (by decide)
theorem zto {m:Mov} (h:chkM m=0):2≤(ptsM m).length∧(ptsM m).getLast?=some m.2.2.1:=by
 obtain ⟨i1,i2,i3⟩:=zkB h
 have hf:=ztL h
 have s1:=in_sm i1
 have s2:=in_sm i2
 have s3:=in_sm i3
 rw [zeD] at i1 i2 i3
 rcases zsR m h with hk | ⟨hk,h3⟩
 ·have hf:=hf.1 hk
  unfold fitS at hf
  simp only [Bool.and_eq_true,Bool.not_eq_true',decide_eq_false_iff_not,decide_eq_true_eq] at hf
  have ed:=zso s1 s2
  have hd:smV (subV m.2.2.1 m.2.1):=by rw [ed];exact ⟨by dsimp only;omega,by dsimp only;omega,by dsimp only;omega⟩
  obtain ⟨p0,p1,p2,p3,p4⟩:=zs0 hd
  rw [zjb hk]
  have eN:(((primV (subV m.2.2.1 m.2.1)).2.toNat:Nat):Int)=(primV (subV m.2.2.1 m.2.1)).2:=Int.toNat_of_nonneg p0
  have hpos:1≤(primV (subV m.2.2.1 m.2.1)).2:=by
   by_cases h0:1≤(primV (subV m.2.2.1 m.2.1)).2
   ·exact h0
   ·have e0:(primV (subV m.2.2.1 m.2.1)).2=0:=by omega
    rw [e0,Int.zero_mul] at p1 p2 p3
    rw [ed] at p1 p2 p3
    dsimp only at p1 p2 p3
    refine absurd ?_ hf.1
    exact Prod.ext (by omega) (Prod.ext (by omega) (by omega))
  refine ⟨by simp [lineP];omega,?_⟩
  rw [ztv,eN,zsY p1 p2 p3 s1 hd,ed]
  exact congrArg some (Prod.ext (by dsimp only;omega) (Prod.ext (by dsimp only;omega) (by dsimp only;omega)))
 ·have hf:=hf.2 (by simpa using h3)
  unfold fitA unitV at hf
  simp only [Bool.and_eq_true,beq_iff_eq] at hf
  obtain ⟨u1,u2,er,-⟩:=hf
  have ea:=zso s2 s3
  have eb:=zso s1 s3
  have ha:smV (subV m.2.2.2.1 m.2.2.1):=by rw [ea];exact ⟨by dsimp only;omega,by dsimp only;omega,by dsimp only;omega⟩
  have hb:smV (subV m.2.2.2.1 m.2.1):=by rw [eb];exact ⟨by dsimp only;omega,by dsimp only;omega,by dsimp only;omega⟩
  have hle:(sideA m).2≤((48:Nat):Int):=zd8 (zge (zeD.2 i3) (zeD.2 i2))
  obtain ⟨p0,p1,p2,p3,p4⟩:=zs0 ha
  obtain ⟨q0,q1,q2,q3,q4⟩:=zs0 hb
  have p0:0≤(sideA m).2:=p0
  have q1:(sideB m).2*(sideB m).1.1=(subV m.2.2.2.1 m.2.1).1:=q1
  have q2:(sideB m).2*(sideB m).1.2.1=(subV m.2.2.2.1 m.2.1).2.1:=q2
  have q3:(sideB m).2*(sideB m).1.2.2=(subV m.2.2.2.1 m.2.1).2.2:=q3
  have eN:(((sideA m).2.toNat:Nat):Int)=(sideA m).2:=Int.toNat_of_nonneg p0
  have hpos:1≤(sideA m).2:=by
   by_cases h0:1≤(sideA m).2
   ·exact h0
   ·have e0:(sideA m).1=(0,0,0):=p4 (show (sideA m).2=0 by omega)
    rw [e0] at u1
    exact absurd u1 (by decide)
  have hA:=ztZ (sideA m).2.toNat (by omega) (by omega)
  rw [zsS h3,ztw]
  refine ⟨by rw [List.length_map];exact hA.1,?_⟩
  rw [List.getLast?_map,hA.2]
  show some _=some _
  congr 1
  have n1:wI (0 - (sideA m).2)=-(sideA m).2:=by rw [wI_eq (by omega)];omega
  have hna:smV (-(subV m.2.2.2.1 m.2.2.1).1,-(subV m.2.2.2.1 m.2.2.1).2.1,-(subV m.2.2.2.1 m.2.2.1).2.2):=by
   obtain ⟨a1,a2,a3⟩:=ha
   exact ⟨by dsimp only;omega,by dsimp only;omega,by dsimp only;omega⟩
  have c1:plusV m.2.1 (sideA m).1 (wI (0 - (sideA m).2))=(m.2.1.1 + -(subV m.2.2.2.1 m.2.2.1).1,m.2.1.2.1 + -(subV m.2.2.2.1 m.2.2.1).2.1,m.2.1.2.2 + -(subV m.2.2.2.1 m.2.2.1).2.2):=by
   rw [n1]
   refine zsY (d:=(-(subV m.2.2.2.1 m.2.2.1).1,-(subV m.2.2.2.1 m.2.2.1).2.1,-(subV m.2.2.2.1 m.2.2.1).2.2)) ?_ ?_ ?_ s1 hna
   ·rw [Int.neg_mul];exact congrArg Neg.neg p1
   ·rw [Int.neg_mul];exact congrArg Neg.neg p2
   ·rw [Int.neg_mul];exact congrArg Neg.neg p3
  rw [c1,ea]
  dsimp only
  have sc:smV (m.2.1.1 + -(m.2.2.2.1.1 - m.2.2.1.1),m.2.1.2.1 + -(m.2.2.2.1.2.1 - m.2.2.1.2.1),m.2.1.2.2 + -(m.2.2.2.1.2.2 - m.2.2.1.2.2)):=⟨by dsimp only;omega,by dsimp only;omega,by dsimp only;omega⟩
  have z0:smV ((0:Int),(0:Int),(0:Int)):=⟨by dsimp only;omega,by dsimp only;omega,by dsimp only;omega⟩
  rw [zsY (d:=(0,0,0)) (n:=((0:Nat):Int)) (by show (0:Int)*_=0;rw [Int.zero_mul]) (by show (0:Int)*_=0;rw [Int.zero_mul]) (by show (0:Int)*_=0;rw [Int.zero_mul]) sc z0]
  dsimp only
  have er:(sideA m).2=(sideB m).2:=er
  have sc2:smV (m.2.1.1 + -(m.2.2.2.1.1 - m.2.2.1.1)+0,m.2.1.2.1 + -(m.2.2.2.1.2.1 - m.2.2.1.2.1)+0,m.2.1.2.2 + -(m.2.2.2.1.2.2 - m.2.2.1.2.2)+0):=⟨by dsimp only;omega,by dsimp only;omega,by dsimp only;omega⟩
  rw [eN,er,zsY q1 q2 q3 sc2 hb,eb]
  exact Prod.ext (by dsimp only;omega) (Prod.ext (by dsimp only;omega) (by dsimp only;omega))
theorem ztp {m:Mov} (h:chkM m=0):1≤stepM m:=by
 have:=(zto h).1
 unfold stepM
 rw [if_pos h]
 omega
theorem zt1 {m:Mov} (h:chkM m=0):atP m (stepM m)=(m.2.2.1,true):=by
 have hp:=zto h
 unfold atP
 rw [if_pos ⟨h,by have:=ztp h;omega⟩]
 unfold stepM
 rw [if_pos h,Int.toNat_natCast,← List.getLast?_eq_getElem?,hp.2]
theorem zs8:∀{l:List Mov} {K:Nat} {s k j:Int},findL K l s=(k,j,true)→(K:Int)≤k∧k<K+l.length
 | [],_,_,_,_,h=>by rw [findL] at h;cases h
 | m::r,K,s,k,j,h=>by
  rw [findL] at h
  rw [List.length_cons]
  split at h
  ·injection h with h1 h2
   omega
  ·have:=zs8 h
   omega
theorem zsT (m:Mov):0≤stepM m∧stepM m≤48:=zb5 (m:=m) trivial
theorem ztB:∀{l:List Mov} {K:Nat} {s k j:Int},0≤s→findL K l s=(k,j,true)→0≤j∧j≤48
 | [],_,_,_,_,_,h=>by rw [findL] at h;cases h
 | m::r,K,s,k,j,h0,h=>by
  have hm:=zsT m
  rw [findL] at h
  split at h
  ·injection h with h1 h2
   injection h2 with h2 h3
   omega
  ·exact ztB (by omega) h
theorem ztq:∀l:List Mov,0≤sumM l∧sumM l≤48*(l.length:Int)
 | []=>⟨Int.le_refl _,Int.le_refl _⟩
 | m::r=>by
  have h1:=zsT m
  have h2:=ztq r
  rw [sumM,List.length_cons]
  omega
theorem zs5:∀{l:List Mov} {K:Nat} {s:Int},sumM l<s→findL K l s=(0,0,false)
 | [],_,_,_=>rfl
 | m::r,K,s,h=>by
  have h2:=ztq r
  rw [sumM] at h
  rw [findL,if_neg (by omega)]
  exact zs5 (by omega)
theorem ztC {l:List Mov} (h:l≠[]):findL 0 l 0=(0,0,true):=by
 cases l with
 | nil=>exact absurd rfl h
 | cons m r=>rw [findL,if_pos (zsT m).1];rfl
theorem zs4:∀{l:List Mov} {K:Nat} {s k j:Int},(∀m∈l,1≤stepM m)→0≤s→s+1≤sumM l→findL K l s=(k,j,true) →
  findL K l (s+1)=(k,j+1,true)∨(findL K l (s+1)=(k+1,1,true)∧∃i:Nat,k=((K+i:Nat):Int)∧∃m,l[i]?=some m∧j=stepM m)
 | [],_,s,_,_,_,h0,h,_=>by rw [sumM] at h;omega
 | m::r,K,s,k,j,hp,h0,h,hf=>by
  rw [sumM] at h
  rw [findL] at hf
  by_cases hs:s≤stepM m
  ·rw [if_pos hs] at hf
   injection hf with h1 h2
   injection h2 with h2 h3
   subst h1 h2
   by_cases hs1:s+1≤stepM m
   ·exact .inl (by rw [findL,if_pos hs1])
   ·refine .inr ⟨?_,0,rfl,m,rfl,by omega⟩
    rw [findL,if_neg hs1,show s+1 - stepM m=1 by omega]
    cases r with
    | nil=>rw [sumM] at h;omega
    | cons m2 r2 =>
     rw [findL,if_pos (hp m2 (by simp))]
     rfl
  ·rw [if_neg hs] at hf
   have ih:=zs4 (fun x hx=>hp x (List.mem_cons_of_mem _ hx)) (by omega) (by omega) hf
   have e:findL K (m::r) (s+1)=findL (K+1) r (s - stepM m+1):=by
    rw [findL,if_neg (by omega),show s+1 - stepM m=s - stepM m+1 by omega]
   rw [e]
   refine ih.imp id fun ⟨h1,i,h2,x,h3,h4⟩=>⟨h1,i+1,?_,x,h3,h4⟩
   rw [h2];omega
theorem zsX:∀{l:List Mov} {K:Nat},(∀m∈l,1≤stepM m)→l≠[]→∃m,l[l.length - 1]?=some m∧findL K l (sumM l)=(((K+(l.length - 1):Nat):Int),stepM m,true)
 | [],_,_,h=>absurd rfl h
 | [m],K,_,_=>⟨m,rfl,by rw [sumM,sumM,Int.add_zero,findL,if_pos (Int.le_refl _)];rfl⟩
 | m::m2::r,K,hp,_=>by
  obtain ⟨x,h1,h2⟩:=zsX (l:=m2::r) (K:=K+1) (fun y hy=>hp y (List.mem_cons_of_mem _ hy)) (by simp)
  have hm2:=hp m2 (by simp)
  have hr:=ztq r
  have hs:sumM (m2::r)=stepM m2+sumM r:=rfl
  refine ⟨x,by simpa using h1,?_⟩
  rw [show sumM (m::m2::r)=stepM m+sumM (m2::r) from rfl,findL,if_neg (by omega),show stepM m+sumM (m2::r) - stepM m=sumM (m2::r) by omega,h2]
  refine congrArg (fun k:Int=>(k,stepM x,true)) ?_
  simp only [List.length_cons]
  omega
structure PnD (st:Vec) (g:List Mov):Prop where
 ln:g.length≤40
 ck:chkP g=0
 fs:∀{k:Nat} {m:Mov},g[k]?=some m→(0:Int)=(k:Int)→m.2.1=st
 al:∀m∈g,chkM m=0
theorem zsK {l:List Sb} {args:List Int} {st:Vec} {g:List Mov} {e:Int} (hr:(runP l args st).1=g) (he:(runP l args st).2=e) (h0:e=0):PnD st g:=by
 obtain ⟨h1,q,h2⟩:=(zs6 hr he).1 h0
 exact ⟨h1,ztP h2 h1,fun {k m} hm hk=>by (obtain rfl:k=0:=by omega);exact ztr h2 hm,zti h2⟩
theorem ztN:chkX (.mk 2 0 []) 1=0:=by
 have q:=zp4 (a:=1) (by omega)
 exact q
theorem ztM {b:Int} (hb:Rg b):z6 (.mk 3 0 [numX b,.mk 2 0 []]) 1=0:=by
 show (if (3:Int) > 30 then (2:Int) else chkX (.mk 3 0 [numX b,.mk 2 0 []]) 1)=0
 rw [if_neg (by omega),chkX,chkL,chkL,chkL,zkE hb,ztN]
 have hf:zj 3 0 2 1=0:=by
  unfold zj
  rw [if_neg (by omega),if_pos ⟨by omega,rfl,rfl⟩]
 show (if zj 3 0 2 1≠0 then zj 3 0 2 1 else _)=0
 rw [hf];rfl
def sideC (b:Int):Stm:=(5,0,[115,105,100,101],[.mk 3 0 [numX b,.mk 2 0 []]])
theorem ztR {b:Int} (h:Rg b):stmE 1 (sideC b)=0:=by
 have h1:zg.find? (zae (sideC b))=some (zg.getD 6 (0,0,[],0)):=by kernel_rfl
 have h2:fitsF (sideC b) (zg.getD 6 (0,0,[],0))=true:=by kernel_rfl
 have h3:nameB (sideC b).2.2.1=true:=by kernel_rfl
 have h4:zaf (zg.getD 6 (0,0,[],0))=true:=by kernel_rfl
 unfold stmE
 rw [h1]
 dsimp only
 rw [if_pos h2,h3,h4]
 exact ziA (l:=[.mk 3 0 [numX b,.mk 2 0 []]]) fun e he=>by obtain rfl:=List.mem_singleton.1 he;exact ztM h
theorem zt7 {l:List Int} {a:Vec} (h:(stmtX l a).1.1=5):∃b,Rg b∧(stmtX l a).1=sideC b:=by
 unfold stmtX at h ⊢
 have b2:=zH (l:=(drawX l 12).2) (m:=13) (by omega) (by omega)
 generalize (drawX (drawX (drawX l 12).2 13).2 9).2=r at h ⊢
 generalize (drawX (drawX (drawX l 12).2 13).2 9).1=f at h ⊢
 generalize (drawX l 12).1=k at h ⊢
 generalize (drawX (drawX l 12).2 13).1=b at *
 unfold stmtK at h ⊢
 split at h
 ·exact absurd (show (1:Int)=5 from h) (by decide)
 split at h
 ·exact absurd (show (2:Int)=5 from h) (by decide)
 split at h
 ·exact absurd (show (2:Int)=5 from h) (by decide)
 split at h
 ·exact absurd (show (2:Int)=5 from h) (by decide)
 split at h
 ·have h:(sideX _ _).1=5:=h
  unfold sideX at h
  split at h<;>exact absurd (show (4:Int)=5 from h) (by decide)
 split at h
 ·exact absurd (show (4:Int)=5 from h) (by decide)
 split at h
 ·exact absurd (show (3:Int)=5 from h) (by decide)
 ·rename_i h1 h2 h3 h4 h5 h6 h7
  rw [if_neg h1,if_neg h2,if_neg h3,if_neg h4,if_neg h5,if_neg h6,if_neg h7]
  exact ⟨b - 6,⟨by omega,by omega⟩,rfl⟩
theorem ztY:∀{l:List (List Int)} {a:Vec} {n:Int},Bn n a→100≤n→n+100*(l.length:Int)≤900000→∀s∈walkP l a,stmE 1 s=0
 | [],_,_,_,_,_,s,hs=>by cases hs
 | x::r,a,n,h,h0,hn,s,hs=>by
  rw [List.length_cons] at hn
  have hx:=zoi (l:=x) h h0 (by omega)
  rw [walkP] at hs
  rcases List.mem_cons.1 hs with rfl | hs
  ·rcases hx.1.1 with h5 | hg
   ·obtain ⟨b,hb,e⟩:=zt7 h5
    rw [e];exact ztR hb
   ·exact gs_ok (gs_up hg 1)
  ·exact ztY hx.2 (by omega) (by omega) s hs
theorem ztH {l:List (List Int)}:zD (progX l)=0∧SbW (progX l):=by
 have hl:(l.take 9).length≤9:=List.length_take_le _ _
 have hm:=zhb (l:=l) (k:=0) rfl rfl
 have hs:=zt6 (l:=l) (k:=1) rfl rfl
 have e1:∀s∈walkP (l.take 9) (0,0,0),stmE 1 s=0:=ztY (n:=100) ⟨by dsimp only;omega,by dsimp only;omega,by dsimp only;omega⟩ (by omega) (by omega)
 have e2:∀s∈sideP (decide ((l.length:Int) > 5)),stmE 1 s=0:=fun s h=>by
  rcases (hs.2 s h).1 with h5 | hg
  ·have hk:∀x∈sideP (decide ((l.length:Int) > 5)),x.1≠5:=by
    unfold sideP
    intro x hx
    rcases List.mem_cons.1 hx with rfl | hx
    ·exact (by decide)
    ·split at hx
     ·obtain rfl:=List.mem_singleton.1 hx;exact (by decide)
     ·cases hx
   exact absurd h5 (hk s h)
  ·exact gs_ok hg
 refine ⟨?_,zt5 (by show 2≤1000000;omega) fun s h=>?_⟩
 ·have h1:(walkP (l.take 9) (0,0,0)).length≤9:=hm.1
  have h2:(sideP (decide ((l.length:Int) > 5))).length≤2:=hs.1
  unfold zD
  have e:zay (progX l)=2+(walkP (l.take 9) (0,0,0)).length+(2+(sideP (decide ((l.length:Int) > 5))).length):=rfl
  rw [if_neg (by rw [e];omega)]
  show (if !nameB [109,97,105,110] then (10:Int) else if stmsE 1 (walkP (l.take 9) (0,0,0))≠0 then stmsE 1 (walkP (l.take 9) (0,0,0)) else if !nameB [115,105,100,101] then (10:Int) else if stmsE 1 (sideP (decide ((l.length:Int) > 5)))≠0 then stmsE 1 (sideP (decide ((l.length:Int) > 5))) else (0:Int))=0
  rw [show nameB [109,97,105,110]=true by decide +kernel,show nameB [115,105,100,101]=true by decide +kernel,zjm e1,zjm e2];rfl
 ·have hw:∀t,Ws t→t.2.2.2.length≤1000000∧∀e∈t.2.2.2,nodes e≤1000000:=fun t h=>⟨Nat.le_trans h.1 (by omega),h.2⟩
  have h:s∈[_,_]:=h
  simp only [List.mem_cons,List.not_mem_nil,or_false] at h
  rcases h with rfl | rfl
  ·exact ⟨Nat.le_trans hm.1 (by omega),fun t ht=>hw t (hm.2 t ht).2⟩
  ·exact ⟨Nat.le_trans hs.1 (by omega),fun t ht=>hw t (hs.2 t ht).2⟩
variable {st:Vec} {g:List Mov}
theorem ztG (h:PnD st g):∀m∈g,1≤stepM m:=fun m hm=>ztp (h.al m hm)
theorem ztF (h:PnD st g) {s:Int} (hs:0≤s):findP g s=findL 0 g s:=if_pos ⟨h.ck,hs⟩
theorem ztV (h:PnD st g):zjl g=sumM g:=if_pos h.ck
theorem pn_bd (h:PnD st g):0≤sumM g∧sumM g≤1920:=by
 have h1:=ztq g
 have h2:=h.ln
 omega
theorem zsM (h:PnD st g) {s k j a b:Int} {c:Bool} (h0:1≤s) (hs:s≤sumM g) (hf:findL 0 g (s - 1)=(k,j,true)) (ha:(findP g s).1=a) (hb:(findP g s).2.1=b) (hc:(findP g s).2.2=c) :
  c=true∧a<(g.length:Int)∧0≤k∧0≤j∧j≤48∧k<41∧findL 0 g s=(a,b,true)∧((a=k∧b=j+1)∨(a=k+1∧b=1∧∃i:Nat,k=(i:Int)∧∃m,g[i]?=some m∧j=stepM m)):=by
 rw [ztF h (by omega)] at ha hb hc
 have hn:=zs4 (ztG h) (show 0≤s - 1 by omega) (by omega) hf
 rw [show s - 1+1=s by omega] at hn
 have hk:=zs8 hf
 have hj:=ztB (show 0≤s - 1 by omega) hf
 have hl:=h.ln
 rcases hn with hn | ⟨hn,i,h1,m,h2,h3⟩
 ·rw [hn] at ha hb hc
  subst ha hb hc
  exact ⟨rfl,by show k<_;omega,by omega,by omega,by omega,by omega,hn,.inl ⟨rfl,rfl⟩⟩
 ·have hk2:=zs8 hn
  rw [hn] at ha hb hc
  subst ha hb hc
  exact ⟨rfl,by show k+1<_;omega,by omega,by omega,by omega,by omega,hn,.inr ⟨rfl,rfl,i,by omega,m,h2,h3⟩⟩
theorem ztn (h:PnD st g) (hne:g≠[]) {k j:Int} (hf:findL 0 g (sumM g)=(k,j,true)):∃m,k=((g.length - 1:Nat):Int)∧g[g.length - 1]?=some m∧j=stepM m∧atP m j=(m.2.2.1,true):=by
 obtain ⟨m,h1,h2⟩:=zsX (K:=0) (ztG h) hne
 rw [h2] at hf
 injection hf with e1 e2
 injection e2 with e2 e3
 refine ⟨m,by omega,h1,e2.symm,?_⟩
 rw [← e2]
 exact zt1 (h.al m (List.mem_of_getElem? h1))
theorem pn_ex (h:PnD st g) {o:Int} (ho:sumM g=o) (hne:g≠[]):∃k j:Int,findL 0 g o=(k,j,true):=by
 obtain ⟨m,-,h2⟩:=zsX (K:=0) (ztG h) hne
 exact ⟨_,_,by rw [← ho];exact h2⟩
theorem pn_ne {v:Int} (e:(g.length:Int)=v) (h:v > 0):g≠[]:=fun h0=>by
 rw [h0] at e
 have e:(0:Int)=v:=e
 omega
theorem zsZ (h:g≠[]):0<g.length:=by
 cases g with
 | nil=>exact absurd rfl h
 | cons x r=>simp
theorem ztc {k:Int} {i n:Nat} {m x:Mov} (h1:k=(i:Int)) (h2:g[i]?=some m) (h3:k=(n:Int)) (h4:g[n]?=some x):x=m:=by
 obtain rfl:i=n:=by omega
 exact Option.some.inj (h4.symm.trans h2)
end Go.Proofs.YteimplkdcjapdaaGreatDoor
