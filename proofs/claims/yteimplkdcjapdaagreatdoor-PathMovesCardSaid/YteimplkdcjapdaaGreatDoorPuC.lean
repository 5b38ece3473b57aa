/-
  Merged: SymG, SymH, SymP, SymQ, SymX.
-/
import Derived.Test.YteimplkdcjapdaaGreatDoorPuB
import Derived.Deep.LoopGhost
set_option linter.unusedSimpArgs false
set_option linter.unusedVariables false
namespace Go.Proofs.YteimplkdcjapdaaGreatDoor
open Go.RowKit
section
variable {P:Program} {ops:Array Oper} {Q:Exit→Act→World→Prop}
def uptoA (n k:Nat):Array Bool:=Array.ofFn fun i:Fin n=>decide (i.val<k)
theorem zj9 {n k:Nat}:(uptoA n k).size=n:=by simp [uptoA]
theorem zaV {n k i:Nat} {b:Bool} (h:i<n):(uptoA n k).getD i b=decide (i<k):=by simp [uptoA,Array.getD,h]
theorem zka {n:Nat}:uptoA n 0=Array.replicate n false:=by
 apply Array.ext
 ·simp [uptoA]
 ·intro i h1 h2;simp [uptoA]
theorem zmK {n k:Nat}:(uptoA n k).setIfInBounds k true=uptoA n (k+1):=by
 apply Array.ext
 ·simp [uptoA]
 ·intro i h1 h2
  have h3:i<n:=by simpa [uptoA] using h2
  rw [Array.getElem_setIfInBounds (by simpa [uptoA] using h3)]
  simp only [uptoA,Array.getElem_ofFn]
  by_cases h:k=i
  ·subst h;simp
  ·rw [if_neg h]
   have:(i<k)=(i<k+1):=propext ⟨fun h4=>by omega,fun h4=>by omega⟩
   simp only [this]
theorem zmT {a:Act} {w:World} (I:Array Bool→Act→World→Prop)
  (h0:I (Array.replicate ops.size false) a w)
  (hs:∀(L:Array Bool) a w i o,ops[i]?=some o→L.size=ops.size→Shut false ops L→L.getD i true=false→(∀j∈dirOf false i o,L.getD j false=true)→I L a w→wpOp P ops Q i (I (L.setIfInBounds i true)) a w)
  (he:∀(L:Array Bool) a w,(∀i,i<ops.size→L.getD i false=true)→I L a w→Q .normal a w):wpOps P ops Q (List.range ops.size) a w:=by
 rw [List.range_eq_range']
 have key:∀(m k:Nat) a w,k+m=ops.size→I (uptoA ops.size k) a w→wpOps P ops Q (List.range' k m) a w:=by
  intro m
  induction m with
  | zero =>
   intro k a w hk hI
   show Q .normal a w
   exact he _ a w (fun i hi=>by rw [zaV hi];exact decide_eq_true (by omega)) hI
  | succ m ih =>
   intro k a w hk hI
   rw [List.range'_succ,wpOps_cons]
   have hlt:k<ops.size:=by omega
   refine wpOp_mono (fun a' w' hI'=>ih (k+1) a' w' (by omega) ?_) (hs (uptoA ops.size k) a w k _ (Array.getElem?_eq_getElem hlt) zj9 ?_ (by rw [zaV hlt];exact decide_eq_false (by omega)) (fun j hj=>?_) hI)
   ·rwa [zmK] at hI'
   ·intro i o ho hi j hj
    have hin:=(Array.getElem?_eq_some_iff.1 ho).1
    simp only [dirOf,Bool.false_eq_true,if_false,List.mem_range] at hj
    rw [zaV hin] at hi
    have h1:=of_decide_eq_true hi
    rw [zaV (by omega)]
    exact decide_eq_true (by omega)
   ·simp only [dirOf,Bool.false_eq_true,if_false,List.mem_range] at hj
    rw [zaV (by omega)]
    exact decide_eq_true hj
 exact key ops.size 0 a w (by omega) (by rw [zka];exact h0)
theorem zib {ops1 ops2:Array Oper} {next:Act→World→Prop} (g1:ops1.toList.all (fun o=>o.guard.isNone)=true) (g2:ops2.toList.all (fun o=>o.guard.isNone)=true) {a:Act} {w:World} (h:wpOps P ops1 (Exit.then next Q) (List.range ops1.size) a w) (hn:∀a w,next a w→wpOps P ops2 Q (List.range ops2.size) a w):wpOps P (ops1++ops2) Q (List.range (ops1++ops2).size) a w:=by
 have hw:∀(o:Oper) (y:Nat→Option Bool),o.guard.isNone=true→Region.wanted o y=true:=by
  intro o y ho
  unfold Region.wanted
  cases hg:o.guard with
  | none=>rfl
  | some x=>rw [hg] at ho;cases ho
 have hq:∀(o:Oper) (a:Act) (w:World) (K:Act→World→Prop),o.wp P a w K (Exit.then next Q)→o.wp P a w K Q:=by
  intro o a w K h
  unfold Oper.wp at *
  generalize (execOp a.eval o).run P w=r at *
  cases r with
  | ok n w'=>cases n<;>exact h
  | halt x w'=>cases x<;>exact h
 have second:∀(m k:Nat) a w,k+m=ops2.size→wpOps P ops2 Q (List.range' k m) a w→wpOps P (ops1++ops2) Q (List.range' (ops1.size+k) m) a w:=by
  intro m
  induction m with
  | zero=>intro k a w _ h;exact h
  | succ m ih =>
   intro k a w hk h
   rw [List.range'_succ,wpOps_cons] at h ⊢
   have hlt:k<ops2.size:=by omega
   have e1:ops2[k]?=some ops2[k]:=Array.getElem?_eq_getElem hlt
   have e2:(ops1++ops2)[ops1.size+k]?=some ops2[k]:=by rw [Array.getElem?_append_right (by omega),Nat.add_sub_cancel_left,e1]
   have hg:ops2[k].guard.isNone=true:=List.all_eq_true.1 g2 _ (by simp)
   unfold wpOp at h ⊢
   rw [e1] at h
   rw [e2]
   simp only [hw _ _ hg,if_true] at h ⊢
   exact h.imp (Oper.wp_mono fun a' w' h'=>ih (k+1) a' w' (by omega) h') id
 have first:∀(m k:Nat) a w,k+m=ops1.size→wpOps P ops1 (Exit.then next Q) (List.range' k m) a w→wpOps P (ops1++ops2) Q (List.range' k (m+ops2.size)) a w:=by
  intro m
  induction m with
  | zero =>
   intro k a w hk h
   have h2:=second ops2.size 0 a w (by omega) (by rw [← List.range_eq_range'];exact hn a w h)
   rw [Nat.zero_add]
   rw [show k=ops1.size+0 by omega]
   exact h2
  | succ m ih =>
   intro k a w hk h
   rw [List.range'_succ,wpOps_cons] at h
   rw [show m+1+ops2.size=(m+ops2.size)+1 by omega,List.range'_succ,wpOps_cons]
   have hlt:k<ops1.size:=by omega
   have e1:ops1[k]?=some ops1[k]:=Array.getElem?_eq_getElem hlt
   have e2:(ops1++ops2)[k]?=some ops1[k]:=by rw [Array.getElem?_append_left hlt,e1]
   have hg:ops1[k].guard.isNone=true:=List.all_eq_true.1 g1 _ (by simp)
   unfold wpOp at h ⊢
   rw [e1] at h
   rw [e2]
   simp only [hw _ _ hg,if_true] at h ⊢
   exact h.imp (fun h=>Oper.wp_mono (fun a' w' h'=>ih (k+1) a' w' (by omega) h') (hq _ _ _ _ h)) id
 have:=first ops1.size 0 a w (by omega) (by rw [← List.range_eq_range'];exact h)
 rw [List.range_eq_range',Array.size_append]
 exact this
theorem zng {anc:List Nat} (h:ancOk true anc 0 ops.toList=true):backB ops=true:=by
 unfold backB
 rw [List.all_eq_true]
 intro i hi
 rw [List.mem_range] at hi
 rw [Array.getElem?_eq_getElem hi]
 simp only
 rw [Array.all_eq_true_iff_forall_mem]
 intro e he
 cases hb:Region.binds .any e with
 | false=>rfl
 | true =>
  have:=(zbL h i ops[i] (by simp [hi])).2 e.on (by
   simp only [dirOf,if_true,List.mem_filterMap]
   exact ⟨e,by simpa using he,by rw [hb];rfl⟩)
  simpa using this
theorem zfD {i j:Nat} {o:Oper} (ho:ops[i]?=some o) (h:j∈dirOf true i o):depB ops i j=true:=by
 simp only [dirOf,if_true,List.mem_filterMap] at h
 obtain ⟨e,he,h2⟩:=h
 split at h2
 ·rename_i hb
  injection h2 with h2
  unfold depB
  rw [ho]
  simp only
  rw [Array.any_eq_true']
  exact ⟨e,by simpa using he,by rw [hb,h2];simp⟩
 ·cases h2
end
def zrV (i bn:Nat) (dst:Option Nat) (e:Eff):List (Nat×Atom):=
 (match dst,e.val with
  | some d,some x=>[(i,.sl d x)]
  | _,_=>[])++((match e.nw with
  | some (T,ls)=>[(i,.bx bn T ls)]
  | none=>[])++e.wr.map fun x=>(i,x))
def before (m:Nat):List (Nat×Atom)→List Atom
 | []=>[]
 | p::r=>if m.testBit p.1 then p.2::before m r else before m r
def touches (x:Option Nat×Eff) (A:Atom):Bool:=(match A with
 | .sl s _=>x.1 == some s
 | B=>B.nms.any (fun b=>x.2.tch.contains b) && !(x.2.wr.any fun C=>aeq B C)) || x.2.mv.any fun c=>A.has c
def zkq (m:Nat) (A:Atom):Nat→List (Option Nat×Eff)→Bool
 | _,[]=>true
 | i,x::r=>!(m.testBit (i - 1) && touches x A) && zkq m A (i - 1) r
def zru (m i:Nat) (es:List (Option Nat×Eff)):Atom→Bool
 | .bx b T ls=>zkq m (.bx b T ls) i es
 | _=>true
def pass1 (K:Kit) (P:Program) (C:List (Nat×Ent)) (ops:Array Oper) (anc:List Nat) (base:Nat) (pre:List Atom):Nat→List Oper→List (Nat×Atom)→List (Option Nat×Eff)→List Nat→Option (List (Nat×Atom)×List (Option Nat×Eff)×List Nat)
 | _,[],ps,es,qs=>some (ps,es.reverse,qs)
 | i,o::r,ps,es,qs=>if hasP (anc.getD i 0) qs then pass1 K P C ops anc base pre (i+1) r ps ((none,⟨none,none,[],[],[],none⟩)::es) qs
  else match zi6 K P C ops (base+i) (before (anc.getD i 0) ps++pre.filter (zru (anc.getD i 0) i es)) o with
  | some e=>match e.pan with
   | none=>pass1 K P C ops anc base pre (i+1) r (zrV i (base+i) o.dst e++ps) ((o.dst,e)::es) qs
   | some _=>pass1 K P C ops anc base pre (i+1) r ps ((none,e)::es) (i::qs)
  | none=>none
def killers (m:Nat) (src:Option Nat) (A:Atom):Nat→List (Option Nat×Eff)→List Nat
 | _,[]=>[]
 | k,x::r=>if touches x A && !(src == some k) && !(m.testBit k) then k::killers m src A (k+1) r else killers m src A (k+1) r
def ze2 (es:List (Option Nat×Eff)):List Atom→List Row
 | []=>[]
 | A::r=>⟨none,killers 0 none A 0 es,A⟩::ze2 es r
def ze1 (anc:List Nat) (es:List (Option Nat×Eff)):List (Nat×Atom)→List Row
 | []=>[]
 | p::r=>⟨some p.1,killers (anc.getD p.1 0) (some p.1) p.2 0 es,p.2⟩::ze1 anc es r
def finals:List Row→List Atom
 | []=>[]
 | r::rs=>match r.ks with
  | []=>r.A::finals rs
  | _=>finals rs
def once:List Atom→List Atom
 | []=>[]
 | .sl s x::r=>.sl s x::once r
 | A::r=>if r.any (fun B=>aeq A B) then once r else A::once r
theorem zcN {A:Atom}:∀{l:List Atom},A∈once l→A∈l
 | [],h=>by cases h
 | B::r,h=>by
  unfold once at h
  split at h
  ·cases h
  ·rename_i e;injection e with e1 e2;subst e1;subst e2
   rcases List.mem_cons.1 h with h | h
   ·rw [h];exact List.mem_cons_self ..
   ·exact List.mem_cons_of_mem _ (zcN h)
  ·rename_i e;injection e with e1 e2;subst e1;subst e2
   split at h
   ·exact List.mem_cons_of_mem _ (zcN h)
   ·rcases List.mem_cons.1 h with h | h
    ·rw [h];exact List.mem_cons_self ..
    ·exact List.mem_cons_of_mem _ (zcN h)
def srcOk (n:Nat) (r:Row):Bool:=match r.src with
 | some p=>Nat.blt p n
 | none=>true
def zpq (anc:List Nat) (base:Nat) (es:List (Option Nat×Eff)) (rows:List Row):List Nat→Pans
 | []=>⟨[],.t [],[]⟩
 | i::qs=>match es[i]? with
  | some (_,e)=>⟨i::qs,e.pan.getD (.t []),((avails anc i rows).filter fun A=>(!isSl A || qs.isEmpty) && free e none (base+i) A)++e.wr⟩
  | none=>⟨i::qs,.t [],[]⟩
def zea (K:Kit) (P:Program) (C:List (Nat×Ent)) (pm:Pm) (base:Nat) (st:List Atom) (ops:Array Oper) (draw:Bool):Option (Option Sh×List Atom):=
 let anc:=ancGo (zis draw 0 ops.toList) []
 match pass1 K P C ops anc base st 0 ops.toList [] [] [] with
 | some (ps,es,qs) =>
  let rows:=ze1 anc es ps++ze2 es st
  let pc:=zpq anc base es rows qs
  if ancOk draw anc 0 ops.toList && rows.all (srcOk ops.size) && opsOk K P C ops anc pm base rows pc 0 ops.toList then match pc.ps with
   | []=>some (none,once (finals rows))
   | p::_=>if Nat.blt p ops.size then some (some pc.x,pc.st) else none
  else none
 | none=>none
theorem zds {es:List (Option Nat×Eff)} {r:Row}:∀{st:List Atom},r∈ze2 es st→r.A∈st
 | [],h=>by cases h
 | A::l,h=>by
  rcases List.mem_cons.1 h with h | h
  ·rw [h];exact List.mem_cons_self ..
  ·exact List.mem_cons_of_mem _ (zds h)
theorem zdr {anc:List Nat} {es:List (Option Nat×Eff)} {r:Row}:∀{ps:List (Nat×Atom)},r∈ze1 anc es ps→∃p,r.src=some p
 | [],h=>by cases h
 | A::l,h=>by
  rcases List.mem_cons.1 h with h | h
  ·rw [h];exact ⟨_,rfl⟩
  ·exact zdr h
theorem zch {A:Atom}:∀{rows:List Row},A∈finals rows→∃r∈rows,r.ks=[]∧A=r.A
 | [],h=>by cases h
 | r::rs,h=>by
  unfold finals at h
  split at h
  ·rename_i hk
   rcases List.mem_cons.1 h with h | h
   ·exact ⟨r,List.mem_cons_self ..,hk,h⟩
   ·obtain ⟨r',h1,h2⟩:=zch h
    exact ⟨r',List.mem_cons_of_mem _ h1,h2⟩
  ·obtain ⟨r',h1,h2⟩:=zch h
   exact ⟨r',List.mem_cons_of_mem _ h1,h2⟩
section
variable {K:Kit} {P:Program} {F:Fact} {R:Frm}
theorem Env.drew {β:Loc} {W:World} (h:Env K R β W):Env K R β W.drew:=
 ⟨h.geo.mono (fun _ h=>h.elim) (Oth.drew (fun _=>False) W),h.oth.trans (Oth.drew _ W) (T:=fun _=>False) (fun _ h=>h.elim),h.own,h.same,h.mvd,h.dm,h.dn⟩
theorem Atom.drew {β:Loc} {a:Act} {W:World} (hF:Fine K F) {A:Atom} (h:A.ok K F β a W):A.ok K F β a W.drew:=
 Atom.mv hF (fun _ h=>h.elim) (Oth.drew (fun _=>False) W) (fun _ h=>h) (fun _ _ _=>rfl) (fun _ _=>Loc.same.rfl) h (fun _ _ _ _ _ h=>h.elim)
theorem Inv.drew {st:List Atom} {a:Act} {W:World} (hF:Fine K F) (h:Inv K F R st a W):Inv K F R st a W.drew:=by
 obtain ⟨h1,h2,β,h3,h4⟩:=h
 exact ⟨h1,h2,β,h3.drew,fun A hA=>Atom.drew hF (h4 A hA)⟩
inductive Ex where
 | n
 | r
 | x (id:Nat)
 | p (x:Sh)
def Ex.e:Ex→Exit
 | .n=>.normal
 | .r=>.ret
 | .x id=>.exit id
 | .p _=>.panic []
def Lands (K:Kit) (F:Fact) (R:Frm) (Q:Exit→Act→World→Prop) (x:Ex) (st:List Atom):Prop:=match x with
 | .p s=>∀v a W,InvP K F R s st v a W→Q (.panic [{ v,recovered:=false }]) a W
 | y=>∀a W,Inv K F R st a W→Q y.e a W
theorem Lands.mono {Q Q':Exit→Act→World→Prop} {x:Ex} {st:List Atom} (h:Lands K F R Q x st) (hQ:∀e a W,e≠.normal→Q e a W→Q' e a W) (hn:x=.n→∀a W,Q .normal a W→Q' .normal a W):Lands K F R Q' x st:=by
 cases x with
 | n=>exact fun a W hI=>hn rfl a W (h a W hI)
 | r=>exact fun a W hI=>hQ _ a W (by simp [Ex.e]) (h a W hI)
 | x i=>exact fun a W hI=>hQ _ a W (by simp [Ex.e]) (h a W hI)
 | p s=>exact fun v a W hI=>hQ _ a W (by simp) (h v a W hI)
theorem zeY (hF:Fine K F) {C:List (Nat×Ent)} (hC:Sound K P F C) (hm:P.follows .mixedOrders=true) {id base:Nat} {st st':List Atom} {ops:Array Oper} {draw:Bool} {Q:Exit→Act→World→Prop} {a:Act} {W:World} {y:Option Sh}
  (h:zea K P C R.pm base st ops draw=some (y,st')) (hI:Inv K F R st a W) (hQ:Lands K F R Q (match y with | none=>.n | some x=>.p x) st'):(draw=false→wpOps P ops Q (List.range ops.size) a W)∧(Code.region id ops draw).wp P Q a W:=by
 unfold zea at h
 simp only at h
 split at h
 case h_2=>simp at h
 rename_i ps es qs hp
 rw [Option.ite_none_right_eq_some] at h
 obtain ⟨hc,h⟩:=h
 rw [Bool.and_eq_true,Bool.and_eq_true] at hc
 obtain ⟨⟨hA,hsrc⟩,hO⟩:=hc
 rw [List.all_eq_true] at hsrc
 obtain ⟨rows,hrw⟩:∃r,ze1 (ancGo (zis draw 0 ops.toList) []) es ps++ze2 es st=r:=⟨_,rfl⟩
 rw [hrw] at hsrc hO h
 obtain ⟨pc,hpc⟩:∃p,zpq (ancGo (zis draw 0 ops.toList) []) base es rows qs=p:=⟨_,rfl⟩
 rw [hpc] at hO h
 have hrep:∀p,(Array.replicate ops.size false).getD p false=false:=by
  intro p
  rw [Array.getD_eq_getD_getElem?]
  rcases Nat.lt_or_ge p ops.size with hlt | hlt
  ·simp [hlt]
  ·rw [Array.getElem?_eq_none (by simpa using hlt)];rfl
 have h0:∀a W,Inv K F R st a W→InvL K F R rows pc.ps (Array.replicate ops.size false) a W:=by
  rintro a W ⟨h1,h2,β,h3,h4⟩
  refine ⟨fun p _=>hrep p,h1,h2,β,h3,fun r hr hal=>?_⟩
  rw [← hrw] at hr
  rcases List.mem_append.1 hr with hr | hr
  ·obtain ⟨p,hp⟩:=zdr hr
   have:=hal.1 p hp
   rw [hrep p] at this;cases this
  ·exact h4 _ (zds hr)
 have he:∀(L:Array Bool) a w,(∀i,i<ops.size→L.getD i false=true)→InvL K F R rows pc.ps L a w→Q .normal a w:=by
  rintro L a W hL ⟨hps,h1,h2,β,h3,h4⟩
  split at h
  ·injection h with h'
   injection h' with hy hz
   subst hz
   subst hy
   refine hQ a W ⟨h1,h2,β,h3,fun A hA=>?_⟩
   obtain ⟨r,hr,hk,rfl⟩:=zch (zcN hA)
   refine h4 r hr ⟨fun p hp=>?_,fun k hk'=>by rw [hk] at hk';cases hk'⟩
   have:=hsrc r hr
   unfold srcOk at this
   rw [hp] at this
   exact hL p (by simpa using this)
  ·rename_i p _ hpe
   rw [Option.ite_none_right_eq_some] at h
   have h5:=hL p (by simpa using h.1)
   rw [hps p (by rw [hpe];exact List.mem_cons_self ..)] at h5
   cases h5
 have hP:∀v a' W',pc.ps≠[]→InvP K F R pc.x pc.st v a' W'→Q (.panic [{ v,recovered:=false }]) a' W':=by
  intro v a' W' hne hI'
  split at h
  ·rename_i hpe;exact absurd hpe hne
  ·rw [Option.ite_none_right_eq_some] at h
   have h6:=h.2
   injection h6 with h7
   injection h7 with hy hz
   subst hz
   subst hy
   exact hQ v a' W' hI'
 have hstep:∀(L:Array Bool) (a:Act) (W:World) (i:Nat) (o:Oper),ops[i]?=some o→L.size=ops.size→Shut draw ops L→L.getD i true=false→(∀k∈dirOf draw i o,L.getD k false=true)→InvL K F R rows pc.ps L a W→wpOp P ops Q i (InvL K F R rows pc.ps (L.setIfInBounds i true)) a W:=
  fun L a W i o ho hsz hL hi hr hI=>zoa hF hC hA hO L a W i o ho hsz hL hi hr (fun hne v a' W'=>hP v a' W' hne) hI
 cases draw with
 | false =>
  have h1:wpOps P ops Q (List.range ops.size) a W:=zmT _ (h0 a W hI) (fun L a W i o ho hsz hL hi hr hI=>hstep L a W i o ho hsz hL hi hr hI) he
  exact ⟨fun _=>h1,wp_region h1⟩
 | true =>
  refine ⟨fun h=>(by cases h),?_⟩
  refine zfv hm (zng hA) _ (h0 a _ (hI.drew hF)) (fun L a W i o ho hsz hL hi hr hI=>hstep L a W i o ho hsz (fun x y hy hx k hk=>hL x k (zfD hy hk) ?_ (Array.getElem?_eq_some_iff.1 hy).1) hi (fun k hk=>hr k (zfD ho hk)) hI) he
  rw [zg4 (c:=false) (by rw [hsz];exact (Array.getElem?_eq_some_iff.1 hy).1)]
  exact hx
theorem zpv (hF:Fine K F) {C:List (Nat×Ent)} (hC:Sound K P F C) (hm:P.follows .mixedOrders=true) {id base:Nat} {st st':List Atom} {ops:Array Oper} {draw:Bool} {Q:Exit→Act→World→Prop} {a:Act} {W:World} {y:Option Sh}
  (h:zea K P C R.pm base st ops draw=some (y,st')) (hI:Inv K F R st a W) (hQ:Lands K F R Q (match y with | none=>.n | some x=>.p x) st'):(Code.region id ops draw).wp P Q a W:=(zeY (id:=id) hF hC hm h hI hQ).2
structure LoopS where
 id:Nat
 inv:List Atom
 x:Ex
 out:List Atom
structure Gh where
 id:Nat
 old:List Atom
 new:List Atom
 dead:List Nat
structure Hint where
 loops:List LoopS
 ghs:List Gh
 un:Nat
def Hint.no:Hint:=⟨[],[],0⟩
def qY:Code→Option Nat
 | .region id _ _=>some id
 | .seq a b=>match qY a with
  | some i=>some i
  | none=>qY b
 | .cond _ a b=>match qY a with
  | some i=>some i
  | none=>qY b
 | .block _ c=>qY c
 | .scope c=>qY c
 | .loop c=>qY c
 | _=>none
def keyOf (c:Code):Nat:=(qY c).getD 0
def zu:Code→List (Nat×Code)
 | .loop b=>(keyOf b,b)::zu b
 | .seq a b=>zu a++zu b
 | .cond _ a b=>zu a++zu b
 | .block _ c=>zu c
 | .scope c=>zu c
 | _=>[]
def qo (i:Nat):List LoopS→Option LoopS
 | []=>none
 | s::r=>if s.id == i then some s else qo i r
def zcn (st:List Atom):List Atom→Bool
 | []=>true
 | A::r=>(st.any fun B=>aeq A B) && zcn st r
theorem za4 {st:List Atom} {A:Atom}:∀{l:List Atom},zcn st l=true→A∈l→A∈st
 | [],_,h=>by cases h
 | B::r,h,hA=>by
  simp only [zcn,Bool.and_eq_true,List.any_eq_true] at h
  rcases List.mem_cons.1 hA with rfl | hA
  ·obtain ⟨C,hC,he⟩:=h.1
   rw [zcz he];exact hC
  ·exact za4 h.2 hA
theorem Inv.less {st st':List Atom} {a:Act} {W:World} (h:Inv K F R st a W) (hs:∀A∈st',A∈st):Inv K F R st' a W:=by
 obtain ⟨h1,h2,β,h3,h4⟩:=h
 exact ⟨h1,h2,β,h3,fun A hA=>h4 A (hs A hA)⟩
theorem Lands.less {Q:Exit→Act→World→Prop} {x:Ex} {st st':List Atom} (h:Lands K F R Q x st) (hs:∀A∈st,A∈st'):Lands K F R Q x st':=by
 cases x with
 | p s=>exact fun v a W ⟨h1,h2,β,h3,h5,h4⟩=>h v a W ⟨h1,h2,β,h3,h5,fun A hA=>h4 A (hs A hA)⟩
 | n=>exact fun a W hI=>h a W (hI.less hs)
 | r=>exact fun a W hI=>h a W (hI.less hs)
 | x i=>exact fun a W hI=>h a W (hI.less hs)
def zU (K:Kit) (P:Program) (F:Fact) (R:Frm) (s:LoopS) (body:Code):Prop:=
 ∀(Q:Exit→Act→World→Prop) a W,Inv K F R s.inv a W→Lands K F R Q s.x s.out→(Code.loop body).wp P Q a W
def Gh.sound (K:Kit) (F:Fact) (g:Gh):Prop:=∀(β:Loc) (a:Act) (W:World),Geo K β W→(∀A∈g.old,A.ok K F β a W) →
 ∃β',Geo K β' W∧(∀c,c ∉ g.dead→β.same β' c)∧(∀q,β.D q→β'.D q)∧(∀q,β'.D q→β.D q∨∃c∈g.dead,β c=some q)∧(∀c∈g.dead,∀q,β' c=some q→β c=some q)∧∀A∈g.new,A.ok K F β' a W
def zph (l:List Nat) (A:Atom):Bool:=l.any fun c=>A.has c
def ghRun (pm:Pm) (g:Gh) (st:List Atom):Option (List Atom):=if zcn st g.old && g.dead.all (fun c=>pm.gn.contains c || !pm.pn.contains c) then some (g.new++st.filter fun A=>!zph g.dead A) else none
theorem gh_ok {g:Gh} {st st':List Atom} {a:Act} {W:World} (hF:Fine K F) (hg:g.sound K F) (h:ghRun R.pm g st=some st') (hI:Inv K F R st a W):Inv K F R st' a W:=by
 unfold ghRun at h
 rw [Option.ite_none_right_eq_some,Bool.and_eq_true,List.all_eq_true] at h
 obtain ⟨⟨hh,hd⟩,h⟩:=h
 injection h with h;subst h
 obtain ⟨h1,h2,β,hE,h4⟩:=hI
 obtain ⟨β',g1,g2,g3,g4,g5,g6⟩:=hg β a W hE.geo fun A hA=>h4 A (za4 hh hA)
 have hdn:∀c∈g.dead,c∈R.pm.pn→c∈R.pm.gn:=fun c hc hp=>by have:=hd c hc;simpa [hp] using this
 have hsub:∀c q,β' c=some q→β c=some q:=fun c q hq=>by
  by_cases hc:c∈g.dead
  ·exact g5 c hc q hq
  ·exact (g2 c hc).1.symm.trans hq
 refine ⟨h1,h2,β',⟨g1,hE.oth,fun b hb q hq=>hE.own b hb q (hsub b q hq),fun b hb hbg=>?_,fun b hb q hq=>hE.mvd b hb q (hsub b q hq),fun q hq=>g3 q (hE.dm q hq),fun q hq=>?_⟩,fun A hA=>?_⟩
 ·have e1:=g2 b (fun hb2=>hbg (hdn b hb2 hb))
  have e2:=hE.same b hb hbg
  exact ⟨e1.1.trans e2.1,e1.2.trans e2.2⟩
 ·rcases g4 q hq with h | ⟨c,hc,h⟩
  ·exact hE.dn q h
  ·by_cases hp:c∈R.pm.pn
   ·exact .inr ((hE.mvd c hp q h).elim (fun h2=>.inr ⟨c,hdn c hc hp,h2⟩) .inl)
   ·exact .inr (.inl (hE.own c hp q h))
 ·rcases List.mem_append.1 hA with hA | hA
  ·exact g6 A hA
  ·rw [List.mem_filter] at hA
   refine Atom.mv hF (fun _ h=>h.elim) (Oth.refl (fun _=>False) W) g3 (fun _ _ _=>rfl) (fun c hc=>g2 c fun hd=>?_) (h4 A hA.1) (fun _ _ _ _ _ h=>h.elim)
   have:=hA.2
   rw [Bool.not_eq_true'] at this
   have h7:zph g.dead A=true:=List.any_eq_true.2 ⟨c,hd,hc⟩
   rw [h7] at this;cases this
def zc7 (pm:Pm) (id:Nat):List Gh→List Atom→Option (List Atom)
 | [],st=>some st
 | g::r,st=>if g.id == id then match ghRun pm g st with
   | some st'=>zc7 pm id r st'
   | none=>none
  else zc7 pm id r st
def GhsSound (K:Kit) (F:Fact):List Gh→Prop
 | []=>True
 | g::r=>g.sound K F∧GhsSound K F r
theorem ziL {id:Nat} {a:Act} {W:World} (hF:Fine K F):∀{gs:List Gh} {st st':List Atom},GhsSound K F gs→zc7 R.pm id gs st=some st'→Inv K F R st a W→Inv K F R st' a W
 | [],st,st',_,h,hI=>by
  unfold zc7 at h
  injection h with h;subst h;exact hI
 | g::r,st,st',hs,h,hI=>by
  unfold zc7 at h
  split at h
  ·split at h
   ·rename_i st2 h2
    exact ziL hF hs.2 h (gh_ok hF hs.1 h2 hI)
   ·cases h
  ·exact ziL hF hs.2 h hI
def zpr (id:Nat):List Gh→Option Nat
 | []=>none
 | g::r=>if g.id == 1000000+id then (match g.old with
  | [.gn k]=>some k
  | _=>none) else zpr id r
def ziV (ops:Array Oper):Bool:=ops.toList.all fun o=>o.guard.isNone
def loopN (f:Nat→List Atom→Option (Ex×Nat×List Atom)):Nat→Nat→List Atom→Option (Ex×Nat×List Atom)
 | 0,_,_=>none
 | k+1,b,st=>match f b st with
  | some (.n,b',st')=>loopN f k b' st'
  | other=>other
def run (K:Kit) (P:Program) (C:List (Nat×Ent)) (H:Hint) (pm:Pm):Code→Nat→List Atom→Option (Ex×Nat×List Atom)
 | .skip,b,st=>some (.n,b,st)
 | .region id ops draw,b,st=>match zpr id H.ghs with
  | some k=>if ziV (ops.extract 0 k) && ziV (ops.extract k ops.size) && !draw && Nat.ble k ops.size then (match zea K P C pm b st (ops.extract 0 k) false with
   | some (none,st')=>match zc7 pm id H.ghs st' with
    | some st2=>match zea K P C pm (b+k) st2 (ops.extract k ops.size) false with
     | some (none,st3)=>some (.n,b+ops.size,st3)
     | some (some x,st3)=>some (.p x,b+ops.size,st3)
     | none=>none
    | none=>none
   | _=>none) else none
  | none=>match zea K P C pm b st ops draw with
   | some (none,st')=>match zc7 pm id H.ghs st' with
    | some st2=>some (.n,b+ops.size,st2)
    | none=>none
   | some (some x,st')=>some (.p x,b+ops.size,st')
   | none=>none
 | .seq x y,b,st=>match run K P C H pm x b st with
  | some (.n,b',st')=>run K P C H pm y b' st'
  | other=>other
 | .cond c x y,b,st=>match zin C st c with
  | some true=>run K P C H pm x b st
  | some false=>run K P C H pm y b st
  | none=>none
 | .block id c,b,st=>match run K P C H pm c b st with
  | some (.x i,b',st')=>if i == id then some (.n,b',st') else some (.x i,b',st')
  | other=>other
 | .exit id,b,st=>some (.x id,b,st)
 | .scope c,b,st=>run K P C H pm c b st
 | .loop c,b,st=>match qo (keyOf c) H.loops with
  | some s=>if zcn st s.inv then some (s.x,b+1000,s.out) else none
  | none=>loopN (fun b st=>run K P C H pm c b st) H.un b st
 | .label _,b,st=>some (.n,b,st)
 | .ret,b,st=>some (.r,b,st)
 | _,_,_=>none
theorem zpC (hF:Fine K F) {C:List (Nat×Ent)} (hC:Sound K P F C) (hm:P.follows .mixedOrders=true) (H:Hint) (hG:GhsSound K F H.ghs):∀(c:Code) (_:∀p∈zu c,∀s,qo p.1 H.loops=some s→zU K P F R s p.2) {b b':Nat} {st st':List Atom} {x:Ex} {Q:Exit→Act→World→Prop} {a:Act} {W:World},
  run K P C H R.pm c b st=some (x,b',st')→Inv K F R st a W→Lands K F R Q x st'→c.wp P Q a W:=by
 intro c
 induction c with
 | skip =>
  intro hL b b' st st' x Q a W h hI hQ
  simp only [run,Option.some.injEq,Prod.mk.injEq] at h
  obtain ⟨rfl,rfl,rfl⟩:=h
  exact wp_skip (hQ a W hI)
 | region id ops draw =>
  intro hL b b' st st' x Q a W h hI hQ
  simp only [run] at h
  split at h
  ·rename_i k hk
   rw [Option.ite_none_right_eq_some] at h
   obtain ⟨hc,h⟩:=h
   rw [Bool.and_eq_true,Bool.and_eq_true,Bool.and_eq_true,Bool.not_eq_true',Nat.ble_eq] at hc
   obtain ⟨⟨⟨g1,g2⟩,hd⟩,hle⟩:=hc
   split at h
   ·rename_i st2 h2
    split at h
    ·rename_i st3 h3
     subst hd
     refine wp_region ?_
     have e:ops=ops.extract 0 k++ops.extract k ops.size:=by rw [Array.extract_append_extract];simp [Nat.min_eq_left (Nat.zero_le _),Nat.max_eq_right hle]
     rw [e]
     refine zib (next:=fun a' W'=>Inv K F R st3 a' W') g1 g2 ((zeY (id:=id) hF hC hm h2 hI fun a2 W2 hI2=>ziL hF hG h3 hI2).1 rfl) fun a' W' hI'=>?_
     split at h
     ·rename_i st4 h4
      simp only [Option.some.injEq,Prod.mk.injEq] at h
      obtain ⟨rfl,rfl,rfl⟩:=h
      exact (zeY (id:=id) hF hC hm h4 hI' hQ).1 rfl
     ·rename_i y st4 h4
      simp only [Option.some.injEq,Prod.mk.injEq] at h
      obtain ⟨rfl,rfl,rfl⟩:=h
      exact (zeY (id:=id) hF hC hm h4 hI' hQ).1 rfl
     ·cases h
    ·cases h
   ·cases h
  split at h
  ·rename_i st2 h2
   split at h
   ·rename_i st3 h3
    simp only [Option.some.injEq,Prod.mk.injEq] at h
    obtain ⟨rfl,rfl,rfl⟩:=h
    exact zpv hF hC hm h2 hI (fun a2 W2 hI2=>hQ a2 W2 (ziL hF hG h3 hI2))
   ·cases h
  ·rename_i y st2 h2
   simp only [Option.some.injEq,Prod.mk.injEq] at h
   obtain ⟨rfl,rfl,rfl⟩:=h
   exact zpv hF hC hm h2 hI hQ
  ·cases h
 | seq y z ih1 ih2 =>
  intro hL b b' st st' x Q a W h hI hQ
  simp only [run] at h
  refine wp_seq ?_
  split at h
  ·rename_i b2 st2 h2
   exact ih1 (fun p hp=>hL p (List.mem_append_left _ hp)) h2 hI fun a2 W2 hI2=>ih2 (fun p hp=>hL p (List.mem_append_right _ hp)) h hI2 hQ
  ·rename_i hne
   refine ih1 (fun p hp=>hL p (List.mem_append_left _ hp)) h hI (hQ.mono (fun e a2 W2 he h2=>?_) fun hx=>?_)
   ·cases e with
    | normal=>exact absurd rfl he
    | _=>exact h2
   ·subst hx;exact (hne _ _ h).elim
 | cond cc y z ih1 ih2 =>
  intro hL b b' st st' x Q a W h hI hQ
  simp only [run] at h
  obtain ⟨_,_,β,_,hA⟩:=id hI
  split at h
  ·rename_i hb
   exact wp_cond_true (zbM hC hb hA) (ih1 (fun p hp=>hL p (List.mem_append_left _ hp)) h hI hQ)
  ·rename_i hb
   exact wp_cond_false (zbM hC hb hA) (ih2 (fun p hp=>hL p (List.mem_append_right _ hp)) h hI hQ)
  ·cases h
 | block id c ih =>
  intro hL b b' st st' x Q a W h hI hQ
  simp only [run] at h
  refine wp_block ?_
  split at h
  ·rename_i i b2 st2 h2
   split at h
   ·rename_i hi
    rw [beq_iff_eq] at hi
    simp only [Option.some.injEq,Prod.mk.injEq] at h
    obtain ⟨rfl,rfl,rfl⟩:=h
    refine ih hL h2 hI fun a2 W2 hI2=>?_
    show if i=id then _ else _
    rw [if_pos hi]
    exact hQ a2 W2 hI2
   ·rename_i hi
    rw [beq_iff_eq] at hi
    simp only [Option.some.injEq,Prod.mk.injEq] at h
    obtain ⟨rfl,rfl,rfl⟩:=h
    refine ih hL h2 hI fun a2 W2 hI2=>?_
    show if i=id then _ else _
    rw [if_neg hi]
    exact hQ a2 W2 hI2
  ·rename_i hne
   refine ih hL h hI ?_
   cases x with
   | n=>exact hQ
   | r=>exact hQ
   | x i=>exact (hne _ _ _ h).elim
   | p s=>exact hQ
 | exit id =>
  intro hL b b' st st' x Q a W h hI hQ
  simp only [run,Option.some.injEq,Prod.mk.injEq] at h
  obtain ⟨rfl,rfl,rfl⟩:=h
  exact wp_exit (hQ a W hI)
 | scope c ih =>
  intro hL b b' st st' x Q a W h hI hQ
  simp only [run] at h
  refine wp_scope_straight (ih hL h hI ?_)
  cases x<;>exact hQ
 | loop c ih =>
  intro hL b b' st st' x Q a W h hI hQ
  simp only [run] at h
  split at h
  ·rename_i s hs
   split at h
   ·rename_i hh
    simp only [Option.some.injEq,Prod.mk.injEq] at h
    obtain ⟨rfl,rfl,rfl⟩:=h
    exact hL _ (List.mem_cons_self ..) s hs Q a W (hI.less fun A hA=>za4 hh hA) hQ
   ·cases h
  ·refine wp_loop_ghost (fun n a w=>∃b st,loopN (fun b st=>run K P C H R.pm c b st) n b st=some (x,b',st')∧Inv K F R st a w) H.un ⟨b,st,h,hI⟩ ?_
   rintro n a w ⟨b2,st2,h2,hI2⟩
   cases n with
   | zero=>simp [loopN] at h2
   | succ n =>
    simp only [loopN] at h2
    split at h2
    ·rename_i b3 st3 h3
     exact ih (fun p hp=>hL p (List.mem_cons_of_mem _ hp)) h3 hI2 fun a4 W4 hI4=>⟨n,Nat.lt_succ_self n,b3,st3,h2,hI4⟩
    ·rename_i hne
     refine ih (fun p hp=>hL p (List.mem_cons_of_mem _ hp)) h2 hI2 (hQ.mono (fun e a3 W3 he h3=>?_) fun hx=>?_)
     ·cases e with
      | normal=>exact absurd rfl he
      | _=>exact h3
     ·subst hx;exact (hne _ _ h2).elim
 | label l =>
  intro hL b b' st st' x Q a W h hI hQ
  simp only [run,Option.some.injEq,Prod.mk.injEq] at h
  obtain ⟨rfl,rfl,rfl⟩:=h
  exact wp_label (hQ a W hI)
 | ret =>
  intro hL b b' st st' x Q a W h hI hQ
  simp only [run,Option.some.injEq,Prod.mk.injEq] at h
  obtain ⟨rfl,rfl,rfl⟩:=h
  exact wp_ret (hQ a W hI)
 | _ =>
  intro hL b b' st st' x Q a W h
  simp [run] at h
def resOf (P:Program) (st:List Atom):ResultVar→Option Cm
 | .tmp t=>match zaA t st with
  | some (.o c)=>some c
  | _=>none
 | .cell s T=>match zcf P st T (.tmp s) with
  | some ⟨some (.o c),_,_,_,_,_⟩=>some c
  | _=>none
def zct (P:Program) (st:List Atom):List ResultVar→Option (List Cm)
 | []=>some []
 | x::r=>match resOf P st x,zct P st r with
  | some c,some l=>some (c::l)
  | _,_=>none
def resSh (P:Program) (st:List Atom) (l:List ResultVar):Option Sh:=match zct P st l with
 | some [c]=>some (.o c)
 | some l=>some (.t l)
 | none=>none
end
section
variable {K:Kit} {P:Program} {F:Fact} {β:Loc} {a:Act} {W:World} {st:List Atom}
theorem zgT (hav:∀A∈st,A.ok K F β a W) {T:TypeId} {x:Operand} {e:Eff} (h:zcf P st T x=some e):∃(s:Sh) (v:Value) (q i:Nat),e=Eff.v s∧a.eval x=.pointer (some ⟨q,i,none⟩)∧(loadVar T ⟨q,i,none⟩).run P W=.ok v W∧s.ok F β v W:=by
 unfold zcf at h
 split at h
 case h_2=>simp at h
 rename_i b i U ls hp
 obtain ⟨⟨q,vs,hq,hh,hl,_,_,_⟩,q',hq',hx⟩:=zlT hp hav
 have:q'=q:=by rw [hq] at hq';exact (Option.some.inj hq').symm
 subst this
 have hlen:=qb hl
 split at h
 ·rename_i n hz hA
  split at h
  ·rename_i hle
   rw [Nat.ble_eq] at hle
   injection h with h
   exact ⟨_,_,q',i,h.symm,hx,zda hz hA hh (by simpa [← hlen] using hle),_,rfl,zb1 n (zb0 i hl)⟩
  ·simp at h
 ·rename_i hA
  split at h
  ·rename_i l hli
   injection h with h
   obtain ⟨v,hv,hv2⟩:=zeU hl hli
   exact ⟨_,v,q',i,h.symm,hx,zdb hA hh (by simpa using hv),hv2⟩
  ·simp at h
 ·simp at h
def zdo (tmps:Array Value):ResultVar→Sem Value
 | .tmp t=>pure (tmps.getD t undef)
 | .cell s T=>do loadVar T (← asAddr (tmps.getD s undef))
theorem zlY (hav:∀A∈st,A.ok K F β a W) {x:ResultVar} {c:Cm} (h:resOf P st x=some c):∃v,(zdo a.tmps x).run P W=.ok v W∧c.ok F β v W:=by
 unfold resOf at h
 split at h
 ·split at h
  ·rename_i c' hs
   injection h with h;subst h
   exact ⟨_,rfl,qw hs hav⟩
  ·cases h
 ·rename_i s T
  split at h
  ·rename_i c' n t w u y hl
   injection h with h;subst h
   obtain ⟨s',v,q,i,he,hx,hr,ho⟩:=zgT hav hl
   injection he with he
   injection he with he;subst he
   refine ⟨v,?_,ho⟩
   unfold zdo
   have hx2:a.tmps.getD s undef=.pointer (some ⟨q,i,none⟩):=hx
   rw [Sem.run_bind,hx2]
   simp only [asAddr,Sem.run_pure,Result.andThen_ok]
   exact hr
  ·cases h
theorem zdn (hav:∀A∈st,A.ok K F β a W):∀{l:List ResultVar} {cs:List Cm},zct P st l=some cs→∃vs,(l.mapM (zdo a.tmps)).run P W=.ok vs W∧cms F β cs vs W
 | [],cs,h=>by unfold zct at h;injection h with h;subst h;exact ⟨[],rfl,trivial⟩
 | x::r,cs,h=>by
  unfold zct at h
  split at h
  ·rename_i c l h1 h2
   injection h with h;subst h
   obtain ⟨v,hv1,hv2⟩:=zlY hav h1
   obtain ⟨vs,hs1,hs2⟩:=zdn hav h2
   refine ⟨v::vs,?_,hv2,hs2⟩
   rw [List.mapM_cons,Sem.run_bind,hv1,Result.andThen_ok,Sem.run_bind,hs1];rfl
  ·cases h
theorem zcd:∀{ls:List Cm} {vs:List Value},cms F β ls vs W→vs.length=ls.length
 | [],[],_=>rfl
 | _::_,_::_,h=>by rw [List.length_cons,List.length_cons,zcd h.2]
 | [],_::_,h=>h.elim
 | _::_,[],h=>h.elim
theorem zf1 (hav:∀A∈st,A.ok K F β a W) {fn:Func} {x:Sh} (h:resSh P st fn.results.toList=some x):∃v,(results fn a.tmps).run P W=.ok v W∧x.ok F β v W:=by
 have key:∀cs,zct P st fn.results.toList=some cs→∃vs:List Value,(results fn a.tmps).run P W=.ok (if h:vs.toArray.size=1 then vs.toArray[0] else .tuple vs.toArray) W∧cms F β cs vs W:=by
  intro cs hcs
  obtain ⟨vs,h1,h2⟩:=zdn hav hcs
  refine ⟨vs,?_,h2⟩
  have hm:(fn.results.mapM (zdo a.tmps)).run P W=.ok vs.toArray W:=by
   rw [Array.mapM_eq_mapM_toList,Sem.run_map,h1];rfl
  have he:results fn a.tmps=(do let vs ← fn.results.mapM (zdo a.tmps);pure (if h:vs.size=1 then vs[0] else .tuple vs)):=by
   unfold results
   rfl
  rw [he,Sem.run_bind,hm]
  rfl
 unfold resSh at h
 split at h
 ·rename_i c hcs
  injection h with h;subst h
  obtain ⟨vs,h1,h2⟩:=key _ hcs
  have hl:=zcd h2
  match vs,hl,h1,h2 with
  | [v],_,h1,h2=>exact ⟨v,by simpa using h1,h2.1⟩
 ·rename_i l hne hcs
  injection h with h;subst h
  obtain ⟨vs,h1,h2⟩:=key _ hcs
  have hl:=zcd h2
  refine ⟨.tuple vs.toArray,?_,_,rfl,by simpa using h2⟩
  rw [h1,dif_neg]
  intro hs
  have h3:l.length=1:=by rw [← hl];simpa using hs
  match l,h3 with
  | [c],_=>exact hne c rfl
 ·cases h
end
def Lf.low (pn:List Nat):Lf→Bool
 | .p b _=>pn.contains b
 | .s b _ _ _=>pn.contains b
 | .q _ l=>l.all fun x=>pn.contains x.1
 | .m _ b _=>pn.contains b
 | .gr b=>pn.contains b
 | .pf b _=>pn.contains b
 | .po b=>pn.contains b
 | .mp b=>pn.contains b
 | _=>true
def Cm.low (pn:List Nat):Cm→Bool
 | .c l=>l.low pn
 | .g l=>l.all (Lf.low pn)
def Sh.low (pn:List Nat):Sh→Bool
 | .o c=>c.low pn
 | .t l=>l.all (Cm.low pn)
def Atom.low (pn:List Nat):Atom→Bool
 | .sl _ x=>x.low pn
 | .bx b _ ls=>pn.contains b && ls.all (Lf.low pn)
 | .gl b _ _ _=>pn.contains b
 | .gn b=>pn.contains b
 | .hp l r _=>(l.all fun b=>pn.contains b) && r.all fun b=>pn.contains b
section
variable {pn:List Nat} {b:Nat}
theorem Lf.low_has {l:Lf} (h:l.low pn=true) (hb:l.has b=true):b∈pn:=by
 cases l with
 | p c o=>simp only [Lf.has,beq_iff_eq] at hb;simpa [Lf.low,hb] using h
 | s c o n m=>simp only [Lf.has,beq_iff_eq] at hb;simpa [Lf.low,hb] using h
 | q g l =>
  simp only [Lf.has,List.any_eq_true,beq_iff_eq] at hb
  obtain ⟨x,hx,rfl⟩:=hb
  simp only [Lf.low,List.all_eq_true] at h
  simpa using h x hx
 | m g c o=>simp only [Lf.has,beq_iff_eq] at hb;simpa [Lf.low,hb] using h
 | gr c=>simp only [Lf.has,beq_iff_eq] at hb;simpa [Lf.low,hb] using h
 | pf c n=>simp only [Lf.has,beq_iff_eq] at hb;simpa [Lf.low,hb] using h
 | po c=>simp only [Lf.has,beq_iff_eq] at hb;simpa [Lf.low,hb] using h
 | mp c=>simp only [Lf.has,beq_iff_eq] at hb;simpa [Lf.low,hb] using h
 | _=>cases hb
theorem zln {l:List Lf} (h:l.all (Lf.low pn)=true) (hb:lfs b l=true):b∈pn:=by
 rw [lfs,List.any_eq_true] at hb
 obtain ⟨x,hx,hb⟩:=hb
 exact Lf.low_has (List.all_eq_true.1 h x hx) hb
theorem Cm.low_has {c:Cm} (h:c.low pn=true) (hb:c.has b=true):b∈pn:=by
 cases c with
 | c l=>exact Lf.low_has h hb
 | g l=>exact zln h hb
theorem Sh.low_has {x:Sh} (h:x.low pn=true) (hb:x.has b=true):b∈pn:=by
 cases x with
 | o c=>exact Cm.low_has h hb
 | t l =>
  rw [Sh.has,cmh,List.any_eq_true] at hb
  obtain ⟨c,hc,hb⟩:=hb
  exact Cm.low_has (List.all_eq_true.1 h c hc) hb
theorem Atom.low_has {A:Atom} (h:A.low pn=true) (hb:A.has b=true):b∈pn:=by
 cases A with
 | sl s x=>exact Sh.low_has h hb
 | bx c T ls =>
  simp only [Atom.low,Bool.and_eq_true] at h
  simp only [Atom.has,Bool.or_eq_true,beq_iff_eq] at hb
  rcases hb with rfl | hb
  ·simpa using h.1
  ·exact zln h.2 hb
 | gl c T z n =>
  simp only [Atom.has,beq_iff_eq] at hb
  subst hb
  simpa [Atom.low] using h
 | gn c =>
  simp only [Atom.has,beq_iff_eq] at hb
  subst hb
  simpa [Atom.low] using h
 | hp l rs n =>
  simp only [Atom.low,Bool.and_eq_true,List.all_eq_true] at h
  simp only [Atom.has,Bool.or_eq_true] at hb
  exact hb.elim (fun hb=>by simpa using h.1 b (by simpa using hb)) fun hb=>by simpa using h.2 b (by simpa using hb)
end
def zai:Nat→List Sh→List Atom
 | _,[]=>[]
 | i,x::r=>.sl i x::zai (i+1) r
def pmOf (fn:Func) (k:Con):Pm:=⟨fn.ntmps,names k.pre,zk k.pre⟩
def zkw (P:Program) (pan:Bool) (k:Con) (fn:Func) (x:Ex) (st:List Atom):Bool:=match x with
 | .n=>(match resSh P st fn.results.toList with
  | some y=>!pan && sheq y k.res && zF st k.post
  | none=>false)
 | .r=>(match resSh P st fn.results.toList with
  | some y=>!pan && sheq y k.res && zF st k.post
  | none=>false)
 | .p y=>pan && sheq y k.res && zF st k.post
 | .x _=>false
def zhD (vir:List Nat) (nt:Nat) (k:Con):Bool:=k.pre.all Atom.isB && k.post.all Atom.isB && vir.all (fun b=>!(names k.pre).contains b) && k.as.all (Sh.low (names k.pre)) && k.pre.all (Atom.low (names k.pre)) && k.post.all (Atom.low (names k.pre)) && k.res.low (names k.pre) && Nat.ble k.as.length nt
def zcW (K:Kit) (P:Program) (C:List (Nat×Ent)) (H:Hint) (vir:List Nat) (nb:Nat) (pan:Bool) (k:Con):Bool:=
 match P.funcs[k.fn]? with
 | some fn=>match fn.body with
  | some code=>zhD vir fn.ntmps k && (match run K P C H (pmOf fn k) code nb (zai 0 k.as++(k.pre++vir.map Atom.gn)) with
    | some (x,_,st)=>zkw P pan k fn x st
    | none=>false)
  | none=>false
 | none=>false
def conOk (K:Kit) (P:Program) (C:List (Nat×Ent)) (nb:Nat) (k:Con):Bool:=zcW K P C .no [] nb false k
def z7 (P:Program) (g:FuncId):Code:=((P.funcs[g]?).bind (·.body)).getD .skip
def ntOf (P:Program) (g:FuncId):Nat:=((P.funcs[g]?).map (·.ntmps)).getD 0
def lp (P:Program) (g:FuncId) (i:Nat):Code:=((zu (z7 P g)).getD i (0,.skip)).2
theorem zbm {K:Kit} {F:Fact} {β:Loc} {a:Act} {W:World}:∀{l:List Sh} {vs:List Value} {i:Nat} {A:Atom},shs F β l vs W→(∀j v,vs[j]?=some v→a.tmps.getD (i+j) undef=v)→A∈zai i l→A.ok K F β a W
 | [],_,_,_,_,_,h=>by cases h
 | x::r,v::vs,i,A,hs,ht,h=>by
  rcases List.mem_cons.1 h with rfl | h
  ·show x.ok F β (a.tmps.getD i undef) W
   rw [show a.tmps.getD i undef=v from ht 0 v rfl]
   exact hs.1
  ·exact zbm hs.2 (fun j u hu=>by rw [show i+1+j=i+(j+1) by omega];exact ht (j+1) u (by simpa using hu)) h
 | _::_,[],_,_,h,_,_=>h.elim
theorem zcv {F:Fact} {β:Loc} {W:World}:∀{ls:List Sh} {vs:List Value},shs F β ls vs W→vs.length=ls.length
 | [],[],_=>rfl
 | _::_,_::_,h=>by rw [List.length_cons,List.length_cons,zcv h.2]
 | [],_::_,h=>h.elim
 | _::_,[],h=>h.elim
theorem zpF {K:Kit} {F:Fact} {β β':Loc} {W W':World} {S:Nat→Prop} {pn:List Nat} (hF:Fine K F) (hS:∀q,S q→Mlq K β.D W q) (hO:Oth S W W') (hD:∀q,β.D q→β'.D q) (hb:∀b∈pn,β.same β' b):∀{ls:List Sh} {vs:List Value},ls.all (Sh.low pn)=true→shs F β ls vs W→shs F β' ls vs W'
 | [],[],_,_=>trivial
 | x::ls,_::_,h,hs=>by
  rw [List.all_cons,Bool.and_eq_true] at h
  exact ⟨Sh.mv hF hS hO hD (fun b hb'=>hb b (Sh.low_has h.1 hb')) hs.1,zpF hF hS hO hD hb h.2 hs.2⟩
 | [],_::_,_,h=>h.elim
 | _::_,[],_,h=>h.elim
theorem qi:∀{l:List Atom} {b:Nat},b∈zk l→b∈names l
 | [],_,h=>by cases h
 | .gl c T z n::r,b,h=>by
  rcases List.mem_cons.1 h with rfl | h
  ·exact List.mem_cons_self ..
  ·exact List.mem_cons_of_mem _ (qi h)
 | .sl _ _::r,b,h=>List.mem_cons_of_mem _ (qi (l:=r) h)
 | .bx _ _ _::r,b,h=>List.mem_cons_of_mem _ (qi (l:=r) h)
 | .gn _::r,b,h=>List.mem_cons_of_mem _ (qi (l:=r) h)
 | .hp l _ _::r,b,h=>(List.mem_append.1 h).elim (fun h=>List.mem_append_left _ h) fun h=>List.mem_append_right _ (qi (l:=r) h)
def zaC (K:Kit) (P:Program) (F:Fact) (pan:Bool) (k:Con):Prop:=if pan=true then k.psound K P F else k.sound K P F
def Goes (K:Kit) (P:Program) (R:Frm) (body:Code) (F:Fact) (st:List Atom) (x:Ex) (F':Fact) (st':List Atom):Prop:=∀(Q:Exit→Act→World→Prop) a W,Inv K F R st a W→Lands K F' R Q x st'→body.wp P Q a W
theorem zgP {K:Kit} {P:Program} {F:Fact} {k:Con} (vir:List Nat) (pan:Bool) (hF:Fine K F) {fn:Func} {code:Code} (hfn:P.funcs[k.fn]?=some fn) (hcode:fn.body=some code) (hs:zhD vir fn.ntmps k=true)
  (hB:∀R:Frm,R.pm=⟨fn.ntmps,names k.pre,zk k.pre⟩→∃x st,zkw P pan k fn x st=true∧Goes K P R code F (zai 0 k.as++(k.pre++vir.map Atom.gn)) x F st):zaC K P F pan k:=by
 unfold zhD at hs
 simp only [Bool.and_eq_true] at hs
 obtain ⟨⟨⟨⟨⟨⟨⟨hpB,hqB⟩,hvir⟩,hlas⟩,hlpre⟩,hlpost⟩,hlres⟩,hlen⟩:=hs
 suffices hs:∀(β:Loc) (W:World) (vs:List Value),shs F β k.as vs W→(∀x∈k.pre,x.okB K F β W)→Geo K β W →
   Calls P k.fn vs.toArray W fun e W'=>∃v β',e=(if pan=true then .panicked [{ v,recovered:=false }] else .returned v)∧Back K F k β W v β' W' by
  unfold zaC
  split
  ·rename_i hp
   refine ⟨hpB,fun β W vs h1 h2 h3=>?_⟩
   have:=hs β W vs h1 h2 h3
   simp only [if_pos hp] at this
   exact this
  ·rename_i hp
   refine ⟨hpB,fun β W vs h1 h2 h3=>?_⟩
   have:=hs β W vs h1 h2 h3
   simp only [if_neg hp] at this
   exact this
 intro β W vs hargs hboxes hg
 rw [Nat.ble_eq] at hlen
 rw [List.all_eq_true] at hpB hqB hvir hlpre hlpost
 have hO0:Oth (fun _=>False) W W:=Oth.refl _ W
 let β0:Loc:=⟨fun b=>if b∈names k.pre then β b else none,β.len,β.D⟩
 have hβ0:∀b∈names k.pre,β.same β0 b:=fun b hb=>⟨if_pos hb,rfl⟩
 have hβ0':∀b q,β0 b=some q→b∈names k.pre∧β b=some q:=by
  intro b q hq
  by_cases hb:b∈names k.pre
  ·exact ⟨hb,by rw [← (hβ0 b hb).1];exact hq⟩
  ·have:β0 b=none:=if_neg hb
   rw [this] at hq;cases hq
 let R:Frm:={ w0:=W,β0:=β0,pm:=pmOf fn k }
 have hsz:=zcv hargs
 have hI:Inv K F R (zai 0 k.as++(k.pre++vir.map Atom.gn)) { tmps:=vs.toArray++Array.replicate (fn.ntmps - vs.toArray.size) undef,defers:=[] } W:=by
  refine ⟨by simp [R,pmOf];omega,rfl,β0,⟨⟨fun b q hq=>hg.lt b q (hβ0' b q hq).2,fun b c q hb hc=>hg.inj b c q (hβ0' b q hb).2 (hβ0' c q hc).2,hg.bel,fun b q hq=>hg.dis b q (hβ0' b q hq).2,hg.dlt,hg.low⟩,Oth.refl _ W,fun b hb q hq=>absurd (hβ0' b q hq).1 hb,fun b _ _=>Loc.same.rfl,fun b _ q hq=>.inl hq,fun _ h=>h,fun _ h=>.inl h⟩,fun A hA=>?_⟩
  rcases List.mem_append.1 hA with hA | hA
  ·refine zbm (zpF (β:=β) (β':=β0) hF (fun _ h=>h.elim) hO0 (fun _ h=>h) hβ0 hlas hargs) (fun j v hv=>?_) hA
   have hj:j<vs.length:=(List.getElem?_eq_some_iff.1 hv).1
   rw [Nat.zero_add,Array.getD_eq_getD_getElem?,Array.getElem?_append_left (by simpa using hj)]
   simp [hv]
  ·rcases List.mem_append.1 hA with hA | hA
   ·exact Atom.mv (β:=β) (β':=β0) (a:=⟨#[],[]⟩) hF (fun _ h=>h.elim) hO0 (fun _ h=>h) (fun s x e=>by subst e;have:=hpB _ hA;cases this) (fun c hc=>hβ0 c (Atom.low_has (hlpre A hA) hc)) (hboxes A hA) (fun _ _ _ _ _ h=>h.elim)
   ·rw [List.mem_map] at hA
    obtain ⟨b,hb,rfl⟩:=hA
    have:=hvir b hb
    exact if_neg (by simpa using this)
 have hback:∀(st:List Atom) (a':Act) (W':World) (v:Value) (β':Loc),zF st k.post=true→Env K R β' W'→(∀A∈st,A.ok K F β' a' W')→k.res.ok F β' v W'→∃β2,Back K F k β W v β2 W':=by
  intro st a' W' v β' hpost hE hA hv
  let β2:Loc:=⟨fun b=>if b∈names k.pre then β' b else β b,fun b=>if b∈names k.pre then β'.len b else β.len b,β'.D⟩
  have h2:∀b∈names k.pre,β'.same β2 b:=fun b hb=>⟨if_pos hb,if_pos hb⟩
  have h3:∀b,b ∉ names k.pre→β.same β2 b:=fun b hb=>⟨if_neg hb,if_neg hb⟩
  have hO1:Oth (fun _=>False) W' W':=Oth.refl _ W'
  have hmvd:∀b∈names k.pre,∀q,β' b=some q→β b=some q∨W.heap.size≤q:=fun b hb q hq=>(hE.mvd b hb q hq).imp (fun h=>(hβ0' b q h).2) id
  have hold:∀b∈names k.pre,∀c,c ∉ names k.pre→∀q,β' b=some q→β c=some q→False:=by
   intro b hb c hc q hq hcq
   rcases hmvd b hb q hq with h | h
   ·exact hc (by rw [hg.inj c b q hcq h];exact hb)
   ·have:=hg.lt c q hcq;omega
  refine ⟨β2,⟨Sh.mv (β:=β') (β':=β2) hF (fun _ h=>h.elim) hO1 (fun _ h=>h) (fun b hb=>h2 b (Sh.low_has hlres hb)) hv,hE.oth.mono fun q ⟨b,hb,hq⟩=>⟨b,hb,(hβ0' b q hq).2⟩,fun x hx=>?_,fun b hb=>?_,hE.dm,fun q hq=>(hE.dn q hq).imp id (Or.imp id fun ⟨b,h1,h2⟩=>⟨b,h1,(hβ0' b q h2).2⟩),fun b hb q hq=>?_,⟨fun b q hq=>?_,fun b c q hb hc=>?_,hE.geo.bel,fun b q hb hD=>?_,hE.geo.dlt,hE.geo.low⟩⟩⟩
  ·have:=zO hA hpost x hx
   exact Atom.mv (β:=β') (β':=β2) hF (fun _ h=>h.elim) hO1 (fun _ h=>h) (fun s y e=>by subst e;have:=hqB _ hx;cases this) (fun c hc=>h2 c (Atom.low_has (hlpost x hx) hc)) this (fun _ _ _ _ _ h=>h.elim)
  ·by_cases hbp:b∈names k.pre
   ·have e1:=hE.same b hbp hb
    have e0:=hβ0 b hbp
    have e2:=h2 b hbp
    exact ⟨e2.1.trans (e1.1.trans e0.1),e2.2.trans (e1.2.trans e0.2)⟩
   ·exact h3 b hbp
  ·have hbp:=qi hb
   rw [(h2 b hbp).1] at hq
   exact hmvd b hbp q hq
  ·by_cases hbp:b∈names k.pre
   ·rw [(h2 b hbp).1] at hq;exact hE.geo.lt b q hq
   ·rw [(h3 b hbp).1] at hq;exact Nat.lt_of_lt_of_le (hg.lt b q hq) hE.oth.size
  ·by_cases hbp:b∈names k.pre
   ·rw [(h2 b hbp).1] at hb
    by_cases hcp:c∈names k.pre
    ·rw [(h2 c hcp).1] at hc;exact hE.geo.inj b c q hb hc
    ·rw [(h3 c hcp).1] at hc;exact (hold b hbp c hcp q hb hc).elim
   ·rw [(h3 b hbp).1] at hb
    by_cases hcp:c∈names k.pre
    ·rw [(h2 c hcp).1] at hc;exact (hold c hcp b hbp q hc hb).elim
    ·rw [(h3 c hcp).1] at hc;exact hg.inj b c q hb hc
  ·by_cases hbp:b∈names k.pre
   ·rw [(h2 b hbp).1] at hb;exact hE.geo.dis b q hb hD
   ·rw [(h3 b hbp).1] at hb
    rcases hE.dn q hD with h | h | ⟨c,h1,h2⟩
    ·exact hg.dis b q hb h
    ·have:=hg.lt b q hb
     have h':W.heap.size≤q:=h
     omega
    ·exact hbp (by rw [hg.inj b c q hb (hβ0' c q h2).2];exact qi h1)
 have hend:∀(st:List Atom) (x:Sh) (a':Act) (W':World),resSh P st fn.results.toList=some x→(!pan && sheq x k.res && zF st k.post)=true→Inv K F R st a' W' →
   a'.defers=[]∧∃v,(results fn a'.tmps).run P W'=.ok v W'∧∃u β2,Ending.returned v=(if pan=true then .panicked [{ v:=u,recovered:=false }] else .returned u)∧Back K F k β W u β2 W':=by
  rintro st x a' W' hx hc ⟨_,hd,β',hE,hA⟩
  rw [Bool.and_eq_true,Bool.and_eq_true,Bool.not_eq_true'] at hc
  obtain ⟨⟨hp,hc1⟩,hc2⟩:=hc
  obtain ⟨v,hv1,hv2⟩:=zf1 hA hx
  rw [zN hc1] at hv2
  obtain ⟨β2,hb⟩:=hback st a' W' v β' hc2 hE hA hv2
  exact ⟨hd,v,hv1,v,β2,by rw [hp];rfl,hb⟩
 refine calls_of_wp hfn hcode ?_
 obtain ⟨x,st,hrun,hgo⟩:=hB R (by simp [R,pmOf])
 unfold zkw at hrun
 refine hgo _ _ _ hI ?_
 split at hrun
 ·split at hrun
  ·rename_i x hx
   exact fun a' W' hI'=>hend st x a' W' hx hrun hI'
  ·cases hrun
 ·split at hrun
  ·rename_i x hx
   exact fun a' W' hI'=>hend st x a' W' hx hrun hI'
  ·cases hrun
 ·rename_i x
  rw [Bool.and_eq_true,Bool.and_eq_true] at hrun
  obtain ⟨⟨hp,hc1⟩,hc2⟩:=hrun
  rintro v a' W' ⟨_,hd,β',hE,hv,hA⟩
  rw [zN hc1] at hv
  obtain ⟨β2,hb⟩:=hback st a' W' v β' hc2 hE hA hv
  exact ⟨hd,v,β2,by rw [hp];rfl,hb⟩
 ·cases hrun
theorem zgO {K:Kit} {P:Program} {F:Fact} {C:List (Nat×Ent)} {k:Con} (H:Hint) (vir:List Nat) (nb:Nat) (pan:Bool) (hF:Fine K F) (hC:Sound K P F C) (hm:P.follows .mixedOrders=true) (hG:GhsSound K F H.ghs)
  (hL:∀R:Frm,R.pm=⟨ntOf P k.fn,names k.pre,zk k.pre⟩→∀p∈zu (z7 P k.fn),∀s,qo p.1 H.loops=some s→zU K P F R s p.2) (h:zcW K P C H vir nb pan k=true):zaC K P F pan k:=by
 unfold zcW at h
 split at h
 case h_2=>cases h
 rename_i fn hfn
 split at h
 case h_2=>cases h
 rename_i code hcode
 have hcd:z7 P k.fn=code:=by unfold z7;rw [hfn,Option.bind_some,hcode];rfl
 have hnt:ntOf P k.fn=fn.ntmps:=by unfold ntOf;rw [hfn];rfl
 rw [hcd,hnt] at hL
 rw [Bool.and_eq_true] at h
 obtain ⟨hsh,h⟩:=h
 split at h
 ·rename_i x b' st hr
  exact zgP vir pan hF hfn hcode hsh fun R hR=>⟨x,st,h,fun Q a W hI hQ=>zpC hF hC hm H hG code (hL R hR) (by rw [hR];exact hr) hI hQ⟩
 ·cases h
theorem za3 {K:Kit} {P:Program} {R:Frm} {c d:Code} {F:Fact} {st st1 st2:List Atom} {x:Ex} (h:Goes K P R c F st .n F st1) (h2:Goes K P R d F st1 x F st2):Goes K P R (.seq c d) F st x F st2:=
 fun Q a W hI hQ=>wp_seq (h _ a W hI fun a' W' hI'=>h2 Q a' W' hI' hQ)
theorem zp5 {K:Kit} {P:Program} {F:Fact} {C:List (Nat×Ent)} {k:Con} (H:Hint) (vir:List Nat) (nb:Nat) (hF:Fine K F) (hC:Sound K P F C) (hm:P.follows .mixedOrders=true) (hG:GhsSound K F H.ghs)
  (hL:∀R:Frm,R.pm=⟨ntOf P k.fn,names k.pre,zk k.pre⟩→∀p∈zu (z7 P k.fn),∀s,qo p.1 H.loops=some s→zU K P F R s p.2) (h:zcW K P C H vir nb false k=true):k.sound K P F:=
 zgO H vir nb false hF hC hm hG hL h
theorem zp6 {K:Kit} {P:Program} {F:Fact} {C:List (Nat×Ent)} {k:Con} (H:Hint) (vir:List Nat) (nb:Nat) (hF:Fine K F) (hC:Sound K P F C) (hm:P.follows .mixedOrders=true) (hG:GhsSound K F H.ghs)
  (hL:∀R:Frm,R.pm=⟨ntOf P k.fn,names k.pre,zk k.pre⟩→∀p∈zu (z7 P k.fn),∀s,qo p.1 H.loops=some s→zU K P F R s p.2) (h:zcW K P C H vir nb true k=true):k.psound K P F:=
 zgO H vir nb true hF hC hm hG hL h
theorem zba {K:Kit} {P:Program} {F:Fact} {C:List (Nat×Ent)} {k:Con} (nb:Nat) (hF:Fine K F) (hC:Sound K P F C) (hm:P.follows .mixedOrders=true) (h:conOk K P C nb k=true):k.sound K P F:=
 zp5 .no [] nb hF hC hm trivial (fun _ _ _ _ _ hs=>by cases hs) h
def Imp (K:Kit) (F F':Fact) (l m:List Atom):Prop:=∀β a W,Geo K β W→(∀A∈l,A.ok K F β a W)→∀B∈m,B.ok K F' β a W
def zipA (K:Kit) (F F':Fact):List Atom→List Atom→Prop
 | [],[]=>True
 | A::r,B::q=>(∀β a W,A.ok K F β a W→B.ok K F' β a W)∧zipA K F F' r q
 | _,_=>False
theorem zjw {K:Kit} {F F':Fact} {B:Atom}:∀{l m:List Atom},zipA K F F' l m→B∈m→∃A∈l,∀β a W,A.ok K F β a W→B.ok K F' β a W
 | [],[],_,h=>by cases h
 | A::r,C::q,hz,h=>by
  rcases List.mem_cons.1 h with rfl | h
  ·exact ⟨A,List.mem_cons_self ..,hz.1⟩
  ·obtain ⟨A',h1,h2⟩:=zjw hz.2 h
   exact ⟨A',List.mem_cons_of_mem _ h1,h2⟩
 | [],_::_,hz,_=>hz.elim
 | _::_,[],hz,_=>hz.elim
theorem zipA.imp {K:Kit} {F F':Fact} {l m:List Atom} (hz:zipA K F F' l m):Imp K F F' l m:=fun β a W _ h B hB=>by
 obtain ⟨A,hA,hAB⟩:=zjw hz hB
 exact hAB β a W (h A hA)
theorem Inv.imp {K:Kit} {F F':Fact} {R:Frm} {l m:List Atom} {a:Act} {W:World} (h:Inv K F R l a W) (hz:Imp K F F' l m):Inv K F' R m a W:=by
 obtain ⟨h1,h2,β,h3,h4⟩:=h
 exact ⟨h1,h2,β,h3,hz β a W h3.geo h4⟩
def exEq:Ex→Ex→Bool
 | .n,.n=>true
 | .r,.r=>true
 | .x i,.x j=>i == j
 | .p x,.p y=>sheq x y
 | _,_=>false
theorem zgW {x y:Ex} (h:exEq x y=true):x=y:=by
 unfold exEq at h
 split at h<;>simp_all
 exact zN h
def zf4 (K:Kit) (P:Program) (C:List (Nat×Ent)) (H:Hint) (pm:Pm) (c:Code) (b:Nat) (st:List Atom) (x:Ex) (tl:List Atom):Bool:=match run K P C H pm c b st with
 | some (y,_,st')=>exEq x y && zcn st' tl
 | none=>false
theorem zl5 {K:Kit} {P:Program} {F:Fact} {R:Frm} (hF:Fine K F) {C:List (Nat×Ent)} (hC:Sound K P F C) (hm:P.follows .mixedOrders=true) {pm:Pm} (hn:R.pm=pm) {c:Code} {H:Hint} (hG:GhsSound K F H.ghs) (hL:∀p∈zu c,∀s,qo p.1 H.loops=some s→zU K P F R s p.2) {b:Nat} {st tl:List Atom} {x:Ex} (h:zf4 K P C H pm c b st x tl=true)
  {Q:Exit→Act→World→Prop} {a:Act} {W:World} (hI:Inv K F R st a W) (hQ:Lands K F R Q x tl):c.wp P Q a W:=by
 subst hn
 unfold zf4 at h
 split at h
 ·rename_i y b' st' hr
  rw [Bool.and_eq_true] at h
  have:=zgW h.1
  subst this
  exact zpC hF hC hm H hG c hL hr hI (hQ.less fun A hA=>za4 h.2 hA)
 ·cases h
def ImpX (F F':Fact) (x y:Ex):Prop:=match x,y with
 | .p s,.p t=>∀β v W,s.ok F β v W→t.ok F' β v W
 | a,b=>exEq a b=true
theorem Lands.imp {K:Kit} {F F':Fact} {R:Frm} {Q:Exit→Act→World→Prop} {x y:Ex} {l m:List Atom} (hx:ImpX F F' x y) (hz:Imp K F F' l m) (h:Lands K F' R Q y m):Lands K F R Q x l:=by
 cases x with
 | p s=>cases y with
  | p t=>exact fun v a W ⟨h1,h2,β,h3,h5,h4⟩=>h v a W ⟨h1,h2,β,h3,hx β v W h5,hz β a W h3.geo h4⟩
  | _=>cases hx
 | n=>cases y with
  | n=>exact fun a W hI=>h a W (hI.imp hz)
  | _=>cases hx
 | r=>cases y with
  | r=>exact fun a W hI=>h a W (hI.imp hz)
  | _=>cases hx
 | x i=>cases y with
  | x j =>
   have e:=zgW hx
   injection e with e
   subst e
   exact fun a W hI=>h a W (hI.imp hz)
  | _=>cases hx
theorem goes {K:Kit} {P:Program} {F Fb F':Fact} {R:Frm} {body:Code} {st stb tl st':List Atom} {x y:Ex} (b:Nat) {C:List (Nat×Ent)} {H:Hint} {pm:Pm} (hin:Imp K F Fb st stb) (hF:Fine K Fb) (hC:Sound K P Fb C) (hm:P.follows .mixedOrders=true) (hn:R.pm=pm) (hG:GhsSound K Fb H.ghs) (hL:∀p∈zu body,∀s,qo p.1 H.loops=some s→zU K P Fb R s p.2) (h:zf4 K P C H pm body b stb x tl=true) (hx:ImpX Fb F' x y) (hout:Imp K Fb F' tl st'):Goes K P R body F st y F' st' :=
 fun _ _ _ hI hQ=>zl5 hF hC hm hn hG hL h (hI.imp hin) (Lands.imp hx hout hQ)
theorem zd3 {T:Type} {K:Kit} {P:Program} {F:Fact} {R:Frm} {s:LoopS} {body:Code} (Fs:T→Fact) (J:T→Prop) (m:T→Nat) (t0:T) (inv:List Atom) (ht:J t0) (h0:Imp K F (Fs t0) s.inv inv) (hx:exEq s.x .n=false)
  (round:∀t,J t→Goes K P R body (Fs t) inv s.x F s.out∨∃t',m t'<m t∧J t'∧Goes K P R body (Fs t) inv .n (Fs t') inv):zU K P F R s body:=by
 intro Q a W hI hQ
 refine wp_loop_ghost (fun n a w=>∃t,m t=n∧J t∧Inv K (Fs t) R inv a w) (m t0) ⟨t0,rfl,ht,hI.imp h0⟩ ?_
 rintro n a w ⟨t,hmt,hJ,hIt⟩
 rcases round t hJ with hg | ⟨t',h1,h2,hg⟩
 ·refine hg _ a w hIt (hQ.mono (fun e a' W' he h=>?_) fun e=>?_)
  ·cases e with
   | normal=>exact absurd rfl he
   | _=>exact h
  ·rw [e] at hx;cases hx
 ·exact hg _ a w hIt fun a' W' hI'=>⟨m t',by omega,t',rfl,h2,hI'⟩
abbrev Pred:=Value→World→Dat→Prop
abbrev LPred:=List Value→World→Dat→Prop
abbrev OPred:=List Value→List Value→World→Dat→Prop
def pV (u:Value):Pred:=fun v _ _=>v=u
abbrev pI (x:Int):Pred:=pV (.int .i64 x)
abbrev pB (b:Bool):Pred:=pV (.bool b)
abbrev pS (s:List UInt8):Pred:=pV (.string ⟨s.toArray⟩)
def nth:List Pred→Nat→Option Pred
 | [],_=>none
 | p::_,0=>some p
 | _::r,n+1=>nth r n
def look (n:Nat):List (Nat×Pred)→Pred
 | []=>pV (.bool false)
 | k::r=>match Nat.beq n k.1 with
  | true=>k.2
  | false=>look n r
def FL (ps:List Pred) (gs:List LPred) (qs:List (Nat×Pred):=[]) (os:List OPred:=[]):Fact:=⟨fun n=>match nth ps n with
 | some p=>p
 | none=>look n qs,fun n=>gs.getD n (fun vs _ _=>vs=[]),fun n=>os.getD n (fun _ _ _ _=>True)⟩
inductive PC where
 | c (p:Pred)
 | g (ps:List Pred)
inductive PSh where
 | o (c:PC)
 | t (l:List PC)
def okl:List Pred→List Value→World→Dat→Prop
 | [],[],_,_=>True
 | p::ps,v::vs,W,D=>p v W D∧okl ps vs W D
 | _,_,_,_=>False
def PC.ok:PC→Value→World→Dat→Prop
 | .c p,v,W,D=>p v W D
 | .g ps,v,W,D=>∃vs:Array Value,v=.agg vs∧okl ps vs.toList W D
def okc:List PC→List Value→World→Dat→Prop
 | [],[],_,_=>True
 | p::ps,v::vs,W,D=>p.ok v W D∧okc ps vs W D
 | _,_,_,_=>False
def PSh.ok:PSh→Value→World→Dat→Prop
 | .o c,v,W,D=>c.ok v W D
 | .t l,v,W,D=>∃vs:Array Value,v=.tuple vs∧okc l vs.toList W D
def oka:List PSh→List Value→World→Dat→Prop
 | [],[],_,_=>True
 | p::ps,v::vs,W,D=>p.ok v W D∧oka ps vs W D
 | _,_,_,_=>False
def Lf.pr (F:Fact):Lf→Pred
 | .k x=>pV x
 | .h n=>F.c n
 | .q f []=>fun v _ _=>∃cs:Array Value,v=.func (.func f) #[] cs∧cs.toList=[]
 | _=>fun _ _ _=>False
def Cm.pr (F:Fact):Cm→PC
 | .c l=>.c (l.pr F)
 | .g l=>.g (l.map (Lf.pr F))
def Sh.pr (F:Fact):Sh→PSh
 | .o c=>.o (c.pr F)
 | .t l=>.t (l.map (Cm.pr F))
section
variable {F:Fact} {β:Loc} {W:World}
theorem Lf.pr_iff {l:Lf} {v:Value} (h:l.low []=true):l.ok F β v W↔l.pr F v W β.D:=by
 cases l with
 | k x=>exact Iff.rfl
 | h n=>exact Iff.rfl
 | p b o=>simp [Lf.low] at h
 | s b o n c=>simp [Lf.low] at h
 | q f bs =>
  cases bs with
  | nil =>
   constructor
   ·rintro ⟨cs,rfl,h2⟩
    refine ⟨cs,rfl,?_⟩
    cases hc:cs.toList with
    | nil=>rfl
    | cons a r=>rw [hc] at h2;exact h2.elim
   ·rintro ⟨cs,rfl,h2⟩
    exact ⟨cs,rfl,by rw [h2];trivial⟩
  | cons x r=>simp [Lf.low] at h
 | m f b o=>simp [Lf.low] at h
 | gr b=>simp [Lf.low] at h
 | pf b n=>simp [Lf.low] at h
 | po b=>simp [Lf.low] at h
 | mp b=>simp [Lf.low] at h
theorem zbt:∀{ls:List Lf} {vs:List Value},ls.all (Lf.low [])=true→(oks F β ls vs W↔okl (ls.map (Lf.pr F)) vs W β.D)
 | [],[],_=>Iff.rfl
 | l::ls,v::vs,h=>by
  rw [List.all_cons,Bool.and_eq_true] at h
  exact and_congr (Lf.pr_iff h.1) (zbt h.2)
 | [],_::_,_=>Iff.rfl
 | _::_,[],_=>Iff.rfl
theorem Cm.pr_iff {c:Cm} {v:Value} (h:c.low []=true):c.ok F β v W↔(c.pr F).ok v W β.D:=by
 cases c with
 | c l=>exact Lf.pr_iff h
 | g l=>exact exists_congr fun vs=>and_congr_right fun _=>zbt h
theorem zkG:∀{ls:List Cm} {vs:List Value},ls.all (Cm.low [])=true→(cms F β ls vs W↔okc (ls.map (Cm.pr F)) vs W β.D)
 | [],[],_=>Iff.rfl
 | l::ls,v::vs,h=>by
  rw [List.all_cons,Bool.and_eq_true] at h
  exact and_congr (Cm.pr_iff h.1) (zkG h.2)
 | [],_::_,_=>Iff.rfl
 | _::_,[],_=>Iff.rfl
theorem Sh.pr_iff {s:Sh} {v:Value} (h:s.low []=true):s.ok F β v W↔(s.pr F).ok v W β.D:=by
 cases s with
 | o c=>exact Cm.pr_iff h
 | t l=>exact exists_congr fun vs=>and_congr_right fun _=>zkG h
theorem zbv:∀{ls:List Sh} {vs:List Value},ls.all (Sh.low [])=true→(shs F β ls vs W↔oka (ls.map (Sh.pr F)) vs W β.D)
 | [],[],_=>Iff.rfl
 | l::ls,v::vs,h=>by
  rw [List.all_cons,Bool.and_eq_true] at h
  exact and_congr (Sh.pr_iff h.1) (zbv h.2)
 | [],_::_,_=>Iff.rfl
 | _::_,[],_=>Iff.rfl
end
structure Fit (K:Kit) (W:World) (D:Dat):Prop where
 bel:Below K.w0.heap.size K.w0 W
 dlt:∀q,D q→q<W.heap.size
 low:∀q,q<K.w0.heap.size→D q
structure Kept (W:World) (D:Dat) (W':World) (D':Dat):Prop where
 bel:Below W.heap.size W W'
 dm:∀q,D q→D' q
 dn:∀q,D' q→D q∨W.heap.size≤q
 dlt:∀q,D' q→q<W'.heap.size
theorem Kept.refl {K:Kit} {W:World} {D:Dat} (h:Fit K W D):Kept W D W D:=⟨Below.refl _ W,fun _ h=>h,fun _ h=>.inl h,h.dlt⟩
def Fun (K:Kit) (P:Program) (f:FuncId) (as:List PSh) (res:PSh):Prop:=∀(W:World) (D:Dat) (vs:List Value),oka as vs W D→Fit K W D →
 Calls P f vs.toArray W fun e W'=>∃v D',e=.returned v∧res.ok v W' D'∧Kept W D W' D'
def PFun (K:Kit) (P:Program) (f:FuncId) (as:List PSh) (res:PSh):Prop:=∀(W:World) (D:Dat) (vs:List Value),oka as vs W D→Fit K W D →
 Calls P f vs.toArray W fun e W'=>∃v D',e=.panicked [{ v,recovered:=false }]∧res.ok v W' D'∧Kept W D W' D'
section
variable {K:Kit} {P:Program} {F:Fact} {f:FuncId} {as:List PSh} {res:PSh} {as':List Sh} {res':Sh}
theorem zfQ {β:Loc} {W W':World} {D':Dat} {v:Value} (hg:Geo K β W) (hk:Kept W β.D W' D') (hr:(res'.pr F).ok v W' D') (hl:res'.low []=true):∃β',Back K F ⟨f,as',[],res',[]⟩ β W v β' W':=by
 have hO:Oth (fun _=>False) W W':=⟨hk.bel.os,hk.bel.tape,hk.bel.output,hk.bel.size,fun k hlt _=>hk.bel.block k hlt⟩
 let β':Loc:=⟨β.bx,β.len,D'⟩
 refine ⟨β',⟨(Sh.pr_iff (β:=β') hl).2 hr,hO.mono fun _ h=>h.elim,fun x h=>(by cases h),fun b _=>⟨rfl,rfl⟩,hk.dm,fun q hq=>(hk.dn q hq).imp id .inl,fun b h=>(by cases h),⟨fun b q hq=>Nat.lt_of_lt_of_le (hg.lt b q hq) hk.bel.size,hg.inj,hg.bel.trans (hO.ofOth (fun _ h=>h.elim) hg.bel.size),fun b q hq hD=>?_,hk.dlt,fun q hq=>hk.dm q (hg.low q hq)⟩⟩⟩
 rcases hk.dn q hD with h | h
 ·exact hg.dis b q hq h
 ·have:=hg.lt b q hq;omega
theorem zE (h:Fun K P f as res) (ha:as'.map (Sh.pr F)=as:=by rfl) (hr:res'.pr F=res:=by rfl) (hla:as'.all (Sh.low [])=true:=by rfl) (hlr:res'.low []=true:=by rfl):Con.sound K P F ⟨f,as',[],res',[]⟩:=by
 subst ha;subst hr
 refine ⟨rfl,fun β W vs hs _ hg=>?_⟩
 refine (h W β.D vs ((zbv hla).1 hs) ⟨hg.bel,hg.dlt,hg.low⟩).mono fun e W' hr=>?_
 obtain ⟨v,D',rfl,h1,h2⟩:=hr
 obtain ⟨β',hb⟩:=zfQ (f:=f) (as':=as') hg h2 h1 hlr
 exact ⟨v,β',rfl,hb⟩
theorem zc (h:Con.sound K P F ⟨f,as',[],res',[]⟩) (ha:as'.map (Sh.pr F)=as:=by rfl) (hr:res'.pr F=res:=by rfl) (hla:as'.all (Sh.low [])=true:=by rfl) (hlr:res'.low []=true:=by rfl):Fun K P f as res:=by
 subst ha;subst hr
 intro W D vs hs hf
 let β:Loc:=⟨fun _=>none,fun _=>(0,0),D⟩
 refine (h.2 β W vs ((zbv (β:=β) hla).2 hs) (fun x h=>(by cases h)) ⟨fun b q h=>(by cases h),fun b c q h=>(by cases h),hf.bel,fun b q h=>(by cases h),hf.dlt,hf.low⟩).mono fun e W' hr=>?_
 obtain ⟨v,β',rfl,hb⟩:=hr
 refine ⟨v,β'.D,rfl,(Sh.pr_iff hlr).1 hb.res,⟨hb.oth.os,hb.oth.tape,hb.oth.output,hb.oth.size,fun k hk=>hb.oth.block k hk (fun ⟨b,h,_⟩=>(by cases h))⟩,hb.dm,hb.dn0 rfl,hb.geo.dlt⟩
theorem znW (h:PFun K P f as res) (ha:as'.map (Sh.pr F)=as) (hr:res'.pr F=res) (hla:as'.all (Sh.low [])=true) (hlr:res'.low []=true):Con.psound K P F ⟨f,as',[],res',[]⟩:=by
 subst ha;subst hr
 refine ⟨rfl,fun β W vs hs _ hg=>?_⟩
 refine (h W β.D vs ((zbv hla).1 hs) ⟨hg.bel,hg.dlt,hg.low⟩).mono fun e W' hr=>?_
 obtain ⟨v,D',rfl,h1,h2⟩:=hr
 obtain ⟨β',hb⟩:=zfQ (f:=f) (as':=as') hg h2 h1 hlr
 exact ⟨v,β',rfl,hb⟩
theorem Fun.imp {as2:List PSh} {res2:PSh} (h:Fun K P f as res) (ha:∀vs W D,oka as2 vs W D→oka as vs W D) (hr:∀v W D,res.ok v W D→res2.ok v W D):Fun K P f as2 res2:=
 fun W D vs hs hf=>(h W D vs (ha vs W D hs) hf).mono fun _ _ ⟨v,D',e,h1,h2⟩=>⟨v,D',e,hr _ _ _ h1,h2⟩
end
def OImp:List PSh→List PSh→Prop
 | [],[]=>True
 | p::ps,q::qs=>(∀v W D,p.ok v W D→q.ok v W D)∧OImp ps qs
 | _,_=>False
theorem zaN:∀{ps qs:List PSh},OImp ps qs→∀(vs:List Value) (W:World) (D:Dat),oka ps vs W D→oka qs vs W D
 | [],[],_,_,_,_,h=>h
 | _::_,_::_,hi,_::vs,W,D,h=>⟨hi.1 _ W D h.1,zaN hi.2 vs W D h.2⟩
 | _::_,_::_,_,[],_,_,h=>h.elim
 | [],_::_,hi,_,_,_,_=>hi.elim
 | _::_,[],hi,_,_,_,_=>hi.elim
def FineAll (K:Kit):List Pred→Prop
 | []=>True
 | p::r=>FineC K p∧FineAll K r
def zS (K:Kit):List LPred→Prop
 | []=>True
 | p::r=>FineL K p∧zS K r
section
variable {K:Kit}
theorem zb {u:Value} (h:K.ck u=true:=by rfl):FineC K (pV u):=⟨fun _ _ _ h=>h,fun h2=>by rw [show _=u from h2];exact h⟩
theorem zeA:∀{ps:List Pred} {n:Nat} {p:Pred},FineAll K ps→nth ps n=some p→FineC K p
 | [],_,_,_,h=>by simp [nth] at h
 | q::r,0,p,hf,h=>by simp only [nth,Option.some.injEq] at h;subst h;exact hf.1
 | q::r,n+1,p,hf,h=>zeA hf.2 h
theorem zci:∀{gs:List LPred},zS K gs→∀n,FineL K (gs.getD n (fun vs _ _=>vs=[]))
 | [],_,n=>by rw [List.getD_nil];exact ⟨fun _ _ _ h=>h,fun h=>by rw [h];rfl⟩
 | p::r,h,0=>h.1
 | p::r,h,n+1=>by rw [List.getD_cons_succ];exact zci h.2 n
def zel (K:Kit):List (Nat×Pred)→Prop
 | []=>True
 | p::r=>(Nat.ble 5000 p.1=true∧FineM K p.2)∧zel K r
theorem zc4:∀{qs:List (Nat×Pred)} (n:Nat),zel K qs→FineM K (look n qs)∧(n<5000→∀{v W D},look n qs v W D→K.ck v=true)
 | [],_,_=>⟨fun _ _ _ h=>h,fun _ _ _ _ h=>by rw [show _=_ from h];rfl⟩
 | k::r,n,h=>by
  cases hb:Nat.beq n k.1 with
  | true =>
   have e:look n (k::r)=k.2:=by
    show (match Nat.beq n k.1 with | true=>k.2 | false=>look n r)=_
    rw [hb]
   rw [e]
   have e:=Nat.eq_of_beq_eq_true hb
   refine ⟨h.1.2,fun hn=>?_⟩
   have:=h.1.1
   rw [Nat.ble_eq] at this
   omega
  | false =>
   have e:look n (k::r)=look n r:=by
    show (match Nat.beq n k.1 with | true=>k.2 | false=>look n r)=_
    rw [hb]
   rw [e]
   exact zc4 n h.2
def zC (K:Kit):List OPred→Prop
 | []=>True
 | p::ps=>FineO K p∧zC K ps
theorem zdX:∀{os:List OPred},zC K os→∀n,FineO K (os.getD n (fun _ _ _ _=>True))
 | [],_,n=>by
  have:(fun _ _ _ _=>True:OPred)=([]:List OPred).getD n (fun _ _ _ _=>True):=by simp
  rw [← this];exact fun _ _ _ _ _=>trivial
 | p::ps,h,0=>h.1
 | p::ps,h,n+1=>by simpa using zdX h.2 n
theorem zw {ps:List Pred} {qs:List (Nat×Pred)} {gs:List LPred} {os:List OPred} (h:FineAll K ps) (hg:zS K gs:=by trivial) (hq:zel K qs:=by trivial) (ho:zC K os:=by trivial):Fine K (FL ps gs qs os):=by
 have e1:∀{n p},nth ps n=some p→(FL ps gs qs os).c n=p:=fun {n p} h=>by
  show (match nth ps n with | some p=>p | none=>look n qs)=p
  rw [h]
 have e2:∀{n},nth ps n=none→(FL ps gs qs os).c n=look n qs:=fun {n} h=>by
  show (match nth ps n with | some p=>p | none=>look n qs)=_
  rw [h]
 refine ⟨fun n=>?_,fun n hn v W D hp=>?_,zci hg,zdX ho⟩
 ·cases hc:nth ps n with
  | some p=>rw [e1 hc];exact (zeA h hc).mv
  | none=>rw [e2 hc];exact (zc4 n hq).1
 ·cases hc:nth ps n with
  | some p=>rw [e1 hc] at hp;exact (zeA h hc).ck hp
  | none=>rw [e2 hc] at hp;exact (zc4 n hq).2 hn hp
theorem FineAll.append {ps qs:List Pred} (h:FineAll K ps) (h2:FineAll K qs):FineAll K (ps++qs):=by
 induction ps with
 | nil=>exact h2
 | cons p r ih=>exact ⟨h.1,ih h.2⟩
theorem FineAll.of {ps:List Pred} (h:∀p∈ps,FineC K p):FineAll K ps:=by
 induction ps with
 | nil=>trivial
 | cons p r ih=>exact ⟨h p (List.mem_cons_self ..),ih fun q hq=>h q (List.mem_cons_of_mem _ hq)⟩
theorem FineAll.mem {ps:List Pred} (h:FineAll K ps):∀p∈ps,FineC K p:=by
 induction ps with
 | nil=>intro p hp;cases hp
 | cons p r ih =>
  intro q hq
  rcases List.mem_cons.1 hq with rfl | hq
  ·exact h.1
  ·exact ih h.2 q hq
theorem zaz {W W':World} {D D':Dat} {S:Nat→Prop} (hS:∀q,S q→Mlq K D W q) (hO:Oth S W W') (hD:∀q,D q→D' q):∀{ps:List Pred} {vs:List Value},FineAll K ps→okl ps vs W D→okl ps vs W' D'
 | [],[],_,_=>trivial
 | _::_,_::_,hp,h=>⟨hp.1.mv hS hO hD h.1,zaz hS hO hD hp.2 h.2⟩
 | [],_::_,_,h=>h.elim
 | _::_,[],_,h=>h.elim
theorem zfV {W:World} {D:Dat}:∀{ps:List Pred} {vs:List Value},FineAll K ps→okl ps vs W D→vs.all K.ck=true
 | [],[],_,_=>rfl
 | _::_,_::_,hp,h=>by rw [List.all_cons,hp.1.ck h.1,zfV hp.2 h.2];rfl
 | [],_::_,_,h=>h.elim
 | _::_,[],_,h=>h.elim
theorem zK {W:World} {D:Dat}:∀{ps:List Pred} {vs:List Value},okl ps vs W D→vs.length=ps.length
 | [],[],_=>rfl
 | _::_,_::_,h=>by rw [List.length_cons,List.length_cons,zK h.2]
 | [],_::_,h=>h.elim
 | _::_,[],h=>h.elim
theorem qB {W:World} {D:Dat}:∀{ps qs:List Pred} {vs us:List Value},okl ps vs W D→okl qs us W D→okl (ps++qs) (vs++us) W D
 | [],_,[],_,_,h=>h
 | _::_,_,_::_,_,h,h2=>⟨h.1,qB h.2 h2⟩
 | [],_,_::_,_,h,_=>h.elim
 | _::_,_,[],_,h,_=>h.elim
theorem zfW {W:World} {D:Dat}:∀{ps qs:List Pred} {vs:List Value},okl (ps++qs) vs W D→okl ps (vs.take ps.length) W D∧okl qs (vs.drop ps.length) W D
 | [],_,_,h=>⟨by rw [List.length_nil,List.take_zero];trivial,h⟩
 | _::_,_,_::_,h=>by
  have:=zfW h.2
  exact ⟨⟨h.1,this.1⟩,this.2⟩
 | _::_,_,[],h=>h.elim
theorem zlJ {W:World} {D:Dat}:∀{ps:List Pred} {vs:List Value} {i:Nat} {p:Pred},okl ps vs W D→ps[i]?=some p→∃v,vs[i]?=some v∧p v W D
 | p::_,v::_,0,_,h,hi=>⟨v,rfl,by simp at hi;subst hi;exact h.1⟩
 | _::_,_::_,i+1,_,h,hi=>by simpa using zlJ (i:=i) h.2 (by simpa using hi)
 | [],[],_,_,_,hi=>by simp at hi
 | [],_::_,_,_,h,_=>h.elim
 | _::_,[],_,_,h,_=>h.elim
def okp (ps:List Pred) (vs:List Value) (W:World) (D:Dat):Prop:=okl ps (vs.take ps.length) W D
theorem qm {W:World} {D:Dat} {ps qs:List Pred} {vs:List Value} (h:okp (ps++qs) vs W D):okp ps vs W D∧okp qs (vs.drop ps.length) W D:=by
 unfold okp at h
 obtain ⟨h1,h2⟩:=zfW h
 rw [List.length_append] at h1 h2
 refine ⟨?_,?_⟩
 ·unfold okp;rwa [List.take_take,Nat.min_eq_left (by omega)] at h1
 ·unfold okp;rw [List.drop_take] at h2;rwa [Nat.add_sub_cancel_left] at h2
def pL (n:Nat) (ps:List Pred):Pred:=fun v W D=>((∃A c,v=.slice A 0 c)∧n=0∧ps=[])∨∃(q o c:Nat) (T:TypeId) (vs:Array Value) (fz:Nat×Nat),v=.slice (some ⟨q,o,none⟩) n c∧D q∧W.heap[q]?=some (.cells vs T fz)∧okp ps (vs.toList.drop o) W D∧n≤c
def pP (ps:List Pred):Pred:=fun v W D=>∃(q o:Nat) (T:TypeId) (vs:Array Value) (fz:Nat×Nat),v=.pointer (some ⟨q,o,none⟩)∧D q∧W.heap[q]?=some (.cells vs T fz)∧okp ps (vs.toList.drop o) W D
theorem zfB {W W':World} {D:Dat} {S:Nat→Prop} (hS:∀q,S q→Mlq K D W q) (hO:Oth S W W') {q:Nat} {o:Obj} (hD:D q) (h:W.heap[q]?=some o):W'.heap[q]?=some o:=by
 rw [hO.block q (Array.getElem?_eq_some_iff.1 h).1 (fun hs=>(hS q hs).2.1 hD)];exact h
theorem zpc {n:Nat} {ps:List Pred} (hp:FineAll K ps):FineC K (pL n ps):=by
 constructor
 ·intro v W W' D D' S hS hO hD h
  rcases h with h | ⟨q,o,c,T,vs,fz,e,h1,h2,h3,h4⟩
  ·exact .inl h
  ·exact .inr ⟨q,o,c,T,vs,fz,e,hD q h1,zfB hS hO h1 h2,zaz hS hO hD hp h3,h4⟩
 ·intro v W D h
  rcases h with h | ⟨q,o,c,T,vs,fz,e,_⟩
  ·obtain ⟨⟨A,c,h⟩,_⟩:=h;rw [h];rfl
  ·rw [e];rfl
theorem zcC {ps:List Pred} (hp:FineAll K ps):FineC K (pP ps):=by
 constructor
 ·intro v W W' D D' S hS hO hD h
  obtain ⟨q,o,T,vs,fz,e,h1,h2,h3⟩:=h
  exact ⟨q,o,T,vs,fz,e,hD q h1,zfB hS hO h1 h2,zaz hS hO hD hp h3⟩
 ·intro v W D h
  obtain ⟨q,o,T,vs,fz,e,_⟩:=h
  rw [e];rfl
end
def Gives (F:Fact) (L:Lf) (u:Value):Prop:=∀β v W,L.ok F β v W↔v=u
theorem zf {F:Fact} {u:Value}:Gives F (.k u) u:=fun _ _ _=>Iff.rfl
theorem za {F:Fact} {n:Nat} {u:Value} (h:F.c n=pV u):Gives F (.h n) u:=fun β v W=>by
 show F.c n v W β.D↔_
 rw [h];rfl
def Says (F:Fact) (L:Lf) (p:Pred):Prop:=∀(β:Loc) v W,L.ok F β v W↔p v W β.D
theorem zm {F:Fact} {n:Nat} {p:Pred} (h:F.c n=p):Says F (.h n) p:=fun β v W=>by rw [← h];rfl
theorem Gives.says {F:Fact} {L:Lf} {u:Value} (h:Gives F L u):Says F L (pV u):=h
def LF (l:Lf):Sh:=.o (.c l)
section
variable {K:Kit} {P:Program} {F:Fact}
theorem e_fb {n:Nat} {b:Bool} (h:F.c n=pV (.bool b)):Ent.sound K P F (.fb n b):=fun v W D hv=>by rw [h] at hv;exact hv
theorem e_fbv {n:Nat} {b v:Bool} (e:v=b) (h:F.c n=pB v:=by rfl):Ent.sound K P F (.fb n b):=e_fb (by rw [h,e])
theorem e_bin {op:BinOp} {T:TypeId} {x y o:Lf} {u w r:Value} (hx:Gives F x u) (hy:Gives F y w) (ho:Gives F o r) (h:∀W X Y,(do eqGuard op T X Y u w;binOp op T u w:Sem Value).run P W=.ok r W):Ent.sound K P F (.bin op T (LF x) (LF y) (LF o)):=by
 intro β W vx vy h1 h2
 rw [(hx β vx W).1 h1,(hy β vy W).1 h2]
 exact ⟨r,h W,(ho β _ W).2 rfl⟩
theorem r_cmp {op:BinOp} {T:TypeId} {k:IntKind} {a b:Int} {r:Bool} (hr:binK op a b=some r) (W:World) (X Y:Operand):(do eqGuard op T X Y (.int k a) (.int k b);binOp op T (.int k a) (.int k b):Sem Value).run P W=.ok (.bool r) W:=zkv hr T X Y
def arK (op:BinOp) (k:IntKind) (a b:Int):Option Int:=match op with
 | .add=>some (k.wrap (a+b))
 | .sub=>some (k.wrap (a - b))
 | .mul=>some (k.wrap (a*b))
 | .quo=>if b=0 then none else some (k.wrap (a.tdiv b))
 | .rem=>if b=0 then none else some (a.tmod b)
 | _=>none
end
abbrev bs (s:List UInt8):ByteArray:=⟨s.toArray⟩
theorem zp2 (s:List UInt8):(bs s).size=s.length:=rfl
section
variable {K:Kit} {P:Program} {F:Fact}
theorem r_ar {op:BinOp} {T:TypeId} {k:IntKind} {a b r:Int} (h:arK op k a b=some r) (W:World) (X Y:Operand):(do eqGuard op T X Y (.int k a) (.int k b);binOp op T (.int k a) (.int k b):Sem Value).run P W=.ok (.int k r) W:=by
 unfold arK at h
 cases op<;>simp only [Option.some.injEq,reduceCtorEq,Option.ite_none_left_eq_some] at h
 case add=>subst h;simp [eqGuard,binOp,Op.intArith]
 case sub=>subst h;simp [eqGuard,binOp,Op.intArith]
 case mul=>subst h;simp [eqGuard,binOp,Op.intArith]
 case quo=>obtain ⟨h0,h⟩:=h;subst h;simp [eqGuard,binOp,Op.intDiv,h0]
 case rem=>obtain ⟨h0,h⟩:=h;subst h;simp [eqGuard,binOp,Op.intDiv,h0]
theorem zrx {k:IntKind} {a b:Int} (h:b≠0):arK .rem k a b=some (a.tmod b):=if_neg h
theorem zrw {k:IntKind} {a b:Int} (h:b≠0):arK .quo k a b=some (k.wrap (a.tdiv b)):=if_neg h
theorem zrA (a b:List UInt8):(bs a)++(bs b)=bs (a++b):=by
 apply ByteArray.ext
 simp [ByteArray.data_append]
theorem r_cat {T:TypeId} {a b:List UInt8} (h:((a.length+b.length:Nat):Int)≤9223372036854775807) (W:World) (X Y:Operand):(do eqGuard .add T X Y (.string (bs a)) (.string (bs b));binOp .add T (.string (bs a)) (.string (bs b)):Sem Value).run P W=.ok (.string (bs (a++b))) W:=by
 have h':¬ (9223372036854775807<(a.length:Int)+(b.length:Int)):=by omega
 simp [eqGuard,binOp,Op.stringOp,ByteArray.size,IntKind.max,IntKind.bits,h',IntKind.signed,zrA]
theorem r_seq {T:TypeId} {a b:List UInt8} (W:World) (X Y:Operand):(do eqGuard .eql T X Y (.string (bs a)) (.string (bs b));binOp .eql T (.string (bs a)) (.string (bs b)):Sem Value).run P W=.ok (.bool (a == b)) W:=by
 simp [eqGuard,binOp,Op.stringOp]
theorem r_sne {T:TypeId} {a b:List UInt8} (W:World) (X Y:Operand):(do eqGuard .neq T X Y (.string (bs a)) (.string (bs b));binOp .neq T (.string (bs a)) (.string (bs b)):Sem Value).run P W=.ok (.bool (!(a == b))) W:=by
 simp [eqGuard,binOp,Op.stringOp]
theorem r_slt {T:TypeId} {a b:List UInt8} (W:World) (X Y:Operand):(do eqGuard .lss T X Y (.string (bs a)) (.string (bs b));binOp .lss T (.string (bs a)) (.string (bs b)):Sem Value).run P W=.ok (.bool (Op.bytesLess a b)) W:=by
 simp [eqGuard,binOp,Op.stringOp]
theorem zwk {T:TypeId} {a b:Bool} (hT:P.underlying T=some .bool) (W:World) (d:Nat):(Op.equalIn (d+1) T (.bool a) (.bool b)).run P W=.ok (a == b) W:=by
 simp [Op.equalIn,run_underlying hT]
theorem zuK:∃d,Op.maxDepth=d+1:=⟨9999,rfl⟩
theorem r_bne {T:TypeId} {a b:Bool} (hT:P.underlying T=some .bool) (W:World) (X Y:Operand):(do eqGuard .neq T X Y (.bool a) (.bool b);binOp .neq T (.bool a) (.bool b):Sem Value).run P W=.ok (.bool (!(a == b))) W:=by
 obtain ⟨d,hd⟩:=zuK
 simp [eqGuard,binOp,Op.equal,hd,zwk hT]
theorem e_un {op:UnOp} {x o:Lf} {u r:Value} (hx:Gives F x u) (ho:Gives F o r) (h:∀W,(Op.unary op u).run P W=.ok r W):Ent.sound K P F (.un op (LF x) (LF o)):=by
 intro β W vx h1
 rw [(hx β vx W).1 h1]
 exact ⟨r,h W,(ho β _ W).2 rfl⟩
theorem r_neg {k:IntKind} {a:Int} (W:World):(Op.unary .neg (.int k a)).run P W=.ok (.int k (k.wrap (0 - a))) W:=rfl
theorem r_not {a:Bool} (W:World):(Op.unary .not (.bool a)).run P W=.ok (.bool (!a)) W:=rfl
theorem e_op1 {g:Sig} {x o:Lf} {u r:Value} (hx:Gives F x u) (ho:Gives F o r) (h:∀W,(g.sem [u]).run P W=.ok r W):Ent.sound K P F (.op g [LF x] [] (LF o)):=by
 intro β W vs hs _ _
 match vs,hs with
 | [v],⟨h1,_⟩ =>
  have e:v=u:=(hx β v W).1 h1
  subst e
  exact ⟨r,h W,(ho β _ W).2 rfl⟩
 | [],h=>exact h.elim
 | _::_::_,h=>exact h.2.elim
theorem e_op2 {g:Sig} {x y o:Lf} {u w r:Value} (hx:Gives F x u) (hy:Gives F y w) (ho:Gives F o r) (h:∀W,(g.sem [u,w]).run P W=.ok r W):Ent.sound K P F (.op g [LF x,LF y] [] (LF o)):=by
 intro β W vs hs _ _
 match vs,hs with
 | [v,v2],⟨h1,h2,_⟩ =>
  have e:v=u:=(hx β v W).1 h1
  have e2:v2=w:=(hy β v2 W).1 h2
  subst e;subst e2
  exact ⟨r,h W,(ho β _ W).2 rfl⟩
 | [],h=>exact h.elim
 | [_],h=>exact h.2.elim
 | _::_::_::_,h=>exact h.2.2.elim
theorem zsg {T R:TypeId} {s:List UInt8} (hT:P.underlying T=some .string) (W:World):((Sig.len [T] R).sem [.string (bs s)]).run P W=.ok (.int .i64 (s.length:Int)) W:=by
 simp [Sig.sem,Builtin.len_,run_underlying hT,zp2,goInt]
theorem r_ix {T:TypeId} {k:IntKind} {s:List UInt8} {i:Int} {n:Nat} {b:UInt8} (hT:P.underlying T=some .string) (hi:i=(n:Int)) (hb:s[n]?=some b) (W:World):((Sig.ix T).sem [.string (bs s),.int k i]).run P W=.ok (.int .u8 (b.toNat:Int)) W:=by
 subst hi
 have hlt:n<s.length:=(List.getElem?_eq_some_iff.1 hb).1
 have e:(bs s)[n]?=some b:=by
  rw [getElem?_pos (bs s) n hlt]
  have:=(List.getElem?_eq_some_iff.1 hb).2
  rw [← this];rfl
 simp [Sig.sem,Instr.index,asIntOf,run_underlying hT,e]
theorem r_cvi {S T:TypeId} {k k':IntKind} {a:Int} (hS:P.underlying S=some (.int k')) (hT:P.underlying T=some (.int k)) (W:World):((Sig.cv S T).sem [.int k' a]).run P W=.ok (.int k (k.wrap a)) W:=by
 simp [Sig.sem,convert,run_underlying hS,run_underlying hT,Conv.intToInt]
theorem zlW {ts:List TypeId} {T:TypeId} {k:IntKind} {a b:Int} (W:World):((Sig.min ts T).sem [.int k a,.int k b]).run P W=.ok (.int k (if b<a then b else a)) W:=by
 simp [Sig.sem,Builtin.min_,Builtin.min2]
theorem zfZ {ts:List TypeId} {T:TypeId} {k:IntKind} {a b:Int} (W:World):((Sig.max ts T).sem [.int k a,.int k b]).run P W=.ok (.int k (if b > a then b else a)) W:=by
 simp [Sig.sem,Builtin.max_,Builtin.max2]
theorem e_len {T R:TypeId} {E:TypeId} {x o:Lf} {n:Nat} {ps:List Pred} (hT:P.underlying T=some (.slice E)) (hx:Says F x (pL n ps)) (ho:Gives F o (.int .i64 (n:Int))):Ent.sound K P F (.op (.len [T] R) [LF x] [] (LF o)):=by
 intro β W vs hs _ _
 match vs,hs with
 | [v],⟨h1,_⟩ =>
  refine ⟨.int .i64 (n:Int),?_,(ho β _ W).2 rfl⟩
  rcases (hx β v W).1 h1 with ⟨⟨A,c,rfl⟩,rfl,_⟩ | ⟨q,p,c,U,us,fz,rfl,_⟩
  ·simp [Sig.sem,Builtin.len_,run_underlying hT,goInt]
  ·simp [Sig.sem,Builtin.len_,run_underlying hT,goInt]
 | [],h=>exact h.elim
 | _::_::_,h=>exact h.2.elim
theorem e_ia {T E:TypeId} {x y o:Lf} {n z:Nat} {ps qs rs us:List Pred} {k:IntKind} {i:Int} {j:Nat} (hT:P.underlying T=some (.slice E)) (hz:szOf P E=some z) (hx:Says F x (pL n ps)) (hy:Gives F y (.int k i)) (hi:i=(j:Int)) (hj:j<n) (hp:ps=us++(qs++rs)) (hu:us.length=j*z) (ho:Says F o (pP qs)):Ent.sound K P F (.op (.ia T) [LF x,LF y] [] (LF o)):=by
 subst hi;subst hp
 intro β W vs hs _ _
 match vs,hs with
 | [v,v2],⟨h1,h2,_⟩ =>
  have e2:v2=.int k (j:Int):=(hy β v2 W).1 h2
  subst e2
  rcases (hx β v W).1 h1 with ⟨_,h0,_⟩ | ⟨q,p,c,U,cs,fz,rfl,hD,hh,hc,_⟩
  ·omega
  ·refine ⟨.pointer (some ⟨q,p+j*z,none⟩),?_,(ho β _ W).2 ⟨q,p+j*z,U,cs,fz,rfl,hD,hh,?_⟩⟩
   ·simp only [Sig.sem,Instr.indexAt,Sem.run_bind,asIntOf,run_underlying hT,Result.andThen_ok,Sem.run_pure]
    rw [if_pos ⟨Int.natCast_nonneg j,Int.ofNat_lt.2 hj⟩,Sem.run_bind,qn hz,Result.andThen_ok,Int.toNat_natCast,qW];rfl
   ·have:=(qm (qm hc).2).1
    rw [hu,List.drop_drop] at this
    exact this
 | [],h=>exact h.elim
 | [_],h=>exact h.2.elim
 | _::_::_::_,h=>exact h.2.2.elim
theorem e_fa {T:TypeId} {i:Nat} {x o:Lf} {fs:Array Field} {d:Field} {m:Nat} {ps qs us:List Pred} (hT:P.underlying T=some (.struct fs)) (hd:fs[i]?=some d) (hz:szOf P d.type=some (m+1)) (hx:Says F x (pP ps)) (hp:ps=us++qs) (hu:us.length=d.offset) (ho:Says F o (pP qs)):Ent.sound K P F (.op (.fa T i) [LF x] [] (LF o)):=by
 subst hp
 intro β W vs hs _ _
 match vs,hs with
 | [v],⟨h1,_⟩ =>
  obtain ⟨q,p,U,cs,fz,rfl,hD,hh,hc⟩:=(hx β v W).1 h1
  refine ⟨.pointer (some ⟨q,p+d.offset,none⟩),?_,(ho β _ W).2 ⟨q,p+d.offset,U,cs,fz,rfl,hD,hh,?_⟩⟩
  ·simp only [Sig.sem,Instr.fieldAt,Sem.run_bind,run_underlying hT,Result.andThen_ok,hd,Instr.sureAddr,Sem.run_pure,fieldPlace,qn hz]
   rw [if_neg (by omega),qW];rfl
  ·have:=(qm hc).2
   rw [hu,List.drop_drop] at this
   exact this
 | [],h=>exact h.elim
 | _::_::_,h=>exact h.2.elim
theorem e_ld1 {T:TypeId} {x o:Lf} {p:Pred} {ps:List Pred} (hA:aggOf P T=some false) (hx:Says F x (pP (p::ps))) (ho:Says F o p):Ent.sound K P F (.op (.ld T) [LF x] [] (LF o)):=by
 intro β W vs hs _ _
 match vs,hs with
 | [v],⟨h1,_⟩ =>
  obtain ⟨q,i,U,cs,fz,rfl,hD,hh,hc⟩:=(hx β v W).1 h1
  obtain ⟨u,hu,hp⟩:=zlJ (i:=0) (p:=p) hc rfl
  have hcell:cs[i]?=some u:=by
   rw [List.getElem?_take_of_lt (by simp),List.getElem?_drop] at hu
   simpa using hu
  refine ⟨u,?_,(ho β _ W).2 hp⟩
  simp only [Sig.sem,Instr.loadAt,Instr.sureAddr,Sem.run_bind,Sem.run_pure,Result.andThen_ok,loadVar,zbl hA]
  simp [run_load,zq hh,hcell]
 | [],h=>exact h.elim
 | _::_::_,h=>exact h.2.elim
theorem znR {β:Loc} {W:World}:∀{ls:List Lf} {vs:List Value} {ps:List Pred},ls.map (Lf.pr F)=ps→ls.all (Lf.low [])=true→okl ps vs W β.D→oks F β ls vs W:=fun e hl h=>(zbt hl).2 (by rw [e];exact h)
theorem e_ldn {T:TypeId} {x:Lf} {ls:List Lf} {n:Nat} {ps rs:List Pred} (hz:szOf P T=some n) (hA:aggOf P T=some true) (hx:Says F x (pP (ps++rs))) (ho:ls.map (Lf.pr F)=ps) (hl:ls.all (Lf.low [])=true) (hn:ps.length=n):Ent.sound K P F (.op (.ld T) [LF x] [] (.o (.g ls))):=by
 intro β W vs hs _ _
 match vs,hs with
 | [v],⟨h1,_⟩ =>
  obtain ⟨q,i,U,cs,fz,rfl,hD,hh,hc⟩:=(hx β v W).1 h1
  have hp:=(qm hc).1
  have hlen:=zK hp
  rw [List.length_take,List.length_drop,hn] at hlen
  have hle:i+n≤cs.size∨n=0:=by
   rw [Array.length_toList] at hlen
   omega
  refine ⟨.agg ((cs.toList.drop i).take n).toArray,?_,⟨_,rfl,znR ho hl ?_⟩⟩
  ·simp only [Sig.sem,Instr.loadAt,Instr.sureAddr,Sem.run_bind,Sem.run_pure,Result.andThen_ok,loadVar,zbl hA,if_true,qn hz,loadCells]
   rcases hle with hle | hle
   ·rw [zeG hh n 0 _ (by omega)];simp
   ·subst hle;simp [loadCellsFrom]
  ·unfold okp at hp;rw [hn] at hp;exact hp
 | [],h=>exact h.elim
 | _::_::_,h=>exact h.2.elim
theorem zrJ {T E:TypeId} {x y o:Lf} {n z:Nat} {ps qs us:List Pred} {k:IntKind} {i:Int} {j:Nat} (hT:P.underlying T=some (.slice E)) (hz:szOf P E=some z) (hx:Says F x (pL n ps)) (hy:Gives F y (.int k i)) (hi:i=(j:Int)) (hj:j≤n) (hp:ps=us++qs) (hu:us.length=j*z) (ho:Says F o (pL j us)):Ent.sound K P F (.op (.sc T false true false) [LF x,LF y] [] (LF o)):=by
 subst hi;subst hp
 intro β W vs hs _ _
 match vs,hs with
 | [v,v2],⟨h1,h2,_⟩ =>
  have e2:v2=.int k (j:Int):=(hy β v2 W).1 h2
  subst e2
  rcases (hx β v W).1 h1 with ⟨⟨A,c,rfl⟩,h0,_⟩ | ⟨q,p,c,U,cs,fz,rfl,hD,hh,hc,hnc⟩
  ·have hj0:j=0:=by omega
   subst hj0
   have hu0:us=[]:=List.eq_nil_of_length_eq_zero (by simpa using hu)
   refine ⟨.slice (A.map fun a=>a.add (0*z)) 0 c,?_,(ho β _ W).2 (.inl ⟨⟨_,_,rfl⟩,rfl,hu0⟩)⟩
   simp [Sig.sem,Instr.sliceAt,Instr.slice,Instr.sliceBounds,Instr.sliceBound,asIntOf,run_underlying hT,qn hz]
   intro _;cases A<;>simp [Addr.add]
  ·have hjc:j≤c:=Nat.le_trans hj hnc
   refine ⟨.slice (some ⟨q,p,none⟩) j c,?_,(ho β _ W).2 (.inr ⟨q,p,c,U,cs,fz,rfl,hD,hh,(qm hc).1,hjc⟩)⟩
   simp [Sig.sem,Instr.sliceAt,Instr.slice,Instr.sliceBounds,Instr.sliceBound,asIntOf,run_underlying hT,qn hz,hjc,Addr.add]
 | [],h=>exact h.elim
 | [_],h=>exact h.2.elim
 | _::_::_::_,h=>exact h.2.2.elim
def pLs {α:Type} (c:α→List Pred) (l:List α):Pred:=pL l.length (l.flatMap c)
theorem zx {α:Type} {c:α→List Pred} (hc:∀x,FineAll K (c x)) {l:List α}:FineC K (pLs c l):=zpc (FineAll.of fun p hp=>by
 obtain ⟨x,_,h⟩:=List.mem_flatMap.1 hp
 exact (hc x).mem p h)
theorem zgY {α:Type} {c:α→List Pred} {z:Nat} (hz:∀x,(c x).length=z):∀{l:List α} {j:Nat} {x:α},l[j]?=some x→∃us rs,l.flatMap c=us++(c x++rs)∧us.length=j*z
 | y::l,0,x,h=>by
  simp only [List.getElem?_cons_zero,Option.some.injEq] at h
  subst h
  exact ⟨[],l.flatMap c,rfl,by simp⟩
 | y::l,j+1,x,h=>by
  obtain ⟨us,rs,h1,h2⟩:=zgY hz (l:=l) (j:=j) (by simpa using h)
  exact ⟨c y++us,rs,by rw [List.flatMap_cons,h1,List.append_assoc],by rw [List.length_append,hz,h2,Nat.add_mul,Nat.add_comm];simp⟩
 | [],_,_,h=>by simp at h
theorem zfJ {α:Type} {c:α→List Pred} {z:Nat} (hz:∀x,(c x).length=z) (l:List α) (j:Nat):l.flatMap c=(l.take j).flatMap c++(l.drop j).flatMap c∧((l.take j).flatMap c).length=(l.take j).length*z:=by
 refine ⟨by rw [← List.flatMap_append,List.take_append_drop],?_⟩
 induction (l.take j) with
 | nil=>simp
 | cons y r ih=>rw [List.flatMap_cons,List.length_append,hz,ih,List.length_cons,Nat.add_mul];omega
theorem zcA {α:Type} {c:α→List Pred} {T R E:TypeId} {x o:Lf} {l:List α} (hT:P.underlying T=some (.slice E)) (hx:Says F x (pLs c l)) (ho:Gives F o (.int .i64 (l.length:Int))):Ent.sound K P F (.op (.len [T] R) [LF x] [] (LF o)):=e_len hT hx ho
theorem e_iaL {α:Type} {c:α→List Pred} {z:Nat} {T E:TypeId} {x y o:Lf} {l:List α} {k:IntKind} {i:Int} {j:Nat} {v:α} (hc:∀x,(c x).length=z) (hT:P.underlying T=some (.slice E)) (hz:szOf P E=some z) (hx:Says F x (pLs c l)) (hy:Gives F y (.int k i)) (hi:i=(j:Int)) (hv:l[j]?=some v) (ho:Says F o (pP (c v))):Ent.sound K P F (.op (.ia T) [LF x,LF y] [] (LF o)):=by
 obtain ⟨us,rs,h1,h2⟩:=zgY hc hv
 exact e_ia hT hz hx hy hi (List.getElem?_eq_some_iff.1 hv).1 h1 h2 ho
theorem zak {α:Type} {c:α→List Pred} {z:Nat} {T E:TypeId} {x y o:Lf} {l:List α} {k:IntKind} {i:Int} {j:Nat} (hc:∀x,(c x).length=z) (hT:P.underlying T=some (.slice E)) (hz:szOf P E=some z) (hx:Says F x (pLs c l)) (hy:Gives F y (.int k i)) (hi:i=(j:Int)) (hj:j≤l.length) (ho:Says F o (pLs c (l.take j))):Ent.sound K P F (.op (.sc T false true false) [LF x,LF y] [] (LF o)):=by
 obtain ⟨h1,h2⟩:=zfJ hc l j
 have e:(l.take j).length=j:=by rw [List.length_take];omega
 rw [e] at h2
 refine zrJ hT hz hx hy hi hj h1 h2 ?_
 unfold pLs at ho
 rw [e] at ho
 exact ho
theorem e_ldG {T:TypeId} {x:Lf} {ls:List Lf} {n:Nat} {ps:List Pred} (hz:szOf P T=some n) (hA:aggOf P T=some true) (hx:Says F x (pP ps)) (ho:ls.map (Lf.pr F)=ps) (hl:ls.all (Lf.low [])=true) (hn:ps.length=n):Ent.sound K P F (.op (.ld T) [LF x] [] (.o (.g ls))):=e_ldn (rs:=[]) hz hA (by rw [List.append_nil];exact hx) ho hl hn
end
def LImps (F F':Fact):List Lf→List Lf→Prop
 | [],[]=>True
 | l::ls,m::ms=>(∀(β:Loc) v W,l.ok F β v W→m.ok F' β v W)∧LImps F F' ls ms
 | _,_=>False
theorem zcM {F F':Fact} {β:Loc} {W:World}:∀{ls ms:List Lf} {vs:List Value},LImps F F' ls ms→oks F β ls vs W→oks F' β ms vs W
 | [],[],_,_,h=>by cases ‹List Value›<;>first | trivial | exact h.elim
 | _::_,_::_,_::_,hi,h=>⟨hi.1 β _ W h.1,zcM hi.2 h.2⟩
 | [],_::_,_,hi,_=>hi.elim
 | _::_,[],_,hi,_=>hi.elim
 | _::_,_::_,[],_,h=>h.elim
theorem yy {A B C:Type} {P:A→B→C→Prop} (a:A) (b:B) (c:C) (h:P a b c):P a b c:=h
theorem LX {A:Type _} (x:A):∃v,x=v:=⟨x,rfl⟩
abbrev LA (K:Kit) (A:List Pred→List Pred):Prop:=∀t,FineAll K t→FineAll K (A t)
abbrev LT (K:Kit) (P:Program) (A:List Pred→List Pred) (D:List (Nat×Ent)):Prop:=∀t,Sound K P (FL (A t) []) D
abbrev LG (K:Kit) (G:List LPred→List LPred):Prop:=∀t,zS K t→zS K (G t)
abbrev LH (K:Kit) (P:Program) (A:List Pred→List Pred) (G:List LPred→List LPred) (D:List (Nat×Ent)):Prop:=∀t u,Sound K P (FL (A t) (G u)) D
theorem LD {p:Prop} [Decidable p] {b:Bool} (e:decide p=b) (h:b=true):p:=of_decide_eq_true (e.trans h)
theorem LE {p:Prop} [Decidable p] {b:Bool} (e:decide p=b) (h:b=false):¬ p:=of_decide_eq_false (e.trans h)
theorem LO {A:Type _} {a b:A} (h:a=b):some a=some b:=congrArg some h
theorem LZ {K:Kit} {F F2:Fact} {l m:List Atom} (h:zipA K F F2 l m):Imp K F F2 l m:=zipA.imp h
theorem LU {F:Fact} {n:Nat} {p:Pred} (u:F.c n=p) (β:Loc) (v:Value) (W:World) (h:(Lf.h n).ok F β v W):p v W β.D:=(zm u β v W).1 h
theorem LV {F:Fact} {n:Nat} {p:Pred} (u:F.c n=p) (β:Loc) (v:Value) (W:World) (h:p v W β.D):(Lf.h n).ok F β v W:=(zm u β v W).2 h
theorem z_c {K:Kit} {F F':Fact} {s:Nat} {l m:Lf} (h:∀(β:Loc) v W,l.ok F β v W→m.ok F' β v W) (β:Loc) (a:Act) (W:World) (hA:(Atom.sl s (.o (.c l))).ok K F β a W):(Atom.sl s (.o (.c m))).ok K F' β a W:=h β _ W hA
theorem z_g {K:Kit} {F F':Fact} {s:Nat} {ls ms:List Lf} (h:LImps F F' ls ms) (β:Loc) (a:Act) (W:World) (hA:(Atom.sl s (.o (.g ls))).ok K F β a W):(Atom.sl s (.o (.g ms))).ok K F' β a W:=by
 obtain ⟨vs,e,h1⟩:=hA
 exact ⟨vs,e,zcM h h1⟩
theorem z_b {K:Kit} {F F':Fact} {b:Nat} {T:TypeId} {ls ms:List Lf} (h:LImps F F' ls ms) (β:Loc) (a:Act) (W:World) (hA:(Atom.bx b T ls).ok K F β a W):(Atom.bx b T ms).ok K F' β a W:=by
 obtain ⟨q,vs,h0,h1,h2,h3⟩:=hA
 exact ⟨q,vs,h0,h1,zcM h h2,h3⟩
theorem z_gl {K:Kit} {F F':Fact} {b:Nat} {T:TypeId} {z n m:Nat} (h:∀vs W D,F.g n vs W D→F'.g m vs W D) (β:Loc) (a:Act) (W:World) (hA:(Atom.gl b T z n).ok K F β a W):(Atom.gl b T z m).ok K F' β a W:=by
 obtain ⟨xs,h1,h2,h3⟩:=hA
 exact ⟨xs,h1,h _ _ _ h2,h3⟩
inductive ALf where
 | d (p:Pred)
 | p (i o:Nat)
 | q (f:FuncId) (l:List (Nat×Nat))
 | m (f:FuncId) (i o:Nat)
inductive ACm where
 | c (l:ALf)
 | g (l:List ALf)
inductive ASh where
 | o (c:ACm)
 | t (l:List ACm)
def apts (qs:List Nat):List (Nat×Nat)→List Value→Prop
 | [],[]=>True
 | x::xs,v::vs=>(∃q,qs[x.1]?=some q∧v=.pointer (some ⟨q,x.2,none⟩))∧apts qs xs vs
 | _,_=>False
def ALf.ok (qs:List Nat):ALf→Value→World→Dat→Prop
 | .d x,v,W,D=>x v W D
 | .p i o,v,_,_=>∃q,qs[i]?=some q∧v=.pointer (some ⟨q,o,none⟩)
 | .q f l,v,_,_=>∃cs:Array Value,v=.func (.func f) #[] cs∧apts qs l cs.toList
 | .m f i o,v,_,_=>∃q,qs[i]?=some q∧v=.func (.func f) #[.pointer (some ⟨q,o,none⟩)] #[]
def aokl (qs:List Nat):List ALf→List Value→World→Dat→Prop
 | [],[],_,_=>True
 | p::ps,v::vs,W,D=>p.ok qs v W D∧aokl qs ps vs W D
 | _,_,_,_=>False
def ACm.ok (qs:List Nat):ACm→Value→World→Dat→Prop
 | .c l,v,W,D=>l.ok qs v W D
 | .g ls,v,W,D=>∃vs:Array Value,v=.agg vs∧aokl qs ls vs.toList W D
def aokc (qs:List Nat):List ACm→List Value→World→Dat→Prop
 | [],[],_,_=>True
 | p::ps,v::vs,W,D=>p.ok qs v W D∧aokc qs ps vs W D
 | _,_,_,_=>False
def ASh.ok (qs:List Nat):ASh→Value→World→Dat→Prop
 | .o c,v,W,D=>c.ok qs v W D
 | .t l,v,W,D=>∃vs:Array Value,v=.tuple vs∧aokc qs l vs.toList W D
def aoka (qs:List Nat):List ASh→List Value→World→Dat→Prop
 | [],[],_,_=>True
 | p::ps,v::vs,W,D=>p.ok qs v W D∧aoka qs ps vs W D
 | _,_,_,_=>False
def okX (K:Kit) (qs:List Nat):List (TypeId×List ALf)→List Nat→World→Dat→Prop
 | [],[],_,_=>True
 | x::xs,q::r,W,D=>(K.w0.heap.size≤q∧¬ D q∧K.bt x.1=true∧∃us:Array Value,W.heap[q]?=some (.cells us x.1 (0,0))∧us.toList.all K.ck=true∧aokl qs x.2 us.toList W D)∧okX K qs xs r W D
 | _,_,_,_=>False
def ixOf:List Nat→Nat→Nat
 | [],_=>0
 | c::r,b=>match Nat.beq b c with
  | true=>0
  | false=>ixOf r b+1
def Lf.toA (bs:List Nat) (F:Fact):Lf→ALf
 | .k v=>.d (pV v)
 | .h n=>.d (F.c n)
 | .p b o=>.p (ixOf bs b) o
 | .q f l=>.q f (l.map fun x=>(ixOf bs x.1,x.2))
 | .m f b o=>.m f (ixOf bs b) o
 | _=>.d fun _ _ _=>False
def Cm.toA (bs:List Nat) (F:Fact):Cm→ACm
 | .c l=>.c (l.toA bs F)
 | .g l=>.g (l.map (Lf.toA bs F))
def Sh.toA (bs:List Nat) (F:Fact):Sh→ASh
 | .o c=>.o (c.toA bs F)
 | .t l=>.t (l.map (Cm.toA bs F))
def Atom.toX (bs:List Nat) (F:Fact):Atom→TypeId×List ALf
 | .bx _ T ls=>(T,ls.map (Lf.toA bs F))
 | _=>(0,[])
def Lf.lowX (bs:List Nat):Lf→Bool
 | .p b _=>bs.contains b
 | .q _ l=>l.all fun x=>bs.contains x.1
 | .m _ b _=>bs.contains b
 | .s _ _ _ _=>false
 | .gr _=>false
 | .pf _ _=>false
 | .po _=>false
 | .mp _=>false
 | _=>true
def Cm.lowX (bs:List Nat):Cm→Bool
 | .c l=>l.lowX bs
 | .g l=>l.all (Lf.lowX bs)
def Sh.lowX (bs:List Nat):Sh→Bool
 | .o c=>c.lowX bs
 | .t l=>l.all (Cm.lowX bs)
def Atom.lowX (bs:List Nat):Atom→Bool
 | .bx _ _ ls=>ls.all (Lf.lowX bs)
 | _=>false
theorem zbW:∀{bs:List Nat} {b:Nat},b∈bs→bs[ixOf bs b]?=some b
 | c::r,b,h=>by
  show (c::r)[(match Nat.beq b c with | true=>0 | false=>ixOf r b+1)]?=some b
  cases hb:Nat.beq b c with
  | true=>rw [Nat.eq_of_beq_eq_true hb];rfl
  | false =>
   have:b≠c:=Nat.ne_of_beq_eq_false hb
   rcases List.mem_cons.1 h with h | h
   ·exact absurd h this
   ·simpa using zbW h
section
variable {K:Kit} {F:Fact} {β:Loc} {W:World} {bs qs:List Nat} (H:∀b∈bs,β b=qs[ixOf bs b]?)
include H
theorem zim:∀{l:List (Nat×Nat)} {vs:List Value},(l.all fun x=>bs.contains x.1)=true→(pts β l vs↔apts qs (l.map fun x=>(ixOf bs x.1,x.2)) vs)
 | [],[],_=>Iff.rfl
 | x::xs,v::vs,h=>by
  rw [List.all_cons,Bool.and_eq_true] at h
  refine and_congr ?_ (zim h.2)
  rw [H x.1 (by simpa using h.1)]
 | [],_::_,_=>Iff.rfl
 | _::_,[],_=>Iff.rfl
theorem zmI {l:Lf} {v:Value} (h:l.lowX bs=true):l.ok F β v W↔(l.toA bs F).ok qs v W β.D:=by
 cases l with
 | k x=>exact Iff.rfl
 | h n=>exact Iff.rfl
 | p b o =>
  show (∃q,β b=some q∧_)↔∃q,qs[ixOf bs b]?=some q∧_
  rw [H b (by simpa [Lf.lowX] using h)]
 | s b o n c=>cases h
 | q f l=>exact exists_congr fun cs=>and_congr_right fun _=>zim H h
 | m f b o =>
  show (∃q,β b=some q∧_)↔∃q,qs[ixOf bs b]?=some q∧_
  rw [H b (by simpa [Lf.lowX] using h)]
 | gr b=>cases h
 | pf b n=>cases h
 | po b=>cases h
 | mp b=>cases h
theorem zcL:∀{ls:List Lf} {vs:List Value},ls.all (Lf.lowX bs)=true→(oks F β ls vs W↔aokl qs (ls.map (Lf.toA bs F)) vs W β.D)
 | [],[],_=>Iff.rfl
 | l::ls,v::vs,h=>by
  rw [List.all_cons,Bool.and_eq_true] at h
  exact and_congr (zmI H h.1) (zcL h.2)
 | [],_::_,_=>Iff.rfl
 | _::_,[],_=>Iff.rfl
theorem zkh {c:Cm} {v:Value} (h:c.lowX bs=true):c.ok F β v W↔(c.toA bs F).ok qs v W β.D:=by
 cases c with
 | c l=>exact zmI H h
 | g l=>exact exists_congr fun vs=>and_congr_right fun _=>zcL H h
theorem ziq:∀{ls:List Cm} {vs:List Value},ls.all (Cm.lowX bs)=true→(cms F β ls vs W↔aokc qs (ls.map (Cm.toA bs F)) vs W β.D)
 | [],[],_=>Iff.rfl
 | l::ls,v::vs,h=>by
  rw [List.all_cons,Bool.and_eq_true] at h
  exact and_congr (zkh H h.1) (ziq h.2)
 | [],_::_,_=>Iff.rfl
 | _::_,[],_=>Iff.rfl
theorem zgF {s:Sh} {v:Value} (h:s.lowX bs=true):s.ok F β v W↔(s.toA bs F).ok qs v W β.D:=by
 cases s with
 | o c=>exact zkh H h
 | t l=>exact exists_congr fun vs=>and_congr_right fun _=>ziq H h
theorem ze5:∀{ls:List Sh} {vs:List Value},ls.all (Sh.lowX bs)=true→(shs F β ls vs W↔aoka qs (ls.map (Sh.toA bs F)) vs W β.D)
 | [],[],_=>Iff.rfl
 | l::ls,v::vs,h=>by
  rw [List.all_cons,Bool.and_eq_true] at h
  exact and_congr (zgF H h.1) (ze5 h.2)
 | [],_::_,_=>Iff.rfl
 | _::_,[],_=>Iff.rfl
omit H in
theorem zls {A:Atom} {r:List Atom} (hn:(names (A::r)).map β.bx=([]:List Nat).map some):¬ (A::r).all (Atom.lowX bs)=true:=by
 intro h
 rw [List.all_cons,Bool.and_eq_true] at h
 cases A with
 | bx b T ls=>simp [names] at hn
 | _=>simp [Atom.lowX] at h
theorem zlI:∀{pre:List Atom} {rs:List Nat},pre.all (Atom.lowX bs)=true→(names pre).map β.bx=rs.map some→(∀q∈rs,¬ β.D q)→(∀x∈pre,x.okB K F β W)→okX K qs (pre.map (Atom.toX bs F)) rs W β.D
 | [],[],_,_,_,_=>trivial
 | .bx b T ls::r,q::rs,hl,hn,hd,h=>by
  rw [List.all_cons,Bool.and_eq_true] at hl
  simp only [names,List.map_cons,List.cons.injEq] at hn
  obtain ⟨q',us,h1,h2,h3,h4,h5,h6⟩:=h _ (List.mem_cons_self ..)
  have e:q'=q:=Option.some.inj (h1.symm.trans hn.1)
  subst e
  exact ⟨⟨h6,hd _ (List.mem_cons_self ..),h5,us,h2,h4,(zcL H hl.1).1 h3⟩,zlI hl.2 hn.2 (fun q hq=>hd q (List.mem_cons_of_mem _ hq)) fun x hx=>h x (List.mem_cons_of_mem _ hx)⟩
 | [],_::_,_,hn,_,_=>by simp [names] at hn
 | A::r,[],hl,hn,_,_=>absurd hl (zls hn)
 | .sl _ _::_,_::_,hl,_,_,_=>by simp [Atom.lowX] at hl
 | .gl _ _ _ _::_,_::_,hl,_,_,_=>by simp [Atom.lowX] at hl
 | .gn _::_,_::_,hl,_,_,_=>by simp [Atom.lowX] at hl
 | .hp _ _ _::_,_::_,hl,_,_,_=>by simp [Atom.lowX] at hl
theorem zdf:∀{pre:List Atom} {rs:List Nat},pre.all (Atom.lowX bs)=true→(names pre).map β.bx=rs.map some→okX K qs (pre.map (Atom.toX bs F)) rs W β.D→∀x∈pre,x.okB K F β W
 | [],[],_,_,_=>fun x hx=>by cases hx
 | .bx b T ls::r,q::rs,hl,hn,h=>by
  rw [List.all_cons,Bool.and_eq_true] at hl
  simp only [names,List.map_cons,List.cons.injEq] at hn
  obtain ⟨⟨h6,_,h5,us,h2,h4,h3⟩,h7⟩:=h
  intro x hx
  rcases List.mem_cons.1 hx with rfl | hx
  ·exact ⟨q,us,hn.1,h2,(zcL H hl.1).2 h3,h4,h5,h6⟩
  ·exact zdf hl.2 hn.2 h7 x hx
 | [],_::_,_,hn,_=>by simp [names] at hn
 | A::r,[],hl,hn,_=>absurd hl (zls hn)
 | .sl _ _::_,_::_,hl,_,_=>by simp [Atom.lowX] at hl
 | .gl _ _ _ _::_,_::_,hl,_,_=>by simp [Atom.lowX] at hl
 | .gn _::_,_::_,hl,_,_=>by simp [Atom.lowX] at hl
 | .hp _ _ _::_,_::_,hl,_,_=>by simp [Atom.lowX] at hl
end
theorem zlH {K:Kit} {qs:List Nat} {W:World} {D:Dat}:∀{l:List (TypeId×List ALf)} {rs:List Nat},okX K qs l rs W D→rs.length=l.length
 | [],[],_=>rfl
 | _::_,_::_,h=>by rw [List.length_cons,List.length_cons,zlH h.2]
 | [],_::_,h=>h.elim
 | _::_,[],h=>h.elim
theorem qT {K:Kit} {qs:List Nat} {W:World} {D:Dat}:∀{l:List (TypeId×List ALf)} {rs:List Nat},okX K qs l rs W D→∀q∈rs,K.w0.heap.size≤q∧¬ D q∧q<W.heap.size
 | [],[],_,q,hq=>by cases hq
 | _::_,_::_,h,q,hq=>by
  rcases List.mem_cons.1 hq with rfl | hq
  ·obtain ⟨h1,h2,_,us,h3,_⟩:=h.1
   exact ⟨h1,h2,(Array.getElem?_eq_some_iff.1 h3).1⟩
  ·exact qT h.2 q hq
 | [],_::_,h,_,_=>h.elim
 | _::_,[],h,_,_=>h.elim
structure KeptX (qs:List Nat) (W:World) (D:Dat) (W':World) (D':Dat):Prop where
 oth:Oth (fun q=>q∈qs) W W'
 dm:∀q,D q→D' q
 dn:∀q,D' q→D q∨W.heap.size≤q
 dlt:∀q,D' q→q<W'.heap.size
def endOf (pan:Bool) (v:Value):Ending:=if pan=true then .panicked [{ v,recovered:=false }] else .returned v
def BFun (pan:Bool) (K:Kit) (P:Program) (f:FuncId) (az:List ASh) (pre:List (TypeId×List ALf)) (res:ASh) (post:List (TypeId×List ALf)):Prop:=
 ∀(W:World) (D:Dat) (vs:List Value) (qs:List Nat),qs.Nodup→aoka qs az vs W D→okX K qs pre qs W D→Fit K W D →
  Calls P f vs.toArray W fun e W'=>∃v D',e=endOf pan v∧res.ok qs v W' D'∧okX K qs post qs W' D'∧KeptX qs W D W' D'
theorem zcl {bs:List Nat}:∀{l:List Atom},l.all (Atom.lowX bs)=true→zk l=[]
 | [],_=>rfl
 | .bx b T ls::r,h=>by
  rw [List.all_cons,Bool.and_eq_true] at h
  exact zcl (l:=r) h.2
 | .sl _ _::_,h=>by simp [Atom.lowX] at h
 | .gl _ _ _ _::_,h=>by simp [Atom.lowX] at h
 | .gn _::_,h=>by simp [Atom.lowX] at h
 | .hp _ _ _::_,h=>by simp [Atom.lowX] at h
theorem zli {bs:List Nat}:∀{l:List Atom},l.all (Atom.lowX bs)=true→l.all Atom.isB=true
 | [],_=>rfl
 | .bx b T ls::r,h=>by
  rw [List.all_cons,Bool.and_eq_true] at h
  rw [List.all_cons,zli (l:=r) h.2];rfl
 | .sl _ _::_,h=>by simp [Atom.lowX] at h
 | .gl _ _ _ _::_,h=>by simp [Atom.lowX] at h
 | .gn _::_,h=>by simp [Atom.lowX] at h
 | .hp _ _ _::_,h=>by simp [Atom.lowX] at h
theorem zfT {bs:List Nat}:∀{l:List Atom},l.all (Atom.lowX bs)=true→(names l).length=l.length
 | [],_=>rfl
 | .bx b T ls::r,h=>by
  rw [List.all_cons,Bool.and_eq_true] at h
  simp only [names,List.length_cons,zfT h.2]
 | .sl _ _::_,h=>by simp [Atom.lowX] at h
 | .gl _ _ _ _::_,h=>by simp [Atom.lowX] at h
 | .gn _::_,h=>by simp [Atom.lowX] at h
 | .hp _ _ _::_,h=>by simp [Atom.lowX] at h
def lowB (az:List Sh) (pre:List Atom) (res:Sh) (post:List Atom):Bool:=decide (names pre).Nodup && (names post == names pre) && az.all (Sh.lowX (names pre)) && pre.all (Atom.lowX (names pre)) && res.lowX (names pre) && post.all (Atom.lowX (names pre))
theorem zaM {bs qs:List Nat} {g:Nat→Option Nat} (hl:qs.length=bs.length) (hn:bs.Nodup) (H:∀b∈bs,g b=qs[ixOf bs b]?):bs.map g=qs.map some:=by
 apply List.ext_getElem?
 intro i
 rw [List.getElem?_map,List.getElem?_map]
 cases hb:bs[i]? with
 | none =>
  have:bs.length≤i:=List.getElem?_eq_none_iff.1 hb
  rw [List.getElem?_eq_none (by omega)];rfl
 | some b =>
  have hm:b∈bs:=List.mem_of_getElem? hb
  have h1:=zbW hm
  have hi:i<bs.length:=(List.getElem?_eq_some_iff.1 hb).1
  have h2:ixOf bs b=i:=by
   have hj:ixOf bs b<bs.length:=(List.getElem?_eq_some_iff.1 h1).1
   exact (List.getElem?_inj hj hn).1 (h1.trans hb.symm)
  rw [Option.map_some,H b hm,h2,List.getElem?_eq_getElem (show i<qs.length by omega)];rfl
section
variable {K:Kit} {P:Program} {F:Fact} {f:FuncId} {az:List Sh} {pre:List Atom} {res:Sh} {post:List Atom} {pan:Bool}
theorem con_b {as0:List ASh} {pre0:List (TypeId×List ALf)} {res0:ASh} {post0:List (TypeId×List ALf)} (h:zaC K P F pan ⟨f,az,pre,res,post⟩) (hl:lowB az pre res post=true:=by kernel_rfl)
  (ha:az.map (Sh.toA (names pre) F)=as0:=by rfl) (hp:pre.map (Atom.toX (names pre) F)=pre0:=by rfl) (hr:res.toA (names pre) F=res0:=by rfl) (hq:post.map (Atom.toX (names pre) F)=post0:=by rfl):BFun pan K P f as0 pre0 res0 post0:=by
 subst ha;subst hp;subst hr;subst hq
 unfold lowB at hl
 simp only [Bool.and_eq_true,beq_iff_eq,decide_eq_true_eq] at hl
 obtain ⟨⟨⟨⟨⟨hnd,hnames⟩,hla⟩,hlp⟩,hlr⟩,hlq⟩:=hl
 obtain ⟨bs,hbs⟩:∃bs,names pre=bs:=⟨_,rfl⟩
 rw [hbs] at hnd hnames hla hlp hlr hlq ⊢
 intro W D vs qs hqn hargs hpre hfit
 let β:Loc:=⟨fun b=>if b∈bs then qs[ixOf bs b]? else none,fun _=>(0,0),D⟩
 have H:∀b∈bs,β b=qs[ixOf bs b]?:=fun b hb=>if_pos hb
 have H':∀b q,β b=some q→b∈bs∧qs[ixOf bs b]?=some q:=by
  intro b q hq
  by_cases hb:b∈bs
  ·exact ⟨hb,by rw [← H b hb];exact hq⟩
  ·have:β b=none:=if_neg hb
   rw [this] at hq;cases hq
 have hlen:qs.length=bs.length:=by rw [zlH hpre,List.length_map,← hbs,zfT hlp]
 have hmap:(names pre).map β.bx=qs.map some:=by rw [hbs];exact zaM hlen hnd H
 have hmem:∀b q,β b=some q→q∈qs:=fun b q hq=>List.mem_of_getElem? (H' b q hq).2
 have hg:Geo K β W:=by
  refine ⟨fun b q hq=>(qT hpre q (hmem b q hq)).2.2,fun b c q hb hc=>?_,hfit.bel,fun b q hq=>(qT hpre q (hmem b q hq)).2.1,hfit.dlt,hfit.low⟩
  obtain ⟨b1,b2⟩:=H' b q hb
  obtain ⟨c1,c2⟩:=H' c q hc
  have e:ixOf bs b=ixOf bs c:=(List.getElem?_inj (List.getElem?_eq_some_iff.1 b2).1 hqn).1 (b2.trans c2.symm)
  have:=zbW b1
  rw [e,zbW c1] at this
  exact (Option.some.inj this).symm
 have hs:Calls P f vs.toArray W fun e W'=>∃v β',e=endOf pan v∧Back K F ⟨f,az,pre,res,post⟩ β W v β' W':=by
  have h1:=(ze5 (F:=F) (W:=W) H hla).2 hargs
  have h2:=zdf (F:=F) H hlp hmap hpre
  cases pan with
  | true=>exact h.2 β W vs h1 h2 hg
  | false=>exact h.2 β W vs h1 h2 hg
 refine hs.mono fun e W' hr=>?_
 obtain ⟨v,β',rfl,hb⟩:=hr
 have hgl:zk pre=[]:=zcl hlp
 have hsame:∀b,β' b=β b:=fun b=>(hb.eqv b (by show b ∉ zk pre;rw [hgl];simp)).1
 have H2:∀b∈bs,β' b=qs[ixOf bs b]?:=fun b hb=>(hsame b).trans (H b hb)
 have hmap2:(names post).map β'.bx=qs.map some:=by rw [hnames];exact zaM hlen hnd H2
 refine ⟨v,β'.D,rfl,(zgF H2 hlr).1 hb.res,zlI H2 hlq hmap2 (fun q hq=>?_) hb.post,⟨hb.oth.mono fun q ⟨b,_,hq⟩=>hmem b q hq,hb.dm,hb.dn0 hgl,hb.geo.dlt⟩⟩
 have:some q∈(names post).map β'.bx:=by rw [hmap2];exact List.mem_map_of_mem hq
 obtain ⟨b,_,hbq⟩:=List.mem_map.1 this
 exact hb.geo.dis b q hbq
theorem b_con {as0:List ASh} {pre0:List (TypeId×List ALf)} {res0:ASh} {post0:List (TypeId×List ALf)} (h:BFun pan K P f as0 pre0 res0 post0) (hl:lowB az pre res post=true:=by kernel_rfl)
  (ha:az.map (Sh.toA (names pre) F)=as0:=by rfl) (hp:pre.map (Atom.toX (names pre) F)=pre0:=by rfl) (hr:res.toA (names pre) F=res0:=by rfl) (hq:post.map (Atom.toX (names pre) F)=post0:=by rfl):zaC K P F pan ⟨f,az,pre,res,post⟩:=by
 subst ha;subst hp;subst hr;subst hq
 unfold lowB at hl
 simp only [Bool.and_eq_true,beq_iff_eq,decide_eq_true_eq] at hl
 obtain ⟨⟨⟨⟨⟨hnd,hnames⟩,hla⟩,hlp⟩,hlr⟩,hlq⟩:=hl
 obtain ⟨bs,hbs⟩:∃bs,names pre=bs:=⟨_,rfl⟩
 rw [hbs] at hnd hnames hla hlp hlr hlq h
 have hgl:zk pre=[]:=zcl hlp
 have key:∀(β:Loc) (W:World) (vs:List Value),shs F β az vs W→(∀x∈pre,x.okB K F β W)→Geo K β W→Calls P f vs.toArray W fun e W'=>∃v β',e=endOf pan v∧Back K F ⟨f,az,pre,res,post⟩ β W v β' W':=by
  intro β W vs hargs hboxes hg
  let qs:List Nat:=bs.map fun b=>(β b).getD 0
  have hlen:qs.length=bs.length:=by simp [qs]
  have hat:∀b∈bs,∃q,β b=some q:=by
   intro b hb
   rw [← hbs] at hb
   obtain ⟨A,hA,hbA⟩:=zdc.1 hb
   have h1:=hboxes A hA
   have h2:=List.all_eq_true.1 hlp A hA
   cases A with
   | bx c T ls=>obtain rfl:=List.mem_singleton.1 hbA;obtain ⟨q,_,hq,_⟩:=h1;exact ⟨q,hq⟩
   | _=>simp [Atom.lowX] at h2
  have H:∀b∈bs,β b=qs[ixOf bs b]?:=by
   intro b hb
   obtain ⟨q,hq⟩:=hat b hb
   simp only [qs,List.getElem?_map,zbW hb,Option.map_some,hq,Option.getD_some]
  have hmap:(names pre).map β.bx=qs.map some:=by rw [hbs];exact zaM hlen hnd H
  have hback:∀q∈qs,∃b∈names pre,β b=some q:=by
   intro q hq
   have:some q∈(names pre).map β.bx:=by rw [hmap];exact List.mem_map_of_mem hq
   obtain ⟨b,hb,hbq⟩:=List.mem_map.1 this
   exact ⟨b,hb,hbq⟩
  have hqn:qs.Nodup:=by
   rw [List.Nodup,List.pairwise_map]
   refine hnd.imp_of_mem ?_
   intro b c hb hc hne e
   obtain ⟨q,hq⟩:=hat b hb
   obtain ⟨r,hr⟩:=hat c hc
   rw [hq,hr,Option.getD_some,Option.getD_some] at e
   subst e
   exact hne (hg.inj b c q hq hr)
  refine (h W β.D vs qs hqn ((ze5 (F:=F) (W:=W) H hla).1 hargs) (zlI (F:=F) H hlp hmap (fun q hq=>?_) hboxes) ⟨hg.bel,hg.dlt,hg.low⟩).mono fun e W' hr=>?_
  ·obtain ⟨b,_,hb⟩:=hback q hq
   exact hg.dis b q hb
  ·obtain ⟨v,D',rfl,hres,hpost,hk⟩:=hr
   let β':Loc:=⟨β.bx,β.len,D'⟩
   have H2:∀b∈bs,β' b=qs[ixOf bs b]?:=H
   have hmap2:(names post).map β'.bx=qs.map some:=by rw [hnames,← hbs];exact hmap
   have hge:∀q,q∈qs→K.w0.heap.size≤q:=fun q hq=>(qT hpost q hq).1
   refine ⟨v,β',rfl,(zgF (β:=β') H2 hlr).2 hres,hk.oth.mono fun q hq=>hback q hq,zdf (β:=β') H2 hlq hmap2 hpost,fun b _=>⟨rfl,rfl⟩,hk.dm,fun q hq=>(hk.dn q hq).imp id .inl,fun b hb=>by (rw [show zk (Con.mk f az pre res post).pre=[] from hgl] at hb;cases hb),⟨fun b q hq=>Nat.lt_of_lt_of_le (hg.lt b q hq) hk.oth.size,hg.inj,hg.bel.trans (hk.oth.ofOth hge hg.bel.size),fun b q hq hD=>?_,hk.dlt,fun q hq=>hk.dm q (hg.low q hq)⟩⟩
   rcases hk.dn q hD with h1 | h1
   ·exact hg.dis b q hq h1
   ·have:=hg.lt b q hq;omega
 unfold zaC
 split
 ·rename_i hp
  subst hp
  exact ⟨zli hlp,key⟩
 ·rename_i hp
  have hp:pan=false:=by simpa using hp
  subst hp
  exact ⟨zli hlp,key⟩
theorem BFun.imp {as0:List ASh} {pre0:List (TypeId×List ALf)} {res0 res1:ASh} {post0 post1:List (TypeId×List ALf)} (h:BFun pan K P f as0 pre0 res0 post0) (hr:∀qs v W D,res0.ok qs v W D→res1.ok qs v W D) (hq:∀qs W D,okX K qs post0 qs W D→okX K qs post1 qs W D):BFun pan K P f as0 pre0 res1 post1:=
 fun W D vs qs h0 h1 h2 h3=>(h W D vs qs h0 h1 h2 h3).mono fun _ _ ⟨v,D',e,a1,a2,a3⟩=>⟨v,D',e,hr _ _ _ _ a1,hq _ _ _ a2,a3⟩
end
end Go.Proofs.YteimplkdcjapdaaGreatDoor
