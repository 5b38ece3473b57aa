/-
  Merged: Lift.
-/
import Derived.Test.YteimplkdcjapdaaGreatDoorRows
import Derived.ProofKit
import Derived.SizedLaws
import Derived.Below
import Derived.ChangeSame
set_option linter.unusedSimpArgs false
set_option linter.unusedVariables false
namespace Go.Proofs.YteimplkdcjapdaaGreatDoor
open Go.ChangeShapes Go.WideShapes Go.ChangeAt Go.RowKit
theorem Tryz.own:ownKnob Tryz.prog.godebug=none:=by kernel_rfl
theorem Tryz.laidOut:laidOutB Tryz.prog=true:=by kernel_rfl
section
variable {H:Type} {enc:TypeId×Value→H} {P:Program}
theorem zcb (hl:laidOutB P=true) {W W':World} {sp:Nat→Bool}:∀{ts:List TypeId} {vs:List Value} {ds:List (DataW H)} {ps:List MemPlace},
  (∀t∈ts,P.readableRec t=true∧t<P.types.size)→DataW.TrodAll enc P W 0 (fun _=>true) true ts vs ds ps→(∀p∈ps,W.sameAt W' p)→(∀p∈ps,sp p.block=true) →
  DataW.TrodAll enc P W' 0 sp true ts vs ds ps
 | [],[],[],_,_,h,_,_=>h
 | t::ts,v::vs,d::ds,ps,hr,h,hs,hp=>by
  obtain ⟨p,q,h1,h2,rfl⟩:=h
  have ht:=hr t (by simp)
  exact ⟨p,q,WideElems.Trod_stays hl ht.1 ht.2 h1 (fun x hx=>hs x (by simp [hx])) (fun x hx=>hp x (by simp [hx])),
   zcb hl (fun t' ht'=>hr t' (by simp [ht'])) h2 (fun x hx=>hs x (by simp [hx])) (fun x hx=>hp x (by simp [hx])),rfl⟩
 | [],[],_::_,_,_,h,_,_=>False.elim h
 | [],_::_,_,_,_,h,_,_=>False.elim h
 | _::_,[],_,_,_,h,_,_=>False.elim h
 | _::_,_::_,[],_,_,h,_,_=>False.elim h
theorem zbi {W:World} {base:Nat} {sp:Nat→Bool} {hd:Bool}:∀{ts:List TypeId} {vs:List Value} {ds:List (DataW H)} {ps:List MemPlace},
  DataW.TrodAll enc P W base sp hd ts vs ds ps→ds.length=ts.length
 | [],[],[],_,_=>rfl
 | _::ts,_::vs,_::ds,_,h=>by
  obtain ⟨p,q,_,h2,_⟩:=h
  simp [zbi h2]
 | [],[],_::_,_,h=>False.elim h
 | [],_::_,_,_,h=>False.elim h
 | _::_,[],_,_,h=>False.elim h
 | _::_,_::_,[],_,h=>False.elim h
theorem zhk {f:Func} {s:ChangeSpec} {apart fresh handsOn:Bool} {W W':World} {args:Array Value} {ds gs:List (DataW H)} {before:List MemPlace}
  (hvars:s.vars=[]) (hl:laidOutB P=true) (hr:∀t∈f.params.toList,P.readableRec t=true∧t<P.types.size)
  (t1:TypeId) (hrt:f.resultTypes=#[t1]) (ht1:P.underlying t1=some .bool)
  (hfn:∀d:List (DataW H),d.length=f.params.toList.length→s.fn H (d++[])={ results:=[.lit (.bool true)],args:=d })
  (hW:DataW.Whole enc P f.params.toList s.vars apart W args.toList ds gs before) (hb:Below W.heap.size W W') :
  s.post enc P f apart fresh handsOn false W args (.bool true) W':=by
 have hW':=hW
 obtain ⟨p,q,hA,hV,rfl,hz,hn⟩:=hW
 rw [hvars] at hV
 match gs,hV with
 | [],hV =>
 have hq:q=[]:=hV
 subst hq
 have hlt:∀x∈p,x.block<W.heap.size:=fun x hx=>by simpa using hW'.lt x (by simp [hx])
 have hf:=hfn ds (zbi hA)
 refine ⟨ds,[],p++[],[],p,[],hW',?_,?_,?_,hb.frame _,fun h=>by cases h⟩
 ·rw [hf,hrt]
  exact trodAll_mk1 (shut_bool ht1 _)
 ·rw [hf]
  exact zcb hl hr hA (fun x hx=>hb.same (hlt x hx)) (fun x hx=>by simpa using hlt x hx)
 ·rw [hf,hvars]
  exact rfl
end
end Go.Proofs.YteimplkdcjapdaaGreatDoor
