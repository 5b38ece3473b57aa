/-
  Merged: SymZ.
-/
import Derived.Test.YtdkofaajcpcjkaaGreatDoorMTD
import Derived.Laws.IdiomStrings
import Derived.Laws.BytesArg
set_option linter.unusedSimpArgs false
set_option linter.unusedVariables false
namespace Go.Proofs.YtdkofaajcpcjkaaGreatDoor
open Go.RowKit
def cB (x:UInt8):List Pred:=[pV (.int .u8 (x.toNat:Int))]
section
variable {K:Kit} {P:Program} {F:Fact}
theorem zfz {W:World} {D:Dat}:∀{l:List UInt8} {vs:List Value},okl (l.flatMap cB) vs W D→vs=l.map fun b=>Value.int .u8 (b.toNat:Int)
 | [],[],_=>rfl
 | b::l,v::vs,h=>by
  rw [List.flatMap_cons] at h
  obtain ⟨h1,h2⟩:=h
  have e:v=.int .u8 (b.toNat:Int):=h1
  rw [e,zfz h2];rfl
 | [],_::_,h=>h.elim
 | _::_,[],h=>h.elim
theorem zgj {W:World} {q:Nat} {us:Array Value} {T:TypeId} {fz:Nat×Nat} {l:List UInt8} (hh:W.heap[q]?=some (.cells us T fz)) (h:us.toList.take l.length=l.map fun b=>Value.int .u8 (b.toNat:Int)):∀j (hj:j<l.length),W.cell? ((⟨q,0,none⟩:Addr).add j)=some (.int .u8 (l[j].toNat:Int)):=by
 intro j hj
 rw [show (⟨q,0,none⟩:Addr).add j=⟨q,0+j,none⟩ from zan ..,Nat.zero_add,qz hh]
 have h1:(us.toList.take l.length)[j]?=some (.int .u8 (l[j].toNat:Int)):=by rw [h];simp [hj]
 rw [List.getElem?_take_of_lt hj] at h1
 simpa using h1
theorem zm7 {S T E:TypeId} {b k c:Nat} {ls:List Lf} {ps:List Pred} {l:List UInt8} {o:Lf} (hS:P.underlying S=some (.slice E)) (hE:P.underlying E=some (.int .u8)) (hT:P.underlying T=some .string) (hp:ls.map (Lf.pr F)=ps) (hps:∀vs W D,okl ps vs W D→okl (l.flatMap cB) vs W D) (hlow:ls.all (Lf.low [])=true) (hk:l.length=k) (ho:Gives F o (.string ⟨l.toArray⟩)) :
  Ent.sound K P F (.op (.cv S T) [LF (.s b 0 k c)] [.bx b E ls] (LF o)):=by
 subst hk
 intro β W vs hs hpre _
 match vs,hs with
 | [v],⟨⟨q,hq,e⟩,_⟩ =>
  subst e
  obtain ⟨q',us,hq',hh,hoks,_,_,_⟩:=hpre _ (List.mem_cons_self ..)
  have e:q'=q:=Option.some.inj (hq'.symm.trans hq)
  subst e
  have h1:=hps _ W β.D (by rw [← hp];exact (zcz hlow).1 hoks)
  have h2:=zfz h1
  refine ⟨.string ⟨l.toArray⟩,?_,(ho β _ W).2 rfl⟩
  show (convert S T _).run P W=_
  exact run_convert_bytes_back W S T E ⟨q',0,none⟩ c l hS hE hT (zgj hh (by rw [h2,List.take_of_length_le (by simp)]))
 | [],h=>exact h.elim
 | _::_::_,h=>exact h.2.elim
end
end Go.Proofs.YtdkofaajcpcjkaaGreatDoor
