/-
  Merged: ExK.
-/
import Derived.Test.YtdkofaajcpcjkaaGreatDoorMTF
import Derived.Test.YtdkofaajcpcjkaaGreatDoorProg
set_option linter.unusedSimpArgs false
set_option linter.unusedVariables false
namespace Go.Proofs.YtdkofaajcpcjkaaGreatDoor
open Go.RowKit
def KN (w0:World):Kit:=⟨fun _=>true,fun _=>false,w0⟩
theorem mixed:Tryz.prog.follows .mixedOrders=true:=by kernel_rfl
theorem wri {n:Int} (h:-9223372036854775808≤n∧n<9223372036854775808):IntKind.i64.wrap n=n:=by rw [IntKind.wrap_i64];omega
def cI (x:Int):List Pred:=[pI x]
theorem zt {w0:World} (x:Int):FineAll (KN w0) (cI x):=⟨za,trivial⟩
def bI (x:Int):UInt8:=UInt8.ofNat x.toNat
def PImps:List Pred→List Pred→Prop
 | [],[]=>True
 | p::ps,q::qs=>(∀v W D,p v W D→q v W D)∧PImps ps qs
 | _,_=>False
theorem pimps {p q:Pred} {ps qs:List Pred} (h:∀v W D,p v W D→q v W D) (t:PImps ps qs):PImps (p::ps) (q::qs):=⟨h,t⟩
theorem qo:PImps [] []:=trivial
section
variable {K:Kit} {P:Program} {F:Fact} {W:World} {D:Dat}
theorem zhO:∀{ps qs:List Pred} {vs:List Value},PImps ps qs→okl ps vs W D→okl qs vs W D
 | [],[],[],_,_=>trivial
 | _::_,_::_,_::_,h,h2=>⟨h.1 _ _ _ h2.1,zhO h.2 h2.2⟩
 | [],_::_,_,h,_=>h.elim
 | _::_,[],_,h,_=>h.elim
 | [],[],_::_,_,h=>h.elim
 | _::_,_::_,[],_,h=>h.elim
theorem zhP:∀{ps:List Pred} {vs:List Value},okl ps vs W D→vs.length=ps.length
 | [],[],_=>rfl
 | _::_,_::_,h=>congrArg (·+1) (zhP h.2)
 | [],_::_,h=>h.elim
 | _::_,[],h=>h.elim
theorem e_dat {α:Type} {c:α→List Pred} {E:TypeId} {len n:Nat} {ls:List Lf} {l:List α} {ps qs:List Pred} (hn:F.c n=pLs c l) (hp:ls.map (Lf.pr F)=ps) (hlow:ls.all (Lf.low [])=true) (hqs:l.flatMap c=qs) (hq:PImps ps qs) (hl:l.length=len):(Ent.dat E len ls n).sound K P F:=by
 intro β W q vs hv hh hD
 rw [hn]
 have h1:=(zcz hlow).1 hv
 rw [hp] at h1
 have h2:=zhO hq h1
 have h3:=zhP h2
 refine .inr ⟨q,0,len,E,vs.toArray,(0,0),by rw [hl],hD,hh,?_,Nat.le_of_eq hl⟩
 show okl _ ((vs.toArray.toList.drop 0).take _) W β.D
 rw [hqs,List.drop_zero,List.take_of_length_le (by simp;omega)]
 exact h2
end
end Go.Proofs.YtdkofaajcpcjkaaGreatDoor
