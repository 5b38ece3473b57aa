/-
  Merged: ExK, TrK.
-/
import Derived.Test.YteimplkdcjapdaaGreatDoorPuF
import Derived.Test.YteimplkdcjapdaaGreatDoorProg
set_option linter.unusedSimpArgs false
set_option linter.unusedVariables false
namespace Go.Proofs.YteimplkdcjapdaaGreatDoor
open Go.RowKit
def KN (w0:World):Kit:=⟨fun _=>true,fun _=>false,w0⟩
theorem Fun.fin {K:Kit} {P:Program} {f:Nat} {az:List PSh} {r r2:PSh} (h:Fun K P f az r) (hr:∀v W D,r.ok v W D→r2.ok v W D):Fun K P f az r2:=Fun.imp h (fun _ _ _ h=>h) hr
theorem BFun.fin {K:Kit} {P:Program} {f:Nat} {pan:Bool} {az:List ASh} {pre post:List (TypeId×List ALf)} {r r2:ASh} (h:BFun pan K P f az pre r post) (hr:∀qs v W D,r.ok qs v W D→r2.ok qs v W D):BFun pan K P f az pre r2 post:=BFun.imp h hr (fun _ _ _ h=>h)
theorem mixed:Tryz.prog.follows .mixedOrders=true:=by kernel_rfl
theorem wri {n:Int} (h:-9223372036854775808≤n∧n<9223372036854775808):IntKind.i64.wrap n=n:=by rw [IntKind.wrap_i64];omega
def cI (x:Int):List Pred:=[pI x]
theorem zR {w0:World} (x:Int):FineAll (KN w0) (cI x):=⟨zb,trivial⟩
def PImps:List Pred→List Pred→Prop
 | [],[]=>True
 | p::ps,q::qs=>(∀v W D,p v W D→q v W D)∧PImps ps qs
 | _,_=>False
theorem pimps {p q:Pred} {ps qs:List Pred} (h:∀v W D,p v W D→q v W D) (t:PImps ps qs):PImps (p::ps) (q::qs):=⟨h,t⟩
theorem ze:PImps [] []:=trivial
section
variable {K:Kit} {P:Program} {F:Fact} {W:World} {D:Dat}
theorem zeS:∀{ps qs:List Pred} {vs:List Value},PImps ps qs→okl ps vs W D→okl qs vs W D
 | [],[],[],_,_=>trivial
 | _::_,_::_,_::_,h,h2=>⟨h.1 _ _ _ h2.1,zeS h.2 h2.2⟩
 | [],_::_,_,h,_=>h.elim
 | _::_,[],_,h,_=>h.elim
 | [],[],_::_,_,h=>h.elim
 | _::_,_::_,[],_,h=>h.elim
theorem zeT:∀{ps:List Pred} {vs:List Value},okl ps vs W D→vs.length=ps.length
 | [],[],_=>rfl
 | _::_,_::_,h=>congrArg (·+1) (zeT h.2)
 | [],_::_,h=>h.elim
 | _::_,[],h=>h.elim
theorem e_dat {α:Type} {c:α→List Pred} {E:TypeId} {len n:Nat} {ls:List Lf} {l:List α} {ps qs:List Pred} (hn:F.c n=pLs c l) (hp:ls.map (Lf.pr F)=ps) (hlow:ls.all (Lf.low [])=true) (hqs:l.flatMap c=qs) (hq:PImps ps qs) (hl:l.length=len):(Ent.dat E len ls n).sound K P F:=by
 intro β W q vs hv hh hD
 rw [hn]
 have h1:=(zbt hlow).1 hv
 rw [hp] at h1
 have h2:=zeS hq h1
 have h3:=zeT h2
 refine .inr ⟨q,0,len,E,vs.toArray,(0,0),by rw [hl],hD,hh,?_,Nat.le_of_eq hl⟩
 show okl _ ((vs.toArray.toList.drop 0).take _) W β.D
 rw [hqs,List.drop_zero,List.take_of_length_le (by simp;omega)]
 exact h2
end
abbrev sI (x:Int):SV:=.v (.int .i64 x)
abbrev sB (x:Bool):SV:=.v (.bool x)
abbrev sS (x:List UInt8):SV:=.v (.string ⟨x.toArray⟩)
instance {n:Nat}:OfNat Lf n:=⟨.h n⟩
instance {n:Nat}:OfNat Cm n:=⟨.c (.h n)⟩
instance {n:Nat}:OfNat Sh n:=⟨.o (.c (.h n))⟩
abbrev kI (x:Int):Lf:=.k (.int .i64 x)
abbrev kB (x:Bool):Lf:=.k (.bool x)
section
variable {w0:World}
instance {k:IntKind} {x:Int}:Fi (KN w0) (.v (.int k x)):=⟨by rw [SV.fine];rfl⟩
instance {x:Bool}:Fi (KN w0) (.v (.bool x)):=⟨by rw [SV.fine];rfl⟩
instance {x:ByteArray}:Fi (KN w0) (.v (.string x)):=⟨by rw [SV.fine];rfl⟩
instance {b:Option Addr} {n c:Nat}:Fi (KN w0) (.v (.slice b n c)):=⟨by rw [SV.fine];rfl⟩
instance {T:TypeId} {x:Value}:Fi (KN w0) (.v (.iface T x)):=⟨by rw [SV.fine];rfl⟩
theorem fi_ls {α:Type} {z:Nat} {d:α→List Pred} {c:α→List SV} {xs:List α} (h:∀a,(c a).length=z) (h2:∀a,FiL (KN w0) (c a)) (h3:∀a,SV.prs (c a)=d a):Fi (KN w0) (.ls z d c xs):=⟨by rw [SV.fine];exact fun a=>⟨h a,(h2 a).h,h3 a⟩⟩
end
theorem ai {a b:Prop} (h:a) (h2:b):a∧b:=⟨h,h2⟩
theorem cx {K:Kit} {P:Program} {g:FuncId} {az:List SSh} {sk:SK} {k:SSh→Prop} (r:SSh) [hf:FiS K r] (h:Fun K P g (az.map SSh.psh) r.psh) (hs:r.sk=sk) (hk:k r):∃r:SSh,SFun K P g az r∧r.sk=sk∧k r:=⟨r,⟨hf.h,h⟩,hs,hk⟩
theorem rx {K:Kit} {n:Nat} {p q:List SV→List LPred→List OPred→Prop} (l:List SV) (g:List LPred) (o:List OPred) [a:FiL K l] [b:FiG K g] [c:FiO K o] (h:p l g o) (k:q l g o) (e:l.length=n:=by rfl):∃l g o,(l.length=n∧SV.fines K l∧zS K g∧zC K o)∧p l g o∧q l g o:=⟨l,g,o,⟨e,a.h,b.h,c.h⟩,h,k⟩
def hZ (k:Nat) (l:List Lf):List Lf:=(List.range k).map .h++l
def drsG (ds:List Nat):Nat→List Atom→List Atom
 | _,[]=>[]
 | i,A::r=>match ds.contains i with
  | true=>drsG ds (i+1) r
  | false=>A::drsG ds (i+1) r
def drs (ds:List Nat) (l:List Atom):List Atom:=drsG ds 0 l
theorem tfn {Q:Prop} (w0:World) (f:FuncId) (m:FM) (E:Ev) [hf:FiE (KN w0) E] (t:Tr) (hok:TrOk Tryz.prog (fnOk (KN w0) Tryz.prog f m) t ⟨[],[],[],E.n⟩=true) (hv:VC (KN w0) Tryz.prog f ⟨ntOf Tryz.prog f,names m.pre,zk m.pre⟩ (fnVc (KN w0) Tryz.prog f m Q) t E):Q:=tr_fn m E mixed t hok hv
theorem nxl {T:Type} {p q r:T→Prop} (t:T) (h:p t) (h2:q t) (h3:r t):∃t,p t∧q t∧r t:=⟨t,h,h2,h3⟩
end Go.Proofs.YteimplkdcjapdaaGreatDoor
