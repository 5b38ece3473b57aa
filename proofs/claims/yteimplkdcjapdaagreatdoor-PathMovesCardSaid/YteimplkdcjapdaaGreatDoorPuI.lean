/-
  Merged: ExDec, ExRead, ExRef, ExLaw, ExA.
-/
import Derived.WalkKit
import Derived.Lib.ItoaNum
import Derived.Lib.ParseIntB
import Derived.Test.YteimplkdcjapdaaGreatDoorPuH
import Derived.Test.YteimplkdcjapdaaGreatDoorPuG
import Derived.Test.YteimplkdcjapdaaGreatDoorPuC
set_option linter.unusedSimpArgs false
set_option linter.unusedVariables false
namespace Go.Proofs.YteimplkdcjapdaaGreatDoor
def db (d:Nat):UInt8:=UInt8.ofNat (48+d)
def AllD (l:List UInt8):Prop:=∀b∈l,48≤b.toNat∧b.toNat≤57
instance (l:List UInt8):Decidable (AllD l):=inferInstanceAs (Decidable (∀b∈l,48≤b.toNat∧b.toNat≤57))
end Go.Proofs.YteimplkdcjapdaaGreatDoor
namespace Go.Proofs.YteimplkdcjapdaaGreatDoor
end Go.Proofs.YteimplkdcjapdaaGreatDoor
namespace Go.Proofs.YteimplkdcjapdaaGreatDoor
def modX (n m:Int):Int:=if m<1 then 0 else (IntKind.i64.wrap (n.tmod m+m)).tmod m
def drawX (l:List Int) (n:Int):Int×List Int:=match l with
 | []=>(0,[])
 | x::r=>(modX x n,r)
theorem zql {n m:Int} (h:0<m) (h2:m≤1000):0≤modX n m∧modX n m<m:=by
 unfold modX
 rw [if_neg (by omega)]
 have a1:=Int.tmod_lt_of_pos n h
 have a2:=Int.lt_tmod_of_pos n h
 have hw:∀x:Int,IntKind.i64.wrap x=(x+9223372036854775808)%18446744073709551616 - 9223372036854775808:=fun x=>IntKind.wrap_i64 x
 have e:IntKind.i64.wrap (n.tmod m+m)=n.tmod m+m:=by rw [hw];omega
 rw [e,Int.tmod_eq_emod_of_nonneg (by omega)]
 exact ⟨Int.emod_nonneg _ (by omega),Int.emod_lt_of_pos _ h⟩
theorem zH {l:List Int} {m:Int} (h:0<m) (h2:m≤1000):0≤(drawX l m).1∧(drawX l m).1<m:=by
 cases l with
 | nil=>exact ⟨Int.le_refl _,h⟩
 | cons x r=>exact zql h h2
end Go.Proofs.YteimplkdcjapdaaGreatDoor
namespace Go.Proofs.YteimplkdcjapdaaGreatDoor
def evalE (e:Xp) (args:List Int):Int×Int:=if z6 e args.length≠0 then (0,z6 e args.length) else match evalX args e with
 | some v=>(v,0)
 | none=>(0,3)
theorem zX {n v:Int} (h:valO n=some v):v=n∧valB v=true:=by
 unfold valO at h
 split at h
 ·rename_i hv;injection h with h;subst h;exact ⟨rfl,hv⟩
 ·cases h
theorem zc2 (args:List Int) (n:Int) (l:List Xp):evalX args (.mk 1 n l)=valO n:=by rw [evalX,if_pos rfl]
theorem zc1 (args:List Int) (n:Int) (l:List Xp):evalX args (.mk 2 n l)=valO (args.getD n.toNat 0):=by rw [evalX,if_neg (by decide),if_pos rfl]
theorem zcH (args:List Int) {o:Int} (h:3≤o) (n:Int) (a b:Xp):evalX args (.mk o n [a,b])=match evalX args a,evalX args b with
  | some x,some y=>valO (operX o x y)
  | _,_=>none:=by
 rw [evalX,if_neg (by omega),if_neg (by omega),evalL,evalL,evalL]
 cases evalX args a with
 | none=>rfl
 | some x =>
  cases evalX args b with
  | none=>rfl
  | some y=>rfl
theorem zkV {args:List Int} {k:Int}:∀{e:Xp},Vx k e→∀v,evalX args e=some v→valB v=true:=by
 intro e h
 cases h with
 | num h=>intro v hv;rw [zc2] at hv;exact (zX hv).2
 | arg h0 h1=>intro v hv;rw [zc1] at hv;exact (zX hv).2
 | op h0 h1 ha hb =>
  intro v hv
  rw [zcH args h0] at hv
  split at hv
  ·exact (zX hv).2
  ·cases hv
end Go.Proofs.YteimplkdcjapdaaGreatDoor
namespace Go.Proofs.YteimplkdcjapdaaGreatDoor
open Go.RowKit
mutual
def cE:Xp→List Pred
 | .mk o n l=>[pI o,pI n,pL l.length (cEs l)]
def cEs:List Xp→List Pred
 | []=>[]
 | x::r=>cE x++cEs r
end
theorem zoT:∀l:List Xp,cEs l=l.flatMap cE
 | []=>by rw [cEs];rfl
 | x::r=>by rw [cEs,zoT r];rfl
theorem cE_eq (e:Xp):cE e=[pI e.op,pI e.n,pLs cE e.l]:=by
 cases e with
 | mk o n l=>rw [cE,zoT];rfl
theorem qu (e:Xp):(cE e).length=3:=by rw [cE_eq];rfl
section
variable {K:Kit}
mutual
theorem zz (hK:K.bad .i64=false):∀e:Xp,FineAll K (cE e)
 | .mk o n l=>by
  rw [cE]
  exact ⟨zb (by simp [Kit.ck,ckf,hK]),zb (by simp [Kit.ck,ckf,hK]),zpc (ziD hK l),trivial⟩
theorem ziD (hK:K.bad .i64=false):∀l:List Xp,FineAll K (cEs l)
 | []=>by rw [cEs];trivial
 | x::r=>by rw [cEs];exact (zz hK x).append (ziD hK r)
end
end
theorem zfR {x:Xp}:∀{l:List Xp},x∈l→nodes x≤zbd l
 | [],h=>by cases h
 | y::r,h=>by
  rw [zbd]
  rcases List.mem_cons.1 h with rfl | h
  ·omega
  ·have:=zfR h;omega
def kIc (x:Int):List SV:=[sI x]
instance {w0:World} {x:Int}:FiL (KN w0) (kIc x):=inferInstanceAs (FiL (KN w0) [_])
instance {w0:World} {xs:List Int}:Fi (KN w0) (.ls 1 cI kIc xs):=fi_ls (fun _=>rfl) (fun _=>inferInstance) (fun _=>rfl)
instance {w0:World} {xs:List Int}:FiP (KN w0) (pG cI xs):=⟨qc (zR)⟩
def kBy (x:UInt8):List SV:=[.v (.int .u8 (x.toNat:Int))]
instance {w0:World} {x:UInt8}:FiL (KN w0) (kBy x):=inferInstanceAs (FiL (KN w0) [_])
instance {w0:World} {xs:List UInt8}:Fi (KN w0) (.ls 1 cB kBy xs):=fi_ls (fun _=>rfl) (fun _=>inferInstance) (fun _=>rfl)
instance {w0:World} {xs:List UInt8}:FiP (KN w0) (pG cB xs):=⟨qc (zp9 rfl)⟩
instance {w0:World} {x:List Xp}:Fi (KN w0) (.q (pLs cE x)):=⟨by rw [SV.fine];exact zx (zz rfl)⟩
def kE (x:Xp):List SV:=[sI x.op,sI x.n,.q (pLs cE x.l)]
instance {w0:World} {x:Xp}:FiL (KN w0) (kE x):=inferInstanceAs (FiL (KN w0) [_,_,_])
instance {w0:World} {xs:List Xp}:Fi (KN w0) (.ls 3 cE kE xs):=fi_ls (fun _=>rfl) (fun _=>inferInstance) (fun a=>(cE_eq a).symm)
instance {w0:World} {xs:List Xp}:FiP (KN w0) (pG cE xs):=⟨qc (zz rfl)⟩
end Go.Proofs.YteimplkdcjapdaaGreatDoor
