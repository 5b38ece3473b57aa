/-
  Merged: ExMath.
-/
import Derived.WalkKit
import Derived.Lib.ItoaNum
set_option linter.unusedSimpArgs false
set_option linter.unusedVariables false
namespace Go.Proofs.YteimplkdcjapdaaGreatDoor
inductive Xp where
 | mk (op n:Int) (l:List Xp)
def Xp.op:Xp→Int
 | .mk o _ _=>o
def Xp.n:Xp→Int
 | .mk _ n _=>n
def Xp.l:Xp→List Xp
 | .mk _ _ l=>l
mutual
def sizeX:Xp→Int→Int
 | .mk _ _ l,most=>sizeL l 1 most
def sizeL:List Xp→Int→Int→Int
 | [],n,_=>n
 | x::r,n,most=>if n > most then n else sizeL r (n+sizeX x (most - n)) most
end
mutual
def nodes:Xp→Nat
 | .mk _ _ l=>1+zbd l
def zbd:List Xp→Nat
 | []=>0
 | x::r=>nodes x+zbd r
end
mutual
def depth:Xp→Nat
 | .mk _ _ l=>zo6 l
def zo6:List Xp→Nat
 | []=>0
 | x::r=>max (depth x+1) (zo6 r)
end
def valB (n:Int):Bool:=decide (-1048576≤n) && decide (n≤1048576)
theorem zcc {n:Int}:valB n=true↔-1048576≤n∧n≤1048576:=by simp [valB]
def zj (o n:Int) (k:Nat) (args:Int):Int:=
 if o=1∨o=2 then (if 0<k then 4 else if o=1∧valB n=false then 3 else if o=2∧(n<0∨n ≥ min args 4) then 1 else 0)
 else if (3≤o∧o≤7)∧k=2∧n=0 then 0 else 4
mutual
def chkX:Xp→Int→Int
 | .mk o n l,args=>if zj o n l.length args≠0 then zj o n l.length args else chkL l args
def chkL:List Xp→Int→Int
 | [],_=>0
 | x::r,args=>if chkX x args≠0 then chkX x args else chkL r args
end
def z6 (e:Xp) (args:Int):Int:=if sizeX e 30 > 30 then 2 else chkX e args
def operX (o a b:Int):Int:=if o=3 then a+b else if o=4 then a - b else if o=5 then a*b else if o=6 then min a b else max a b
def valO (n:Int):Option Int:=if valB n=true then some n else none
mutual
def evalX (args:List Int):Xp→Option Int
 | .mk o n l=>if o=1 then valO n else if o=2 then valO (args.getD n.toNat 0) else match evalL args l with
  | some [a,b]=>valO (operX o a b)
  | _=>none
def evalL (args:List Int):List Xp→Option (List Int)
 | []=>some []
 | x::r=>match evalX args x with
  | none=>none
  | some v=>match evalL args r with
   | none=>none
   | some vs=>some (v::vs)
end
theorem zag (e:Xp):0<nodes e:=by
 cases e;rw [nodes];omega
mutual
theorem za5:∀(e:Xp) (most:Int),0≤most→(sizeX e most≤most→sizeX e most=nodes e)∧(most<sizeX e most→most<nodes e)∧1≤sizeX e most∧sizeX e most≤most+1
 | .mk o n l,most,h=>by
  have:=zed l 1 most (by omega) (by omega)
  rw [sizeX,nodes]
  refine ⟨fun h1=>?_,fun h1=>?_,this.2.2.1,by omega⟩
  ·have:=this.1 h1;omega
  ·have:=this.2.1 h1;omega
theorem zed:∀(l:List Xp) (n most:Int),0≤most→1≤n→(sizeL l n most≤most→sizeL l n most=n+zbd l)∧(most<sizeL l n most→most<n+zbd l)∧n≤sizeL l n most∧sizeL l n most≤max n (most+1)
 | [],n,most,h,h1=>by rw [sizeL,zbd];refine ⟨fun _=>by omega,fun _=>by omega,by omega,by omega⟩
 | x::r,n,most,h,h1=>by
  rw [sizeL,zbd]
  split
  ·refine ⟨fun _=>by omega,fun _=>by omega,by omega,by omega⟩
  ·rename_i hn
   have a:=za5 x (most - n) (by omega)
   have b:=zed r (n+sizeX x (most - n)) most h (by omega)
   have hp:=zag x
   refine ⟨fun h2=>?_,fun h2=>?_,by omega,by omega⟩
   ·have h3:=b.1 h2
    have h4:=a.1 (by omega)
    omega
   ·have h3:=b.2.1 h2
    by_cases h5:sizeX x (most - n)≤most - n
    ·have h4:=a.1 h5
     omega
    ·have h4:=a.2.1 (by omega)
     omega
end
theorem zsj (e:Xp):sizeX e 30 > 30↔30<nodes e:=by
 obtain ⟨h1,h2,h3,h4⟩:=za5 e 30 (by decide)
 constructor
 ·intro h;have:=h2 h;omega
 ·intro h
  by_cases h5:sizeX e 30≤30
  ·have:=h1 h5;omega
  ·omega
inductive Vx (args:Int):Xp→Prop where
 | num {n:Int} (h:valB n=true):Vx args (.mk 1 n [])
 | arg {n:Int} (h0:0≤n) (h1:n<min args 4):Vx args (.mk 2 n [])
 | op {o:Int} {a b:Xp} (h0:3≤o) (h1:o≤7) (ha:Vx args a) (hb:Vx args b):Vx args (.mk o 0 [a,b])
theorem zk7 {o args:Int} (h0:3≤o) (h1:o≤7):zj o 0 2 args=0:=by unfold zj;rw [if_neg (by omega),if_pos ⟨⟨h0,h1⟩,rfl,rfl⟩]
theorem zrE {args:Int}:∀{e:Xp},Vx args e→chkX e args=0:=by
 intro e h
 induction h with
 | num h=>rw [chkX,chkL,zj];simp [h]
 | arg h0 h1=>rw [chkX,chkL,zj];simp;omega
 | @op o a b h0 h1 ha hb iha ihb =>
  rw [chkX,chkL,chkL,chkL,iha,ihb,show [a,b].length=2 from rfl,zk7 h0 h1];simp
theorem zg0 {o n args:Int} {k:Nat} (h:zj o n k args=0):(o=1∧k=0∧valB n=true)∨(o=2∧k=0∧0≤n∧n<min args 4)∨(3≤o∧o≤7∧k=2∧n=0):=by
 unfold zj at h
 split at h
 ·rename_i ho
  split at h
  ·cases h
  ·rename_i hk
   split at h
   ·cases h
   ·rename_i hv
    split at h
    ·cases h
    ·rename_i ha
     rcases ho with rfl | rfl
     ·refine .inl ⟨rfl,by omega,?_⟩
      cases hb:valB n with
      | true=>rfl
      | false=>exact absurd ⟨rfl,hb⟩ hv
     ·refine .inr (.inl ⟨rfl,by omega,?_,?_⟩)
      ·by_cases h0:0≤n
       ·exact h0
       ·exact absurd ⟨rfl,.inl (by omega)⟩ ha
      ·by_cases h0:n<min args 4
       ·exact h0
       ·exact absurd ⟨rfl,.inr (by omega)⟩ ha
 ·split at h
  ·rename_i h2
   exact .inr (.inr ⟨h2.1.1,h2.1.2,h2.2.1,h2.2.2⟩)
  ·cases h
mutual
theorem zpW {args:Int}:∀e:Xp,chkX e args=0→Vx args e
 | .mk o n l,h=>by
  rw [chkX] at h
  split at h
  ·exact absurd h (by assumption)
  ·rename_i hf
   have hf:zj o n l.length args=0:=by simpa using hf
   have hl:=zmP l h
   rcases zg0 hf with ⟨rfl,hk,hv⟩ | ⟨rfl,hk,h0,h1⟩ | ⟨h0,h1,hk,rfl⟩
   ·have:l=[]:=List.eq_nil_of_length_eq_zero hk
    subst this;exact .num hv
   ·have:l=[]:=List.eq_nil_of_length_eq_zero hk
    subst this;exact .arg h0 h1
   ·match l,hk with
    | [a,b],_=>exact .op h0 h1 (hl a (by simp)) (hl b (by simp))
theorem zmP {args:Int}:∀l:List Xp,chkL l args=0→∀x∈l,Vx args x
 | [],_=>fun x hx=>by cases hx
 | y::r,h=>by
  rw [chkL] at h
  split at h
  ·exact absurd h (by assumption)
  ·rename_i hf
   have hf:chkX y args=0:=by simpa using hf
   have h1:=zpW y hf
   have h2:=zmP r h
   intro x hx
   rcases List.mem_cons.1 hx with rfl | hx
   ·exact h1
   ·exact h2 x hx
end
theorem zdT {e:Xp} {args:Int}:z6 e args=0↔nodes e≤30∧Vx args e:=by
 unfold z6
 have:=zsj e
 split
 ·rename_i h
  constructor
  ·intro h2;cases h2
  ·intro h2;have:=this.1 h;omega
 ·rename_i h
  constructor
  ·intro h2
   exact ⟨by have:=mt this.2 h;omega,zpW e h2⟩
  ·intro h2;exact zrE h2.2
theorem Vx.mono {a b:Int} (hab:a≤b):∀{e:Xp},Vx a e→Vx b e:=by
 intro e h
 induction h with
 | num h=>exact .num h
 | arg h0 h1=>exact .arg h0 (by omega)
 | op h0 h1 _ _ iha ihb=>exact .op h0 h1 iha ihb
end Go.Proofs.YteimplkdcjapdaaGreatDoor
