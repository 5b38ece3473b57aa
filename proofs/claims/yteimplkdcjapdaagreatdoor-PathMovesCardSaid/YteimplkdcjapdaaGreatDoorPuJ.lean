/-
  Merged: PtEq, PtSpec, ExB.
-/
import Derived.Test.YteimplkdcjapdaaGreatDoorPuI
import Derived.Test.YteimplkdcjapdaaGreatDoorPuG
import Derived.Laws.StructEq
set_option linter.unusedSimpArgs false
set_option linter.unusedVariables false
set_option maxRecDepth 100000
namespace Go.Proofs.YteimplkdcjapdaaGreatDoor
open Go.RowKit
abbrev Vec:=Int×Int×Int
abbrev Mov:=Int×Vec×Vec×Vec×Int
theorem zi9 {w:World} {cs:Array Value} {o:Nat} {v:Value} (h:cs[o]?=some v):(part 3 cs o).run Tryz.prog w=.ok v w:=by
 unfold part
 rw [Sem.run_bind,Tryz.isAgg3,Result.andThen_ok]
 simp [h]
theorem zc0 {w : World} {d : Nat} {xs ys : Array Value} {f : Field} {fs : List Field} {a b : Int} (hn : f.name ≠ "_") (ht : f.type = 3) (ha : xs[f.offset]? = some (.int .i64 a)) (hb : ys[f.offset]? = some (.int .i64 b)) :
  (Op.eqFields (d+1) xs ys (f::fs)).run Tryz.prog w=if a=b then (Op.eqFields (d+1) xs ys fs).run Tryz.prog w else .ok false w:=by
 rw [Op.eqFields]
 rw [if_pos hn,Sem.run_bind,ht,zi9 ha,Result.andThen_ok,Sem.run_bind,zi9 hb,Result.andThen_ok,Sem.run_bind,run_equalIn_int (P:=Tryz.prog) w d _ _ .i64 _ _ Tryz.underlying3,Result.andThen_ok]
 by_cases h:a=b
 ·subst h;simp
 ·simp [h]
def vcs (x:Vec):List Value:=[.int .i64 x.1,.int .i64 x.2.1,.int .i64 x.2.2]
def mcs (x:Mov):List Value:=[.int .i64 x.1,.int .i64 x.2.1.1,.int .i64 x.2.1.2.1,.int .i64 x.2.1.2.2,.int .i64 x.2.2.1.1,.int .i64 x.2.2.1.2.1,.int .i64 x.2.2.1.2.2,.int .i64 x.2.2.2.1.1,.int .i64 x.2.2.2.1.2.1,.int .i64 x.2.2.2.1.2.2,.int .i64 x.2.2.2.2]
theorem zo9 (d:Nat) (x y:Vec) (w:World):(Op.equalIn (d+2) 26 (.agg (vcs x).toArray) (.agg (vcs y).toArray)).run Tryz.prog w=.ok (decide (x=y)) w:=by
 have hf : (Tryz.prog.fieldsOf 26).toList = [⟨"X", 3, 0, false, "", "", 0⟩, ⟨"Y", 3, 1, false, "", "", 8⟩, ⟨"Z", 3, 2, false, "", "", 16⟩] := by kernel_rfl
 rw [run_equalIn_struct w (d+1) _ _ _ (by kernel_rfl) (by kernel_rfl),hf,zc0 (a:=x.1) (b:=y.1) (by decide) rfl rfl rfl,zc0 (a:=x.2.1) (b:=y.2.1) (by decide) rfl rfl rfl,zc0 (a:=x.2.2) (b:=y.2.2) (by decide) rfl rfl rfl]
 obtain ⟨a,b,c⟩:=x
 obtain ⟨a',b',c'⟩:=y
 simp only [Prod.mk.injEq]
 by_cases h1:a=a'<;>by_cases h2:b=b'<;>by_cases h3:c=c'<;>simp [h1,h2,h3,Op.eqFields]
theorem zja {w:World} {cs:Array Value} {o:Nat} {x:Vec} (h:cs.extract o (o+3)=(vcs x).toArray):(part 26 cs o).run Tryz.prog w=.ok (.agg (vcs x).toArray) w:=by
 unfold part
 rw [Sem.run_bind,Tryz.isAgg26,Result.andThen_ok]
 simp only [if_true]
 rw [Sem.run_bind,Tryz.sizeOf26,Result.andThen_ok,h]
 rfl
theorem zgV {w : World} {d : Nat} {xs ys : Array Value} {f : Field} {fs : List Field} {a b : Vec} (hn : f.name ≠ "_") (ht : f.type = 26) (ha : xs.extract f.offset (f.offset + 3) = (vcs a).toArray) (hb : ys.extract f.offset (f.offset + 3) = (vcs b).toArray) :
  (Op.eqFields (d+3) xs ys (f::fs)).run Tryz.prog w=if a=b then (Op.eqFields (d+3) xs ys fs).run Tryz.prog w else .ok false w:=by
 rw [Op.eqFields]
 rw [if_pos hn,Sem.run_bind,ht,zja ha,Result.andThen_ok,Sem.run_bind,zja hb,Result.andThen_ok,Sem.run_bind,zo9,Result.andThen_ok]
 by_cases h:a=b
 ·subst h;simp
 ·simp [h]
theorem zrK (d:Nat) (x y:Mov) (w:World):(Op.equalIn (d+4) 45 (.agg (mcs x).toArray) (.agg (mcs y).toArray)).run Tryz.prog w=.ok (decide (x=y)) w:=by
 have hf : (Tryz.prog.fieldsOf 45).toList = [⟨"Kind", 3, 0, false, "", "", 0⟩, ⟨"From", 26, 1, false, "", "", 8⟩, ⟨"To", 26, 4, false, "", "", 32⟩, ⟨"Corner", 26, 7, false, "", "", 56⟩, ⟨"Feed", 3, 10, false, "", "", 80⟩] := by kernel_rfl
 rw [run_equalIn_struct w (d+3) _ _ _ (by kernel_rfl) (by kernel_rfl),hf,zc0 (a:=x.1) (b:=y.1) (by decide) rfl rfl rfl,zgV (a:=x.2.1) (b:=y.2.1) (by decide) rfl rfl rfl,zgV (a:=x.2.2.1) (b:=y.2.2.1) (by decide) rfl rfl rfl,zgV (a:=x.2.2.2.1) (b:=y.2.2.2.1) (by decide) rfl rfl rfl,zc0 (a:=x.2.2.2.2) (b:=y.2.2.2.2) (by decide) rfl rfl rfl]
 obtain ⟨a,b,c,e,f⟩:=x
 obtain ⟨a',b',c',e',f'⟩:=y
 simp only [Prod.mk.injEq]
 by_cases h1:a=a'<;>by_cases h2:b=b'<;>by_cases h3:c=c'<;>by_cases h4:e=e'<;>by_cases h5:f=f'<;>simp [h1,h2,h3,h4,h5,Op.eqFields]
section
variable {K:Kit} {F:Fact}
theorem zkp {W:World} {β:Loc} {ls:List Lf} {us:List Value}:∀{vs:Array Value},(∀v,oks F β ls v W→v=us)→oks F β ls vs.toList W→vs=us.toArray:=by
 intro vs h ho
 exact Array.ext' (by simpa using h _ ho)
theorem e_eqG {T:TypeId} {ls ms:List Lf} {o:Lf} {us ts:List Value} {neg b:Bool} (hg:Tryz.prog.eqGuardType Tryz.prog.depth T=false) (hx:∀β v W,oks F β ls v W→v=us) (hy:∀β v W,oks F β ms v W→v=ts) (he:∀w,(Op.equalIn 10000 T (.agg us.toArray) (.agg ts.toArray)).run Tryz.prog w=.ok b w) (ho:Gives F o (.bool (if neg then !b else b))) :
  Ent.sound K Tryz.prog F (.bin (if neg then .neq else .eql) T (.o (.g ls)) (.o (.g ms)) (LF o)):=by
 intro β W vx vy h1 h2
 obtain ⟨xs,rfl,h1⟩:=h1
 obtain ⟨ys,rfl,h2⟩:=h2
 obtain rfl:=zkp (hx β · W) h1
 obtain rfl:=zkp (hy β · W) h2
 refine ⟨_,fun X Y=>?_,(ho β _ W).2 rfl⟩
 rw [Sem.run_bind,run_eqGuard_agg W _ _ _ _ _ _ hg,Result.andThen_ok]
 cases neg
 ·simp only [Bool.false_eq_true,if_false]
  rw [run_eql_struct,he,Result.andThen_ok]
 ·simp only [if_true]
  rw [run_neq_struct,he,Result.andThen_ok]
def giv (F:Fact):List Lf→List Value→Prop
 | [],[]=>True
 | l::ls,v::vs=>Gives F l v∧giv F ls vs
 | _,_=>False
theorem zck {β:Loc} {W:World}:∀{ls:List Lf} {us vs:List Value},giv F ls us→oks F β ls vs W→vs=us
 | [],[],[],_,_=>rfl
 | l::ls,u::us,v::vs,h,h2=>by rw [(h.1 β v W).1 h2.1,zck h.2 h2.2]
 | [],_::_,_,h,_=>h.elim
 | _::_,[],_,h,_=>h.elim
 | [],[],_::_,_,h2=>h2.elim
 | _::_,_::_,[],_,h2=>h2.elim
theorem e_eqV {ls ms:List Lf} {o:Lf} {x y:Vec} {neg:Bool} (hx:giv F ls (vcs x)) (hy:giv F ms (vcs y)) (ho:Gives F o (.bool (if neg then !decide (x=y) else decide (x=y)))):Ent.sound K Tryz.prog F (.bin (if neg then .neq else .eql) 26 (.o (.g ls)) (.o (.g ms)) (LF o)):=
 e_eqG (by kernel_rfl) (fun _ _ _ h=>zck hx h) (fun _ _ _ h=>zck hy h) (fun w=>zo9 9998 x y w) ho
theorem e_eqM {ls ms:List Lf} {o:Lf} {x y:Mov} {neg:Bool} (hx:giv F ls (mcs x)) (hy:giv F ms (mcs y)) (ho:Gives F o (.bool (if neg then !decide (x=y) else decide (x=y)))):Ent.sound K Tryz.prog F (.bin (if neg then .neq else .eql) 45 (.o (.g ls)) (.o (.g ms)) (LF o)):=
 e_eqG (by kernel_rfl) (fun _ _ _ h=>zck hx h) (fun _ _ _ h=>zck hy h) (fun w=>zrK 9996 x y w) ho
end
def cV (x:Vec):List Pred:=[pI x.1,pI x.2.1,pI x.2.2]
theorem qy {w0:World} (x:Vec):FineAll (KN w0) (cV x):=⟨zb,zb,zb,trivial⟩
def cM (x:Mov):List Pred:=[pI x.1,pI x.2.1.1,pI x.2.1.2.1,pI x.2.1.2.2,pI x.2.2.1.1,pI x.2.2.1.2.1,pI x.2.2.1.2.2,pI x.2.2.2.1.1,pI x.2.2.2.1.2.1,pI x.2.2.2.1.2.2,pI x.2.2.2.2]
theorem qK {w0:World} (x:Mov):FineAll (KN w0) (cM x):=⟨zb,zb,zb,zb,zb,zb,zb,zb,zb,zb,zb,trivial⟩
def kV (x:Vec):List SV:=[sI x.1,sI x.2.1,sI x.2.2]
instance {w0:World} {x:Vec}:FiL (KN w0) (kV x):=inferInstanceAs (FiL (KN w0) [_,_,_])
instance {w0:World} {xs:List Vec}:Fi (KN w0) (.ls 3 cV kV xs):=fi_ls (fun _=>rfl) (fun _=>inferInstance) (fun _=>rfl)
instance {w0:World} {xs:List Vec}:FiP (KN w0) (pG cV xs):=⟨qc (qy)⟩
def kM (x:Mov):List SV:=[sI x.1,sI x.2.1.1,sI x.2.1.2.1,sI x.2.1.2.2,sI x.2.2.1.1,sI x.2.2.1.2.1,sI x.2.2.1.2.2,sI x.2.2.2.1.1,sI x.2.2.2.1.2.1,sI x.2.2.2.1.2.2,sI x.2.2.2.2]
instance {w0:World} {x:Mov}:FiL (KN w0) (kM x):=inferInstanceAs (FiL (KN w0) [_,_,_,_,_,_,_,_,_,_,_])
instance {w0:World} {xs:List Mov}:Fi (KN w0) (.ls 11 cM kM xs):=fi_ls (fun _=>rfl) (fun _=>inferInstance) (fun _=>rfl)
instance {w0:World} {xs:List Mov}:FiP (KN w0) (pG cM xs):=⟨qc (qK)⟩
abbrev wI (n:Int):Int:=IntKind.i64.wrap n
def addV (a b:Vec):Vec:=(wI (a.1+b.1),wI (a.2.1+b.2.1),wI (a.2.2+b.2.2))
def subV (a b:Vec):Vec:=(wI (a.1 - b.1),wI (a.2.1 - b.2.1),wI (a.2.2 - b.2.2))
def dotV (a b:Vec):Int:=wI (wI (wI (a.1*b.1)+wI (a.2.1*b.2.1))+wI (a.2.2*b.2.2))
def inC (n:Int):Bool:=decide (-24≤n) && decide (n≤24)
def inV (v:Vec):Bool:=inC v.1 && (inC v.2.1 && inC v.2.2)
theorem zqf {n:Int}:inC n=true↔-24≤n∧n≤24:=by simp [inC]
theorem zeD {v:Vec}:inV v=true↔(-24≤v.1∧v.1≤24)∧(-24≤v.2.1∧v.2.1≤24)∧(-24≤v.2.2∧v.2.2≤24):=by simp [inV,zqf]
def divL:Nat→List Int→Int
 | g,[]=>g
 | g,n::r=>if n=-9223372036854775808 then 0 else divL (g.gcd n.natAbs) r
def primV (v:Vec):Vec×Int:=if divL 0 [v.1,v.2.1,v.2.2]=0 then ((0,0,0),0) else ((wI (v.1.tdiv (divL 0 [v.1,v.2.1,v.2.2])),wI (v.2.1.tdiv (divL 0 [v.1,v.2.1,v.2.2])),wI (v.2.2.tdiv (divL 0 [v.1,v.2.1,v.2.2]))),divL 0 [v.1,v.2.1,v.2.2])
theorem zcX:∀(l:List Int) (g:Nat),0≤divL g l
 | [],g=>Int.natCast_nonneg g
 | n::r,g=>by
  unfold divL
  split
  ·exact Int.le_refl 0
  ·exact zcX r _
def okV (v:Vec):Prop:=(-9223372036854775808≤v.1∧v.1<9223372036854775808)∧(-9223372036854775808≤v.2.1∧v.2.1<9223372036854775808)∧(-9223372036854775808≤v.2.2∧v.2.2<9223372036854775808)
def plusV (a b:Vec) (n:Int):Vec:=addV a (wI (n*b.1),wI (n*b.2.1),wI (n*b.2.2))
def fitS (m:Mov):Bool:=!decide (m.2.1=m.2.2.1) && decide (m.2.2.2.1=(0,0,0))
def unitV (v:Vec):Bool:=dotV v v == 1
def sideA (m:Mov):Vec×Int:=primV (subV m.2.2.2.1 m.2.2.1)
def sideB (m:Mov):Vec×Int:=primV (subV m.2.2.2.1 m.2.1)
def fitA (m:Mov):Bool:=unitV (sideA m).1 && (unitV (sideB m).1 && ((sideA m).2 == (sideB m).2 && dotV (sideA m).1 (sideB m).1 == 0))
def strM (m:Mov):Bool:=m.1 == 1 || m.1 == 2
def lowM (m:Mov):Int:=if m.1=1 then 0 else 1
def highM (m:Mov):Int:=if m.1=1 then 0 else 100
def chkM (m:Mov):Int:=
 if strM m then (if inV m.2.1 && (inV m.2.2.1 && (inV m.2.2.2.1 && (decide (lowM m≤m.2.2.2.2) && decide (m.2.2.2.2≤highM m)))) then (if fitS m then 0 else 16) else 3)
 else if m.1=3 then (if inV m.2.1 && (inV m.2.2.1 && (inV m.2.2.2.1 && (decide (1≤m.2.2.2.2) && decide (m.2.2.2.2≤100)))) then (if fitA m then 0 else 16) else 3)
 else 16
def lineP (a b:Vec) (n:Nat):List Vec:=(List.range (n+1)).map fun k:Nat=>plusV a b (k:Int)
def downI (r j:Nat):Nat→Nat
 | 0=>0
 | i+1=>if r<(i+1)*(i+1)+j*j then downI r j i else i+1
def arcG (c a b:Vec) (r:Nat):Nat→Nat→Nat→List Vec
 | 0,_,_=>[]
 | k+1,j,i=>(if downI (r*r) j i*downI (r*r) j i+j*j=r*r then [plusV (plusV c a (downI (r*r) j i)) b j] else [])++arcG c a b r k (j+1) (downI (r*r) j i)
def ptsM (m:Mov):List Vec:=
 if m.1=3 then arcG (plusV m.2.1 (sideA m).1 (wI (0 - (sideA m).2))) (sideA m).1 (sideB m).1 (sideA m).2.toNat ((sideA m).2.toNat+1) 0 (sideA m).2.toNat
 else lineP m.2.1 (primV (subV m.2.2.1 m.2.1)).1 (primV (subV m.2.2.1 m.2.1)).2.toNat
def stepM (m:Mov):Int:=if chkM m=0 then ((ptsM m).length - 1:Nat) else 0
def ordL:Option Vec→List Mov→Int
 | _,[]=>0
 | p,m::r=>if chkM m≠0 then chkM m else if p.all (fun q=>decide (m.2.1=q)) then ordL (some m.2.2.1) r else 7
def chkP (l:List Mov):Int:=if l.length > 40 then 2 else ordL none l
def sumM:List Mov→Int
 | []=>0
 | m::r=>stepM m+sumM r
def zjl (l:List Mov):Int:=if chkP l=0 then sumM l else 0
def findL:Nat→List Mov→Int→Int×Int×Bool
 | _,[],_=>(0,0,false)
 | k,m::r,s=>if s≤stepM m then (k,s,true) else findL (k+1) r (s - stepM m)
def findP (l:List Mov) (s:Int):Int×Int×Bool:=if chkP l=0∧0≤s then findL 0 l s else (0,0,false)
def headV (a b:Vec):Vec:=if (subV b a).2.2=0∧((subV b a).1=0∨(subV b a).2.1=0) then (primV (subV b a)).1 else (0,0,0)
theorem zec {l:List Xp} {k:Nat} {x:Xp} (h:l[k]?=some x) (n m:Int):sizeL (l.drop k) n m=if n > m then n else sizeL (l.drop (k+1)) (n+sizeX x (m - n)) m:=by
 obtain ⟨hk,rfl⟩:=List.getElem?_eq_some_iff.1 h
 rw [List.drop_eq_getElem_cons hk,sizeL]
theorem zog (e:Xp) (m:Int):sizeX e m=sizeL e.l 1 m:=by cases e;rw [sizeX];rfl
theorem zbN {l:List Xp} {k:Nat} {x:Xp} (h:l[k]?=some x) (a:Int):chkL (l.drop k) a=if chkX x a≠0 then chkX x a else chkL (l.drop (k+1)) a:=by
 obtain ⟨hk,rfl⟩:=List.getElem?_eq_some_iff.1 h
 rw [List.drop_eq_getElem_cons hk,chkL]
theorem zlw {e x:Xp} (h:x∈e.l):nodes x+1≤nodes e:=by
 cases e with
 | mk o m l=>rw [nodes];have:=zfR (l:=l) h;omega
theorem zA {e x:Xp} {n N:Nat} (hN:nodes e≤N+1) (h:e.l[n]?=some x):nodes x≤N:=by
 have:=zlw (List.mem_of_getElem? h);omega
theorem qv (e:Xp):e.l.length<nodes e:=by
 have key:∀l:List Xp,l.length≤zbd l:=by
  intro l
  induction l with
  | nil=>exact Nat.zero_le _
  | cons x r ih=>rw [zbd,List.length_cons];have:=zag x;omega
 cases e with
 | mk o m l=>rw [nodes];have:=key l;exact Nat.lt_of_le_of_lt this (by omega)
theorem zqJ (e:Xp) {m:Int} (h:0≤m):1≤sizeX e m∧sizeX e m≤m+1:=⟨(za5 e m h).2.2.1,(za5 e m h).2.2.2⟩
def zdG (w0:World) (N:Nat):Prop:=∀(x:Xp) (m v:Int),sizeX x m=v→nodes x≤N→0≤m∧m≤1000→Fun (KN w0) Tryz.prog 130 [.o (.g [pI x.op,pI x.n,pLs cE x.l]),.o (.c (pI m))] (.o (.c (pI v)))
def zaW:List Atom:=[.sl 1 3,.sl 4 (.o (.c (.k (.int .i64 0)))),.sl 5 6,.sl 9 2,.sl 10 4,.sl 11 5,.bx 0 60 [.h 0,.h 1,.h 2]]
def zcy:LoopS:=⟨3,zaW.map (tnA (jf (hZ 5 [kI 0,kI 1])) (kf []) (kf [])),(.x 0),(drs [5] zaW).map (tnA (jf (hZ 6 [5])) (kf []) (kf []))⟩
def zkd:Tr:=.s [(5000,.bin .lss 3 5 4)] (.b 7 (.s [(5001,.ia 58 60 3 2 5),(5002,.ld 60 3 8),(5007,.bin .gtr 3 6 3)] (.b 12 (.z (.xt (.x 0) (hZ 5 [6]) [] [])) (.s [(5012,.bin .sub 3 3 6),(5013,.call 130 [.o (.g [9,10,11]),13] (.o .c)),(5014,.bin .add 3 6 14),(5016,.bin .add 3 5 (kI 1))] (.z (.nx (hZ 5 [16,15]) [] []))))) (.z (.xt (.x 0) (hZ 5 [6]) [] [])))
theorem zig {w0:World} (e:Xp) (most:Int) (N:Nat) (v1:Int) (IH:zdG w0 N) (o:Int) (hb:e.l.length<9223372036854775808) (hN:nodes e≤N+1) (hm:0≤most∧most≤1000) (hO:sizeL e.l 1 most=o) (hlen:(e.l.length:Int)=v1):LpH (KN w0) Tryz.prog 130 ⟨ntOf Tryz.prog 130,[],[]⟩ zcy 0 ⟨6,[sI o,sI v1,sI most,.ls 3 cE kE e.l,sI e.n,sI e.op],[],[]⟩:=by
 refine zi _ ⟨zaW,zcy,(7,0,0),(6,0,0),5000⟩ (T:=Int×Int) (fun t=>⟨7,[sI t.2,sI t.1,sI v1,sI most,.ls 3 cE kE e.l,sI e.n,sI e.op],[],[]⟩) (fun (i,n)=>∃k:Nat,i=(k:Int)∧k≤e.l.length∧1≤n∧n≤most+1∧sizeL (e.l.drop k) n most=o) (fun (i,n)=>((e.l.length:Int) - i).toNat) ((0:Int),(1:Int)) (hZ 5 [kI 0,kI 1]) [] [] zkd mixed ⟨0,rfl,Nat.zero_le _,by decide,by omega,by rw [List.drop_zero];exact hO⟩ rfl rfl rfl rfl (fun _=>rfl) rfl rfl (by kernel_rfl) ?_
 rintro ⟨i,n⟩ hJ
 dsimp only at hJ ⊢
 obtain ⟨k,hi,hk,hn1,hn2,hs⟩:=hJ
 intro v501 e501
 refine ai (fun h502=>?_) fun h502=>?_
 ·
  refine ai (by (have dh502:=LD e501 h502;have hz:=hlen;have hlt:k<e.l.length:=(by omega);exact ⟨k,_,hi,List.getElem?_eq_getElem hlt⟩)) fun n503 x504 s505 s506=>?_
  intro v507 e507
  refine ai (fun h508=>?_) fun h508=>?_
  ·
   have hq:((n)=o)∧True:=by
    refine ⟨?_,trivial⟩
    have dh502:=LD e501 h502;have dh508:=LD e507 h508;have hz:=hlen
    have hkn:n503=k:=by omega
    subst hkn
    have hd:=zec s506 n most
    rw [if_pos (by omega),hs] at hd
    exact hd.symm
   obtain ⟨q0,-⟩:=hq
   rw [← q0]
   rfl
  ·
   intro v509 e509
   obtain ⟨v510,e510⟩:=LX (sizeX x504 v509)
   have s511:nodes x504≤N:=by exact zA hN s506
   have s512:0≤v509∧v509≤1000:=by (have dh502:=LD e501 h502;have dh508:=LE e507 h508;have hz:=hlen;rw [← e509,wri (by omega)];omega)
   refine cx (.o (.c (sI v510))) (IH x504 v509 v510 e510 s511 s512) rfl ?_
   intro v513 e513 v514 e514
   refine nxl (v514,v513) ?_ ?_ rfl
   all_goals (have dh502:=LD e501 h502;have dh508:=LE e507 h508;have hz:=hlen;have hkn:n503=k:=(by omega);subst hkn;have x1:v509=most - n:=(by rw [← e509,wri (by omega)]);have q:=zqJ x504 (m:=v509) (by omega);rw [e510] at q;have x2:v513=n+v510:=(by rw [← e513,wri (by omega)]);have x3:v514=((n503+1:Nat):Int):=(by rw [← e514,hi,wri (by omega)];omega);have hd:=zec s506 n most;rw [if_neg (by omega),← x1,e510,← x2] at hd)
   ·show ((e.l.length:Int) - v514).toNat<((e.l.length:Int) - i).toNat
    have hlt:n503<e.l.length:=(List.getElem?_eq_some_iff.1 s506).1
    omega
   ·have hlt:n503<e.l.length:=(List.getElem?_eq_some_iff.1 s506).1
    exact ⟨n503+1,x3,by omega,by omega,by omega,by rw [← hd];exact hs⟩
 ·
  have hq:((n)=o)∧True:=by
   refine ⟨?_,trivial⟩
   have dh502:=LE e501 h502;have hz:=hlen
   have hkl:k=e.l.length:=by omega
   rw [hkl,List.drop_length,sizeL] at hs
   exact hs
  obtain ⟨q0,-⟩:=hq
  rw [← q0]
  rfl
def zke:Tr:=.s [(5,.ln 58 3 2),(0,.lp zcy 0 1)] (.z (.ret false (5) []))
theorem zoR {w0:World} {N:Nat} (IH:zdG w0 N) (e:Xp) (most:Int) (r:Int) (hr:sizeX e most=r) (hN:nodes e≤N+1) (hm:0≤most∧most≤1000) (hN1:N+1≤1000000):Fun (KN w0) Tryz.prog 130 [.o (.g [pI e.op,pI e.n,pLs cE e.l]),.o (.c (pI most))] (.o (.c (pI r))):=by
 refine tfn w0 130 ⟨[.o (.g [0,1,2]),3],[],[],0,0⟩ ⟨4,[sI most,.ls 3 cE kE e.l,sI e.n,sI e.op],[],[]⟩ zke (by kernel_rfl) ?_
 intro v1 e1
 obtain ⟨o,hO_x_size_l⟩:∃(o:Int),sizeL e.l 1 most=o:=⟨_,rfl⟩
 refine rx [sI o] [] [] (zig e most N v1 IH   o  (by have:=qv e;omega) hN hm hO_x_size_l e1) ?_
 intro hc
 refine Fun.fin (r:=.o (.c (pI o))) (zc (hc)) (fun v W D h=>?_)
 have r0:r=o:=by
  rw [← hr,zog];exact hO_x_size_l
 rw [r0];exact h
theorem zek {w0:World}:∀N:Nat,N≤1000000→zdG w0 N
 | 0,_=>fun x m v _ h _=>by have:=zag x;omega
 | N+1,hN=>fun x m v hv h hm=>zoR (zek N (by omega)) x m v hv h hm hN
theorem zsH {w0:World} (x:Xp) (m v:Int) (hv:sizeX x m=v) (hn:nodes x≤1000000) (hm:0≤m∧m≤1000):Fun (KN w0) Tryz.prog 130 [.o (.g [pI x.op,pI x.n,pLs cE x.l]),.o (.c (pI m))] (.o (.c (pI v))):=zek (nodes x) hn x m v hv (Nat.le_refl _) hm
end Go.Proofs.YteimplkdcjapdaaGreatDoor
