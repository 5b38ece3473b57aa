/-
  Merged: SymA, SymB, SymC, SymD, NumReg, SymE, SymF.
-/
import Derived.WalkKit
import Derived.RegionTactic
import Derived.Laws.AppendOwn
set_option linter.unusedSimpArgs false
set_option linter.unusedVariables false
namespace Go.Proofs.YteimplkdcjapdaaGreatDoor
open Go.RowKit
structure Oth (S:Nat→Prop) (w w':World):Prop where
 os:w'.os=w.os
 tape:w'.tape=w.tape
 output:w'.output=w.output
 size:w.heap.size≤w'.heap.size
 block:∀k,k<w.heap.size→¬ S k→w'.heap[k]?=w.heap[k]?
theorem Oth.refl (S:Nat→Prop) (w:World):Oth S w w:=⟨rfl,rfl,rfl,Nat.le_refl _,fun _ _ _=>rfl⟩
theorem Oth.trans {S T:Nat→Prop} {a b c:World} (h:Oth S a b) (k:Oth T b c) (hT:∀q,T q→q<a.heap.size→S q):Oth S a c:=
 ⟨k.os.trans h.os,k.tape.trans h.tape,k.output.trans h.output,Nat.le_trans h.size k.size,fun q hq hS=>(k.block q (Nat.lt_of_lt_of_le hq h.size) (fun hq2=>hS (hT q hq2 hq))).trans (h.block q hq hS)⟩
theorem Oth.below {w w':World} {S:Nat→Prop} (h:Oth S w w') (hS:∀q,S q→w.heap.size≤q):Below w.heap.size w w' :=
 ⟨h.os,h.tape,h.output,h.size,fun k hk=>h.block k hk (fun h=>by have:=hS k h;omega)⟩
theorem Oth.ofOth {S:Nat→Prop} {w w':World} {B:Nat} (h:Oth S w w') (hS:∀q,S q→B≤q) (hB:B≤w.heap.size):Below B w w' :=
 ⟨h.os,h.tape,h.output,h.size,fun k hk=>h.block k (by omega) (fun h=>by have:=hS k h;omega)⟩
theorem Oth.drew (S:Nat→Prop) (w:World):Oth S w w.drew:=⟨rfl,rfl,rfl,Nat.le_refl _,fun _ _ _=>rfl⟩
theorem Oth.mono {S T:Nat→Prop} {w w':World} (h:Oth S w w') (hs:∀q,S q→T q):Oth T w w':=⟨h.os,h.tape,h.output,h.size,fun k hk hn=>h.block k hk (fun hS=>hn (hs k hS))⟩
theorem Oth.alloc (S:Nat→Prop) (w:World) (o:Obj):Oth S w (w.alloc o):=
 ⟨rfl,rfl,rfl,by simp,fun k hk _=>Below.heap_alloc _ _ _ (by omega)⟩
def veq:Value→Value→Bool
 | .bool a,.bool b=>a == b
 | .int k a,.int k' b=>decide (k=k') && decide (a=b)
 | .string a,.string b=>decide (a.data.toList=b.data.toList)
 | .slice none n c,.slice none n' c'=>n == n' && c == c'
 | .pointer none,.pointer none=>true
 | .pointer (some a),.pointer (some b)=>decide (a=b)
 | .nilIface,.nilIface=>true
 | .nilFunc,.nilFunc=>true
 | .map none,.map none=>true
 | _,_=>false
theorem znl {x y:ByteArray} (h:x.data.toList=y.data.toList):x=y:=by
 cases x;cases y;congr;exact Array.ext' h
theorem zpU {a b:Value} (h:veq a b=true):a=b:=by
 unfold veq at h
 split at h
 case h_3=>rw [znl (of_decide_eq_true h)]
 all_goals simp_all
inductive Lf where
 | k (v:Value)
 | h (n:Nat)
 | p (b o:Nat)
 | s (b o n c:Nat)
 | q (fn:FuncId) (bs:List (Nat×Nat))
 | m (fn:FuncId) (b o:Nat)
 | gr (b:Nat)
 | pf (b n:Nat)
 | po (b:Nat)
 | mp (b:Nat)
inductive Cm where
 | c (l:Lf)
 | g (l:List Lf)
inductive Sh where
 | o (x:Cm)
 | t (l:List Cm)
abbrev yh (n:Nat):Sh:=.o (.c (.h n))
inductive Atom where
 | sl (s:Nat) (x:Sh)
 | bx (b:Nat) (T:TypeId) (ls:List Lf)
 | gl (b:Nat) (T:TypeId) (z n:Nat)
 | gn (b:Nat)
 | hp (bs rs:List Nat) (n:Nat)
def leq:Lf→Lf→Bool
 | .k a,.k b=>veq a b
 | .h a,.h b=>a == b
 | .p a b,.p c d=>a == c && b == d
 | .s a b n m,.s c d n' m'=>a == c && b == d && n == n' && m == m'
 | .q e l,.q g m=>e == g && l == m
 | .m e a i,.m g b j=>e == g && a == b && i == j
 | .gr a,.gr b=>a == b
 | .pf a n,.pf b m=>a == b && n == m
 | .po a,.po b=>a == b
 | .mp a,.mp b=>a == b
 | _,_=>false
theorem zlm {a b:Lf} (h:leq a b=true):a=b:=by
 unfold leq at h
 split at h<;>simp_all
 exact zpU h
def leqs:List Lf→List Lf→Bool
 | [],[]=>true
 | a::l,b::m=>leq a b && leqs l m
 | _,_=>false
theorem zbs:∀{l m:List Lf},leqs l m=true→l=m
 | [],[],_=>rfl
 | a::l,b::m,h=>by
  simp only [leqs,Bool.and_eq_true] at h
  rw [zlm h.1,zbs h.2]
 | [],_::_,h=>by simp [leqs] at h
 | _::_,[],h=>by simp [leqs] at h
def ceq:Cm→Cm→Bool
 | .c a,.c b=>leq a b
 | .g l,.g m=>leqs l m
 | _,_=>false
theorem zoW {a b:Cm} (h:ceq a b=true):a=b:=by
 unfold ceq at h
 split at h
 ·rw [zlm h]
 ·rw [zbs h]
 ·simp at h
def ceqs:List Cm→List Cm→Bool
 | [],[]=>true
 | a::l,b::m=>ceq a b && ceqs l m
 | _,_=>false
theorem zkA:∀{l m:List Cm},ceqs l m=true→l=m
 | [],[],_=>rfl
 | a::l,b::m,h=>by
  simp only [ceqs,Bool.and_eq_true] at h
  rw [zoW h.1,zkA h.2]
 | [],_::_,h=>by simp [ceqs] at h
 | _::_,[],h=>by simp [ceqs] at h
def sheq:Sh→Sh→Bool
 | .o a,.o b=>ceq a b
 | .t l,.t m=>ceqs l m
 | _,_=>false
theorem zN {a b:Sh} (h:sheq a b=true):a=b:=by
 unfold sheq at h
 split at h
 ·rw [zoW h]
 ·rw [zkA h]
 ·simp at h
def sheqs:List Sh→List Sh→Bool
 | [],[]=>true
 | a::l,b::m=>sheq a b && sheqs l m
 | _,_=>false
theorem zcQ:∀{l m:List Sh},sheqs l m=true→l=m
 | [],[],_=>rfl
 | a::l,b::m,h=>by
  simp only [sheqs,Bool.and_eq_true] at h
  rw [zN h.1,zcQ h.2]
 | [],_::_,h=>by simp [sheqs] at h
 | _::_,[],h=>by simp [sheqs] at h
def aeq:Atom→Atom→Bool
 | .sl a x,.sl b y=>a == b && sheq x y
 | .bx a T l,.bx b U m=>a == b && T == U && leqs l m
 | .gl a T z n,.gl b U y m=>a == b && T == U && z == y && n == m
 | .gn a,.gn b=>a == b
 | .hp a c n,.hp b d m=>a == b && c == d && n == m
 | _,_=>false
theorem zcz {a b:Atom} (h:aeq a b=true):a=b:=by
 unfold aeq at h
 split at h
 ·simp only [Bool.and_eq_true,beq_iff_eq] at h
  rw [h.1,zN h.2]
 ·simp only [Bool.and_eq_true,beq_iff_eq] at h
  rw [h.1.1,h.1.2,zbs h.2]
 ·simp only [Bool.and_eq_true,beq_iff_eq] at h
  rw [h.1.1.1,h.1.1.2,h.1.2,h.2]
 ·simp only [beq_iff_eq] at h
  rw [h]
 ·simp only [Bool.and_eq_true,beq_iff_eq] at h
  rw [h.1.1,h.1.2,h.2]
 ·simp at h
abbrev Dat:=Nat→Prop
structure Fact where
 c:Nat→Value→World→Dat→Prop
 g:Nat→List Value→World→Dat→Prop
 o:Nat→List Value→List Value→World→Dat→Prop
instance:CoeFun Fact fun _=>Nat→Value→World→Dat→Prop:=⟨Fact.c⟩
structure Loc where
 bx:Nat→Option Nat
 len:Nat→Nat×Nat
 D:Dat
instance:CoeFun Loc fun _=>Nat→Option Nat:=⟨Loc.bx⟩
def Loc.same (β β':Loc) (b:Nat):Prop:=β'.bx b=β.bx b∧β'.len b=β.len b
theorem Loc.same.rfl {β:Loc} {b:Nat}:β.same β b:=⟨_root_.rfl,_root_.rfl⟩
def ckf (bad:IntKind→Bool):Value→Bool
 | .agg _=>false
 | .tuple _=>false
 | .int k _=>!bad k
 | _=>true
def mlf (bt:TypeId→Bool) (bad:IntKind→Bool):Obj→Bool
 | .cells cs T _=>bt T && cs.toList.all (ckf bad)
 | .map _ _=>true
 | _=>false
structure Kit where
 bt:TypeId→Bool
 bad:IntKind→Bool
 w0:World
def Kit.ck (K:Kit):Value→Bool:=ckf K.bad
theorem zoY {K:Kit} {v:Value} (h:K.ck v=true):v.oneCell'=true:=by cases v<;>simp_all [Kit.ck,ckf,Value.oneCell']
theorem znn {K:Kit} {v:Value} (h:K.ck v=true):v.cells=#[v]:=by cases v<;>simp_all [Kit.ck,ckf,Value.cells]
def pts (β:Loc):List (Nat×Nat)→List Value→Prop
 | [],[]=>True
 | x::xs,v::vs=>(∃q,β x.1=some q∧v=.pointer (some ⟨q,x.2,none⟩))∧pts β xs vs
 | _,_=>False
def gv (β:Loc) (b:Nat):Value:=match β b with
 | none=>.slice none 0 0
 | some q=>.slice (some ⟨q,0,none⟩) (β.len b).1 (β.len b).2
def glen (β:Loc) (b:Nat):Nat:=match β b with
 | none=>0
 | some _=>(β.len b).1
theorem gv_sm {β β':Loc} {b:Nat} (h:β.same β' b):gv β' b=gv β b∧glen β' b=glen β b:=by
 unfold gv glen;rw [h.1,h.2];exact ⟨rfl,rfl⟩
def pov (β:Loc) (b:Nat):Value:=match β b with
 | none=>.pointer none
 | some q=>.pointer (some ⟨q,0,none⟩)
def Lf.ok (F:Fact) (β:Loc):Lf→Value→World→Prop
 | .k x,v,_=>v=x
 | .h n,v,W=>F.c n v W β.D
 | .p b o,v,_=>∃q,β b=some q∧v=.pointer (some ⟨q,o,none⟩)
 | .s b o n c,v,_=>∃q,β b=some q∧v=.slice (some ⟨q,o,none⟩) n c
 | .q fn bs,v,_=>∃cs:Array Value,v=.func (.func fn) #[] cs∧pts β bs cs.toList
 | .m fn b o,v,_=>∃q,β b=some q∧v=.func (.func fn) #[.pointer (some ⟨q,o,none⟩)] #[]
 | .gr b,v,_=>v=gv β b
 | .pf b n,v,W=>∃q o:Nat,β b=some q∧v=.pointer (some ⟨q,o,none⟩)∧F.c n (.int .i64 (o:Int)) W β.D
 | .po b,v,_=>v=pov β b
 | .mp b,v,_=>∃q,β b=some q∧v=.map (some q)
def oks (F:Fact) (β:Loc):List Lf→List Value→World→Prop
 | [],[],_=>True
 | l::ls,v::vs,W=>l.ok F β v W∧oks F β ls vs W
 | _,_,_=>False
def Cm.ok (F:Fact) (β:Loc):Cm→Value→World→Prop
 | .c l,v,W=>l.ok F β v W
 | .g ls,v,W=>∃vs:Array Value,v=.agg vs∧oks F β ls vs.toList W
def cms (F:Fact) (β:Loc):List Cm→List Value→World→Prop
 | [],[],_=>True
 | l::ls,v::vs,W=>l.ok F β v W∧cms F β ls vs W
 | _,_,_=>False
def Sh.ok (F:Fact) (β:Loc):Sh→Value→World→Prop
 | .o x,v,W=>x.ok F β v W
 | .t xs,v,W=>∃vs:Array Value,v=.tuple vs∧cms F β xs vs.toList W
def shs (F:Fact) (β:Loc):List Sh→List Value→World→Prop
 | [],[],_=>True
 | l::ls,v::vs,W=>l.ok F β v W∧shs F β ls vs W
 | _,_,_=>False
section
variable {F:Fact} {β:Loc} {W:World}
theorem qb:∀{ls:List Lf} {vs:List Value},oks F β ls vs W→vs.length=ls.length
 | [],[],_=>rfl
 | _::_,_::_,h=>by rw [List.length_cons,List.length_cons,qb h.2]
 | [],_::_,h=>h.elim
 | _::_,[],h=>h.elim
theorem zb0:∀(n:Nat) {ls:List Lf} {vs:List Value},oks F β ls vs W→oks F β (ls.drop n) (vs.drop n) W
 | 0,_,_,h=>h
 | _+1,[],[],_=>trivial
 | n+1,_::_,_::_,h=>zb0 n h.2
 | _+1,[],_::_,h=>h.elim
 | _+1,_::_,[],h=>h.elim
theorem zb1:∀(n:Nat) {ls:List Lf} {vs:List Value},oks F β ls vs W→oks F β (ls.take n) (vs.take n) W
 | 0,_,_,_=>trivial
 | _+1,[],[],_=>trivial
 | n+1,_::_,_::_,h=>⟨h.1,zb1 n h.2⟩
 | _+1,[],_::_,h=>h.elim
 | _+1,_::_,[],h=>h.elim
theorem zcq:∀{ls:List Lf} {vs:List Value} {ls':List Lf} {vs':List Value},oks F β ls vs W→oks F β ls' vs' W→oks F β (ls++ls') (vs++vs') W
 | [],[],_,_,_,h=>h
 | _::_,_::_,_,_,h,h2=>⟨h.1,zcq h.2 h2⟩
 | [],_::_,_,_,h,_=>h.elim
 | _::_,[],_,_,h,_=>h.elim
theorem zeU:∀{ls:List Lf} {vs:List Value} {i:Nat} {l:Lf},oks F β ls vs W→ls[i]?=some l→∃v,vs[i]?=some v∧l.ok F β v W
 | l::_,v::_,0,_,h,hi=>⟨v,rfl,by simp at hi;subst hi;exact h.1⟩
 | _::_,_::_,i+1,_,h,hi=>by simpa using zeU (i:=i) h.2 (by simpa using hi)
 | [],[],_,_,_,hi=>by simp at hi
 | [],_::_,_,_,h,_=>h.elim
 | _::_,[],_,_,h,_=>h.elim
theorem zkF:∀{ls:List Cm} {vs:List Value} {i:Nat} {l:Cm},cms F β ls vs W→ls[i]?=some l→∃v,vs[i]?=some v∧l.ok F β v W
 | l::_,v::_,0,_,h,hi=>⟨v,rfl,by simp at hi;subst hi;exact h.1⟩
 | _::_,_::_,i+1,_,h,hi=>by simpa using zkF (i:=i) h.2 (by simpa using hi)
 | [],[],_,_,_,hi=>by simp at hi
 | [],_::_,_,_,h,_=>h.elim
 | _::_,[],_,_,h,_=>h.elim
theorem oks_k:∀(vs:List Value),oks F β (vs.map .k) vs W
 | []=>trivial
 | _::vs=>⟨rfl,oks_k vs⟩
theorem zcu:∀{ls:List Sh} {vs:List Value} {ls':List Sh} {vs':List Value},shs F β ls vs W→shs F β ls' vs' W→shs F β (ls++ls') (vs++vs') W
 | [],[],_,_,_,h=>h
 | _::_,_::_,_,_,h,h2=>⟨h.1,zcu h.2 h2⟩
 | [],_::_,_,_,h,_=>h.elim
 | _::_,[],_,_,h,_=>h.elim
theorem zmc:∀{bs:List (Nat×Nat)} {vs:List Value},pts β bs vs→shs F β (bs.map fun x=>Sh.o (.c (.p x.1 x.2))) vs W
 | [],[],_=>trivial
 | _::_,_::_,h=>⟨h.1,zmc h.2⟩
 | [],_::_,h=>h.elim
 | _::_,[],h=>h.elim
end
def spl {α:Type} (l:List α) (o:Nat) (m:List α):List α:=l.take o++(m++l.drop (o+m.length))
theorem zjL {α:Type} {l m:List α} {o:Nat} (h:o+m.length≤l.length):(spl l o m).length=l.length:=by simp [spl];omega
theorem zlO {F:Fact} {β:Loc} {W:World} {ls ms:List Lf} {vs us:List Value} {o:Nat} (h:oks F β ls vs W) (h2:oks F β ms us W):oks F β (spl ls o ms) (spl vs o us) W:=by
 unfold spl
 rw [qb h2]
 exact zcq (zb1 o h) (zcq h2 (zb0 _ h))
theorem zqK {α:Type} {l m:List α} {o:Nat} {p:α→Bool} (h:l.all p=true) (h2:m.all p=true):(spl l o m).all p=true:=by
 rw [List.all_eq_true] at *
 intro x hx
 simp only [spl,List.mem_append] at hx
 rcases hx with hx | hx | hx
 ·exact h x (List.mem_of_mem_take hx)
 ·exact h2 x hx
 ·exact h x (List.mem_of_mem_drop hx)
def Lf.has (b:Nat):Lf→Bool
 | .p c _=>b == c
 | .s c _ _ _=>b == c
 | .q _ l=>l.any fun x=>b == x.1
 | .m _ c _=>b == c
 | .gr c=>b == c
 | .pf c _=>b == c
 | .po c=>b == c
 | .mp c=>b == c
 | _=>false
def lfs (b:Nat) (l:List Lf):Bool:=l.any (Lf.has b)
def Cm.has (b:Nat):Cm→Bool
 | .c l=>l.has b
 | .g l=>lfs b l
def cmh (b:Nat) (l:List Cm):Bool:=l.any (Cm.has b)
def Sh.has (b:Nat):Sh→Bool
 | .o x=>x.has b
 | .t l=>cmh b l
def Atom.has (b:Nat):Atom→Bool
 | .sl _ x=>x.has b
 | .bx c _ ls=>b == c || lfs b ls
 | .gl c _ _ _=>b == c
 | .gn c=>b == c
 | .hp l r _=>l.contains b || r.contains b
def set (β:Loc) (b q:Nat):Loc:=⟨fun c=>if c=b then some q else β c,β.len,β.D⟩
theorem zQ (β:Loc) (b q:Nat):set β b q b=some q:=if_pos rfl
theorem zb3 {β:Loc} {b q c:Nat} (h:c≠b):set β b q c=β c:=if_neg h
theorem zma {β:Loc} {b q c:Nat} (h:c≠b):β.same (set β b q) c:=⟨zb3 h,rfl⟩
section
variable (K:Kit)
def ml:Obj→Bool:=mlf K.bt K.bad
def Mlq (D:Dat) (W:World) (q:Nat):Prop:=K.w0.heap.size≤q∧¬ D q∧∃o,W.heap[q]?=some o∧ml K o=true
structure FineC (p:Value→World→Dat→Prop):Prop where
 mv:∀{v W W' D D'} {S:Nat→Prop},(∀q,S q→Mlq K D W q)→Oth S W W'→(∀q,D q→D' q)→p v W D→p v W' D'
 ck:∀{v W D},p v W D→K.ck v=true
structure FineL (p:List Value→World→Dat→Prop):Prop where
 mv:∀{v W W' D D'} {S:Nat→Prop},(∀q,S q→Mlq K D W q)→Oth S W W'→(∀q,D q→D' q)→p v W D→p v W' D'
 ck:∀{v W D},p v W D→v.all K.ck=true
def FineM (p:Value→World→Dat→Prop):Prop:=∀{v W W' D D'} {S:Nat→Prop},(∀q,S q→Mlq K D W q)→Oth S W W'→(∀q,D q→D' q)→p v W D→p v W' D'
def FineO (p:List Value→List Value→World→Dat→Prop):Prop:=∀{gs rs W W' D D'} {S:Nat→Prop},(∀q,S q→Mlq K D W q)→(∀v∈gs,∀q,v.ownBlock=some q→¬ S q)→Oth S W W'→(∀q,D q→D' q)→p gs rs W D→p gs rs W' D'
structure Fine (F:Fact):Prop where
 m:∀n,FineM K (F.c n)
 c:∀n,n<5000→∀{v W D},F.c n v W D→K.ck v=true
 g:∀n,FineL K (F.g n)
 o:∀n,FineO K (F.o n)
def Box (F:Fact) (β:Loc) (b:Nat) (T:TypeId) (ls:List Lf) (W:World):Prop:=
 ∃(q:Nat) (vs:Array Value),β b=some q∧W.heap[q]?=some (.cells vs T (0,0))∧oks F β ls vs.toList W∧vs.toList.all K.ck=true∧K.bt T=true∧K.w0.heap.size≤q
def GL (F:Fact) (β:Loc) (b:Nat) (T:TypeId) (z n:Nat) (W:World):Prop:=
 ∃xs:List Value,W.ownsRow K.w0.heap.size T z (gv β b) (glen β b) xs∧F.g n xs W β.D∧∀q,β b=some q→∃o,W.heap[q]?=some o∧ml K o=true
def HP (F:Fact) (β:Loc) (bs rs:List Nat) (n:Nat) (W:World):Prop:=
 F.o n (bs.map (gv β)) (rs.map (gv β)) W β.D∧∀b∈bs,∀q,β b=some q→K.w0.heap.size≤q∧∃o,W.heap[q]?=some o∧ml K o=true
def Atom.ok (F:Fact) (β:Loc) (A:Atom) (a:Act) (W:World):Prop:=match A with
 | .sl s x=>x.ok F β (a.tmps.getD s undef) W
 | .bx b T ls=>Box K F β b T ls W
 | .gl b T z n=>GL K F β b T z n W
 | .gn b=>β b=none
 | .hp bs rs n=>HP K F β bs rs n W
structure Geo (β:Loc) (W:World):Prop where
 lt:∀b q,β b=some q→q<W.heap.size
 inj:∀b c q,β b=some q→β c=some q→b=c
 bel:Below K.w0.heap.size K.w0 W
 dis:∀b q,β b=some q→¬ β.D q
 dlt:∀q,β.D q→q<W.heap.size
 low:∀q,q<K.w0.heap.size→β.D q
end
section
variable {K:Kit} {F:Fact} {β β':Loc} {W W':World} {S:Nat→Prop}
 (hF:Fine K F) (hS:∀q,S q→Mlq K β.D W q) (hO:Oth S W W') (hD:∀q,β.D q→β'.D q)
theorem zpt:∀{bs:List (Nat×Nat)} {vs:List Value},(∀b,(bs.any fun x=>b == x.1)=true→β.same β' b)→pts β bs vs→pts β' bs vs
 | [],[],_,_=>trivial
 | x::xs,v::vs,hb,h=>by
  obtain ⟨⟨q,h1,h2⟩,h3⟩:=h
  exact ⟨⟨q,(hb x.1 (by simp)).1.trans h1,h2⟩,zpt (fun b hb'=>hb b (by rw [List.any_cons,hb',Bool.or_true])) h3⟩
 | [],_::_,_,h=>h.elim
 | _::_,[],_,h=>h.elim
include hF hS hO hD
theorem Lf.mv {l:Lf} {v:Value} (hb:∀b,l.has b=true→β.same β' b) (h:l.ok F β v W):l.ok F β' v W':=by
 cases l with
 | k x=>exact h
 | h n=>exact hF.m n hS hO hD h
 | p b o=>obtain ⟨q,h1,h2⟩:=h;exact ⟨q,(hb b (by simp [Lf.has])).1.trans h1,h2⟩
 | s b o n c=>obtain ⟨q,h1,h2⟩:=h;exact ⟨q,(hb b (by simp [Lf.has])).1.trans h1,h2⟩
 | q e bs=>obtain ⟨cs,h1,h2⟩:=h;exact ⟨cs,h1,zpt hb h2⟩
 | m e b o=>obtain ⟨q,h1,h2⟩:=h;exact ⟨q,(hb b (by simp [Lf.has])).1.trans h1,h2⟩
 | gr b =>
  show v=gv β' b
  rw [(gv_sm (hb b (by simp [Lf.has]))).1];exact h
 | pf b n=>obtain ⟨q,o,h1,h2,h3⟩:=h;exact ⟨q,o,(hb b (by simp [Lf.has])).1.trans h1,h2,hF.m n hS hO hD h3⟩
 | po b =>
  show v=pov β' b
  unfold pov;rw [(hb b (by simp [Lf.has])).1];exact h
 | mp b=>obtain ⟨q,h1,h2⟩:=h;exact ⟨q,(hb b (by simp [Lf.has])).1.trans h1,h2⟩
theorem zbe:∀{ls:List Lf} {vs:List Value},(∀b,lfs b ls=true→β.same β' b)→oks F β ls vs W→oks F β' ls vs W'
 | [],[],_,_=>trivial
 | l::ls,_::_,hb,h=>⟨Lf.mv hF hS hO hD (fun b h'=>hb b (by rw [lfs,List.any_cons,h',Bool.true_or])) h.1,zbe (fun b h'=>hb b (by rw [lfs,List.any_cons];rw [lfs] at h';rw [h',Bool.or_true])) h.2⟩
 | [],_::_,_,h=>h.elim
 | _::_,[],_,h=>h.elim
theorem Cm.mv {x:Cm} {v:Value} (hb:∀b,x.has b=true→β.same β' b) (h:x.ok F β v W):x.ok F β' v W':=by
 cases x with
 | c l=>exact Lf.mv hF hS hO hD hb h
 | g l=>obtain ⟨vs,e,h2⟩:=h;exact ⟨vs,e,zbe hF hS hO hD hb h2⟩
theorem zo4:∀{ls:List Cm} {vs:List Value},(∀b,cmh b ls=true→β.same β' b)→cms F β ls vs W→cms F β' ls vs W'
 | [],[],_,_=>trivial
 | l::ls,_::_,hb,h=>⟨Cm.mv hF hS hO hD (fun b h'=>hb b (by rw [cmh,List.any_cons,h',Bool.true_or])) h.1,zo4 (fun b h'=>hb b (by rw [cmh,List.any_cons];rw [cmh] at h';rw [h',Bool.or_true])) h.2⟩
 | [],_::_,_,h=>h.elim
 | _::_,[],_,h=>h.elim
theorem Sh.mv {x:Sh} {v:Value} (hb:∀b,x.has b=true→β.same β' b) (h:x.ok F β v W):x.ok F β' v W':=by
 cases x with
 | o l=>exact Cm.mv hF hS hO hD hb h
 | t l=>obtain ⟨vs,e,h2⟩:=h;exact ⟨vs,e,zo4 hF hS hO hD hb h2⟩
theorem Box.mv {b:Nat} {T:TypeId} {ls:List Lf} (hb:∀c,(c == b || lfs c ls)=true→β.same β' c) (h:Box K F β b T ls W) (hn:∀q,β b=some q→¬ S q):Box K F β' b T ls W':=by
 obtain ⟨q,vs,h0,h1,h2,h3⟩:=h
 have hlt:q<W.heap.size:=(Array.getElem?_eq_some_iff.1 h1).1
 exact ⟨q,vs,(hb b (by simp)).1.trans h0,(hO.block _ hlt (hn q h0)).trans h1,zbe hF hS hO hD (fun c hc=>hb c (by rw [hc,Bool.or_true])) h2,h3⟩
theorem GL.mv {b:Nat} {T:TypeId} {z n:Nat} (hb:β.same β' b) (h:GL K F β b T z n W) (hn:∀q,β b=some q→¬ S q):GL K F β' b T z n W':=by
 obtain ⟨xs,h1,h2,h3⟩:=h
 have hbl:∀q,β b=some q→W'.heap[q]?=W.heap[q]?:=fun q hq=>by
  obtain ⟨o,ho,_⟩:=h3 q hq
  exact hO.block _ (Array.getElem?_eq_some_iff.1 ho).1 (hn q hq)
 obtain ⟨e1,e2⟩:=gv_sm hb
 refine ⟨xs,?_,(hF.g n).mv hS hO hD h2,fun q hq=>?_⟩
 ·rw [e1,e2]
  refine ⟨h1.1,h1.2.imp id ?_⟩
  rintro ⟨g,cap,cur,hv,hb,hh,hr⟩
  refine ⟨g,cap,cur,hv,hb,?_,hr⟩
  rw [hbl g ?_];exact hh
  unfold gv at hv
  split at hv
  ·cases hv
  ·rename_i q hq
   simp only [Value.slice.injEq,Option.some.injEq,Addr.mk.injEq] at hv
   rw [hq,hv.1.1]
 ·rw [hb.1] at hq
  rw [hbl q hq];exact h3 q hq
omit hF hS hO hD in
theorem zad {β:Loc} {b:Nat}:(gv β b).ownBlock=β b:=by
 unfold gv
 split
 ·rename_i e;rw [e];rfl
 ·rename_i q e;rw [e];rfl
theorem HP.mv {bs rs:List Nat} {n:Nat} (hb:∀b∈bs,β.same β' b) (hr:∀b∈rs,β.same β' b) (h:HP K F β bs rs n W) (hn:∀b∈bs,∀q,β b=some q→¬ S q):HP K F β' bs rs n W':=by
 have e2:rs.map (gv β')=rs.map (gv β):=List.map_congr_left fun b hm=>(gv_sm (hr b hm)).1
 have e:bs.map (gv β')=bs.map (gv β):=List.map_congr_left fun b hm=>(gv_sm (hb b hm)).1
 refine ⟨?_,fun b hm q hq=>?_⟩
 ·rw [e,e2]
  refine hF.o n hS (fun v hv q hq=>?_) hO hD h.1
  obtain ⟨b,hm,rfl⟩:=List.mem_map.1 hv
  rw [zad] at hq
  exact hn b hm q hq
 ·rw [(hb b hm).1] at hq
  obtain ⟨h1,o,h2,h3⟩:=h.2 b hm q hq
  exact ⟨h1,o,(hO.block q (Array.getElem?_eq_some_iff.1 h2).1 (hn b hm q hq)).trans h2,h3⟩
theorem Atom.mv {A:Atom} {a a':Act} (ha:∀s x,A=.sl s x→a'.tmps.getD s undef=a.tmps.getD s undef) (hb:∀c,A.has c=true→β.same β' c) (h:A.ok K F β a W) (hn:∀b,(∀s x,A≠.sl s x)→A.has b=true→∀q,β b=some q→¬ S q):A.ok K F β' a' W':=by
 cases A with
 | sl s x =>
  show x.ok F β' (a'.tmps.getD s undef) W'
  rw [ha s x rfl]
  exact Sh.mv hF hS hO hD hb h
 | bx b T ls=>exact Box.mv hF hS hO hD hb h (hn b (fun _ _ e=>by cases e) (by simp [Atom.has]))
 | gl b T z n=>exact GL.mv hF hS hO hD (hb b (by simp [Atom.has])) h (hn b (fun _ _ e=>by cases e) (by simp [Atom.has]))
 | gn b=>exact (hb b (by simp [Atom.has])).1.trans h
 | hp bs rs n=>exact HP.mv hF hS hO hD (fun b hm=>hb b (by simp [Atom.has,hm])) (fun b hm=>hb b (by simp [Atom.has,hm])) h fun b hm=>hn b (fun _ _ e=>by cases e) (by simp [Atom.has,hm])
end
theorem Box.ml {K:Kit} {F:Fact} {β:Loc} {W:World} {b q:Nat} {T:TypeId} {ls:List Lf} (hg:Geo K β W) (h:Box K F β b T ls W) (hq:β b=some q):Mlq K β.D W q:=by
 obtain ⟨q',vs,h0,h1,_,h3,h4,h5⟩:=h
 have:q'=q:=by rw [h0] at hq;exact Option.some.inj hq
 subst this
 exact ⟨h5,hg.dis b q' h0,_,h1,by simp only [Proofs.YteimplkdcjapdaaGreatDoor.ml,mlf,h4];exact h3⟩
theorem GL.ml {K:Kit} {F:Fact} {β:Loc} {W:World} {b q:Nat} {T:TypeId} {z n:Nat} (hg:Geo K β W) (h:GL K F β b T z n W) (hq:β b=some q):Mlq K β.D W q:=by
 obtain ⟨xs,h1,h2,h3⟩:=h
 have hlt:=h1.lt q (by unfold gv;rw [hq];rfl)
 exact ⟨hlt.1,hg.dis b q hq,h3 q hq⟩
theorem HP.ml {K:Kit} {F:Fact} {β:Loc} {W:World} {b q:Nat} {bs rs:List Nat} {n:Nat} (hg:Geo K β W) (h:HP K F β bs rs n W) (hm:b∈bs) (hq:β b=some q):Mlq K β.D W q:=
 ⟨(h.2 b hm q hq).1,hg.dis b q hq,(h.2 b hm q hq).2⟩
theorem Geo.set {K:Kit} {β:Loc} {W W':World} {b q:Nat} (h:Geo K β W) (hq:q=W.heap.size) (hs:W.heap.size<W'.heap.size) (hO:Oth (fun _=>False) W W'):Geo K (set β b q) W':=by
 refine ⟨fun c r hc=>?_,fun c d r hc hd=>?_,h.bel.trans (hO.ofOth (fun _ h=>h.elim) h.bel.size),fun c r hc hD=>?_,fun r hr=>?_,h.low⟩
 ·by_cases hb:c=b
  ·subst hb;rw [zQ] at hc;injection hc with hc;omega
  ·rw [zb3 hb] at hc;have:=h.lt c r hc;omega
 ·by_cases hb:c=b
  ·by_cases hd':d=b
   ·rw [hb,hd']
   ·exfalso
    rw [hb,zQ] at hc;rw [zb3 hd'] at hd
    injection hc with hc
    have:=h.lt d r hd;omega
  ·by_cases hd':d=b
   ·exfalso
    rw [zb3 hb] at hc;rw [hd',zQ] at hd
    injection hd with hd
    have:=h.lt c r hc;omega
   ·rw [zb3 hb] at hc;rw [zb3 hd'] at hd
    exact h.inj c d r hc hd
 ·by_cases hb:c=b
  ·subst hb;rw [zQ] at hc;injection hc with hc
   have:=h.dlt r hD;omega
  ·rw [zb3 hb] at hc;exact h.dis c r hc hD
 ·have:=h.dlt r hr;omega
theorem Geo.mono {K:Kit} {β:Loc} {W W':World} {S:Nat→Prop} (h:Geo K β W) (hS:∀q,S q→Mlq K β.D W q) (hO:Oth S W W'):Geo K β W' :=
 ⟨fun b q hb=>Nat.lt_of_lt_of_le (h.lt b q hb) hO.size,h.inj,h.bel.trans (hO.ofOth (fun q hq=>(hS q hq).1) h.bel.size),h.dis,fun q hq=>Nat.lt_of_lt_of_le (h.dlt q hq) hO.size,h.low⟩
structure Put (q:Nat) (c:Obj) (W W':World):Prop where
 os:W'.os=W.os
 tape:W'.tape=W.tape
 output:W'.output=W.output
 size:W'.heap.size=W.heap.size
 here:W'.heap[q]?=some c
 other:∀k,k≠q→W'.heap[k]?=W.heap[k]?
theorem Put.oth {q:Nat} {c:Obj} {W W':World} (h:Put q c W W'):Oth (·=q) W W':=⟨h.os,h.tape,h.output,Nat.le_of_eq h.size.symm,fun k _ hk=>h.other k hk⟩
theorem zhG {α:Type}:∀(l:List α) (k:Nat) (v:α) (m:List α),k<l.length→spl (l.set k v) (k+1) m=spl l k (v::m)
 | [],k,_,_,h=>by simp at h
 | a::l,0,v,m,_=>by simp [spl,Nat.add_comm]
 | a::l,k+1,v,m,h=>by
  have:=zhG l k v m (by simpa using h)
  simp only [spl,List.length_cons] at this ⊢
  simp only [List.set_cons_succ,List.take_succ_cons,List.cons_append]
  rw [show k+1+1+m.length=(k+1+m.length)+1 by omega,show k+1+(m.length+1)=(k+(m.length+1))+1 by omega,List.drop_succ_cons,List.drop_succ_cons,this]
  rfl
theorem zq {W:World} {q j:Nat} {vs:Array Value} {T:TypeId} {z:Nat×Nat} (h:W.heap[q]?=some (.cells vs T z)):W.cell? ⟨q,j,none⟩=vs[j]?:=by
 simp [World.cell?,h]
theorem qW (q o i:Nat):(Addr.mk q o none).add i=⟨q,o+i,none⟩:=by
 unfold Addr.add
 split
 ·rename_i h;subst h;rfl
 ·rfl
theorem zgd {P:Program} {q o:Nat} {T:TypeId}:∀(m:List Value) (i:Nat) (W:World) (vs:Array Value),W.heap[q]?=some (.cells vs T (0,0))→o+i+m.length≤vs.size→(∀v∈m,v.oneCell'=true) →
  ∃W',(storeCells ⟨q,o,none⟩ m i).run P W=.ok () W'∧Put q (.cells (spl vs.toList (o+i) m).toArray T (0,0)) W W'
 | [],i,W,vs,h,_,_=>⟨W,rfl,rfl,rfl,rfl,rfl,by rw [h];simp [spl],fun _ _=>rfl⟩
 | v::m,i,W,vs,h,hl,hv=>by
  rw [List.length_cons] at hl
  have hlt:o+i<vs.size:=by omega
  have hc:W.cell? ⟨q,o+i,none⟩=some vs[o+i]:=by rw [zq h,Array.getElem?_eq_getElem hlt]
  have hf:W.frozen? ⟨q,o+i,none⟩=false:=by simp [World.frozen?,h]
  have hh:(W.setCell ⟨q,o+i,none⟩ v).heap[q]?=some (.cells (vs.setIfInBounds (o+i) v) T (0,0)):=by
   simp [World.setCell,Array.getElem?_modify,h]
  obtain ⟨W',h1,h2⟩:=zgd (P:=P) (o:=o) m (i+1) (W.setCell ⟨q,o+i,none⟩ v) (vs.setIfInBounds (o+i) v) hh (by rw [Array.size_setIfInBounds];omega) (fun u hu=>hv u (List.mem_cons_of_mem _ hu))
  refine ⟨W',?_,?_⟩
  ·rw [storeCells,Sem.run_bind,qW,run_store P W _ v _ (hv v (List.mem_cons_self ..)),hc]
   simp only [hf,Bool.false_eq_true,if_false,Result.andThen_ok]
   exact h1
  ·obtain ⟨p1,p2,p3,p4,p5,p6⟩:=h2
   refine ⟨p1,p2,p3,by rw [p4];simp,?_,fun k hk=>?_⟩
   ·rw [p5,show o+(i+1)=o+i+1 by omega]
    simp only [Array.toList_setIfInBounds]
    rw [zhG _ _ _ _ (by simpa using hlt)]
   ·rw [p6 k hk]
    exact Below.heap_setCell _ _ _ _ hk
theorem zeG {P:Program} {q o:Nat} {T:TypeId} {z:Nat×Nat} {W:World} {vs:Array Value} (h:W.heap[q]?=some (.cells vs T z)):∀(n i:Nat) (acc:Array Value),o+i+n≤vs.size →
  (loadCellsFrom ⟨q,o,none⟩ i n acc).run P W=.ok (acc++((vs.toList.drop (o+i)).take n).toArray) W
 | 0,i,acc,_=>by simp [loadCellsFrom]
 | n+1,i,acc,hl=>by
  have hlt:o+i<vs.size:=by omega
  rw [loadCellsFrom,Sem.run_bind,qW,run_load,zq h,Array.getElem?_eq_getElem hlt]
  simp only [Result.andThen_ok]
  rw [zeG h n (i+1) _ (by omega)]
  have hd:vs.toList.drop (o+i)=vs[o+i]::vs.toList.drop (o+i+1):=by
   rw [List.drop_eq_getElem_cons (by simpa using hlt)];simp
  rw [hd,List.take_succ_cons,show o+(i+1)=o+i+1 by omega]
  congr 1
  apply Array.ext'
  simp
structure Con where
 fn:FuncId
 as:List Sh
 pre:List Atom
 res:Sh
 post:List Atom
def Atom.nms:Atom→List Nat
 | .sl s _=>[s]
 | .bx b _ _=>[b]
 | .gl b _ _ _=>[b]
 | .gn b=>[b]
 | .hp l _ _=>l
def Atom.isB:Atom→Bool
 | .bx _ _ _=>true
 | .gl _ _ _ _=>true
 | .hp _ _ _=>true
 | _=>false
def names:List Atom→List Nat
 | []=>[]
 | .sl s _::r=>s::names r
 | .bx b _ _::r=>b::names r
 | .gl b _ _ _::r=>b::names r
 | .gn b::r=>b::names r
 | .hp l _ _::r=>l++names r
theorem zjH (A:Atom) (r:List Atom):names (A::r)=A.nms++names r:=by cases A<;>rfl
theorem zdc {b:Nat}:∀{l:List Atom},b∈names l↔∃A∈l,b∈A.nms
 | []=>by simp [names]
 | A::r=>by rw [zjH,List.mem_append,zdc (l:=r)];simp
def zk:List Atom→List Nat
 | []=>[]
 | .gl b _ _ _::r=>b::zk r
 | .hp l _ _::r=>l++zk r
 | _::r=>zk r
inductive Sig where
 | ia (T:TypeId)
 | ld (T:TypeId)
 | ix (T:TypeId)
 | sc (T:TypeId) (lo hi mx:Bool)
 | cv (S T:TypeId)
 | len (ts:List TypeId) (T:TypeId)
 | cap (ts:List TypeId) (T:TypeId)
 | min (ts:List TypeId) (T:TypeId)
 | max (ts:List TypeId) (T:TypeId)
 | fa (T:TypeId) (i:Nat)
 | mi (T:TypeId)
 | lk (T:TypeId) (ok:Bool)
 | ta (T U:TypeId) (ok:Bool)
 | nc
def Sig.eq:Sig→Sig→Bool
 | .ia a,.ia b=>a == b
 | .ld a,.ld b=>a == b
 | .ix a,.ix b=>a == b
 | .sc a b c d,.sc e f g h=>a == e && b == f && c == g && d == h
 | .cv a b,.cv c d=>a == c && b == d
 | .len a b,.len c d=>a == c && b == d
 | .cap a b,.cap c d=>a == c && b == d
 | .min a b,.min c d=>a == c && b == d
 | .max a b,.max c d=>a == c && b == d
 | .fa a b,.fa c d=>a == c && b == d
 | .mi a,.mi b=>a == b
 | .lk a b,.lk c d=>a == c && b == d
 | .ta a b c,.ta d e f=>a == d && b == e && c == f
 | .nc,.nc=>true
 | _,_=>false
theorem Sig.eq_eq {a b:Sig} (h:a.eq b=true):a=b:=by
 unfold Sig.eq at h
 split at h<;>simp_all
def Sig.sem:Sig→List Value→Sem Value
 | .ia T,[x,i]=>Instr.indexAt T x i
 | .ld T,[x]=>Instr.loadAt T x
 | .ix T,[x,i]=>Instr.index T x i
 | .sc T false false false,[x]=>Instr.sliceAt T x none none none
 | .sc T true false false,[x,l]=>Instr.sliceAt T x (some l) none none
 | .sc T false true false,[x,r]=>Instr.sliceAt T x none (some r) none
 | .sc T true true false,[x,l,r]=>Instr.sliceAt T x (some l) (some r) none
 | .cv S T,[x]=>convert S T x
 | .len ts T,xs=>Builtin.len_ ts.toArray T xs.toArray
 | .cap ts T,xs=>Builtin.cap_ ts.toArray T xs.toArray
 | .min ts T,xs=>Builtin.min_ ts.toArray T xs.toArray
 | .max ts T,xs=>Builtin.max_ ts.toArray T xs.toArray
 | .fa T i,[x]=>Instr.fieldAt T x i
 | .mi T,[x]=>Instr.makeInterface T x
 | .lk T ok,[x,i]=>Instr.lookup T x i ok
 | .ta T U ok,[x]=>Instr.typeAssert x T U ok
 | .nc,[.pointer (some a)]=>pure (.pointer (some a))
 | _, _ => stuck ""
def sigOf (o:Oper):Option (Sig×List Operand):=match o.op with
 | .indexAddr T x i=>some (.ia T,[x,i])
 | .load T x=>some (.ld T,[x])
 | .index T x i=>some (.ix T,[x,i])
 | .slice T x none none none=>some (.sc T false false false,[x])
 | .slice T x (some l) none none=>some (.sc T true false false,[x,l])
 | .slice T x none (some r) none=>some (.sc T false true false,[x,r])
 | .slice T x (some l) (some r) none=>some (.sc T true true false,[x,l,r])
 | .convert S T x=>some (.cv S T,[x])
 | .fieldAddr T x i=>some (.fa T i,[x])
 | .makeInterface T x=>some (.mi T,[x])
 | .lookup T x i ok=>some (.lk T ok,[x,i])
 | .typeAssert x T U ok=>some (.ta T U ok,[x])
 | .nilCheck x=>some (.nc,[x])
 | .call c=>match c.callee with
  | .builtin .len=>some (.len c.argTypes.toList o.type,c.args.toList)
  | .builtin .cap=>some (.cap c.argTypes.toList o.type,c.args.toList)
  | .builtin .min=>some (.min c.argTypes.toList o.type,c.args.toList)
  | .builtin .max=>some (.max c.argTypes.toList o.type,c.args.toList)
  | _=>none
 | _=>none
theorem zp0 {α γ:Type} (f:α→γ) (l:Array α):l.map f=(l.toList.map f).toArray:=Array.ext' (by simp)
theorem zrU {P:Program} {W:World} {ρ:Operand→Value} {o:Oper} {x:Operand} {v:Value} (ho:o.op=.nilCheck x) (hv:(Sig.nc.sem ([x].map ρ)).run P W=.ok v W):(execOp ρ o).run P W=.ok (.value v) W:=by
 simp only [List.map_cons,List.map_nil] at hv
 cases hx:ρ x with
 | pointer p =>
  cases p with
  | some a =>
   rw [hx] at hv
   simp only [Sig.sem,Sem.run_pure,Result.ok.injEq] at hv
   obtain ⟨rfl,_⟩:=hv
   simp only [execOp,ho,hx,Sem.run_pure]
  | none=>rw [hx] at hv;simp [Sig.sem,stuck] at hv
 | _=>rw [hx] at hv;simp [Sig.sem,stuck] at hv
theorem zqI {P:Program} {W:World} {ρ:Operand→Value} {o:Oper} {g:Sig} {xs:List Operand} {v:Value} (h:sigOf o=some (g,xs)) (hv:(g.sem (xs.map ρ)).run P W=.ok v W):(execOp ρ o).run P W=.ok (.value v) W:=by
 unfold sigOf at h
 split at h
 all_goals first | (cases h;done) | skip
 all_goals rename_i ho
 all_goals try (simp only [Option.some.injEq,Prod.mk.injEq] at h;obtain ⟨rfl,rfl⟩:=h;exact zrU ho hv)
 all_goals try (simp only [Option.some.injEq,Prod.mk.injEq] at h;obtain ⟨rfl,rfl⟩:=h;simp only [execOp,ho,Option.map_some,Option.map_none];rw [Sem.run_bind];simp only [Sig.sem,List.map_cons,List.map_nil] at hv;rw [hv];rfl)
 split at h
 all_goals first | (cases h;done) | skip
 all_goals rename_i hc
 all_goals
  simp only [Option.some.injEq,Prod.mk.injEq] at h
  obtain ⟨rfl,rfl⟩:=h
  simp only [execOp,ho,resolve,hc,Sem.run_bind,Sem.run_pure,Result.andThen_ok,invoke,builtin]
  simp only [Sig.sem,Array.toArray_toList] at hv
  rw [zp0,hv];rfl
inductive Ent where
 | call (c:Con)
 | pan (c:Con)
 | bin (op:BinOp) (T:TypeId) (x y out:Sh)
 | un (op:UnOp) (x out:Sh)
 | fb (n:Nat) (b:Bool)
 | op (g:Sig) (ins:List Sh) (pre:List Atom) (out:Sh)
 | dat (E:TypeId) (len:Nat) (ls:List Lf) (n:Nat)
 | glt (E:TypeId) (z:Nat) (ls:List Lf) (n:Nat)
 | app (T:TypeId) (z b n m:Nat) (arg:Sh) (pre:List Atom) (nil:Bool)
 | neu (fn:FuncId) (as:List Sh) (T:TypeId) (ls:List Lf)
 | st (T:TypeId) (bs:List Nat) (x y:Sh) (pre post:List Atom)
 | ap (t:TypeId) (bs:List Nat) (x y out:Sh) (pre post:List Atom)
 | inv (x:Lf) (T:TypeId) (rs:Sh) (c:Con)
 | aln (b:Nat)
 | mkm (n:Nat)
 | mks (T:TypeId) (l c out:Sh)
 | bic (op:BinOp) (T:TypeId) (x:Sh) (y:Value) (out:Sh)
 | up (t:TypeId) (bs:List Nat) (x k y:Sh) (pre post:List Atom)
structure Eff where
 val:Option Sh
 nw:Option (TypeId×List Lf)
 tch:List Nat
 wr:List Atom
 mv:List Nat
 pan:Option Sh
def Eff.v (x:Sh):Eff:=⟨some x,none,[],[],[],none⟩
def zkj (W:World) (z:Nat) (v:Value) (us:List Value):Prop:=
 ((∃c,v=.slice none 0 c)∧us=[])∨∃(a:Addr) (m c:Nat),v=.slice (some a) m c∧us.length=m*z∧∀j u,us[j]?=some u→W.cell? (a.add j)=some u
section
variable (K:Kit) (P:Program) (F:Fact)
def Atom.okB (β:Loc) (A:Atom) (W:World):Prop:=A.ok K F β ⟨#[],[]⟩ W
structure Back (c:Con) (β:Loc) (W:World) (v:Value) (β':Loc) (W':World):Prop where
 res:c.res.ok F β' v W'
 oth:Oth (fun q=>∃b∈names c.pre,β b=some q) W W'
 post:∀x∈c.post,x.okB K F β' W'
 eqv:∀b,b ∉ zk c.pre→β.same β' b
 dm:∀q,β.D q→β'.D q
 dn:∀q,β'.D q→β.D q∨W.heap.size≤q∨∃b∈zk c.pre,β b=some q
 mvd:∀b∈zk c.pre,∀q,β' b=some q→β b=some q∨W.heap.size≤q
 geo:Geo K β' W'
theorem Back.dn0 {K:Kit} {F:Fact} {c:Con} {β β':Loc} {W W':World} {v:Value} (h:Back K F c β W v β' W') (hg:zk c.pre=[]):∀q,β'.D q→β.D q∨W.heap.size≤q:=fun q hq=>(h.dn q hq).imp id fun h=>h.elim id fun ⟨b,hb,_⟩=>by rw [hg] at hb;cases hb
def Con.sound (c:Con):Prop:=c.pre.all Atom.isB=true∧∀(β:Loc) (W:World) (vs:List Value),shs F β c.as vs W→(∀x∈c.pre,x.okB K F β W)→Geo K β W →
 Calls P c.fn vs.toArray W fun e W'=>∃v β',e=.returned v∧Back K F c β W v β' W'
def Con.psound (c:Con):Prop:=c.pre.all Atom.isB=true∧∀(β:Loc) (W:World) (vs:List Value),shs F β c.as vs W→(∀x∈c.pre,x.okB K F β W)→Geo K β W →
 Calls P c.fn vs.toArray W fun e W'=>∃v β',e=.panicked [{ v,recovered:=false }]∧Back K F c β W v β' W'
def znL (fn:FuncId) (as:List Sh) (T:TypeId) (ls:List Lf):Prop:=∀(β:Loc) (W:World) (vs:List Value),shs F β as vs W→Geo K β W→Calls P fn vs.toArray W fun e W' =>
 ∃(q:Nat) (us:Array Value) (D':Dat),e=.returned (.pointer (some ⟨q,0,none⟩))∧W.heap.size≤q∧W'.heap[q]?=some (.cells us T (0,0))∧us.toList.all K.ck=true∧K.bt T=true∧oks F ⟨β.bx,β.len,D'⟩ ls us.toList W'∧¬ D' q∧Below W.heap.size W W'∧(∀r,β.D r→D' r)∧(∀r,D' r→β.D r∨W.heap.size≤r)∧∀r,D' r→r<W'.heap.size
def Ent.sound:Ent→Prop
 | .st T bs x y pre post=>∀(β:Loc) (W:World) (vx vy:Value),x.ok F β vx W→y.ok F β vy W→(∀z∈pre,z.okB K F β W)→Geo K β W→∃W',(Instr.storeAt T vx vy).run P W=.ok () W'∧Oth (fun q=>∃b∈bs,β b=some q) W W'∧∀z∈post,z.okB K F β W'
 | .ap t bs x y out pre post=>∀(β:Loc) (W:World) (vx vy:Value) (ty:TypeId),x.ok F β vx W→y.ok F β vy W→(∀z∈pre,z.okB K F β W)→Geo K β W→∃v β' W',(Builtin.append_ #[t,t] ty #[vx,vy]).run P W=.ok v W'∧Geo K β' W'∧(∀c,c ∉ bs→β.same β' c)∧(∀c∈bs,∀q,β' c=some q→β c=some q∨W.heap.size≤q)∧Oth (fun q=>∃b∈bs,β b=some q) W W'∧(∀q,β.D q→β'.D q)∧(∀q,β'.D q→β.D q∨W.heap.size≤q∨∃b∈bs,β b=some q)∧out.ok F β' v W'∧∀z∈post,z.okB K F β' W'
 | .inv x T rs c=>c.sound K P F∧∀(β:Loc) (W:World) (v:Value),x.ok F β v W→∃u,v=.iface T u∧rs.ok F β u W
 | .aln _=>True
 | .bic o T x y out=>∀(β:Loc) (W:World) (vx:Value),x.ok F β vx W→∃v,(∀X,(do eqGuard o T X (.const y) vx y;binOp o T vx y:Sem Value).run P W=.ok v W)∧out.ok F β v W
 | .mks T l c out=>∀(β:Loc) (W:World) (vl vc:Value),l.ok F β vl W→c.ok F β vc W→Geo K β W→∃v D' W',(Instr.makeSlice T vl vc).run P W=.ok v W'∧Oth (fun _=>False) W W'∧(∀q,β.D q→D' q)∧(∀q,D' q→β.D q∨(W.heap.size≤q∧q<W'.heap.size))∧out.ok F ⟨β.bx,β.len,D'⟩ v W'
 | .mkm n=>∀(v:Value) (q:Nat) (W:World) (D:Dat),v.ownBlock=some q→W.heap[q]?=some (.map #[] 0)→F.o n [v] [] W D
 | .up t bs x k y pre post=>∀(β:Loc) (W:World) (vx vk vy:Value),x.ok F β vx W→k.ok F β vk W→y.ok F β vy W→(∀z∈pre,z.okB K F β W)→Geo K β W→∃W',(Instr.mapUpdate t vx vk vy).run P W=.ok () W'∧Oth (fun q=>∃b∈bs,β b=some q) W W'∧∀z∈post,z.okB K F β W'
 | .neu fn as T ls=>znL K P F fn as T ls
 | .call c=>c.sound K P F
 | .pan c=>c.psound K P F
 | .bin o T x y out=>∀(β:Loc) (W:World) (vx vy:Value),x.ok F β vx W→y.ok F β vy W→∃v,(∀X Y,(do eqGuard o T X Y vx vy;binOp o T vx vy:Sem Value).run P W=.ok v W)∧out.ok F β v W
 | .op g ins pre out=>∀(β:Loc) (W:World) (vs:List Value),shs F β ins vs W→(∀x∈pre,x.okB K F β W)→Geo K β W→∃v,(g.sem vs).run P W=.ok v W∧out.ok F β v W
 | .fb n b=>∀v W D,F.c n v W D→v=.bool b
 | .un o x out=>∀(β:Loc) (W:World) (vx:Value),x.ok F β vx W→∃v,(Op.unary o vx).run P W=.ok v W∧out.ok F β v W
 | .dat E len ls n=>∀(β:Loc) (W:World) (q:Nat) (vs:List Value),oks F β ls vs W→W.heap[q]?=some (.cells vs.toArray E (0,0))→β.D q→F.c n (.slice (some ⟨q,0,none⟩) len len) W β.D
 | .glt _ z ls n=>(∀(D:Dat) (W W':World),Oth (fun _=>False) W W'→∀(β:Loc) (vs:List Value),oks F β ls vs W→(∀q,β.D q→D q)→F.g n vs W' D)∧z≠0
 | .app _ z _ n m arg pre nil=>∀(β:Loc) (W:World) (vx:Value),arg.ok F β vx W→(∀x∈pre,x.okB K F β W)→Geo K β W→∃us,zkj W z vx us∧us.all K.ck=true∧∀vs D,(if nil=true then vs=[] else F.g n vs W D)→(∀q,β.D q→D q)→F.g m (vs++us) W D∧(vs++us).length≤1099511627776
def Sound:List (Nat×Ent)→Prop
 | []=>True
 | c::r=>c.2.sound K P F∧Sound r
end
def ent (C:List (Nat×Ent)) (d:Nat):Option Ent:=match C with
 | []=>none
 | c::r=>if c.1 == d then some c.2 else ent r d
theorem zbO {K:Kit} {P:Program} {F:Fact} {d:Nat} {e:Ent}:∀{C:List (Nat×Ent)},ent C d=some e→Sound K P F C→e.sound K P F
 | [],h,_=>by simp [ent] at h
 | c::r,h,hs=>by
  unfold ent at h
  split at h
  ·injection h with h;rw [← h];exact hs.1
  ·exact zbO h hs.2
def glOf (b:Nat):List Atom→Option (TypeId×Nat×Nat)
 | []=>none
 | .gl c T z n::r=>if b == c then some (T,z,n) else glOf b r
 | _::r=>glOf b r
def gnIn (b:Nat):List Atom→Bool
 | []=>false
 | .gn c::r=>b == c || gnIn b r
 | _::r=>gnIn b r
def zaA (s:Nat):List Atom→Option Sh
 | []=>none
 | .sl t x::r=>if s == t then some x else zaA s r
 | _::r=>zaA s r
def boxOf (b:Nat):List Atom→Option (TypeId×List Lf)
 | []=>none
 | .bx c T ls::r=>if b == c then some (T,ls) else boxOf b r
 | _::r=>boxOf b r
def litSh:Value→Option Sh
 | .agg cs=>some (.o (.g (cs.toList.map .k)))
 | .tuple _=>none
 | v=>some (.o (.c (.k v)))
def opSh (av:List Atom):Operand→Option Sh
 | .tmp t=>zaA t av
 | .const v=>litSh v
 | .global g=>some (.o (.c (.k (.pointer (some ⟨g,0,none⟩)))))
 | .func e=>some (.o (.c (.q e [])))
def opShs (av:List Atom):List Operand→Option (List Sh)
 | []=>some []
 | x::r=>match opSh av x,opShs av r with
  | some s,some l=>some (s::l)
  | _,_=>none
section
variable {K:Kit} {F:Fact} {β:Loc} {a:Act} {W:World} {av:List Atom}
theorem qw {s:Nat} {x:Sh}:∀{av:List Atom},zaA s av=some x→(∀A∈av,A.ok K F β a W)→x.ok F β (a.tmps.getD s undef) W
 | [],h,_=>by simp [zaA] at h
 | .sl t y::r,h,hav=>by
  unfold zaA at h
  split at h
  ·rename_i he
   injection h with h
   have:=hav _ (List.mem_cons_self ..)
   rw [← h,show s=t by simpa using he];exact this
  ·exact qw h fun A hA=>hav A (List.mem_cons_of_mem _ hA)
 | .bx _ _ _::r,h,hav=>by
  unfold zaA at h
  exact qw h fun A hA=>hav A (List.mem_cons_of_mem _ hA)
 | .gl _ _ _ _::r,h,hav=>by
  unfold zaA at h
  exact qw h fun A hA=>hav A (List.mem_cons_of_mem _ hA)
 | .gn _::r,h,hav=>by
  unfold zaA at h
  exact qw h fun A hA=>hav A (List.mem_cons_of_mem _ hA)
 | .hp _ _ _::r,h,hav=>by
  unfold zaA at h
  exact qw h fun A hA=>hav A (List.mem_cons_of_mem _ hA)
theorem zaj {b:Nat} {T:TypeId} {ls:List Lf}:∀{av:List Atom},boxOf b av=some (T,ls)→(∀A∈av,A.ok K F β a W)→Box K F β b T ls W
 | [],h,_=>by simp [boxOf] at h
 | .bx c U ms::r,h,hav=>by
  unfold boxOf at h
  split at h
  ·rename_i he
   injection h with h
   injection h with h1 h2
   have:=hav _ (List.mem_cons_self ..)
   rw [← h1,← h2,show b=c by simpa using he];exact this
  ·exact zaj h fun A hA=>hav A (List.mem_cons_of_mem _ hA)
 | .sl _ _::r,h,hav=>by
  unfold boxOf at h
  exact zaj h fun A hA=>hav A (List.mem_cons_of_mem _ hA)
 | .gl _ _ _ _::r,h,hav=>by
  unfold boxOf at h
  exact zaj h fun A hA=>hav A (List.mem_cons_of_mem _ hA)
 | .gn _::r,h,hav=>by
  unfold boxOf at h
  exact zaj h fun A hA=>hav A (List.mem_cons_of_mem _ hA)
 | .hp _ _ _::r,h,hav=>by
  unfold boxOf at h
  exact zaj h fun A hA=>hav A (List.mem_cons_of_mem _ hA)
theorem zbp {b:Nat} {T:TypeId} {z n:Nat}:∀{av:List Atom},glOf b av=some (T,z,n)→(∀A∈av,A.ok K F β a W)→GL K F β b T z n W
 | [],h,_=>by simp [glOf] at h
 | .gl c U y m::r,h,hav=>by
  unfold glOf at h
  split at h
  ·rename_i he
   simp only [Option.some.injEq,Prod.mk.injEq] at h
   have:=hav _ (List.mem_cons_self ..)
   rw [← h.1,← h.2.1,← h.2.2,show b=c by simpa using he];exact this
  ·exact zbp h fun A hA=>hav A (List.mem_cons_of_mem _ hA)
 | .sl _ _::r,h,hav=>by
  unfold glOf at h
  exact zbp h fun A hA=>hav A (List.mem_cons_of_mem _ hA)
 | .bx _ _ _::r,h,hav=>by
  unfold glOf at h
  exact zbp h fun A hA=>hav A (List.mem_cons_of_mem _ hA)
 | .gn _::r,h,hav=>by
  unfold glOf at h
  exact zbp h fun A hA=>hav A (List.mem_cons_of_mem _ hA)
 | .hp _ _ _::r,h,hav=>by
  unfold glOf at h
  exact zbp h fun A hA=>hav A (List.mem_cons_of_mem _ hA)
theorem zbq {b:Nat}:∀{av:List Atom},gnIn b av=true→(∀A∈av,A.ok K F β a W)→β b=none
 | [],h,_=>by simp [gnIn] at h
 | .gn c::r,h,hav=>by
  unfold gnIn at h
  rw [Bool.or_eq_true,beq_iff_eq] at h
  rcases h with rfl | h
  ·exact hav _ (List.mem_cons_self ..)
  ·exact zbq h fun A hA=>hav A (List.mem_cons_of_mem _ hA)
 | .sl _ _::r,h,hav=>by
  unfold gnIn at h
  exact zbq h fun A hA=>hav A (List.mem_cons_of_mem _ hA)
 | .bx _ _ _::r,h,hav=>by
  unfold gnIn at h
  exact zbq h fun A hA=>hav A (List.mem_cons_of_mem _ hA)
 | .gl _ _ _ _::r,h,hav=>by
  unfold gnIn at h
  exact zbq h fun A hA=>hav A (List.mem_cons_of_mem _ hA)
 | .hp _ _ _::r,h,hav=>by
  unfold gnIn at h
  exact zbq h fun A hA=>hav A (List.mem_cons_of_mem _ hA)
def zF (av:List Atom):List Atom→Bool
 | []=>true
 | .bx b T ls::r=>(match boxOf b av with
  | some (U,ms)=>T == U && leqs ls ms
  | none=>false) && zF av r
 | .gl b T z n::r=>(match glOf b av with
  | some (U,y,m)=>T == U && z == y && n == m
  | none=>false) && zF av r
 | .hp bs rs n::r=>av.any (fun B=>aeq (.hp bs rs n) B) && zF av r
 | _::_=>false
theorem zO (hav:∀A∈av,A.ok K F β a W):∀{l:List Atom},zF av l=true→∀x∈l,x.okB K F β W
 | [],_,_,h=>by cases h
 | .bx b T ls::r,h,x,hx=>by
  unfold zF at h
  rw [Bool.and_eq_true] at h
  rcases List.mem_cons.1 hx with rfl | hx
  ·have h1:=h.1
   split at h1
   ·rename_i U ms hb
    rw [Bool.and_eq_true,beq_iff_eq] at h1
    rw [h1.1,zbs h1.2]
    exact zaj hb hav
   ·cases h1
  ·exact zO hav h.2 x hx
 | .gl b T z n::r,h,x,hx=>by
  unfold zF at h
  rw [Bool.and_eq_true] at h
  rcases List.mem_cons.1 hx with rfl | hx
  ·have h1:=h.1
   split at h1
   ·rename_i U y m hb
    simp only [Bool.and_eq_true,beq_iff_eq] at h1
    rw [h1.1.1,h1.1.2,h1.2]
    exact zbp hb hav
   ·cases h1
  ·exact zO hav h.2 x hx
 | .hp bs rs n::r,h,x,hx=>by
  unfold zF at h
  rw [Bool.and_eq_true,List.any_eq_true] at h
  rcases List.mem_cons.1 hx with rfl | hx
  ·obtain ⟨B,hB,he⟩:=h.1
   have:=hav B hB
   rw [← zcz he] at this
   exact this
  ·exact zO hav h.2 x hx
 | .sl _ _::_,h,_,_=>by simp [zF] at h
 | .gn _::_,h,_,_=>by simp [zF] at h
theorem qx:∀{l:List Atom},zF av l=true→l.all Atom.isB=true
 | [],_=>rfl
 | .bx b T ls::r,h=>by
  unfold zF at h
  rw [Bool.and_eq_true] at h
  rw [List.all_cons,qx h.2];rfl
 | .gl b T z n::r,h=>by
  unfold zF at h
  rw [Bool.and_eq_true] at h
  rw [List.all_cons,qx h.2];rfl
 | .hp bs rs n::r,h=>by
  unfold zF at h
  rw [Bool.and_eq_true] at h
  rw [List.all_cons,qx h.2];rfl
 | .sl _ _::_,h=>by simp [zF] at h
 | .gn _::_,h=>by simp [zF] at h
theorem zi4 {l:List Atom} (hg:Geo K β W) (h:∀x∈l,x.okB K F β W) (hB:l.all Atom.isB=true):∀q,(∃b∈names l,β b=some q)→Mlq K β.D W q:=by
 rintro q ⟨b,hb,hq⟩
 obtain ⟨x,hx,hbx⟩:=zdc.1 hb
 have h1:=h x hx
 have h2:=List.all_eq_true.1 hB x hx
 cases x with
 | bx c T ls=>obtain rfl:=List.mem_singleton.1 hbx;exact Box.ml hg h1 hq
 | gl c T z n=>obtain rfl:=List.mem_singleton.1 hbx;exact GL.ml hg h1 hq
 | sl s x=>cases h2
 | gn b=>cases h2
 | hp l rs n=>exact HP.ml hg h1 hbx hq
theorem znE {v:Value} {x:Sh} (h:litSh v=some x):x.ok F β v W:=by
 unfold litSh at h
 split at h
 ·injection h with h;subst h;exact ⟨_,rfl,oks_k _⟩
 ·simp at h
 ·injection h with h;subst h;rfl
theorem zr {x:Operand} {s:Sh} (h:opSh av x=some s) (hav:∀A∈av,A.ok K F β a W):s.ok F β (a.eval x) W:=by
 cases x with
 | tmp t=>exact qw h hav
 | const v=>exact znE h
 | global g=>unfold opSh at h;injection h with h;subst h;rfl
 | func e=>unfold opSh at h;injection h with h;subst h;exact ⟨#[],rfl,trivial⟩
theorem zcO:∀{xs:List Operand} {l:List Sh},opShs av xs=some l→(∀A∈av,A.ok K F β a W)→shs F β l (xs.map a.eval) W
 | [],_,h,_=>by unfold opShs at h;injection h with h;subst h;trivial
 | x::r,_,h,hav=>by
  unfold opShs at h
  split at h
  ·rename_i s l h1 h2
   injection h with h;subst h
   exact ⟨zr h1 hav,zcO h2 hav⟩
  ·simp at h
end
def Lf.ckb (K:Kit):Lf→Bool
 | .k v=>K.ck v
 | .h n=>Nat.blt n 5000
 | _=>true
def Sh.cells (K:Kit):Sh→Option (List Lf)
 | .o (.c l)=>if l.ckb K then some [l] else none
 | .o (.g ls)=>if ls.all (Lf.ckb K) then some ls else none
 | .t _=>none
section
variable {K:Kit} {F:Fact} {β:Loc} {W:World} (hF:Fine K F)
include hF
theorem zoZ {l:Lf} {v:Value} (h:l.ckb K=true) (hl:l.ok F β v W):K.ck v=true:=by
 cases l with
 | k x=>rw [show v=x from hl];exact h
 | h n=>exact hF.c n (by simpa [Lf.ckb] using h) hl
 | p b o=>obtain ⟨q,_,rfl⟩:=hl;rfl
 | s b o n c=>obtain ⟨q,_,rfl⟩:=hl;rfl
 | q e bs=>obtain ⟨cs,rfl,_⟩:=hl;rfl
 | m e b o=>obtain ⟨q,_,rfl⟩:=hl;rfl
 | gr b =>
  rw [show v=gv β b from hl]
  unfold gv
  split<;>rfl
 | pf b n=>obtain ⟨q,o,_,rfl,_⟩:=hl;rfl
 | po b =>
  rw [show v=pov β b from hl]
  unfold pov
  split<;>rfl
 | mp b=>obtain ⟨q,_,rfl⟩:=hl;rfl
theorem zlM:∀{ls:List Lf} {vs:List Value},ls.all (Lf.ckb K)=true→oks F β ls vs W→vs.all K.ck=true
 | [],[],_,_=>rfl
 | l::ls,v::vs,h,hl=>by
  rw [List.all_cons,Bool.and_eq_true] at h ⊢
  exact ⟨zoZ hF h.1 hl.1,zlM h.2 hl.2⟩
 | [],_::_,_,h=>h.elim
 | _::_,[],_,h=>h.elim
theorem zeq {x:Sh} {ls:List Lf} {v:Value} (h:x.cells K=some ls) (hx:x.ok F β v W):oks F β ls v.cells.toList W∧v.cells.toList.all K.ck=true:=by
 unfold Sh.cells at h
 split at h
 ·split at h
  ·rename_i l hl
   injection h with h;subst h
   have:=zoZ hF hl hx
   rw [znn this]
   exact ⟨⟨hx,trivial⟩,by simp [this]⟩
  ·simp at h
 ·split at h
  ·rename_i l hl
   injection h with h;subst h
   obtain ⟨vs,rfl,h2⟩:=hx
   exact ⟨h2,zlM hF hl h2⟩
  ·simp at h
 ·simp at h
end
section
variable (P:Program)
def szOf (T:TypeId):Option Nat:=(P.info? T).map (·.size)
def zah (T:TypeId):Option (List Value):=match P.info? T with
 | some i=>i.zero.map fun z=>z.cells.toList
 | none=>none
def aggOf (T:TypeId):Option Bool:=match P.underlying T with
 | some (.struct _)=>some true
 | some (.array _ _)=>some true
 | some _=>some false
 | none=>none
def places:List Field→Option (List (Nat×Nat))
 | []=>some []
 | x::r=>match szOf P x.type,places r with
  | some n,some l=>some ((x.offset,n)::l)
  | _,_=>none
end
section
variable {P:Program} {W:World}
theorem zeE {T:TypeId} {i:TypeInfo} (h:P.info? T=some i):(typeInfo T).run P W=.ok i W:=by
 unfold typeInfo
 rw [Sem.run_bind,run_program,Result.andThen_ok,h];rfl
theorem qn {T:TypeId} {n:Nat} (h:szOf P T=some n):(sizeOf T).run P W=.ok n W:=by
 unfold szOf at h
 cases hi:P.info? T with
 | none=>rw [hi] at h;simp at h
 | some i =>
  rw [hi] at h
  simp only [Option.map_some,Option.some.injEq] at h
  unfold sizeOf
  rw [Sem.run_bind,zeE hi,Result.andThen_ok,h];rfl
theorem zfw {T:TypeId} {zs:List Value} (h:zah P T=some zs):∃z,(zeroValue T).run P W=.ok z W∧z.cells.toList=zs:=by
 unfold zah at h
 split at h
 ·rename_i i hi
  cases hz:i.zero with
  | none=>rw [hz] at h;simp at h
  | some z =>
   rw [hz] at h
   simp only [Option.map_some,Option.some.injEq] at h
   refine ⟨z,?_,h⟩
   unfold zeroValue
   rw [Sem.run_bind,zeE hi,Result.andThen_ok,hz];rfl
 ·simp at h
theorem zW {T:TypeId} {d:TypeDesc} (h:P.underlying T=some d):(underlying T).run P W=.ok d W:=by
 unfold underlying
 rw [Sem.run_bind,run_program,Result.andThen_ok,h];rfl
theorem zbl {T:TypeId} {b:Bool} (h:aggOf P T=some b):(isAgg T).run P W=.ok b W:=by
 unfold aggOf at h
 cases hu:P.underlying T with
 | none=>rw [hu] at h;simp at h
 | some d =>
  rw [hu] at h
  unfold isAgg
  rw [Sem.run_bind,zW hu,Result.andThen_ok]
  cases d<;>simp_all
theorem zd6:∀{fs:List Field} {l:List (Nat×Nat)},places P fs=some l→(fs.mapM (fun x=>do pure (x.offset,← sizeOf x.type):Field→Sem (Nat×Nat))).run P W=.ok l W
 | [],l,h=>by unfold places at h;injection h with h;subst h;rfl
 | x::r,l,h=>by
  unfold places at h
  split at h
  ·rename_i n m h1 h2
   injection h with h;subst h
   rw [List.mapM_cons,Sem.run_bind,Sem.run_bind,qn h1,Result.andThen_ok,Sem.run_pure,Result.andThen_ok,Sem.run_bind,zd6 h2]
   rfl
  ·simp at h
end
def fillL (place:Nat→Option (Nat×Nat)) (cells:List Lf):List (Nat×List Lf)→Option (List Lf)
 | []=>some cells
 | (i,m)::rest=>match place i with
  | none=>none
  | some (off,size)=>if m.length == size && Nat.ble (off+m.length) cells.length then fillL place (spl cells off m) rest else none
theorem zcB {place:Nat→Option (Nat×Nat)}:∀{ps:List (Nat×List Lf)} {ls out:List Lf},fillL place ls ps=some out→out.length=ls.length
 | [],ls,out,h=>by unfold fillL at h;injection h with h;rw [h]
 | (i,m)::rest,ls,out,h=>by
  unfold fillL at h
  split at h
  ·cases h
  ·split at h
   ·rename_i hc
    rw [Bool.and_eq_true,Nat.ble_eq] at hc
    rw [zcB h,zjL hc.2]
   ·cases h
theorem zfK:∀(m:List Value) (k off:Nat) (arr:Array Value),off+k+m.length≤arr.size→((m.zipIdx k).foldl (fun cs x=>cs.setIfInBounds (off+x.2) x.1) arr)=(spl arr.toList (off+k) m).toArray
 | [],k,off,arr,_=>by simp [spl]
 | v::m,k,off,arr,h=>by
  rw [List.length_cons] at h
  rw [List.zipIdx_cons,List.foldl_cons,zfK m (k+1) off _ (by rw [Array.size_setIfInBounds];omega)]
  rw [Array.toList_setIfInBounds,show off+(k+1)=off+k+1 by omega,zhG _ _ _ _ (by simp;omega)]
def pls (F:Fact) (β:Loc) (W:World):List (Nat×List Lf)→List (Nat×Value)→Prop
 | [],[]=>True
 | x::xs,v::vs=>(x.1=v.1∧oks F β x.2 v.2.cells.toList W)∧pls F β W xs vs
 | _,_=>False
theorem zey {F:Fact} {β:Loc} {W:World} {place:Nat→Option (Nat×Nat)}:∀{ps:List (Nat×List Lf)} {vs:List (Nat×Value)} {ls out:List Lf} {arr:Array Value},pls F β W ps vs→fillL place ls ps=some out→oks F β ls arr.toList W →
  ∃arr',Instr.fill place arr vs=some arr'∧oks F β out arr'.toList W
 | [],[],ls,out,arr,_,h,ho=>by unfold fillL at h;injection h with h;subst h;exact ⟨arr,rfl,ho⟩
 | (i,m)::ps,(j,v)::vs,ls,out,arr,hp,h,ho=>by
  obtain ⟨⟨hij,hm⟩,hp⟩:=hp
  simp only at hij hm
  subst hij
  unfold fillL at h
  split at h
  ·simp at h
  ·rename_i off size hpl
   split at h
   ·rename_i hc
    rw [Bool.and_eq_true,beq_iff_eq,Nat.ble_eq] at hc
    have hl:=qb hm
    have hl2:=qb ho
    have h1:v.cells.size=size:=by rw [← Array.length_toList,hl];exact hc.1
    have h2:off+v.cells.size≤arr.size:=by rw [h1,← hc.1,← Array.length_toList,hl2];exact hc.2
    have h3:v.cells.zipIdx.foldl (fun cs (x:Value×Nat)=>cs.setIfInBounds (off+x.2) x.1) arr=(spl arr.toList off v.cells.toList).toArray:=by
     rw [← Array.foldl_toList,Array.toList_zipIdx]
     have:=zfK v.cells.toList 0 off arr (by simpa using h2)
     simpa using this
    obtain ⟨arr',h4,h5⟩:=zey (arr:=(spl arr.toList off v.cells.toList).toArray) hp h (by simpa using zlO ho hm)
    refine ⟨arr',?_,h5⟩
    unfold Instr.fill
    rw [hpl]
    simp only
    rw [if_neg (by simp [h1];omega)]
    exact (congrArg (fun z=>Instr.fill place z vs) h3).trans h4
   ·simp at h
 | [],_::_,_,_,_,h,_,_=>h.elim
 | _::_,[],_,_,_,h,_,_=>h.elim
section
variable (K:Kit) (P:Program) (F:Fact)
structure Step (β:Loc) (W:World) (e:Eff) (bn:Nat) (v:Value) (β':Loc) (W':World):Prop where
 geo:Geo K β' W'
 eqv:∀c,(e.nw=none∨c≠bn)→c ∉ e.mv→β.same β' c
 fresh:e.nw≠none→∀q,β' bn=some q→W.heap.size≤q
 mvd:∀c∈e.mv,∀q,β' c=some q→β c=some q∨W.heap.size≤q
 oth:Oth (fun q=>∃b∈e.tch,β b=some q) W W'
 mls:∀q,(∃b∈e.tch,β b=some q)→Mlq K β.D W q
 dm:∀q,β.D q→β'.D q
 dn:∀q,β'.D q→β.D q∨W.heap.size≤q∨∃c∈e.mv,β c=some q
 val:∀x,e.val=some x→x.ok F β' v W'
 nw:∀T ls,e.nw=some (T,ls)→Box K F β' bn T ls W'
 wr:∀x∈e.wr,x.okB K F β' W'
def After (a:Act) (o:Oper) (e:Eff) (N:Act→World→Prop) (Q:Exit→Act→World→Prop) (β':Loc) (v:Value) (W':World):Prop:=match e.pan with
 | none=>N (a.put o.dst v) W'
 | some x=>x.ok F β' v W'→Q (.panic [{ v,recovered:=false }]) a W'
def Does (β:Loc) (a:Act) (W:World) (o:Oper) (bn:Nat) (e:Eff):Prop:=
 ∀(N:Act→World→Prop) Q,(∀v β' W',Step K F β W e bn v β' W'→After F a o e N Q β' v W')→o.wp P a W N Q
end
section
variable {K:Kit} {P:Program} {F:Fact} {β:Loc} {a:Act} {W:World} {o:Oper} {bn:Nat} {av:List Atom}
theorem Step.same (hg:Geo K β W) {v:Value} {x:Option Sh} (hx:∀y,x=some y→y.ok F β v W):Step K F β W ⟨x,none,[],[],[],none⟩ bn v β W:=
 ⟨hg,fun _ _ _=>Loc.same.rfl,fun h=>absurd rfl h,(fun c h=>by cases h),Oth.refl _ W,fun q h=>(by obtain ⟨b,hb,_⟩:=h;cases hb),fun _ h=>h,fun _ h=>.inl h,hx,(fun T ls h=>by cases h),(fun x h=>by cases h)⟩
theorem Does.value (hg:Geo K β W) {v:Value} {x:Sh} (h:(execOp a.eval o).run P W=.ok (.value v) W) (hx:x.ok F β v W):Does K P F β a W o bn (Eff.v x):=by
 intro N Q hN
 unfold Oper.wp
 rw [h]
 exact hN v β W (Step.same hg fun y hy=>by injection hy with hy;rw [← hy];exact hx)
theorem Does.new (hF:Fine K F) (hg:Geo K β W) {v:Value} {x:Sh} {T:TypeId} {ls:List Lf} {vs:Array Value} (h:(execOp a.eval o).run P W=.ok (.value v) (W.alloc (.cells vs T)))
  (hx:x.ok F (set β bn W.heap.size) v (W.alloc (.cells vs T))) (hl:oks F β ls vs.toList W) (hc:vs.toList.all K.ck=true) (hb:K.bt T=true) (hn:lfs bn ls=false):Does K P F β a W o bn ⟨some x,some (T,ls),[],[],[],none⟩:=by
 intro N Q hN
 unfold Oper.wp
 rw [h]
 have hO:Oth (fun _=>False) W (W.alloc (.cells vs T)):=Oth.alloc _ _ _
 refine hN v (set β bn W.heap.size) _ ⟨hg.set rfl (by simp) hO,fun c h _=>zma (h.resolve_left (by simp)),fun _ q hq=>?_,(fun c h=>by cases h),Oth.alloc _ _ _,fun q h=>(by obtain ⟨b,hb,_⟩:=h;cases hb),fun _ h=>h,fun _ h=>.inl h,(fun y hy=>by injection hy with hy;rw [← hy];exact hx),(fun U ms h=>?_),(fun x h=>by cases h)⟩
 ·rw [zQ] at hq;injection hq with hq;omega
 ·injection h with h
  injection h with h1 h2
  subst h1;subst h2
  exact ⟨W.heap.size,vs,zQ ..,heap_alloc_new W _,zbe (β:=β) (β':=set β bn W.heap.size) hF (fun _ h=>h.elim) hO (fun _ h=>h) (fun b hb=>zma (fun e=>by subst e;rw [hn] at hb;cases hb)) hl,hc,hb,hg.bel.size⟩
def ptr (av:List Atom) (x:Operand):Option (Nat×Nat×TypeId×List Lf):=match opSh av x with
 | some (.o (.c (.p b o)))=>match boxOf b av with
  | some (T,ls)=>some (b,o,T,ls)
  | none=>none
 | _=>none
theorem zlT {x:Operand} {b i:Nat} {T:TypeId} {ls:List Lf} (h:ptr av x=some (b,i,T,ls)) (hav:∀A∈av,A.ok K F β a W):Box K F β b T ls W∧∃q,β b=some q∧a.eval x=.pointer (some ⟨q,i,none⟩):=by
 unfold ptr at h
 split at h
 ·rename_i b' o' hs
  split at h
  ·rename_i T' ls' hb
   simp only [Option.some.injEq,Prod.mk.injEq] at h
   obtain ⟨h1,h2,h3,h4⟩:=h
   subst h1 h2 h3 h4
   exact ⟨zaj hb hav,zr hs hav⟩
  ·simp at h
 ·simp at h
def zcf (P:Program) (av:List Atom) (T:TypeId) (x:Operand):Option Eff:=match ptr av x with
 | some (_,i,_,ls)=>match szOf P T,aggOf P T with
  | some n,some true=>if Nat.ble (i+n) ls.length then some (.v (.o (.g ((ls.drop i).take n)))) else none
  | _,some false=>match ls[i]? with
   | some l=>some (.v (.o (.c l)))
   | none=>none
  | _,_=>none
 | none=>none
theorem zda {T U:TypeId} {n q i:Nat} {vs:Array Value} (hz:szOf P T=some n) (hA:aggOf P T=some true) (hh:W.heap[q]?=some (.cells vs U (0,0))) (hl:i+n≤vs.size) :
  (loadVar T ⟨q,i,none⟩).run P W=.ok (.agg ((vs.toList.drop i).take n).toArray) W:=by
 unfold loadVar
 rw [Sem.run_bind,zbl hA,Result.andThen_ok,if_pos rfl,Sem.run_bind,qn hz,Result.andThen_ok,Sem.run_bind,loadCells,zeG hh n 0 _ (by omega)]
 simp
theorem zdb {T U:TypeId} {q i:Nat} {vs:Array Value} {v:Value} (hA:aggOf P T=some false) (hh:W.heap[q]?=some (.cells vs U (0,0))) (hv:vs[i]?=some v) :
  (loadVar T ⟨q,i,none⟩).run P W=.ok v W:=by
 unfold loadVar
 rw [Sem.run_bind,zbl hA,Result.andThen_ok,if_neg (by decide),run_load,zq hh,hv]
theorem zlr (hav:∀A∈av,A.ok K F β a W) (hg:Geo K β W) {T:TypeId} {x:Operand} {e:Eff} (ho:o.op=.load T x) (h:zcf P av T x=some e):Does K P F β a W o bn e:=by
 unfold zcf at h
 split at h
 case h_2=>simp at h
 rename_i b i U ls hp
 obtain ⟨⟨q,vs,hq,hh,hl,_,_,_⟩,q',hq',hx⟩:=zlT hp hav
 have:q'=q:=by rw [hq] at hq';exact (Option.some.inj hq').symm
 subst this
 have hex:∀v,(loadVar T ⟨q',i,none⟩).run P W=.ok v W→(execOp a.eval o).run P W=.ok (.value v) W:=by
  intro v hv
  simp only [execOp,ho,hx,Instr.loadAt,Instr.sureAddr,Sem.run_bind,Sem.run_pure,Result.andThen_ok,hv]
 have hlen:=qb hl
 split at h
 ·rename_i n hz hA
  split at h
  ·rename_i hle
   rw [Nat.ble_eq] at hle
   injection h with h;subst h
   exact Does.value hg (hex _ (zda hz hA hh (by simpa [← hlen] using hle))) ⟨_,rfl,zb1 n (zb0 i hl)⟩
  ·simp at h
 ·rename_i hA
  split at h
  ·rename_i l hli
   injection h with h;subst h
   obtain ⟨v,hv,hv2⟩:=zeU hl hli
   exact Does.value hg (hex _ (zdb hA hh (by simpa using hv))) hv2
  ·simp at h
 ·simp at h
def zex (K:Kit) (P:Program) (av:List Atom) (T:TypeId) (x y:Operand):Option Eff:=match ptr av x,opSh av y with
 | some (b,i,U,ls),some s=>match s.cells K,szOf P T with
  | some cs,some n=>if cs.length == n && Nat.ble (i+n) ls.length then some ⟨none,none,[b],[.bx b U (spl ls i cs)],[],none⟩ else none
  | _,_=>none
 | _,_=>none
theorem zjM (hF:Fine K F) (hav:∀A∈av,A.ok K F β a W) (hg:Geo K β W) {T:TypeId} {x y:Operand} {e:Eff} (ho:o.op=.store T x y) (h:zex K P av T x y=some e):Does K P F β a W o bn e:=by
 unfold zex at h
 split at h
 case h_2=>simp at h
 rename_i b i U ls s hp hs
 split at h
 case h_2=>simp at h
 rename_i cs n hc hz
 split at h
 case isFalse=>simp at h
 rename_i hle
 rw [Bool.and_eq_true,beq_iff_eq,Nat.ble_eq] at hle
 injection h with h;subst h
 have hbox:=zlT hp hav
 obtain ⟨⟨q,vs,hq,hh,hl,hck,hbt,hw0⟩,q',hq',hx⟩:=hbox
 have:q'=q:=by rw [hq] at hq';exact (Option.some.inj hq').symm
 subst this
 obtain ⟨hcs,hcc⟩:=zeq hF hc (zr hs hav)
 have hlen:=qb hl
 have hlen2:=qb hcs
 obtain ⟨W',hrun,hput⟩:=zgd (P:=P) (o:=i) (a.eval y).cells.toList 0 W vs hh (by rw [hlen2,hle.1];simpa [← hlen] using hle.2) (fun v hv=>zoY (List.all_eq_true.1 hcc v hv))
 have hex:(execOp a.eval o).run P W=.ok .skip W':=by
  simp only [execOp,ho,hx,Instr.storeAt,Instr.sureAddr,Sem.run_bind,Sem.run_pure,Result.andThen_ok,storeVar,qn hz]
  rw [if_neg (by rw [← Array.length_toList,hlen2,hle.1];simp)]
  rw [hrun];rfl
 intro N Q hN
 unfold Oper.wp
 rw [hex]
 have hS:∀r,(∃c∈[b],β c=some r)→r=q':=by
  rintro r ⟨c,hc,hr⟩
  rw [List.mem_singleton] at hc
  subst hc
  rw [hq] at hr;exact (Option.some.inj hr).symm
 have hml:∀r,(r=q')→Mlq K β.D W r:=by
  rintro r rfl
  exact ⟨hw0,hg.dis b r hq,_,hh,by simp only [ml,mlf,hbt];exact hck⟩
 refine hN undef β W' ⟨hg.mono hml hput.oth,fun _ _ _=>Loc.same.rfl,fun h=>absurd rfl h,(fun c h=>by cases h),hput.oth.mono (fun r hr=>⟨b,by simp,by rw [hr];exact hq⟩),fun r hr=>hml r (hS r hr),fun _ h=>h,fun _ h=>.inl h,fun x h=>by simp at h,fun T ls h=>by simp at h,fun z hz=>?_⟩
 rw [List.mem_singleton] at hz
 subst hz
 have e1:=zbe hF hml hput.oth (fun _ h=>h) (fun _ _=>Loc.same.rfl) hl
 have e2:=zbe hF hml hput.oth (fun _ h=>h) (fun _ _=>Loc.same.rfl) hcs
 refine ⟨q',_,hq,hput.here,?_,?_,hbt,hw0⟩
 ·simpa using zlO e1 e2
 ·simpa using zqK (o:=i) hck hcc
def zcG (K:Kit) (P:Program) (bn:Nat) (T:TypeId):Option Eff:=match zah P T with
 | some zs=>if zs.all K.ck && K.bt T then some ⟨some (.o (.c (.p bn 0))),some (T,zs.map .k),[],[],[],none⟩ else none
 | none=>none
theorem lfs_k (b:Nat):∀vs:List Value,lfs b (vs.map .k)=false
 | []=>rfl
 | _::vs=>by rw [List.map_cons,lfs,List.any_cons];exact lfs_k b vs
theorem zdP (hF:Fine K F) (hg:Geo K β W) {T:TypeId} {e:Eff} (ho:o.op=.alloc T) (h:zcG K P bn T=some e):Does K P F β a W o bn e:=by
 unfold zcG at h
 split at h
 case h_2=>simp at h
 rename_i zs hz
 split at h
 case isFalse=>simp at h
 rename_i hc
 rw [Bool.and_eq_true] at hc
 injection h with h;subst h
 obtain ⟨z,h1,h2⟩:=zfw (W:=W) hz
 refine Does.new (v:=.pointer (some ⟨W.heap.size,0,none⟩)) (vs:=z.cells) hF hg ?_ ⟨_,zQ ..,rfl⟩ (by rw [h2];exact oks_k _) (by rw [h2];exact hc.1) hc.2 (lfs_k _ _)
 simp only [execOp,ho,Instr.alloc,Sem.run_bind,h1,Result.andThen_ok,newVar,newRow,run_newObj,Sem.run_pure]
 rfl
def ziw (K:Kit) (bn:Nat) (av:List Atom) (T:TypeId) (x:Operand):Option Eff:=match opSh av x with
 | some s=>match s.cells K with
  | some cs=>if K.bt T && !lfs bn cs then some ⟨some (.o (.c (.p bn 0))),some (T,cs),[],[],[],none⟩ else none
  | none=>none
 | none=>none
theorem zio (hF:Fine K F) (hav:∀A∈av,A.ok K F β a W) (hg:Geo K β W) {T:TypeId} {x:Operand} {e:Eff} (ho:o.op=.box T x) (h:ziw K bn av T x=some e):Does K P F β a W o bn e:=by
 unfold ziw at h
 split at h
 case h_2=>simp at h
 rename_i s hs
 split at h
 case h_2=>simp at h
 rename_i cs hc
 split at h
 case isFalse=>simp at h
 rename_i hb
 rw [Bool.and_eq_true,Bool.not_eq_true'] at hb
 injection h with h;subst h
 obtain ⟨h1,h2⟩:=zeq hF hc (zr hs hav)
 refine Does.new (v:=.pointer (some ⟨W.heap.size,0,none⟩)) (vs:=(a.eval x).cells) hF hg ?_ ⟨_,zQ ..,rfl⟩ h1 h2 hb.1 hb.2
 simp only [execOp,ho,Instr.box,Sem.run_bind,Result.andThen_ok,newVar,newRow,run_newObj,Sem.run_pure]
 rfl
def zcr (K:Kit) (av:List Atom):List (Nat×Operand)→Option (List (Nat×List Lf))
 | []=>some []
 | x::r=>match opSh av x.2,zcr K av r with
  | some s,some l=>match s.cells K with
   | some cs=>some ((x.1,cs)::l)
   | none=>none
  | _,_=>none
theorem zeV (hF:Fine K F) (hav:∀A∈av,A.ok K F β a W):∀{xs:List (Nat×Operand)} {l:List (Nat×List Lf)},zcr K av xs=some l→pls F β W l (xs.map fun x=>(x.1,a.eval x.2))
 | [],_,h=>by unfold zcr at h;injection h with h;subst h;trivial
 | x::r,_,h=>by
  unfold zcr at h
  split at h
  ·rename_i s l h1 h2
   split at h
   ·rename_i cs hc
    injection h with h;subst h
    exact ⟨⟨rfl,(zeq hF hc (zr h1 hav)).1⟩,zeV hF hav h2⟩
   ·simp at h
  ·simp at h
def zet (K:Kit) (P:Program) (av:List Atom) (T:TypeId) (ps:Array (Nat×Operand)):Option Eff:=match zah P T,zcr K av ps.toList with
 | some zs,some pl=>match P.underlying T with
  | some (.struct fs)=>match places P fs.toList with
   | some ws=>(fillL (fun i=>ws[i]?) (zs.map .k) pl).map fun ls=>.v (.o (.g ls))
   | none=>none
  | some (.array _ E)=>match szOf P E with
   | some n=>(fillL (fun i=>some (i*n,n)) (zs.map .k) pl).map fun ls=>.v (.o (.g ls))
   | none=>none
  | _=>none
 | _,_=>none
theorem zjx (hF:Fine K F) (hav:∀A∈av,A.ok K F β a W) (hg:Geo K β W) {T:TypeId} {ps:Array (Nat×Operand)} {e:Eff} (ho:o.op=.build T ps) (h:zet K P av T ps=some e):Does K P F β a W o bn e:=by
 unfold zet at h
 split at h
 case h_2=>simp at h
 rename_i zs pl hz hp
 obtain ⟨z,hz1,hz2⟩:=zfw (W:=W) hz
 have hpl:=zeV hF hav hp
 have hzo:oks F β (zs.map .k) z.cells.toList W:=by rw [hz2];exact oks_k _
 have hlist:(ps.map fun x=>(x.1,a.eval x.2)).toList=ps.toList.map fun x=>(x.1,a.eval x.2):=by simp
 split at h
 ·rename_i fs hu
  split at h
  case h_2=>simp at h
  rename_i ws hw
  cases hf:fillL (fun i=>ws[i]?) (zs.map .k) pl with
  | none=>rw [hf] at h;simp at h
  | some ls =>
   rw [hf] at h
   injection h with h;subst h
   obtain ⟨arr,h1,h2⟩:=zey hpl hf hzo
   refine Does.value (v:=.agg arr) hg ?_ ⟨_,rfl,h2⟩
   have hm:(fs.mapM (fun x=>do pure (x.offset,← sizeOf x.type):Field→Sem (Nat×Nat))).run P W=.ok ws.toArray W:=by
    rw [Array.mapM_eq_mapM_toList,Sem.run_map,zd6 hw];rfl
   simp only [execOp,ho,Instr.build,Sem.run_bind,hz1,Result.andThen_ok,zW hu,hm,hlist]
   rw [show (fun x=>ws.toArray[x]?)=fun i=>ws[i]? by funext i;simp,h1]
   rfl
 ·rename_i m E hu
  split at h
  case h_2=>simp at h
  rename_i n hn
  cases hf:fillL (fun i=>some (i*n,n)) (zs.map .k) pl with
  | none=>rw [hf] at h;simp at h
  | some ls =>
   rw [hf] at h
   injection h with h;subst h
   obtain ⟨arr,h1,h2⟩:=zey hpl hf hzo
   refine Does.value (v:=.agg arr) hg ?_ ⟨_,rfl,h2⟩
   simp only [execOp,ho,Instr.build,Sem.run_bind,hz1,Result.andThen_ok,zW hu,qn hn,hlist,h1]
   rfl
 ·simp at h
end
section
variable {K:Kit} {P:Program} {F:Fact} {β:Loc} {a:Act} {W:World} {o:Oper} {bn:Nat} {av:List Atom}
def zhE (K:Kit) (P:Program) (av:List Atom) (T:TypeId) (len:Nat) (ps:Array (Nat×Operand)):Option (TypeId×Nat×List Lf):=match P.underlying T,zcr K av ps.toList with
 | some (.slice E),some pl=>match szOf P E,zah P E with
  | some n,some zs=>if Nat.ble (len*n) (2 ^ 24) then
    match fillL (fun i=>some (i*n,n)) (((List.range (len*n)).map fun i=>zs.getD (i%zs.length) default).map .k) pl with
    | some ls=>if K.bt E && ls.all (Lf.ckb K) then some (E,n,ls) else none
    | none=>none
   else none
  | _,_=>none
 | _,_=>none
theorem zhF (hF:Fine K F) (hav:∀A∈av,A.ok K F β a W) {T E:TypeId} {len n:Nat} {ps:Array (Nat×Operand)} {ls:List Lf} (ho:o.op=.buildSlice T len ps) (h:zhE K P av T len ps=some (E,n,ls)) :
  ∃arr:Array Value,(execOp a.eval o).run P W=.ok (.value (.slice (some ⟨W.heap.size,0,none⟩) len len)) (W.alloc (.cells arr E))∧oks F β ls arr.toList W∧arr.toList.all K.ck=true∧K.bt E=true∧arr.size=len*n∧len*n≤2 ^ 24:=by
 unfold zhE at h
 split at h
 case h_2=>simp at h
 rename_i E' pl hu hp
 split at h
 case h_2=>simp at h
 rename_i n' zs hn hz
 split at h
 case isFalse=>simp at h
 rename_i hle
 rw [Nat.ble_eq] at hle
 split at h
 case h_2=>simp at h
 rename_i ls' hf
 split at h
 case isFalse=>simp at h
 rename_i hb
 simp only [Bool.and_eq_true] at hb
 simp only [Option.some.injEq,Prod.mk.injEq] at h
 obtain ⟨rfl,rfl,rfl⟩:=h
 obtain ⟨z,hz1,hz2⟩:=zfw (W:=W) hz
 have hpl:=zeV hF hav hp
 have hlist:(ps.map fun x=>(x.1,a.eval x.2)).toList=ps.toList.map fun x=>(x.1,a.eval x.2):=by simp
 obtain ⟨zero,hz0⟩:∃zero:Array Value,(len*n'=0∧zero=#[])∨(len*n'≠0∧zero=z.cells):=by
  by_cases h0:len*n'=0
  ·exact ⟨#[],.inl ⟨h0,rfl⟩⟩
  ·exact ⟨z.cells,.inr ⟨h0,rfl⟩⟩
 have hbase:(((Array.range (len*n')).map fun i=>zero[i%zero.size]!).toList)=(List.range (len*n')).map fun i=>zs.getD (i%zs.length) default:=by
  rcases hz0 with ⟨h0,_⟩ | ⟨_,h0⟩
  ·simp [h0]
  ·subst h0
   rw [← hz2,Array.toList_map,Array.toList_range]
   apply List.map_congr_left
   intro i _
   rw [List.getD_eq_getElem?_getD,Array.getElem?_toList,Array.length_toList,getElem!_def]
   cases z.cells[i%z.cells.size]?<;>rfl
 obtain ⟨arr,h1,h2⟩:=zey (arr:=(Array.range (len*n')).map fun i=>zero[i%zero.size]!) hpl hf (by rw [hbase];exact oks_k _)
 have hsz:arr.size=len*n':=by
  have e1:=qb h2
  have e2:=zcB hf
  rw [List.length_map,List.length_map,List.length_range] at e2
  rw [← Array.length_toList,e1,e2]
 refine ⟨arr,?_,h2,zlM hF hb.2 h2,hb.1,hsz,hle⟩
 simp only [execOp,ho,Instr.buildSlice,Sem.run_bind,Result.andThen_ok,zW hu,qn hn]
 rw [if_neg (by omega)]
 rcases hz0 with ⟨h0,hz⟩ | ⟨h0,hz⟩
 ·subst hz
  simp only [if_pos h0,Sem.run_bind,Sem.run_pure,hlist,h1,newRow,run_newObj,Result.andThen_ok]
  rfl
 ·subst hz
  simp only [if_neg h0,Sem.run_bind,Sem.run_pure,hz1,hlist,h1,newRow,run_newObj,Result.andThen_ok]
  rfl
def zal (K:Kit) (P:Program) (bn:Nat) (av:List Atom) (n:Option Ent) (T:TypeId) (len:Nat) (ps:Array (Nat×Operand)):Option Eff:=match zhE K P av T len ps with
 | some (E,z,ls)=>match n with
  | some (.dat E' len' ls' n)=>if E == E' && len == len' && leqs ls ls' then some (.v (.o (.c (.h n)))) else none
  | some (.glt E' z' ls' n)=>if E == E' && z == z' && leqs ls ls' then some ⟨some (.o (.c (.gr bn))),none,[],[.gl bn E z n],[bn],none⟩ else none
  | _=>if !lfs bn ls then some ⟨some (.o (.c (.s bn 0 len len))),some (E,ls),[],[],[],none⟩ else none
 | none=>none
theorem zcV (hF:Fine K F) (hav:∀A∈av,A.ok K F β a W) (hg:Geo K β W) {n:Option Ent} (hn:∀e,n=some e→e.sound K P F) {T:TypeId} {len:Nat} {ps:Array (Nat×Operand)} {e:Eff} (ho:o.op=.buildSlice T len ps) (h:zal K P bn av n T len ps=some e):Does K P F β a W o bn e:=by
 unfold zal at h
 split at h
 case h_2=>cases h
 rename_i E z ls hsp
 obtain ⟨arr,hrun,hoks,hck,hbt,hsz,hle⟩:=zhF hF hav ho hsp
 have hO:Oth (fun _=>False) W (W.alloc (.cells arr E)):=Oth.alloc _ _ _
 split at h
 ·rename_i E' len' ls' m
  split at h
  case isFalse=>cases h
  rename_i hc
  simp only [Bool.and_eq_true,beq_iff_eq] at hc
  obtain ⟨⟨rfl,rfl⟩,hl⟩:=hc
  have:=zbs hl
  subst this
  injection h with h;subst h
  intro N Q hN
  unfold Oper.wp
  rw [hrun]
  let β':Loc:=⟨β.bx,β.len,fun q=>β.D q∨q=W.heap.size⟩
  have hD:∀q,β.D q→β'.D q:=fun q h=>.inl h
  have hsm:∀c,β.same β' c:=fun c=>Loc.same.rfl
  have hoks':=zbe (β':=β') hF (fun _ h=>h.elim) hO hD (fun b _=>hsm b) hoks
  refine hN _ β' _ ⟨⟨fun b q hb=>?_,hg.inj,hg.bel.trans (hO.ofOth (fun _ h=>h.elim) hg.bel.size),fun b q hb hd=>?_,fun q hq=>?_,fun q hq=>.inl (hg.low q hq)⟩,fun c _ _=>hsm c,fun h=>absurd rfl h,(fun c h=>by cases h),Oth.alloc _ _ _,fun q h=>(by obtain ⟨b,hb,_⟩:=h;cases hb),hD,fun q hq=>hq.imp id fun e=>.inl (by rw [e];exact Nat.le_refl _),fun y hy=>?_,(fun T ls h=>by cases h),(fun x h=>by cases h)⟩
  ·have:=hg.lt b q hb;simp;omega
  ·rcases hd with hd | hd
   ·exact hg.dis b q hb hd
   ·have:=hg.lt b q hb;omega
  ·rcases hq with hq | hq
   ·have:=hg.dlt q hq;simp;omega
   ·simp;omega
  ·injection hy with hy;subst hy
   exact hn _ rfl β' _ W.heap.size arr.toList hoks' (heap_alloc_new W _) (.inr rfl)
 ·rename_i E' z' ls' m
  split at h
  case isFalse=>cases h
  rename_i hc
  simp only [Bool.and_eq_true,beq_iff_eq] at hc
  obtain ⟨⟨rfl,rfl⟩,hl⟩:=hc
  have:=zbs hl
  subst this
  injection h with h;subst h
  intro N Q hN
  unfold Oper.wp
  rw [hrun]
  let β':Loc:=⟨fun c=>if c=bn then some W.heap.size else β c,fun c=>if c=bn then (len,len) else β.len c,β.D⟩
  have hsm:∀c,c≠bn→β.same β' c:=fun c hc=>⟨if_neg hc,if_neg hc⟩
  have hgs:=hg.set (b:=bn) rfl (by simp:W.heap.size<(W.alloc (.cells arr E)).heap.size) hO
  have hgv:gv β' bn=.slice (some ⟨W.heap.size,0,none⟩) len len:=by
   unfold gv;simp [β']
  have hgl:glen β' bn=len:=by
   unfold glen;simp [β']
  refine hN _ β' _ ⟨⟨hgs.lt,hgs.inj,hgs.bel,hgs.dis,hgs.dlt,hgs.low⟩,fun c _ hc=>hsm c (by simpa using hc),fun h=>absurd rfl h,fun c hc q hq=>?_,Oth.alloc _ _ _,fun q h=>(by obtain ⟨b,hb,_⟩:=h;cases hb),fun _ h=>h,fun _ h=>.inl h,fun y hy=>?_,(fun T ls h=>by cases h),fun x hx=>?_⟩
  ·rw [List.mem_singleton] at hc
   subst hc
   have:some W.heap.size=some q:=by simpa [β'] using hq
   injection this with this
   exact .inr (by omega)
  ·injection hy with hy;subst hy
   exact hgv.symm
  ·rw [List.mem_singleton] at hx
   subst hx
   refine ⟨arr.toList,?_,?_,fun q hq=>?_⟩
   ·rw [hgv,hgl]
    refine ⟨by rw [Array.length_toList,hsz],.inr ⟨W.heap.size,len,arr,rfl,hg.bel.size,heap_alloc_new W _,Nat.le_refl _,?_,hsz,?_⟩⟩
    ·rcases Nat.eq_zero_or_pos z with hz | hz
     ·exact absurd hz (hn _ rfl).2
     ·have:=Nat.le_mul_of_pos_right len hz
      simp only [maxLen];omega
    ·rw [List.take_of_length_le (by rw [Array.length_toList,hsz];exact Nat.le_refl _)]
   ·exact (hn _ rfl).1 β'.D _ _ (Oth.alloc _ _ _) β arr.toList hoks (fun _ h=>h)
   ·have:some W.heap.size=some q:=by simpa [β'] using hq
    injection this with this
    subst this
    exact ⟨_,heap_alloc_new W _,by simp only [ml,mlf,hbt];exact hck⟩
 ·split at h
  case isFalse=>cases h
  rename_i hb
  rw [Bool.not_eq_true'] at hb
  injection h with h;subst h
  exact Does.new (v:=.slice (some ⟨W.heap.size,0,none⟩) len len) (vs:=arr) hF hg hrun ⟨_,zQ ..,rfl⟩ hoks hck hbt hb
def zeu (P:Program) (av:List Atom) (T:TypeId) (x:Operand) (i:Nat):Option Eff:=match P.underlying T,opSh av x with
 | some (.struct fs),some (.o (.g ls))=>match fs[i]? with
  | some d=>match aggOf P d.type,szOf P d.type with
   | some true,some n=>some (.v (.o (.g ((ls.drop d.offset).take n))))
   | some false,_=>match ls[d.offset]? with
    | some l=>some (.v (.o (.c l)))
    | none=>none
   | _,_=>none
  | none=>none
 | _,_=>none
theorem zjC (hav:∀A∈av,A.ok K F β a W) (hg:Geo K β W) {T:TypeId} {x:Operand} {i:Nat} {e:Eff} (ho:o.op=.field T x i) (h:zeu P av T x i=some e):Does K P F β a W o bn e:=by
 unfold zeu at h
 split at h
 case h_2=>simp at h
 rename_i fs ls hu hs
 split at h
 case h_2=>simp at h
 rename_i d hd
 obtain ⟨vs,hv,hl⟩:=zr hs hav
 have hex:∀v,(part d.type vs d.offset).run P W=.ok v W→(execOp a.eval o).run P W=.ok (.value v) W:=by
  intro v hv2
  simp only [execOp,ho,hv,Instr.field,Sem.run_bind,zW hu,Result.andThen_ok,hd,asAgg,Sem.run_pure,hv2]
 split at h
 ·rename_i n hA hn
  injection h with h;subst h
  refine Does.value (v:=.agg (vs.extract d.offset (d.offset+n))) hg (hex _ ?_) ⟨_,rfl,?_⟩
  ·unfold part
   rw [Sem.run_bind,zbl hA,Result.andThen_ok,if_pos rfl,Sem.run_bind,qn hn];rfl
  ·have:=zb1 n (zb0 d.offset hl)
   rw [Array.toList_extract,List.extract_eq_take_drop,Nat.add_sub_cancel_left]
   exact this
 ·rename_i hA
  split at h
  case h_2=>simp at h
  rename_i l hli
  injection h with h;subst h
  obtain ⟨v,hv1,hv2⟩:=zeU hl hli
  refine Does.value (v:=v) hg (hex _ ?_) hv2
  unfold part
  rw [Sem.run_bind,zbl hA,Result.andThen_ok,if_neg (by decide),show vs[d.offset]?=some v by simpa using hv1];rfl
 ·simp at h
def zaF (P:Program) (av:List Atom) (T:TypeId) (x:Operand) (i:Nat):Option Eff:=match P.underlying T,opSh av x with
 | some (.struct fs),some (.o (.c (.p b k)))=>match fs[i]? with
  | some d=>match szOf P d.type with
   | some (_+1)=>some (.v (.o (.c (.p b (k+d.offset)))))
   | _=>none
  | none=>none
 | _,_=>none
theorem zdH (hav:∀A∈av,A.ok K F β a W) (hg:Geo K β W) {T:TypeId} {x:Operand} {i:Nat} {e:Eff} (ho:o.op=.fieldAddr T x i) (h:zaF P av T x i=some e):Does K P F β a W o bn e:=by
 unfold zaF at h
 split at h
 case h_2=>simp at h
 rename_i fs b k hu hs
 split at h
 case h_2=>simp at h
 rename_i d hd
 split at h
 case h_2=>simp at h
 rename_i m hn
 injection h with h;subst h
 obtain ⟨q,hq,hv⟩:=zr hs hav
 refine Does.value (v:=.pointer (some ⟨q,k+d.offset,none⟩)) hg ?_ ⟨q,hq,rfl⟩
 simp only [execOp,ho,hv,Instr.fieldAt,Sem.run_bind,zW hu,Result.andThen_ok,hd,Instr.sureAddr,Sem.run_pure,fieldPlace,qn hn]
 rw [if_neg (by omega),qW];rfl
def zaG (P:Program) (av:List Atom) (T:TypeId) (x ix:Operand):Option Eff:=match P.underlying T,opSh av x,opSh av ix with
 | some (.array len E),some (.o (.c (.p b k))),some (.o (.c (.k (.int _ (.ofNat i)))))=>match szOf P E with
  | some n=>if Nat.blt i len then some (.v (.o (.c (.p b (k+i*n))))) else none
  | none=>none
 | some (.slice E),some (.o (.c (.s b k len _))),some (.o (.c (.k (.int _ (.ofNat i)))))=>match szOf P E with
  | some n=>if Nat.blt i len then some (.v (.o (.c (.p b (k+i*n))))) else none
  | none=>none
 | _,_,_=>none
theorem zdI (hav:∀A∈av,A.ok K F β a W) (hg:Geo K β W) {T:TypeId} {x ix:Operand} {e:Eff} (ho:o.op=.indexAddr T x ix) (h:zaG P av T x ix=some e):Does K P F β a W o bn e:=by
 unfold zaG at h
 split at h
 ·rename_i len E b k kd i hu hs hi
  split at h
  case h_2=>simp at h
  rename_i n hn
  split at h
  case isFalse=>simp at h
  rename_i hlt
  rw [Nat.blt_eq] at hlt
  injection h with h;subst h
  obtain ⟨q,hq,hv⟩:=zr hs hav
  have hv2:a.eval ix=.int kd (.ofNat i):=zr hi hav
  refine Does.value (v:=.pointer (some ⟨q,k+i*n,none⟩)) hg ?_ ⟨q,hq,rfl⟩
  simp only [execOp,ho,hv,hv2,Instr.indexAt,Sem.run_bind,asIntOf,zW hu,Result.andThen_ok,Instr.sureAddr,Sem.run_pure]
  rw [if_pos ⟨Int.natCast_nonneg i,Int.ofNat_lt.2 hlt⟩,Sem.run_bind,qn hn,Result.andThen_ok,qW];rfl
 ·rename_i E b k len c kd i hu hs hi
  split at h
  case h_2=>simp at h
  rename_i n hn
  split at h
  case isFalse=>simp at h
  rename_i hlt
  rw [Nat.blt_eq] at hlt
  injection h with h;subst h
  obtain ⟨q,hq,hv⟩:=zr hs hav
  have hv2:a.eval ix=.int kd (.ofNat i):=zr hi hav
  refine Does.value (v:=.pointer (some ⟨q,k+i*n,none⟩)) hg ?_ ⟨q,hq,rfl⟩
  simp only [execOp,ho,hv,hv2,Instr.indexAt,Sem.run_bind,asIntOf,zW hu,Result.andThen_ok,Sem.run_pure]
  rw [if_pos ⟨Int.natCast_nonneg i,Int.ofNat_lt.2 hlt⟩,Sem.run_bind,qn hn,Result.andThen_ok,qW];rfl
 ·simp at h
def zce (av:List Atom) (x:Operand) (i:Nat):Option Eff:=match opSh av x with
 | some (.t l)=>match l[i]? with
  | some c=>some (.v (.o c))
  | none=>none
 | _=>none
theorem zfG (hav:∀A∈av,A.ok K F β a W) (hg:Geo K β W) {x:Operand} {i:Nat} {e:Eff} (ho:o.op=.extract x i) (h:zce av x i=some e):Does K P F β a W o bn e:=by
 unfold zce at h
 split at h
 case h_2=>simp at h
 rename_i l hs
 split at h
 case h_2=>simp at h
 rename_i c hc
 injection h with h;subst h
 obtain ⟨vs,hv,hl⟩:=zr hs hav
 obtain ⟨v,hv1,hv2⟩:=zkF hl hc
 refine Does.value (v:=v) hg ?_ hv2
 simp only [execOp,ho,hv,Instr.extract,Sem.run_bind,show vs[i]?=some v by simpa using hv1,Sem.run_pure,Result.andThen_ok]
def fbOf (C:List (Nat×Ent)) (x:Sh):Option Bool:=match x with
 | .o (.c (.k (.bool b)))=>some b
 | .o (.c (.h n))=>match ent C (10000+n) with
  | some (.fb m b)=>if m == n then some b else none
  | _=>none
 | _=>none
theorem zgX {C:List (Nat×Ent)} (hC:Sound K P F C) {x:Sh} {b:Bool} {v:Value} (h:fbOf C x=some b) (hx:x.ok F β v W):v=.bool b:=by
 unfold fbOf at h
 split at h
 ·injection h with h;subst h
  exact hx
 ·split at h
  ·rename_i n _ m c he
   split at h
   ·rename_i hm
    rw [beq_iff_eq] at hm
    subst hm
    injection h with h;subst h
    exact (zbO he hC) v W β.D hx
   ·cases h
  ·cases h
 ·cases h
def zin (C:List (Nat×Ent)) (av:List Atom) (x:Operand):Option Bool:=match opSh av x with
 | some s=>fbOf C s
 | none=>none
theorem zbM {C:List (Nat×Ent)} (hC:Sound K P F C) {x:Operand} {b:Bool} (h:zin C av x=some b) (hav:∀A∈av,A.ok K F β a W):a.eval x=.bool b:=by
 unfold zin at h
 split at h
 ·rename_i s hs
  exact zgX hC h (zr hs hav)
 ·simp at h
def zgU (C:List (Nat×Ent)) (av:List Atom) (c x y:Operand):Option Eff:=match zin C av c with
 | some true=>(opSh av x).map Eff.v
 | some false=>(opSh av y).map Eff.v
 | none=>none
theorem zlP {C:List (Nat×Ent)} (hC:Sound K P F C) (hav:∀A∈av,A.ok K F β a W) (hg:Geo K β W) {c x y:Operand} {e:Eff} (ho:o.op=.pick c x y) (h:zgU C av c x y=some e):Does K P F β a W o bn e:=by
 unfold zgU at h
 split at h
 ·rename_i hc
  cases hx:opSh av x with
  | none=>rw [hx] at h;simp at h
  | some s =>
   rw [hx] at h
   injection h with h;subst h
   refine Does.value (v:=a.eval x) hg ?_ (zr hx hav)
   simp only [execOp,ho,zbM hC hc hav,asBool,Sem.run_bind,Sem.run_pure,Result.andThen_ok,if_true]
 ·rename_i hc
  cases hx:opSh av y with
  | none=>rw [hx] at h;simp at h
  | some s =>
   rw [hx] at h
   injection h with h;subst h
   refine Does.value (v:=a.eval y) hg ?_ (zr hx hav)
   simp only [execOp,ho,zbM hC hc hav,asBool,Sem.run_bind,Sem.run_pure,Result.andThen_ok,Bool.false_eq_true,if_false]
 ·simp at h
def zev (av:List Atom) (x:Operand):Option Eff:=(opSh av x).map Eff.v
theorem zfS (hav:∀A∈av,A.ok K F β a W) (hg:Geo K β W) {x:Operand} {e:Eff} (ho:o.op=.move x∨o.op=.assign x) (h:zev av x=some e):Does K P F β a W o bn e:=by
 unfold zev at h
 cases hx:opSh av x with
 | none=>rw [hx] at h;simp at h
 | some s =>
  rw [hx] at h
  injection h with h;subst h
  refine Does.value (v:=a.eval x) hg ?_ (zr hx hav)
  rcases ho with ho | ho<;>simp only [execOp,ho,Sem.run_pure]
def zkR (av:List Atom) (x:Operand):Option Eff:=match opSh av x with
 | some (.o (.c (.p b i)))=>some (.v (.o (.c (.p b i))))
 | some (.o (.c (.q g bs)))=>some (.v (.o (.c (.q g bs))))
 | some (.o (.c (.m g b i)))=>some (.v (.o (.c (.m g b i))))
 | _=>none
theorem znM (hav:∀A∈av,A.ok K F β a W) (hg:Geo K β W) {x:Operand} {e:Eff} (ho:o.op=.nilCheck x) (h:zkR av x=some e):Does K P F β a W o bn e:=by
 unfold zkR at h
 split at h
 ·rename_i b i hs
  injection h with h;subst h
  obtain ⟨q,hq,hv⟩:=zr hs hav
  refine Does.value (v:=a.eval x) hg ?_ ⟨q,hq,hv⟩
  simp only [execOp,ho,hv,Sem.run_pure]
 ·rename_i g bs hs
  injection h with h;subst h
  obtain ⟨cs,hv,hp⟩:=zr hs hav
  refine Does.value (v:=a.eval x) hg ?_ ⟨cs,hv,hp⟩
  simp only [execOp,ho,hv,Sem.run_pure]
 ·rename_i g b i hs
  injection h with h;subst h
  obtain ⟨q,hq,hv⟩:=zr hs hav
  refine Does.value (v:=a.eval x) hg ?_ ⟨q,hq,hv⟩
  simp only [execOp,ho,hv,Sem.run_pure]
 ·simp at h
def ptsOf (av:List Atom):List Operand→Option (List (Nat×Nat))
 | []=>some []
 | x::r=>match opSh av x,ptsOf av r with
  | some (.o (.c (.p b i))),some l=>some ((b,i)::l)
  | _,_=>none
theorem zeX (hav:∀A∈av,A.ok K F β a W):∀{xs:List Operand} {l:List (Nat×Nat)},ptsOf av xs=some l→pts β l (xs.map a.eval)
 | [],_,h=>by unfold ptsOf at h;injection h with h;subst h;trivial
 | x::r,_,h=>by
  unfold ptsOf at h
  split at h
  ·rename_i b i l h1 h2
   injection h with h;subst h
   exact ⟨zr h1 hav,zeX hav h2⟩
  ·simp at h
def zgS (av:List Atom) (g:Fn) (first captured:Array Operand):Option Eff:=match g,first.toList,ptsOf av captured.toList with
 | .func f,[],some l=>some (.v (.o (.c (.q f l))))
 | .func f,[x],some []=>match opSh av x with
  | some (.o (.c (.p b i)))=>some (.v (.o (.c (.m f b i))))
  | _=>none
 | _,_,_=>none
theorem zk8 (hav:∀A∈av,A.ok K F β a W) (hg:Geo K β W) {g:Fn} {first captured:Array Operand} {e:Eff} (ho:o.op=.makeFunc g first captured) (h:zgS av g first captured=some e):Does K P F β a W o bn e:=by
 unfold zgS at h
 split at h
 ·rename_i f l hf hl
  injection h with h;subst h
  have hf:first=#[]:=by cases first;simp_all
  subst hf
  refine Does.value (v:=.func (.func f) #[] (captured.map a.eval)) hg ?_ ⟨_,rfl,by have:=zeX hav hl;simpa using this⟩
  simp [execOp,ho,Instr.makeFunc]
 ·rename_i f x hf hl
  split at h
  ·rename_i b i hx
   injection h with h;subst h
   have hf:first=#[x]:=Array.ext' hf
   have hc:captured=#[]:=by
    have:=zeX hav hl
    have h2:(captured.toList.map a.eval)=[]:=by
     cases hcs:captured.toList.map a.eval with
     | nil=>rfl
     | cons v r=>rw [hcs] at this;exact this.elim
    exact Array.ext' (by simpa using h2)
   subst hf;subst hc
   obtain ⟨q,hq,hv⟩:=zr hx hav
   refine Does.value (v:=.func (.func f) #[.pointer (some ⟨q,i,none⟩)] #[]) hg ?_ ⟨q,hq,rfl⟩
   simp [execOp,ho,Instr.makeFunc,hv]
  ·simp at h
 ·simp at h
def binK (op:BinOp) (x y:Int):Option Bool:=match op with
 | .eql=>some (x == y)
 | .neq=>some (x != y)
 | .lss=>some (decide (x<y))
 | .leq=>some (decide (x≤y))
 | .gtr=>some (decide (x > y))
 | .geq=>some (decide (x ≥ y))
 | _=>none
theorem zkv {op:BinOp} {k:IntKind} {x y:Int} {b:Bool} (h:binK op x y=some b) (T:TypeId) (X Y:Operand):(do eqGuard op T X Y (.int k x) (.int k y);binOp op T (.int k x) (.int k y):Sem Value).run P W=.ok (.bool b) W:=by
 unfold binK at h
 cases op<;>simp only [Option.some.injEq,reduceCtorEq] at h<;>subst h<;>simp [eqGuard,binOp,Op.intCmp]
def zkN (av:List Atom) (n:Option Ent) (op:BinOp) (T:TypeId) (x y:Operand):Option Eff:=match opSh av x,opSh av y with
 | some sx,some sy=>match n with
  | some (.bin op' T' sx' sy' out)=>if op == op' && T == T' && sheq sx sx' && sheq sy sy' then some (.v out) else none
  | _=>match sx,sy with
   | .o (.c (.k (.int k a))),.o (.c (.k (.int k' b)))=>if k=k' then (binK op a b).map fun b=>.v (.o (.c (.k (.bool b)))) else none
   | _,_=>none
 | _,_=>none
theorem znj (hav:∀A∈av,A.ok K F β a W) (hg:Geo K β W) {n:Option Ent} (hn:∀e,n=some e→e.sound K P F) {op:BinOp} {T U:TypeId} {x y:Operand} {e:Eff} (ho:o.op=.binOp op T x y U) (h:zkN av n op T x y=some e):Does K P F β a W o bn e:=by
 unfold zkN at h
 split at h
 case h_2=>simp at h
 rename_i sx sy hx hy
 have hex:∀v,(do eqGuard op T x y (a.eval x) (a.eval y);binOp op T (a.eval x) (a.eval y):Sem Value).run P W=.ok v W→(execOp a.eval o).run P W=.ok (.value v) W:=by
  intro v hv
  simp only [execOp,ho]
  rw [Sem.run_bind,hv];rfl
 split at h
 ·rename_i op' T' sx' sy' out
  split at h
  case isFalse=>simp at h
  rename_i hc
  simp only [Bool.and_eq_true,beq_iff_eq] at hc
  obtain ⟨⟨⟨rfl,rfl⟩,e1⟩,e2⟩:=hc
  rw [zN e1] at hx
  rw [zN e2] at hy
  injection h with h;subst h
  obtain ⟨v,h1,h2⟩:=hn _ rfl β W _ _ (zr hx hav) (zr hy hav)
  exact Does.value (v:=v) hg (hex v (h1 x y)) h2
 ·split at h
  ·rename_i k i k' j
   split at h
   case isFalse=>simp at h
   rename_i hk
   subst hk
   cases hb:binK op i j with
   | none=>rw [hb] at h;simp at h
   | some b =>
    rw [hb] at h
    injection h with h;subst h
    have e1:a.eval x=.int k i:=zr hx hav
    have e2:a.eval y=.int k j:=zr hy hav
    refine Does.value (v:=.bool b) hg (hex _ ?_) rfl
    rw [e1,e2]
    exact zkv hb T x y
  ·simp at h
def effUn (C:List (Nat×Ent)) (av:List Atom) (n:Option Ent) (op:UnOp) (x:Operand):Option Eff:=match opSh av x with
 | some sx=>match n with
  | some (.un op' sx' out)=>if decide (op=op') && sheq sx sx' then some (.v out) else none
  | _=>match op,fbOf C sx with
   | .not,some b=>some (.v (.o (.c (.k (.bool !b)))))
   | _,_=>none
 | none=>none
theorem zrk {C:List (Nat×Ent)} (hC:Sound K P F C) (hav:∀A∈av,A.ok K F β a W) (hg:Geo K β W) {n:Option Ent} (hn:∀e,n=some e→e.sound K P F) {op:UnOp} {T:TypeId} {x:Operand} {e:Eff} (ho:o.op=.unOp op T x) (h:effUn C av n op x=some e):Does K P F β a W o bn e:=by
 unfold effUn at h
 split at h
 case h_2=>simp at h
 rename_i sx hx
 have hex:∀v,(Op.unary op (a.eval x)).run P W=.ok v W→(execOp a.eval o).run P W=.ok (.value v) W:=by
  intro v hv
  simp only [execOp,ho]
  rw [Sem.run_bind,hv];rfl
 split at h
 ·rename_i op' sx' out
  split at h
  case isFalse=>simp at h
  rename_i hc
  simp only [Bool.and_eq_true,decide_eq_true_eq] at hc
  obtain ⟨rfl,e1⟩:=hc
  rw [zN e1] at hx
  injection h with h;subst h
  obtain ⟨v,h1,h2⟩:=hn _ rfl β W _ (zr hx hav)
  exact Does.value (v:=v) hg (hex v h1) h2
 ·split at h
  ·rename_i b hb
   injection h with h;subst h
   have e1:a.eval x=.bool b:=zgX hC hb (zr hx hav)
   refine Does.value (v:=.bool !b) hg (hex _ ?_) rfl
   rw [e1];rfl
  ·simp at h
def enters (P:Program) (g:FuncId):Bool:=match P.funcs[g]? with
 | some fn => fn.body.isSome && !(fn.name == "runtime.NumGoroutine")
 | none=>false
theorem qO {g:FuncId} {args:Array Value} (h:enters P g=true):(callFunc g args).run P W=.ok (.enter g args) W:=by
 unfold enters at h
 split at h
 ·rename_i fn hf
  rw [Bool.and_eq_true,Bool.not_eq_true'] at h
  unfold callFunc
  rw [Sem.run_bind,run_program,Result.andThen_ok,hf]
  simp only [h.2,Bool.false_eq_true,if_false]
  rw [if_neg (by cases hb:fn.body with | none=>rw [hb] at h;simp at h | some _=>simp)]
  rfl
 ·simp at h
def zaY:Sh→Option (FuncId×List Sh×List Sh)
 | .o (.c (.q g bs))=>some (g,[],bs.map fun x=>Sh.o (.c (.p x.1 x.2)))
 | .o (.c (.m g b i))=>some (g,[.o (.c (.p b i))],[])
 | _=>none
theorem zgI {x:Sh} {g:FuncId} {p s:List Sh} {v:Value} (h:zaY x=some (g,p,s)) (hx:x.ok F β v W):∃fa cs:Array Value,v=.func (.func g) fa cs∧shs F β p fa.toList W∧shs F β s cs.toList W:=by
 unfold zaY at h
 split at h
 ·simp only [Option.some.injEq,Prod.mk.injEq] at h
  obtain ⟨rfl,rfl,rfl⟩:=h
  obtain ⟨cs,hv,hp⟩:=hx
  exact ⟨#[],cs,hv,trivial,zmc hp⟩
 ·simp only [Option.some.injEq,Prod.mk.injEq] at h
  obtain ⟨rfl,rfl,rfl⟩:=h
  obtain ⟨q,hq,hv⟩:=hx
  exact ⟨_,#[],hv,⟨⟨q,hq,rfl⟩,trivial⟩,trivial⟩
 ·cases h
def invOf (P:Program) (T:TypeId) (name:String):Option FuncId:=match P.info? T,P.underlying T with
 | some _,some (.pointer _)=>none
 | some i,some _=>match i.methods.find? (·.name == name) with
  | some m=>match m.path.toList,m.func with
   | [],some (f,false)=>some f
   | _,_=>none
  | none=>none
 | _,_=>none
theorem zlh {T:TypeId} {name:String} {g:FuncId} {u:Value} {n:Nat} (h:invOf P T name=some g):(method (n+1) T u name).run P W=.ok (g,u) W:=by
 unfold invOf at h
 split at h
 case h_1=>cases h
 case h_3=>cases h
 rename_i i d hnp hi hu
 split at h
 case h_2=>cases h
 rename_i m hm
 split at h
 case h_2=>cases h
 rename_i f hp hf
 injection h with h;subst h
 have hmr:∀o:Option String,(receiverAt T (.val u) false o).run P W=.ok u W:=by
  intro o
  unfold receiverAt
  rw [Sem.run_bind,zW hu,Result.andThen_ok]
  cases d<;>first | (exact absurd rfl (hnp _)) | rfl
 unfold method
 rw [Sem.run_bind,zeE hi,Result.andThen_ok,hm]
 simp only [hp,follow,Sem.run_bind,Sem.run_pure,Result.andThen_ok,hf]
 rw [hmr]
 rfl
def zgR (P:Program) (bn:Nat) (av:List Atom) (n:Option Ent) (c:Call):Option Eff:=match c.callee,n with
 | .value f,some (.call k)=>match (opSh av f).bind zaY,opShs av c.args.toList with
  | some (g,p,s),some l=>if enters P g && g == k.fn && sheqs (p++(l++s)) k.as && zF av k.pre then some ⟨some k.res,none,names k.pre,k.post,zk k.pre,none⟩ else none
  | _,_=>none
 | .value f,some (.pan k)=>match (opSh av f).bind zaY,opShs av c.args.toList with
  | some (g,p,s),some l=>if enters P g && g == k.fn && sheqs (p++(l++s)) k.as && zF av k.pre then some ⟨none,none,names k.pre,k.post,zk k.pre,some k.res⟩ else none
  | _,_=>none
 | .invoke r name,some (.inv x T rs k)=>match opSh av r,opShs av c.args.toList,invOf P T name with
  | some (.o (.c x')),some l,some g=>if leq x' x && enters P g && g == k.fn && sheqs (rs::l) k.as && zF av k.pre then some ⟨some k.res,none,names k.pre,k.post,zk k.pre,none⟩ else none
  | _,_,_=>none
 | .value f,some (.neu fn as T ls)=>match (opSh av f).bind zaY,opShs av c.args.toList with
  | some (g,p,s),some l=>if enters P g && g == fn && sheqs (p++(l++s)) as && !lfs bn ls then some ⟨some (.o (.c (.p bn 0))),some (T,ls),[],[],[],none⟩ else none
  | _,_=>none
 | _,_=>none
theorem Back.step {k:Con} {v:Value} {β':Loc} {W':World} (hg:Geo K β W) (hp:∀x∈k.pre,x.okB K F β W) (hB:k.pre.all Atom.isB=true) (h:Back K F k β W v β' W') {x y:Option Sh} (hx:∀z,x=some z→z=k.res):Step K F β W ⟨x,none,names k.pre,k.post,zk k.pre,y⟩ bn v β' W' :=
 ⟨h.geo,fun c _ hc=>h.eqv c hc,fun h=>absurd rfl h,h.mvd,h.oth,zi4 hg hp hB,h.dm,h.dn,fun z hz=>by rw [hx z hz];exact h.res,(fun T ls h=>by cases h),h.post⟩
theorem zky (hF:Fine K F) (hav:∀A∈av,A.ok K F β a W) (hg:Geo K β W) {n:Option Ent} (hn:∀e,n=some e→e.sound K P F) {c:Call} {e:Eff} (ho:o.op=.call c) (h:zgR P bn av n c=some e):Does K P F β a W o bn e:=by
 have hex:∀(f:Operand) (g:FuncId) (p s l:List Sh) (fn:FuncId) (as:List Sh),c.callee=.value f→(opSh av f).bind zaY=some (g,p,s)→opShs av c.args.toList=some l→enters P g=true→g=fn→sheqs (p++(l++s)) as=true →
   ∃vs:List Value,(execOp a.eval o).run P W=.ok (.enter fn vs.toArray) W∧shs F β as vs W:=by
  intro f g p s l fn as hcal hf hl he hgf hs
  subst hgf
  cases hx:opSh av f with
  | none=>rw [hx] at hf;cases hf
  | some x =>
   rw [hx] at hf
   obtain ⟨fa,cs,hv,hp1,hp2⟩:=zgI hf (zr hx hav)
   have hargs:=zcu hp1 (zcu (zcO hl hav) hp2)
   rw [zcQ hs] at hargs
   refine ⟨_,?_,hargs⟩
   simp only [execOp,ho,resolve,hcal,Sem.run_bind,hv,Deferred.ofValue,Sem.run_pure,Result.andThen_ok,invoke,qO he]
   congr 2
   apply Array.ext'
   simp
 unfold zgR at h
 split at h
 case h_5=>cases h
 ·rename_i f k hcal
  split at h
  case h_2=>cases h
  rename_i g p s l hf hl
  split at h
  case isFalse=>cases h
  rename_i hc
  simp only [Bool.and_eq_true,beq_iff_eq] at hc
  obtain ⟨⟨⟨he,hgf⟩,hs⟩,hb⟩:=hc
  injection h with h;subst h
  obtain ⟨vs,hrun,hargs⟩:=hex f g p s l k.fn k.as hcal hf hl he hgf hs
  have hpre:=zO hav hb
  intro N Q hN
  unfold Oper.wp
  rw [hrun]
  refine ((hn _ rfl).2 β W vs hargs hpre hg).mono fun e W' hr=>?_
  obtain ⟨v,β',rfl,hbk⟩:=hr
  exact hN v β' W' (hbk.step hg hpre (hn _ rfl).1 fun z hz=>by injection hz with hz;exact hz.symm)
 ·rename_i f k hcal
  split at h
  case h_2=>cases h
  rename_i g p s l hf hl
  split at h
  case isFalse=>cases h
  rename_i hc
  simp only [Bool.and_eq_true,beq_iff_eq] at hc
  obtain ⟨⟨⟨he,hgf⟩,hs⟩,hb⟩:=hc
  injection h with h;subst h
  obtain ⟨vs,hrun,hargs⟩:=hex f g p s l k.fn k.as hcal hf hl he hgf hs
  have hpre:=zO hav hb
  intro N Q hN
  unfold Oper.wp
  rw [hrun]
  refine ((hn _ rfl).2 β W vs hargs hpre hg).mono fun e W' hr=>?_
  obtain ⟨v,β',rfl,hbk⟩:=hr
  exact hN v β' W' (hbk.step hg hpre (hn _ rfl).1 fun z hz=>by cases hz) hbk.res
 ·rename_i r name x T rs k hcal
  split at h
  case h_2=>cases h
  rename_i x' l g hx hl hm
  split at h
  case isFalse=>cases h
  rename_i hc
  simp only [Bool.and_eq_true,beq_iff_eq] at hc
  obtain ⟨⟨⟨⟨hxx,he⟩,hgf⟩,hs⟩,hb⟩:=hc
  injection h with h;subst h
  obtain ⟨hk,hi⟩:=hn _ rfl
  have hv1:x'.ok F β (a.eval r) W:=zr hx hav
  rw [zlm hxx] at hv1
  obtain ⟨u,hu1,hu2⟩:=hi β W _ hv1
  have hargs:shs F β (rs::l) (u::c.args.toList.map a.eval) W:=⟨hu2,zcO hl hav⟩
  rw [zcQ hs] at hargs
  have hrun:(execOp a.eval o).run P W=.ok (.enter k.fn (u::c.args.toList.map a.eval).toArray) W:=by
   simp only [execOp,ho,resolve,hcal,Sem.run_bind,Sem.run_pure,Result.andThen_ok,invoke]
   have e0:(#[a.eval r]++c.args.map a.eval)[0]?=some (a.eval r):=by
    rw [Array.getElem?_append_left (show 0<1 from Nat.one_pos)];rfl
   have e1:(#[a.eval r]++c.args.map a.eval).extract 1 (#[a.eval r]++c.args.map a.eval).size=c.args.map a.eval:=by
    apply Array.ext';simp only [Array.toList_extract,List.extract_eq_take_drop,Array.toList_append,List.cons_append,List.nil_append,List.drop_succ_cons,List.drop_zero,Array.size_append];rw [List.take_of_length_le (by simp)]
   simp only [e0,e1]
   unfold callMethod
   rw [hu1]
   simp only
   rw [Sem.run_bind,run_program,Result.andThen_ok]
   have e2:P.types.size+Made.depth=(P.types.size+Made.depth - 1)+1:=by
    have:1≤Made.depth:=by decide
    omega
   rw [e2,Sem.run_bind,zlh hm,Result.andThen_ok]
   simp only
   rw [qO he,hgf]
   congr 2
   apply Array.ext'
   simp
  have hpre:=zO hav hb
  intro N Q hN
  unfold Oper.wp
  rw [hrun]
  refine (hk.2 β W _ hargs hpre hg).mono fun e W' hr=>?_
  obtain ⟨v,β',rfl,hbk⟩:=hr
  exact hN v β' W' (hbk.step hg hpre hk.1 fun z hz=>by injection hz with hz;exact hz.symm)
 ·rename_i f fn as T ls hcal
  split at h
  case h_2=>cases h
  rename_i g p s l hf hl
  split at h
  case isFalse=>cases h
  rename_i hc
  simp only [Bool.and_eq_true,beq_iff_eq,Bool.not_eq_true'] at hc
  obtain ⟨⟨⟨he,hgf⟩,hs⟩,hlf⟩:=hc
  injection h with h;subst h
  obtain ⟨vs,hrun,hargs⟩:=hex f g p s l fn as hcal hf hl he hgf hs
  intro N Q hN
  unfold Oper.wp
  rw [hrun]
  refine (hn _ rfl β W vs hargs hg).mono fun e W' hr=>?_
  obtain ⟨q,us,D',rfl,hq,hh,hck,hbt,hok,hnD,hbel,hdm,hdn,hdl⟩:=hr
  let β':Loc:=⟨(set β bn q).bx,β.len,D'⟩
  have hO:Oth (fun _=>False) W W':=⟨hbel.os,hbel.tape,hbel.output,hbel.size,fun k hk _=>hbel.block k hk⟩
  have hO1:Oth (fun _=>False) W' W':=Oth.refl _ W'
  have hqlt:q<W'.heap.size:=(Array.getElem?_eq_some_iff.1 hh).1
  have hbn:β' bn=some q:=zQ ..
  have hne:∀c,c≠bn→β' c=β c:=fun c hc=>zb3 hc
  refine hN _ β' W' ⟨⟨fun b r hr=>?_,fun b c r hb hc=>?_,hg.bel.trans (hO.ofOth (fun _ h=>h.elim) hg.bel.size),fun b r hr hD=>?_,hdl,fun r hr=>hdm r (hg.low r hr)⟩,fun c hc _=>⟨hne c (hc.resolve_left (by simp)),rfl⟩,fun _ r hr=>?_,(fun c h=>by cases h),hO.mono (fun _ h=>h.elim),fun r h=>(by obtain ⟨b,hb,_⟩:=h;cases hb),hdm,fun q hq=>(hdn q hq).imp id .inl,fun y hy=>?_,fun U ms h=>?_,(fun x h=>by cases h)⟩
  ·by_cases hb:b=bn
   ·subst hb;rw [hbn] at hr;injection hr with hr;omega
   ·rw [hne b hb] at hr;exact Nat.lt_of_lt_of_le (hg.lt b r hr) hbel.size
  ·by_cases hb1:b=bn
   ·by_cases hc1:c=bn
    ·rw [hb1,hc1]
    ·exfalso
     subst hb1
     rw [hbn] at hb;injection hb with hb
     rw [hne c hc1] at hc
     have:=hg.lt c r hc;omega
   ·by_cases hc1:c=bn
    ·exfalso
     subst hc1
     rw [hbn] at hc;injection hc with hc
     rw [hne b hb1] at hb
     have:=hg.lt b r hb;omega
    ·rw [hne b hb1] at hb
     rw [hne c hc1] at hc
     exact hg.inj b c r hb hc
  ·by_cases hb:b=bn
   ·subst hb;rw [hbn] at hr;injection hr with hr;subst hr;exact hnD hD
   ·rw [hne b hb] at hr
    rcases hdn r hD with h1 | h1
    ·exact hg.dis b r hr h1
    ·have:=hg.lt b r hr;omega
  ·rw [hbn] at hr;injection hr with hr;omega
  ·injection hy with hy;subst hy
   exact ⟨q,hbn,rfl⟩
  ·injection h with h
   injection h with h1 h2
   subst h1;subst h2
   exact ⟨q,us,hbn,hh,zbe (β:=⟨β.bx,β.len,D'⟩) (β':=β') hF (fun _ h=>h.elim) hO1 (fun _ h=>h) (fun b hb=>⟨hne b (fun e=>by subst e;rw [hlf] at hb;cases hb),rfl⟩) hok,hck,hbt,Nat.le_trans hg.bel.size hq⟩
def effOp (av:List Atom) (o:Oper) (g:Sig) (ins:List Sh) (pre:List Atom) (out:Sh):Option Eff:=match sigOf o with
 | some (g',xs)=>match opShs av xs with
  | some l=>if g.eq g' && sheqs l ins && zF av pre then some (.v out) else none
  | none=>none
 | none=>none
theorem zqo (hav:∀A∈av,A.ok K F β a W) (hg:Geo K β W) {g:Sig} {ins:List Sh} {pre:List Atom} {out:Sh} (hn:(Ent.op g ins pre out).sound K P F) {e:Eff} (h:effOp av o g ins pre out=some e):Does K P F β a W o bn e:=by
 unfold effOp at h
 split at h
 case h_2=>simp at h
 rename_i g' xs hs
 split at h
 case h_2=>simp at h
 rename_i l hl
 split at h
 case isFalse=>simp at h
 rename_i hc
 rw [Bool.and_eq_true,Bool.and_eq_true] at hc
 injection h with h;subst h
 have:=Sig.eq_eq hc.1.1
 subst this
 have h1:=zcO hl hav
 rw [zcQ hc.1.2] at h1
 obtain ⟨v,h2,h3⟩:=hn β W _ h1 (zO hav hc.2) hg
 exact Does.value hg (zqI hs h2) h3
def zaD (P:Program) (T:TypeId):Option Nat:=(P.info? T).map (·.bytes)
def zkt (av:List Atom) (b:Nat) (T:TypeId) (z n:Nat) (ls:Lf) (nil:Bool):Bool:=match ls with
 | .gr b'=>!nil && b == b' && (match glOf b av with
  | some (U,y,n')=>T == U && z == y && n == n'
  | none=>false)
 | .k (.slice none 0 0)=>nil && gnIn b av
 | _=>false
def zkL (K:Kit) (P:Program) (av:List Atom) (c:Call) (T:TypeId) (z b n m:Nat) (arg:Sh) (pre:List Atom) (nil:Bool):Option Eff:=match c.callee,c.args.toList,c.argTypes.toList with
 | .builtin .append,[s,x],[t,t']=>match P.underlying t,szOf P T,zah P T,zaD P T,opSh av s,opSh av x with
  | some (.slice T'),some z',some zs,some k,some (.o (.c ls)),some sx =>
   if T == T' && t == t' && z == z' && Nat.blt 0 z && Nat.ble k 128 && zs.length == z && zs.all K.ck && K.bt T && sheq sx arg && zF av pre &&
    zkt av b T z n ls nil then some ⟨some (.o (.c (.gr b))),none,[b],[.gl b T z m],[b],none⟩ else none
  | _,_,_,_,_,_=>none
 | _,_,_=>none
theorem zrv {ls:Lf} {nil:Bool} {b n z:Nat} {T:TypeId} {v:Value} (hav:∀A∈av,A.ok K F β a W) (hl:ls.ok F β v W) (h:zkt av b T z n ls nil=true):v=gv β b∧∃xs:List Value,W.ownsRow K.w0.heap.size T z (gv β b) (glen β b) xs∧(if nil=true then xs=[] else F.g n xs W β.D)∧∀q,β b=some q→∃o,W.heap[q]?=some o∧ml K o=true:=by
 unfold zkt at h
 split at h
 ·rename_i b'
  rw [Bool.and_eq_true,Bool.and_eq_true,beq_iff_eq,Bool.not_eq_true'] at h
  obtain ⟨⟨rfl,rfl⟩,h⟩:=h
  split at h
  ·rename_i U y n' hgl
   simp only [Bool.and_eq_true,beq_iff_eq] at h
   obtain ⟨⟨rfl,rfl⟩,rfl⟩:=h
   obtain ⟨xs,h1,h2,h3⟩:=zbp hgl hav
   exact ⟨hl,xs,h1,by simpa using h2,h3⟩
  ·cases h
 ·rw [Bool.and_eq_true] at h
  obtain ⟨rfl,h⟩:=h
  have hb:=zbq h hav
  have e1:gv β b=.slice none 0 0:=by unfold gv;rw [hb]
  have e2:glen β b=0:=by unfold glen;rw [hb]
  refine ⟨hl.trans e1.symm,[],?_,rfl,fun q hq=>by rw [hb] at hq;cases hq⟩
  rw [e1,e2]
  exact World.ownsRow_nil W _ T z
 ·cases h
theorem znd {zs:Array Value} {p:Value→Bool} (n:Nat) (h0:0<zs.size) (h:zs.toList.all p=true):(Builtin.zeroCells zs n).toList.all p=true:=by
 rw [List.all_eq_true]
 intro x hx
 unfold Builtin.zeroCells at hx
 rw [Array.toList_map,List.mem_map] at hx
 obtain ⟨i,_,rfl⟩:=hx
 have hlt:i%zs.size<zs.size:=Nat.mod_lt _ h0
 rw [getElem!_pos zs _ hlt]
 exact List.all_eq_true.1 h _ (by simp)
theorem zku {t ty T:TypeId} {zs:List Value} {z k n:Nat} {v vx:Value} {xs us:List Value} {base:Nat} (hu:P.underlying t=some (.slice T)) (hz:szOf P T=some z) (hzo:zah P T=some zs) (hby:zaD P T=some k) (hz0:0<z) (hk:k≤128) (hzl:zs.length=z) (hzck:zs.all K.ck=true) (hbt:K.bt T=true)
  (hown:W.ownsRow base T z v n xs) (hb:base≤W.heap.size) (hr:zkj W z vx us) (hus:us.all K.ck=true) (hlen:(xs++us).length≤1099511627776) (hml:∀q,v.ownBlock=some q→∃o,W.heap[q]?=some o∧ml K o=true) :
  ∃v' W' n',(Builtin.append_ #[t,t] ty #[v,vx]).run P W=.ok v' W'∧W'.ownsRow base T z v' n' (xs++us)∧W.grownBy W' v.ownBlock∧(∀q,v'.ownBlock=some q→(v.ownBlock=some q∨W.heap.size≤q)∧∃o,W'.heap[q]?=some o∧ml K o=true):=by
 obtain ⟨i,hi,hiz⟩:∃i,P.info? T=some i∧i.size=z:=by
  unfold szOf at hz
  cases hi:P.info? T with
  | none=>rw [hi] at hz;cases hz
  | some i=>rw [hi] at hz;exact ⟨i,rfl,by simpa using hz⟩
 have hib:i.bytes=k:=by unfold zaD at hby;rw [hi] at hby;simpa using hby
 obtain ⟨z0,hz0e,hz0c⟩:∃z0,i.zero=some z0∧z0.cells.toList=zs:=by
  unfold zah at hzo
  rw [hi] at hzo
  simp only at hzo
  cases h:i.zero with
  | none=>rw [h] at hzo;cases hzo
  | some z0=>rw [h] at hzo;exact ⟨z0,rfl,by simpa using hzo⟩
 have hzs:z0.cells.size=z:=by rw [← Array.length_toList,hz0c,hzl]
 have h1:∀u∈us,u.oneCell'=true:=fun u hu=>zoY (List.all_eq_true.1 hus u hu)
 rcases hr with ⟨⟨c0,rfl⟩,rfl⟩ | ⟨ad,m,c,rfl,hl,hnews⟩
 ·refine ⟨v,W,n,?_,by simpa using hown,⟨rfl,rfl,rfl,Nat.le_refl _,fun _ _ _=>rfl⟩,fun q hq=>⟨.inl hq,hml q hq⟩⟩
  rcases hown.2 with ⟨rfl,rfl⟩ | ⟨g,cap,cur,rfl,hbg,hg,hnc,hcm,hcs,htake⟩
  ·simp [Builtin.append_,run_underlying hu,sizeOf,typeInfo,hi,Builtin.lenOf,Builtin.firstCells]
  ·simp [Builtin.append_,run_underlying hu,sizeOf,typeInfo,hi,Builtin.lenOf,Builtin.firstCells,hnc,storeCells]
 ·have hxl:=hown.1
  have hnm:(n+m)*z≤1099511627776:=by
   rw [List.length_append,hxl,hl,← Nat.add_mul] at hlen;exact hlen
  have hnm2:n+m≤1099511627776:=Nat.le_trans (Nat.le_mul_of_pos_right _ hz0) hnm
  have hbytes:(n+m)*i.bytes≤140737488355328:=by
   rw [hib]
   exact Nat.le_trans (Nat.mul_le_mul hnm2 hk) (by decide)
  have h63:n+m≤maxLen:=by simp only [maxLen];omega
  obtain ⟨v',W',hrun,ho2,hgb,hnil⟩:=run_append_own (P:=P) W base t ty T i z0 z i.bytes hu hi hz0e hiz rfl hzs hz0 v n xs hown ad m c us hl hnews h1 h63 hbytes hb
  refine ⟨v',W',n+m,hrun,ho2,hgb,fun q hq=>?_⟩
  rcases hown.2 with ⟨rfl,rfl⟩ | ⟨g,cap,cur,rfl,hbg,hg,hnc,hcm,hcs,htake⟩
  ·have hxs:xs=[]:=List.eq_nil_of_length_eq_zero (by simpa using hxl)
   subst hxs
   by_cases hm:m=0
   ·have:=hnil.2 ⟨rfl,hm⟩
    rw [this] at hq;cases hq
   ·have hr:=run_append_nil (P:=P) W t ty T i z0 hu hi hz0e ad m c us (by rw [hl,hiz]) hnews (by omega) (by omega) (by have hb:=hbytes;simp only [Nat.zero_add] at hb;omega)
    rw [hr] at hrun
    injection hrun with e1 e2
    subst e1;subst e2
    simp only [Value.ownBlock,Option.some.injEq] at hq
    subst hq
    refine ⟨.inr (Nat.le_refl _),_,heap_alloc_new W.drew _,?_⟩
    simp only [ml,mlf,hbt,Bool.true_and,Array.toList_append,List.all_append,Bool.and_eq_true]
    exact ⟨hus,znd _ (by omega) (by rw [hz0c];exact hzck)⟩
  ·obtain ⟨o,hbo,hmo⟩:=hml g rfl
   have hcur:cur.toList.all K.ck=true:=by
    rw [hg] at hbo
    injection hbo with hbo
    subst hbo
    simp only [ml,mlf,hbt,Bool.true_and] at hmo
    exact hmo
   by_cases hroom:n+m≤cap
   ·have hfit:n*i.size+us.length≤cur.size:=by rw [hl,hcs,hiz,← Nat.add_mul];exact Nat.mul_le_mul_right _ hroom
    have hr:=run_append_room (P:=P) (ty:=ty) W t T i hu hi g n cap cur hg ad m c us (by rw [hl,hiz]) hnews h1 hroom hfit
    rw [hr] at hrun
    injection hrun with e1 e2
    subst e1;subst e2
    simp only [Value.ownBlock,Option.some.injEq] at hq
    subst hq
    refine ⟨.inl rfl,_,setRow_heap W g cur _ T _ hg,?_⟩
    simp only [ml,mlf,hbt,Bool.true_and,List.all_append,Bool.and_eq_true]
    rw [List.all_eq_true] at hcur
    refine ⟨⟨List.all_eq_true.2 fun x hx=>hcur x (List.mem_of_mem_take hx),hus⟩,List.all_eq_true.2 fun x hx=>hcur x (List.mem_of_mem_drop hx)⟩
   ·have holds:∀j u,xs[j]?=some u→W.cell? ((⟨g,0,none⟩:Addr).add j)=some u:=hown.cells (g:=g) rfl
    have hr:=run_append_grow (P:=P) W t ty T i z0 hu hi hz0e ⟨g,0,none⟩ n cap xs (by rw [hxl,hiz]) holds ad m c us (by rw [hl,hiz]) hnews (by omega) (by omega) (growslice_fits (by omega) hbytes)
    rw [hr] at hrun
    injection hrun with e1 e2
    subst e1;subst e2
    simp only [Value.ownBlock,Option.some.injEq] at hq
    subst hq
    refine ⟨.inr (Nat.le_refl _),_,heap_alloc_new W.drew _,?_⟩
    simp only [ml,mlf,hbt,Bool.true_and,Array.toList_append,List.all_append,Bool.and_eq_true]
    refine ⟨⟨List.all_eq_true.2 fun x hx=>?_,hus⟩,znd _ (by omega) (by rw [hz0c];exact hzck)⟩
    rw [← htake] at hx
    exact List.all_eq_true.1 hcur x (List.mem_of_mem_take hx)
theorem zne (hF:Fine K F) (hav:∀A∈av,A.ok K F β a W) (hg:Geo K β W) {c:Call} {T:TypeId} {z b n m:Nat} {arg:Sh} {pre:List Atom} {nil:Bool} (hn:(Ent.app T z b n m arg pre nil).sound K P F) {e:Eff} (ho:o.op=.call c) (h:zkL K P av c T z b n m arg pre nil=some e):Does K P F β a W o bn e:=by
 unfold zkL at h
 split at h
 case h_2=>cases h
 rename_i s x t t' hcal hargs htys
 split at h
 case h_2=>cases h
 rename_i T' z' zs k ls sx hu hz hzo hby hls hsx
 rw [Option.ite_none_right_eq_some] at h
 obtain ⟨hc,h⟩:=h
 simp only [Bool.and_eq_true,beq_iff_eq,Nat.blt_eq,Nat.ble_eq] at hc
 obtain ⟨⟨⟨⟨⟨⟨⟨⟨⟨⟨rfl,rfl⟩,rfl⟩,hz0⟩,hk⟩,hzl⟩,hzck⟩,hbt⟩,hsh⟩,hpre⟩,hm⟩:=hc
 injection h with h;subst h
 obtain ⟨hv,xs,hown,hgn,hmlb⟩:=zrv hav (zr hls hav) hm
 rw [zN hsh] at hsx
 obtain ⟨us,hreads,hus,hstep⟩:=hn β W _ (zr hsx hav) (zO hav hpre) hg
 have hown0:(gv β b).ownBlock=β b:=by
  unfold gv
  split
  ·rename_i e;rw [e];rfl
  ·rename_i q e;rw [e];rfl
 have hlen:=(hstep xs β.D hgn fun _ h=>h).2
 obtain ⟨v',W',n',hrun,ho2,hgb,hblk⟩:=zku (K:=K) (ty:=o.type) hu hz hzo hby hz0 hk hzl hzck hbt hown hg.bel.size hreads hus hlen (fun q hq=>hmlb q (by rw [← hown0];exact hq))
 have hex:(execOp a.eval o).run P W=.ok (.value v') W':=by
  have hargs':c.args=#[s,x]:=by
   apply Array.ext';simpa using hargs
  have htys':c.argTypes=#[t,t]:=by
   apply Array.ext';simpa using htys
  simp only [execOp,ho,resolve,hcal,invoke,builtin,Sem.run_bind,Sem.run_pure,Result.andThen_ok,hargs',htys',List.map_toArray,List.map_cons,List.map_nil,hv,hrun]
 intro N Q hN
 unfold Oper.wp
 rw [hex]
 let cap:Nat:=match v' with
  | .slice _ _ c=>c
  | _=>0
 let β':Loc:=⟨fun c=>if c=b then v'.ownBlock else β c,fun c=>if c=b then (n',cap) else β.len c,β.D⟩
 have hsm:∀c,c≠b→β.same β' c:=fun c hc=>⟨if_neg hc,if_neg hc⟩
 have hbb:β' b=v'.ownBlock:=if_pos rfl
 have hlb:β'.len b=(n',cap):=if_pos rfl
 have hO:Oth (fun q=>∃c∈[b],β c=some q) W W':=by
  refine ⟨hgb.os,hgb.tape,hgb.output,hgb.size,fun q hq hS=>hgb.block q hq fun e=>hS ⟨b,by simp,?_⟩⟩
  rw [hown0] at e;exact e.symm
 have hmls:∀q,(∃c∈[b],β c=some q)→Mlq K β.D W q:=by
  rintro q ⟨c,hc,hq⟩
  rw [List.mem_singleton] at hc
  subst hc
  exact ⟨(hown.lt q (by rw [hown0];exact hq)).1,hg.dis c q hq,hmlb q hq⟩
 have hgv:gv β' b=v'∧glen β' b=n':=by
  unfold gv glen
  rw [hbb,hlb]
  rcases ho2.2 with ⟨rfl,rfl⟩ | ⟨g,cp,cur,rfl,_⟩
  ·exact ⟨rfl,rfl⟩
  ·exact ⟨rfl,rfl⟩
 have hnew:∀q,β' b=some q→β b=some q∨W.heap.size≤q:=fun q hq=>by
  rw [hbb] at hq
  rw [← hown0];exact (hblk q hq).1
 have hlt':∀q,v'.ownBlock=some q→q<W'.heap.size:=fun q hq=>(ho2.lt q hq).2
 refine hN v' β' W' ⟨⟨fun c q hc=>?_,fun c d q hc hd=>?_,hg.bel.trans (hO.ofOth (fun q hq=>(hmls q hq).1) hg.bel.size),fun c q hc hD=>?_,fun q hq=>Nat.lt_of_lt_of_le (hg.dlt q hq) hO.size,hg.low⟩,fun c _ hc=>hsm c (by simpa using hc),fun h=>absurd rfl h,fun c hc q hq=>?_,hO,hmls,fun _ h=>h,fun _ h=>.inl h,fun y hy=>?_,(fun T ls h=>by cases h),fun y hy=>?_⟩
 ·by_cases hcb:c=b
  ·subst hcb;exact hlt' q (by rw [← hbb];exact hc)
  ·rw [(hsm c hcb).1] at hc
   exact Nat.lt_of_lt_of_le (hg.lt c q hc) hO.size
 ·by_cases hcb:c=b
  ·by_cases hdb:d=b
   ·rw [hcb,hdb]
   ·exfalso
    subst hcb
    rw [(hsm d hdb).1] at hd
    rcases hnew q hc with h | h
    ·exact hdb (hg.inj d c q hd h)
    ·have:=hg.lt d q hd;omega
  ·by_cases hdb:d=b
   ·exfalso
    subst hdb
    rw [(hsm c hcb).1] at hc
    rcases hnew q hd with h | h
    ·exact hcb (hg.inj c d q hc h)
    ·have:=hg.lt c q hc;omega
   ·rw [(hsm c hcb).1] at hc
    rw [(hsm d hdb).1] at hd
    exact hg.inj c d q hc hd
 ·by_cases hcb:c=b
  ·subst hcb
   rcases hnew q hc with h | h
   ·exact hg.dis c q h hD
   ·have:=hg.dlt q hD;omega
  ·rw [(hsm c hcb).1] at hc
   exact hg.dis c q hc hD
 ·rw [List.mem_singleton] at hc
  subst hc
  exact hnew q hq
 ·injection hy with hy;subst hy
  exact hgv.1.symm
 ·rw [List.mem_singleton] at hy
  subst hy
  refine ⟨xs++us,?_,?_,fun q hq=>?_⟩
  ·rw [hgv.1,hgv.2];exact ho2
  ·exact (hF.g m).mv hmls hO (fun _ h=>h) (hstep xs β.D hgn fun _ h=>h).1
  ·rw [hbb] at hq
   exact (hblk q hq).2
def effSt (av:List Atom) (o:Oper) (T:TypeId) (bs:List Nat) (sx sy:Sh) (pre post:List Atom):Option Eff:=match o.op with
 | .store T' x y=>match opSh av x,opSh av y with
  | some s,some u=>if T == T' && sheq s sx && sheq u sy && zF av pre && bs.all (fun b=>(names pre).contains b) then some ⟨none,none,bs,post,[],none⟩ else none
  | _,_=>none
 | _=>none
theorem zqL (hav:∀A∈av,A.ok K F β a W) (hg:Geo K β W) {T:TypeId} {bs:List Nat} {sx sy:Sh} {pre post:List Atom} (hn:(Ent.st T bs sx sy pre post).sound K P F) {e:Eff} (h:effSt av o T bs sx sy pre post=some e):Does K P F β a W o bn e:=by
 unfold effSt at h
 split at h
 case h_2=>cases h
 rename_i T' x y ho
 split at h
 case h_2=>cases h
 rename_i s u hs hu
 split at h
 case isFalse=>cases h
 rename_i hc
 simp only [Bool.and_eq_true,beq_iff_eq,List.all_eq_true,List.contains_eq_mem,decide_eq_true_eq] at hc
 obtain ⟨⟨⟨⟨rfl,h1⟩,h2⟩,h3⟩,h4⟩:=hc
 injection h with h;subst h
 have v1:=zr hs hav
 have v2:=zr hu hav
 rw [zN h1] at v1;rw [zN h2] at v2
 have hp:=zO hav h3
 obtain ⟨W',hrun,hO,hpost⟩:=hn β W _ _ v1 v2 hp hg
 have hml:∀q,(∃c∈bs,β c=some q)→Mlq K β.D W q:=fun q ⟨c,hc,hq⟩=>zi4 hg hp (qx h3) q ⟨c,h4 c hc,hq⟩
 have hex:(execOp a.eval o).run P W=.ok .skip W':=by
  simp only [execOp,ho,Sem.run_bind,hrun,Result.andThen_ok,Sem.run_pure]
 intro N Q hN
 unfold Oper.wp
 rw [hex]
 exact hN undef β W' ⟨hg.mono hml hO,fun _ _ _=>Loc.same.rfl,fun h=>absurd rfl h,(fun c h=>by cases h),hO,hml,fun _ h=>h,fun _ h=>.inl h,fun x h=>by simp at h,fun T ls h=>by simp at h,hpost⟩
def effAp (av:List Atom) (o:Oper) (t:TypeId) (bs:List Nat) (sx sy out:Sh) (pre post:List Atom):Option Eff:=match o.op with
 | .call c=>match c.callee,c.args.toList,c.argTypes.toList with
  | .builtin .append,[x,y],[t1,t2]=>match opSh av x,opSh av y with
   | some s,some u=>if t == t1 && t == t2 && sheq s sx && sheq u sy && zF av pre && bs.all (fun b=>(names pre).contains b || gnIn b av) then some ⟨some out,none,bs,post,bs,none⟩ else none
   | _,_=>none
  | _,_,_=>none
 | _=>none
theorem zpZ (hav:∀A∈av,A.ok K F β a W) (hg:Geo K β W) {t:TypeId} {bs:List Nat} {sx sy out:Sh} {pre post:List Atom} (hn:(Ent.ap t bs sx sy out pre post).sound K P F) {e:Eff} (h:effAp av o t bs sx sy out pre post=some e):Does K P F β a W o bn e:=by
 unfold effAp at h
 split at h
 case h_2=>cases h
 rename_i c ho
 split at h
 case h_2=>cases h
 rename_i x y t1 t2 hcal hargs htys
 split at h
 case h_2=>cases h
 rename_i s u hs hu
 split at h
 case isFalse=>cases h
 rename_i hc
 simp only [Bool.and_eq_true,Bool.or_eq_true,beq_iff_eq,List.all_eq_true,List.contains_eq_mem,decide_eq_true_eq] at hc
 obtain ⟨⟨⟨⟨⟨rfl,rfl⟩,h1⟩,h2⟩,h3⟩,h4⟩:=hc
 injection h with h;subst h
 have v1:=zr hs hav
 have v2:=zr hu hav
 rw [zN h1] at v1;rw [zN h2] at v2
 have hp:=zO hav h3
 obtain ⟨v,β',W',hrun,g1,g2,g3,hO,g5,g6,g7,hpost⟩:=hn β W _ _ o.type v1 v2 hp hg
 have hex:(execOp a.eval o).run P W=.ok (.value v) W':=by
  have hargs':c.args=#[x,y]:=by
   apply Array.ext';simpa using hargs
  have htys':c.argTypes=#[t,t]:=by
   apply Array.ext';simpa using htys
  simp only [execOp,ho,resolve,hcal,invoke,builtin,Sem.run_bind,Sem.run_pure,Result.andThen_ok,hargs',htys',List.map_toArray,List.map_cons,List.map_nil,hrun]
 intro N Q hN
 unfold Oper.wp
 rw [hex]
 exact hN v β' W' ⟨g1,fun c _ hc=>g2 c hc,fun h=>absurd rfl h,g3,hO,fun q ⟨c,hc,hq⟩=>(h4 c hc).elim (fun h=>zi4 hg hp (qx h3) q ⟨c,h,hq⟩) (fun h=>by have:=zbq h hav;rw [this] at hq;cases hq),g5,g6,fun y hy=>(by injection hy with hy;subst hy;exact g7),fun T ls h=>by simp at h,hpost⟩
def renm (b:Nat) (e:Eff):Option Eff:=match e with
 | ⟨v,some (T,ls),[],[],[],none⟩=>some ⟨v,none,[],[.bx b T ls],[b],none⟩
 | _=>none
theorem zf0 {b:Nat} {e e':Eff} (h:renm b e=some e') (hd:Does K P F β a W o b e):Does K P F β a W o bn e':=by
 unfold renm at h
 split at h
 case h_2=>cases h
 rename_i v T ls
 injection h with h;subst h
 intro N Q hN
 refine hd N Q fun u β' W' hs=>hN u β' W' ⟨hs.geo,fun c _ hc=>hs.eqv c (.inr (by simpa using hc)) (by simp),fun h=>absurd rfl h,fun c hc q hq=>?_,hs.oth,hs.mls,hs.dm,fun q hq=>(hs.dn q hq).imp id (Or.imp id fun ⟨c,hc,_⟩=>(by cases hc)),hs.val,fun T ls h=>by simp at h,fun x hx=>?_⟩
 ·rw [List.mem_singleton] at hc;subst hc
  exact .inr (hs.fresh (by simp) q hq)
 ·rw [List.mem_singleton] at hx;subst hx
  exact hs.nw T ls rfl
def zew (K:Kit) (P:Program) (av:List Atom) (o:Oper) (b:Nat):Option Eff:=match o.op with
 | .alloc T=>(zcG K P b T).bind (renm b)
 | .box T x=>(ziw K b av T x).bind (renm b)
 | _=>none
theorem zjG (hF:Fine K F) (hav:∀A∈av,A.ok K F β a W) (hg:Geo K β W) {b:Nat} {e:Eff} (h:zew K P av o b=some e):Does K P F β a W o bn e:=by
 unfold zew at h
 split at h
 ·rw [Option.bind_eq_some_iff] at h
  obtain ⟨e1,h1,h2⟩:=h
  exact zf0 h2 (zdP hF hg ‹_› h1)
 ·rw [Option.bind_eq_some_iff] at h
  obtain ⟨e1,h1,h2⟩:=h
  exact zf0 h2 (zio hF hav hg ‹_› h1)
 ·cases h
def zkQ (av:List Atom) (o:Oper) (T:TypeId) (sl sc out:Sh):Option Eff:=match o.op with
 | .makeSlice T' l c=>match opSh av l,opSh av c with
  | some x,some y=>if T == T' && sheq x sl && sheq y sc then some (.v out) else none
  | _,_=>none
 | _=>none
theorem znI (hav:∀A∈av,A.ok K F β a W) (hg:Geo K β W) {T:TypeId} {sl sc out:Sh} (hn:(Ent.mks T sl sc out).sound K P F) {e:Eff} (h:zkQ av o T sl sc out=some e):Does K P F β a W o bn e:=by
 unfold zkQ at h
 split at h
 case h_2=>cases h
 rename_i T' l c ho
 split at h
 case h_2=>cases h
 rename_i x y hx hy
 split at h
 case isFalse=>cases h
 rename_i hc
 simp only [Bool.and_eq_true,beq_iff_eq] at hc
 obtain ⟨⟨rfl,h1⟩,h2⟩:=hc
 injection h with h;subst h
 have v1:=zr hx hav
 have v2:=zr hy hav
 rw [zN h1] at v1;rw [zN h2] at v2
 obtain ⟨v,D',W',hrun,hO,hdm,hdn,hok⟩:=hn β W _ _ v1 v2 hg
 have hex:(execOp a.eval o).run P W=.ok (.value v) W':=by
  simp only [execOp,ho,Sem.run_bind,hrun,Result.andThen_ok,Sem.run_pure]
 intro N Q hN
 unfold Oper.wp
 rw [hex]
 exact hN v ⟨β.bx,β.len,D'⟩ W' ⟨⟨fun b q hq=>Nat.lt_of_lt_of_le (hg.lt b q hq) hO.size,hg.inj,hg.bel.trans (hO.ofOth (fun _ h=>h.elim) hg.bel.size),fun b q hq hD=>(hdn q hD).elim (fun h=>hg.dis b q hq h) (fun h=>by have:=hg.lt b q hq;omega),fun q hq=>(hdn q hq).elim (fun h=>Nat.lt_of_lt_of_le (hg.dlt q h) hO.size) fun h=>h.2,fun q hq=>hdm q (hg.low q hq)⟩,fun _ _ _=>⟨rfl,rfl⟩,fun h=>absurd rfl h,(fun c h=>by cases h),hO.mono fun _ h=>h.elim,fun q h=>(by obtain ⟨b,hb,_⟩:=h;cases hb),hdm,fun q hq=>(hdn q hq).imp id fun h=>.inl h.1,fun y hy=>(by injection hy with hy;subst hy;exact hok),fun T ls h=>by simp [Eff.v] at h,(fun x h=>by cases h)⟩
def zkP (o:Oper) (bn n:Nat):Option Eff:=match o.op with
 | .makeMap _ none=>some ⟨some (.o (.c (.mp bn))),none,[],[.hp [bn] [] n],[bn],none⟩
 | _=>none
theorem znH (hg:Geo K β W) {n:Nat} (hn:(Ent.mkm n).sound K P F) {e:Eff} (h:zkP o bn n=some e):Does K P F β a W o bn e:=by
 unfold zkP at h
 split at h
 case h_2=>cases h
 rename_i t ho
 injection h with h;subst h
 have hrun:(execOp a.eval o).run P W=.ok (.value (.map (some W.heap.size))) (W.alloc (.map #[] 0)):=by
  simp only [execOp,ho,Instr.makeMap,Option.map_none,Sem.run_bind,Sem.run_pure,Result.andThen_ok,run_newObj]
  rfl
 intro N Q hN
 unfold Oper.wp
 rw [hrun]
 have hO:Oth (fun _=>False) W (W.alloc (.map #[] 0)):=Oth.alloc _ _ _
 have hgv:(gv (set β bn W.heap.size) bn).ownBlock=some W.heap.size:=by rw [zad];exact zQ ..
 refine hN _ (set β bn W.heap.size) _ ⟨hg.set rfl (by simp) hO,fun c _ hc=>zma (by simpa using hc),fun h=>absurd rfl h,fun c hc q hq=>?_,Oth.alloc _ _ _,fun q h=>(by obtain ⟨b,hb,_⟩:=h;cases hb),fun _ h=>h,fun _ h=>.inl h,fun y hy=>?_,fun T ls h=>by simp at h,fun x hx=>?_⟩
 ·rw [List.mem_singleton] at hc;subst hc
  rw [zQ] at hq;injection hq with hq;exact .inr (by omega)
 ·injection hy with hy;subst hy
  exact ⟨_,zQ ..,rfl⟩
 ·rw [List.mem_singleton] at hx;subst hx
  refine ⟨hn _ _ _ _ hgv (heap_alloc_new W _),fun b hb q hq=>?_⟩
  rw [List.mem_singleton] at hb;subst hb
  rw [zQ] at hq;injection hq with hq;subst hq
  exact ⟨hg.bel.size,_,heap_alloc_new W _,rfl⟩
def effUp (av:List Atom) (o:Oper) (t:TypeId) (bs:List Nat) (sx sk sy:Sh) (pre post:List Atom):Option Eff:=match o.op with
 | .mapUpdate t' x k y=>match opSh av x,opSh av k,opSh av y with
  | some s,some r,some u=>if t == t' && sheq s sx && sheq r sk && sheq u sy && zF av pre && bs.all (fun b=>(names pre).contains b) then some ⟨none,none,bs,post,[],none⟩ else none
  | _,_,_=>none
 | .insert t' x k y=>match opSh av x,opSh av k,opSh av y with
  | some s,some r,some u=>if t == t' && sheq s sx && sheq r sk && sheq u sy && zF av pre && bs.all (fun b=>(names pre).contains b) then some ⟨none,none,bs,post,[],none⟩ else none
  | _,_,_=>none
 | _=>none
theorem zrl (hav:∀A∈av,A.ok K F β a W) (hg:Geo K β W) {t:TypeId} {bs:List Nat} {sx sk sy:Sh} {pre post:List Atom} (hn:(Ent.up t bs sx sk sy pre post).sound K P F) {e:Eff} (h:effUp av o t bs sx sk sy pre post=some e):Does K P F β a W o bn e:=by
 have key:∀(t':TypeId) (x k y:Operand),(o.op=.mapUpdate t' x k y∨o.op=.insert t' x k y)→(match opSh av x,opSh av k,opSh av y with
  | some s,some r,some u=>if t == t' && sheq s sx && sheq r sk && sheq u sy && zF av pre && bs.all (fun b=>(names pre).contains b) then some (⟨none,none,bs,post,[],none⟩:Eff) else none
  | _,_,_=>none)=some e→Does K P F β a W o bn e:=by
  intro t' x k y ho h
  split at h
  case h_2=>cases h
  rename_i s r u hs hr hu
  split at h
  case isFalse=>cases h
  rename_i hc
  simp only [Bool.and_eq_true,beq_iff_eq,List.all_eq_true,List.contains_eq_mem,decide_eq_true_eq] at hc
  obtain ⟨⟨⟨⟨⟨rfl,h1⟩,h2⟩,h5⟩,h3⟩,h4⟩:=hc
  injection h with h;subst h
  have v1:=zr hs hav
  have v2:=zr hr hav
  have v3:=zr hu hav
  rw [zN h1] at v1;rw [zN h2] at v2;rw [zN h5] at v3
  have hp:=zO hav h3
  obtain ⟨W',hrun,hO,hpost⟩:=hn β W _ _ _ v1 v2 v3 hp hg
  have hml:∀q,(∃c∈bs,β c=some q)→Mlq K β.D W q:=fun q ⟨c,hc,hq⟩=>zi4 hg hp (qx h3) q ⟨c,h4 c hc,hq⟩
  have hex:(execOp a.eval o).run P W=.ok .skip W':=by
   rcases ho with ho | ho<;>simp only [execOp,ho,Sem.run_bind,hrun,Result.andThen_ok,Sem.run_pure]
  intro N Q hN
  unfold Oper.wp
  rw [hex]
  exact hN undef β W' ⟨hg.mono hml hO,fun _ _ _=>Loc.same.rfl,fun h=>absurd rfl h,(fun c h=>by cases h),hO,hml,fun _ h=>h,fun _ h=>.inl h,fun x h=>by simp at h,fun T ls h=>by simp at h,hpost⟩
 unfold effUp at h
 split at h
 ·exact key _ _ _ _ (.inl ‹_›) h
 ·exact key _ _ _ _ (.inr ‹_›) h
 ·cases h
def zkM (av:List Atom) (o:Oper) (op:BinOp) (T:TypeId) (sx:Sh) (c:Value) (out:Sh):Option Eff:=match o.op with
 | .binOp op' T' x (.const u) _=>match opSh av x with
  | some s=>if op == op' && T == T' && sheq s sx && veq u c then some (.v out) else none
  | none=>none
 | _=>none
theorem zni (hav:∀A∈av,A.ok K F β a W) (hg:Geo K β W) {op:BinOp} {T:TypeId} {sx:Sh} {c:Value} {out:Sh} (hn:(Ent.bic op T sx c out).sound K P F) {e:Eff} (h:zkM av o op T sx c out=some e):Does K P F β a W o bn e:=by
 unfold zkM at h
 split at h
 case h_2=>cases h
 rename_i op' T' x u U ho
 split at h
 case h_2=>cases h
 rename_i s hs
 split at h
 case isFalse=>cases h
 rename_i hc
 simp only [Bool.and_eq_true,beq_iff_eq] at hc
 obtain ⟨⟨⟨rfl,rfl⟩,h1⟩,h2⟩:=hc
 injection h with h;subst h
 have v1:=zr hs hav
 rw [zN h1] at v1
 obtain rfl:=zpU h2
 obtain ⟨v,hv1,hv2⟩:=hn β W _ v1
 refine Does.value (v:=v) hg ?_ hv2
 have hu:a.eval (.const u)=u:=rfl
 simp only [execOp,ho,hu]
 rw [Sem.run_bind,hv1 x];rfl
def entOf (C:List (Nat×Ent)) (bn:Nat) (dst:Option Nat):Option Ent:=match ent C (1000000+bn) with
 | some e=>some e
 | none=>match dst with
  | some d=>ent C d
  | none=>none
def opEff (K:Kit) (P:Program) (C:List (Nat×Ent)) (bn:Nat) (av:List Atom) (o:Oper):Option Eff:=
 let n:=entOf C bn o.dst
 match n with
 | some (.op g ins pre out)=>effOp av o g ins pre out
 | some (.st T bs x y pre post)=>effSt av o T bs x y pre post
 | some (.ap t bs x y out pre post)=>effAp av o t bs x y out pre post
 | some (.aln b)=>zew K P av o b
 | some (.mkm m)=>zkP o bn m
 | some (.mks T l c out)=>zkQ av o T l c out
 | some (.bic op T x y out)=>zkM av o op T x y out
 | some (.up t bs x k y pre post)=>effUp av o t bs x k y pre post
 | _=>match o.op with
 | .move x=>zev av x
 | .assign x=>zev av x
 | .pick c x y=>zgU C av c x y
 | .alloc T=>zcG K P bn T
 | .box T x=>ziw K bn av T x
 | .build T ps=>zet K P av T ps
 | .buildSlice T len ps=>zal K P bn av n T len ps
 | .load T x=>zcf P av T x
 | .store T x y=>zex K P av T x y
 | .nilCheck x=>zkR av x
 | .binOp op T x y _=>zkN av n op T x y
 | .unOp op _ x=>effUn C av n op x
 | .makeFunc g first captured=>zgS av g first captured
 | .fieldAddr T x i=>zaF P av T x i
 | .field T x i=>zeu P av T x i
 | .indexAddr T x i=>zaG P av T x i
 | .extract x i=>zce av x i
 | .call c=>match n with
  | some (.app T z b g m arg pre nil)=>zkL K P av c T z b g m arg pre nil
  | _=>zgR P bn av n c
 | _=>none
theorem zd5 (hF:Fine K F) {C:List (Nat×Ent)} (hC:Sound K P F C) (hav:∀A∈av,A.ok K F β a W) (hg:Geo K β W) {e:Eff} (h:opEff K P C bn av o=some e):Does K P F β a W o bn e:=by
 have hn:∀e,entOf C bn o.dst=some e→e.sound K P F:=by
  intro e he
  unfold entOf at he
  split at he
  ·rename_i e' h'
   injection he with he
   rw [← he];exact zbO h' hC
  ·split at he
   ·exact zbO he hC
   ·simp at he
 unfold opEff at h
 simp only at h
 split at h
 ·rename_i g ins pre out hs
  exact zqo hav hg (hn _ hs) h
 ·rename_i T bs x y pre post hs
  exact zqL hav hg (hn _ hs) h
 ·rename_i t bs x y out pre post hs
  exact zpZ hav hg (hn _ hs) h
 ·exact zjG hF hav hg h
 ·exact znH hg (hn _ ‹_›) h
 ·exact znI hav hg (hn _ ‹_›) h
 ·exact zni hav hg (hn _ ‹_›) h
 ·exact zrl hav hg (hn _ ‹_›) h
 split at h
 ·exact zfS hav hg (.inl ‹_›) h
 ·exact zfS hav hg (.inr ‹_›) h
 ·exact zlP hC hav hg ‹_› h
 ·exact zdP hF hg ‹_› h
 ·exact zio hF hav hg ‹_› h
 ·exact zjx hF hav hg ‹_› h
 ·exact zcV hF hav hg hn ‹_› h
 ·exact zlr hav hg ‹_› h
 ·exact zjM hF hav hg ‹_› h
 ·exact znM hav hg ‹_› h
 ·exact znj hav hg hn ‹_› h
 ·exact zrk hC hav hg hn ‹_› h
 ·exact zk8 hav hg ‹_› h
 ·exact zdH hav hg ‹_› h
 ·exact zjC hav hg ‹_› h
 ·exact zdI hav hg ‹_› h
 ·exact zfG hav hg ‹_› h
 ·split at h
  ·exact zne hF hav hg (hn _ ‹_›) ‹_› h
  ·exact zky hF hav hg hn ‹_› h
 ·simp at h
end
def depB (ops:Array Oper) (i j:Nat):Bool:=match ops[i]? with
 | some o=>o.after.any fun e=>Region.binds .any e && e.on == j
 | none=>false
def backB (ops:Array Oper):Bool:=(List.range ops.size).all fun i=>match ops[i]? with
 | some o=>o.after.all fun e=>!Region.binds .any e || decide (e.on<i)
 | none=>true
def Closed (ops:Array Oper) (L:Array Bool):Prop:=∀i j,depB ops i j=true→L.getD i true=true→i<ops.size→L.getD j false=true
theorem zdd {ops:Array Oper} {L:Array Bool} {i:Nat}:i∈Region.ready .any ops L↔∃o,ops[i]?=some o∧L.getD i true=false∧∀e∈o.after,Region.binds .any e=true→L.getD e.on false=true:=by
 unfold Region.ready
 rw [List.mem_filter,List.mem_range]
 constructor
 ·rintro ⟨hi,h⟩
  rw [Bool.and_eq_true,Array.getElem?_eq_getElem hi] at h
  refine ⟨_,Array.getElem?_eq_getElem hi,by simpa using h.1,fun e he hb=>?_⟩
  have h2:=h.2
  simp only [Option.map_some,Option.getD_some,Array.all_eq_true_iff_forall_mem] at h2
  have:=h2 e he
  rw [hb] at this
  simpa using this
 ·rintro ⟨o,ho,hl,hd⟩
  refine ⟨(Array.getElem?_eq_some_iff.1 ho).1,?_⟩
  rw [Bool.and_eq_true,ho]
  refine ⟨by rw [hl];rfl,?_⟩
  simp only [Option.map_some,Option.getD_some,Array.all_eq_true_iff_forall_mem]
  intro e he
  cases hb:Region.binds .any e with
  | false=>rfl
  | true=>simpa using hd e he hb
theorem zg4 {L:Array Bool} {i:Nat} {b c:Bool} (h:i<L.size):L.getD i b=L.getD i c:=by simp [Array.getD,h]
theorem ziJ {L:Array Bool} {i j:Nat} (h:(L.setIfInBounds i true).getD j false=true):j=i∨L.getD j false=true:=by
 by_cases hj:j=i
 ·exact .inl hj
 ·refine .inr ?_
  simp only [Array.getD_eq_getD_getElem?] at h ⊢
  rwa [Array.getElem?_setIfInBounds_ne (Ne.symm hj)] at h
theorem zbo {L:Array Bool} {i j:Nat} {b:Bool} (h:L.getD j b=true):(L.setIfInBounds i true).getD j b=true:=by
 simp only [Array.getD_eq_getD_getElem?] at h ⊢
 by_cases hj:j=i
 ·subst hj
  rcases Nat.lt_or_ge j L.size with hl | hl
  ·rw [Array.getElem?_setIfInBounds_self_of_lt hl];rfl
  ·rw [Array.getElem?_eq_none (by simpa using hl)]
   rwa [Array.getElem?_eq_none hl] at h
 ·rwa [Array.getElem?_setIfInBounds_ne (Ne.symm hj)]
theorem zeC {L:Array Bool} {i:Nat} {b:Bool} (h:i<L.size):(L.setIfInBounds i true).getD i b=true:=by
 simp only [Array.getD_eq_getD_getElem?]
 rw [Array.getElem?_setIfInBounds_self_of_lt h];rfl
section
variable {P:Program} {ops:Array Oper} {Q:Exit→Act→World→Prop}
theorem zdO (hb:backB ops=true) {L:Array Bool} (hs:L.size=ops.size) (hr:Region.ready .any ops L=[]):∀i,i<ops.size→L.getD i false=true:=by
 intro i
 induction i using Nat.strongRecOn with
 | _ i ih =>
  intro hi
  cases hl:L.getD i false with
  | true=>rfl
  | false =>
   exfalso
   have:i∈Region.ready .any ops L:=zdd.2 ⟨_,Array.getElem?_eq_getElem hi,by rw [zg4 (c:=false) (by omega)];exact hl,fun e he hbe=>by
    have h1:=List.all_eq_true.1 hb i (List.mem_range.2 hi)
    rw [Array.getElem?_eq_getElem hi] at h1
    simp only [Array.all_eq_true_iff_forall_mem] at h1
    have h2:=h1 e he
    rw [hbe] at h2
    have h3:e.on<i:=by simpa using h2
    exact ih _ h3 (by omega)⟩
   rw [hr] at this
   cases this
theorem zmS (hb:backB ops=true) (Inv:Array Bool→Act→World→Prop)
  (hs:∀(L:Array Bool) a w i o,ops[i]?=some o→L.size=ops.size→Closed ops L→L.getD i true=false→(∀j,depB ops i j=true→L.getD j false=true)→Inv L a w→wpOp P ops Q i (Inv (L.setIfInBounds i true)) a w)
  (he:∀(L:Array Bool) a w,(∀i,i<ops.size→L.getD i false=true)→Inv L a w→Q .normal a w) :
  ∀(fuel:Nat) (L:Array Bool) a w,L.size=ops.size→Closed ops L→L.toList.count false≤fuel→Inv L a w→wpAny P .any ops Q fuel L a w:=by
 intro fuel
 induction fuel with
 | zero =>
  intro L a w hz hc hu hI
  have hall:∀i,i<ops.size→L.getD i true=true:=by
   intro i hi
   cases hl:L.getD i true with
   | true=>rfl
   | false =>
    exfalso
    have h1:i<L.size:=by omega
    have h2:L[i]=false:=by simpa [Array.getD,h1] using hl
    have h3:false∈L.toList:=by rw [← h2];simp
    have:=List.count_pos_iff.2 h3
    omega
  have hr:Region.ready .any ops L=[]:=by
   rw [List.eq_nil_iff_forall_not_mem]
   intro i hi
   obtain ⟨o,ho,hl,_⟩:=zdd.1 hi
   rw [hall i (Array.getElem?_eq_some_iff.1 ho).1] at hl
   cases hl
  exact ⟨hr,he L a w (zdO hb hz hr) hI⟩
 | succ fuel ih =>
  intro L a w hz hc hu hI
  refine ⟨fun hr=>he L a w (zdO hb hz hr) hI,fun i hi=>?_⟩
  obtain ⟨o,ho,hl,hd⟩:=zdd.1 hi
  have hlt:=(Array.getElem?_eq_some_iff.1 ho).1
  have hdj:∀j,depB ops i j=true→L.getD j false=true:=by
   intro j hj
   unfold depB at hj
   rw [ho] at hj
   obtain ⟨e,he1,he2⟩:=Array.any_eq_true'.1 hj
   rw [Bool.and_eq_true] at he2
   obtain ⟨he2,he3⟩:=he2
   have:=hd e he1 he2
   rwa [show e.on=j by simpa using he3] at this
  refine wpOp_mono (fun a' w' hI'=>ih _ a' w' (by simpa using hz) ?_ ?_ hI') (hs L a w i o ho hz hc hl hdj hI)
  ·intro x y hxy hx hxs
   by_cases hxi:x=i
   ·subst hxi
    exact zbo (hdj y hxy)
   ·refine zbo (hc x y hxy ?_ hxs)
    simp only [Array.getD_eq_getD_getElem?] at hx ⊢
    rwa [Array.getElem?_setIfInBounds_ne (Ne.symm hxi)] at hx
  ·have h1:i<L.size:=by omega
   have h2:L[i]=false:=by simpa [Array.getD,h1] using hl
   rw [Array.toList_setIfInBounds,List.count_set (by simpa using h1)]
   have h3:(L.toList[i]'(by simpa using h1))=false:=by simpa using h2
   rw [h3]
   simp only [BEq.rfl,if_true]
   rw [if_neg (by decide)]
   omega
theorem zfv {id:Nat} {a:Act} {w:World} (hm:P.follows .mixedOrders=true) (hb:backB ops=true) (Inv:Array Bool→Act→World→Prop)
  (h0:Inv (Array.replicate ops.size false) a w.drew)
  (hs:∀(L:Array Bool) a w i o,ops[i]?=some o→L.size=ops.size→Closed ops L→L.getD i true=false→(∀j,depB ops i j=true→L.getD j false=true)→Inv L a w→wpOp P ops Q i (Inv (L.setIfInBounds i true)) a w)
  (he:∀(L:Array Bool) a w,(∀i,i<ops.size→L.getD i false=true)→Inv L a w→Q .normal a w):(Code.region id ops true).wp P Q a w:=by
 refine wp_region_any hm (zmS hb Inv hs he _ _ a w.drew (by simp) ?_ (by simp) h0)
 intro i j _ hi hlt
 simp [Array.getD,hlt] at hi
end
def zi6 (K:Kit) (P:Program) (C:List (Nat×Ent)) (ops:Array Oper) (bn:Nat) (av:List Atom) (o:Oper):Option Eff:=match o.guard with
 | none=>opEff K P C bn av o
 | some (j,b)=>match (ops[j]?).bind (·.dst) with
  | some d=>match zaA d av with
   | some s=>if sheq s (.t []) then some (Eff.v (.t [])) else match fbOf C s with
    | some c=>if c == b then opEff K P C bn av o else some (Eff.v (.t []))
    | none=>none
   | none=>none
  | none=>none
section
variable {K:Kit} {P:Program} {F:Fact} {β:Loc} {a:Act} {W:World} {o:Oper} {bn:Nat} {av:List Atom}
theorem zkO (hF:Fine K F) {C:List (Nat×Ent)} (hC:Sound K P F C) {ops:Array Oper} (hav:∀A∈av,A.ok K F β a W) (hg:Geo K β W) {e:Eff} (h:zi6 K P C ops bn av o=some e) (N:Act→World→Prop) (Q:Exit→Act→World→Prop)
  (hN:∀v β' W',Step K F β W e bn v β' W'→After F a o e N Q β' v W'):if Region.wanted o (yielded ops a.tmps)=true then o.wp P a W N Q else N (a.put o.dst undef) W:=by
 unfold zi6 at h
 split at h
 ·rename_i hgd
  rw [if_pos (by unfold Region.wanted;rw [hgd])]
  exact zd5 hF hC hav hg h N Q hN
 ·rename_i j b hgd
  split at h
  case h_2=>simp at h
  rename_i d hd
  split at h
  case h_2=>simp at h
  rename_i s hs
  split at h
  ·rename_i ht0
   have es:=zN ht0
   subst es
   injection h with h;subst h
   obtain ⟨vs,hv,hvs⟩:=qw hs hav
   have hy:yielded ops a.tmps j=none:=by
    unfold yielded
    rw [hd,Option.bind_some]
    rw [Array.getD_eq_getD_getElem?] at hv
    cases ht:a.tmps[d]? with
    | none=>rfl
    | some u=>rw [ht] at hv;simp only [Option.getD_some] at hv;rw [hv]
   rw [if_neg (by unfold Region.wanted;rw [hgd];simp [hy])]
   exact hN undef β W (Step.same hg fun y hy=>by injection hy with hy;subst hy;exact ⟨#[],rfl,trivial⟩)
  split at h
  case h_2=>simp at h
  rename_i c hfb
  have hv:a.tmps.getD d undef=.bool c:=zgX hC hfb (qw hs hav)
  have hy:yielded ops a.tmps j=some c:=by
   unfold yielded
   rw [hd,Option.bind_some]
   rw [Array.getD_eq_getD_getElem?] at hv
   cases ht:a.tmps[d]? with
   | none=>rw [ht] at hv;simp [undef] at hv
   | some u=>rw [ht] at hv;simp only [Option.getD_some] at hv;rw [hv]
  split at h
  ·rename_i hcb
   rw [beq_iff_eq] at hcb
   rw [if_pos (by unfold Region.wanted;rw [hgd];simp [hy,hcb])]
   exact zd5 hF hC hav hg h N Q hN
  ·rename_i hcb
   rw [beq_iff_eq] at hcb
   rw [if_neg (by unfold Region.wanted;rw [hgd];simp [hy,hcb])]
   injection h with h;subst h
   exact hN undef β W (Step.same hg fun y hy=>by injection hy with hy;subst hy;exact ⟨#[],rfl,trivial⟩)
end
structure Row where
 src:Option Nat
 ks:List Nat
 A:Atom
def prod (nt:Nat) (e:Eff) (dst:Option Nat) (bn:Nat):Atom→Bool
 | .sl s x=>Nat.blt s nt && dst == some s && (match e.val with
  | some y=>sheq x y
  | none=>false)
 | .bx b T ls=>(match e.nw with
  | some (U,ms)=>b == bn && T == U && leqs ls ms
  | none=>false) || e.wr.any fun x=>aeq (.bx b T ls) x
 | .gl b T z n=>e.wr.any fun x=>aeq (.gl b T z n) x
 | .gn _=>false
 | .hp l rs n=>e.wr.any fun x=>aeq (.hp l rs n) x
def stays (e:Eff) (bn:Nat) (A:Atom):Bool:=(e.nw.isNone || !A.has bn) && e.mv.all fun c=>!A.has c
def free (e:Eff) (dst:Option Nat) (bn:Nat):Atom→Bool
 | .sl s x=>!(dst == some s) && stays e bn (.sl s x)
 | A=>A.nms.all (fun b=>!(e.tch.contains b)) && stays e bn A
section
variable {K:Kit} {F:Fact} {β β':Loc} {a:Act} {W W':World} {e:Eff} {bn:Nat} {v:Value} {dst:Option Nat}
theorem zn6 {d:Nat} (h:d<a.tmps.size):(a.put (some d) v).tmps.getD d undef=v:=by
 simp [Act.put,h]
theorem zlV {s:Nat} (h:dst≠some s):(a.put dst v).tmps.getD s undef=a.tmps.getD s undef:=by
 cases dst with
 | none=>rfl
 | some d =>
  have hd:d≠s:=fun e=>h (by rw [e])
  simp only [Act.put,Array.getD_eq_getD_getElem?]
  rw [Array.getElem?_setIfInBounds_ne hd]
theorem zn7:(a.put dst v).tmps.size=a.tmps.size:=by cases dst<;>simp [Act.put]
theorem zjJ:(a.put dst v).defers=a.defers:=by cases dst<;>rfl
theorem zhl {nt:Nat} {A:Atom} (hn:a.tmps.size=nt) (h:prod nt e dst bn A=true) (hs:Step K F β W e bn v β' W'):A.ok K F β' (a.put dst v) W':=by
 cases A with
 | sl s x =>
  simp only [prod,Bool.and_eq_true,Nat.blt_eq,beq_iff_eq] at h
  obtain ⟨⟨h1,h2⟩,h3⟩:=h
  split at h3
  ·rename_i y hy
   rw [zN h3,h2]
   show y.ok F β' ((a.put (some s) v).tmps.getD s undef) W'
   rw [zn6 (by omega)]
   exact hs.val y hy
  ·simp at h3
 | bx b T ls =>
  simp only [prod,Bool.or_eq_true,List.any_eq_true] at h
  rcases h with h | ⟨x,hx,h⟩
  ·split at h
   ·rename_i U ms hnw
    simp only [Bool.and_eq_true,beq_iff_eq] at h
    rw [h.1.1,h.1.2,zbs h.2]
    exact hs.nw U ms hnw
   ·simp at h
  ·rw [zcz h]
   have:=hs.wr x hx
   rw [← zcz h] at this ⊢
   exact this
 | gl b T z n =>
  simp only [prod,List.any_eq_true] at h
  obtain ⟨x,hx,h⟩:=h
  have:=hs.wr x hx
  rw [← zcz h] at this
  exact this
 | gn b=>cases h
 | hp l rs n =>
  simp only [prod,List.any_eq_true] at h
  obtain ⟨x,hx,h⟩:=h
  have:=hs.wr x hx
  rw [← zcz h] at this
  exact this
theorem zjj {A:Atom} (h:stays e bn A=true) (hs:Step K F β W e bn v β' W'):∀c,A.has c=true→β.same β' c:=by
 intro c hc
 unfold stays at h
 rw [Bool.and_eq_true,Bool.or_eq_true,Option.isNone_iff_eq_none,List.all_eq_true] at h
 refine hs.eqv c (h.1.imp id fun hp e=>?_) fun hm=>?_
 ·subst e
  rw [hc] at hp;cases hp
 ·have:=h.2 c hm
  rw [hc] at this;cases this
theorem zg2 (hF:Fine K F) (hg:Geo K β W) {A:Atom} (h:free e dst bn A=true) (hs:Step K F β W e bn v β' W') (hA:A.ok K F β a W):A.ok K F β' (a.put dst v) W':=by
 have key:∀A:Atom,(∀s x,A≠.sl s x)→(A.nms.all (fun b=>!(e.tch.contains b)) && stays e bn A)=true→A.ok K F β a W→A.ok K F β' (a.put dst v) W':=by
  intro A hns h hA
  rw [Bool.and_eq_true,List.all_eq_true] at h
  have hno:∀c∈A.nms,∀q,β c=some q→¬ ∃b∈e.tch,β b=some q:=by
   rintro c hcn q hq ⟨d,hd,hdq⟩
   have:=hg.inj c d q hq hdq
   subst this
   have:=h.1 c hcn
   simp [hd] at this
  have hst:=zjj h.2 hs
  cases A with
  | sl s x=>exact absurd rfl (hns s x)
  | bx b T ls=>exact Box.mv hF hs.mls hs.oth hs.dm hst hA (hno b (by simp [Atom.nms]))
  | gl b T z n=>exact GL.mv hF hs.mls hs.oth hs.dm (hst b (by simp [Atom.has])) hA (hno b (by simp [Atom.nms]))
  | gn b=>exact (hst b (by simp [Atom.has])).1.trans hA
  | hp l rs n=>exact HP.mv hF hs.mls hs.oth hs.dm (fun b hm=>hst b (by simp [Atom.has,hm])) (fun b hm=>hst b (by simp [Atom.has,hm])) hA hno
 cases A with
 | sl s x =>
  simp only [free,Bool.and_eq_true,Bool.not_eq_true',beq_eq_false_iff_ne] at h
  show x.ok F β' _ W'
  rw [zlV h.1]
  exact Sh.mv hF hs.mls hs.oth hs.dm (zjj h.2 hs) hA
 | bx b T ls=>exact key _ (fun _ _ e=>by cases e) h hA
 | gl b T z n=>exact key _ (fun _ _ e=>by cases e) h hA
 | gn b=>exact key _ (fun _ _ e=>by cases e) h hA
 | hp l rs n=>exact key _ (fun _ _ e=>by cases e) h hA
end
def dirOf (draw:Bool) (i:Nat) (o:Oper):List Nat:=if draw then o.after.toList.filterMap fun e=>if Region.binds .any e then some e.on else none else List.range i
def abits (acc:List Nat):List Nat→Nat
 | []=>0
 | k::r=>(2 ^ k ||| acc.getD k 0) ||| abits acc r
def ancGo:List (List Nat)→List Nat→List Nat
 | [],acc=>acc
 | d::r,acc=>ancGo r (acc++[abits acc d])
def zis (draw:Bool):Nat→List Oper→List (List Nat)
 | _,[]=>[]
 | i,o::r=>dirOf draw i o::zis draw (i+1) r
theorem zep {acc:List Nat}:∀{d:List Nat} {j:Nat},(abits acc d).testBit j=true→∃k∈d,j=k∨(acc.getD k 0).testBit j=true
 | [],j,h=>by simp [abits] at h
 | k::r,j,h=>by
  simp only [abits,Nat.testBit_or,Bool.or_eq_true] at h
  rcases h with (h | h) | h
  ·exact ⟨k,List.mem_cons_self ..,.inl (by rw [Nat.testBit_two_pow] at h;exact (of_decide_eq_true h).symm)⟩
  ·exact ⟨k,List.mem_cons_self ..,.inr h⟩
  ·obtain ⟨k',h1,h2⟩:=zep h
   exact ⟨k',List.mem_cons_of_mem _ h1,h2⟩
def ancOk (draw:Bool) (anc:List Nat):Nat→List Oper→Bool
 | _,[]=>true
 | i,o::r=>(let d:=dirOf draw i o;(anc.getD i 0 == abits anc d) && d.all fun k=>Nat.blt k i) && ancOk draw anc (i+1) r
theorem zbL {draw:Bool} {anc:List Nat}:∀{i0:Nat} {l:List Oper},ancOk draw anc i0 l=true→∀i o,l[i]?=some o→anc.getD (i0+i) 0=abits anc (dirOf draw (i0+i) o)∧∀k∈dirOf draw (i0+i) o,k<i0+i
 | _,[],_,i,o,h=>by simp at h
 | i0,p::r,h,i,o,ho=>by
  simp only [ancOk,Bool.and_eq_true,beq_iff_eq,List.all_eq_true,Nat.blt_eq] at h
  cases i with
  | zero =>
   simp only [List.getElem?_cons_zero,Option.some.injEq] at ho
   subst ho
   exact ⟨h.1.1,h.1.2⟩
  | succ i =>
   have:=zbL h.2 i o (by simpa using ho)
   rwa [show i0+1+i=i0+(i+1) by omega] at this
section
variable {draw:Bool} {ops:Array Oper} {anc:List Nat} {L:Array Bool}
def Shut (draw:Bool) (ops:Array Oper) (L:Array Bool):Prop:=∀i o,ops[i]?=some o→L.getD i false=true→∀k∈dirOf draw i o,L.getD k false=true
theorem zjh (hA:ancOk draw anc 0 ops.toList=true) (hL:Shut draw ops L):∀(i:Nat) (o:Oper),ops[i]?=some o→L.getD i false=true→∀j,(anc.getD i 0).testBit j=true→L.getD j false=true:=by
 intro i
 induction i using Nat.strongRecOn with
 | _ i ih =>
  intro o ho hi j hj
  obtain ⟨h1,h2⟩:=zbL hA i o (by simpa using ho)
  rw [Nat.zero_add] at h1 h2
  rw [h1] at hj
  obtain ⟨k,hk,hjk⟩:=zep hj
  have hLk:=hL i o ho hi k hk
  rcases hjk with rfl | hjk
  ·exact hLk
  ·have hlt:=h2 k hk
   have hlt2:=(Array.getElem?_eq_some_iff.1 ho).1
   exact ih k hlt _ (Array.getElem?_eq_getElem (by omega)) hLk j hjk
theorem zlX (hA:ancOk draw anc 0 ops.toList=true) (hL:Shut draw ops L) {i:Nat} {o:Oper} (ho:ops[i]?=some o) (hr:∀k∈dirOf draw i o,L.getD k false=true):∀j,(anc.getD i 0).testBit j=true→L.getD j false=true:=by
 intro j hj
 obtain ⟨h1,h2⟩:=zbL hA i o (by simpa using ho)
 rw [Nat.zero_add] at h1 h2
 rw [h1] at hj
 obtain ⟨k,hk,hjk⟩:=zep hj
 rcases hjk with rfl | hjk
 ·exact hr _ hk
 ·have hlt:=h2 k hk
  have hlt2:=(Array.getElem?_eq_some_iff.1 ho).1
  exact zjh hA hL k _ (Array.getElem?_eq_getElem (by omega)) (hr k hk) j hjk
end
structure Pm where
 nt:Nat
 pn:List Nat
 gn:List Nat
structure Frm where
 w0:World
 β0:Loc
 pm:Pm
 dfs:List Deferred:=[]
def Frm.S0 (R:Frm) (q:Nat):Prop:=∃b∈R.pm.pn,R.β0 b=some q
structure Env (K:Kit) (R:Frm) (β:Loc) (W:World):Prop where
 geo:Geo K β W
 oth:Oth R.S0 R.w0 W
 own:∀b,b ∉ R.pm.pn→∀q,β b=some q→R.w0.heap.size≤q
 same:∀b∈R.pm.pn,b ∉ R.pm.gn→R.β0.same β b
 mvd:∀b∈R.pm.pn,∀q,β b=some q→R.β0 b=some q∨R.w0.heap.size≤q
 dm:∀q,R.β0.D q→β.D q
 dn:∀q,β.D q→R.β0.D q∨R.w0.heap.size≤q∨∃b∈R.pm.gn,R.β0 b=some q
theorem Env.in0 {K:Kit} {R:Frm} {β:Loc} {W:World} (h:Env K R β W) {b q:Nat} (hq:β b=some q):R.S0 q∨R.w0.heap.size≤q:=by
 by_cases hb:b∈R.pm.pn
 ·exact (h.mvd b hb q hq).imp (fun e=>⟨b,hb,e⟩) id
 ·exact .inr (h.own b hb q hq)
def mvOk (pm:Pm) (bn:Nat) (e:Eff):Bool:=(e.nw.isNone || !pm.pn.contains bn) && e.mv.all fun c=>pm.gn.contains c || !pm.pn.contains c
theorem Env.step {K:Kit} {F:Fact} {R:Frm} {β β':Loc} {W W':World} {e:Eff} {bn:Nat} {v:Value} (h:Env K R β W) (hb:mvOk R.pm bn e=true) (hs:Step K F β W e bn v β' W'):Env K R β' W':=by
 unfold mvOk at hb
 rw [Bool.and_eq_true,Bool.or_eq_true,Option.isNone_iff_eq_none,List.all_eq_true] at hb
 obtain ⟨hb1,hb2⟩:=hb
 have hsz:=h.oth.size
 have hkey:∀b q,β' b=some q→β b=some q∨W.heap.size≤q:=by
  intro b q hq
  by_cases hm:b∈e.mv
  ·exact hs.mvd b hm q hq
  ·by_cases hn:e.nw=none∨b≠bn
   ·exact .inl ((hs.eqv b hn hm).1.symm.trans hq)
   ·have h1:e.nw≠none:=fun e=>hn (.inl e)
    have h2:b=bn:=Classical.byContradiction fun e=>hn (.inr e)
    subst h2
    exact .inr (hs.fresh h1 q hq)
 refine ⟨hs.geo,h.oth.trans hs.oth ?_,fun b hbn q hq=>?_,fun b hbp hbg=>?_,fun b hbp q hq=>?_,fun q hq=>hs.dm q (h.dm q hq),fun q hq=>?_⟩
 ·rintro q ⟨b,_,hq⟩ hlt
  exact (h.in0 hq).resolve_right (by omega)
 ·rcases hkey b q hq with h1 | h1
  ·exact h.own b hbn q h1
  ·omega
 ·have h1:e.nw=none∨b≠bn:=hb1.imp id fun h e=>by subst e;simp [hbp] at h
  have h2:b ∉ e.mv:=fun hm=>by
   have:=hb2 b hm
   simp [hbp,hbg] at this
  have h3:=hs.eqv b h1 h2
  have h4:=h.same b hbp hbg
  exact ⟨h3.1.trans h4.1,h3.2.trans h4.2⟩
 ·rcases hkey b q hq with h1 | h1
  ·exact h.mvd b hbp q h1
  ·exact .inr (by omega)
 ·rcases hs.dn q hq with h1 | h1 | ⟨c,hc,h1⟩
  ·exact h.dn q h1
  ·exact .inr (.inl (by omega))
  ·by_cases hp:c∈R.pm.pn
   ·rcases h.mvd c hp q h1 with h2 | h2
    ·have:=hb2 c hc
     exact .inr (.inr ⟨c,by simpa [hp] using this,h2⟩)
    ·exact .inr (.inl h2)
   ·exact .inr (.inl (h.own c hp q h1))
def Inv (K:Kit) (F:Fact) (R:Frm) (st:List Atom) (a:Act) (W:World):Prop:=a.tmps.size=R.pm.nt∧a.defers=R.dfs∧∃β,Env K R β W∧∀A∈st,A.ok K F β a W
def InvP (K:Kit) (F:Fact) (R:Frm) (x:Sh) (st:List Atom) (v:Value) (a:Act) (W:World):Prop:=a.tmps.size=R.pm.nt∧a.defers=R.dfs∧∃β,Env K R β W∧x.ok F β v W∧∀A∈st,A.ok K F β a W
def avail (anc:List Nat) (i:Nat) (r:Row):Bool:=(match r.src with
 | none=>true
 | some p=>(anc.getD i 0).testBit p) && r.ks.all fun k=>k == i || (anc.getD k 0).testBit i
def avails (anc:List Nat) (i:Nat):List Row→List Atom
 | []=>[]
 | r::rs=>if avail anc i r then r.A::avails anc i rs else avails anc i rs
theorem zcp {anc:List Nat} {i:Nat} {A:Atom}:∀{rows:List Row},A∈avails anc i rows→∃r∈rows,avail anc i r=true∧A=r.A
 | [],h=>by cases h
 | r::rs,h=>by
  unfold avails at h
  split at h
  ·rename_i hr
   rcases List.mem_cons.1 h with h | h
   ·exact ⟨r,List.mem_cons_self ..,hr,h⟩
   ·obtain ⟨r',h1,h2⟩:=zcp h
    exact ⟨r',List.mem_cons_of_mem _ h1,h2⟩
  ·obtain ⟨r',h1,h2⟩:=zcp h
   exact ⟨r',List.mem_cons_of_mem _ h1,h2⟩
def rowOk (anc:List Nat) (nt i:Nat) (e:Eff) (dst:Option Nat) (bn:Nat) (r:Row):Bool:=
 (match r.src with
  | some p=>if p == i then prod nt e dst bn r.A else (anc.getD p 0).testBit i || (free e dst bn r.A || prod nt e dst bn r.A)
  | none=>free e dst bn r.A || prod nt e dst bn r.A) || r.ks.any fun k=>k == i || (anc.getD i 0).testBit k
structure Pans where
 ps:List Nat
 x:Sh
 st:List Atom
def hasP (m:Nat) (ps:List Nat):Bool:=ps.any fun p=>m.testBit p
def isSl:Atom→Bool
 | .sl _ _=>true
 | _=>false
def atPan (e:Eff) (bn:Nat) (av:List Atom) (A:Atom):Bool:=(av.any (fun B=>aeq A B) && free e none bn A) || (!isSl A && e.wr.any fun B=>aeq A B)
def opOk (K:Kit) (P:Program) (C:List (Nat×Ent)) (ops:Array Oper) (anc:List Nat) (pm:Pm) (base i:Nat) (o:Oper) (rows:List Row) (pc:Pans):Bool:=
 hasP (anc.getD i 0) pc.ps || (match zi6 K P C ops (base+i) (avails anc i rows) o with
 | some e=>mvOk pm (base+i) e && (match e.pan with
  | none=>!pc.ps.contains i && rows.all (rowOk anc pm.nt i e o.dst (base+i))
  | some x=>pc.ps.contains i && sheq x pc.x && pc.st.all (atPan e (base+i) (avails anc i rows)))
 | none=>false)
def opsOk (K:Kit) (P:Program) (C:List (Nat×Ent)) (ops:Array Oper) (anc:List Nat) (pm:Pm) (base:Nat) (rows:List Row) (pc:Pans):Nat→List Oper→Bool
 | _,[]=>true
 | i,o::r=>opOk K P C ops anc pm base i o rows pc && opsOk K P C ops anc pm base rows pc (i+1) r
theorem zfX {K:Kit} {P:Program} {C:List (Nat×Ent)} {ops:Array Oper} {anc:List Nat} {pm:Pm} {base:Nat} {rows:List Row} {pc:Pans}:∀{i0:Nat} {l:List Oper},opsOk K P C ops anc pm base rows pc i0 l=true→∀i o,l[i]?=some o→opOk K P C ops anc pm base (i0+i) o rows pc=true
 | _,[],_,i,o,h=>by simp at h
 | i0,p::r,h,i,o,ho=>by
  simp only [opsOk,Bool.and_eq_true] at h
  cases i with
  | zero =>
   simp only [List.getElem?_cons_zero,Option.some.injEq] at ho
   subst ho
   exact h.1
  | succ i =>
   have:=zfX h.2 i o (by simpa using ho)
   rwa [show i0+1+i=i0+(i+1) by omega] at this
def Alive (L:Array Bool) (r:Row):Prop:=(∀p,r.src=some p→L.getD p false=true)∧∀k∈r.ks,L.getD k false=false
def InvL (K:Kit) (F:Fact) (R:Frm) (rows:List Row) (ps:List Nat) (L:Array Bool) (a:Act) (W:World):Prop:=(∀p∈ps,L.getD p false=false)∧a.tmps.size=R.pm.nt∧a.defers=R.dfs∧∃β,Env K R β W∧∀r∈rows,Alive L r→r.A.ok K F β a W
section
variable {K:Kit} {P:Program} {F:Fact} {R:Frm} {ops:Array Oper} {anc:List Nat} {draw:Bool} {base:Nat} {rows:List Row} {Q:Exit→Act→World→Prop} {pc:Pans}
theorem zoa (hF:Fine K F) {C:List (Nat×Ent)} (hC:Sound K P F C) (hA:ancOk draw anc 0 ops.toList=true) (hO:opsOk K P C ops anc R.pm base rows pc 0 ops.toList=true)
  (L:Array Bool) (a:Act) (W:World) (i:Nat) (o:Oper) (ho:ops[i]?=some o) (hsz:L.size=ops.size) (hL:Shut draw ops L) (hi:L.getD i true=false) (hr:∀k∈dirOf draw i o,L.getD k false=true)
  (hP:pc.ps≠[]→∀v a' W',InvP K F R pc.x pc.st v a' W'→Q (.panic [{ v,recovered:=false }]) a' W')
  (hI:InvL K F R rows pc.ps L a W):wpOp P ops Q i (InvL K F R rows pc.ps (L.setIfInBounds i true)) a W:=by
 obtain ⟨hps,hn,hd,β,hE,hrows⟩:=hI
 have hlt:i<ops.size:=(Array.getElem?_eq_some_iff.1 ho).1
 have hi':L.getD i false=false:=by rw [zg4 (c:=true) (by omega)];exact hi
 have hanc:=zlX hA hL ho hr
 have hsa:=zjh hA hL
 have hdesc:∀k,L.getD k false=true→(anc.getD k 0).testBit i=true→False:=by
  intro k hk hki
  rcases Nat.lt_or_ge k ops.size with hks | hks
  ·have:=hsa k _ (Array.getElem?_eq_getElem hks) hk i hki
   rw [hi'] at this;cases this
  ·rw [Array.getD_eq_getD_getElem?,Array.getElem?_eq_none (by omega)] at hk
   simp at hk
 have hop:=zfX hO i o (by simpa using ho)
 rw [Nat.zero_add] at hop
 unfold opOk at hop
 rw [Bool.or_eq_true] at hop
 rcases hop with hop | hop
 ·exfalso
  unfold hasP at hop
  rw [List.any_eq_true] at hop
  obtain ⟨p,hp,hpb⟩:=hop
  have:=hanc p hpb
  rw [hps p hp] at this;cases this
 split at hop
 case h_2=>simp at hop
 rename_i e he
 rw [Bool.and_eq_true] at hop
 obtain ⟨hmv,hop⟩:=hop
 have hav:∀A∈avails anc i rows,A.ok K F β a W:=by
  intro A hAm
  obtain ⟨r,hr1,hr2,rfl⟩:=zcp hAm
  unfold avail at hr2
  rw [Bool.and_eq_true,List.all_eq_true] at hr2
  refine hrows r hr1 ⟨fun p hp=>?_,fun k hk=>?_⟩
  ·have h1:=hr2.1
   rw [hp] at h1
   exact hanc p h1
  ·have h1:=hr2.2 k hk
   rw [Bool.or_eq_true,beq_iff_eq] at h1
   cases hLk:L.getD k false with
   | false=>rfl
   | true =>
    exfalso
    rcases h1 with h1 | h1
    ·rw [h1,hi'] at hLk;cases hLk
    ·exact hdesc k hLk h1
 refine wpOp_step ho fun N hN=>zkO hF hC hav hE.geo he N Q fun v β' W' hs=>?_
 unfold After
 split
 ·rename_i hpan
  rw [hpan] at hop
  simp only [Bool.and_eq_true,Bool.not_eq_true',List.all_eq_true] at hop
  obtain ⟨hnp,hop⟩:=hop
  refine hN _ _ ?_
  refine ⟨fun p hp=>?_,zn7.trans hn,zjJ.trans hd,β',hE.step hmv hs,fun r hr1 hal=>?_⟩
  ·cases hLp:(L.setIfInBounds i true).getD p false with
   | false=>rfl
   | true =>
    rcases ziJ hLp with h | h
    ·subst h;simp [hp] at hnp
    ·rw [hps p hp] at h;cases h
  have hrow:=hop r hr1
  unfold rowOk at hrow
  rw [Bool.or_eq_true] at hrow
  have hset:∀k,L.getD k false=true→(L.setIfInBounds i true).getD k false=true:=fun k hk=>zbo hk
  have hold:(∀p,r.src=some p→p≠i)→Alive L r:=fun hp=>⟨fun p hs=>(ziJ (hal.1 p hs)).resolve_left (hp p hs),fun k hk=>by
   cases hLk:L.getD k false with
   | false=>rfl
   | true=>have:=hal.2 k hk;rw [hset k hLk] at this;cases this⟩
  rcases hrow with h | h
  ·split at h
   ·rename_i p hp
    split at h
    ·exact zhl hn h hs
    ·rename_i hpi
     rw [beq_iff_eq] at hpi
     rw [Bool.or_eq_true,Bool.or_eq_true] at h
     have ha:=hold (fun p' hp' e=>hpi (by rw [hp] at hp';injection hp' with hp';rw [hp',e]))
     rcases h with h | h | h
     ·exact (hdesc p (ha.1 p hp) h).elim
     ·exact zg2 hF hE.geo h hs (hrows r hr1 ha)
     ·exact zhl hn h hs
   ·rename_i hp
    have ha:=hold (fun p' hp' e=>by rw [hp] at hp';cases hp')
    rw [Bool.or_eq_true] at h
    rcases h with h | h
    ·exact zg2 hF hE.geo h hs (hrows r hr1 ha)
    ·exact zhl hn h hs
  ·exfalso
   rw [List.any_eq_true] at h
   obtain ⟨k,hk,h⟩:=h
   have h0:=hal.2 k hk
   rw [Bool.or_eq_true,beq_iff_eq] at h
   rcases h with h | h
   ·rw [h,zeC (by omega)] at h0;cases h0
   ·rw [hset k (hanc k h)] at h0;cases h0
 ·rename_i x hpan
  rw [hpan] at hop
  simp only [Bool.and_eq_true,List.all_eq_true] at hop
  obtain ⟨⟨hin,hx⟩,hst⟩:=hop
  intro hxok
  rw [zN hx] at hxok
  refine hP (fun e=>by rw [e] at hin;cases hin) v a W' ⟨hn,hd,β',hE.step hmv hs,hxok,fun A hA=>?_⟩
  have h1:=hst A hA
  unfold atPan at h1
  rw [Bool.or_eq_true,Bool.and_eq_true,Bool.and_eq_true,Bool.not_eq_true',List.any_eq_true,List.any_eq_true] at h1
  rcases h1 with ⟨⟨B,hB,hAB⟩,hfr⟩ | ⟨hns,B,hB,hAB⟩
  ·have:=zcz hAB
   subst this
   exact zg2 (dst:=none) hF hE.geo hfr hs (hav A hB)
  ·have:=zcz hAB
   subst this
   have:=hs.wr A hB
   cases A with
   | sl s x=>cases hns
   | bx b T ls=>exact this
   | gl b T z n=>exact this
   | gn b=>exact this
   | hp l rs n=>exact this
end
end Go.Proofs.YteimplkdcjapdaaGreatDoor
