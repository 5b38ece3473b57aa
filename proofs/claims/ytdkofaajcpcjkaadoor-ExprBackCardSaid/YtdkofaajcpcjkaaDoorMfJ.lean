/-
  Merged: ExDec, ExRead, ExRef, ExLaw, ExA, ExB, ExC.
-/
import Derived.WalkKit
import Derived.Lib.ItoaNum
import Derived.Lib.ParseIntB
import Derived.Test.YtdkofaajcpcjkaaDoorMfI
import Derived.Test.YtdkofaajcpcjkaaDoorMfC
import Derived.Test.YtdkofaajcpcjkaaDoorMfG
set_option linter.unusedSimpArgs false
set_option linter.unusedVariables false
set_option maxRecDepth 100000
namespace Go.Proofs.YtdkofaajcpcjkaaDoor
def db (d:Nat):UInt8:=UInt8.ofNat (48+d)
theorem zg5 {d:Nat} (h:d<10):(db d).toNat=48+d:=by
 unfold db;rw [UInt8.toNat_ofNat'];omega
def dd (v:Nat):List UInt8:=if v=0 then [] else dd (v / 10)++[db (v%10)]
termination_by v
decreasing_by omega
theorem zcK:dd 0=[]:=by rw [dd];rfl
theorem zcJ {v:Nat} (h:v≠0):dd v=dd (v / 10)++[db (v%10)]:=by rw [dd,if_neg h]
theorem zds:∀v:Nat,v≠0→Lib.decDigits v=dd v:=by
 intro v
 induction v using Nat.strongRecOn with
 | _ v ih =>
  intro h
  rw [Lib.decDigits,zcJ h]
  by_cases h2:v<10
  ·rw [dif_pos h2,show v / 10=0 by omega,zcK,show v%10=v by omega];rfl
  ·rw [dif_neg h2,ih (v / 10) (by omega) (by omega)];rfl
theorem zcu:Lib.decDigits 0=[48]:=by rw [Lib.decDigits,dif_pos (by omega)];rfl
def dvalA (a:Nat) (l:List UInt8):Nat:=l.foldl (fun a b=>a*10+(b.toNat - 48)) a
def dval (l:List UInt8):Nat:=dvalA 0 l
theorem zeI (a:Nat) (l r:List UInt8):dvalA a (l++r)=dvalA (dvalA a l) r:=List.foldl_append
theorem zf2 (l r:List UInt8):dval (l++r)=dvalA (dval l) r:=zeI 0 l r
theorem zly (l:List UInt8) (a:Nat):dvalA a l=a*10 ^ l.length+dval l:=by
 induction l generalizing a with
 | nil=>simp [dvalA,dval]
 | cons b l ih =>
  have e:dvalA a (b::l)=dvalA (a*10+(b.toNat - 48)) l:=rfl
  have e2:dval (b::l)=dvalA (0*10+(b.toNat - 48)) l:=rfl
  rw [e,e2,ih,ih (0*10+(b.toNat - 48)),List.length_cons,Nat.pow_succ]
  rw [Nat.zero_mul,Nat.zero_add,Nat.add_mul,Nat.mul_assoc,Nat.mul_comm 10,Nat.add_assoc]
theorem zjc (l:List UInt8) (b:UInt8):dval (l++[b])=dval l*10+(b.toNat - 48):=by rw [zf2];rfl
theorem zm3:∀v:Nat,dval (dd v)=v:=by
 intro v
 induction v using Nat.strongRecOn with
 | _ v ih =>
  by_cases h:v=0
  ·subst h;rw [zcK];rfl
  ·rw [zcJ h,zjc,ih _ (by omega),zg5 (by omega)];omega
theorem zhb (v:Nat):dval (Lib.decDigits v)=v:=by
 by_cases h:v=0
 ·subst h;rw [zcu];rfl
 ·rw [zds v h,zm3]
def AllD (l:List UInt8):Prop:=∀b∈l,48≤b.toNat∧b.toNat≤57
instance (l:List UInt8):Decidable (AllD l):=inferInstanceAs (Decidable (∀b∈l,48≤b.toNat∧b.toNat≤57))
theorem zfX {l r:List UInt8}:AllD (l++r)↔AllD l∧AllD r:=by
 simp only [AllD,List.mem_append]
 exact ⟨fun h=>⟨fun d hd=>h d (.inl hd),fun d hd=>h d (.inr hd)⟩,fun h d hd=>hd.elim (h.1 d) (h.2 d)⟩
theorem zmZ:∀v:Nat,AllD (dd v):=by
 intro v
 induction v using Nat.strongRecOn with
 | _ v ih =>
  by_cases h:v=0
  ·subst h;rw [zcK];intro b hb;cases hb
  ·rw [zcJ h,zfX]
   refine ⟨ih _ (by omega),fun b hb=>?_⟩
   rw [List.mem_singleton.1 hb,zg5 (by omega)];omega
theorem zbv (v:Nat):AllD (Lib.decDigits v):=by
 by_cases h:v=0
 ·subst h;rw [zcu];intro b hb;rw [List.mem_singleton.1 hb];decide
 ·rw [zds v h];exact zmZ v
def sgnD (g:Bool) (v:Nat):Int:=if g=true then -(v:Int) else v
def cutN (s:List UInt8):Bool:=decide (s.head?=some 45)
def cutR (s:List UInt8):List UInt8:=if s.head?=some 45 then s.tail else s
def valS (s:List UInt8):Int:=sgnD (cutN s) (dval (cutR s))
theorem zdt (v:Nat):Lib.decDigits v≠[]:=by
 intro h
 have:=Lib.nDigits_pos v
 rw [← Lib.decDigits_length,h] at this
 simp at this
theorem zeb (x:Int):cutN (Lib.itoa x)=decide (x<0)∧cutR (Lib.itoa x)=Lib.decDigits x.natAbs:=by
 unfold Lib.itoa
 by_cases h:x<0
 ·rw [if_pos h]
  simp [cutN,cutR,h]
 ·rw [if_neg h,show x.toNat=x.natAbs by omega]
  have h1:¬ (Lib.decDigits x.natAbs).head?=some 45:=by
   intro e
   have:=zbv x.natAbs 45 (List.mem_of_mem_head? e)
   exact absurd this.1 (by decide)
  simp [cutN,cutR,h,h1]
theorem zke (x:Int):valS (Lib.itoa x)=x:=by
 unfold valS
 rw [(zeb x).1,(zeb x).2,zhb]
 unfold sgnD
 by_cases h:x<0
 ·simp [h];omega
 ·simp [h];omega
def intW (w:List UInt8):Option Int:=if Lib.itoa (valS w)=w∧-9223372036854775808≤valS w∧valS w<9223372036854775808 then some (valS w) else none
theorem zay {n:Int} (h:-9223372036854775808≤n∧n<9223372036854775808):intW (Lib.itoa n)=some n:=by
 unfold intW
 rw [zke,if_pos ⟨rfl,h⟩]
theorem zaV {w:List UInt8} {n:Int} (h:intW w=some n):w=Lib.itoa n∧-9223372036854775808≤n∧n<9223372036854775808:=by
 unfold intW at h
 split at h
 ·rename_i hc
  injection h with h
  subst h
  exact ⟨hc.1.symm,hc.2⟩
 ·cases h
theorem zdz (n:Int):∀b∈Lib.itoa n,b=45∨(48≤b.toNat∧b.toNat≤57):=by
 unfold Lib.itoa
 split
 ·intro b hb
  rcases List.mem_cons.1 hb with rfl | hb
  ·exact .inl rfl
  ·exact .inr (zbv _ b hb)
 ·intro b hb
  exact .inr (zbv _ b hb)
theorem zcT (n:Int):Lib.itoa n≠[]:=by
 unfold Lib.itoa
 split
 ·simp
 ·exact zdt _
end Go.Proofs.YtdkofaajcpcjkaaDoor
namespace Go.Proofs.YtdkofaajcpcjkaaDoor
def isDel (b:UInt8):Bool:=b == 32 || b == 40 || b == 41
def wordW (s:List UInt8):List UInt8:=s.takeWhile fun b=>!isDel b
def restW (s:List UInt8):List UInt8:=s.dropWhile fun b=>!isDel b
theorem qZ (s:List UInt8):wordW s++restW s=s:=List.takeWhile_append_dropWhile
def Del (r:List UInt8):Prop:=∀b,r.head?=some b→isDel b=true
theorem zcC {w r:List UInt8} (hw:∀b∈w,isDel b=false) (hr:Del r):wordW (w++r)=w∧restW (w++r)=r:=by
 induction w with
 | nil =>
  cases r with
  | nil=>exact ⟨rfl,rfl⟩
  | cons b r =>
   have:=hr b rfl
   simp [wordW,restW,this]
 | cons c w ih =>
  have h1:=hw c (List.mem_cons_self ..)
  obtain ⟨e1,e2⟩:=ih fun b hb=>hw b (List.mem_cons_of_mem _ hb)
  constructor
  ·show (List.takeWhile _ (c::(w++r)))=_
   rw [List.takeWhile_cons,h1]
   exact congrArg (c::·) e1
  ·show (List.dropWhile _ (c::(w++r)))=_
   rw [List.dropWhile_cons,h1]
   exact e2
def opOf (w:List UInt8):Option Int:=if w=[43] then some 3 else if w=[45] then some 4 else if w=[42] then some 5 else if w=[109,105,110] then some 6 else if w=[109,97,120] then some 7 else none
theorem zeU {w:List UInt8} {o:Int} (h:opOf w=some o):3≤o∧o≤7∧w=opW o:=by
 unfold opOf at h
 split at h
 ·injection h with h;subst h;exact ⟨by decide,by decide,by assumption⟩
 split at h
 ·injection h with h;subst h;exact ⟨by decide,by decide,by assumption⟩
 split at h
 ·injection h with h;subst h;exact ⟨by decide,by decide,by assumption⟩
 split at h
 ·injection h with h;subst h;exact ⟨by decide,by decide,by assumption⟩
 split at h
 ·injection h with h;subst h;exact ⟨by decide,by decide,by assumption⟩
 ·cases h
theorem zlM {o:Int} (h0:3≤o) (h1:o≤7):opOf (opW o)=some o:=by
 have:o=3∨o=4∨o=5∨o=6∨o=7:=by omega
 rcases this with rfl | rfl | rfl | rfl | rfl<;>decide
theorem zno (o:Int):∀b∈opW o,isDel b=false:=by
 unfold opW
 intro b hb
 split at hb
 ·revert b;decide
 split at hb
 ·revert b;decide
 split at hb
 ·revert b;decide
 split at hb
 ·revert b;decide
 ·revert b;decide
def takeC (c:UInt8):List UInt8→Option (List UInt8)
 | b::r=>if b=c then some r else none
 | []=>none
theorem qO {c:UInt8} {s r:List UInt8} (h:takeC c s=some r):s=c::r:=by
 cases s with
 | nil=>cases h
 | cons b t =>
  have h':(if b=c then some t else none)=some r:=h
  by_cases e:b=c
  ·rw [if_pos e] at h'
   injection h' with h'
   rw [e,h']
  ·rw [if_neg e] at h';cases h'
theorem zaE (c:UInt8) (r:List UInt8):takeC c (c::r)=some r:=by simp [takeC]
def leafP (w:List UInt8):Option Xp:=match takeC 36 w with
 | some d=>(intW d).map fun n=>.mk 2 n []
 | none=>(intW w).map fun n=>.mk 1 n []
def readP:Nat→List UInt8→Option (Xp×List UInt8)
 | 0,_=>none
 | f+1,s=>match takeC 40 s with
  | none=>(leafP (wordW s)).map fun e=>(e,restW s)
  | some s1=>match opOf (wordW s1) with
   | none=>none
   | some o=>match takeC 32 (restW s1) with
    | none=>none
    | some s2=>match readP f s2 with
     | none=>none
     | some (a,s3)=>match takeC 32 s3 with
      | none=>none
      | some s4=>match readP f s4 with
       | none=>none
       | some (b,s5)=>match takeC 41 s5 with
        | none=>none
        | some s6=>some (.mk o 0 [a,b],s6)
theorem qP (n:Int) (l:List Xp):zJ (.mk 1 n l)=Lib.itoa n:=by rw [zJ,if_pos rfl]
theorem zab (n:Int) (l:List Xp):zJ (.mk 2 n l)=36::Lib.itoa n:=by rw [zJ,if_neg (by decide),if_pos rfl]
theorem za3 {o:Int} (h0:3≤o) (n:Int) (a b:Xp):zJ (.mk o n [a,b])=40::(opW o++(32::zJ a++(32::zJ b))++[41]):=by
 rw [zJ,if_neg (by omega),if_neg (by omega),ze0,ze0,ze0,List.append_nil]
theorem zdA {w:List UInt8} {e:Xp} (h:leafP w=some e):w=zJ e:=by
 unfold leafP at h
 split at h
 ·rename_i d hd
  cases hi:intW d with
  | none=>rw [hi] at h;cases h
  | some n =>
   rw [hi] at h
   injection h with h
   subst h
   rw [zab,qO hd,(zaV hi).1]
 ·cases hi:intW w with
  | none=>rw [hi] at h;cases h
  | some n =>
   rw [hi] at h
   injection h with h
   subst h
   rw [qP];exact (zaV hi).1
theorem zgg:∀(f:Nat) (s:List UInt8) (e:Xp) (r:List UInt8),readP f s=some (e,r)→s=zJ e++r:=by
 intro f
 induction f with
 | zero=>intro s e r h;cases h
 | succ f ih =>
  intro s e r h
  rw [readP] at h
  split at h
  ·cases hl:leafP (wordW s) with
   | none=>rw [hl] at h;cases h
   | some x =>
    rw [hl] at h
    simp only [Option.map_some,Option.some.injEq,Prod.mk.injEq] at h
    obtain ⟨rfl,rfl⟩:=h
    rw [← zdA hl,qZ]
  ·rename_i s1 h1
   split at h
   ·cases h
   rename_i o ho
   split at h
   ·cases h
   rename_i s2 h2
   split at h
   ·cases h
   rename_i a s3 h3
   split at h
   ·cases h
   rename_i s4 h4
   split at h
   ·cases h
   rename_i b s5 h5
   split at h
   ·cases h
   rename_i s6 h6
   simp only [Option.some.injEq,Prod.mk.injEq] at h
   obtain ⟨rfl,rfl⟩:=h
   obtain ⟨o0,_,hw⟩:=zeU ho
   rw [za3 o0,qO h1,← hw]
   have e2:=qO h2
   have e3:=ih _ _ _ h3
   have e4:=qO h4
   have e5:=ih _ _ _ h5
   have e6:=qO h6
   have:restW s1=32::(zJ a++32::(zJ b++41::s6)):=by rw [e2,e3,e4,e5,e6]
   simp only [List.cons_append,List.append_assoc,List.singleton_append,List.nil_append]
   rw [← this,qZ]
theorem zhn (n:Int):∀b∈Lib.itoa n,isDel b=false:=by
 intro b hb
 rcases zdz n b hb with rfl | ⟨h1,h2⟩
 ·decide
 ·unfold isDel
  have e:∀c:UInt8,(c.toNat<48)→(b == c)=false:=by
   intro c hc
   rw [beq_eq_false_iff_ne]
   rintro rfl;omega
  rw [e 32 (by decide),e 40 (by decide),e 41 (by decide)];rfl
theorem zeO (n:Int):∀c:UInt8,c=36∨c=40→takeC c (Lib.itoa n)=none:=by
 intro c hc
 cases hi:Lib.itoa n with
 | nil=>exact absurd hi (zcT n)
 | cons b t =>
  show (if b=c then some t else none)=none
  rw [if_neg]
  rintro rfl
  have:=zdz n b (by rw [hi];exact List.mem_cons_self ..)
  rcases hc with rfl | rfl
  ·rcases this with h | h
   ·exact absurd h (by decide)
   ·exact absurd h.1 (by decide)
  ·rcases this with h | h
   ·exact absurd h (by decide)
   ·exact absurd h.1 (by decide)
theorem zkb {c:UInt8} {s r:List UInt8} (hs:s≠[]) (h:takeC c s=none):takeC c (s++r)=none:=by
 cases s with
 | nil=>exact absurd rfl hs
 | cons b t =>
  have h':(if b=c then some t else none)=none:=h
  show (if b=c then some (t++r) else none)=none
  by_cases e:b=c
  ·rw [if_pos e] at h';cases h'
  ·rw [if_neg e]
theorem zlw (o n:Int) (a b:Xp):depth (.mk o n [a,b])=max (depth a+1) (depth b+1):=by
 rw [depth,zcj,zcj,zcj];omega
theorem zmP {n:Int} (h:valB n=true):-9223372036854775808≤n∧n<9223372036854775808:=by
 have:=zbf.1 h;omega
theorem zgh {args:Int}:∀{e:Xp},Vx args e→∀(f:Nat) (r:List UInt8),depth e<f→Del r→readP f (zJ e++r)=some (e,r):=by
 intro e h
 induction h with
 | @num n hv =>
  intro f r hf hr
  obtain ⟨f,rfl⟩:∃g,f=g+1:=⟨f - 1,by omega⟩
  rw [qP,readP,zkb (zcT n) (zeO n 40 (.inr rfl))]
  obtain ⟨e1,e2⟩:=zcC (zhn n) hr
  simp only [e1,e2]
  unfold leafP
  rw [zeO n 36 (.inl rfl)]
  simp only [zay (zmP hv),Option.map_some]
 | @arg n h0 h1 =>
  intro f r hf hr
  obtain ⟨f,rfl⟩:∃g,f=g+1:=⟨f - 1,by omega⟩
  have hd:∀b∈(36::Lib.itoa n),isDel b=false:=by
   intro b hb
   rcases List.mem_cons.1 hb with rfl | hb
   ·decide
   ·exact zhn n b hb
  have ht:takeC 40 ((36::Lib.itoa n)++r)=none:=by simp [takeC]
  rw [zab,readP,ht]
  obtain ⟨e1,e2⟩:=zcC hd hr
  simp only [e1,e2]
  unfold leafP
  rw [zaE]
  simp only [zay (n:=n) (by omega),Option.map_some]
 | @op o a b h0 h1 ha hb iha ihb =>
  intro f r hf hr
  rw [zlw] at hf
  obtain ⟨f,rfl⟩:∃g,f=g+1:=⟨f - 1,by omega⟩
  have e0:zJ (.mk o 0 [a,b])++r=40::(opW o++(32::(zJ a++(32::(zJ b++(41::r)))))):=by rw [za3 h0];simp
  rw [e0,readP,zaE]
  obtain ⟨e1,e2⟩:=zcC (r:=32::(zJ a++(32::(zJ b++(41::r))))) (zno o) (by intro b hb;injection hb with hb;subst hb;rfl)
  simp only [e1,e2,zlM h0 h1,zaE]
  rw [iha f _ (by omega) (by intro b hb;injection hb with hb;subst hb;rfl)]
  simp only [zaE]
  rw [ihb f _ (by omega) (by intro b hb;injection hb with hb;subst hb;rfl)]
  simp only [zaE]
def qB (s:List UInt8):Option Xp:=match readP 30 s with
 | some (e,[])=>if zO e 4=0 then some e else none
 | _=>none
theorem zhL {s:List UInt8} {e:Xp}:qB s=some e↔zO e 4=0∧zJ e=s:=by
 constructor
 ·intro h
  unfold qB at h
  split at h
  ·rename_i e' hr
   split at h
   ·rename_i hc
    injection h with h
    subst h
    have:=zgg _ _ _ _ hr
    rw [List.append_nil] at this
    exact ⟨hc,this.symm⟩
   ·cases h
  ·cases h
 ·rintro ⟨hc,rfl⟩
  obtain ⟨hn,hv⟩:=zat.1 hc
  have:=zg7 e
  have hr:=zgh hv 30 [] (by omega) (by intro b hb;cases hb)
  rw [List.append_nil] at hr
  unfold qB
  rw [hr]
  simp only [hc,if_true]
theorem zpB {a b:Xp} (ha:zO a 4=0) (hb:zO b 4=0) (h:zJ a=zJ b):a=b:=by
 have h1:=zhL.2 ⟨ha,rfl⟩
 have h2:=zhL.2 ⟨hb,h.symm⟩
 rw [h1] at h2
 exact Option.some.inj h2
end Go.Proofs.YtdkofaajcpcjkaaDoor
namespace Go.Proofs.YtdkofaajcpcjkaaDoor
theorem zn5:∀v:Nat,v≠0→10 ^ ((dd v).length - 1)≤v:=by
 intro v
 induction v using Nat.strongRecOn with
 | _ v ih =>
  intro h
  rw [zcJ h,List.length_append,List.length_singleton,Nat.add_sub_cancel]
  by_cases h2:v<10
  ·rw [show v / 10=0 by omega,zcK];simp;omega
  ·have h3:v / 10≠0:=by omega
   have h4:=ih (v / 10) (by omega) h3
   have h5:0<(dd (v / 10)).length:=by rw [zcJ h3];simp
   rw [show (dd (v / 10)).length=((dd (v / 10)).length - 1)+1 by omega,Nat.pow_succ]
   omega
theorem zg6 {v:Nat} (h:v≤1048576):(Lib.decDigits v).length≤7:=by
 by_cases h0:v=0
 ·subst h0;rw [zcu];simp
 ·rw [zds v h0]
  have h1:=Nat.lt_of_le_of_lt (zn5 v h0) (show v<10 ^ 7 by omega)
  have:=(Nat.pow_lt_pow_iff_right (a:=10) (by decide)).1 h1
  omega
def modX (n m:Int):Int:=if m<1 then 0 else (IntKind.i64.wrap (n.tmod m+m)).tmod m
def drawX (l:List Int) (n:Int):Int×List Int:=match l with
 | []=>(0,[])
 | x::r=>(modX x n,r)
def madeX (args:Int):Nat→List Int→Xp×List Int
 | 0,l=>if (drawX l 10).1%2=1∧0<args then (.mk 2 (drawX (drawX l 10).2 args).1 [],(drawX (drawX l 10).2 args).2) else (.mk 1 ((drawX (drawX l 10).2 17).1 - 8) [],(drawX (drawX l 10).2 17).2)
 | d+1,l=>if (drawX l 10).1<4 then (if (drawX l 10).1%2=1∧0<args then (.mk 2 (drawX (drawX l 10).2 args).1 [],(drawX (drawX l 10).2 args).2) else (.mk 1 ((drawX (drawX l 10).2 17).1 - 8) [],(drawX (drawX l 10).2 17).2))
  else (.mk (3+(drawX (drawX l 10).2 5).1) 0 [(madeX args d (drawX (drawX l 10).2 5).2).1,(madeX args d (madeX args d (drawX (drawX l 10).2 5).2).2).1],(madeX args d (madeX args d (drawX (drawX l 10).2 5).2).2).2)
theorem zeg {n m:Int} (h:0<m) (h2:m≤1000):0≤modX n m∧modX n m<m:=by
 unfold modX
 rw [if_neg (by omega)]
 have a1:=Int.tmod_lt_of_pos n h
 have a2:=Int.lt_tmod_of_pos n h
 have hw:∀x:Int,IntKind.i64.wrap x=(x+9223372036854775808)%18446744073709551616 - 9223372036854775808:=fun x=>IntKind.wrap_i64 x
 have e:IntKind.i64.wrap (n.tmod m+m)=n.tmod m+m:=by rw [hw];omega
 rw [e,Int.tmod_eq_emod_of_nonneg (by omega)]
 exact ⟨Int.emod_nonneg _ (by omega),Int.emod_lt_of_pos _ h⟩
theorem zt {l:List Int} {m:Int} (h:0<m) (h2:m≤1000):0≤(drawX l m).1∧(drawX l m).1<m:=by
 cases l with
 | nil=>exact ⟨Int.le_refl _,h⟩
 | cons x r=>exact zeg h h2
theorem zlE {args:Int} (h0:0≤args) (h1:args≤4):∀(d:Nat) (l:List Int),Vx args (madeX args d l).1∧nodes (madeX args d l).1+1≤2 ^ (d+1):=by
 have leaf:∀l:List Int,Vx args (if (drawX l 10).1%2=1∧0<args then (Xp.mk 2 (drawX (drawX l 10).2 args).1 [],(drawX (drawX l 10).2 args).2) else (.mk 1 ((drawX (drawX l 10).2 17).1 - 8) [],(drawX (drawX l 10).2 17).2)).1∧nodes (if (drawX l 10).1%2=1∧0<args then (Xp.mk 2 (drawX (drawX l 10).2 args).1 [],(drawX (drawX l 10).2 args).2) else (.mk 1 ((drawX (drawX l 10).2 17).1 - 8) [],(drawX (drawX l 10).2 17).2)).1=1:=by
  intro l
  split
  ·rename_i h
   have:=zt (l:=(drawX l 10).2) h.2 (by omega)
   exact ⟨.arg this.1 (by omega),by rw [nodes,zx]⟩
  ·have:=zt (l:=(drawX l 10).2) (m:=17) (by decide) (by decide)
   exact ⟨.num (by rw [zbf];omega),by rw [nodes,zx]⟩
 intro d
 induction d with
 | zero =>
  intro l
  rw [madeX]
  obtain ⟨a,b⟩:=leaf l
  exact ⟨a,by rw [b];decide⟩
 | succ d ih =>
  intro l
  rw [madeX]
  split
  ·obtain ⟨a,b⟩:=leaf l
   have:2≤2 ^ (d+1+1):=Nat.pow_le_pow_right (n:=2) (by decide) (show 1≤d+1+1 by omega)
   exact ⟨a,by rw [b];omega⟩
  ·have h5:=zt (l:=(drawX l 10).2) (m:=5) (by decide) (by decide)
   obtain ⟨a1,a2⟩:=ih (drawX (drawX l 10).2 5).2
   obtain ⟨b1,b2⟩:=ih (madeX args d (drawX (drawX l 10).2 5).2).2
   refine ⟨.op (by omega) (by omega) a1 b1,?_⟩
   rw [nodes,zx,zx,zx,Nat.pow_succ]
   omega
end Go.Proofs.YtdkofaajcpcjkaaDoor
namespace Go.Proofs.YtdkofaajcpcjkaaDoor
def evalE (e:Xp) (args:List Int):Int×Int:=if zO e args.length≠0 then (0,zO e args.length) else match evalX args e with
 | some v=>(v,0)
 | none=>(0,3)
theorem qh {n v:Int} (h:valO n=some v):v=n∧valB v=true:=by
 unfold valO at h
 split at h
 ·rename_i hv;injection h with h;subst h;exact ⟨rfl,hv⟩
 ·cases h
theorem zcN (args:List Int) (n:Int) (l:List Xp):evalX args (.mk 1 n l)=valO n:=by rw [evalX,if_pos rfl]
theorem zcM (args:List Int) (n:Int) (l:List Xp):evalX args (.mk 2 n l)=valO (args.getD n.toNat 0):=by rw [evalX,if_neg (by decide),if_pos rfl]
theorem zcv (args:List Int) {o:Int} (h:3≤o) (n:Int) (a b:Xp):evalX args (.mk o n [a,b])=match evalX args a,evalX args b with
  | some x,some y=>valO (operX o x y)
  | _,_=>none:=by
 rw [evalX,if_neg (by omega),if_neg (by omega),evalL,evalL,evalL]
 cases evalX args a with
 | none=>rfl
 | some x =>
  cases evalX args b with
  | none=>rfl
  | some y=>rfl
theorem zeJ {args:List Int} {k:Int}:∀{e:Xp},Vx k e→∀v,evalX args e=some v→valB v=true:=by
 intro e h
 cases h with
 | num h=>intro v hv;rw [zcN] at hv;exact (qh hv).2
 | arg h0 h1=>intro v hv;rw [zcM] at hv;exact (qh hv).2
 | op h0 h1 ha hb =>
  intro v hv
  rw [zcv args h0] at hv
  split at hv
  ·exact (qh hv).2
  ·cases hv
end Go.Proofs.YtdkofaajcpcjkaaDoor
namespace Go.Proofs.YtdkofaajcpcjkaaDoor
open Go.RowKit
mutual
def cE:Xp→List Pred
 | .mk o n l=>[pI o,pI n,pL l.length (cEs l)]
def cEs:List Xp→List Pred
 | []=>[]
 | x::r=>cE x++cEs r
end
theorem zmy:∀l:List Xp,cEs l=l.flatMap cE
 | []=>by rw [cEs];rfl
 | x::r=>by rw [cEs,zmy r];rfl
theorem cE_eq (e:Xp):cE e=[pI e.op,pI e.n,pLs cE e.l]:=by
 cases e with
 | mk o n l=>rw [cE,zmy];rfl
theorem zm (e:Xp):(cE e).length=3:=by rw [cE_eq];rfl
section
variable {K:Kit}
mutual
theorem zf (hK:K.bad .i64=false):∀e:Xp,FineAll K (cE e)
 | .mk o n l=>by
  rw [cE]
  exact ⟨za (by simp [Kit.ck,ckf,hK]),za (by simp [Kit.ck,ckf,hK]),zmD (zhd hK l),trivial⟩
theorem zhd (hK:K.bad .i64=false):∀l:List Xp,FineAll K (cEs l)
 | []=>by rw [cEs];trivial
 | x::r=>by rw [cEs];exact (zf hK x).append (zhd hK r)
end
end
theorem zeP {x:Xp}:∀{l:List Xp},x∈l→nodes x≤zx l
 | [],h=>by cases h
 | y::r,h=>by
  rw [zx]
  rcases List.mem_cons.1 h with rfl | h
  ·omega
  ·have:=zeP h;omega
end Go.Proofs.YtdkofaajcpcjkaaDoor
namespace Go.Proofs.YtdkofaajcpcjkaaDoor
open Go.RowKit
theorem zbc {l:List Xp} {k:Nat} {x:Xp} (h:l[k]?=some x) (n m:Int):sizeL (l.drop k) n m=if n > m then n else sizeL (l.drop (k+1)) (n+sizeX x (m - n)) m:=by
 obtain ⟨hk,rfl⟩:=List.getElem?_eq_some_iff.1 h
 rw [List.drop_eq_getElem_cons hk,sizeL]
theorem zhx (e:Xp) (m:Int):sizeX e m=sizeL e.l 1 m:=by cases e;rw [sizeX];rfl
theorem zaS {l:List Xp} {k:Nat} {x:Xp} (h:l[k]?=some x) (a:Int):chkL (l.drop k) a=if chkX x a≠0 then chkX x a else chkL (l.drop (k+1)) a:=by
 obtain ⟨hk,rfl⟩:=List.getElem?_eq_some_iff.1 h
 rw [List.drop_eq_getElem_cons hk,chkL]
theorem zeS {e x:Xp} (h:x∈e.l):nodes x+1≤nodes e:=by
 cases e with
 | mk o m l=>rw [nodes];have:=zeP (l:=l) h;omega
theorem zv {e x:Xp} {n N:Nat} (hN:nodes e≤N+1) (h:e.l[n]?=some x):nodes x≤N:=by
 have:=zeS (List.mem_of_getElem? h);omega
theorem qa (e:Xp):e.l.length<nodes e:=by
 have key:∀l:List Xp,l.length≤zx l:=by
  intro l
  induction l with
  | nil=>exact Nat.zero_le _
  | cons x r ih=>rw [zx,List.length_cons];have:=qb x;omega
 cases e with
 | mk o m l=>rw [nodes];have:=key l;exact Nat.lt_of_le_of_lt this (by omega)
theorem zj8 (e:Xp) {m:Int} (h:0≤m):1≤sizeX e m∧sizeX e m≤m+1:=⟨(zbd e m h).2.2.1,(zbd e m h).2.2.2⟩
def q4 (w0:World) (N:Nat):Prop:=∀(x:Xp) (m v:Int),sizeX x m=v→nodes x≤N→0≤m∧m≤1000→Fun (KN w0) Tryd.prog 31 [.o (.g [pI x.op,pI x.n,pLs cE x.l]),.o (.c (pI m))] (.o (.c (pI v)))
structure x_size_l_T where
 i:Int
 n:Int
def zQ:List Atom:=[.sl 0 (.o (.g [.h 0,.h 1,.h 2])),.sl 1 (yh 3),.sl 2 (.o (.c (.p 0 0))),.sl 4 (.o (.c (.k (.int .i64 0)))),.sl 5 (yh 6),.sl 8 (.o (.c (.p 0 2))),.sl 9 (yh 2),.sl 10 (yh 4),.sl 11 (yh 5),.bx 0 31 [.h 0,.h 1,.h 2]]
def qV:LoopS:=⟨3,[.sl 0 (.o (.g [.h 0,.h 1,.h 2])),.sl 1 (yh 3),.sl 2 (.o (.c (.p 0 0))),.sl 4 (.o (.c (.k (.int .i64 0)))),.sl 5 (.o (.c (.k (.int .i64 1)))),.sl 8 (.o (.c (.p 0 2))),.sl 9 (yh 2),.sl 10 (yh 4),.sl 11 (.o (.c (.k (.int .i64 0)))),.bx 0 31 [.h 0,.h 1,.h 2]],(.x 0),[.sl 0 (.o (.g [.h 0,.h 1,.h 2])),.sl 1 (yh 3),.sl 2 (.o (.c (.p 0 0))),.sl 4 (.o (.c (.k (.int .i64 0)))),.sl 5 (yh 5),.sl 8 (.o (.c (.p 0 2))),.sl 9 (yh 2),.sl 10 (yh 4),.bx 0 31 [.h 0,.h 1,.h 2]]⟩
theorem zgU {w0:World} (e:Xp) (most:Int) (N:Nat) (v1:Int) (IH:q4 w0 N) (i:Int) (n:Int) (v501:Bool) (n503:Nat) (x504:Xp) (v507:Bool) (e501:(decide (i<v1))=v501) (e507:(decide (n > most))=v507) (h502:v501=true) (s505:i=(n503:Int)) (s506:e.l[n503]?=some x504) (h508:v507=true) (o:Int) (F:Fact) (u0:F.c 0=pI e.op) (u1:F.c 1=pI e.n) (u2:F.c 2=pLs cE e.l) (u3:F.c 3=pI most) (u4:F.c 4=pI v1) (u5:F.c 5=pI o) (q0:(n)=o) (R:Frm) (hR:R.pm=⟨ntOf Tryd.prog 31,[],[]⟩):Goes (KN w0) Tryd.prog R (lp Tryd.prog 31 0) (FL [pI e.op,pI e.n,pLs cE e.l,pI most,pI v1,pI i,pI n] []) zQ (.x 0) F qV.out:=
 goes (x:=(.x 0)) (y:=(.x 0)) (Fb:=FL [pI e.op,pI e.n,pLs cE e.l,pI most,pI v1,pI i,pI n,pB v501,pP (cE x504),pI x504.op,pI x504.n,pLs cE x504.l,pB v507] []) (stb:=zQ) (tl:=[.sl 0 (.o (.g [.h 0,.h 1,.h 2])),.sl 1 (yh 3),.sl 2 (.o (.c (.p 0 0))),.sl 4 (.o (.c (.k (.int .i64 0)))),.sl 5 (yh 6),.sl 8 (.o (.c (.p 0 2))),.sl 9 (yh 2),.sl 10 (yh 4),.bx 0 31 [.h 0,.h 1,.h 2]]) (C:=((1005000,.bin .lss 3 (yh 5) (yh 4) (yh 7)) ::
  (10007,.fb 7 true) ::
  (1005001,.op (.ia 28) [yh 2,yh 5] [] (yh 8)) ::
  (1005002,.op (.ld 31) [yh 8] [] (.o (.g [.h 9,.h 10,.h 11]))) ::
  (1005007,.bin .gtr 3 (yh 6) (yh 3) (yh 12)) ::
  (10012,.fb 12 true) ::
  []:List (Nat×Ent))) (H:=.no) 5000 (zipA.imp ⟨z_g ⟨yy,yy,yy,trivial⟩,z_c yy,z_c yy,z_c yy,z_c yy,z_c yy,z_c yy,z_c yy,z_c yy,z_b ⟨yy,yy,yy,trivial⟩,trivial⟩) (zg ⟨za,za,(ze (zf rfl)),za,za,za,za,za,(zo ((zf rfl) _)),za,za,(ze (zf rfl)),za,trivial⟩) ⟨e_bin (zb rfl) (zb rfl) (zb rfl) (r_cmp (congrArg some e501)),
  e_fbv h502,
  e_iaL (E:=31) (z:=3) zm (by kernel_rfl) (by kernel_rfl) (zc rfl) (zb rfl) s505 s506 (zc rfl),
  e_ldG (by kernel_rfl) (by kernel_rfl) (zc rfl) (cE_eq _).symm rfl (zm _),
  e_bin (zb rfl) (zb rfl) (zb rfl) (r_cmp (congrArg some e507)),
  e_fbv h508,
  trivial⟩ mixed hR trivial (fun _ _ _ hs=>by cases hs) (by kernel_rfl:zD (KN w0) Tryd.prog _ .no ⟨ntOf Tryd.prog 31,[],[]⟩ (lp Tryd.prog 31 0) 5000 zQ (.x 0) [.sl 0 (.o (.g [.h 0,.h 1,.h 2])),.sl 1 (yh 3),.sl 2 (.o (.c (.p 0 0))),.sl 4 (.o (.c (.k (.int .i64 0)))),.sl 5 (yh 6),.sl 8 (.o (.c (.p 0 2))),.sl 9 (yh 2),.sl 10 (yh 4),.bx 0 31 [.h 0,.h 1,.h 2]]=true) rfl (zipA.imp ⟨z_g ⟨fun β v W h=>(zc u0 β v W).2 h,fun β v W h=>(zc u1 β v W).2 h,fun β v W h=>(zc u2 β v W).2 h,trivial⟩,z_c (fun β v W h=>(zc u3 β v W).2 h),z_c yy,z_c yy,z_c (fun β v W h=>(zc u5 β v W).2 (by rw [← q0];exact h)),z_c yy,z_c (fun β v W h=>(zc u2 β v W).2 h),z_c (fun β v W h=>(zc u4 β v W).2 h),z_b ⟨fun β v W h=>(zc u0 β v W).2 h,fun β v W h=>(zc u1 β v W).2 h,fun β v W h=>(zc u2 β v W).2 h,trivial⟩,trivial⟩)
theorem zgV {w0:World} (e:Xp) (most:Int) (N:Nat) (v1:Int) (IH:q4 w0 N) (i:Int) (n:Int) (v501:Bool) (n503:Nat) (x504:Xp) (v507:Bool) (v509:Int) (v510:Int) (v513:Int) (v514:Int) (e501:(decide (i<v1))=v501) (e507:(decide (n > most))=v507) (e509:(IntKind.i64.wrap (most - n))=v509) (e510:(sizeX x504 v509)=v510) (e513:(IntKind.i64.wrap (n+v510))=v513) (e514:(IntKind.i64.wrap (i+(1:Int)))=v514) (h502:v501=true) (s505:i=(n503:Int)) (s506:e.l[n503]?=some x504) (h508:v507=false) (s511:nodes x504≤N) (s512:0≤v509∧v509≤1000) (i':Int) (n':Int) (q0:(v513)=n') (q1:(v514)=i') (R:Frm) (hR:R.pm=⟨ntOf Tryd.prog 31,[],[]⟩):Goes (KN w0) Tryd.prog R (lp Tryd.prog 31 0) (FL [pI e.op,pI e.n,pLs cE e.l,pI most,pI v1,pI i,pI n] []) zQ .n (FL [pI e.op,pI e.n,pLs cE e.l,pI most,pI v1,pI i',pI n'] []) zQ:=
 goes (x:=.n) (y:=.n) (Fb:=FL [pI e.op,pI e.n,pLs cE e.l,pI most,pI v1,pI i,pI n,pB v501,pP (cE x504),pI x504.op,pI x504.n,pLs cE x504.l,pB v507,pI v509,pI v510,pI v513,pI v514] []) (stb:=zQ) (tl:=[.sl 0 (.o (.g [.h 0,.h 1,.h 2])),.sl 1 (yh 3),.sl 2 (.o (.c (.p 0 0))),.sl 4 (.o (.c (.k (.int .i64 0)))),.sl 5 (yh 15),.sl 8 (.o (.c (.p 0 2))),.sl 9 (yh 2),.sl 10 (yh 4),.sl 11 (yh 16),.bx 0 31 [.h 0,.h 1,.h 2]]) (C:=((1005000,.bin .lss 3 (yh 5) (yh 4) (yh 7)) ::
  (10007,.fb 7 true) ::
  (1005001,.op (.ia 28) [yh 2,yh 5] [] (yh 8)) ::
  (1005002,.op (.ld 31) [yh 8] [] (.o (.g [.h 9,.h 10,.h 11]))) ::
  (1005007,.bin .gtr 3 (yh 6) (yh 3) (yh 12)) ::
  (10012,.fb 12 false) ::
  (1005012,.bin .sub 3 (yh 3) (yh 6) (yh 13)) ::
  (1005013,.call ⟨31,[.o (.g [.h 9,.h 10,.h 11]),yh 13],[],yh 14,[]⟩) ::
  (1005014,.bin .add 3 (yh 6) (yh 14) (yh 15)) ::
  (1005016,.bin .add 3 (yh 5) (LF (.k (.int .i64 1))) (yh 16)) ::
  []:List (Nat×Ent))) (H:=.no) 5000 (zipA.imp ⟨z_g ⟨yy,yy,yy,trivial⟩,z_c yy,z_c yy,z_c yy,z_c yy,z_c yy,z_c yy,z_c yy,z_c yy,z_b ⟨yy,yy,yy,trivial⟩,trivial⟩) (zg ⟨za,za,(ze (zf rfl)),za,za,za,za,za,(zo ((zf rfl) _)),za,za,(ze (zf rfl)),za,za,za,za,za,trivial⟩) ⟨e_bin (zb rfl) (zb rfl) (zb rfl) (r_cmp (congrArg some e501)),
  e_fbv h502,
  e_iaL (E:=31) (z:=3) zm (by kernel_rfl) (by kernel_rfl) (zc rfl) (zb rfl) s505 s506 (zc rfl),
  e_ldG (by kernel_rfl) (by kernel_rfl) (zc rfl) (cE_eq _).symm rfl (zm _),
  e_bin (zb rfl) (zb rfl) (zb rfl) (r_cmp (congrArg some e507)),
  e_fbv h508,
  e_bin (zb rfl) (zb rfl) (zb rfl) (r_ar (congrArg some e509)),
  zh (IH x504 v509 v510 e510 s511 s512),
  e_bin (zb rfl) (zb rfl) (zb rfl) (r_ar (congrArg some e513)),
  e_bin (zb rfl) zd (zb rfl) (r_ar (congrArg some e514)),
  trivial⟩ mixed hR trivial (fun _ _ _ hs=>by cases hs) (by kernel_rfl:zD (KN w0) Tryd.prog _ .no ⟨ntOf Tryd.prog 31,[],[]⟩ (lp Tryd.prog 31 0) 5000 zQ .n [.sl 0 (.o (.g [.h 0,.h 1,.h 2])),.sl 1 (yh 3),.sl 2 (.o (.c (.p 0 0))),.sl 4 (.o (.c (.k (.int .i64 0)))),.sl 5 (yh 15),.sl 8 (.o (.c (.p 0 2))),.sl 9 (yh 2),.sl 10 (yh 4),.sl 11 (yh 16),.bx 0 31 [.h 0,.h 1,.h 2]]=true) rfl (zipA.imp ⟨z_g ⟨yy,yy,yy,trivial⟩,z_c yy,z_c yy,z_c yy,z_c (fun β v W h=>(zc rfl β v W).2 (by rw [← q0];exact h)),z_c yy,z_c yy,z_c yy,z_c (fun β v W h=>(zc rfl β v W).2 (by rw [← q1];exact h)),z_b ⟨yy,yy,yy,trivial⟩,trivial⟩)
theorem zgW {w0:World} (e:Xp) (most:Int) (N:Nat) (v1:Int) (IH:q4 w0 N) (i:Int) (n:Int) (v501:Bool) (e501:(decide (i<v1))=v501) (h502:v501=false) (o:Int) (F:Fact) (u0:F.c 0=pI e.op) (u1:F.c 1=pI e.n) (u2:F.c 2=pLs cE e.l) (u3:F.c 3=pI most) (u4:F.c 4=pI v1) (u5:F.c 5=pI o) (q0:(n)=o) (R:Frm) (hR:R.pm=⟨ntOf Tryd.prog 31,[],[]⟩):Goes (KN w0) Tryd.prog R (lp Tryd.prog 31 0) (FL [pI e.op,pI e.n,pLs cE e.l,pI most,pI v1,pI i,pI n] []) zQ (.x 0) F qV.out:=
 goes (x:=(.x 0)) (y:=(.x 0)) (Fb:=FL [pI e.op,pI e.n,pLs cE e.l,pI most,pI v1,pI i,pI n,pB v501] []) (stb:=zQ) (tl:=[.sl 0 (.o (.g [.h 0,.h 1,.h 2])),.sl 1 (yh 3),.sl 2 (.o (.c (.p 0 0))),.sl 4 (.o (.c (.k (.int .i64 0)))),.sl 5 (yh 6),.sl 8 (.o (.c (.p 0 2))),.sl 9 (yh 2),.sl 10 (yh 4),.bx 0 31 [.h 0,.h 1,.h 2]]) (C:=((1005000,.bin .lss 3 (yh 5) (yh 4) (yh 7)) ::
  (10007,.fb 7 false) ::
  []:List (Nat×Ent))) (H:=.no) 5000 (zipA.imp ⟨z_g ⟨yy,yy,yy,trivial⟩,z_c yy,z_c yy,z_c yy,z_c yy,z_c yy,z_c yy,z_c yy,z_c yy,z_b ⟨yy,yy,yy,trivial⟩,trivial⟩) (zg ⟨za,za,(ze (zf rfl)),za,za,za,za,za,trivial⟩) ⟨e_bin (zb rfl) (zb rfl) (zb rfl) (r_cmp (congrArg some e501)),
  e_fbv h502,
  trivial⟩ mixed hR trivial (fun _ _ _ hs=>by cases hs) (by kernel_rfl:zD (KN w0) Tryd.prog _ .no ⟨ntOf Tryd.prog 31,[],[]⟩ (lp Tryd.prog 31 0) 5000 zQ (.x 0) [.sl 0 (.o (.g [.h 0,.h 1,.h 2])),.sl 1 (yh 3),.sl 2 (.o (.c (.p 0 0))),.sl 4 (.o (.c (.k (.int .i64 0)))),.sl 5 (yh 6),.sl 8 (.o (.c (.p 0 2))),.sl 9 (yh 2),.sl 10 (yh 4),.bx 0 31 [.h 0,.h 1,.h 2]]=true) rfl (zipA.imp ⟨z_g ⟨fun β v W h=>(zc u0 β v W).2 h,fun β v W h=>(zc u1 β v W).2 h,fun β v W h=>(zc u2 β v W).2 h,trivial⟩,z_c (fun β v W h=>(zc u3 β v W).2 h),z_c yy,z_c yy,z_c (fun β v W h=>(zc u5 β v W).2 (by rw [← q0];exact h)),z_c yy,z_c (fun β v W h=>(zc u2 β v W).2 h),z_c (fun β v W h=>(zc u4 β v W).2 h),z_b ⟨fun β v W h=>(zc u0 β v W).2 h,fun β v W h=>(zc u1 β v W).2 h,fun β v W h=>(zc u2 β v W).2 h,trivial⟩,trivial⟩)
def ziS (e:Xp) (most:Int) (N:Nat) (v1:Int) (t:x_size_l_T) (o:Int):Prop:=(∃(v501:Bool),∃(n503:Nat),∃(x504:Xp),∃(v507:Bool),((decide (t.i<v1))=v501)∧((decide (t.n > most))=v507)∧(v501=true)∧(t.i=(n503:Int))∧(e.l[n503]?=some x504)∧(v507=true)∧((t.n)=o)∧True)∨(∃(v501:Bool),((decide (t.i<v1))=v501)∧(v501=false)∧((t.n)=o)∧True)
def ziR (e:Xp) (most:Int) (N:Nat) (v1:Int) (t t':x_size_l_T):Prop:=(∃(v501:Bool),∃(n503:Nat),∃(x504:Xp),∃(v507:Bool),∃(v509:Int),∃(v510:Int),∃(v513:Int),∃(v514:Int),((decide (t.i<v1))=v501)∧((decide (t.n > most))=v507)∧((IntKind.i64.wrap (most - t.n))=v509)∧((sizeX x504 v509)=v510)∧((IntKind.i64.wrap (t.n+v510))=v513)∧((IntKind.i64.wrap (t.i+(1:Int)))=v514)∧(v501=true)∧(t.i=(n503:Int))∧(e.l[n503]?=some x504)∧(v507=false)∧(nodes x504≤N)∧(0≤v509∧v509≤1000)∧((v513)=t'.n)∧((v514)=t'.i)∧True)
theorem zex {w0:World} (e:Xp) (most:Int) (N:Nat) (v1:Int) (IH:q4 w0 N) (o:Int) {F:Fact} (u0:F.c 0=pI e.op) (u1:F.c 1=pI e.n) (u2:F.c 2=pLs cE e.l) (u3:F.c 3=pI most) (u4:F.c 4=pI v1) (u5:F.c 5=pI o) (R:Frm) (hR:R.pm=⟨ntOf Tryd.prog 31,[],[]⟩) (J:x_size_l_T→Prop) (m:x_size_l_T→Nat) (hJ:J { i:=(0:Int),n:=(1:Int) }) (rounds:∀t,J t→ziS e most N v1 t o∨∃t',ziR e most N v1 t t'∧m t'<m t∧J t'):zl (KN w0) Tryd.prog F R qV (lp Tryd.prog 31 0):=by
 refine zB (T:=x_size_l_T) (fun t=>FL [pI e.op,pI e.n,pLs cE e.l,pI most,pI v1,pI t.i,pI t.n] []) J m { i:=(0:Int),n:=(1:Int) } zQ hJ (zipA.imp ⟨z_g ⟨fun β v W h=>(zc u0 β v W).1 h,fun β v W h=>(zc u1 β v W).1 h,fun β v W h=>(zc u2 β v W).1 h,trivial⟩,z_c (fun β v W h=>(zc u3 β v W).1 h),z_c yy,z_c yy,z_c yy,z_c yy,z_c (fun β v W h=>(zc u2 β v W).1 h),z_c (fun β v W h=>(zc u4 β v W).1 h),z_c yy,z_b ⟨fun β v W h=>(zc u0 β v W).1 h,fun β v W h=>(zc u1 β v W).1 h,fun β v W h=>(zc u2 β v W).1 h,trivial⟩,trivial⟩) rfl fun t ht=>?_
 rcases rounds t ht with hz_ | ⟨t',hz_,hm_,hj_⟩
 ·refine .inl ?_
  rcases hz_ with ⟨v501,n503,x504,v507,e501,e507,h502,s505,s506,h508,q0,_⟩ | ⟨v501,e501,h502,q0,_⟩
  ·exact zgU  e most N v1 IH  t.i t.n v501 n503 x504 v507 e501 e507 h502 s505 s506 h508 o F u0 u1 u2 u3 u4 u5 q0 R hR
  ·exact zgW  e most N v1 IH  t.i t.n v501 e501 h502 o F u0 u1 u2 u3 u4 u5 q0 R hR
 ·refine .inr ⟨t',hm_,hj_,?_⟩
  rcases hz_ with ⟨v501,n503,x504,v507,v509,v510,v513,v514,e501,e507,e509,e510,e513,e514,h502,s505,s506,h508,s511,s512,q0,q1,_⟩
  ·exact zgV  e most N v1 IH  t.i t.n v501 n503 x504 v507 v509 v510 v513 v514 e501 e507 e509 e510 e513 e514 h502 s505 s506 h508 s511 s512 t'.i t'.n q0 q1 R hR
theorem zgT {w0:World} (e:Xp) (most:Int) (N:Nat) (v1:Int) (IH:q4 w0 N) (o:Int) {F:Fact} (u0:F.c 0=pI e.op) (u1:F.c 1=pI e.n) (u2:F.c 2=pLs cE e.l) (u3:F.c 3=pI most) (u4:F.c 4=pI v1) (u5:F.c 5=pI o) (R:Frm) (hR:R.pm=⟨ntOf Tryd.prog 31,[],[]⟩) (hb:e.l.length<9223372036854775808) (hN:nodes e≤N+1) (hm:0≤most∧most≤1000) (hO:sizeL e.l 1 most=o) (hlen:(e.l.length:Int)=v1):zl (KN w0) Tryd.prog F R qV (lp Tryd.prog 31 0):=by
 refine zex  e most N v1 IH  o u0 u1 u2 u3 u4 u5 R hR (fun ⟨i,n⟩=>∃k:Nat,i=(k:Int)∧k≤e.l.length∧1≤n∧n≤most+1∧sizeL (e.l.drop k) n most=o) (fun ⟨i,n⟩=>((e.l.length:Int) - i).toNat) ⟨0,rfl,Nat.zero_le _,by decide,by omega,by rw [List.drop_zero];exact hO⟩ fun t hJ=>?_
 obtain ⟨i,n⟩:=t
 dsimp only at hJ
 obtain ⟨k,hi,hk,hn1,hn2,hs⟩:=hJ
 obtain ⟨v501,e501⟩:∃v,(decide (i<v1))=v:=⟨_,rfl⟩
 cases h502:v501 with
 | true =>
  obtain ⟨n503,x504,s505,s506⟩:∃(n503:Nat) (x504:Xp),i=(n503:Int)∧e.l[n503]?=some x504:=by (have dh502:=of_decide_eq_true (e501.trans h502);have hz:=hlen;have hlt:k<e.l.length:=(by omega);exact ⟨k,_,hi,List.getElem?_eq_getElem hlt⟩)
  obtain ⟨v507,e507⟩:∃v,(decide (n > most))=v:=⟨_,rfl⟩
  cases h508:v507 with
  | true =>
   refine .inl (Or.inl (⟨v501,n503,x504,v507,e501,e507,h502,s505,s506,h508,?_,trivial⟩))
   have dh502:=of_decide_eq_true (e501.trans h502);have dh508:=of_decide_eq_true (e507.trans h508);have hz:=hlen
   have hkn:n503=k:=by omega
   subst hkn
   have hd:=zbc s506 n most
   rw [if_pos (by omega),hs] at hd
   exact hd.symm
  | false =>
   obtain ⟨v509,e509⟩:∃v,(IntKind.i64.wrap (most - n))=v:=⟨_,rfl⟩
   obtain ⟨v510,e510⟩:∃v,(sizeX x504 v509)=v:=⟨_,rfl⟩
   have s511:nodes x504≤N:=by exact zv hN s506
   have s512:0≤v509∧v509≤1000:=by (have dh502:=of_decide_eq_true (e501.trans h502);have dh508:=of_decide_eq_false (e507.trans h508);have hz:=hlen;rw [← e509,wri (by omega)];omega)
   obtain ⟨v513,e513⟩:∃v,(IntKind.i64.wrap (n+v510))=v:=⟨_,rfl⟩
   obtain ⟨v514,e514⟩:∃v,(IntKind.i64.wrap (i+(1:Int)))=v:=⟨_,rfl⟩
   refine .inr ⟨⟨v514,v513⟩,⟨v501,n503,x504,v507,v509,v510,v513,v514,e501,e507,e509,e510,e513,e514,h502,s505,s506,h508,s511,s512,rfl,rfl,trivial⟩,?_,?_⟩
   all_goals (have dh502:=of_decide_eq_true (e501.trans h502);have dh508:=of_decide_eq_false (e507.trans h508);have hz:=hlen;have hkn:n503=k:=(by omega);subst hkn;have x1:v509=most - n:=(by rw [← e509,wri (by omega)]);have q:=zj8 x504 (m:=v509) (by omega);rw [e510] at q;have x2:v513=n+v510:=(by rw [← e513,wri (by omega)]);have x3:v514=((n503+1:Nat):Int):=(by rw [← e514,hi,wri (by omega)];omega);have hd:=zbc s506 n most;rw [if_neg (by omega),← x1,e510,← x2] at hd)
   ·show ((e.l.length:Int) - v514).toNat<((e.l.length:Int) - i).toNat
    have hlt:n503<e.l.length:=(List.getElem?_eq_some_iff.1 s506).1
    omega
   ·have hlt:n503<e.l.length:=(List.getElem?_eq_some_iff.1 s506).1
    exact ⟨n503+1,x3,by omega,by omega,by omega,by rw [← hd];exact hs⟩
 | false =>
  refine .inl (Or.inr (⟨v501,e501,h502,?_,trivial⟩))
  have dh502:=of_decide_eq_false (e501.trans h502);have hz:=hlen
  have hkl:k=e.l.length:=by omega
  rw [hkl,List.drop_length,sizeL] at hs
  exact hs
theorem zlj {w0:World} (e:Xp) (most:Int) (N:Nat) (IH:q4 w0 N) (v1:Int) (o:Int) (e1:((e.l.length:Int))=v1) (L_x_size_l:∀R:Frm,R.pm=⟨ntOf Tryd.prog 31,[],[]⟩→zl (KN w0) Tryd.prog (FL [pI e.op,pI e.n,pLs cE e.l,pI most,pI v1,pI o] []) R qV (lp Tryd.prog 31 0)):Fun (KN w0) Tryd.prog 31 [.o (.g [pI e.op,pI e.n,pLs cE e.l]),.o (.c (pI most))] (.o (.c (pI o))):=
 zi (qe (F:=FL [pI e.op,pI e.n,pLs cE e.l,pI most,pI v1,pI o] []) (C:=[(1000005,.op (.len [28] 3) [yh 2] [] (yh 4))]) (k:=⟨31,[.o (.g [.h 0,.h 1,.h 2]),yh 3],[],yh 5,[]⟩) ⟨[qV],[],0⟩ [] 0 (zg ⟨za,za,(ze (zf rfl)),za,za,za,trivial⟩) ⟨zn (E:=31) (by kernel_rfl) (zc rfl) (zb (by rw [← e1];rfl)),
  trivial⟩ mixed trivial (fun R hR p hp s hs=>by
 have hl:zH (qz Tryd.prog 31)=[(3,lp Tryd.prog 31 0)]:=by kernel_rfl
 rw [hl] at hp
 simp only [List.mem_cons,List.not_mem_nil,or_false] at hp
 rcases hp with rfl
 ·have e:s=qV:=(Option.some.inj hs).symm
  subst e;exact L_x_size_l R hR) (by kernel_rfl))
theorem zmv {w0:World} {N:Nat} (IH:q4 w0 N) (e:Xp) (most:Int) (r:Int) (hr:sizeX e most=r) (hN:nodes e≤N+1) (hm:0≤most∧most≤1000) (hN1:N+1≤1000000):Fun (KN w0) Tryd.prog 31 [.o (.g [pI e.op,pI e.n,pLs cE e.l]),.o (.c (pI most))] (.o (.c (pI r))):=by
 obtain ⟨v1,e1⟩:∃v,((e.l.length:Int))=v:=⟨_,rfl⟩
 obtain ⟨o,hO_x_size_l⟩:∃(o:Int),sizeL e.l 1 most=o:=⟨_,rfl⟩
 refine Fun.imp (zlj e most N IH v1 o e1 (fun R hR=>zgT e most N v1 IH   o rfl rfl rfl rfl rfl rfl R hR (by have:=qa e;omega) hN hm hO_x_size_l e1)) (fun _ _ _ h=>h) (fun v W D h=>?_)
 have r0:r=o:=by
  rw [← hr,zhx];exact hO_x_size_l
 rw [r0];exact h
theorem zdQ {w0:World}:∀N:Nat,N≤1000000→q4 w0 N
 | 0,_=>fun x m v _ h _=>by have:=qb x;omega
 | N+1,hN=>fun x m v hv h hm=>zmv (zdQ N (by omega)) x m v hv h hm hN
theorem zmW {w0:World} (x:Xp) (m v:Int) (hv:sizeX x m=v) (hn:nodes x≤1000000) (hm:0≤m∧m≤1000):Fun (KN w0) Tryd.prog 31 [.o (.g [pI x.op,pI x.n,pLs cE x.l]),.o (.c (pI m))] (.o (.c (pI v))):=zdQ (nodes x) hn x m v hv (Nat.le_refl _) hm
structure x_rsize_l_T where
 i:Int
 n:Int
end Go.Proofs.YtdkofaajcpcjkaaDoor
namespace Go.Proofs.YtdkofaajcpcjkaaDoor
open Go.RowKit
theorem ziT {w0:World} (n:Int) (v1:Bool) (v3:Bool) (e1:(decide (n ≥ (-1048576:Int)))=v1) (e3:(decide (n≤(1048576:Int)))=v3) (h2:v1=true):Fun (KN w0) Tryd.prog 40 [.o (.c (pI n))] (.o (.c (pB v3))):=
 zi (zk (F:=FL [pI n,pB v1,pB v3] []) (C:=[(1000002,.bin .geq 3 (yh 0) (LF (.k (.int .i64 (-1048576)))) (yh 1)),
  (10001,.fb 1 true),
  (1000005,.bin .leq 3 (yh 0) (LF (.k (.int .i64 1048576))) (yh 2))]) (k:=⟨40,[yh 0],[],yh 2,[]⟩) 0 (zg ⟨za,za,za,trivial⟩) ⟨e_bin (zb rfl) zd (zb rfl) (r_cmp (congrArg some e1)),
  e_fbv h2,
  e_bin (zb rfl) zd (zb rfl) (r_cmp (congrArg some e3)),
  trivial⟩ mixed (by kernel_rfl))
theorem ziU {w0:World} (n:Int) (v1:Bool) (e1:(decide (n ≥ (-1048576:Int)))=v1) (h2:v1=false):Fun (KN w0) Tryd.prog 40 [.o (.c (pI n))] (.o (.c (pV (.bool false)))):=
 zi (zk (F:=FL [pI n,pB v1] []) (C:=[(1000002,.bin .geq 3 (yh 0) (LF (.k (.int .i64 (-1048576)))) (yh 1)),
  (10001,.fb 1 false)]) (k:=⟨40,[yh 0],[],.o (.c (.k (.bool false))),[]⟩) 0 (zg ⟨za,za,trivial⟩) ⟨e_bin (zb rfl) zd (zb rfl) (r_cmp (congrArg some e1)),
  e_fbv h2,
  trivial⟩ mixed (by kernel_rfl))
theorem zW {w0:World} (n:Int) (r:Bool) (hr:valB n=r):Fun (KN w0) Tryd.prog 40 [.o (.c (pI n))] (.o (.c (pB r))):=by
 obtain ⟨v1,e1⟩:∃v,(decide (n ≥ (-1048576:Int)))=v:=⟨_,rfl⟩
 cases h2:v1 with
 | true =>
  obtain ⟨v3,e3⟩:∃v,(decide (n≤(1048576:Int)))=v:=⟨_,rfl⟩
  refine Fun.imp (ziT n v1 v3 e1 e3 h2) (fun _ _ _ h=>h) (fun v W D h=>?_)
  have r0:r=v3:=by
   rw [← hr];unfold valB;simp_all;try omega
  rw [r0];exact h
 | false =>
  refine Fun.imp (ziU n v1 e1 h2) (fun _ _ _ h=>h) (fun v W D h=>?_)
  have r0:r=false:=by
   rw [← hr];unfold valB;simp_all;try omega
  rw [r0];exact h
theorem zgw {w0:World} (e:Xp) (a:Int) (v1:Bool) (v3:Int) (v4:Bool) (e1:((e.op == (1:Int)))=v1) (e3:((e.l.length:Int))=v3) (e4:(decide (v3 > (0:Int)))=v4) (h2:v1=true) (h5:v4=true):Fun (KN w0) Tryd.prog 57 [.o (.g [pI e.op,pI e.n,pLs cE e.l]),.o (.c (pI a))] (.o (.c (pV (.int .i64 4)))):=
 zi (zk (F:=FL [pI e.op,pI e.n,pLs cE e.l,pI a,pB v1,pI v3,pB v4] []) (C:=[(1000004,.bin .eql 3 (yh 0) (LF (.k (.int .i64 1))) (yh 4)),
  (10004,.fb 4 true),
  (1000008,.op (.len [28] 3) [yh 2] [] (yh 5)),
  (1000009,.bin .gtr 3 (yh 5) (LF (.k (.int .i64 0))) (yh 6)),
  (10006,.fb 6 true)]) (k:=⟨57,[.o (.g [.h 0,.h 1,.h 2]),yh 3],[],.o (.c (.k (.int .i64 4))),[]⟩) 0 (zg ⟨za,za,(ze (zf rfl)),za,za,za,za,trivial⟩) ⟨e_bin (zb rfl) zd (zb rfl) (r_cmp (congrArg some e1)),
  e_fbv h2,
  zn (E:=31) (by kernel_rfl) (zc rfl) (zb (by rw [← e3];rfl)),
  e_bin (zb rfl) zd (zb rfl) (r_cmp (congrArg some e4)),
  e_fbv h5,
  trivial⟩ mixed (by kernel_rfl))
theorem zgx {w0:World} (e:Xp) (a:Int) (v1:Bool) (v3:Int) (v4:Bool) (v6:Bool) (v8:Bool) (v9:Bool) (e1:((e.op == (1:Int)))=v1) (e3:((e.l.length:Int))=v3) (e4:(decide (v3 > (0:Int)))=v4) (e6:((e.op == (1:Int)))=v6) (e8:(valB e.n)=v8) (e9:(!v8)=v9) (h2:v1=true) (h5:v4=false) (h7:v6=true) (h10:v9=true):Fun (KN w0) Tryd.prog 57 [.o (.g [pI e.op,pI e.n,pLs cE e.l]),.o (.c (pI a))] (.o (.c (pV (.int .i64 3)))):=
 zi (zk (F:=FL [pI e.op,pI e.n,pLs cE e.l,pI a,pB v1,pI v3,pB v4,pB v6,pB v8,pB v9] []) (C:=[(1000004,.bin .eql 3 (yh 0) (LF (.k (.int .i64 1))) (yh 4)),
  (10004,.fb 4 true),
  (1000008,.op (.len [28] 3) [yh 2] [] (yh 5)),
  (1000009,.bin .gtr 3 (yh 5) (LF (.k (.int .i64 0))) (yh 6)),
  (10006,.fb 6 false),
  (1000013,.bin .eql 3 (yh 0) (LF (.k (.int .i64 1))) (yh 7)),
  (10007,.fb 7 true),
  (1000017,.call ⟨40,[yh 1],[],yh 8,[]⟩),
  (1000018,.un .not (yh 8) (yh 9)),
  (10009,.fb 9 true)]) (k:=⟨57,[.o (.g [.h 0,.h 1,.h 2]),yh 3],[],.o (.c (.k (.int .i64 3))),[]⟩) 0 (zg ⟨za,za,(ze (zf rfl)),za,za,za,za,za,za,za,trivial⟩) ⟨e_bin (zb rfl) zd (zb rfl) (r_cmp (congrArg some e1)),
  e_fbv h2,
  zn (E:=31) (by kernel_rfl) (zc rfl) (zb (by rw [← e3];rfl)),
  e_bin (zb rfl) zd (zb rfl) (r_cmp (congrArg some e4)),
  e_fbv h5,
  e_bin (zb rfl) zd (zb rfl) (r_cmp (congrArg some e6)),
  e_fbv h7,
  zh (zW e.n v8 e8),
  e_un (zb rfl) (zb rfl) (fun W=>by rw [← e9];exact r_not W),
  e_fbv h10,
  trivial⟩ mixed (by kernel_rfl))
theorem zgy {w0:World} (e:Xp) (a:Int) (v1:Bool) (v3:Int) (v4:Bool) (v6:Bool) (v8:Bool) (v9:Bool) (v11:Bool) (v13:Bool) (e1:((e.op == (1:Int)))=v1) (e3:((e.l.length:Int))=v3) (e4:(decide (v3 > (0:Int)))=v4) (e6:((e.op == (1:Int)))=v6) (e8:(valB e.n)=v8) (e9:(!v8)=v9) (e11:((e.op == (2:Int)))=v11) (e13:(decide (e.n<(0:Int)))=v13) (h2:v1=true) (h5:v4=false) (h7:v6=true) (h10:v9=false) (h12:v11=true) (h14:v13=true):Fun (KN w0) Tryd.prog 57 [.o (.g [pI e.op,pI e.n,pLs cE e.l]),.o (.c (pI a))] (.o (.c (pV (.int .i64 1)))):=
 zi (zk (F:=FL [pI e.op,pI e.n,pLs cE e.l,pI a,pB v1,pI v3,pB v4,pB v6,pB v8,pB v9,pB v11,pB v13] []) (C:=[(1000004,.bin .eql 3 (yh 0) (LF (.k (.int .i64 1))) (yh 4)),
  (10004,.fb 4 true),
  (1000008,.op (.len [28] 3) [yh 2] [] (yh 5)),
  (1000009,.bin .gtr 3 (yh 5) (LF (.k (.int .i64 0))) (yh 6)),
  (10006,.fb 6 false),
  (1000013,.bin .eql 3 (yh 0) (LF (.k (.int .i64 1))) (yh 7)),
  (10007,.fb 7 true),
  (1000017,.call ⟨40,[yh 1],[],yh 8,[]⟩),
  (1000018,.un .not (yh 8) (yh 9)),
  (10009,.fb 9 false),
  (1000023,.bin .eql 3 (yh 0) (LF (.k (.int .i64 2))) (yh 10)),
  (10010,.fb 10 true),
  (1000027,.bin .lss 3 (yh 1) (LF (.k (.int .i64 0))) (yh 11)),
  (10011,.fb 11 true)]) (k:=⟨57,[.o (.g [.h 0,.h 1,.h 2]),yh 3],[],.o (.c (.k (.int .i64 1))),[]⟩) 0 (zg ⟨za,za,(ze (zf rfl)),za,za,za,za,za,za,za,za,za,trivial⟩) ⟨e_bin (zb rfl) zd (zb rfl) (r_cmp (congrArg some e1)),
  e_fbv h2,
  zn (E:=31) (by kernel_rfl) (zc rfl) (zb (by rw [← e3];rfl)),
  e_bin (zb rfl) zd (zb rfl) (r_cmp (congrArg some e4)),
  e_fbv h5,
  e_bin (zb rfl) zd (zb rfl) (r_cmp (congrArg some e6)),
  e_fbv h7,
  zh (zW e.n v8 e8),
  e_un (zb rfl) (zb rfl) (fun W=>by rw [← e9];exact r_not W),
  e_fbv h10,
  e_bin (zb rfl) zd (zb rfl) (r_cmp (congrArg some e11)),
  e_fbv h12,
  e_bin (zb rfl) zd (zb rfl) (r_cmp (congrArg some e13)),
  e_fbv h14,
  trivial⟩ mixed (by kernel_rfl))
theorem zgz {w0:World} (e:Xp) (a:Int) (v1:Bool) (v3:Int) (v4:Bool) (v6:Bool) (v8:Bool) (v9:Bool) (v11:Bool) (v13:Bool) (v15:Int) (v16:Bool) (e1:((e.op == (1:Int)))=v1) (e3:((e.l.length:Int))=v3) (e4:(decide (v3 > (0:Int)))=v4) (e6:((e.op == (1:Int)))=v6) (e8:(valB e.n)=v8) (e9:(!v8)=v9) (e11:((e.op == (2:Int)))=v11) (e13:(decide (e.n<(0:Int)))=v13) (e15:((if (4:Int)<a then (4:Int) else a))=v15) (e16:(decide (e.n ≥ v15))=v16) (h2:v1=true) (h5:v4=false) (h7:v6=true) (h10:v9=false) (h12:v11=true) (h14:v13=false) (h17:v16=true):Fun (KN w0) Tryd.prog 57 [.o (.g [pI e.op,pI e.n,pLs cE e.l]),.o (.c (pI a))] (.o (.c (pV (.int .i64 1)))):=
 zi (zk (F:=FL [pI e.op,pI e.n,pLs cE e.l,pI a,pB v1,pI v3,pB v4,pB v6,pB v8,pB v9,pB v11,pB v13,pI v15,pB v16] []) (C:=[(1000004,.bin .eql 3 (yh 0) (LF (.k (.int .i64 1))) (yh 4)),
  (10004,.fb 4 true),
  (1000008,.op (.len [28] 3) [yh 2] [] (yh 5)),
  (1000009,.bin .gtr 3 (yh 5) (LF (.k (.int .i64 0))) (yh 6)),
  (10006,.fb 6 false),
  (1000013,.bin .eql 3 (yh 0) (LF (.k (.int .i64 1))) (yh 7)),
  (10007,.fb 7 true),
  (1000017,.call ⟨40,[yh 1],[],yh 8,[]⟩),
  (1000018,.un .not (yh 8) (yh 9)),
  (10009,.fb 9 false),
  (1000023,.bin .eql 3 (yh 0) (LF (.k (.int .i64 2))) (yh 10)),
  (10010,.fb 10 true),
  (1000027,.bin .lss 3 (yh 1) (LF (.k (.int .i64 0))) (yh 11)),
  (10011,.fb 11 false),
  (1000032,.op (.min [3,3] 3) [yh 3,LF (.k (.int .i64 4))] [] (yh 12)),
  (1000033,.bin .geq 3 (yh 1) (yh 12) (yh 13)),
  (10013,.fb 13 true)]) (k:=⟨57,[.o (.g [.h 0,.h 1,.h 2]),yh 3],[],.o (.c (.k (.int .i64 1))),[]⟩) 0 (zg ⟨za,za,(ze (zf rfl)),za,za,za,za,za,za,za,za,za,za,za,trivial⟩) ⟨e_bin (zb rfl) zd (zb rfl) (r_cmp (congrArg some e1)),
  e_fbv h2,
  zn (E:=31) (by kernel_rfl) (zc rfl) (zb (by rw [← e3];rfl)),
  e_bin (zb rfl) zd (zb rfl) (r_cmp (congrArg some e4)),
  e_fbv h5,
  e_bin (zb rfl) zd (zb rfl) (r_cmp (congrArg some e6)),
  e_fbv h7,
  zh (zW e.n v8 e8),
  e_un (zb rfl) (zb rfl) (fun W=>by rw [← e9];exact r_not W),
  e_fbv h10,
  e_bin (zb rfl) zd (zb rfl) (r_cmp (congrArg some e11)),
  e_fbv h12,
  e_bin (zb rfl) zd (zb rfl) (r_cmp (congrArg some e13)),
  e_fbv h14,
  e_op2 (zb rfl) zd (zb rfl) (fun W=>by rw [← e15];exact zaB W),
  e_bin (zb rfl) (zb rfl) (zb rfl) (r_cmp (congrArg some e16)),
  e_fbv h17,
  trivial⟩ mixed (by kernel_rfl))
theorem zgA {w0:World} (e:Xp) (a:Int) (v1:Bool) (v3:Int) (v4:Bool) (v6:Bool) (v8:Bool) (v9:Bool) (v11:Bool) (v13:Bool) (v15:Int) (v16:Bool) (e1:((e.op == (1:Int)))=v1) (e3:((e.l.length:Int))=v3) (e4:(decide (v3 > (0:Int)))=v4) (e6:((e.op == (1:Int)))=v6) (e8:(valB e.n)=v8) (e9:(!v8)=v9) (e11:((e.op == (2:Int)))=v11) (e13:(decide (e.n<(0:Int)))=v13) (e15:((if (4:Int)<a then (4:Int) else a))=v15) (e16:(decide (e.n ≥ v15))=v16) (h2:v1=true) (h5:v4=false) (h7:v6=true) (h10:v9=false) (h12:v11=true) (h14:v13=false) (h17:v16=false):Fun (KN w0) Tryd.prog 57 [.o (.g [pI e.op,pI e.n,pLs cE e.l]),.o (.c (pI a))] (.o (.c (pV (.int .i64 0)))):=
 zi (zk (F:=FL [pI e.op,pI e.n,pLs cE e.l,pI a,pB v1,pI v3,pB v4,pB v6,pB v8,pB v9,pB v11,pB v13,pI v15,pB v16] []) (C:=[(1000004,.bin .eql 3 (yh 0) (LF (.k (.int .i64 1))) (yh 4)),
  (10004,.fb 4 true),
  (1000008,.op (.len [28] 3) [yh 2] [] (yh 5)),
  (1000009,.bin .gtr 3 (yh 5) (LF (.k (.int .i64 0))) (yh 6)),
  (10006,.fb 6 false),
  (1000013,.bin .eql 3 (yh 0) (LF (.k (.int .i64 1))) (yh 7)),
  (10007,.fb 7 true),
  (1000017,.call ⟨40,[yh 1],[],yh 8,[]⟩),
  (1000018,.un .not (yh 8) (yh 9)),
  (10009,.fb 9 false),
  (1000023,.bin .eql 3 (yh 0) (LF (.k (.int .i64 2))) (yh 10)),
  (10010,.fb 10 true),
  (1000027,.bin .lss 3 (yh 1) (LF (.k (.int .i64 0))) (yh 11)),
  (10011,.fb 11 false),
  (1000032,.op (.min [3,3] 3) [yh 3,LF (.k (.int .i64 4))] [] (yh 12)),
  (1000033,.bin .geq 3 (yh 1) (yh 12) (yh 13)),
  (10013,.fb 13 false)]) (k:=⟨57,[.o (.g [.h 0,.h 1,.h 2]),yh 3],[],.o (.c (.k (.int .i64 0))),[]⟩) 0 (zg ⟨za,za,(ze (zf rfl)),za,za,za,za,za,za,za,za,za,za,za,trivial⟩) ⟨e_bin (zb rfl) zd (zb rfl) (r_cmp (congrArg some e1)),
  e_fbv h2,
  zn (E:=31) (by kernel_rfl) (zc rfl) (zb (by rw [← e3];rfl)),
  e_bin (zb rfl) zd (zb rfl) (r_cmp (congrArg some e4)),
  e_fbv h5,
  e_bin (zb rfl) zd (zb rfl) (r_cmp (congrArg some e6)),
  e_fbv h7,
  zh (zW e.n v8 e8),
  e_un (zb rfl) (zb rfl) (fun W=>by rw [← e9];exact r_not W),
  e_fbv h10,
  e_bin (zb rfl) zd (zb rfl) (r_cmp (congrArg some e11)),
  e_fbv h12,
  e_bin (zb rfl) zd (zb rfl) (r_cmp (congrArg some e13)),
  e_fbv h14,
  e_op2 (zb rfl) zd (zb rfl) (fun W=>by rw [← e15];exact zaB W),
  e_bin (zb rfl) (zb rfl) (zb rfl) (r_cmp (congrArg some e16)),
  e_fbv h17,
  trivial⟩ mixed (by kernel_rfl))
theorem zgB {w0:World} (e:Xp) (a:Int) (v1:Bool) (v3:Int) (v4:Bool) (v6:Bool) (v8:Bool) (v9:Bool) (v11:Bool) (e1:((e.op == (1:Int)))=v1) (e3:((e.l.length:Int))=v3) (e4:(decide (v3 > (0:Int)))=v4) (e6:((e.op == (1:Int)))=v6) (e8:(valB e.n)=v8) (e9:(!v8)=v9) (e11:((e.op == (2:Int)))=v11) (h2:v1=true) (h5:v4=false) (h7:v6=true) (h10:v9=false) (h12:v11=false):Fun (KN w0) Tryd.prog 57 [.o (.g [pI e.op,pI e.n,pLs cE e.l]),.o (.c (pI a))] (.o (.c (pV (.int .i64 0)))):=
 zi (zk (F:=FL [pI e.op,pI e.n,pLs cE e.l,pI a,pB v1,pI v3,pB v4,pB v6,pB v8,pB v9,pB v11] []) (C:=[(1000004,.bin .eql 3 (yh 0) (LF (.k (.int .i64 1))) (yh 4)),
  (10004,.fb 4 true),
  (1000008,.op (.len [28] 3) [yh 2] [] (yh 5)),
  (1000009,.bin .gtr 3 (yh 5) (LF (.k (.int .i64 0))) (yh 6)),
  (10006,.fb 6 false),
  (1000013,.bin .eql 3 (yh 0) (LF (.k (.int .i64 1))) (yh 7)),
  (10007,.fb 7 true),
  (1000017,.call ⟨40,[yh 1],[],yh 8,[]⟩),
  (1000018,.un .not (yh 8) (yh 9)),
  (10009,.fb 9 false),
  (1000023,.bin .eql 3 (yh 0) (LF (.k (.int .i64 2))) (yh 10)),
  (10010,.fb 10 false)]) (k:=⟨57,[.o (.g [.h 0,.h 1,.h 2]),yh 3],[],.o (.c (.k (.int .i64 0))),[]⟩) 0 (zg ⟨za,za,(ze (zf rfl)),za,za,za,za,za,za,za,za,trivial⟩) ⟨e_bin (zb rfl) zd (zb rfl) (r_cmp (congrArg some e1)),
  e_fbv h2,
  zn (E:=31) (by kernel_rfl) (zc rfl) (zb (by rw [← e3];rfl)),
  e_bin (zb rfl) zd (zb rfl) (r_cmp (congrArg some e4)),
  e_fbv h5,
  e_bin (zb rfl) zd (zb rfl) (r_cmp (congrArg some e6)),
  e_fbv h7,
  zh (zW e.n v8 e8),
  e_un (zb rfl) (zb rfl) (fun W=>by rw [← e9];exact r_not W),
  e_fbv h10,
  e_bin (zb rfl) zd (zb rfl) (r_cmp (congrArg some e11)),
  e_fbv h12,
  trivial⟩ mixed (by kernel_rfl))
theorem zgC {w0:World} (e:Xp) (a:Int) (v1:Bool) (v3:Int) (v4:Bool) (v6:Bool) (v8:Bool) (v10:Bool) (e1:((e.op == (1:Int)))=v1) (e3:((e.l.length:Int))=v3) (e4:(decide (v3 > (0:Int)))=v4) (e6:((e.op == (1:Int)))=v6) (e8:((e.op == (2:Int)))=v8) (e10:(decide (e.n<(0:Int)))=v10) (h2:v1=true) (h5:v4=false) (h7:v6=false) (h9:v8=true) (h11:v10=true):Fun (KN w0) Tryd.prog 57 [.o (.g [pI e.op,pI e.n,pLs cE e.l]),.o (.c (pI a))] (.o (.c (pV (.int .i64 1)))):=
 zi (zk (F:=FL [pI e.op,pI e.n,pLs cE e.l,pI a,pB v1,pI v3,pB v4,pB v6,pB v8,pB v10] []) (C:=[(1000004,.bin .eql 3 (yh 0) (LF (.k (.int .i64 1))) (yh 4)),
  (10004,.fb 4 true),
  (1000008,.op (.len [28] 3) [yh 2] [] (yh 5)),
  (1000009,.bin .gtr 3 (yh 5) (LF (.k (.int .i64 0))) (yh 6)),
  (10006,.fb 6 false),
  (1000013,.bin .eql 3 (yh 0) (LF (.k (.int .i64 1))) (yh 7)),
  (10007,.fb 7 false),
  (1000023,.bin .eql 3 (yh 0) (LF (.k (.int .i64 2))) (yh 8)),
  (10008,.fb 8 true),
  (1000027,.bin .lss 3 (yh 1) (LF (.k (.int .i64 0))) (yh 9)),
  (10009,.fb 9 true)]) (k:=⟨57,[.o (.g [.h 0,.h 1,.h 2]),yh 3],[],.o (.c (.k (.int .i64 1))),[]⟩) 0 (zg ⟨za,za,(ze (zf rfl)),za,za,za,za,za,za,za,trivial⟩) ⟨e_bin (zb rfl) zd (zb rfl) (r_cmp (congrArg some e1)),
  e_fbv h2,
  zn (E:=31) (by kernel_rfl) (zc rfl) (zb (by rw [← e3];rfl)),
  e_bin (zb rfl) zd (zb rfl) (r_cmp (congrArg some e4)),
  e_fbv h5,
  e_bin (zb rfl) zd (zb rfl) (r_cmp (congrArg some e6)),
  e_fbv h7,
  e_bin (zb rfl) zd (zb rfl) (r_cmp (congrArg some e8)),
  e_fbv h9,
  e_bin (zb rfl) zd (zb rfl) (r_cmp (congrArg some e10)),
  e_fbv h11,
  trivial⟩ mixed (by kernel_rfl))
theorem zgD {w0:World} (e:Xp) (a:Int) (v1:Bool) (v3:Int) (v4:Bool) (v6:Bool) (v8:Bool) (v10:Bool) (v12:Int) (v13:Bool) (e1:((e.op == (1:Int)))=v1) (e3:((e.l.length:Int))=v3) (e4:(decide (v3 > (0:Int)))=v4) (e6:((e.op == (1:Int)))=v6) (e8:((e.op == (2:Int)))=v8) (e10:(decide (e.n<(0:Int)))=v10) (e12:((if (4:Int)<a then (4:Int) else a))=v12) (e13:(decide (e.n ≥ v12))=v13) (h2:v1=true) (h5:v4=false) (h7:v6=false) (h9:v8=true) (h11:v10=false) (h14:v13=true):Fun (KN w0) Tryd.prog 57 [.o (.g [pI e.op,pI e.n,pLs cE e.l]),.o (.c (pI a))] (.o (.c (pV (.int .i64 1)))):=
 zi (zk (F:=FL [pI e.op,pI e.n,pLs cE e.l,pI a,pB v1,pI v3,pB v4,pB v6,pB v8,pB v10,pI v12,pB v13] []) (C:=[(1000004,.bin .eql 3 (yh 0) (LF (.k (.int .i64 1))) (yh 4)),
  (10004,.fb 4 true),
  (1000008,.op (.len [28] 3) [yh 2] [] (yh 5)),
  (1000009,.bin .gtr 3 (yh 5) (LF (.k (.int .i64 0))) (yh 6)),
  (10006,.fb 6 false),
  (1000013,.bin .eql 3 (yh 0) (LF (.k (.int .i64 1))) (yh 7)),
  (10007,.fb 7 false),
  (1000023,.bin .eql 3 (yh 0) (LF (.k (.int .i64 2))) (yh 8)),
  (10008,.fb 8 true),
  (1000027,.bin .lss 3 (yh 1) (LF (.k (.int .i64 0))) (yh 9)),
  (10009,.fb 9 false),
  (1000032,.op (.min [3,3] 3) [yh 3,LF (.k (.int .i64 4))] [] (yh 10)),
  (1000033,.bin .geq 3 (yh 1) (yh 10) (yh 11)),
  (10011,.fb 11 true)]) (k:=⟨57,[.o (.g [.h 0,.h 1,.h 2]),yh 3],[],.o (.c (.k (.int .i64 1))),[]⟩) 0 (zg ⟨za,za,(ze (zf rfl)),za,za,za,za,za,za,za,za,za,trivial⟩) ⟨e_bin (zb rfl) zd (zb rfl) (r_cmp (congrArg some e1)),
  e_fbv h2,
  zn (E:=31) (by kernel_rfl) (zc rfl) (zb (by rw [← e3];rfl)),
  e_bin (zb rfl) zd (zb rfl) (r_cmp (congrArg some e4)),
  e_fbv h5,
  e_bin (zb rfl) zd (zb rfl) (r_cmp (congrArg some e6)),
  e_fbv h7,
  e_bin (zb rfl) zd (zb rfl) (r_cmp (congrArg some e8)),
  e_fbv h9,
  e_bin (zb rfl) zd (zb rfl) (r_cmp (congrArg some e10)),
  e_fbv h11,
  e_op2 (zb rfl) zd (zb rfl) (fun W=>by rw [← e12];exact zaB W),
  e_bin (zb rfl) (zb rfl) (zb rfl) (r_cmp (congrArg some e13)),
  e_fbv h14,
  trivial⟩ mixed (by kernel_rfl))
theorem zgE {w0:World} (e:Xp) (a:Int) (v1:Bool) (v3:Int) (v4:Bool) (v6:Bool) (v8:Bool) (v10:Bool) (v12:Int) (v13:Bool) (e1:((e.op == (1:Int)))=v1) (e3:((e.l.length:Int))=v3) (e4:(decide (v3 > (0:Int)))=v4) (e6:((e.op == (1:Int)))=v6) (e8:((e.op == (2:Int)))=v8) (e10:(decide (e.n<(0:Int)))=v10) (e12:((if (4:Int)<a then (4:Int) else a))=v12) (e13:(decide (e.n ≥ v12))=v13) (h2:v1=true) (h5:v4=false) (h7:v6=false) (h9:v8=true) (h11:v10=false) (h14:v13=false):Fun (KN w0) Tryd.prog 57 [.o (.g [pI e.op,pI e.n,pLs cE e.l]),.o (.c (pI a))] (.o (.c (pV (.int .i64 0)))):=
 zi (zk (F:=FL [pI e.op,pI e.n,pLs cE e.l,pI a,pB v1,pI v3,pB v4,pB v6,pB v8,pB v10,pI v12,pB v13] []) (C:=[(1000004,.bin .eql 3 (yh 0) (LF (.k (.int .i64 1))) (yh 4)),
  (10004,.fb 4 true),
  (1000008,.op (.len [28] 3) [yh 2] [] (yh 5)),
  (1000009,.bin .gtr 3 (yh 5) (LF (.k (.int .i64 0))) (yh 6)),
  (10006,.fb 6 false),
  (1000013,.bin .eql 3 (yh 0) (LF (.k (.int .i64 1))) (yh 7)),
  (10007,.fb 7 false),
  (1000023,.bin .eql 3 (yh 0) (LF (.k (.int .i64 2))) (yh 8)),
  (10008,.fb 8 true),
  (1000027,.bin .lss 3 (yh 1) (LF (.k (.int .i64 0))) (yh 9)),
  (10009,.fb 9 false),
  (1000032,.op (.min [3,3] 3) [yh 3,LF (.k (.int .i64 4))] [] (yh 10)),
  (1000033,.bin .geq 3 (yh 1) (yh 10) (yh 11)),
  (10011,.fb 11 false)]) (k:=⟨57,[.o (.g [.h 0,.h 1,.h 2]),yh 3],[],.o (.c (.k (.int .i64 0))),[]⟩) 0 (zg ⟨za,za,(ze (zf rfl)),za,za,za,za,za,za,za,za,za,trivial⟩) ⟨e_bin (zb rfl) zd (zb rfl) (r_cmp (congrArg some e1)),
  e_fbv h2,
  zn (E:=31) (by kernel_rfl) (zc rfl) (zb (by rw [← e3];rfl)),
  e_bin (zb rfl) zd (zb rfl) (r_cmp (congrArg some e4)),
  e_fbv h5,
  e_bin (zb rfl) zd (zb rfl) (r_cmp (congrArg some e6)),
  e_fbv h7,
  e_bin (zb rfl) zd (zb rfl) (r_cmp (congrArg some e8)),
  e_fbv h9,
  e_bin (zb rfl) zd (zb rfl) (r_cmp (congrArg some e10)),
  e_fbv h11,
  e_op2 (zb rfl) zd (zb rfl) (fun W=>by rw [← e12];exact zaB W),
  e_bin (zb rfl) (zb rfl) (zb rfl) (r_cmp (congrArg some e13)),
  e_fbv h14,
  trivial⟩ mixed (by kernel_rfl))
theorem zgF {w0:World} (e:Xp) (a:Int) (v1:Bool) (v3:Int) (v4:Bool) (v6:Bool) (v8:Bool) (e1:((e.op == (1:Int)))=v1) (e3:((e.l.length:Int))=v3) (e4:(decide (v3 > (0:Int)))=v4) (e6:((e.op == (1:Int)))=v6) (e8:((e.op == (2:Int)))=v8) (h2:v1=true) (h5:v4=false) (h7:v6=false) (h9:v8=false):Fun (KN w0) Tryd.prog 57 [.o (.g [pI e.op,pI e.n,pLs cE e.l]),.o (.c (pI a))] (.o (.c (pV (.int .i64 0)))):=
 zi (zk (F:=FL [pI e.op,pI e.n,pLs cE e.l,pI a,pB v1,pI v3,pB v4,pB v6,pB v8] []) (C:=[(1000004,.bin .eql 3 (yh 0) (LF (.k (.int .i64 1))) (yh 4)),
  (10004,.fb 4 true),
  (1000008,.op (.len [28] 3) [yh 2] [] (yh 5)),
  (1000009,.bin .gtr 3 (yh 5) (LF (.k (.int .i64 0))) (yh 6)),
  (10006,.fb 6 false),
  (1000013,.bin .eql 3 (yh 0) (LF (.k (.int .i64 1))) (yh 7)),
  (10007,.fb 7 false),
  (1000023,.bin .eql 3 (yh 0) (LF (.k (.int .i64 2))) (yh 8)),
  (10008,.fb 8 false)]) (k:=⟨57,[.o (.g [.h 0,.h 1,.h 2]),yh 3],[],.o (.c (.k (.int .i64 0))),[]⟩) 0 (zg ⟨za,za,(ze (zf rfl)),za,za,za,za,za,za,trivial⟩) ⟨e_bin (zb rfl) zd (zb rfl) (r_cmp (congrArg some e1)),
  e_fbv h2,
  zn (E:=31) (by kernel_rfl) (zc rfl) (zb (by rw [← e3];rfl)),
  e_bin (zb rfl) zd (zb rfl) (r_cmp (congrArg some e4)),
  e_fbv h5,
  e_bin (zb rfl) zd (zb rfl) (r_cmp (congrArg some e6)),
  e_fbv h7,
  e_bin (zb rfl) zd (zb rfl) (r_cmp (congrArg some e8)),
  e_fbv h9,
  trivial⟩ mixed (by kernel_rfl))
theorem ze9 {w0:World} (e:Xp) (a:Int) (v1:Bool) (v3:Bool) (v5:Int) (v6:Bool) (e1:((e.op == (1:Int)))=v1) (e3:((e.op == (2:Int)))=v3) (e5:((e.l.length:Int))=v5) (e6:(decide (v5 > (0:Int)))=v6) (h2:v1=false) (h4:v3=true) (h7:v6=true):Fun (KN w0) Tryd.prog 57 [.o (.g [pI e.op,pI e.n,pLs cE e.l]),.o (.c (pI a))] (.o (.c (pV (.int .i64 4)))):=
 zi (zk (F:=FL [pI e.op,pI e.n,pLs cE e.l,pI a,pB v1,pB v3,pI v5,pB v6] []) (C:=[(1000004,.bin .eql 3 (yh 0) (LF (.k (.int .i64 1))) (yh 4)),
  (10004,.fb 4 false),
  (1000006,.bin .eql 3 (yh 0) (LF (.k (.int .i64 2))) (yh 5)),
  (10005,.fb 5 true),
  (1000010,.op (.len [28] 3) [yh 2] [] (yh 6)),
  (1000011,.bin .gtr 3 (yh 6) (LF (.k (.int .i64 0))) (yh 7)),
  (10007,.fb 7 true)]) (k:=⟨57,[.o (.g [.h 0,.h 1,.h 2]),yh 3],[],.o (.c (.k (.int .i64 4))),[]⟩) 0 (zg ⟨za,za,(ze (zf rfl)),za,za,za,za,za,trivial⟩) ⟨e_bin (zb rfl) zd (zb rfl) (r_cmp (congrArg some e1)),
  e_fbv h2,
  e_bin (zb rfl) zd (zb rfl) (r_cmp (congrArg some e3)),
  e_fbv h4,
  zn (E:=31) (by kernel_rfl) (zc rfl) (zb (by rw [← e5];rfl)),
  e_bin (zb rfl) zd (zb rfl) (r_cmp (congrArg some e6)),
  e_fbv h7,
  trivial⟩ mixed (by kernel_rfl))
theorem zfa {w0:World} (e:Xp) (a:Int) (v1:Bool) (v3:Bool) (v5:Int) (v6:Bool) (v8:Bool) (v10:Bool) (v11:Bool) (e1:((e.op == (1:Int)))=v1) (e3:((e.op == (2:Int)))=v3) (e5:((e.l.length:Int))=v5) (e6:(decide (v5 > (0:Int)))=v6) (e8:((e.op == (1:Int)))=v8) (e10:(valB e.n)=v10) (e11:(!v10)=v11) (h2:v1=false) (h4:v3=true) (h7:v6=false) (h9:v8=true) (h12:v11=true):Fun (KN w0) Tryd.prog 57 [.o (.g [pI e.op,pI e.n,pLs cE e.l]),.o (.c (pI a))] (.o (.c (pV (.int .i64 3)))):=
 zi (zk (F:=FL [pI e.op,pI e.n,pLs cE e.l,pI a,pB v1,pB v3,pI v5,pB v6,pB v8,pB v10,pB v11] []) (C:=[(1000004,.bin .eql 3 (yh 0) (LF (.k (.int .i64 1))) (yh 4)),
  (10004,.fb 4 false),
  (1000006,.bin .eql 3 (yh 0) (LF (.k (.int .i64 2))) (yh 5)),
  (10005,.fb 5 true),
  (1000010,.op (.len [28] 3) [yh 2] [] (yh 6)),
  (1000011,.bin .gtr 3 (yh 6) (LF (.k (.int .i64 0))) (yh 7)),
  (10007,.fb 7 false),
  (1000015,.bin .eql 3 (yh 0) (LF (.k (.int .i64 1))) (yh 8)),
  (10008,.fb 8 true),
  (1000019,.call ⟨40,[yh 1],[],yh 9,[]⟩),
  (1000020,.un .not (yh 9) (yh 10)),
  (10010,.fb 10 true)]) (k:=⟨57,[.o (.g [.h 0,.h 1,.h 2]),yh 3],[],.o (.c (.k (.int .i64 3))),[]⟩) 0 (zg ⟨za,za,(ze (zf rfl)),za,za,za,za,za,za,za,za,trivial⟩) ⟨e_bin (zb rfl) zd (zb rfl) (r_cmp (congrArg some e1)),
  e_fbv h2,
  e_bin (zb rfl) zd (zb rfl) (r_cmp (congrArg some e3)),
  e_fbv h4,
  zn (E:=31) (by kernel_rfl) (zc rfl) (zb (by rw [← e5];rfl)),
  e_bin (zb rfl) zd (zb rfl) (r_cmp (congrArg some e6)),
  e_fbv h7,
  e_bin (zb rfl) zd (zb rfl) (r_cmp (congrArg some e8)),
  e_fbv h9,
  zh (zW e.n v10 e10),
  e_un (zb rfl) (zb rfl) (fun W=>by rw [← e11];exact r_not W),
  e_fbv h12,
  trivial⟩ mixed (by kernel_rfl))
theorem zfb {w0:World} (e:Xp) (a:Int) (v1:Bool) (v3:Bool) (v5:Int) (v6:Bool) (v8:Bool) (v10:Bool) (v11:Bool) (v13:Bool) (v15:Bool) (e1:((e.op == (1:Int)))=v1) (e3:((e.op == (2:Int)))=v3) (e5:((e.l.length:Int))=v5) (e6:(decide (v5 > (0:Int)))=v6) (e8:((e.op == (1:Int)))=v8) (e10:(valB e.n)=v10) (e11:(!v10)=v11) (e13:((e.op == (2:Int)))=v13) (e15:(decide (e.n<(0:Int)))=v15) (h2:v1=false) (h4:v3=true) (h7:v6=false) (h9:v8=true) (h12:v11=false) (h14:v13=true) (h16:v15=true):Fun (KN w0) Tryd.prog 57 [.o (.g [pI e.op,pI e.n,pLs cE e.l]),.o (.c (pI a))] (.o (.c (pV (.int .i64 1)))):=
 zi (zk (F:=FL [pI e.op,pI e.n,pLs cE e.l,pI a,pB v1,pB v3,pI v5,pB v6,pB v8,pB v10,pB v11,pB v13,pB v15] []) (C:=[(1000004,.bin .eql 3 (yh 0) (LF (.k (.int .i64 1))) (yh 4)),
  (10004,.fb 4 false),
  (1000006,.bin .eql 3 (yh 0) (LF (.k (.int .i64 2))) (yh 5)),
  (10005,.fb 5 true),
  (1000010,.op (.len [28] 3) [yh 2] [] (yh 6)),
  (1000011,.bin .gtr 3 (yh 6) (LF (.k (.int .i64 0))) (yh 7)),
  (10007,.fb 7 false),
  (1000015,.bin .eql 3 (yh 0) (LF (.k (.int .i64 1))) (yh 8)),
  (10008,.fb 8 true),
  (1000019,.call ⟨40,[yh 1],[],yh 9,[]⟩),
  (1000020,.un .not (yh 9) (yh 10)),
  (10010,.fb 10 false),
  (1000025,.bin .eql 3 (yh 0) (LF (.k (.int .i64 2))) (yh 11)),
  (10011,.fb 11 true),
  (1000029,.bin .lss 3 (yh 1) (LF (.k (.int .i64 0))) (yh 12)),
  (10012,.fb 12 true)]) (k:=⟨57,[.o (.g [.h 0,.h 1,.h 2]),yh 3],[],.o (.c (.k (.int .i64 1))),[]⟩) 0 (zg ⟨za,za,(ze (zf rfl)),za,za,za,za,za,za,za,za,za,za,trivial⟩) ⟨e_bin (zb rfl) zd (zb rfl) (r_cmp (congrArg some e1)),
  e_fbv h2,
  e_bin (zb rfl) zd (zb rfl) (r_cmp (congrArg some e3)),
  e_fbv h4,
  zn (E:=31) (by kernel_rfl) (zc rfl) (zb (by rw [← e5];rfl)),
  e_bin (zb rfl) zd (zb rfl) (r_cmp (congrArg some e6)),
  e_fbv h7,
  e_bin (zb rfl) zd (zb rfl) (r_cmp (congrArg some e8)),
  e_fbv h9,
  zh (zW e.n v10 e10),
  e_un (zb rfl) (zb rfl) (fun W=>by rw [← e11];exact r_not W),
  e_fbv h12,
  e_bin (zb rfl) zd (zb rfl) (r_cmp (congrArg some e13)),
  e_fbv h14,
  e_bin (zb rfl) zd (zb rfl) (r_cmp (congrArg some e15)),
  e_fbv h16,
  trivial⟩ mixed (by kernel_rfl))
theorem zfc {w0:World} (e:Xp) (a:Int) (v1:Bool) (v3:Bool) (v5:Int) (v6:Bool) (v8:Bool) (v10:Bool) (v11:Bool) (v13:Bool) (v15:Bool) (v17:Int) (v18:Bool) (e1:((e.op == (1:Int)))=v1) (e3:((e.op == (2:Int)))=v3) (e5:((e.l.length:Int))=v5) (e6:(decide (v5 > (0:Int)))=v6) (e8:((e.op == (1:Int)))=v8) (e10:(valB e.n)=v10) (e11:(!v10)=v11) (e13:((e.op == (2:Int)))=v13) (e15:(decide (e.n<(0:Int)))=v15) (e17:((if (4:Int)<a then (4:Int) else a))=v17) (e18:(decide (e.n ≥ v17))=v18) (h2:v1=false) (h4:v3=true) (h7:v6=false) (h9:v8=true) (h12:v11=false) (h14:v13=true) (h16:v15=false) (h19:v18=true):Fun (KN w0) Tryd.prog 57 [.o (.g [pI e.op,pI e.n,pLs cE e.l]),.o (.c (pI a))] (.o (.c (pV (.int .i64 1)))):=
 zi (zk (F:=FL [pI e.op,pI e.n,pLs cE e.l,pI a,pB v1,pB v3,pI v5,pB v6,pB v8,pB v10,pB v11,pB v13,pB v15,pI v17,pB v18] []) (C:=[(1000004,.bin .eql 3 (yh 0) (LF (.k (.int .i64 1))) (yh 4)),
  (10004,.fb 4 false),
  (1000006,.bin .eql 3 (yh 0) (LF (.k (.int .i64 2))) (yh 5)),
  (10005,.fb 5 true),
  (1000010,.op (.len [28] 3) [yh 2] [] (yh 6)),
  (1000011,.bin .gtr 3 (yh 6) (LF (.k (.int .i64 0))) (yh 7)),
  (10007,.fb 7 false),
  (1000015,.bin .eql 3 (yh 0) (LF (.k (.int .i64 1))) (yh 8)),
  (10008,.fb 8 true),
  (1000019,.call ⟨40,[yh 1],[],yh 9,[]⟩),
  (1000020,.un .not (yh 9) (yh 10)),
  (10010,.fb 10 false),
  (1000025,.bin .eql 3 (yh 0) (LF (.k (.int .i64 2))) (yh 11)),
  (10011,.fb 11 true),
  (1000029,.bin .lss 3 (yh 1) (LF (.k (.int .i64 0))) (yh 12)),
  (10012,.fb 12 false),
  (1000034,.op (.min [3,3] 3) [yh 3,LF (.k (.int .i64 4))] [] (yh 13)),
  (1000035,.bin .geq 3 (yh 1) (yh 13) (yh 14)),
  (10014,.fb 14 true)]) (k:=⟨57,[.o (.g [.h 0,.h 1,.h 2]),yh 3],[],.o (.c (.k (.int .i64 1))),[]⟩) 0 (zg ⟨za,za,(ze (zf rfl)),za,za,za,za,za,za,za,za,za,za,za,za,trivial⟩) ⟨e_bin (zb rfl) zd (zb rfl) (r_cmp (congrArg some e1)),
  e_fbv h2,
  e_bin (zb rfl) zd (zb rfl) (r_cmp (congrArg some e3)),
  e_fbv h4,
  zn (E:=31) (by kernel_rfl) (zc rfl) (zb (by rw [← e5];rfl)),
  e_bin (zb rfl) zd (zb rfl) (r_cmp (congrArg some e6)),
  e_fbv h7,
  e_bin (zb rfl) zd (zb rfl) (r_cmp (congrArg some e8)),
  e_fbv h9,
  zh (zW e.n v10 e10),
  e_un (zb rfl) (zb rfl) (fun W=>by rw [← e11];exact r_not W),
  e_fbv h12,
  e_bin (zb rfl) zd (zb rfl) (r_cmp (congrArg some e13)),
  e_fbv h14,
  e_bin (zb rfl) zd (zb rfl) (r_cmp (congrArg some e15)),
  e_fbv h16,
  e_op2 (zb rfl) zd (zb rfl) (fun W=>by rw [← e17];exact zaB W),
  e_bin (zb rfl) (zb rfl) (zb rfl) (r_cmp (congrArg some e18)),
  e_fbv h19,
  trivial⟩ mixed (by kernel_rfl))
theorem zfd {w0:World} (e:Xp) (a:Int) (v1:Bool) (v3:Bool) (v5:Int) (v6:Bool) (v8:Bool) (v10:Bool) (v11:Bool) (v13:Bool) (v15:Bool) (v17:Int) (v18:Bool) (e1:((e.op == (1:Int)))=v1) (e3:((e.op == (2:Int)))=v3) (e5:((e.l.length:Int))=v5) (e6:(decide (v5 > (0:Int)))=v6) (e8:((e.op == (1:Int)))=v8) (e10:(valB e.n)=v10) (e11:(!v10)=v11) (e13:((e.op == (2:Int)))=v13) (e15:(decide (e.n<(0:Int)))=v15) (e17:((if (4:Int)<a then (4:Int) else a))=v17) (e18:(decide (e.n ≥ v17))=v18) (h2:v1=false) (h4:v3=true) (h7:v6=false) (h9:v8=true) (h12:v11=false) (h14:v13=true) (h16:v15=false) (h19:v18=false):Fun (KN w0) Tryd.prog 57 [.o (.g [pI e.op,pI e.n,pLs cE e.l]),.o (.c (pI a))] (.o (.c (pV (.int .i64 0)))):=
 zi (zk (F:=FL [pI e.op,pI e.n,pLs cE e.l,pI a,pB v1,pB v3,pI v5,pB v6,pB v8,pB v10,pB v11,pB v13,pB v15,pI v17,pB v18] []) (C:=[(1000004,.bin .eql 3 (yh 0) (LF (.k (.int .i64 1))) (yh 4)),
  (10004,.fb 4 false),
  (1000006,.bin .eql 3 (yh 0) (LF (.k (.int .i64 2))) (yh 5)),
  (10005,.fb 5 true),
  (1000010,.op (.len [28] 3) [yh 2] [] (yh 6)),
  (1000011,.bin .gtr 3 (yh 6) (LF (.k (.int .i64 0))) (yh 7)),
  (10007,.fb 7 false),
  (1000015,.bin .eql 3 (yh 0) (LF (.k (.int .i64 1))) (yh 8)),
  (10008,.fb 8 true),
  (1000019,.call ⟨40,[yh 1],[],yh 9,[]⟩),
  (1000020,.un .not (yh 9) (yh 10)),
  (10010,.fb 10 false),
  (1000025,.bin .eql 3 (yh 0) (LF (.k (.int .i64 2))) (yh 11)),
  (10011,.fb 11 true),
  (1000029,.bin .lss 3 (yh 1) (LF (.k (.int .i64 0))) (yh 12)),
  (10012,.fb 12 false),
  (1000034,.op (.min [3,3] 3) [yh 3,LF (.k (.int .i64 4))] [] (yh 13)),
  (1000035,.bin .geq 3 (yh 1) (yh 13) (yh 14)),
  (10014,.fb 14 false)]) (k:=⟨57,[.o (.g [.h 0,.h 1,.h 2]),yh 3],[],.o (.c (.k (.int .i64 0))),[]⟩) 0 (zg ⟨za,za,(ze (zf rfl)),za,za,za,za,za,za,za,za,za,za,za,za,trivial⟩) ⟨e_bin (zb rfl) zd (zb rfl) (r_cmp (congrArg some e1)),
  e_fbv h2,
  e_bin (zb rfl) zd (zb rfl) (r_cmp (congrArg some e3)),
  e_fbv h4,
  zn (E:=31) (by kernel_rfl) (zc rfl) (zb (by rw [← e5];rfl)),
  e_bin (zb rfl) zd (zb rfl) (r_cmp (congrArg some e6)),
  e_fbv h7,
  e_bin (zb rfl) zd (zb rfl) (r_cmp (congrArg some e8)),
  e_fbv h9,
  zh (zW e.n v10 e10),
  e_un (zb rfl) (zb rfl) (fun W=>by rw [← e11];exact r_not W),
  e_fbv h12,
  e_bin (zb rfl) zd (zb rfl) (r_cmp (congrArg some e13)),
  e_fbv h14,
  e_bin (zb rfl) zd (zb rfl) (r_cmp (congrArg some e15)),
  e_fbv h16,
  e_op2 (zb rfl) zd (zb rfl) (fun W=>by rw [← e17];exact zaB W),
  e_bin (zb rfl) (zb rfl) (zb rfl) (r_cmp (congrArg some e18)),
  e_fbv h19,
  trivial⟩ mixed (by kernel_rfl))
theorem zfe {w0:World} (e:Xp) (a:Int) (v1:Bool) (v3:Bool) (v5:Int) (v6:Bool) (v8:Bool) (v10:Bool) (v11:Bool) (v13:Bool) (e1:((e.op == (1:Int)))=v1) (e3:((e.op == (2:Int)))=v3) (e5:((e.l.length:Int))=v5) (e6:(decide (v5 > (0:Int)))=v6) (e8:((e.op == (1:Int)))=v8) (e10:(valB e.n)=v10) (e11:(!v10)=v11) (e13:((e.op == (2:Int)))=v13) (h2:v1=false) (h4:v3=true) (h7:v6=false) (h9:v8=true) (h12:v11=false) (h14:v13=false):Fun (KN w0) Tryd.prog 57 [.o (.g [pI e.op,pI e.n,pLs cE e.l]),.o (.c (pI a))] (.o (.c (pV (.int .i64 0)))):=
 zi (zk (F:=FL [pI e.op,pI e.n,pLs cE e.l,pI a,pB v1,pB v3,pI v5,pB v6,pB v8,pB v10,pB v11,pB v13] []) (C:=[(1000004,.bin .eql 3 (yh 0) (LF (.k (.int .i64 1))) (yh 4)),
  (10004,.fb 4 false),
  (1000006,.bin .eql 3 (yh 0) (LF (.k (.int .i64 2))) (yh 5)),
  (10005,.fb 5 true),
  (1000010,.op (.len [28] 3) [yh 2] [] (yh 6)),
  (1000011,.bin .gtr 3 (yh 6) (LF (.k (.int .i64 0))) (yh 7)),
  (10007,.fb 7 false),
  (1000015,.bin .eql 3 (yh 0) (LF (.k (.int .i64 1))) (yh 8)),
  (10008,.fb 8 true),
  (1000019,.call ⟨40,[yh 1],[],yh 9,[]⟩),
  (1000020,.un .not (yh 9) (yh 10)),
  (10010,.fb 10 false),
  (1000025,.bin .eql 3 (yh 0) (LF (.k (.int .i64 2))) (yh 11)),
  (10011,.fb 11 false)]) (k:=⟨57,[.o (.g [.h 0,.h 1,.h 2]),yh 3],[],.o (.c (.k (.int .i64 0))),[]⟩) 0 (zg ⟨za,za,(ze (zf rfl)),za,za,za,za,za,za,za,za,za,trivial⟩) ⟨e_bin (zb rfl) zd (zb rfl) (r_cmp (congrArg some e1)),
  e_fbv h2,
  e_bin (zb rfl) zd (zb rfl) (r_cmp (congrArg some e3)),
  e_fbv h4,
  zn (E:=31) (by kernel_rfl) (zc rfl) (zb (by rw [← e5];rfl)),
  e_bin (zb rfl) zd (zb rfl) (r_cmp (congrArg some e6)),
  e_fbv h7,
  e_bin (zb rfl) zd (zb rfl) (r_cmp (congrArg some e8)),
  e_fbv h9,
  zh (zW e.n v10 e10),
  e_un (zb rfl) (zb rfl) (fun W=>by rw [← e11];exact r_not W),
  e_fbv h12,
  e_bin (zb rfl) zd (zb rfl) (r_cmp (congrArg some e13)),
  e_fbv h14,
  trivial⟩ mixed (by kernel_rfl))
theorem zff {w0:World} (e:Xp) (a:Int) (v1:Bool) (v3:Bool) (v5:Int) (v6:Bool) (v8:Bool) (v10:Bool) (v12:Bool) (e1:((e.op == (1:Int)))=v1) (e3:((e.op == (2:Int)))=v3) (e5:((e.l.length:Int))=v5) (e6:(decide (v5 > (0:Int)))=v6) (e8:((e.op == (1:Int)))=v8) (e10:((e.op == (2:Int)))=v10) (e12:(decide (e.n<(0:Int)))=v12) (h2:v1=false) (h4:v3=true) (h7:v6=false) (h9:v8=false) (h11:v10=true) (h13:v12=true):Fun (KN w0) Tryd.prog 57 [.o (.g [pI e.op,pI e.n,pLs cE e.l]),.o (.c (pI a))] (.o (.c (pV (.int .i64 1)))):=
 zi (zk (F:=FL [pI e.op,pI e.n,pLs cE e.l,pI a,pB v1,pB v3,pI v5,pB v6,pB v8,pB v10,pB v12] []) (C:=[(1000004,.bin .eql 3 (yh 0) (LF (.k (.int .i64 1))) (yh 4)),
  (10004,.fb 4 false),
  (1000006,.bin .eql 3 (yh 0) (LF (.k (.int .i64 2))) (yh 5)),
  (10005,.fb 5 true),
  (1000010,.op (.len [28] 3) [yh 2] [] (yh 6)),
  (1000011,.bin .gtr 3 (yh 6) (LF (.k (.int .i64 0))) (yh 7)),
  (10007,.fb 7 false),
  (1000015,.bin .eql 3 (yh 0) (LF (.k (.int .i64 1))) (yh 8)),
  (10008,.fb 8 false),
  (1000025,.bin .eql 3 (yh 0) (LF (.k (.int .i64 2))) (yh 9)),
  (10009,.fb 9 true),
  (1000029,.bin .lss 3 (yh 1) (LF (.k (.int .i64 0))) (yh 10)),
  (10010,.fb 10 true)]) (k:=⟨57,[.o (.g [.h 0,.h 1,.h 2]),yh 3],[],.o (.c (.k (.int .i64 1))),[]⟩) 0 (zg ⟨za,za,(ze (zf rfl)),za,za,za,za,za,za,za,za,trivial⟩) ⟨e_bin (zb rfl) zd (zb rfl) (r_cmp (congrArg some e1)),
  e_fbv h2,
  e_bin (zb rfl) zd (zb rfl) (r_cmp (congrArg some e3)),
  e_fbv h4,
  zn (E:=31) (by kernel_rfl) (zc rfl) (zb (by rw [← e5];rfl)),
  e_bin (zb rfl) zd (zb rfl) (r_cmp (congrArg some e6)),
  e_fbv h7,
  e_bin (zb rfl) zd (zb rfl) (r_cmp (congrArg some e8)),
  e_fbv h9,
  e_bin (zb rfl) zd (zb rfl) (r_cmp (congrArg some e10)),
  e_fbv h11,
  e_bin (zb rfl) zd (zb rfl) (r_cmp (congrArg some e12)),
  e_fbv h13,
  trivial⟩ mixed (by kernel_rfl))
theorem zfg {w0:World} (e:Xp) (a:Int) (v1:Bool) (v3:Bool) (v5:Int) (v6:Bool) (v8:Bool) (v10:Bool) (v12:Bool) (v14:Int) (v15:Bool) (e1:((e.op == (1:Int)))=v1) (e3:((e.op == (2:Int)))=v3) (e5:((e.l.length:Int))=v5) (e6:(decide (v5 > (0:Int)))=v6) (e8:((e.op == (1:Int)))=v8) (e10:((e.op == (2:Int)))=v10) (e12:(decide (e.n<(0:Int)))=v12) (e14:((if (4:Int)<a then (4:Int) else a))=v14) (e15:(decide (e.n ≥ v14))=v15) (h2:v1=false) (h4:v3=true) (h7:v6=false) (h9:v8=false) (h11:v10=true) (h13:v12=false) (h16:v15=true):Fun (KN w0) Tryd.prog 57 [.o (.g [pI e.op,pI e.n,pLs cE e.l]),.o (.c (pI a))] (.o (.c (pV (.int .i64 1)))):=
 zi (zk (F:=FL [pI e.op,pI e.n,pLs cE e.l,pI a,pB v1,pB v3,pI v5,pB v6,pB v8,pB v10,pB v12,pI v14,pB v15] []) (C:=[(1000004,.bin .eql 3 (yh 0) (LF (.k (.int .i64 1))) (yh 4)),
  (10004,.fb 4 false),
  (1000006,.bin .eql 3 (yh 0) (LF (.k (.int .i64 2))) (yh 5)),
  (10005,.fb 5 true),
  (1000010,.op (.len [28] 3) [yh 2] [] (yh 6)),
  (1000011,.bin .gtr 3 (yh 6) (LF (.k (.int .i64 0))) (yh 7)),
  (10007,.fb 7 false),
  (1000015,.bin .eql 3 (yh 0) (LF (.k (.int .i64 1))) (yh 8)),
  (10008,.fb 8 false),
  (1000025,.bin .eql 3 (yh 0) (LF (.k (.int .i64 2))) (yh 9)),
  (10009,.fb 9 true),
  (1000029,.bin .lss 3 (yh 1) (LF (.k (.int .i64 0))) (yh 10)),
  (10010,.fb 10 false),
  (1000034,.op (.min [3,3] 3) [yh 3,LF (.k (.int .i64 4))] [] (yh 11)),
  (1000035,.bin .geq 3 (yh 1) (yh 11) (yh 12)),
  (10012,.fb 12 true)]) (k:=⟨57,[.o (.g [.h 0,.h 1,.h 2]),yh 3],[],.o (.c (.k (.int .i64 1))),[]⟩) 0 (zg ⟨za,za,(ze (zf rfl)),za,za,za,za,za,za,za,za,za,za,trivial⟩) ⟨e_bin (zb rfl) zd (zb rfl) (r_cmp (congrArg some e1)),
  e_fbv h2,
  e_bin (zb rfl) zd (zb rfl) (r_cmp (congrArg some e3)),
  e_fbv h4,
  zn (E:=31) (by kernel_rfl) (zc rfl) (zb (by rw [← e5];rfl)),
  e_bin (zb rfl) zd (zb rfl) (r_cmp (congrArg some e6)),
  e_fbv h7,
  e_bin (zb rfl) zd (zb rfl) (r_cmp (congrArg some e8)),
  e_fbv h9,
  e_bin (zb rfl) zd (zb rfl) (r_cmp (congrArg some e10)),
  e_fbv h11,
  e_bin (zb rfl) zd (zb rfl) (r_cmp (congrArg some e12)),
  e_fbv h13,
  e_op2 (zb rfl) zd (zb rfl) (fun W=>by rw [← e14];exact zaB W),
  e_bin (zb rfl) (zb rfl) (zb rfl) (r_cmp (congrArg some e15)),
  e_fbv h16,
  trivial⟩ mixed (by kernel_rfl))
theorem zfh {w0:World} (e:Xp) (a:Int) (v1:Bool) (v3:Bool) (v5:Int) (v6:Bool) (v8:Bool) (v10:Bool) (v12:Bool) (v14:Int) (v15:Bool) (e1:((e.op == (1:Int)))=v1) (e3:((e.op == (2:Int)))=v3) (e5:((e.l.length:Int))=v5) (e6:(decide (v5 > (0:Int)))=v6) (e8:((e.op == (1:Int)))=v8) (e10:((e.op == (2:Int)))=v10) (e12:(decide (e.n<(0:Int)))=v12) (e14:((if (4:Int)<a then (4:Int) else a))=v14) (e15:(decide (e.n ≥ v14))=v15) (h2:v1=false) (h4:v3=true) (h7:v6=false) (h9:v8=false) (h11:v10=true) (h13:v12=false) (h16:v15=false):Fun (KN w0) Tryd.prog 57 [.o (.g [pI e.op,pI e.n,pLs cE e.l]),.o (.c (pI a))] (.o (.c (pV (.int .i64 0)))):=
 zi (zk (F:=FL [pI e.op,pI e.n,pLs cE e.l,pI a,pB v1,pB v3,pI v5,pB v6,pB v8,pB v10,pB v12,pI v14,pB v15] []) (C:=[(1000004,.bin .eql 3 (yh 0) (LF (.k (.int .i64 1))) (yh 4)),
  (10004,.fb 4 false),
  (1000006,.bin .eql 3 (yh 0) (LF (.k (.int .i64 2))) (yh 5)),
  (10005,.fb 5 true),
  (1000010,.op (.len [28] 3) [yh 2] [] (yh 6)),
  (1000011,.bin .gtr 3 (yh 6) (LF (.k (.int .i64 0))) (yh 7)),
  (10007,.fb 7 false),
  (1000015,.bin .eql 3 (yh 0) (LF (.k (.int .i64 1))) (yh 8)),
  (10008,.fb 8 false),
  (1000025,.bin .eql 3 (yh 0) (LF (.k (.int .i64 2))) (yh 9)),
  (10009,.fb 9 true),
  (1000029,.bin .lss 3 (yh 1) (LF (.k (.int .i64 0))) (yh 10)),
  (10010,.fb 10 false),
  (1000034,.op (.min [3,3] 3) [yh 3,LF (.k (.int .i64 4))] [] (yh 11)),
  (1000035,.bin .geq 3 (yh 1) (yh 11) (yh 12)),
  (10012,.fb 12 false)]) (k:=⟨57,[.o (.g [.h 0,.h 1,.h 2]),yh 3],[],.o (.c (.k (.int .i64 0))),[]⟩) 0 (zg ⟨za,za,(ze (zf rfl)),za,za,za,za,za,za,za,za,za,za,trivial⟩) ⟨e_bin (zb rfl) zd (zb rfl) (r_cmp (congrArg some e1)),
  e_fbv h2,
  e_bin (zb rfl) zd (zb rfl) (r_cmp (congrArg some e3)),
  e_fbv h4,
  zn (E:=31) (by kernel_rfl) (zc rfl) (zb (by rw [← e5];rfl)),
  e_bin (zb rfl) zd (zb rfl) (r_cmp (congrArg some e6)),
  e_fbv h7,
  e_bin (zb rfl) zd (zb rfl) (r_cmp (congrArg some e8)),
  e_fbv h9,
  e_bin (zb rfl) zd (zb rfl) (r_cmp (congrArg some e10)),
  e_fbv h11,
  e_bin (zb rfl) zd (zb rfl) (r_cmp (congrArg some e12)),
  e_fbv h13,
  e_op2 (zb rfl) zd (zb rfl) (fun W=>by rw [← e14];exact zaB W),
  e_bin (zb rfl) (zb rfl) (zb rfl) (r_cmp (congrArg some e15)),
  e_fbv h16,
  trivial⟩ mixed (by kernel_rfl))
theorem zfi {w0:World} (e:Xp) (a:Int) (v1:Bool) (v3:Bool) (v5:Int) (v6:Bool) (v8:Bool) (v10:Bool) (e1:((e.op == (1:Int)))=v1) (e3:((e.op == (2:Int)))=v3) (e5:((e.l.length:Int))=v5) (e6:(decide (v5 > (0:Int)))=v6) (e8:((e.op == (1:Int)))=v8) (e10:((e.op == (2:Int)))=v10) (h2:v1=false) (h4:v3=true) (h7:v6=false) (h9:v8=false) (h11:v10=false):Fun (KN w0) Tryd.prog 57 [.o (.g [pI e.op,pI e.n,pLs cE e.l]),.o (.c (pI a))] (.o (.c (pV (.int .i64 0)))):=
 zi (zk (F:=FL [pI e.op,pI e.n,pLs cE e.l,pI a,pB v1,pB v3,pI v5,pB v6,pB v8,pB v10] []) (C:=[(1000004,.bin .eql 3 (yh 0) (LF (.k (.int .i64 1))) (yh 4)),
  (10004,.fb 4 false),
  (1000006,.bin .eql 3 (yh 0) (LF (.k (.int .i64 2))) (yh 5)),
  (10005,.fb 5 true),
  (1000010,.op (.len [28] 3) [yh 2] [] (yh 6)),
  (1000011,.bin .gtr 3 (yh 6) (LF (.k (.int .i64 0))) (yh 7)),
  (10007,.fb 7 false),
  (1000015,.bin .eql 3 (yh 0) (LF (.k (.int .i64 1))) (yh 8)),
  (10008,.fb 8 false),
  (1000025,.bin .eql 3 (yh 0) (LF (.k (.int .i64 2))) (yh 9)),
  (10009,.fb 9 false)]) (k:=⟨57,[.o (.g [.h 0,.h 1,.h 2]),yh 3],[],.o (.c (.k (.int .i64 0))),[]⟩) 0 (zg ⟨za,za,(ze (zf rfl)),za,za,za,za,za,za,za,trivial⟩) ⟨e_bin (zb rfl) zd (zb rfl) (r_cmp (congrArg some e1)),
  e_fbv h2,
  e_bin (zb rfl) zd (zb rfl) (r_cmp (congrArg some e3)),
  e_fbv h4,
  zn (E:=31) (by kernel_rfl) (zc rfl) (zb (by rw [← e5];rfl)),
  e_bin (zb rfl) zd (zb rfl) (r_cmp (congrArg some e6)),
  e_fbv h7,
  e_bin (zb rfl) zd (zb rfl) (r_cmp (congrArg some e8)),
  e_fbv h9,
  e_bin (zb rfl) zd (zb rfl) (r_cmp (congrArg some e10)),
  e_fbv h11,
  trivial⟩ mixed (by kernel_rfl))
theorem zfj {w0:World} (e:Xp) (a:Int) (v1:Bool) (v3:Bool) (v5:Bool) (v7:Int) (v8:Bool) (v10:Bool) (e1:((e.op == (1:Int)))=v1) (e3:((e.op == (2:Int)))=v3) (e5:((e.op == (3:Int)))=v5) (e7:((e.l.length:Int))=v7) (e8:((v7 == (2:Int)))=v8) (e10:((e.n == (0:Int)))=v10) (h2:v1=false) (h4:v3=false) (h6:v5=true) (h9:v8=true) (h11:v10=true):Fun (KN w0) Tryd.prog 57 [.o (.g [pI e.op,pI e.n,pLs cE e.l]),.o (.c (pI a))] (.o (.c (pV (.int .i64 0)))):=
 zi (zk (F:=FL [pI e.op,pI e.n,pLs cE e.l,pI a,pB v1,pB v3,pB v5,pI v7,pB v8,pB v10] []) (C:=[(1000004,.bin .eql 3 (yh 0) (LF (.k (.int .i64 1))) (yh 4)),
  (10004,.fb 4 false),
  (1000006,.bin .eql 3 (yh 0) (LF (.k (.int .i64 2))) (yh 5)),
  (10005,.fb 5 false),
  (1000008,.bin .eql 3 (yh 0) (LF (.k (.int .i64 3))) (yh 6)),
  (10006,.fb 6 true),
  (1000012,.op (.len [28] 3) [yh 2] [] (yh 7)),
  (1000013,.bin .eql 3 (yh 7) (LF (.k (.int .i64 2))) (yh 8)),
  (10008,.fb 8 true),
  (1000017,.bin .eql 3 (yh 1) (LF (.k (.int .i64 0))) (yh 9)),
  (10009,.fb 9 true)]) (k:=⟨57,[.o (.g [.h 0,.h 1,.h 2]),yh 3],[],.o (.c (.k (.int .i64 0))),[]⟩) 0 (zg ⟨za,za,(ze (zf rfl)),za,za,za,za,za,za,za,trivial⟩) ⟨e_bin (zb rfl) zd (zb rfl) (r_cmp (congrArg some e1)),
  e_fbv h2,
  e_bin (zb rfl) zd (zb rfl) (r_cmp (congrArg some e3)),
  e_fbv h4,
  e_bin (zb rfl) zd (zb rfl) (r_cmp (congrArg some e5)),
  e_fbv h6,
  zn (E:=31) (by kernel_rfl) (zc rfl) (zb (by rw [← e7];rfl)),
  e_bin (zb rfl) zd (zb rfl) (r_cmp (congrArg some e8)),
  e_fbv h9,
  e_bin (zb rfl) zd (zb rfl) (r_cmp (congrArg some e10)),
  e_fbv h11,
  trivial⟩ mixed (by kernel_rfl))
theorem zfk {w0:World} (e:Xp) (a:Int) (v1:Bool) (v3:Bool) (v5:Bool) (v7:Int) (v8:Bool) (v10:Bool) (e1:((e.op == (1:Int)))=v1) (e3:((e.op == (2:Int)))=v3) (e5:((e.op == (3:Int)))=v5) (e7:((e.l.length:Int))=v7) (e8:((v7 == (2:Int)))=v8) (e10:((e.n == (0:Int)))=v10) (h2:v1=false) (h4:v3=false) (h6:v5=true) (h9:v8=true) (h11:v10=false):Fun (KN w0) Tryd.prog 57 [.o (.g [pI e.op,pI e.n,pLs cE e.l]),.o (.c (pI a))] (.o (.c (pV (.int .i64 4)))):=
 zi (zk (F:=FL [pI e.op,pI e.n,pLs cE e.l,pI a,pB v1,pB v3,pB v5,pI v7,pB v8,pB v10] []) (C:=[(1000004,.bin .eql 3 (yh 0) (LF (.k (.int .i64 1))) (yh 4)),
  (10004,.fb 4 false),
  (1000006,.bin .eql 3 (yh 0) (LF (.k (.int .i64 2))) (yh 5)),
  (10005,.fb 5 false),
  (1000008,.bin .eql 3 (yh 0) (LF (.k (.int .i64 3))) (yh 6)),
  (10006,.fb 6 true),
  (1000012,.op (.len [28] 3) [yh 2] [] (yh 7)),
  (1000013,.bin .eql 3 (yh 7) (LF (.k (.int .i64 2))) (yh 8)),
  (10008,.fb 8 true),
  (1000017,.bin .eql 3 (yh 1) (LF (.k (.int .i64 0))) (yh 9)),
  (10009,.fb 9 false)]) (k:=⟨57,[.o (.g [.h 0,.h 1,.h 2]),yh 3],[],.o (.c (.k (.int .i64 4))),[]⟩) 0 (zg ⟨za,za,(ze (zf rfl)),za,za,za,za,za,za,za,trivial⟩) ⟨e_bin (zb rfl) zd (zb rfl) (r_cmp (congrArg some e1)),
  e_fbv h2,
  e_bin (zb rfl) zd (zb rfl) (r_cmp (congrArg some e3)),
  e_fbv h4,
  e_bin (zb rfl) zd (zb rfl) (r_cmp (congrArg some e5)),
  e_fbv h6,
  zn (E:=31) (by kernel_rfl) (zc rfl) (zb (by rw [← e7];rfl)),
  e_bin (zb rfl) zd (zb rfl) (r_cmp (congrArg some e8)),
  e_fbv h9,
  e_bin (zb rfl) zd (zb rfl) (r_cmp (congrArg some e10)),
  e_fbv h11,
  trivial⟩ mixed (by kernel_rfl))
theorem zfl {w0:World} (e:Xp) (a:Int) (v1:Bool) (v3:Bool) (v5:Bool) (v7:Int) (v8:Bool) (e1:((e.op == (1:Int)))=v1) (e3:((e.op == (2:Int)))=v3) (e5:((e.op == (3:Int)))=v5) (e7:((e.l.length:Int))=v7) (e8:((v7 == (2:Int)))=v8) (h2:v1=false) (h4:v3=false) (h6:v5=true) (h9:v8=false):Fun (KN w0) Tryd.prog 57 [.o (.g [pI e.op,pI e.n,pLs cE e.l]),.o (.c (pI a))] (.o (.c (pV (.int .i64 4)))):=
 zi (zk (F:=FL [pI e.op,pI e.n,pLs cE e.l,pI a,pB v1,pB v3,pB v5,pI v7,pB v8] []) (C:=[(1000004,.bin .eql 3 (yh 0) (LF (.k (.int .i64 1))) (yh 4)),
  (10004,.fb 4 false),
  (1000006,.bin .eql 3 (yh 0) (LF (.k (.int .i64 2))) (yh 5)),
  (10005,.fb 5 false),
  (1000008,.bin .eql 3 (yh 0) (LF (.k (.int .i64 3))) (yh 6)),
  (10006,.fb 6 true),
  (1000012,.op (.len [28] 3) [yh 2] [] (yh 7)),
  (1000013,.bin .eql 3 (yh 7) (LF (.k (.int .i64 2))) (yh 8)),
  (10008,.fb 8 false)]) (k:=⟨57,[.o (.g [.h 0,.h 1,.h 2]),yh 3],[],.o (.c (.k (.int .i64 4))),[]⟩) 0 (zg ⟨za,za,(ze (zf rfl)),za,za,za,za,za,za,trivial⟩) ⟨e_bin (zb rfl) zd (zb rfl) (r_cmp (congrArg some e1)),
  e_fbv h2,
  e_bin (zb rfl) zd (zb rfl) (r_cmp (congrArg some e3)),
  e_fbv h4,
  e_bin (zb rfl) zd (zb rfl) (r_cmp (congrArg some e5)),
  e_fbv h6,
  zn (E:=31) (by kernel_rfl) (zc rfl) (zb (by rw [← e7];rfl)),
  e_bin (zb rfl) zd (zb rfl) (r_cmp (congrArg some e8)),
  e_fbv h9,
  trivial⟩ mixed (by kernel_rfl))
theorem zfm {w0:World} (e:Xp) (a:Int) (v1:Bool) (v3:Bool) (v5:Bool) (v7:Bool) (v9:Int) (v10:Bool) (v12:Bool) (e1:((e.op == (1:Int)))=v1) (e3:((e.op == (2:Int)))=v3) (e5:((e.op == (3:Int)))=v5) (e7:((e.op == (4:Int)))=v7) (e9:((e.l.length:Int))=v9) (e10:((v9 == (2:Int)))=v10) (e12:((e.n == (0:Int)))=v12) (h2:v1=false) (h4:v3=false) (h6:v5=false) (h8:v7=true) (h11:v10=true) (h13:v12=true):Fun (KN w0) Tryd.prog 57 [.o (.g [pI e.op,pI e.n,pLs cE e.l]),.o (.c (pI a))] (.o (.c (pV (.int .i64 0)))):=
 zi (zk (F:=FL [pI e.op,pI e.n,pLs cE e.l,pI a,pB v1,pB v3,pB v5,pB v7,pI v9,pB v10,pB v12] []) (C:=[(1000004,.bin .eql 3 (yh 0) (LF (.k (.int .i64 1))) (yh 4)),
  (10004,.fb 4 false),
  (1000006,.bin .eql 3 (yh 0) (LF (.k (.int .i64 2))) (yh 5)),
  (10005,.fb 5 false),
  (1000008,.bin .eql 3 (yh 0) (LF (.k (.int .i64 3))) (yh 6)),
  (10006,.fb 6 false),
  (1000010,.bin .eql 3 (yh 0) (LF (.k (.int .i64 4))) (yh 7)),
  (10007,.fb 7 true),
  (1000014,.op (.len [28] 3) [yh 2] [] (yh 8)),
  (1000015,.bin .eql 3 (yh 8) (LF (.k (.int .i64 2))) (yh 9)),
  (10009,.fb 9 true),
  (1000019,.bin .eql 3 (yh 1) (LF (.k (.int .i64 0))) (yh 10)),
  (10010,.fb 10 true)]) (k:=⟨57,[.o (.g [.h 0,.h 1,.h 2]),yh 3],[],.o (.c (.k (.int .i64 0))),[]⟩) 0 (zg ⟨za,za,(ze (zf rfl)),za,za,za,za,za,za,za,za,trivial⟩) ⟨e_bin (zb rfl) zd (zb rfl) (r_cmp (congrArg some e1)),
  e_fbv h2,
  e_bin (zb rfl) zd (zb rfl) (r_cmp (congrArg some e3)),
  e_fbv h4,
  e_bin (zb rfl) zd (zb rfl) (r_cmp (congrArg some e5)),
  e_fbv h6,
  e_bin (zb rfl) zd (zb rfl) (r_cmp (congrArg some e7)),
  e_fbv h8,
  zn (E:=31) (by kernel_rfl) (zc rfl) (zb (by rw [← e9];rfl)),
  e_bin (zb rfl) zd (zb rfl) (r_cmp (congrArg some e10)),
  e_fbv h11,
  e_bin (zb rfl) zd (zb rfl) (r_cmp (congrArg some e12)),
  e_fbv h13,
  trivial⟩ mixed (by kernel_rfl))
theorem zfn {w0:World} (e:Xp) (a:Int) (v1:Bool) (v3:Bool) (v5:Bool) (v7:Bool) (v9:Int) (v10:Bool) (v12:Bool) (e1:((e.op == (1:Int)))=v1) (e3:((e.op == (2:Int)))=v3) (e5:((e.op == (3:Int)))=v5) (e7:((e.op == (4:Int)))=v7) (e9:((e.l.length:Int))=v9) (e10:((v9 == (2:Int)))=v10) (e12:((e.n == (0:Int)))=v12) (h2:v1=false) (h4:v3=false) (h6:v5=false) (h8:v7=true) (h11:v10=true) (h13:v12=false):Fun (KN w0) Tryd.prog 57 [.o (.g [pI e.op,pI e.n,pLs cE e.l]),.o (.c (pI a))] (.o (.c (pV (.int .i64 4)))):=
 zi (zk (F:=FL [pI e.op,pI e.n,pLs cE e.l,pI a,pB v1,pB v3,pB v5,pB v7,pI v9,pB v10,pB v12] []) (C:=[(1000004,.bin .eql 3 (yh 0) (LF (.k (.int .i64 1))) (yh 4)),
  (10004,.fb 4 false),
  (1000006,.bin .eql 3 (yh 0) (LF (.k (.int .i64 2))) (yh 5)),
  (10005,.fb 5 false),
  (1000008,.bin .eql 3 (yh 0) (LF (.k (.int .i64 3))) (yh 6)),
  (10006,.fb 6 false),
  (1000010,.bin .eql 3 (yh 0) (LF (.k (.int .i64 4))) (yh 7)),
  (10007,.fb 7 true),
  (1000014,.op (.len [28] 3) [yh 2] [] (yh 8)),
  (1000015,.bin .eql 3 (yh 8) (LF (.k (.int .i64 2))) (yh 9)),
  (10009,.fb 9 true),
  (1000019,.bin .eql 3 (yh 1) (LF (.k (.int .i64 0))) (yh 10)),
  (10010,.fb 10 false)]) (k:=⟨57,[.o (.g [.h 0,.h 1,.h 2]),yh 3],[],.o (.c (.k (.int .i64 4))),[]⟩) 0 (zg ⟨za,za,(ze (zf rfl)),za,za,za,za,za,za,za,za,trivial⟩) ⟨e_bin (zb rfl) zd (zb rfl) (r_cmp (congrArg some e1)),
  e_fbv h2,
  e_bin (zb rfl) zd (zb rfl) (r_cmp (congrArg some e3)),
  e_fbv h4,
  e_bin (zb rfl) zd (zb rfl) (r_cmp (congrArg some e5)),
  e_fbv h6,
  e_bin (zb rfl) zd (zb rfl) (r_cmp (congrArg some e7)),
  e_fbv h8,
  zn (E:=31) (by kernel_rfl) (zc rfl) (zb (by rw [← e9];rfl)),
  e_bin (zb rfl) zd (zb rfl) (r_cmp (congrArg some e10)),
  e_fbv h11,
  e_bin (zb rfl) zd (zb rfl) (r_cmp (congrArg some e12)),
  e_fbv h13,
  trivial⟩ mixed (by kernel_rfl))
theorem zfo {w0:World} (e:Xp) (a:Int) (v1:Bool) (v3:Bool) (v5:Bool) (v7:Bool) (v9:Int) (v10:Bool) (e1:((e.op == (1:Int)))=v1) (e3:((e.op == (2:Int)))=v3) (e5:((e.op == (3:Int)))=v5) (e7:((e.op == (4:Int)))=v7) (e9:((e.l.length:Int))=v9) (e10:((v9 == (2:Int)))=v10) (h2:v1=false) (h4:v3=false) (h6:v5=false) (h8:v7=true) (h11:v10=false):Fun (KN w0) Tryd.prog 57 [.o (.g [pI e.op,pI e.n,pLs cE e.l]),.o (.c (pI a))] (.o (.c (pV (.int .i64 4)))):=
 zi (zk (F:=FL [pI e.op,pI e.n,pLs cE e.l,pI a,pB v1,pB v3,pB v5,pB v7,pI v9,pB v10] []) (C:=[(1000004,.bin .eql 3 (yh 0) (LF (.k (.int .i64 1))) (yh 4)),
  (10004,.fb 4 false),
  (1000006,.bin .eql 3 (yh 0) (LF (.k (.int .i64 2))) (yh 5)),
  (10005,.fb 5 false),
  (1000008,.bin .eql 3 (yh 0) (LF (.k (.int .i64 3))) (yh 6)),
  (10006,.fb 6 false),
  (1000010,.bin .eql 3 (yh 0) (LF (.k (.int .i64 4))) (yh 7)),
  (10007,.fb 7 true),
  (1000014,.op (.len [28] 3) [yh 2] [] (yh 8)),
  (1000015,.bin .eql 3 (yh 8) (LF (.k (.int .i64 2))) (yh 9)),
  (10009,.fb 9 false)]) (k:=⟨57,[.o (.g [.h 0,.h 1,.h 2]),yh 3],[],.o (.c (.k (.int .i64 4))),[]⟩) 0 (zg ⟨za,za,(ze (zf rfl)),za,za,za,za,za,za,za,trivial⟩) ⟨e_bin (zb rfl) zd (zb rfl) (r_cmp (congrArg some e1)),
  e_fbv h2,
  e_bin (zb rfl) zd (zb rfl) (r_cmp (congrArg some e3)),
  e_fbv h4,
  e_bin (zb rfl) zd (zb rfl) (r_cmp (congrArg some e5)),
  e_fbv h6,
  e_bin (zb rfl) zd (zb rfl) (r_cmp (congrArg some e7)),
  e_fbv h8,
  zn (E:=31) (by kernel_rfl) (zc rfl) (zb (by rw [← e9];rfl)),
  e_bin (zb rfl) zd (zb rfl) (r_cmp (congrArg some e10)),
  e_fbv h11,
  trivial⟩ mixed (by kernel_rfl))
theorem zfp {w0:World} (e:Xp) (a:Int) (v1:Bool) (v3:Bool) (v5:Bool) (v7:Bool) (v9:Bool) (v11:Int) (v12:Bool) (v14:Bool) (e1:((e.op == (1:Int)))=v1) (e3:((e.op == (2:Int)))=v3) (e5:((e.op == (3:Int)))=v5) (e7:((e.op == (4:Int)))=v7) (e9:((e.op == (5:Int)))=v9) (e11:((e.l.length:Int))=v11) (e12:((v11 == (2:Int)))=v12) (e14:((e.n == (0:Int)))=v14) (h2:v1=false) (h4:v3=false) (h6:v5=false) (h8:v7=false) (h10:v9=true) (h13:v12=true) (h15:v14=true):Fun (KN w0) Tryd.prog 57 [.o (.g [pI e.op,pI e.n,pLs cE e.l]),.o (.c (pI a))] (.o (.c (pV (.int .i64 0)))):=
 zi (zk (F:=FL [pI e.op,pI e.n,pLs cE e.l,pI a,pB v1,pB v3,pB v5,pB v7,pB v9,pI v11,pB v12,pB v14] []) (C:=[(1000004,.bin .eql 3 (yh 0) (LF (.k (.int .i64 1))) (yh 4)),
  (10004,.fb 4 false),
  (1000006,.bin .eql 3 (yh 0) (LF (.k (.int .i64 2))) (yh 5)),
  (10005,.fb 5 false),
  (1000008,.bin .eql 3 (yh 0) (LF (.k (.int .i64 3))) (yh 6)),
  (10006,.fb 6 false),
  (1000010,.bin .eql 3 (yh 0) (LF (.k (.int .i64 4))) (yh 7)),
  (10007,.fb 7 false),
  (1000012,.bin .eql 3 (yh 0) (LF (.k (.int .i64 5))) (yh 8)),
  (10008,.fb 8 true),
  (1000016,.op (.len [28] 3) [yh 2] [] (yh 9)),
  (1000017,.bin .eql 3 (yh 9) (LF (.k (.int .i64 2))) (yh 10)),
  (10010,.fb 10 true),
  (1000021,.bin .eql 3 (yh 1) (LF (.k (.int .i64 0))) (yh 11)),
  (10011,.fb 11 true)]) (k:=⟨57,[.o (.g [.h 0,.h 1,.h 2]),yh 3],[],.o (.c (.k (.int .i64 0))),[]⟩) 0 (zg ⟨za,za,(ze (zf rfl)),za,za,za,za,za,za,za,za,za,trivial⟩) ⟨e_bin (zb rfl) zd (zb rfl) (r_cmp (congrArg some e1)),
  e_fbv h2,
  e_bin (zb rfl) zd (zb rfl) (r_cmp (congrArg some e3)),
  e_fbv h4,
  e_bin (zb rfl) zd (zb rfl) (r_cmp (congrArg some e5)),
  e_fbv h6,
  e_bin (zb rfl) zd (zb rfl) (r_cmp (congrArg some e7)),
  e_fbv h8,
  e_bin (zb rfl) zd (zb rfl) (r_cmp (congrArg some e9)),
  e_fbv h10,
  zn (E:=31) (by kernel_rfl) (zc rfl) (zb (by rw [← e11];rfl)),
  e_bin (zb rfl) zd (zb rfl) (r_cmp (congrArg some e12)),
  e_fbv h13,
  e_bin (zb rfl) zd (zb rfl) (r_cmp (congrArg some e14)),
  e_fbv h15,
  trivial⟩ mixed (by kernel_rfl))
theorem zfq {w0:World} (e:Xp) (a:Int) (v1:Bool) (v3:Bool) (v5:Bool) (v7:Bool) (v9:Bool) (v11:Int) (v12:Bool) (v14:Bool) (e1:((e.op == (1:Int)))=v1) (e3:((e.op == (2:Int)))=v3) (e5:((e.op == (3:Int)))=v5) (e7:((e.op == (4:Int)))=v7) (e9:((e.op == (5:Int)))=v9) (e11:((e.l.length:Int))=v11) (e12:((v11 == (2:Int)))=v12) (e14:((e.n == (0:Int)))=v14) (h2:v1=false) (h4:v3=false) (h6:v5=false) (h8:v7=false) (h10:v9=true) (h13:v12=true) (h15:v14=false):Fun (KN w0) Tryd.prog 57 [.o (.g [pI e.op,pI e.n,pLs cE e.l]),.o (.c (pI a))] (.o (.c (pV (.int .i64 4)))):=
 zi (zk (F:=FL [pI e.op,pI e.n,pLs cE e.l,pI a,pB v1,pB v3,pB v5,pB v7,pB v9,pI v11,pB v12,pB v14] []) (C:=[(1000004,.bin .eql 3 (yh 0) (LF (.k (.int .i64 1))) (yh 4)),
  (10004,.fb 4 false),
  (1000006,.bin .eql 3 (yh 0) (LF (.k (.int .i64 2))) (yh 5)),
  (10005,.fb 5 false),
  (1000008,.bin .eql 3 (yh 0) (LF (.k (.int .i64 3))) (yh 6)),
  (10006,.fb 6 false),
  (1000010,.bin .eql 3 (yh 0) (LF (.k (.int .i64 4))) (yh 7)),
  (10007,.fb 7 false),
  (1000012,.bin .eql 3 (yh 0) (LF (.k (.int .i64 5))) (yh 8)),
  (10008,.fb 8 true),
  (1000016,.op (.len [28] 3) [yh 2] [] (yh 9)),
  (1000017,.bin .eql 3 (yh 9) (LF (.k (.int .i64 2))) (yh 10)),
  (10010,.fb 10 true),
  (1000021,.bin .eql 3 (yh 1) (LF (.k (.int .i64 0))) (yh 11)),
  (10011,.fb 11 false)]) (k:=⟨57,[.o (.g [.h 0,.h 1,.h 2]),yh 3],[],.o (.c (.k (.int .i64 4))),[]⟩) 0 (zg ⟨za,za,(ze (zf rfl)),za,za,za,za,za,za,za,za,za,trivial⟩) ⟨e_bin (zb rfl) zd (zb rfl) (r_cmp (congrArg some e1)),
  e_fbv h2,
  e_bin (zb rfl) zd (zb rfl) (r_cmp (congrArg some e3)),
  e_fbv h4,
  e_bin (zb rfl) zd (zb rfl) (r_cmp (congrArg some e5)),
  e_fbv h6,
  e_bin (zb rfl) zd (zb rfl) (r_cmp (congrArg some e7)),
  e_fbv h8,
  e_bin (zb rfl) zd (zb rfl) (r_cmp (congrArg some e9)),
  e_fbv h10,
  zn (E:=31) (by kernel_rfl) (zc rfl) (zb (by rw [← e11];rfl)),
  e_bin (zb rfl) zd (zb rfl) (r_cmp (congrArg some e12)),
  e_fbv h13,
  e_bin (zb rfl) zd (zb rfl) (r_cmp (congrArg some e14)),
  e_fbv h15,
  trivial⟩ mixed (by kernel_rfl))
theorem zfr {w0:World} (e:Xp) (a:Int) (v1:Bool) (v3:Bool) (v5:Bool) (v7:Bool) (v9:Bool) (v11:Int) (v12:Bool) (e1:((e.op == (1:Int)))=v1) (e3:((e.op == (2:Int)))=v3) (e5:((e.op == (3:Int)))=v5) (e7:((e.op == (4:Int)))=v7) (e9:((e.op == (5:Int)))=v9) (e11:((e.l.length:Int))=v11) (e12:((v11 == (2:Int)))=v12) (h2:v1=false) (h4:v3=false) (h6:v5=false) (h8:v7=false) (h10:v9=true) (h13:v12=false):Fun (KN w0) Tryd.prog 57 [.o (.g [pI e.op,pI e.n,pLs cE e.l]),.o (.c (pI a))] (.o (.c (pV (.int .i64 4)))):=
 zi (zk (F:=FL [pI e.op,pI e.n,pLs cE e.l,pI a,pB v1,pB v3,pB v5,pB v7,pB v9,pI v11,pB v12] []) (C:=[(1000004,.bin .eql 3 (yh 0) (LF (.k (.int .i64 1))) (yh 4)),
  (10004,.fb 4 false),
  (1000006,.bin .eql 3 (yh 0) (LF (.k (.int .i64 2))) (yh 5)),
  (10005,.fb 5 false),
  (1000008,.bin .eql 3 (yh 0) (LF (.k (.int .i64 3))) (yh 6)),
  (10006,.fb 6 false),
  (1000010,.bin .eql 3 (yh 0) (LF (.k (.int .i64 4))) (yh 7)),
  (10007,.fb 7 false),
  (1000012,.bin .eql 3 (yh 0) (LF (.k (.int .i64 5))) (yh 8)),
  (10008,.fb 8 true),
  (1000016,.op (.len [28] 3) [yh 2] [] (yh 9)),
  (1000017,.bin .eql 3 (yh 9) (LF (.k (.int .i64 2))) (yh 10)),
  (10010,.fb 10 false)]) (k:=⟨57,[.o (.g [.h 0,.h 1,.h 2]),yh 3],[],.o (.c (.k (.int .i64 4))),[]⟩) 0 (zg ⟨za,za,(ze (zf rfl)),za,za,za,za,za,za,za,za,trivial⟩) ⟨e_bin (zb rfl) zd (zb rfl) (r_cmp (congrArg some e1)),
  e_fbv h2,
  e_bin (zb rfl) zd (zb rfl) (r_cmp (congrArg some e3)),
  e_fbv h4,
  e_bin (zb rfl) zd (zb rfl) (r_cmp (congrArg some e5)),
  e_fbv h6,
  e_bin (zb rfl) zd (zb rfl) (r_cmp (congrArg some e7)),
  e_fbv h8,
  e_bin (zb rfl) zd (zb rfl) (r_cmp (congrArg some e9)),
  e_fbv h10,
  zn (E:=31) (by kernel_rfl) (zc rfl) (zb (by rw [← e11];rfl)),
  e_bin (zb rfl) zd (zb rfl) (r_cmp (congrArg some e12)),
  e_fbv h13,
  trivial⟩ mixed (by kernel_rfl))
theorem zfs {w0:World} (e:Xp) (a:Int) (v1:Bool) (v3:Bool) (v5:Bool) (v7:Bool) (v9:Bool) (v11:Bool) (v13:Int) (v14:Bool) (v16:Bool) (e1:((e.op == (1:Int)))=v1) (e3:((e.op == (2:Int)))=v3) (e5:((e.op == (3:Int)))=v5) (e7:((e.op == (4:Int)))=v7) (e9:((e.op == (5:Int)))=v9) (e11:((e.op == (6:Int)))=v11) (e13:((e.l.length:Int))=v13) (e14:((v13 == (2:Int)))=v14) (e16:((e.n == (0:Int)))=v16) (h2:v1=false) (h4:v3=false) (h6:v5=false) (h8:v7=false) (h10:v9=false) (h12:v11=true) (h15:v14=true) (h17:v16=true):Fun (KN w0) Tryd.prog 57 [.o (.g [pI e.op,pI e.n,pLs cE e.l]),.o (.c (pI a))] (.o (.c (pV (.int .i64 0)))):=
 zi (zk (F:=FL [pI e.op,pI e.n,pLs cE e.l,pI a,pB v1,pB v3,pB v5,pB v7,pB v9,pB v11,pI v13,pB v14,pB v16] []) (C:=[(1000004,.bin .eql 3 (yh 0) (LF (.k (.int .i64 1))) (yh 4)),
  (10004,.fb 4 false),
  (1000006,.bin .eql 3 (yh 0) (LF (.k (.int .i64 2))) (yh 5)),
  (10005,.fb 5 false),
  (1000008,.bin .eql 3 (yh 0) (LF (.k (.int .i64 3))) (yh 6)),
  (10006,.fb 6 false),
  (1000010,.bin .eql 3 (yh 0) (LF (.k (.int .i64 4))) (yh 7)),
  (10007,.fb 7 false),
  (1000012,.bin .eql 3 (yh 0) (LF (.k (.int .i64 5))) (yh 8)),
  (10008,.fb 8 false),
  (1000014,.bin .eql 3 (yh 0) (LF (.k (.int .i64 6))) (yh 9)),
  (10009,.fb 9 true),
  (1000018,.op (.len [28] 3) [yh 2] [] (yh 10)),
  (1000019,.bin .eql 3 (yh 10) (LF (.k (.int .i64 2))) (yh 11)),
  (10011,.fb 11 true),
  (1000023,.bin .eql 3 (yh 1) (LF (.k (.int .i64 0))) (yh 12)),
  (10012,.fb 12 true)]) (k:=⟨57,[.o (.g [.h 0,.h 1,.h 2]),yh 3],[],.o (.c (.k (.int .i64 0))),[]⟩) 0 (zg ⟨za,za,(ze (zf rfl)),za,za,za,za,za,za,za,za,za,za,trivial⟩) ⟨e_bin (zb rfl) zd (zb rfl) (r_cmp (congrArg some e1)),
  e_fbv h2,
  e_bin (zb rfl) zd (zb rfl) (r_cmp (congrArg some e3)),
  e_fbv h4,
  e_bin (zb rfl) zd (zb rfl) (r_cmp (congrArg some e5)),
  e_fbv h6,
  e_bin (zb rfl) zd (zb rfl) (r_cmp (congrArg some e7)),
  e_fbv h8,
  e_bin (zb rfl) zd (zb rfl) (r_cmp (congrArg some e9)),
  e_fbv h10,
  e_bin (zb rfl) zd (zb rfl) (r_cmp (congrArg some e11)),
  e_fbv h12,
  zn (E:=31) (by kernel_rfl) (zc rfl) (zb (by rw [← e13];rfl)),
  e_bin (zb rfl) zd (zb rfl) (r_cmp (congrArg some e14)),
  e_fbv h15,
  e_bin (zb rfl) zd (zb rfl) (r_cmp (congrArg some e16)),
  e_fbv h17,
  trivial⟩ mixed (by kernel_rfl))
theorem zft {w0:World} (e:Xp) (a:Int) (v1:Bool) (v3:Bool) (v5:Bool) (v7:Bool) (v9:Bool) (v11:Bool) (v13:Int) (v14:Bool) (v16:Bool) (e1:((e.op == (1:Int)))=v1) (e3:((e.op == (2:Int)))=v3) (e5:((e.op == (3:Int)))=v5) (e7:((e.op == (4:Int)))=v7) (e9:((e.op == (5:Int)))=v9) (e11:((e.op == (6:Int)))=v11) (e13:((e.l.length:Int))=v13) (e14:((v13 == (2:Int)))=v14) (e16:((e.n == (0:Int)))=v16) (h2:v1=false) (h4:v3=false) (h6:v5=false) (h8:v7=false) (h10:v9=false) (h12:v11=true) (h15:v14=true) (h17:v16=false):Fun (KN w0) Tryd.prog 57 [.o (.g [pI e.op,pI e.n,pLs cE e.l]),.o (.c (pI a))] (.o (.c (pV (.int .i64 4)))):=
 zi (zk (F:=FL [pI e.op,pI e.n,pLs cE e.l,pI a,pB v1,pB v3,pB v5,pB v7,pB v9,pB v11,pI v13,pB v14,pB v16] []) (C:=[(1000004,.bin .eql 3 (yh 0) (LF (.k (.int .i64 1))) (yh 4)),
  (10004,.fb 4 false),
  (1000006,.bin .eql 3 (yh 0) (LF (.k (.int .i64 2))) (yh 5)),
  (10005,.fb 5 false),
  (1000008,.bin .eql 3 (yh 0) (LF (.k (.int .i64 3))) (yh 6)),
  (10006,.fb 6 false),
  (1000010,.bin .eql 3 (yh 0) (LF (.k (.int .i64 4))) (yh 7)),
  (10007,.fb 7 false),
  (1000012,.bin .eql 3 (yh 0) (LF (.k (.int .i64 5))) (yh 8)),
  (10008,.fb 8 false),
  (1000014,.bin .eql 3 (yh 0) (LF (.k (.int .i64 6))) (yh 9)),
  (10009,.fb 9 true),
  (1000018,.op (.len [28] 3) [yh 2] [] (yh 10)),
  (1000019,.bin .eql 3 (yh 10) (LF (.k (.int .i64 2))) (yh 11)),
  (10011,.fb 11 true),
  (1000023,.bin .eql 3 (yh 1) (LF (.k (.int .i64 0))) (yh 12)),
  (10012,.fb 12 false)]) (k:=⟨57,[.o (.g [.h 0,.h 1,.h 2]),yh 3],[],.o (.c (.k (.int .i64 4))),[]⟩) 0 (zg ⟨za,za,(ze (zf rfl)),za,za,za,za,za,za,za,za,za,za,trivial⟩) ⟨e_bin (zb rfl) zd (zb rfl) (r_cmp (congrArg some e1)),
  e_fbv h2,
  e_bin (zb rfl) zd (zb rfl) (r_cmp (congrArg some e3)),
  e_fbv h4,
  e_bin (zb rfl) zd (zb rfl) (r_cmp (congrArg some e5)),
  e_fbv h6,
  e_bin (zb rfl) zd (zb rfl) (r_cmp (congrArg some e7)),
  e_fbv h8,
  e_bin (zb rfl) zd (zb rfl) (r_cmp (congrArg some e9)),
  e_fbv h10,
  e_bin (zb rfl) zd (zb rfl) (r_cmp (congrArg some e11)),
  e_fbv h12,
  zn (E:=31) (by kernel_rfl) (zc rfl) (zb (by rw [← e13];rfl)),
  e_bin (zb rfl) zd (zb rfl) (r_cmp (congrArg some e14)),
  e_fbv h15,
  e_bin (zb rfl) zd (zb rfl) (r_cmp (congrArg some e16)),
  e_fbv h17,
  trivial⟩ mixed (by kernel_rfl))
theorem zfu {w0:World} (e:Xp) (a:Int) (v1:Bool) (v3:Bool) (v5:Bool) (v7:Bool) (v9:Bool) (v11:Bool) (v13:Int) (v14:Bool) (e1:((e.op == (1:Int)))=v1) (e3:((e.op == (2:Int)))=v3) (e5:((e.op == (3:Int)))=v5) (e7:((e.op == (4:Int)))=v7) (e9:((e.op == (5:Int)))=v9) (e11:((e.op == (6:Int)))=v11) (e13:((e.l.length:Int))=v13) (e14:((v13 == (2:Int)))=v14) (h2:v1=false) (h4:v3=false) (h6:v5=false) (h8:v7=false) (h10:v9=false) (h12:v11=true) (h15:v14=false):Fun (KN w0) Tryd.prog 57 [.o (.g [pI e.op,pI e.n,pLs cE e.l]),.o (.c (pI a))] (.o (.c (pV (.int .i64 4)))):=
 zi (zk (F:=FL [pI e.op,pI e.n,pLs cE e.l,pI a,pB v1,pB v3,pB v5,pB v7,pB v9,pB v11,pI v13,pB v14] []) (C:=[(1000004,.bin .eql 3 (yh 0) (LF (.k (.int .i64 1))) (yh 4)),
  (10004,.fb 4 false),
  (1000006,.bin .eql 3 (yh 0) (LF (.k (.int .i64 2))) (yh 5)),
  (10005,.fb 5 false),
  (1000008,.bin .eql 3 (yh 0) (LF (.k (.int .i64 3))) (yh 6)),
  (10006,.fb 6 false),
  (1000010,.bin .eql 3 (yh 0) (LF (.k (.int .i64 4))) (yh 7)),
  (10007,.fb 7 false),
  (1000012,.bin .eql 3 (yh 0) (LF (.k (.int .i64 5))) (yh 8)),
  (10008,.fb 8 false),
  (1000014,.bin .eql 3 (yh 0) (LF (.k (.int .i64 6))) (yh 9)),
  (10009,.fb 9 true),
  (1000018,.op (.len [28] 3) [yh 2] [] (yh 10)),
  (1000019,.bin .eql 3 (yh 10) (LF (.k (.int .i64 2))) (yh 11)),
  (10011,.fb 11 false)]) (k:=⟨57,[.o (.g [.h 0,.h 1,.h 2]),yh 3],[],.o (.c (.k (.int .i64 4))),[]⟩) 0 (zg ⟨za,za,(ze (zf rfl)),za,za,za,za,za,za,za,za,za,trivial⟩) ⟨e_bin (zb rfl) zd (zb rfl) (r_cmp (congrArg some e1)),
  e_fbv h2,
  e_bin (zb rfl) zd (zb rfl) (r_cmp (congrArg some e3)),
  e_fbv h4,
  e_bin (zb rfl) zd (zb rfl) (r_cmp (congrArg some e5)),
  e_fbv h6,
  e_bin (zb rfl) zd (zb rfl) (r_cmp (congrArg some e7)),
  e_fbv h8,
  e_bin (zb rfl) zd (zb rfl) (r_cmp (congrArg some e9)),
  e_fbv h10,
  e_bin (zb rfl) zd (zb rfl) (r_cmp (congrArg some e11)),
  e_fbv h12,
  zn (E:=31) (by kernel_rfl) (zc rfl) (zb (by rw [← e13];rfl)),
  e_bin (zb rfl) zd (zb rfl) (r_cmp (congrArg some e14)),
  e_fbv h15,
  trivial⟩ mixed (by kernel_rfl))
theorem zfv {w0:World} (e:Xp) (a:Int) (v1:Bool) (v3:Bool) (v5:Bool) (v7:Bool) (v9:Bool) (v11:Bool) (v13:Bool) (v15:Int) (v16:Bool) (v18:Bool) (e1:((e.op == (1:Int)))=v1) (e3:((e.op == (2:Int)))=v3) (e5:((e.op == (3:Int)))=v5) (e7:((e.op == (4:Int)))=v7) (e9:((e.op == (5:Int)))=v9) (e11:((e.op == (6:Int)))=v11) (e13:((e.op == (7:Int)))=v13) (e15:((e.l.length:Int))=v15) (e16:((v15 == (2:Int)))=v16) (e18:((e.n == (0:Int)))=v18) (h2:v1=false) (h4:v3=false) (h6:v5=false) (h8:v7=false) (h10:v9=false) (h12:v11=false) (h14:v13=true) (h17:v16=true) (h19:v18=true):Fun (KN w0) Tryd.prog 57 [.o (.g [pI e.op,pI e.n,pLs cE e.l]),.o (.c (pI a))] (.o (.c (pV (.int .i64 0)))):=
 zi (zk (F:=FL [pI e.op,pI e.n,pLs cE e.l,pI a,pB v1,pB v3,pB v5,pB v7,pB v9,pB v11,pB v13,pI v15,pB v16,pB v18] []) (C:=[(1000004,.bin .eql 3 (yh 0) (LF (.k (.int .i64 1))) (yh 4)),
  (10004,.fb 4 false),
  (1000006,.bin .eql 3 (yh 0) (LF (.k (.int .i64 2))) (yh 5)),
  (10005,.fb 5 false),
  (1000008,.bin .eql 3 (yh 0) (LF (.k (.int .i64 3))) (yh 6)),
  (10006,.fb 6 false),
  (1000010,.bin .eql 3 (yh 0) (LF (.k (.int .i64 4))) (yh 7)),
  (10007,.fb 7 false),
  (1000012,.bin .eql 3 (yh 0) (LF (.k (.int .i64 5))) (yh 8)),
  (10008,.fb 8 false),
  (1000014,.bin .eql 3 (yh 0) (LF (.k (.int .i64 6))) (yh 9)),
  (10009,.fb 9 false),
  (1000016,.bin .eql 3 (yh 0) (LF (.k (.int .i64 7))) (yh 10)),
  (10010,.fb 10 true),
  (1000020,.op (.len [28] 3) [yh 2] [] (yh 11)),
  (1000021,.bin .eql 3 (yh 11) (LF (.k (.int .i64 2))) (yh 12)),
  (10012,.fb 12 true),
  (1000025,.bin .eql 3 (yh 1) (LF (.k (.int .i64 0))) (yh 13)),
  (10013,.fb 13 true)]) (k:=⟨57,[.o (.g [.h 0,.h 1,.h 2]),yh 3],[],.o (.c (.k (.int .i64 0))),[]⟩) 0 (zg ⟨za,za,(ze (zf rfl)),za,za,za,za,za,za,za,za,za,za,za,trivial⟩) ⟨e_bin (zb rfl) zd (zb rfl) (r_cmp (congrArg some e1)),
  e_fbv h2,
  e_bin (zb rfl) zd (zb rfl) (r_cmp (congrArg some e3)),
  e_fbv h4,
  e_bin (zb rfl) zd (zb rfl) (r_cmp (congrArg some e5)),
  e_fbv h6,
  e_bin (zb rfl) zd (zb rfl) (r_cmp (congrArg some e7)),
  e_fbv h8,
  e_bin (zb rfl) zd (zb rfl) (r_cmp (congrArg some e9)),
  e_fbv h10,
  e_bin (zb rfl) zd (zb rfl) (r_cmp (congrArg some e11)),
  e_fbv h12,
  e_bin (zb rfl) zd (zb rfl) (r_cmp (congrArg some e13)),
  e_fbv h14,
  zn (E:=31) (by kernel_rfl) (zc rfl) (zb (by rw [← e15];rfl)),
  e_bin (zb rfl) zd (zb rfl) (r_cmp (congrArg some e16)),
  e_fbv h17,
  e_bin (zb rfl) zd (zb rfl) (r_cmp (congrArg some e18)),
  e_fbv h19,
  trivial⟩ mixed (by kernel_rfl))
theorem zfw {w0:World} (e:Xp) (a:Int) (v1:Bool) (v3:Bool) (v5:Bool) (v7:Bool) (v9:Bool) (v11:Bool) (v13:Bool) (v15:Int) (v16:Bool) (v18:Bool) (e1:((e.op == (1:Int)))=v1) (e3:((e.op == (2:Int)))=v3) (e5:((e.op == (3:Int)))=v5) (e7:((e.op == (4:Int)))=v7) (e9:((e.op == (5:Int)))=v9) (e11:((e.op == (6:Int)))=v11) (e13:((e.op == (7:Int)))=v13) (e15:((e.l.length:Int))=v15) (e16:((v15 == (2:Int)))=v16) (e18:((e.n == (0:Int)))=v18) (h2:v1=false) (h4:v3=false) (h6:v5=false) (h8:v7=false) (h10:v9=false) (h12:v11=false) (h14:v13=true) (h17:v16=true) (h19:v18=false):Fun (KN w0) Tryd.prog 57 [.o (.g [pI e.op,pI e.n,pLs cE e.l]),.o (.c (pI a))] (.o (.c (pV (.int .i64 4)))):=
 zi (zk (F:=FL [pI e.op,pI e.n,pLs cE e.l,pI a,pB v1,pB v3,pB v5,pB v7,pB v9,pB v11,pB v13,pI v15,pB v16,pB v18] []) (C:=[(1000004,.bin .eql 3 (yh 0) (LF (.k (.int .i64 1))) (yh 4)),
  (10004,.fb 4 false),
  (1000006,.bin .eql 3 (yh 0) (LF (.k (.int .i64 2))) (yh 5)),
  (10005,.fb 5 false),
  (1000008,.bin .eql 3 (yh 0) (LF (.k (.int .i64 3))) (yh 6)),
  (10006,.fb 6 false),
  (1000010,.bin .eql 3 (yh 0) (LF (.k (.int .i64 4))) (yh 7)),
  (10007,.fb 7 false),
  (1000012,.bin .eql 3 (yh 0) (LF (.k (.int .i64 5))) (yh 8)),
  (10008,.fb 8 false),
  (1000014,.bin .eql 3 (yh 0) (LF (.k (.int .i64 6))) (yh 9)),
  (10009,.fb 9 false),
  (1000016,.bin .eql 3 (yh 0) (LF (.k (.int .i64 7))) (yh 10)),
  (10010,.fb 10 true),
  (1000020,.op (.len [28] 3) [yh 2] [] (yh 11)),
  (1000021,.bin .eql 3 (yh 11) (LF (.k (.int .i64 2))) (yh 12)),
  (10012,.fb 12 true),
  (1000025,.bin .eql 3 (yh 1) (LF (.k (.int .i64 0))) (yh 13)),
  (10013,.fb 13 false)]) (k:=⟨57,[.o (.g [.h 0,.h 1,.h 2]),yh 3],[],.o (.c (.k (.int .i64 4))),[]⟩) 0 (zg ⟨za,za,(ze (zf rfl)),za,za,za,za,za,za,za,za,za,za,za,trivial⟩) ⟨e_bin (zb rfl) zd (zb rfl) (r_cmp (congrArg some e1)),
  e_fbv h2,
  e_bin (zb rfl) zd (zb rfl) (r_cmp (congrArg some e3)),
  e_fbv h4,
  e_bin (zb rfl) zd (zb rfl) (r_cmp (congrArg some e5)),
  e_fbv h6,
  e_bin (zb rfl) zd (zb rfl) (r_cmp (congrArg some e7)),
  e_fbv h8,
  e_bin (zb rfl) zd (zb rfl) (r_cmp (congrArg some e9)),
  e_fbv h10,
  e_bin (zb rfl) zd (zb rfl) (r_cmp (congrArg some e11)),
  e_fbv h12,
  e_bin (zb rfl) zd (zb rfl) (r_cmp (congrArg some e13)),
  e_fbv h14,
  zn (E:=31) (by kernel_rfl) (zc rfl) (zb (by rw [← e15];rfl)),
  e_bin (zb rfl) zd (zb rfl) (r_cmp (congrArg some e16)),
  e_fbv h17,
  e_bin (zb rfl) zd (zb rfl) (r_cmp (congrArg some e18)),
  e_fbv h19,
  trivial⟩ mixed (by kernel_rfl))
theorem zfx {w0:World} (e:Xp) (a:Int) (v1:Bool) (v3:Bool) (v5:Bool) (v7:Bool) (v9:Bool) (v11:Bool) (v13:Bool) (v15:Int) (v16:Bool) (e1:((e.op == (1:Int)))=v1) (e3:((e.op == (2:Int)))=v3) (e5:((e.op == (3:Int)))=v5) (e7:((e.op == (4:Int)))=v7) (e9:((e.op == (5:Int)))=v9) (e11:((e.op == (6:Int)))=v11) (e13:((e.op == (7:Int)))=v13) (e15:((e.l.length:Int))=v15) (e16:((v15 == (2:Int)))=v16) (h2:v1=false) (h4:v3=false) (h6:v5=false) (h8:v7=false) (h10:v9=false) (h12:v11=false) (h14:v13=true) (h17:v16=false):Fun (KN w0) Tryd.prog 57 [.o (.g [pI e.op,pI e.n,pLs cE e.l]),.o (.c (pI a))] (.o (.c (pV (.int .i64 4)))):=
 zi (zk (F:=FL [pI e.op,pI e.n,pLs cE e.l,pI a,pB v1,pB v3,pB v5,pB v7,pB v9,pB v11,pB v13,pI v15,pB v16] []) (C:=[(1000004,.bin .eql 3 (yh 0) (LF (.k (.int .i64 1))) (yh 4)),
  (10004,.fb 4 false),
  (1000006,.bin .eql 3 (yh 0) (LF (.k (.int .i64 2))) (yh 5)),
  (10005,.fb 5 false),
  (1000008,.bin .eql 3 (yh 0) (LF (.k (.int .i64 3))) (yh 6)),
  (10006,.fb 6 false),
  (1000010,.bin .eql 3 (yh 0) (LF (.k (.int .i64 4))) (yh 7)),
  (10007,.fb 7 false),
  (1000012,.bin .eql 3 (yh 0) (LF (.k (.int .i64 5))) (yh 8)),
  (10008,.fb 8 false),
  (1000014,.bin .eql 3 (yh 0) (LF (.k (.int .i64 6))) (yh 9)),
  (10009,.fb 9 false),
  (1000016,.bin .eql 3 (yh 0) (LF (.k (.int .i64 7))) (yh 10)),
  (10010,.fb 10 true),
  (1000020,.op (.len [28] 3) [yh 2] [] (yh 11)),
  (1000021,.bin .eql 3 (yh 11) (LF (.k (.int .i64 2))) (yh 12)),
  (10012,.fb 12 false)]) (k:=⟨57,[.o (.g [.h 0,.h 1,.h 2]),yh 3],[],.o (.c (.k (.int .i64 4))),[]⟩) 0 (zg ⟨za,za,(ze (zf rfl)),za,za,za,za,za,za,za,za,za,za,trivial⟩) ⟨e_bin (zb rfl) zd (zb rfl) (r_cmp (congrArg some e1)),
  e_fbv h2,
  e_bin (zb rfl) zd (zb rfl) (r_cmp (congrArg some e3)),
  e_fbv h4,
  e_bin (zb rfl) zd (zb rfl) (r_cmp (congrArg some e5)),
  e_fbv h6,
  e_bin (zb rfl) zd (zb rfl) (r_cmp (congrArg some e7)),
  e_fbv h8,
  e_bin (zb rfl) zd (zb rfl) (r_cmp (congrArg some e9)),
  e_fbv h10,
  e_bin (zb rfl) zd (zb rfl) (r_cmp (congrArg some e11)),
  e_fbv h12,
  e_bin (zb rfl) zd (zb rfl) (r_cmp (congrArg some e13)),
  e_fbv h14,
  zn (E:=31) (by kernel_rfl) (zc rfl) (zb (by rw [← e15];rfl)),
  e_bin (zb rfl) zd (zb rfl) (r_cmp (congrArg some e16)),
  e_fbv h17,
  trivial⟩ mixed (by kernel_rfl))
theorem zfy {w0:World} (e:Xp) (a:Int) (v1:Bool) (v3:Bool) (v5:Bool) (v7:Bool) (v9:Bool) (v11:Bool) (v13:Bool) (e1:((e.op == (1:Int)))=v1) (e3:((e.op == (2:Int)))=v3) (e5:((e.op == (3:Int)))=v5) (e7:((e.op == (4:Int)))=v7) (e9:((e.op == (5:Int)))=v9) (e11:((e.op == (6:Int)))=v11) (e13:((e.op == (7:Int)))=v13) (h2:v1=false) (h4:v3=false) (h6:v5=false) (h8:v7=false) (h10:v9=false) (h12:v11=false) (h14:v13=false):Fun (KN w0) Tryd.prog 57 [.o (.g [pI e.op,pI e.n,pLs cE e.l]),.o (.c (pI a))] (.o (.c (pV (.int .i64 4)))):=
 zi (zk (F:=FL [pI e.op,pI e.n,pLs cE e.l,pI a,pB v1,pB v3,pB v5,pB v7,pB v9,pB v11,pB v13] []) (C:=[(1000004,.bin .eql 3 (yh 0) (LF (.k (.int .i64 1))) (yh 4)),
  (10004,.fb 4 false),
  (1000006,.bin .eql 3 (yh 0) (LF (.k (.int .i64 2))) (yh 5)),
  (10005,.fb 5 false),
  (1000008,.bin .eql 3 (yh 0) (LF (.k (.int .i64 3))) (yh 6)),
  (10006,.fb 6 false),
  (1000010,.bin .eql 3 (yh 0) (LF (.k (.int .i64 4))) (yh 7)),
  (10007,.fb 7 false),
  (1000012,.bin .eql 3 (yh 0) (LF (.k (.int .i64 5))) (yh 8)),
  (10008,.fb 8 false),
  (1000014,.bin .eql 3 (yh 0) (LF (.k (.int .i64 6))) (yh 9)),
  (10009,.fb 9 false),
  (1000016,.bin .eql 3 (yh 0) (LF (.k (.int .i64 7))) (yh 10)),
  (10010,.fb 10 false)]) (k:=⟨57,[.o (.g [.h 0,.h 1,.h 2]),yh 3],[],.o (.c (.k (.int .i64 4))),[]⟩) 0 (zg ⟨za,za,(ze (zf rfl)),za,za,za,za,za,za,za,za,trivial⟩) ⟨e_bin (zb rfl) zd (zb rfl) (r_cmp (congrArg some e1)),
  e_fbv h2,
  e_bin (zb rfl) zd (zb rfl) (r_cmp (congrArg some e3)),
  e_fbv h4,
  e_bin (zb rfl) zd (zb rfl) (r_cmp (congrArg some e5)),
  e_fbv h6,
  e_bin (zb rfl) zd (zb rfl) (r_cmp (congrArg some e7)),
  e_fbv h8,
  e_bin (zb rfl) zd (zb rfl) (r_cmp (congrArg some e9)),
  e_fbv h10,
  e_bin (zb rfl) zd (zb rfl) (r_cmp (congrArg some e11)),
  e_fbv h12,
  e_bin (zb rfl) zd (zb rfl) (r_cmp (congrArg some e13)),
  e_fbv h14,
  trivial⟩ mixed (by kernel_rfl))
theorem zew {w0:World} (e:Xp) (a:Int) (r:Int) (hr:zp e.op e.n e.l.length a=r):Fun (KN w0) Tryd.prog 57 [.o (.g [pI e.op,pI e.n,pLs cE e.l]),.o (.c (pI a))] (.o (.c (pI r))):=by
 obtain ⟨v1,e1⟩:∃v,((e.op == (1:Int)))=v:=⟨_,rfl⟩
 cases h2:v1 with
 | true =>
  obtain ⟨v3,e3⟩:∃v,((e.l.length:Int))=v:=⟨_,rfl⟩
  obtain ⟨v4,e4⟩:∃v,(decide (v3 > (0:Int)))=v:=⟨_,rfl⟩
  cases h5:v4 with
  | true =>
   refine Fun.imp (zgw e a v1 v3 v4 e1 e3 e4 h2 h5) (fun _ _ _ h=>h) (fun v W D h=>?_)
   have r0:r=(4:Int):=by
    (have dh2:=eq_of_beq (e1.trans h2);have dh5:=of_decide_eq_true (e4.trans h5));rw [← hr];unfold zp;clear hr;(repeat' split)<;>first | rfl | omega | (exfalso;simp_all;done) | (exfalso;simp_all;omega)
   rw [r0];exact h
  | false =>
   obtain ⟨v6,e6⟩:∃v,((e.op == (1:Int)))=v:=⟨_,rfl⟩
   cases h7:v6 with
   | true =>
    obtain ⟨v8,e8⟩:∃v,(valB e.n)=v:=⟨_,rfl⟩
    obtain ⟨v9,e9⟩:∃v,(!v8)=v:=⟨_,rfl⟩
    cases h10:v9 with
    | true =>
     refine Fun.imp (zgx e a v1 v3 v4 v6 v8 v9 e1 e3 e4 e6 e8 e9 h2 h5 h7 h10) (fun _ _ _ h=>h) (fun v W D h=>?_)
     have r0:r=(3:Int):=by
      (have dh2:=eq_of_beq (e1.trans h2);have dh5:=of_decide_eq_false (e4.trans h5);have dh7:=eq_of_beq (e6.trans h7));rw [← hr];unfold zp;clear hr;(repeat' split)<;>first | rfl | omega | (exfalso;simp_all;done) | (exfalso;simp_all;omega)
     rw [r0];exact h
    | false =>
     obtain ⟨v11,e11⟩:∃v,((e.op == (2:Int)))=v:=⟨_,rfl⟩
     cases h12:v11 with
     | true =>
      obtain ⟨v13,e13⟩:∃v,(decide (e.n<(0:Int)))=v:=⟨_,rfl⟩
      cases h14:v13 with
      | true =>
       refine Fun.imp (zgy e a v1 v3 v4 v6 v8 v9 v11 v13 e1 e3 e4 e6 e8 e9 e11 e13 h2 h5 h7 h10 h12 h14) (fun _ _ _ h=>h) (fun v W D h=>?_)
       have r0:r=(1:Int):=by
        (have dh2:=eq_of_beq (e1.trans h2);have dh5:=of_decide_eq_false (e4.trans h5);have dh7:=eq_of_beq (e6.trans h7);have dh12:=eq_of_beq (e11.trans h12);have dh14:=of_decide_eq_true (e13.trans h14));rw [← hr];unfold zp;clear hr;(repeat' split)<;>first | rfl | omega | (exfalso;simp_all;done) | (exfalso;simp_all;omega)
       rw [r0];exact h
      | false =>
       obtain ⟨v15,e15⟩:∃v,((if (4:Int)<a then (4:Int) else a))=v:=⟨_,rfl⟩
       obtain ⟨v16,e16⟩:∃v,(decide (e.n ≥ v15))=v:=⟨_,rfl⟩
       cases h17:v16 with
       | true =>
        refine Fun.imp (zgz e a v1 v3 v4 v6 v8 v9 v11 v13 v15 v16 e1 e3 e4 e6 e8 e9 e11 e13 e15 e16 h2 h5 h7 h10 h12 h14 h17) (fun _ _ _ h=>h) (fun v W D h=>?_)
        have r0:r=(1:Int):=by
         (have dh2:=eq_of_beq (e1.trans h2);have dh5:=of_decide_eq_false (e4.trans h5);have dh7:=eq_of_beq (e6.trans h7);have dh12:=eq_of_beq (e11.trans h12);have dh14:=of_decide_eq_false (e13.trans h14);have dh17:=of_decide_eq_true (e16.trans h17));rw [← hr];unfold zp;clear hr;(repeat' split)<;>first | rfl | omega | (exfalso;simp_all;done) | (exfalso;simp_all;omega)
        rw [r0];exact h
       | false =>
        refine Fun.imp (zgA e a v1 v3 v4 v6 v8 v9 v11 v13 v15 v16 e1 e3 e4 e6 e8 e9 e11 e13 e15 e16 h2 h5 h7 h10 h12 h14 h17) (fun _ _ _ h=>h) (fun v W D h=>?_)
        have r0:r=(0:Int):=by
         (have dh2:=eq_of_beq (e1.trans h2);have dh5:=of_decide_eq_false (e4.trans h5);have dh7:=eq_of_beq (e6.trans h7);have dh12:=eq_of_beq (e11.trans h12);have dh14:=of_decide_eq_false (e13.trans h14);have dh17:=of_decide_eq_false (e16.trans h17));rw [← hr];unfold zp;clear hr;(repeat' split)<;>first | rfl | omega | (exfalso;simp_all;done) | (exfalso;simp_all;omega)
        rw [r0];exact h
     | false =>
      refine Fun.imp (zgB e a v1 v3 v4 v6 v8 v9 v11 e1 e3 e4 e6 e8 e9 e11 h2 h5 h7 h10 h12) (fun _ _ _ h=>h) (fun v W D h=>?_)
      have r0:r=(0:Int):=by
       (have dh2:=eq_of_beq (e1.trans h2);have dh5:=of_decide_eq_false (e4.trans h5);have dh7:=eq_of_beq (e6.trans h7);have dh12:=ne_of_beq_false (e11.trans h12));rw [← hr];unfold zp;clear hr;(repeat' split)<;>first | rfl | omega | (exfalso;simp_all;done) | (exfalso;simp_all;omega)
      rw [r0];exact h
   | false =>
    obtain ⟨v8,e8⟩:∃v,((e.op == (2:Int)))=v:=⟨_,rfl⟩
    cases h9:v8 with
    | true =>
     obtain ⟨v10,e10⟩:∃v,(decide (e.n<(0:Int)))=v:=⟨_,rfl⟩
     cases h11:v10 with
     | true =>
      refine Fun.imp (zgC e a v1 v3 v4 v6 v8 v10 e1 e3 e4 e6 e8 e10 h2 h5 h7 h9 h11) (fun _ _ _ h=>h) (fun v W D h=>?_)
      have r0:r=(1:Int):=by
       (have dh2:=eq_of_beq (e1.trans h2);have dh5:=of_decide_eq_false (e4.trans h5);have dh7:=ne_of_beq_false (e6.trans h7);have dh9:=eq_of_beq (e8.trans h9);have dh11:=of_decide_eq_true (e10.trans h11));rw [← hr];unfold zp;clear hr;(repeat' split)<;>first | rfl | omega | (exfalso;simp_all;done) | (exfalso;simp_all;omega)
      rw [r0];exact h
     | false =>
      obtain ⟨v12,e12⟩:∃v,((if (4:Int)<a then (4:Int) else a))=v:=⟨_,rfl⟩
      obtain ⟨v13,e13⟩:∃v,(decide (e.n ≥ v12))=v:=⟨_,rfl⟩
      cases h14:v13 with
      | true =>
       refine Fun.imp (zgD e a v1 v3 v4 v6 v8 v10 v12 v13 e1 e3 e4 e6 e8 e10 e12 e13 h2 h5 h7 h9 h11 h14) (fun _ _ _ h=>h) (fun v W D h=>?_)
       have r0:r=(1:Int):=by
        (have dh2:=eq_of_beq (e1.trans h2);have dh5:=of_decide_eq_false (e4.trans h5);have dh7:=ne_of_beq_false (e6.trans h7);have dh9:=eq_of_beq (e8.trans h9);have dh11:=of_decide_eq_false (e10.trans h11);have dh14:=of_decide_eq_true (e13.trans h14));rw [← hr];unfold zp;clear hr;(repeat' split)<;>first | rfl | omega | (exfalso;simp_all;done) | (exfalso;simp_all;omega)
       rw [r0];exact h
      | false =>
       refine Fun.imp (zgE e a v1 v3 v4 v6 v8 v10 v12 v13 e1 e3 e4 e6 e8 e10 e12 e13 h2 h5 h7 h9 h11 h14) (fun _ _ _ h=>h) (fun v W D h=>?_)
       have r0:r=(0:Int):=by
        (have dh2:=eq_of_beq (e1.trans h2);have dh5:=of_decide_eq_false (e4.trans h5);have dh7:=ne_of_beq_false (e6.trans h7);have dh9:=eq_of_beq (e8.trans h9);have dh11:=of_decide_eq_false (e10.trans h11);have dh14:=of_decide_eq_false (e13.trans h14));rw [← hr];unfold zp;clear hr;(repeat' split)<;>first | rfl | omega | (exfalso;simp_all;done) | (exfalso;simp_all;omega)
       rw [r0];exact h
    | false =>
     refine Fun.imp (zgF e a v1 v3 v4 v6 v8 e1 e3 e4 e6 e8 h2 h5 h7 h9) (fun _ _ _ h=>h) (fun v W D h=>?_)
     have r0:r=(0:Int):=by
      (have dh2:=eq_of_beq (e1.trans h2);have dh5:=of_decide_eq_false (e4.trans h5);have dh7:=ne_of_beq_false (e6.trans h7);have dh9:=ne_of_beq_false (e8.trans h9));rw [← hr];unfold zp;clear hr;(repeat' split)<;>first | rfl | omega | (exfalso;simp_all;done) | (exfalso;simp_all;omega)
     rw [r0];exact h
 | false =>
  obtain ⟨v3,e3⟩:∃v,((e.op == (2:Int)))=v:=⟨_,rfl⟩
  cases h4:v3 with
  | true =>
   obtain ⟨v5,e5⟩:∃v,((e.l.length:Int))=v:=⟨_,rfl⟩
   obtain ⟨v6,e6⟩:∃v,(decide (v5 > (0:Int)))=v:=⟨_,rfl⟩
   cases h7:v6 with
   | true =>
    refine Fun.imp (ze9 e a v1 v3 v5 v6 e1 e3 e5 e6 h2 h4 h7) (fun _ _ _ h=>h) (fun v W D h=>?_)
    have r0:r=(4:Int):=by
     (have dh2:=ne_of_beq_false (e1.trans h2);have dh4:=eq_of_beq (e3.trans h4);have dh7:=of_decide_eq_true (e6.trans h7));rw [← hr];unfold zp;clear hr;(repeat' split)<;>first | rfl | omega | (exfalso;simp_all;done) | (exfalso;simp_all;omega)
    rw [r0];exact h
   | false =>
    obtain ⟨v8,e8⟩:∃v,((e.op == (1:Int)))=v:=⟨_,rfl⟩
    cases h9:v8 with
    | true =>
     obtain ⟨v10,e10⟩:∃v,(valB e.n)=v:=⟨_,rfl⟩
     obtain ⟨v11,e11⟩:∃v,(!v10)=v:=⟨_,rfl⟩
     cases h12:v11 with
     | true =>
      refine Fun.imp (zfa e a v1 v3 v5 v6 v8 v10 v11 e1 e3 e5 e6 e8 e10 e11 h2 h4 h7 h9 h12) (fun _ _ _ h=>h) (fun v W D h=>?_)
      have r0:r=(3:Int):=by
       (have dh2:=ne_of_beq_false (e1.trans h2);have dh4:=eq_of_beq (e3.trans h4);have dh7:=of_decide_eq_false (e6.trans h7);have dh9:=eq_of_beq (e8.trans h9));rw [← hr];unfold zp;clear hr;(repeat' split)<;>first | rfl | omega | (exfalso;simp_all;done) | (exfalso;simp_all;omega)
      rw [r0];exact h
     | false =>
      obtain ⟨v13,e13⟩:∃v,((e.op == (2:Int)))=v:=⟨_,rfl⟩
      cases h14:v13 with
      | true =>
       obtain ⟨v15,e15⟩:∃v,(decide (e.n<(0:Int)))=v:=⟨_,rfl⟩
       cases h16:v15 with
       | true =>
        refine Fun.imp (zfb e a v1 v3 v5 v6 v8 v10 v11 v13 v15 e1 e3 e5 e6 e8 e10 e11 e13 e15 h2 h4 h7 h9 h12 h14 h16) (fun _ _ _ h=>h) (fun v W D h=>?_)
        have r0:r=(1:Int):=by
         (have dh2:=ne_of_beq_false (e1.trans h2);have dh4:=eq_of_beq (e3.trans h4);have dh7:=of_decide_eq_false (e6.trans h7);have dh9:=eq_of_beq (e8.trans h9);have dh14:=eq_of_beq (e13.trans h14);have dh16:=of_decide_eq_true (e15.trans h16));rw [← hr];unfold zp;clear hr;(repeat' split)<;>first | rfl | omega | (exfalso;simp_all;done) | (exfalso;simp_all;omega)
        rw [r0];exact h
       | false =>
        obtain ⟨v17,e17⟩:∃v,((if (4:Int)<a then (4:Int) else a))=v:=⟨_,rfl⟩
        obtain ⟨v18,e18⟩:∃v,(decide (e.n ≥ v17))=v:=⟨_,rfl⟩
        cases h19:v18 with
        | true =>
         refine Fun.imp (zfc e a v1 v3 v5 v6 v8 v10 v11 v13 v15 v17 v18 e1 e3 e5 e6 e8 e10 e11 e13 e15 e17 e18 h2 h4 h7 h9 h12 h14 h16 h19) (fun _ _ _ h=>h) (fun v W D h=>?_)
         have r0:r=(1:Int):=by
          (have dh2:=ne_of_beq_false (e1.trans h2);have dh4:=eq_of_beq (e3.trans h4);have dh7:=of_decide_eq_false (e6.trans h7);have dh9:=eq_of_beq (e8.trans h9);have dh14:=eq_of_beq (e13.trans h14);have dh16:=of_decide_eq_false (e15.trans h16);have dh19:=of_decide_eq_true (e18.trans h19));rw [← hr];unfold zp;clear hr;(repeat' split)<;>first | rfl | omega | (exfalso;simp_all;done) | (exfalso;simp_all;omega)
         rw [r0];exact h
        | false =>
         refine Fun.imp (zfd e a v1 v3 v5 v6 v8 v10 v11 v13 v15 v17 v18 e1 e3 e5 e6 e8 e10 e11 e13 e15 e17 e18 h2 h4 h7 h9 h12 h14 h16 h19) (fun _ _ _ h=>h) (fun v W D h=>?_)
         have r0:r=(0:Int):=by
          (have dh2:=ne_of_beq_false (e1.trans h2);have dh4:=eq_of_beq (e3.trans h4);have dh7:=of_decide_eq_false (e6.trans h7);have dh9:=eq_of_beq (e8.trans h9);have dh14:=eq_of_beq (e13.trans h14);have dh16:=of_decide_eq_false (e15.trans h16);have dh19:=of_decide_eq_false (e18.trans h19));rw [← hr];unfold zp;clear hr;(repeat' split)<;>first | rfl | omega | (exfalso;simp_all;done) | (exfalso;simp_all;omega)
         rw [r0];exact h
      | false =>
       refine Fun.imp (zfe e a v1 v3 v5 v6 v8 v10 v11 v13 e1 e3 e5 e6 e8 e10 e11 e13 h2 h4 h7 h9 h12 h14) (fun _ _ _ h=>h) (fun v W D h=>?_)
       have r0:r=(0:Int):=by
        (have dh2:=ne_of_beq_false (e1.trans h2);have dh4:=eq_of_beq (e3.trans h4);have dh7:=of_decide_eq_false (e6.trans h7);have dh9:=eq_of_beq (e8.trans h9);have dh14:=ne_of_beq_false (e13.trans h14));rw [← hr];unfold zp;clear hr;(repeat' split)<;>first | rfl | omega | (exfalso;simp_all;done) | (exfalso;simp_all;omega)
       rw [r0];exact h
    | false =>
     obtain ⟨v10,e10⟩:∃v,((e.op == (2:Int)))=v:=⟨_,rfl⟩
     cases h11:v10 with
     | true =>
      obtain ⟨v12,e12⟩:∃v,(decide (e.n<(0:Int)))=v:=⟨_,rfl⟩
      cases h13:v12 with
      | true =>
       refine Fun.imp (zff e a v1 v3 v5 v6 v8 v10 v12 e1 e3 e5 e6 e8 e10 e12 h2 h4 h7 h9 h11 h13) (fun _ _ _ h=>h) (fun v W D h=>?_)
       have r0:r=(1:Int):=by
        (have dh2:=ne_of_beq_false (e1.trans h2);have dh4:=eq_of_beq (e3.trans h4);have dh7:=of_decide_eq_false (e6.trans h7);have dh9:=ne_of_beq_false (e8.trans h9);have dh11:=eq_of_beq (e10.trans h11);have dh13:=of_decide_eq_true (e12.trans h13));rw [← hr];unfold zp;clear hr;(repeat' split)<;>first | rfl | omega | (exfalso;simp_all;done) | (exfalso;simp_all;omega)
       rw [r0];exact h
      | false =>
       obtain ⟨v14,e14⟩:∃v,((if (4:Int)<a then (4:Int) else a))=v:=⟨_,rfl⟩
       obtain ⟨v15,e15⟩:∃v,(decide (e.n ≥ v14))=v:=⟨_,rfl⟩
       cases h16:v15 with
       | true =>
        refine Fun.imp (zfg e a v1 v3 v5 v6 v8 v10 v12 v14 v15 e1 e3 e5 e6 e8 e10 e12 e14 e15 h2 h4 h7 h9 h11 h13 h16) (fun _ _ _ h=>h) (fun v W D h=>?_)
        have r0:r=(1:Int):=by
         (have dh2:=ne_of_beq_false (e1.trans h2);have dh4:=eq_of_beq (e3.trans h4);have dh7:=of_decide_eq_false (e6.trans h7);have dh9:=ne_of_beq_false (e8.trans h9);have dh11:=eq_of_beq (e10.trans h11);have dh13:=of_decide_eq_false (e12.trans h13);have dh16:=of_decide_eq_true (e15.trans h16));rw [← hr];unfold zp;clear hr;(repeat' split)<;>first | rfl | omega | (exfalso;simp_all;done) | (exfalso;simp_all;omega)
        rw [r0];exact h
       | false =>
        refine Fun.imp (zfh e a v1 v3 v5 v6 v8 v10 v12 v14 v15 e1 e3 e5 e6 e8 e10 e12 e14 e15 h2 h4 h7 h9 h11 h13 h16) (fun _ _ _ h=>h) (fun v W D h=>?_)
        have r0:r=(0:Int):=by
         (have dh2:=ne_of_beq_false (e1.trans h2);have dh4:=eq_of_beq (e3.trans h4);have dh7:=of_decide_eq_false (e6.trans h7);have dh9:=ne_of_beq_false (e8.trans h9);have dh11:=eq_of_beq (e10.trans h11);have dh13:=of_decide_eq_false (e12.trans h13);have dh16:=of_decide_eq_false (e15.trans h16));rw [← hr];unfold zp;clear hr;(repeat' split)<;>first | rfl | omega | (exfalso;simp_all;done) | (exfalso;simp_all;omega)
        rw [r0];exact h
     | false =>
      refine Fun.imp (zfi e a v1 v3 v5 v6 v8 v10 e1 e3 e5 e6 e8 e10 h2 h4 h7 h9 h11) (fun _ _ _ h=>h) (fun v W D h=>?_)
      have r0:r=(0:Int):=by
       (have dh2:=ne_of_beq_false (e1.trans h2);have dh4:=eq_of_beq (e3.trans h4);have dh7:=of_decide_eq_false (e6.trans h7);have dh9:=ne_of_beq_false (e8.trans h9);have dh11:=ne_of_beq_false (e10.trans h11));rw [← hr];unfold zp;clear hr;(repeat' split)<;>first | rfl | omega | (exfalso;simp_all;done) | (exfalso;simp_all;omega)
      rw [r0];exact h
  | false =>
   obtain ⟨v5,e5⟩:∃v,((e.op == (3:Int)))=v:=⟨_,rfl⟩
   cases h6:v5 with
   | true =>
    obtain ⟨v7,e7⟩:∃v,((e.l.length:Int))=v:=⟨_,rfl⟩
    obtain ⟨v8,e8⟩:∃v,((v7 == (2:Int)))=v:=⟨_,rfl⟩
    cases h9:v8 with
    | true =>
     obtain ⟨v10,e10⟩:∃v,((e.n == (0:Int)))=v:=⟨_,rfl⟩
     cases h11:v10 with
     | true =>
      refine Fun.imp (zfj e a v1 v3 v5 v7 v8 v10 e1 e3 e5 e7 e8 e10 h2 h4 h6 h9 h11) (fun _ _ _ h=>h) (fun v W D h=>?_)
      have r0:r=(0:Int):=by
       (have dh2:=ne_of_beq_false (e1.trans h2);have dh4:=ne_of_beq_false (e3.trans h4);have dh6:=eq_of_beq (e5.trans h6);have dh9:=eq_of_beq (e8.trans h9);have dh11:=eq_of_beq (e10.trans h11));rw [← hr];unfold zp;clear hr;(repeat' split)<;>first | rfl | omega | (exfalso;simp_all;done) | (exfalso;simp_all;omega)
      rw [r0];exact h
     | false =>
      refine Fun.imp (zfk e a v1 v3 v5 v7 v8 v10 e1 e3 e5 e7 e8 e10 h2 h4 h6 h9 h11) (fun _ _ _ h=>h) (fun v W D h=>?_)
      have r0:r=(4:Int):=by
       (have dh2:=ne_of_beq_false (e1.trans h2);have dh4:=ne_of_beq_false (e3.trans h4);have dh6:=eq_of_beq (e5.trans h6);have dh9:=eq_of_beq (e8.trans h9);have dh11:=ne_of_beq_false (e10.trans h11));rw [← hr];unfold zp;clear hr;(repeat' split)<;>first | rfl | omega | (exfalso;simp_all;done) | (exfalso;simp_all;omega)
      rw [r0];exact h
    | false =>
     refine Fun.imp (zfl e a v1 v3 v5 v7 v8 e1 e3 e5 e7 e8 h2 h4 h6 h9) (fun _ _ _ h=>h) (fun v W D h=>?_)
     have r0:r=(4:Int):=by
      (have dh2:=ne_of_beq_false (e1.trans h2);have dh4:=ne_of_beq_false (e3.trans h4);have dh6:=eq_of_beq (e5.trans h6);have dh9:=ne_of_beq_false (e8.trans h9));rw [← hr];unfold zp;clear hr;(repeat' split)<;>first | rfl | omega | (exfalso;simp_all;done) | (exfalso;simp_all;omega)
     rw [r0];exact h
   | false =>
    obtain ⟨v7,e7⟩:∃v,((e.op == (4:Int)))=v:=⟨_,rfl⟩
    cases h8:v7 with
    | true =>
     obtain ⟨v9,e9⟩:∃v,((e.l.length:Int))=v:=⟨_,rfl⟩
     obtain ⟨v10,e10⟩:∃v,((v9 == (2:Int)))=v:=⟨_,rfl⟩
     cases h11:v10 with
     | true =>
      obtain ⟨v12,e12⟩:∃v,((e.n == (0:Int)))=v:=⟨_,rfl⟩
      cases h13:v12 with
      | true =>
       refine Fun.imp (zfm e a v1 v3 v5 v7 v9 v10 v12 e1 e3 e5 e7 e9 e10 e12 h2 h4 h6 h8 h11 h13) (fun _ _ _ h=>h) (fun v W D h=>?_)
       have r0:r=(0:Int):=by
        (have dh2:=ne_of_beq_false (e1.trans h2);have dh4:=ne_of_beq_false (e3.trans h4);have dh6:=ne_of_beq_false (e5.trans h6);have dh8:=eq_of_beq (e7.trans h8);have dh11:=eq_of_beq (e10.trans h11);have dh13:=eq_of_beq (e12.trans h13));rw [← hr];unfold zp;clear hr;(repeat' split)<;>first | rfl | omega | (exfalso;simp_all;done) | (exfalso;simp_all;omega)
       rw [r0];exact h
      | false =>
       refine Fun.imp (zfn e a v1 v3 v5 v7 v9 v10 v12 e1 e3 e5 e7 e9 e10 e12 h2 h4 h6 h8 h11 h13) (fun _ _ _ h=>h) (fun v W D h=>?_)
       have r0:r=(4:Int):=by
        (have dh2:=ne_of_beq_false (e1.trans h2);have dh4:=ne_of_beq_false (e3.trans h4);have dh6:=ne_of_beq_false (e5.trans h6);have dh8:=eq_of_beq (e7.trans h8);have dh11:=eq_of_beq (e10.trans h11);have dh13:=ne_of_beq_false (e12.trans h13));rw [← hr];unfold zp;clear hr;(repeat' split)<;>first | rfl | omega | (exfalso;simp_all;done) | (exfalso;simp_all;omega)
       rw [r0];exact h
     | false =>
      refine Fun.imp (zfo e a v1 v3 v5 v7 v9 v10 e1 e3 e5 e7 e9 e10 h2 h4 h6 h8 h11) (fun _ _ _ h=>h) (fun v W D h=>?_)
      have r0:r=(4:Int):=by
       (have dh2:=ne_of_beq_false (e1.trans h2);have dh4:=ne_of_beq_false (e3.trans h4);have dh6:=ne_of_beq_false (e5.trans h6);have dh8:=eq_of_beq (e7.trans h8);have dh11:=ne_of_beq_false (e10.trans h11));rw [← hr];unfold zp;clear hr;(repeat' split)<;>first | rfl | omega | (exfalso;simp_all;done) | (exfalso;simp_all;omega)
      rw [r0];exact h
    | false =>
     obtain ⟨v9,e9⟩:∃v,((e.op == (5:Int)))=v:=⟨_,rfl⟩
     cases h10:v9 with
     | true =>
      obtain ⟨v11,e11⟩:∃v,((e.l.length:Int))=v:=⟨_,rfl⟩
      obtain ⟨v12,e12⟩:∃v,((v11 == (2:Int)))=v:=⟨_,rfl⟩
      cases h13:v12 with
      | true =>
       obtain ⟨v14,e14⟩:∃v,((e.n == (0:Int)))=v:=⟨_,rfl⟩
       cases h15:v14 with
       | true =>
        refine Fun.imp (zfp e a v1 v3 v5 v7 v9 v11 v12 v14 e1 e3 e5 e7 e9 e11 e12 e14 h2 h4 h6 h8 h10 h13 h15) (fun _ _ _ h=>h) (fun v W D h=>?_)
        have r0:r=(0:Int):=by
         (have dh2:=ne_of_beq_false (e1.trans h2);have dh4:=ne_of_beq_false (e3.trans h4);have dh6:=ne_of_beq_false (e5.trans h6);have dh8:=ne_of_beq_false (e7.trans h8);have dh10:=eq_of_beq (e9.trans h10);have dh13:=eq_of_beq (e12.trans h13);have dh15:=eq_of_beq (e14.trans h15));rw [← hr];unfold zp;clear hr;(repeat' split)<;>first | rfl | omega | (exfalso;simp_all;done) | (exfalso;simp_all;omega)
        rw [r0];exact h
       | false =>
        refine Fun.imp (zfq e a v1 v3 v5 v7 v9 v11 v12 v14 e1 e3 e5 e7 e9 e11 e12 e14 h2 h4 h6 h8 h10 h13 h15) (fun _ _ _ h=>h) (fun v W D h=>?_)
        have r0:r=(4:Int):=by
         (have dh2:=ne_of_beq_false (e1.trans h2);have dh4:=ne_of_beq_false (e3.trans h4);have dh6:=ne_of_beq_false (e5.trans h6);have dh8:=ne_of_beq_false (e7.trans h8);have dh10:=eq_of_beq (e9.trans h10);have dh13:=eq_of_beq (e12.trans h13);have dh15:=ne_of_beq_false (e14.trans h15));rw [← hr];unfold zp;clear hr;(repeat' split)<;>first | rfl | omega | (exfalso;simp_all;done) | (exfalso;simp_all;omega)
        rw [r0];exact h
      | false =>
       refine Fun.imp (zfr e a v1 v3 v5 v7 v9 v11 v12 e1 e3 e5 e7 e9 e11 e12 h2 h4 h6 h8 h10 h13) (fun _ _ _ h=>h) (fun v W D h=>?_)
       have r0:r=(4:Int):=by
        (have dh2:=ne_of_beq_false (e1.trans h2);have dh4:=ne_of_beq_false (e3.trans h4);have dh6:=ne_of_beq_false (e5.trans h6);have dh8:=ne_of_beq_false (e7.trans h8);have dh10:=eq_of_beq (e9.trans h10);have dh13:=ne_of_beq_false (e12.trans h13));rw [← hr];unfold zp;clear hr;(repeat' split)<;>first | rfl | omega | (exfalso;simp_all;done) | (exfalso;simp_all;omega)
       rw [r0];exact h
     | false =>
      obtain ⟨v11,e11⟩:∃v,((e.op == (6:Int)))=v:=⟨_,rfl⟩
      cases h12:v11 with
      | true =>
       obtain ⟨v13,e13⟩:∃v,((e.l.length:Int))=v:=⟨_,rfl⟩
       obtain ⟨v14,e14⟩:∃v,((v13 == (2:Int)))=v:=⟨_,rfl⟩
       cases h15:v14 with
       | true =>
        obtain ⟨v16,e16⟩:∃v,((e.n == (0:Int)))=v:=⟨_,rfl⟩
        cases h17:v16 with
        | true =>
         refine Fun.imp (zfs e a v1 v3 v5 v7 v9 v11 v13 v14 v16 e1 e3 e5 e7 e9 e11 e13 e14 e16 h2 h4 h6 h8 h10 h12 h15 h17) (fun _ _ _ h=>h) (fun v W D h=>?_)
         have r0:r=(0:Int):=by
          (have dh2:=ne_of_beq_false (e1.trans h2);have dh4:=ne_of_beq_false (e3.trans h4);have dh6:=ne_of_beq_false (e5.trans h6);have dh8:=ne_of_beq_false (e7.trans h8);have dh10:=ne_of_beq_false (e9.trans h10);have dh12:=eq_of_beq (e11.trans h12);have dh15:=eq_of_beq (e14.trans h15);have dh17:=eq_of_beq (e16.trans h17));rw [← hr];unfold zp;clear hr;(repeat' split)<;>first | rfl | omega | (exfalso;simp_all;done) | (exfalso;simp_all;omega)
         rw [r0];exact h
        | false =>
         refine Fun.imp (zft e a v1 v3 v5 v7 v9 v11 v13 v14 v16 e1 e3 e5 e7 e9 e11 e13 e14 e16 h2 h4 h6 h8 h10 h12 h15 h17) (fun _ _ _ h=>h) (fun v W D h=>?_)
         have r0:r=(4:Int):=by
          (have dh2:=ne_of_beq_false (e1.trans h2);have dh4:=ne_of_beq_false (e3.trans h4);have dh6:=ne_of_beq_false (e5.trans h6);have dh8:=ne_of_beq_false (e7.trans h8);have dh10:=ne_of_beq_false (e9.trans h10);have dh12:=eq_of_beq (e11.trans h12);have dh15:=eq_of_beq (e14.trans h15);have dh17:=ne_of_beq_false (e16.trans h17));rw [← hr];unfold zp;clear hr;(repeat' split)<;>first | rfl | omega | (exfalso;simp_all;done) | (exfalso;simp_all;omega)
         rw [r0];exact h
       | false =>
        refine Fun.imp (zfu e a v1 v3 v5 v7 v9 v11 v13 v14 e1 e3 e5 e7 e9 e11 e13 e14 h2 h4 h6 h8 h10 h12 h15) (fun _ _ _ h=>h) (fun v W D h=>?_)
        have r0:r=(4:Int):=by
         (have dh2:=ne_of_beq_false (e1.trans h2);have dh4:=ne_of_beq_false (e3.trans h4);have dh6:=ne_of_beq_false (e5.trans h6);have dh8:=ne_of_beq_false (e7.trans h8);have dh10:=ne_of_beq_false (e9.trans h10);have dh12:=eq_of_beq (e11.trans h12);have dh15:=ne_of_beq_false (e14.trans h15));rw [← hr];unfold zp;clear hr;(repeat' split)<;>first | rfl | omega | (exfalso;simp_all;done) | (exfalso;simp_all;omega)
        rw [r0];exact h
      | false =>
       obtain ⟨v13,e13⟩:∃v,((e.op == (7:Int)))=v:=⟨_,rfl⟩
       cases h14:v13 with
       | true =>
        obtain ⟨v15,e15⟩:∃v,((e.l.length:Int))=v:=⟨_,rfl⟩
        obtain ⟨v16,e16⟩:∃v,((v15 == (2:Int)))=v:=⟨_,rfl⟩
        cases h17:v16 with
        | true =>
         obtain ⟨v18,e18⟩:∃v,((e.n == (0:Int)))=v:=⟨_,rfl⟩
         cases h19:v18 with
         | true =>
          refine Fun.imp (zfv e a v1 v3 v5 v7 v9 v11 v13 v15 v16 v18 e1 e3 e5 e7 e9 e11 e13 e15 e16 e18 h2 h4 h6 h8 h10 h12 h14 h17 h19) (fun _ _ _ h=>h) (fun v W D h=>?_)
          have r0:r=(0:Int):=by
           (have dh2:=ne_of_beq_false (e1.trans h2);have dh4:=ne_of_beq_false (e3.trans h4);have dh6:=ne_of_beq_false (e5.trans h6);have dh8:=ne_of_beq_false (e7.trans h8);have dh10:=ne_of_beq_false (e9.trans h10);have dh12:=ne_of_beq_false (e11.trans h12);have dh14:=eq_of_beq (e13.trans h14);have dh17:=eq_of_beq (e16.trans h17);have dh19:=eq_of_beq (e18.trans h19));rw [← hr];unfold zp;clear hr;(repeat' split)<;>first | rfl | omega | (exfalso;simp_all;done) | (exfalso;simp_all;omega)
          rw [r0];exact h
         | false =>
          refine Fun.imp (zfw e a v1 v3 v5 v7 v9 v11 v13 v15 v16 v18 e1 e3 e5 e7 e9 e11 e13 e15 e16 e18 h2 h4 h6 h8 h10 h12 h14 h17 h19) (fun _ _ _ h=>h) (fun v W D h=>?_)
          have r0:r=(4:Int):=by
           (have dh2:=ne_of_beq_false (e1.trans h2);have dh4:=ne_of_beq_false (e3.trans h4);have dh6:=ne_of_beq_false (e5.trans h6);have dh8:=ne_of_beq_false (e7.trans h8);have dh10:=ne_of_beq_false (e9.trans h10);have dh12:=ne_of_beq_false (e11.trans h12);have dh14:=eq_of_beq (e13.trans h14);have dh17:=eq_of_beq (e16.trans h17);have dh19:=ne_of_beq_false (e18.trans h19));rw [← hr];unfold zp;clear hr;(repeat' split)<;>first | rfl | omega | (exfalso;simp_all;done) | (exfalso;simp_all;omega)
          rw [r0];exact h
        | false =>
         refine Fun.imp (zfx e a v1 v3 v5 v7 v9 v11 v13 v15 v16 e1 e3 e5 e7 e9 e11 e13 e15 e16 h2 h4 h6 h8 h10 h12 h14 h17) (fun _ _ _ h=>h) (fun v W D h=>?_)
         have r0:r=(4:Int):=by
          (have dh2:=ne_of_beq_false (e1.trans h2);have dh4:=ne_of_beq_false (e3.trans h4);have dh6:=ne_of_beq_false (e5.trans h6);have dh8:=ne_of_beq_false (e7.trans h8);have dh10:=ne_of_beq_false (e9.trans h10);have dh12:=ne_of_beq_false (e11.trans h12);have dh14:=eq_of_beq (e13.trans h14);have dh17:=ne_of_beq_false (e16.trans h17));rw [← hr];unfold zp;clear hr;(repeat' split)<;>first | rfl | omega | (exfalso;simp_all;done) | (exfalso;simp_all;omega)
         rw [r0];exact h
       | false =>
        refine Fun.imp (zfy e a v1 v3 v5 v7 v9 v11 v13 e1 e3 e5 e7 e9 e11 e13 h2 h4 h6 h8 h10 h12 h14) (fun _ _ _ h=>h) (fun v W D h=>?_)
        have r0:r=(4:Int):=by
         (have dh2:=ne_of_beq_false (e1.trans h2);have dh4:=ne_of_beq_false (e3.trans h4);have dh6:=ne_of_beq_false (e5.trans h6);have dh8:=ne_of_beq_false (e7.trans h8);have dh10:=ne_of_beq_false (e9.trans h10);have dh12:=ne_of_beq_false (e11.trans h12);have dh14:=ne_of_beq_false (e13.trans h14));rw [← hr];unfold zp;clear hr;(repeat' split)<;>first | rfl | omega | (exfalso;simp_all;done) | (exfalso;simp_all;omega)
        rw [r0];exact h
end Go.Proofs.YtdkofaajcpcjkaaDoor
