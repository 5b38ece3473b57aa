/-
  Merged: ExDec, ExRead, ExRef, ExLaw, ExA, ExB.
-/
import Derived.WalkKit
import Derived.Lib.ItoaNum
import Derived.Lib.ParseIntB
import Derived.Test.YtdkofaajcpcjkaaDoorMeI
import Derived.Test.YtdkofaajcpcjkaaDoorMeC
import Derived.Test.YtdkofaajcpcjkaaDoorMeG
set_option linter.unusedSimpArgs false
set_option linter.unusedVariables false
set_option maxRecDepth 100000
namespace Go.Proofs.YtdkofaajcpcjkaaDoor
def db (d:Nat):UInt8:=UInt8.ofNat (48+d)
theorem zg5 {d:Nat} (h:d<10):(db d).toNat=48+d:=by
 unfold db;rw [UInt8.toNat_ofNat'];omega
def dd (v:Nat):List UInt8:=if v=0 then [] else dd (v / 10)++[db (v%10)]
termination_by v
decreasing_by omega
theorem zcK:dd 0=[]:=by rw [dd];rfl
theorem zcJ {v:Nat} (h:v≠0):dd v=dd (v / 10)++[db (v%10)]:=by rw [dd,if_neg h]
theorem zds:∀v:Nat,v≠0→Lib.decDigits v=dd v:=by
 intro v
 induction v using Nat.strongRecOn with
 | _ v ih =>
  intro h
  rw [Lib.decDigits,zcJ h]
  by_cases h2:v<10
  ·rw [dif_pos h2,show v / 10=0 by omega,zcK,show v%10=v by omega];rfl
  ·rw [dif_neg h2,ih (v / 10) (by omega) (by omega)];rfl
theorem zcu:Lib.decDigits 0=[48]:=by rw [Lib.decDigits,dif_pos (by omega)];rfl
def dvalA (a:Nat) (l:List UInt8):Nat:=l.foldl (fun a b=>a*10+(b.toNat - 48)) a
def dval (l:List UInt8):Nat:=dvalA 0 l
theorem zeI (a:Nat) (l r:List UInt8):dvalA a (l++r)=dvalA (dvalA a l) r:=List.foldl_append
theorem zf2 (l r:List UInt8):dval (l++r)=dvalA (dval l) r:=zeI 0 l r
theorem zly (l:List UInt8) (a:Nat):dvalA a l=a*10 ^ l.length+dval l:=by
 induction l generalizing a with
 | nil=>simp [dvalA,dval]
 | cons b l ih =>
  have e:dvalA a (b::l)=dvalA (a*10+(b.toNat - 48)) l:=rfl
  have e2:dval (b::l)=dvalA (0*10+(b.toNat - 48)) l:=rfl
  rw [e,e2,ih,ih (0*10+(b.toNat - 48)),List.length_cons,Nat.pow_succ]
  rw [Nat.zero_mul,Nat.zero_add,Nat.add_mul,Nat.mul_assoc,Nat.mul_comm 10,Nat.add_assoc]
theorem zjc (l:List UInt8) (b:UInt8):dval (l++[b])=dval l*10+(b.toNat - 48):=by rw [zf2];rfl
theorem zm3:∀v:Nat,dval (dd v)=v:=by
 intro v
 induction v using Nat.strongRecOn with
 | _ v ih =>
  by_cases h:v=0
  ·subst h;rw [zcK];rfl
  ·rw [zcJ h,zjc,ih _ (by omega),zg5 (by omega)];omega
theorem zhb (v:Nat):dval (Lib.decDigits v)=v:=by
 by_cases h:v=0
 ·subst h;rw [zcu];rfl
 ·rw [zds v h,zm3]
def AllD (l:List UInt8):Prop:=∀b∈l,48≤b.toNat∧b.toNat≤57
instance (l:List UInt8):Decidable (AllD l):=inferInstanceAs (Decidable (∀b∈l,48≤b.toNat∧b.toNat≤57))
theorem zfX {l r:List UInt8}:AllD (l++r)↔AllD l∧AllD r:=by
 simp only [AllD,List.mem_append]
 exact ⟨fun h=>⟨fun d hd=>h d (.inl hd),fun d hd=>h d (.inr hd)⟩,fun h d hd=>hd.elim (h.1 d) (h.2 d)⟩
theorem zmZ:∀v:Nat,AllD (dd v):=by
 intro v
 induction v using Nat.strongRecOn with
 | _ v ih =>
  by_cases h:v=0
  ·subst h;rw [zcK];intro b hb;cases hb
  ·rw [zcJ h,zfX]
   refine ⟨ih _ (by omega),fun b hb=>?_⟩
   rw [List.mem_singleton.1 hb,zg5 (by omega)];omega
theorem zbv (v:Nat):AllD (Lib.decDigits v):=by
 by_cases h:v=0
 ·subst h;rw [zcu];intro b hb;rw [List.mem_singleton.1 hb];decide
 ·rw [zds v h];exact zmZ v
def sgnD (g:Bool) (v:Nat):Int:=if g=true then -(v:Int) else v
def cutN (s:List UInt8):Bool:=decide (s.head?=some 45)
def cutR (s:List UInt8):List UInt8:=if s.head?=some 45 then s.tail else s
def valS (s:List UInt8):Int:=sgnD (cutN s) (dval (cutR s))
theorem zdt (v:Nat):Lib.decDigits v≠[]:=by
 intro h
 have:=Lib.nDigits_pos v
 rw [← Lib.decDigits_length,h] at this
 simp at this
theorem zeb (x:Int):cutN (Lib.itoa x)=decide (x<0)∧cutR (Lib.itoa x)=Lib.decDigits x.natAbs:=by
 unfold Lib.itoa
 by_cases h:x<0
 ·rw [if_pos h]
  simp [cutN,cutR,h]
 ·rw [if_neg h,show x.toNat=x.natAbs by omega]
  have h1:¬ (Lib.decDigits x.natAbs).head?=some 45:=by
   intro e
   have:=zbv x.natAbs 45 (List.mem_of_mem_head? e)
   exact absurd this.1 (by decide)
  simp [cutN,cutR,h,h1]
theorem zke (x:Int):valS (Lib.itoa x)=x:=by
 unfold valS
 rw [(zeb x).1,(zeb x).2,zhb]
 unfold sgnD
 by_cases h:x<0
 ·simp [h];omega
 ·simp [h];omega
def intW (w:List UInt8):Option Int:=if Lib.itoa (valS w)=w∧-9223372036854775808≤valS w∧valS w<9223372036854775808 then some (valS w) else none
theorem zay {n:Int} (h:-9223372036854775808≤n∧n<9223372036854775808):intW (Lib.itoa n)=some n:=by
 unfold intW
 rw [zke,if_pos ⟨rfl,h⟩]
theorem zaV {w:List UInt8} {n:Int} (h:intW w=some n):w=Lib.itoa n∧-9223372036854775808≤n∧n<9223372036854775808:=by
 unfold intW at h
 split at h
 ·rename_i hc
  injection h with h
  subst h
  exact ⟨hc.1.symm,hc.2⟩
 ·cases h
theorem zdz (n:Int):∀b∈Lib.itoa n,b=45∨(48≤b.toNat∧b.toNat≤57):=by
 unfold Lib.itoa
 split
 ·intro b hb
  rcases List.mem_cons.1 hb with rfl | hb
  ·exact .inl rfl
  ·exact .inr (zbv _ b hb)
 ·intro b hb
  exact .inr (zbv _ b hb)
theorem zcT (n:Int):Lib.itoa n≠[]:=by
 unfold Lib.itoa
 split
 ·simp
 ·exact zdt _
end Go.Proofs.YtdkofaajcpcjkaaDoor
namespace Go.Proofs.YtdkofaajcpcjkaaDoor
def isDel (b:UInt8):Bool:=b == 32 || b == 40 || b == 41
def wordW (s:List UInt8):List UInt8:=s.takeWhile fun b=>!isDel b
def restW (s:List UInt8):List UInt8:=s.dropWhile fun b=>!isDel b
theorem qZ (s:List UInt8):wordW s++restW s=s:=List.takeWhile_append_dropWhile
def Del (r:List UInt8):Prop:=∀b,r.head?=some b→isDel b=true
theorem zcC {w r:List UInt8} (hw:∀b∈w,isDel b=false) (hr:Del r):wordW (w++r)=w∧restW (w++r)=r:=by
 induction w with
 | nil =>
  cases r with
  | nil=>exact ⟨rfl,rfl⟩
  | cons b r =>
   have:=hr b rfl
   simp [wordW,restW,this]
 | cons c w ih =>
  have h1:=hw c (List.mem_cons_self ..)
  obtain ⟨e1,e2⟩:=ih fun b hb=>hw b (List.mem_cons_of_mem _ hb)
  constructor
  ·show (List.takeWhile _ (c::(w++r)))=_
   rw [List.takeWhile_cons,h1]
   exact congrArg (c::·) e1
  ·show (List.dropWhile _ (c::(w++r)))=_
   rw [List.dropWhile_cons,h1]
   exact e2
def opOf (w:List UInt8):Option Int:=if w=[43] then some 3 else if w=[45] then some 4 else if w=[42] then some 5 else if w=[109,105,110] then some 6 else if w=[109,97,120] then some 7 else none
theorem zeU {w:List UInt8} {o:Int} (h:opOf w=some o):3≤o∧o≤7∧w=opW o:=by
 unfold opOf at h
 split at h
 ·injection h with h;subst h;exact ⟨by decide,by decide,by assumption⟩
 split at h
 ·injection h with h;subst h;exact ⟨by decide,by decide,by assumption⟩
 split at h
 ·injection h with h;subst h;exact ⟨by decide,by decide,by assumption⟩
 split at h
 ·injection h with h;subst h;exact ⟨by decide,by decide,by assumption⟩
 split at h
 ·injection h with h;subst h;exact ⟨by decide,by decide,by assumption⟩
 ·cases h
theorem zlM {o:Int} (h0:3≤o) (h1:o≤7):opOf (opW o)=some o:=by
 have:o=3∨o=4∨o=5∨o=6∨o=7:=by omega
 rcases this with rfl | rfl | rfl | rfl | rfl<;>decide
theorem zno (o:Int):∀b∈opW o,isDel b=false:=by
 unfold opW
 intro b hb
 split at hb
 ·revert b;decide
 split at hb
 ·revert b;decide
 split at hb
 ·revert b;decide
 split at hb
 ·revert b;decide
 ·revert b;decide
def takeC (c:UInt8):List UInt8→Option (List UInt8)
 | b::r=>if b=c then some r else none
 | []=>none
theorem qO {c:UInt8} {s r:List UInt8} (h:takeC c s=some r):s=c::r:=by
 cases s with
 | nil=>cases h
 | cons b t =>
  have h':(if b=c then some t else none)=some r:=h
  by_cases e:b=c
  ·rw [if_pos e] at h'
   injection h' with h'
   rw [e,h']
  ·rw [if_neg e] at h';cases h'
theorem zaE (c:UInt8) (r:List UInt8):takeC c (c::r)=some r:=by simp [takeC]
def leafP (w:List UInt8):Option Xp:=match takeC 36 w with
 | some d=>(intW d).map fun n=>.mk 2 n []
 | none=>(intW w).map fun n=>.mk 1 n []
def readP:Nat→List UInt8→Option (Xp×List UInt8)
 | 0,_=>none
 | f+1,s=>match takeC 40 s with
  | none=>(leafP (wordW s)).map fun e=>(e,restW s)
  | some s1=>match opOf (wordW s1) with
   | none=>none
   | some o=>match takeC 32 (restW s1) with
    | none=>none
    | some s2=>match readP f s2 with
     | none=>none
     | some (a,s3)=>match takeC 32 s3 with
      | none=>none
      | some s4=>match readP f s4 with
       | none=>none
       | some (b,s5)=>match takeC 41 s5 with
        | none=>none
        | some s6=>some (.mk o 0 [a,b],s6)
theorem qP (n:Int) (l:List Xp):zJ (.mk 1 n l)=Lib.itoa n:=by rw [zJ,if_pos rfl]
theorem zab (n:Int) (l:List Xp):zJ (.mk 2 n l)=36::Lib.itoa n:=by rw [zJ,if_neg (by decide),if_pos rfl]
theorem za3 {o:Int} (h0:3≤o) (n:Int) (a b:Xp):zJ (.mk o n [a,b])=40::(opW o++(32::zJ a++(32::zJ b))++[41]):=by
 rw [zJ,if_neg (by omega),if_neg (by omega),ze0,ze0,ze0,List.append_nil]
theorem zdA {w:List UInt8} {e:Xp} (h:leafP w=some e):w=zJ e:=by
 unfold leafP at h
 split at h
 ·rename_i d hd
  cases hi:intW d with
  | none=>rw [hi] at h;cases h
  | some n =>
   rw [hi] at h
   injection h with h
   subst h
   rw [zab,qO hd,(zaV hi).1]
 ·cases hi:intW w with
  | none=>rw [hi] at h;cases h
  | some n =>
   rw [hi] at h
   injection h with h
   subst h
   rw [qP];exact (zaV hi).1
theorem zgg:∀(f:Nat) (s:List UInt8) (e:Xp) (r:List UInt8),readP f s=some (e,r)→s=zJ e++r:=by
 intro f
 induction f with
 | zero=>intro s e r h;cases h
 | succ f ih =>
  intro s e r h
  rw [readP] at h
  split at h
  ·cases hl:leafP (wordW s) with
   | none=>rw [hl] at h;cases h
   | some x =>
    rw [hl] at h
    simp only [Option.map_some,Option.some.injEq,Prod.mk.injEq] at h
    obtain ⟨rfl,rfl⟩:=h
    rw [← zdA hl,qZ]
  ·rename_i s1 h1
   split at h
   ·cases h
   rename_i o ho
   split at h
   ·cases h
   rename_i s2 h2
   split at h
   ·cases h
   rename_i a s3 h3
   split at h
   ·cases h
   rename_i s4 h4
   split at h
   ·cases h
   rename_i b s5 h5
   split at h
   ·cases h
   rename_i s6 h6
   simp only [Option.some.injEq,Prod.mk.injEq] at h
   obtain ⟨rfl,rfl⟩:=h
   obtain ⟨o0,_,hw⟩:=zeU ho
   rw [za3 o0,qO h1,← hw]
   have e2:=qO h2
   have e3:=ih _ _ _ h3
   have e4:=qO h4
   have e5:=ih _ _ _ h5
   have e6:=qO h6
   have:restW s1=32::(zJ a++32::(zJ b++41::s6)):=by rw [e2,e3,e4,e5,e6]
   simp only [List.cons_append,List.append_assoc,List.singleton_append,List.nil_append]
   rw [← this,qZ]
theorem zhn (n:Int):∀b∈Lib.itoa n,isDel b=false:=by
 intro b hb
 rcases zdz n b hb with rfl | ⟨h1,h2⟩
 ·decide
 ·unfold isDel
  have e:∀c:UInt8,(c.toNat<48)→(b == c)=false:=by
   intro c hc
   rw [beq_eq_false_iff_ne]
   rintro rfl;omega
  rw [e 32 (by decide),e 40 (by decide),e 41 (by decide)];rfl
theorem zeO (n:Int):∀c:UInt8,c=36∨c=40→takeC c (Lib.itoa n)=none:=by
 intro c hc
 cases hi:Lib.itoa n with
 | nil=>exact absurd hi (zcT n)
 | cons b t =>
  show (if b=c then some t else none)=none
  rw [if_neg]
  rintro rfl
  have:=zdz n b (by rw [hi];exact List.mem_cons_self ..)
  rcases hc with rfl | rfl
  ·rcases this with h | h
   ·exact absurd h (by decide)
   ·exact absurd h.1 (by decide)
  ·rcases this with h | h
   ·exact absurd h (by decide)
   ·exact absurd h.1 (by decide)
theorem zkb {c:UInt8} {s r:List UInt8} (hs:s≠[]) (h:takeC c s=none):takeC c (s++r)=none:=by
 cases s with
 | nil=>exact absurd rfl hs
 | cons b t =>
  have h':(if b=c then some t else none)=none:=h
  show (if b=c then some (t++r) else none)=none
  by_cases e:b=c
  ·rw [if_pos e] at h';cases h'
  ·rw [if_neg e]
theorem zlw (o n:Int) (a b:Xp):depth (.mk o n [a,b])=max (depth a+1) (depth b+1):=by
 rw [depth,zcj,zcj,zcj];omega
theorem zmP {n:Int} (h:valB n=true):-9223372036854775808≤n∧n<9223372036854775808:=by
 have:=zbf.1 h;omega
theorem zgh {args:Int}:∀{e:Xp},Vx args e→∀(f:Nat) (r:List UInt8),depth e<f→Del r→readP f (zJ e++r)=some (e,r):=by
 intro e h
 induction h with
 | @num n hv =>
  intro f r hf hr
  obtain ⟨f,rfl⟩:∃g,f=g+1:=⟨f - 1,by omega⟩
  rw [qP,readP,zkb (zcT n) (zeO n 40 (.inr rfl))]
  obtain ⟨e1,e2⟩:=zcC (zhn n) hr
  simp only [e1,e2]
  unfold leafP
  rw [zeO n 36 (.inl rfl)]
  simp only [zay (zmP hv),Option.map_some]
 | @arg n h0 h1 =>
  intro f r hf hr
  obtain ⟨f,rfl⟩:∃g,f=g+1:=⟨f - 1,by omega⟩
  have hd:∀b∈(36::Lib.itoa n),isDel b=false:=by
   intro b hb
   rcases List.mem_cons.1 hb with rfl | hb
   ·decide
   ·exact zhn n b hb
  have ht:takeC 40 ((36::Lib.itoa n)++r)=none:=by simp [takeC]
  rw [zab,readP,ht]
  obtain ⟨e1,e2⟩:=zcC hd hr
  simp only [e1,e2]
  unfold leafP
  rw [zaE]
  simp only [zay (n:=n) (by omega),Option.map_some]
 | @op o a b h0 h1 ha hb iha ihb =>
  intro f r hf hr
  rw [zlw] at hf
  obtain ⟨f,rfl⟩:∃g,f=g+1:=⟨f - 1,by omega⟩
  have e0:zJ (.mk o 0 [a,b])++r=40::(opW o++(32::(zJ a++(32::(zJ b++(41::r)))))):=by rw [za3 h0];simp
  rw [e0,readP,zaE]
  obtain ⟨e1,e2⟩:=zcC (r:=32::(zJ a++(32::(zJ b++(41::r))))) (zno o) (by intro b hb;injection hb with hb;subst hb;rfl)
  simp only [e1,e2,zlM h0 h1,zaE]
  rw [iha f _ (by omega) (by intro b hb;injection hb with hb;subst hb;rfl)]
  simp only [zaE]
  rw [ihb f _ (by omega) (by intro b hb;injection hb with hb;subst hb;rfl)]
  simp only [zaE]
def qB (s:List UInt8):Option Xp:=match readP 30 s with
 | some (e,[])=>if zO e 4=0 then some e else none
 | _=>none
theorem zhL {s:List UInt8} {e:Xp}:qB s=some e↔zO e 4=0∧zJ e=s:=by
 constructor
 ·intro h
  unfold qB at h
  split at h
  ·rename_i e' hr
   split at h
   ·rename_i hc
    injection h with h
    subst h
    have:=zgg _ _ _ _ hr
    rw [List.append_nil] at this
    exact ⟨hc,this.symm⟩
   ·cases h
  ·cases h
 ·rintro ⟨hc,rfl⟩
  obtain ⟨hn,hv⟩:=zat.1 hc
  have:=zg7 e
  have hr:=zgh hv 30 [] (by omega) (by intro b hb;cases hb)
  rw [List.append_nil] at hr
  unfold qB
  rw [hr]
  simp only [hc,if_true]
end Go.Proofs.YtdkofaajcpcjkaaDoor
namespace Go.Proofs.YtdkofaajcpcjkaaDoor
theorem zn5:∀v:Nat,v≠0→10 ^ ((dd v).length - 1)≤v:=by
 intro v
 induction v using Nat.strongRecOn with
 | _ v ih =>
  intro h
  rw [zcJ h,List.length_append,List.length_singleton,Nat.add_sub_cancel]
  by_cases h2:v<10
  ·rw [show v / 10=0 by omega,zcK];simp;omega
  ·have h3:v / 10≠0:=by omega
   have h4:=ih (v / 10) (by omega) h3
   have h5:0<(dd (v / 10)).length:=by rw [zcJ h3];simp
   rw [show (dd (v / 10)).length=((dd (v / 10)).length - 1)+1 by omega,Nat.pow_succ]
   omega
theorem zg6 {v:Nat} (h:v≤1048576):(Lib.decDigits v).length≤7:=by
 by_cases h0:v=0
 ·subst h0;rw [zcu];simp
 ·rw [zds v h0]
  have h1:=Nat.lt_of_le_of_lt (zn5 v h0) (show v<10 ^ 7 by omega)
  have:=(Nat.pow_lt_pow_iff_right (a:=10) (by decide)).1 h1
  omega
def modX (n m:Int):Int:=if m<1 then 0 else (IntKind.i64.wrap (n.tmod m+m)).tmod m
def drawX (l:List Int) (n:Int):Int×List Int:=match l with
 | []=>(0,[])
 | x::r=>(modX x n,r)
def madeX (args:Int):Nat→List Int→Xp×List Int
 | 0,l=>if (drawX l 10).1%2=1∧0<args then (.mk 2 (drawX (drawX l 10).2 args).1 [],(drawX (drawX l 10).2 args).2) else (.mk 1 ((drawX (drawX l 10).2 17).1 - 8) [],(drawX (drawX l 10).2 17).2)
 | d+1,l=>if (drawX l 10).1<4 then (if (drawX l 10).1%2=1∧0<args then (.mk 2 (drawX (drawX l 10).2 args).1 [],(drawX (drawX l 10).2 args).2) else (.mk 1 ((drawX (drawX l 10).2 17).1 - 8) [],(drawX (drawX l 10).2 17).2))
  else (.mk (3+(drawX (drawX l 10).2 5).1) 0 [(madeX args d (drawX (drawX l 10).2 5).2).1,(madeX args d (madeX args d (drawX (drawX l 10).2 5).2).2).1],(madeX args d (madeX args d (drawX (drawX l 10).2 5).2).2).2)
theorem zeg {n m:Int} (h:0<m) (h2:m≤1000):0≤modX n m∧modX n m<m:=by
 unfold modX
 rw [if_neg (by omega)]
 have a1:=Int.tmod_lt_of_pos n h
 have a2:=Int.lt_tmod_of_pos n h
 have hw:∀x:Int,IntKind.i64.wrap x=(x+9223372036854775808)%18446744073709551616 - 9223372036854775808:=fun x=>IntKind.wrap_i64 x
 have e:IntKind.i64.wrap (n.tmod m+m)=n.tmod m+m:=by rw [hw];omega
 rw [e,Int.tmod_eq_emod_of_nonneg (by omega)]
 exact ⟨Int.emod_nonneg _ (by omega),Int.emod_lt_of_pos _ h⟩
theorem zt {l:List Int} {m:Int} (h:0<m) (h2:m≤1000):0≤(drawX l m).1∧(drawX l m).1<m:=by
 cases l with
 | nil=>exact ⟨Int.le_refl _,h⟩
 | cons x r=>exact zeg h h2
theorem zlE {args:Int} (h0:0≤args) (h1:args≤4):∀(d:Nat) (l:List Int),Vx args (madeX args d l).1∧nodes (madeX args d l).1+1≤2 ^ (d+1):=by
 have leaf:∀l:List Int,Vx args (if (drawX l 10).1%2=1∧0<args then (Xp.mk 2 (drawX (drawX l 10).2 args).1 [],(drawX (drawX l 10).2 args).2) else (.mk 1 ((drawX (drawX l 10).2 17).1 - 8) [],(drawX (drawX l 10).2 17).2)).1∧nodes (if (drawX l 10).1%2=1∧0<args then (Xp.mk 2 (drawX (drawX l 10).2 args).1 [],(drawX (drawX l 10).2 args).2) else (.mk 1 ((drawX (drawX l 10).2 17).1 - 8) [],(drawX (drawX l 10).2 17).2)).1=1:=by
  intro l
  split
  ·rename_i h
   have:=zt (l:=(drawX l 10).2) h.2 (by omega)
   exact ⟨.arg this.1 (by omega),by rw [nodes,zx]⟩
  ·have:=zt (l:=(drawX l 10).2) (m:=17) (by decide) (by decide)
   exact ⟨.num (by rw [zbf];omega),by rw [nodes,zx]⟩
 intro d
 induction d with
 | zero =>
  intro l
  rw [madeX]
  obtain ⟨a,b⟩:=leaf l
  exact ⟨a,by rw [b];decide⟩
 | succ d ih =>
  intro l
  rw [madeX]
  split
  ·obtain ⟨a,b⟩:=leaf l
   have:2≤2 ^ (d+1+1):=Nat.pow_le_pow_right (n:=2) (by decide) (show 1≤d+1+1 by omega)
   exact ⟨a,by rw [b];omega⟩
  ·have h5:=zt (l:=(drawX l 10).2) (m:=5) (by decide) (by decide)
   obtain ⟨a1,a2⟩:=ih (drawX (drawX l 10).2 5).2
   obtain ⟨b1,b2⟩:=ih (madeX args d (drawX (drawX l 10).2 5).2).2
   refine ⟨.op (by omega) (by omega) a1 b1,?_⟩
   rw [nodes,zx,zx,zx,Nat.pow_succ]
   omega
end Go.Proofs.YtdkofaajcpcjkaaDoor
namespace Go.Proofs.YtdkofaajcpcjkaaDoor
def evalE (e:Xp) (args:List Int):Int×Int:=if zO e args.length≠0 then (0,zO e args.length) else match evalX args e with
 | some v=>(v,0)
 | none=>(0,3)
theorem qh {n v:Int} (h:valO n=some v):v=n∧valB v=true:=by
 unfold valO at h
 split at h
 ·rename_i hv;injection h with h;subst h;exact ⟨rfl,hv⟩
 ·cases h
theorem zcN (args:List Int) (n:Int) (l:List Xp):evalX args (.mk 1 n l)=valO n:=by rw [evalX,if_pos rfl]
theorem zcM (args:List Int) (n:Int) (l:List Xp):evalX args (.mk 2 n l)=valO (args.getD n.toNat 0):=by rw [evalX,if_neg (by decide),if_pos rfl]
theorem zcv (args:List Int) {o:Int} (h:3≤o) (n:Int) (a b:Xp):evalX args (.mk o n [a,b])=match evalX args a,evalX args b with
  | some x,some y=>valO (operX o x y)
  | _,_=>none:=by
 rw [evalX,if_neg (by omega),if_neg (by omega),evalL,evalL,evalL]
 cases evalX args a with
 | none=>rfl
 | some x =>
  cases evalX args b with
  | none=>rfl
  | some y=>rfl
theorem zeJ {args:List Int} {k:Int}:∀{e:Xp},Vx k e→∀v,evalX args e=some v→valB v=true:=by
 intro e h
 cases h with
 | num h=>intro v hv;rw [zcN] at hv;exact (qh hv).2
 | arg h0 h1=>intro v hv;rw [zcM] at hv;exact (qh hv).2
 | op h0 h1 ha hb =>
  intro v hv
  rw [zcv args h0] at hv
  split at hv
  ·exact (qh hv).2
  ·cases hv
end Go.Proofs.YtdkofaajcpcjkaaDoor
namespace Go.Proofs.YtdkofaajcpcjkaaDoor
open Go.RowKit
mutual
def cE:Xp→List Pred
 | .mk o n l=>[pI o,pI n,pL l.length (cEs l)]
def cEs:List Xp→List Pred
 | []=>[]
 | x::r=>cE x++cEs r
end
theorem zmy:∀l:List Xp,cEs l=l.flatMap cE
 | []=>by rw [cEs];rfl
 | x::r=>by rw [cEs,zmy r];rfl
theorem cE_eq (e:Xp):cE e=[pI e.op,pI e.n,pLs cE e.l]:=by
 cases e with
 | mk o n l=>rw [cE,zmy];rfl
theorem zm (e:Xp):(cE e).length=3:=by rw [cE_eq];rfl
section
variable {K:Kit}
mutual
theorem zf (hK:K.bad .i64=false):∀e:Xp,FineAll K (cE e)
 | .mk o n l=>by
  rw [cE]
  exact ⟨za (by simp [Kit.ck,ckf,hK]),za (by simp [Kit.ck,ckf,hK]),zmD (zhd hK l),trivial⟩
theorem zhd (hK:K.bad .i64=false):∀l:List Xp,FineAll K (cEs l)
 | []=>by rw [cEs];trivial
 | x::r=>by rw [cEs];exact (zf hK x).append (zhd hK r)
end
end
theorem zeP {x:Xp}:∀{l:List Xp},x∈l→nodes x≤zx l
 | [],h=>by cases h
 | y::r,h=>by
  rw [zx]
  rcases List.mem_cons.1 h with rfl | h
  ·omega
  ·have:=zeP h;omega
end Go.Proofs.YtdkofaajcpcjkaaDoor
namespace Go.Proofs.YtdkofaajcpcjkaaDoor
open Go.RowKit
theorem zbc {l:List Xp} {k:Nat} {x:Xp} (h:l[k]?=some x) (n m:Int):sizeL (l.drop k) n m=if n > m then n else sizeL (l.drop (k+1)) (n+sizeX x (m - n)) m:=by
 obtain ⟨hk,rfl⟩:=List.getElem?_eq_some_iff.1 h
 rw [List.drop_eq_getElem_cons hk,sizeL]
theorem zhx (e:Xp) (m:Int):sizeX e m=sizeL e.l 1 m:=by cases e;rw [sizeX];rfl
theorem zaS {l:List Xp} {k:Nat} {x:Xp} (h:l[k]?=some x) (a:Int):chkL (l.drop k) a=if chkX x a≠0 then chkX x a else chkL (l.drop (k+1)) a:=by
 obtain ⟨hk,rfl⟩:=List.getElem?_eq_some_iff.1 h
 rw [List.drop_eq_getElem_cons hk,chkL]
theorem zeS {e x:Xp} (h:x∈e.l):nodes x+1≤nodes e:=by
 cases e with
 | mk o m l=>rw [nodes];have:=zeP (l:=l) h;omega
theorem zv {e x:Xp} {n N:Nat} (hN:nodes e≤N+1) (h:e.l[n]?=some x):nodes x≤N:=by
 have:=zeS (List.mem_of_getElem? h);omega
theorem qa (e:Xp):e.l.length<nodes e:=by
 have key:∀l:List Xp,l.length≤zx l:=by
  intro l
  induction l with
  | nil=>exact Nat.zero_le _
  | cons x r ih=>rw [zx,List.length_cons];have:=qb x;omega
 cases e with
 | mk o m l=>rw [nodes];have:=key l;exact Nat.lt_of_le_of_lt this (by omega)
theorem zj8 (e:Xp) {m:Int} (h:0≤m):1≤sizeX e m∧sizeX e m≤m+1:=⟨(zbd e m h).2.2.1,(zbd e m h).2.2.2⟩
def q4 (w0:World) (N:Nat):Prop:=∀(x:Xp) (m v:Int),sizeX x m=v→nodes x≤N→0≤m∧m≤1000→Fun (KN w0) Tryd.prog 31 [.o (.g [pI x.op,pI x.n,pLs cE x.l]),.o (.c (pI m))] (.o (.c (pI v)))
structure x_size_l_T where
 i:Int
 n:Int
def zQ:List Atom:=[.sl 0 (.o (.g [.h 0,.h 1,.h 2])),.sl 1 (yh 3),.sl 2 (.o (.c (.p 0 0))),.sl 4 (.o (.c (.k (.int .i64 0)))),.sl 5 (yh 6),.sl 8 (.o (.c (.p 0 2))),.sl 9 (yh 2),.sl 10 (yh 4),.sl 11 (yh 5),.bx 0 31 [.h 0,.h 1,.h 2]]
def qV:LoopS:=⟨3,[.sl 0 (.o (.g [.h 0,.h 1,.h 2])),.sl 1 (yh 3),.sl 2 (.o (.c (.p 0 0))),.sl 4 (.o (.c (.k (.int .i64 0)))),.sl 5 (.o (.c (.k (.int .i64 1)))),.sl 8 (.o (.c (.p 0 2))),.sl 9 (yh 2),.sl 10 (yh 4),.sl 11 (.o (.c (.k (.int .i64 0)))),.bx 0 31 [.h 0,.h 1,.h 2]],(.x 0),[.sl 0 (.o (.g [.h 0,.h 1,.h 2])),.sl 1 (yh 3),.sl 2 (.o (.c (.p 0 0))),.sl 4 (.o (.c (.k (.int .i64 0)))),.sl 5 (yh 5),.sl 8 (.o (.c (.p 0 2))),.sl 9 (yh 2),.sl 10 (yh 4),.bx 0 31 [.h 0,.h 1,.h 2]]⟩
theorem zgU {w0:World} (e:Xp) (most:Int) (N:Nat) (v1:Int) (IH:q4 w0 N) (i:Int) (n:Int) (v501:Bool) (n503:Nat) (x504:Xp) (v507:Bool) (e501:(decide (i<v1))=v501) (e507:(decide (n > most))=v507) (h502:v501=true) (s505:i=(n503:Int)) (s506:e.l[n503]?=some x504) (h508:v507=true) (o:Int) (F:Fact) (u0:F.c 0=pI e.op) (u1:F.c 1=pI e.n) (u2:F.c 2=pLs cE e.l) (u3:F.c 3=pI most) (u4:F.c 4=pI v1) (u5:F.c 5=pI o) (q0:(n)=o) (R:Frm) (hR:R.pm=⟨ntOf Tryd.prog 31,[],[]⟩):Goes (KN w0) Tryd.prog R (lp Tryd.prog 31 0) (FL [pI e.op,pI e.n,pLs cE e.l,pI most,pI v1,pI i,pI n] []) zQ (.x 0) F qV.out:=
 goes (x:=(.x 0)) (y:=(.x 0)) (Fb:=FL [pI e.op,pI e.n,pLs cE e.l,pI most,pI v1,pI i,pI n,pB v501,pP (cE x504),pI x504.op,pI x504.n,pLs cE x504.l,pB v507] []) (stb:=zQ) (tl:=[.sl 0 (.o (.g [.h 0,.h 1,.h 2])),.sl 1 (yh 3),.sl 2 (.o (.c (.p 0 0))),.sl 4 (.o (.c (.k (.int .i64 0)))),.sl 5 (yh 6),.sl 8 (.o (.c (.p 0 2))),.sl 9 (yh 2),.sl 10 (yh 4),.bx 0 31 [.h 0,.h 1,.h 2]]) (C:=((1005000,.bin .lss 3 (yh 5) (yh 4) (yh 7)) ::
  (10007,.fb 7 true) ::
  (1005001,.op (.ia 28) [yh 2,yh 5] [] (yh 8)) ::
  (1005002,.op (.ld 31) [yh 8] [] (.o (.g [.h 9,.h 10,.h 11]))) ::
  (1005007,.bin .gtr 3 (yh 6) (yh 3) (yh 12)) ::
  (10012,.fb 12 true) ::
  []:List (Nat×Ent))) (H:=.no) 5000 (zipA.imp ⟨z_g ⟨yy,yy,yy,trivial⟩,z_c yy,z_c yy,z_c yy,z_c yy,z_c yy,z_c yy,z_c yy,z_c yy,z_b ⟨yy,yy,yy,trivial⟩,trivial⟩) (zg ⟨za,za,(ze (zf rfl)),za,za,za,za,za,(zo ((zf rfl) _)),za,za,(ze (zf rfl)),za,trivial⟩) ⟨e_bin (zb rfl) (zb rfl) (zb rfl) (r_cmp (congrArg some e501)),
  e_fbv h502,
  e_iaL (E:=31) (z:=3) zm (by kernel_rfl) (by kernel_rfl) (zc rfl) (zb rfl) s505 s506 (zc rfl),
  e_ldG (by kernel_rfl) (by kernel_rfl) (zc rfl) (cE_eq _).symm rfl (zm _),
  e_bin (zb rfl) (zb rfl) (zb rfl) (r_cmp (congrArg some e507)),
  e_fbv h508,
  trivial⟩ mixed hR trivial (fun _ _ _ hs=>by cases hs) (by kernel_rfl:zD (KN w0) Tryd.prog _ .no ⟨ntOf Tryd.prog 31,[],[]⟩ (lp Tryd.prog 31 0) 5000 zQ (.x 0) [.sl 0 (.o (.g [.h 0,.h 1,.h 2])),.sl 1 (yh 3),.sl 2 (.o (.c (.p 0 0))),.sl 4 (.o (.c (.k (.int .i64 0)))),.sl 5 (yh 6),.sl 8 (.o (.c (.p 0 2))),.sl 9 (yh 2),.sl 10 (yh 4),.bx 0 31 [.h 0,.h 1,.h 2]]=true) rfl (zipA.imp ⟨z_g ⟨fun β v W h=>(zc u0 β v W).2 h,fun β v W h=>(zc u1 β v W).2 h,fun β v W h=>(zc u2 β v W).2 h,trivial⟩,z_c (fun β v W h=>(zc u3 β v W).2 h),z_c yy,z_c yy,z_c (fun β v W h=>(zc u5 β v W).2 (by rw [← q0];exact h)),z_c yy,z_c (fun β v W h=>(zc u2 β v W).2 h),z_c (fun β v W h=>(zc u4 β v W).2 h),z_b ⟨fun β v W h=>(zc u0 β v W).2 h,fun β v W h=>(zc u1 β v W).2 h,fun β v W h=>(zc u2 β v W).2 h,trivial⟩,trivial⟩)
theorem zgV {w0:World} (e:Xp) (most:Int) (N:Nat) (v1:Int) (IH:q4 w0 N) (i:Int) (n:Int) (v501:Bool) (n503:Nat) (x504:Xp) (v507:Bool) (v509:Int) (v510:Int) (v513:Int) (v514:Int) (e501:(decide (i<v1))=v501) (e507:(decide (n > most))=v507) (e509:(IntKind.i64.wrap (most - n))=v509) (e510:(sizeX x504 v509)=v510) (e513:(IntKind.i64.wrap (n+v510))=v513) (e514:(IntKind.i64.wrap (i+(1:Int)))=v514) (h502:v501=true) (s505:i=(n503:Int)) (s506:e.l[n503]?=some x504) (h508:v507=false) (s511:nodes x504≤N) (s512:0≤v509∧v509≤1000) (i':Int) (n':Int) (q0:(v513)=n') (q1:(v514)=i') (R:Frm) (hR:R.pm=⟨ntOf Tryd.prog 31,[],[]⟩):Goes (KN w0) Tryd.prog R (lp Tryd.prog 31 0) (FL [pI e.op,pI e.n,pLs cE e.l,pI most,pI v1,pI i,pI n] []) zQ .n (FL [pI e.op,pI e.n,pLs cE e.l,pI most,pI v1,pI i',pI n'] []) zQ:=
 goes (x:=.n) (y:=.n) (Fb:=FL [pI e.op,pI e.n,pLs cE e.l,pI most,pI v1,pI i,pI n,pB v501,pP (cE x504),pI x504.op,pI x504.n,pLs cE x504.l,pB v507,pI v509,pI v510,pI v513,pI v514] []) (stb:=zQ) (tl:=[.sl 0 (.o (.g [.h 0,.h 1,.h 2])),.sl 1 (yh 3),.sl 2 (.o (.c (.p 0 0))),.sl 4 (.o (.c (.k (.int .i64 0)))),.sl 5 (yh 15),.sl 8 (.o (.c (.p 0 2))),.sl 9 (yh 2),.sl 10 (yh 4),.sl 11 (yh 16),.bx 0 31 [.h 0,.h 1,.h 2]]) (C:=((1005000,.bin .lss 3 (yh 5) (yh 4) (yh 7)) ::
  (10007,.fb 7 true) ::
  (1005001,.op (.ia 28) [yh 2,yh 5] [] (yh 8)) ::
  (1005002,.op (.ld 31) [yh 8] [] (.o (.g [.h 9,.h 10,.h 11]))) ::
  (1005007,.bin .gtr 3 (yh 6) (yh 3) (yh 12)) ::
  (10012,.fb 12 false) ::
  (1005012,.bin .sub 3 (yh 3) (yh 6) (yh 13)) ::
  (1005013,.call ⟨31,[.o (.g [.h 9,.h 10,.h 11]),yh 13],[],yh 14,[]⟩) ::
  (1005014,.bin .add 3 (yh 6) (yh 14) (yh 15)) ::
  (1005016,.bin .add 3 (yh 5) (LF (.k (.int .i64 1))) (yh 16)) ::
  []:List (Nat×Ent))) (H:=.no) 5000 (zipA.imp ⟨z_g ⟨yy,yy,yy,trivial⟩,z_c yy,z_c yy,z_c yy,z_c yy,z_c yy,z_c yy,z_c yy,z_c yy,z_b ⟨yy,yy,yy,trivial⟩,trivial⟩) (zg ⟨za,za,(ze (zf rfl)),za,za,za,za,za,(zo ((zf rfl) _)),za,za,(ze (zf rfl)),za,za,za,za,za,trivial⟩) ⟨e_bin (zb rfl) (zb rfl) (zb rfl) (r_cmp (congrArg some e501)),
  e_fbv h502,
  e_iaL (E:=31) (z:=3) zm (by kernel_rfl) (by kernel_rfl) (zc rfl) (zb rfl) s505 s506 (zc rfl),
  e_ldG (by kernel_rfl) (by kernel_rfl) (zc rfl) (cE_eq _).symm rfl (zm _),
  e_bin (zb rfl) (zb rfl) (zb rfl) (r_cmp (congrArg some e507)),
  e_fbv h508,
  e_bin (zb rfl) (zb rfl) (zb rfl) (r_ar (congrArg some e509)),
  zh (IH x504 v509 v510 e510 s511 s512),
  e_bin (zb rfl) (zb rfl) (zb rfl) (r_ar (congrArg some e513)),
  e_bin (zb rfl) zd (zb rfl) (r_ar (congrArg some e514)),
  trivial⟩ mixed hR trivial (fun _ _ _ hs=>by cases hs) (by kernel_rfl:zD (KN w0) Tryd.prog _ .no ⟨ntOf Tryd.prog 31,[],[]⟩ (lp Tryd.prog 31 0) 5000 zQ .n [.sl 0 (.o (.g [.h 0,.h 1,.h 2])),.sl 1 (yh 3),.sl 2 (.o (.c (.p 0 0))),.sl 4 (.o (.c (.k (.int .i64 0)))),.sl 5 (yh 15),.sl 8 (.o (.c (.p 0 2))),.sl 9 (yh 2),.sl 10 (yh 4),.sl 11 (yh 16),.bx 0 31 [.h 0,.h 1,.h 2]]=true) rfl (zipA.imp ⟨z_g ⟨yy,yy,yy,trivial⟩,z_c yy,z_c yy,z_c yy,z_c (fun β v W h=>(zc rfl β v W).2 (by rw [← q0];exact h)),z_c yy,z_c yy,z_c yy,z_c (fun β v W h=>(zc rfl β v W).2 (by rw [← q1];exact h)),z_b ⟨yy,yy,yy,trivial⟩,trivial⟩)
theorem zgW {w0:World} (e:Xp) (most:Int) (N:Nat) (v1:Int) (IH:q4 w0 N) (i:Int) (n:Int) (v501:Bool) (e501:(decide (i<v1))=v501) (h502:v501=false) (o:Int) (F:Fact) (u0:F.c 0=pI e.op) (u1:F.c 1=pI e.n) (u2:F.c 2=pLs cE e.l) (u3:F.c 3=pI most) (u4:F.c 4=pI v1) (u5:F.c 5=pI o) (q0:(n)=o) (R:Frm) (hR:R.pm=⟨ntOf Tryd.prog 31,[],[]⟩):Goes (KN w0) Tryd.prog R (lp Tryd.prog 31 0) (FL [pI e.op,pI e.n,pLs cE e.l,pI most,pI v1,pI i,pI n] []) zQ (.x 0) F qV.out:=
 goes (x:=(.x 0)) (y:=(.x 0)) (Fb:=FL [pI e.op,pI e.n,pLs cE e.l,pI most,pI v1,pI i,pI n,pB v501] []) (stb:=zQ) (tl:=[.sl 0 (.o (.g [.h 0,.h 1,.h 2])),.sl 1 (yh 3),.sl 2 (.o (.c (.p 0 0))),.sl 4 (.o (.c (.k (.int .i64 0)))),.sl 5 (yh 6),.sl 8 (.o (.c (.p 0 2))),.sl 9 (yh 2),.sl 10 (yh 4),.bx 0 31 [.h 0,.h 1,.h 2]]) (C:=((1005000,.bin .lss 3 (yh 5) (yh 4) (yh 7)) ::
  (10007,.fb 7 false) ::
  []:List (Nat×Ent))) (H:=.no) 5000 (zipA.imp ⟨z_g ⟨yy,yy,yy,trivial⟩,z_c yy,z_c yy,z_c yy,z_c yy,z_c yy,z_c yy,z_c yy,z_c yy,z_b ⟨yy,yy,yy,trivial⟩,trivial⟩) (zg ⟨za,za,(ze (zf rfl)),za,za,za,za,za,trivial⟩) ⟨e_bin (zb rfl) (zb rfl) (zb rfl) (r_cmp (congrArg some e501)),
  e_fbv h502,
  trivial⟩ mixed hR trivial (fun _ _ _ hs=>by cases hs) (by kernel_rfl:zD (KN w0) Tryd.prog _ .no ⟨ntOf Tryd.prog 31,[],[]⟩ (lp Tryd.prog 31 0) 5000 zQ (.x 0) [.sl 0 (.o (.g [.h 0,.h 1,.h 2])),.sl 1 (yh 3),.sl 2 (.o (.c (.p 0 0))),.sl 4 (.o (.c (.k (.int .i64 0)))),.sl 5 (yh 6),.sl 8 (.o (.c (.p 0 2))),.sl 9 (yh 2),.sl 10 (yh 4),.bx 0 31 [.h 0,.h 1,.h 2]]=true) rfl (zipA.imp ⟨z_g ⟨fun β v W h=>(zc u0 β v W).2 h,fun β v W h=>(zc u1 β v W).2 h,fun β v W h=>(zc u2 β v W).2 h,trivial⟩,z_c (fun β v W h=>(zc u3 β v W).2 h),z_c yy,z_c yy,z_c (fun β v W h=>(zc u5 β v W).2 (by rw [← q0];exact h)),z_c yy,z_c (fun β v W h=>(zc u2 β v W).2 h),z_c (fun β v W h=>(zc u4 β v W).2 h),z_b ⟨fun β v W h=>(zc u0 β v W).2 h,fun β v W h=>(zc u1 β v W).2 h,fun β v W h=>(zc u2 β v W).2 h,trivial⟩,trivial⟩)
def ziS (e:Xp) (most:Int) (N:Nat) (v1:Int) (t:x_size_l_T) (o:Int):Prop:=(∃(v501:Bool),∃(n503:Nat),∃(x504:Xp),∃(v507:Bool),((decide (t.i<v1))=v501)∧((decide (t.n > most))=v507)∧(v501=true)∧(t.i=(n503:Int))∧(e.l[n503]?=some x504)∧(v507=true)∧((t.n)=o)∧True)∨(∃(v501:Bool),((decide (t.i<v1))=v501)∧(v501=false)∧((t.n)=o)∧True)
def ziR (e:Xp) (most:Int) (N:Nat) (v1:Int) (t t':x_size_l_T):Prop:=(∃(v501:Bool),∃(n503:Nat),∃(x504:Xp),∃(v507:Bool),∃(v509:Int),∃(v510:Int),∃(v513:Int),∃(v514:Int),((decide (t.i<v1))=v501)∧((decide (t.n > most))=v507)∧((IntKind.i64.wrap (most - t.n))=v509)∧((sizeX x504 v509)=v510)∧((IntKind.i64.wrap (t.n+v510))=v513)∧((IntKind.i64.wrap (t.i+(1:Int)))=v514)∧(v501=true)∧(t.i=(n503:Int))∧(e.l[n503]?=some x504)∧(v507=false)∧(nodes x504≤N)∧(0≤v509∧v509≤1000)∧((v513)=t'.n)∧((v514)=t'.i)∧True)
theorem zex {w0:World} (e:Xp) (most:Int) (N:Nat) (v1:Int) (IH:q4 w0 N) (o:Int) {F:Fact} (u0:F.c 0=pI e.op) (u1:F.c 1=pI e.n) (u2:F.c 2=pLs cE e.l) (u3:F.c 3=pI most) (u4:F.c 4=pI v1) (u5:F.c 5=pI o) (R:Frm) (hR:R.pm=⟨ntOf Tryd.prog 31,[],[]⟩) (J:x_size_l_T→Prop) (m:x_size_l_T→Nat) (hJ:J { i:=(0:Int),n:=(1:Int) }) (rounds:∀t,J t→ziS e most N v1 t o∨∃t',ziR e most N v1 t t'∧m t'<m t∧J t'):zl (KN w0) Tryd.prog F R qV (lp Tryd.prog 31 0):=by
 refine zB (T:=x_size_l_T) (fun t=>FL [pI e.op,pI e.n,pLs cE e.l,pI most,pI v1,pI t.i,pI t.n] []) J m { i:=(0:Int),n:=(1:Int) } zQ hJ (zipA.imp ⟨z_g ⟨fun β v W h=>(zc u0 β v W).1 h,fun β v W h=>(zc u1 β v W).1 h,fun β v W h=>(zc u2 β v W).1 h,trivial⟩,z_c (fun β v W h=>(zc u3 β v W).1 h),z_c yy,z_c yy,z_c yy,z_c yy,z_c (fun β v W h=>(zc u2 β v W).1 h),z_c (fun β v W h=>(zc u4 β v W).1 h),z_c yy,z_b ⟨fun β v W h=>(zc u0 β v W).1 h,fun β v W h=>(zc u1 β v W).1 h,fun β v W h=>(zc u2 β v W).1 h,trivial⟩,trivial⟩) rfl fun t ht=>?_
 rcases rounds t ht with hz_ | ⟨t',hz_,hm_,hj_⟩
 ·refine .inl ?_
  rcases hz_ with ⟨v501,n503,x504,v507,e501,e507,h502,s505,s506,h508,q0,_⟩ | ⟨v501,e501,h502,q0,_⟩
  ·exact zgU  e most N v1 IH  t.i t.n v501 n503 x504 v507 e501 e507 h502 s505 s506 h508 o F u0 u1 u2 u3 u4 u5 q0 R hR
  ·exact zgW  e most N v1 IH  t.i t.n v501 e501 h502 o F u0 u1 u2 u3 u4 u5 q0 R hR
 ·refine .inr ⟨t',hm_,hj_,?_⟩
  rcases hz_ with ⟨v501,n503,x504,v507,v509,v510,v513,v514,e501,e507,e509,e510,e513,e514,h502,s505,s506,h508,s511,s512,q0,q1,_⟩
  ·exact zgV  e most N v1 IH  t.i t.n v501 n503 x504 v507 v509 v510 v513 v514 e501 e507 e509 e510 e513 e514 h502 s505 s506 h508 s511 s512 t'.i t'.n q0 q1 R hR
theorem zgT {w0:World} (e:Xp) (most:Int) (N:Nat) (v1:Int) (IH:q4 w0 N) (o:Int) {F:Fact} (u0:F.c 0=pI e.op) (u1:F.c 1=pI e.n) (u2:F.c 2=pLs cE e.l) (u3:F.c 3=pI most) (u4:F.c 4=pI v1) (u5:F.c 5=pI o) (R:Frm) (hR:R.pm=⟨ntOf Tryd.prog 31,[],[]⟩) (hb:e.l.length<9223372036854775808) (hN:nodes e≤N+1) (hm:0≤most∧most≤1000) (hO:sizeL e.l 1 most=o) (hlen:(e.l.length:Int)=v1):zl (KN w0) Tryd.prog F R qV (lp Tryd.prog 31 0):=by
 refine zex  e most N v1 IH  o u0 u1 u2 u3 u4 u5 R hR (fun ⟨i,n⟩=>∃k:Nat,i=(k:Int)∧k≤e.l.length∧1≤n∧n≤most+1∧sizeL (e.l.drop k) n most=o) (fun ⟨i,n⟩=>((e.l.length:Int) - i).toNat) ⟨0,rfl,Nat.zero_le _,by decide,by omega,by rw [List.drop_zero];exact hO⟩ fun t hJ=>?_
 obtain ⟨i,n⟩:=t
 dsimp only at hJ
 obtain ⟨k,hi,hk,hn1,hn2,hs⟩:=hJ
 obtain ⟨v501,e501⟩:∃v,(decide (i<v1))=v:=⟨_,rfl⟩
 cases h502:v501 with
 | true =>
  obtain ⟨n503,x504,s505,s506⟩:∃(n503:Nat) (x504:Xp),i=(n503:Int)∧e.l[n503]?=some x504:=by (have dh502:=of_decide_eq_true (e501.trans h502);have hz:=hlen;have hlt:k<e.l.length:=(by omega);exact ⟨k,_,hi,List.getElem?_eq_getElem hlt⟩)
  obtain ⟨v507,e507⟩:∃v,(decide (n > most))=v:=⟨_,rfl⟩
  cases h508:v507 with
  | true =>
   refine .inl (Or.inl (⟨v501,n503,x504,v507,e501,e507,h502,s505,s506,h508,?_,trivial⟩))
   have dh502:=of_decide_eq_true (e501.trans h502);have dh508:=of_decide_eq_true (e507.trans h508);have hz:=hlen
   have hkn:n503=k:=by omega
   subst hkn
   have hd:=zbc s506 n most
   rw [if_pos (by omega),hs] at hd
   exact hd.symm
  | false =>
   obtain ⟨v509,e509⟩:∃v,(IntKind.i64.wrap (most - n))=v:=⟨_,rfl⟩
   obtain ⟨v510,e510⟩:∃v,(sizeX x504 v509)=v:=⟨_,rfl⟩
   have s511:nodes x504≤N:=by exact zv hN s506
   have s512:0≤v509∧v509≤1000:=by (have dh502:=of_decide_eq_true (e501.trans h502);have dh508:=of_decide_eq_false (e507.trans h508);have hz:=hlen;rw [← e509,wri (by omega)];omega)
   obtain ⟨v513,e513⟩:∃v,(IntKind.i64.wrap (n+v510))=v:=⟨_,rfl⟩
   obtain ⟨v514,e514⟩:∃v,(IntKind.i64.wrap (i+(1:Int)))=v:=⟨_,rfl⟩
   refine .inr ⟨⟨v514,v513⟩,⟨v501,n503,x504,v507,v509,v510,v513,v514,e501,e507,e509,e510,e513,e514,h502,s505,s506,h508,s511,s512,rfl,rfl,trivial⟩,?_,?_⟩
   all_goals (have dh502:=of_decide_eq_true (e501.trans h502);have dh508:=of_decide_eq_false (e507.trans h508);have hz:=hlen;have hkn:n503=k:=(by omega);subst hkn;have x1:v509=most - n:=(by rw [← e509,wri (by omega)]);have q:=zj8 x504 (m:=v509) (by omega);rw [e510] at q;have x2:v513=n+v510:=(by rw [← e513,wri (by omega)]);have x3:v514=((n503+1:Nat):Int):=(by rw [← e514,hi,wri (by omega)];omega);have hd:=zbc s506 n most;rw [if_neg (by omega),← x1,e510,← x2] at hd)
   ·show ((e.l.length:Int) - v514).toNat<((e.l.length:Int) - i).toNat
    have hlt:n503<e.l.length:=(List.getElem?_eq_some_iff.1 s506).1
    omega
   ·have hlt:n503<e.l.length:=(List.getElem?_eq_some_iff.1 s506).1
    exact ⟨n503+1,x3,by omega,by omega,by omega,by rw [← hd];exact hs⟩
 | false =>
  refine .inl (Or.inr (⟨v501,e501,h502,?_,trivial⟩))
  have dh502:=of_decide_eq_false (e501.trans h502);have hz:=hlen
  have hkl:k=e.l.length:=by omega
  rw [hkl,List.drop_length,sizeL] at hs
  exact hs
theorem zlj {w0:World} (e:Xp) (most:Int) (N:Nat) (IH:q4 w0 N) (v1:Int) (o:Int) (e1:((e.l.length:Int))=v1) (L_x_size_l:∀R:Frm,R.pm=⟨ntOf Tryd.prog 31,[],[]⟩→zl (KN w0) Tryd.prog (FL [pI e.op,pI e.n,pLs cE e.l,pI most,pI v1,pI o] []) R qV (lp Tryd.prog 31 0)):Fun (KN w0) Tryd.prog 31 [.o (.g [pI e.op,pI e.n,pLs cE e.l]),.o (.c (pI most))] (.o (.c (pI o))):=
 zi (qe (F:=FL [pI e.op,pI e.n,pLs cE e.l,pI most,pI v1,pI o] []) (C:=[(1000005,.op (.len [28] 3) [yh 2] [] (yh 4))]) (k:=⟨31,[.o (.g [.h 0,.h 1,.h 2]),yh 3],[],yh 5,[]⟩) ⟨[qV],[],0⟩ [] 0 (zg ⟨za,za,(ze (zf rfl)),za,za,za,trivial⟩) ⟨zn (E:=31) (by kernel_rfl) (zc rfl) (zb (by rw [← e1];rfl)),
  trivial⟩ mixed trivial (fun R hR p hp s hs=>by
 have hl:zH (qz Tryd.prog 31)=[(3,lp Tryd.prog 31 0)]:=by kernel_rfl
 rw [hl] at hp
 simp only [List.mem_cons,List.not_mem_nil,or_false] at hp
 rcases hp with rfl
 ·have e:s=qV:=(Option.some.inj hs).symm
  subst e;exact L_x_size_l R hR) (by kernel_rfl))
theorem zmv {w0:World} {N:Nat} (IH:q4 w0 N) (e:Xp) (most:Int) (r:Int) (hr:sizeX e most=r) (hN:nodes e≤N+1) (hm:0≤most∧most≤1000) (hN1:N+1≤1000000):Fun (KN w0) Tryd.prog 31 [.o (.g [pI e.op,pI e.n,pLs cE e.l]),.o (.c (pI most))] (.o (.c (pI r))):=by
 obtain ⟨v1,e1⟩:∃v,((e.l.length:Int))=v:=⟨_,rfl⟩
 obtain ⟨o,hO_x_size_l⟩:∃(o:Int),sizeL e.l 1 most=o:=⟨_,rfl⟩
 refine Fun.imp (zlj e most N IH v1 o e1 (fun R hR=>zgT e most N v1 IH   o rfl rfl rfl rfl rfl rfl R hR (by have:=qa e;omega) hN hm hO_x_size_l e1)) (fun _ _ _ h=>h) (fun v W D h=>?_)
 have r0:r=o:=by
  rw [← hr,zhx];exact hO_x_size_l
 rw [r0];exact h
theorem zdQ {w0:World}:∀N:Nat,N≤1000000→q4 w0 N
 | 0,_=>fun x m v _ h _=>by have:=qb x;omega
 | N+1,hN=>fun x m v hv h hm=>zmv (zdQ N (by omega)) x m v hv h hm hN
theorem zmW {w0:World} (x:Xp) (m v:Int) (hv:sizeX x m=v) (hn:nodes x≤1000000) (hm:0≤m∧m≤1000):Fun (KN w0) Tryd.prog 31 [.o (.g [pI x.op,pI x.n,pLs cE x.l]),.o (.c (pI m))] (.o (.c (pI v))):=zdQ (nodes x) hn x m v hv (Nat.le_refl _) hm
def qE (w0:World) (N:Nat):Prop:=∀(x:Xp) (m v:Int),sizeX x m=v→nodes x≤N→0≤m∧m≤1000→Fun (KN w0) Tryd.prog 21 [.o (.g [pI x.op,pI x.n,pLs cE x.l]),.o (.c (pI m))] (.o (.c (pI v)))
structure x_rsize_l_T where
 i:Int
 n:Int
def zL:List Atom:=[.sl 0 (.o (.g [.h 0,.h 1,.h 2])),.sl 1 (yh 3),.sl 2 (.o (.c (.p 0 0))),.sl 4 (.o (.c (.k (.int .i64 0)))),.sl 5 (yh 5),.sl 6 (yh 4),.bx 0 31 [.h 0,.h 1,.h 2]]
def qy:LoopS:=⟨3,[.sl 0 (.o (.g [.h 0,.h 1,.h 2])),.sl 1 (yh 3),.sl 2 (.o (.c (.p 0 0))),.sl 4 (.o (.c (.k (.int .i64 0)))),.sl 5 (.o (.c (.k (.int .i64 1)))),.sl 6 (.o (.c (.k (.int .i64 0)))),.bx 0 31 [.h 0,.h 1,.h 2]],(.x 0),[.sl 0 (.o (.g [.h 0,.h 1,.h 2])),.sl 1 (yh 3),.sl 2 (.o (.c (.p 0 0))),.sl 4 (.o (.c (.k (.int .i64 0)))),.sl 5 (yh 4),.bx 0 31 [.h 0,.h 1,.h 2]]⟩
theorem zfS {w0:World} (e:Xp) (most:Int) (N:Nat) (IH:qE w0 N) (i:Int) (n:Int) (v501:Int) (v502:Bool) (v504:Bool) (n506:Nat) (x507:Xp) (v510:Int) (v511:Int) (v514:Int) (v515:Int) (e501:((e.l.length:Int))=v501) (e502:(decide (i<v501))=v502) (e504:(decide (n≤most))=v504) (e510:(IntKind.i64.wrap (most - n))=v510) (e511:(sizeX x507 v510)=v511) (e514:(IntKind.i64.wrap (n+v511))=v514) (e515:(IntKind.i64.wrap (i+(1:Int)))=v515) (h503:v502=true) (h505:v504=true) (s508:i=(n506:Int)) (s509:e.l[n506]?=some x507) (s512:nodes x507≤N) (s513:0≤v510∧v510≤1000) (i':Int) (n':Int) (q0:(v514)=n') (q1:(v515)=i') (R:Frm) (hR:R.pm=⟨ntOf Tryd.prog 21,[],[]⟩):Goes (KN w0) Tryd.prog R (lp Tryd.prog 21 0) (FL [pI e.op,pI e.n,pLs cE e.l,pI most,pI i,pI n] []) zL .n (FL [pI e.op,pI e.n,pLs cE e.l,pI most,pI i',pI n'] []) zL:=
 goes (x:=.n) (y:=.n) (Fb:=FL [pI e.op,pI e.n,pLs cE e.l,pI most,pI i,pI n,pI v501,pB v502,pB v504,pP (cE x507),pI x507.op,pI x507.n,pLs cE x507.l,pI v510,pI v511,pI v514,pI v515] []) (stb:=zL) (tl:=[.sl 0 (.o (.g [.h 0,.h 1,.h 2])),.sl 1 (yh 3),.sl 2 (.o (.c (.p 0 0))),.sl 4 (.o (.c (.k (.int .i64 0)))),.sl 5 (yh 15),.sl 6 (yh 16),.bx 0 31 [.h 0,.h 1,.h 2]]) (C:=((1005003,.op (.len [28] 3) [yh 2] [] (yh 6)) ::
  (1005004,.bin .lss 3 (yh 4) (yh 6) (yh 7)) ::
  (10007,.fb 7 true) ::
  (1005008,.bin .leq 3 (yh 5) (yh 3) (yh 8)) ::
  (10008,.fb 8 true) ::
  (1005014,.op (.ia 28) [yh 2,yh 4] [] (yh 9)) ::
  (1005015,.op (.ld 31) [yh 9] [] (.o (.g [.h 10,.h 11,.h 12]))) ::
  (1005018,.bin .sub 3 (yh 3) (yh 5) (yh 13)) ::
  (1005019,.call ⟨21,[.o (.g [.h 10,.h 11,.h 12]),yh 13],[],yh 14,[]⟩) ::
  (1005020,.bin .add 3 (yh 5) (yh 14) (yh 15)) ::
  (1005023,.bin .add 3 (yh 4) (LF (.k (.int .i64 1))) (yh 16)) ::
  []:List (Nat×Ent))) (H:=.no) 5000 (zipA.imp ⟨z_g ⟨yy,yy,yy,trivial⟩,z_c yy,z_c yy,z_c yy,z_c yy,z_c yy,z_b ⟨yy,yy,yy,trivial⟩,trivial⟩) (zg ⟨za,za,(ze (zf rfl)),za,za,za,za,za,za,(zo ((zf rfl) _)),za,za,(ze (zf rfl)),za,za,za,za,trivial⟩) ⟨zn (E:=31) (by kernel_rfl) (zc rfl) (zb (by rw [← e501];rfl)),
  e_bin (zb rfl) (zb rfl) (zb rfl) (r_cmp (congrArg some e502)),
  e_fbv h503,
  e_bin (zb rfl) (zb rfl) (zb rfl) (r_cmp (congrArg some e504)),
  e_fbv h505,
  e_iaL (E:=31) (z:=3) zm (by kernel_rfl) (by kernel_rfl) (zc rfl) (zb rfl) s508 s509 (zc rfl),
  e_ldG (by kernel_rfl) (by kernel_rfl) (zc rfl) (cE_eq _).symm rfl (zm _),
  e_bin (zb rfl) (zb rfl) (zb rfl) (r_ar (congrArg some e510)),
  zh (IH x507 v510 v511 e511 s512 s513),
  e_bin (zb rfl) (zb rfl) (zb rfl) (r_ar (congrArg some e514)),
  e_bin (zb rfl) zd (zb rfl) (r_ar (congrArg some e515)),
  trivial⟩ mixed hR trivial (fun _ _ _ hs=>by cases hs) (by kernel_rfl:zD (KN w0) Tryd.prog _ .no ⟨ntOf Tryd.prog 21,[],[]⟩ (lp Tryd.prog 21 0) 5000 zL .n [.sl 0 (.o (.g [.h 0,.h 1,.h 2])),.sl 1 (yh 3),.sl 2 (.o (.c (.p 0 0))),.sl 4 (.o (.c (.k (.int .i64 0)))),.sl 5 (yh 15),.sl 6 (yh 16),.bx 0 31 [.h 0,.h 1,.h 2]]=true) rfl (zipA.imp ⟨z_g ⟨yy,yy,yy,trivial⟩,z_c yy,z_c yy,z_c yy,z_c (fun β v W h=>(zc rfl β v W).2 (by rw [← q0];exact h)),z_c (fun β v W h=>(zc rfl β v W).2 (by rw [← q1];exact h)),z_b ⟨yy,yy,yy,trivial⟩,trivial⟩)
theorem zfT {w0:World} (e:Xp) (most:Int) (N:Nat) (IH:qE w0 N) (i:Int) (n:Int) (v501:Int) (v502:Bool) (v504:Bool) (e501:((e.l.length:Int))=v501) (e502:(decide (i<v501))=v502) (e504:(decide (n≤most))=v504) (h503:v502=true) (h505:v504=false) (o:Int) (F:Fact) (u0:F.c 0=pI e.op) (u1:F.c 1=pI e.n) (u2:F.c 2=pLs cE e.l) (u3:F.c 3=pI most) (u4:F.c 4=pI o) (q0:(n)=o) (R:Frm) (hR:R.pm=⟨ntOf Tryd.prog 21,[],[]⟩):Goes (KN w0) Tryd.prog R (lp Tryd.prog 21 0) (FL [pI e.op,pI e.n,pLs cE e.l,pI most,pI i,pI n] []) zL (.x 0) F qy.out:=
 goes (x:=(.x 0)) (y:=(.x 0)) (Fb:=FL [pI e.op,pI e.n,pLs cE e.l,pI most,pI i,pI n,pI v501,pB v502,pB v504] []) (stb:=zL) (tl:=[.sl 0 (.o (.g [.h 0,.h 1,.h 2])),.sl 1 (yh 3),.sl 2 (.o (.c (.p 0 0))),.sl 4 (.o (.c (.k (.int .i64 0)))),.sl 5 (yh 5),.bx 0 31 [.h 0,.h 1,.h 2]]) (C:=((1005003,.op (.len [28] 3) [yh 2] [] (yh 6)) ::
  (1005004,.bin .lss 3 (yh 4) (yh 6) (yh 7)) ::
  (10007,.fb 7 true) ::
  (1005008,.bin .leq 3 (yh 5) (yh 3) (yh 8)) ::
  (10008,.fb 8 false) ::
  []:List (Nat×Ent))) (H:=.no) 5000 (zipA.imp ⟨z_g ⟨yy,yy,yy,trivial⟩,z_c yy,z_c yy,z_c yy,z_c yy,z_c yy,z_b ⟨yy,yy,yy,trivial⟩,trivial⟩) (zg ⟨za,za,(ze (zf rfl)),za,za,za,za,za,za,trivial⟩) ⟨zn (E:=31) (by kernel_rfl) (zc rfl) (zb (by rw [← e501];rfl)),
  e_bin (zb rfl) (zb rfl) (zb rfl) (r_cmp (congrArg some e502)),
  e_fbv h503,
  e_bin (zb rfl) (zb rfl) (zb rfl) (r_cmp (congrArg some e504)),
  e_fbv h505,
  trivial⟩ mixed hR trivial (fun _ _ _ hs=>by cases hs) (by kernel_rfl:zD (KN w0) Tryd.prog _ .no ⟨ntOf Tryd.prog 21,[],[]⟩ (lp Tryd.prog 21 0) 5000 zL (.x 0) [.sl 0 (.o (.g [.h 0,.h 1,.h 2])),.sl 1 (yh 3),.sl 2 (.o (.c (.p 0 0))),.sl 4 (.o (.c (.k (.int .i64 0)))),.sl 5 (yh 5),.bx 0 31 [.h 0,.h 1,.h 2]]=true) rfl (zipA.imp ⟨z_g ⟨fun β v W h=>(zc u0 β v W).2 h,fun β v W h=>(zc u1 β v W).2 h,fun β v W h=>(zc u2 β v W).2 h,trivial⟩,z_c (fun β v W h=>(zc u3 β v W).2 h),z_c yy,z_c yy,z_c (fun β v W h=>(zc u4 β v W).2 (by rw [← q0];exact h)),z_b ⟨fun β v W h=>(zc u0 β v W).2 h,fun β v W h=>(zc u1 β v W).2 h,fun β v W h=>(zc u2 β v W).2 h,trivial⟩,trivial⟩)
theorem zfU {w0:World} (e:Xp) (most:Int) (N:Nat) (IH:qE w0 N) (i:Int) (n:Int) (v501:Int) (v502:Bool) (e501:((e.l.length:Int))=v501) (e502:(decide (i<v501))=v502) (h503:v502=false) (o:Int) (F:Fact) (u0:F.c 0=pI e.op) (u1:F.c 1=pI e.n) (u2:F.c 2=pLs cE e.l) (u3:F.c 3=pI most) (u4:F.c 4=pI o) (q0:(n)=o) (R:Frm) (hR:R.pm=⟨ntOf Tryd.prog 21,[],[]⟩):Goes (KN w0) Tryd.prog R (lp Tryd.prog 21 0) (FL [pI e.op,pI e.n,pLs cE e.l,pI most,pI i,pI n] []) zL (.x 0) F qy.out:=
 goes (x:=(.x 0)) (y:=(.x 0)) (Fb:=FL [pI e.op,pI e.n,pLs cE e.l,pI most,pI i,pI n,pI v501,pB v502] []) (stb:=zL) (tl:=[.sl 0 (.o (.g [.h 0,.h 1,.h 2])),.sl 1 (yh 3),.sl 2 (.o (.c (.p 0 0))),.sl 4 (.o (.c (.k (.int .i64 0)))),.sl 5 (yh 5),.bx 0 31 [.h 0,.h 1,.h 2]]) (C:=((1005003,.op (.len [28] 3) [yh 2] [] (yh 6)) ::
  (1005004,.bin .lss 3 (yh 4) (yh 6) (yh 7)) ::
  (10007,.fb 7 false) ::
  []:List (Nat×Ent))) (H:=.no) 5000 (zipA.imp ⟨z_g ⟨yy,yy,yy,trivial⟩,z_c yy,z_c yy,z_c yy,z_c yy,z_c yy,z_b ⟨yy,yy,yy,trivial⟩,trivial⟩) (zg ⟨za,za,(ze (zf rfl)),za,za,za,za,za,trivial⟩) ⟨zn (E:=31) (by kernel_rfl) (zc rfl) (zb (by rw [← e501];rfl)),
  e_bin (zb rfl) (zb rfl) (zb rfl) (r_cmp (congrArg some e502)),
  e_fbv h503,
  trivial⟩ mixed hR trivial (fun _ _ _ hs=>by cases hs) (by kernel_rfl:zD (KN w0) Tryd.prog _ .no ⟨ntOf Tryd.prog 21,[],[]⟩ (lp Tryd.prog 21 0) 5000 zL (.x 0) [.sl 0 (.o (.g [.h 0,.h 1,.h 2])),.sl 1 (yh 3),.sl 2 (.o (.c (.p 0 0))),.sl 4 (.o (.c (.k (.int .i64 0)))),.sl 5 (yh 5),.bx 0 31 [.h 0,.h 1,.h 2]]=true) rfl (zipA.imp ⟨z_g ⟨fun β v W h=>(zc u0 β v W).2 h,fun β v W h=>(zc u1 β v W).2 h,fun β v W h=>(zc u2 β v W).2 h,trivial⟩,z_c (fun β v W h=>(zc u3 β v W).2 h),z_c yy,z_c yy,z_c (fun β v W h=>(zc u4 β v W).2 (by rw [← q0];exact h)),z_b ⟨fun β v W h=>(zc u0 β v W).2 h,fun β v W h=>(zc u1 β v W).2 h,fun β v W h=>(zc u2 β v W).2 h,trivial⟩,trivial⟩)
def zgQ (e:Xp) (most:Int) (N:Nat) (t:x_rsize_l_T) (o:Int):Prop:=(∃(v501:Int),∃(v502:Bool),∃(v504:Bool),(((e.l.length:Int))=v501)∧((decide (t.i<v501))=v502)∧((decide (t.n≤most))=v504)∧(v502=true)∧(v504=false)∧((t.n)=o)∧True)∨(∃(v501:Int),∃(v502:Bool),(((e.l.length:Int))=v501)∧((decide (t.i<v501))=v502)∧(v502=false)∧((t.n)=o)∧True)
def zgP (e:Xp) (most:Int) (N:Nat) (t t':x_rsize_l_T):Prop:=(∃(v501:Int),∃(v502:Bool),∃(v504:Bool),∃(n506:Nat),∃(x507:Xp),∃(v510:Int),∃(v511:Int),∃(v514:Int),∃(v515:Int),(((e.l.length:Int))=v501)∧((decide (t.i<v501))=v502)∧((decide (t.n≤most))=v504)∧((IntKind.i64.wrap (most - t.n))=v510)∧((sizeX x507 v510)=v511)∧((IntKind.i64.wrap (t.n+v511))=v514)∧((IntKind.i64.wrap (t.i+(1:Int)))=v515)∧(v502=true)∧(v504=true)∧(t.i=(n506:Int))∧(e.l[n506]?=some x507)∧(nodes x507≤N)∧(0≤v510∧v510≤1000)∧((v514)=t'.n)∧((v515)=t'.i)∧True)
theorem zdq {w0:World} (e:Xp) (most:Int) (N:Nat) (IH:qE w0 N) (o:Int) {F:Fact} (u0:F.c 0=pI e.op) (u1:F.c 1=pI e.n) (u2:F.c 2=pLs cE e.l) (u3:F.c 3=pI most) (u4:F.c 4=pI o) (R:Frm) (hR:R.pm=⟨ntOf Tryd.prog 21,[],[]⟩) (J:x_rsize_l_T→Prop) (m:x_rsize_l_T→Nat) (hJ:J { i:=(0:Int),n:=(1:Int) }) (rounds:∀t,J t→zgQ e most N t o∨∃t',zgP e most N t t'∧m t'<m t∧J t'):zl (KN w0) Tryd.prog F R qy (lp Tryd.prog 21 0):=by
 refine zB (T:=x_rsize_l_T) (fun t=>FL [pI e.op,pI e.n,pLs cE e.l,pI most,pI t.i,pI t.n] []) J m { i:=(0:Int),n:=(1:Int) } zL hJ (zipA.imp ⟨z_g ⟨fun β v W h=>(zc u0 β v W).1 h,fun β v W h=>(zc u1 β v W).1 h,fun β v W h=>(zc u2 β v W).1 h,trivial⟩,z_c (fun β v W h=>(zc u3 β v W).1 h),z_c yy,z_c yy,z_c yy,z_c yy,z_b ⟨fun β v W h=>(zc u0 β v W).1 h,fun β v W h=>(zc u1 β v W).1 h,fun β v W h=>(zc u2 β v W).1 h,trivial⟩,trivial⟩) rfl fun t ht=>?_
 rcases rounds t ht with hz_ | ⟨t',hz_,hm_,hj_⟩
 ·refine .inl ?_
  rcases hz_ with ⟨v501,v502,v504,e501,e502,e504,h503,h505,q0,_⟩ | ⟨v501,v502,e501,e502,h503,q0,_⟩
  ·exact zfT  e most N IH  t.i t.n v501 v502 v504 e501 e502 e504 h503 h505 o F u0 u1 u2 u3 u4 q0 R hR
  ·exact zfU  e most N IH  t.i t.n v501 v502 e501 e502 h503 o F u0 u1 u2 u3 u4 q0 R hR
 ·refine .inr ⟨t',hm_,hj_,?_⟩
  rcases hz_ with ⟨v501,v502,v504,n506,x507,v510,v511,v514,v515,e501,e502,e504,e510,e511,e514,e515,h503,h505,s508,s509,s512,s513,q0,q1,_⟩
  ·exact zfS  e most N IH  t.i t.n v501 v502 v504 n506 x507 v510 v511 v514 v515 e501 e502 e504 e510 e511 e514 e515 h503 h505 s508 s509 s512 s513 t'.i t'.n q0 q1 R hR
theorem zfR {w0:World} (e:Xp) (most:Int) (N:Nat) (IH:qE w0 N) (o:Int) {F:Fact} (u0:F.c 0=pI e.op) (u1:F.c 1=pI e.n) (u2:F.c 2=pLs cE e.l) (u3:F.c 3=pI most) (u4:F.c 4=pI o) (R:Frm) (hR:R.pm=⟨ntOf Tryd.prog 21,[],[]⟩) (hb:e.l.length<9223372036854775808) (hN:nodes e≤N+1) (hm:0≤most∧most≤1000) (hO:sizeL e.l 1 most=o):zl (KN w0) Tryd.prog F R qy (lp Tryd.prog 21 0):=by
 refine zdq  e most N IH  o u0 u1 u2 u3 u4 R hR (fun ⟨i,n⟩=>∃k:Nat,i=(k:Int)∧k≤e.l.length∧1≤n∧n≤most+1∧sizeL (e.l.drop k) n most=o) (fun ⟨i,n⟩=>((e.l.length:Int) - i).toNat) ⟨0,rfl,Nat.zero_le _,by decide,by omega,by rw [List.drop_zero];exact hO⟩ fun t hJ=>?_
 obtain ⟨i,n⟩:=t
 dsimp only at hJ
 obtain ⟨k,hi,hk,hn1,hn2,hs⟩:=hJ
 obtain ⟨v501,e501⟩:∃v,((e.l.length:Int))=v:=⟨_,rfl⟩
 obtain ⟨v502,e502⟩:∃v,(decide (i<v501))=v:=⟨_,rfl⟩
 cases h503:v502 with
 | true =>
  obtain ⟨v504,e504⟩:∃v,(decide (n≤most))=v:=⟨_,rfl⟩
  cases h505:v504 with
  | true =>
   obtain ⟨n506,x507,s508,s509⟩:∃(n506:Nat) (x507:Xp),i=(n506:Int)∧e.l[n506]?=some x507:=by (have dh503:=of_decide_eq_true (e502.trans h503);have dh505:=of_decide_eq_true (e504.trans h505);have hz:=e501;have hlt:k<e.l.length:=(by omega);exact ⟨k,_,hi,List.getElem?_eq_getElem hlt⟩)
   obtain ⟨v510,e510⟩:∃v,(IntKind.i64.wrap (most - n))=v:=⟨_,rfl⟩
   obtain ⟨v511,e511⟩:∃v,(sizeX x507 v510)=v:=⟨_,rfl⟩
   have s512:nodes x507≤N:=by exact zv hN s509
   have s513:0≤v510∧v510≤1000:=by (have dh503:=of_decide_eq_true (e502.trans h503);have dh505:=of_decide_eq_true (e504.trans h505);have hz:=e501;rw [← e510,wri (by omega)];omega)
   obtain ⟨v514,e514⟩:∃v,(IntKind.i64.wrap (n+v511))=v:=⟨_,rfl⟩
   obtain ⟨v515,e515⟩:∃v,(IntKind.i64.wrap (i+(1:Int)))=v:=⟨_,rfl⟩
   refine .inr ⟨⟨v515,v514⟩,⟨v501,v502,v504,n506,x507,v510,v511,v514,v515,e501,e502,e504,e510,e511,e514,e515,h503,h505,s508,s509,s512,s513,rfl,rfl,trivial⟩,?_,?_⟩
   all_goals (have dh503:=of_decide_eq_true (e502.trans h503);have dh505:=of_decide_eq_true (e504.trans h505);have hz:=e501;have hkn:n506=k:=(by omega);subst hkn;have x1:v510=most - n:=(by rw [← e510,wri (by omega)]);have q:=zj8 x507 (m:=v510) (by omega);rw [e511] at q;have x2:v514=n+v511:=(by rw [← e514,wri (by omega)]);have x3:v515=((n506+1:Nat):Int):=(by rw [← e515,hi,wri (by omega)];omega);have hd:=zbc s509 n most;rw [if_neg (by omega),← x1,e511,← x2] at hd)
   ·show ((e.l.length:Int) - v515).toNat<((e.l.length:Int) - i).toNat
    have hlt:n506<e.l.length:=(List.getElem?_eq_some_iff.1 s509).1
    omega
   ·have hlt:n506<e.l.length:=(List.getElem?_eq_some_iff.1 s509).1
    exact ⟨n506+1,x3,by omega,by omega,by omega,by rw [← hd];exact hs⟩
  | false =>
   refine .inl (Or.inl (⟨v501,v502,v504,e501,e502,e504,h503,h505,?_,trivial⟩))
   have dh503:=of_decide_eq_true (e502.trans h503);have dh505:=of_decide_eq_false (e504.trans h505);have hz:=e501
   obtain ⟨x,hx⟩:∃x,e.l[k]?=some x:=⟨_,List.getElem?_eq_getElem (by omega)⟩
   have hd:=zbc hx n most
   rw [if_pos (by omega),hs] at hd
   exact hd.symm
 | false =>
  refine .inl (Or.inr (⟨v501,v502,e501,e502,h503,?_,trivial⟩))
  have dh503:=of_decide_eq_false (e502.trans h503);have hz:=e501
  have hkl:k=e.l.length:=by omega
  rw [hkl,List.drop_length,sizeL] at hs
  exact hs
theorem ziP {w0:World} (e:Xp) (most:Int) (N:Nat) (IH:qE w0 N) (o:Int) (L_x_rsize_l:∀R:Frm,R.pm=⟨ntOf Tryd.prog 21,[],[]⟩→zl (KN w0) Tryd.prog (FL [pI e.op,pI e.n,pLs cE e.l,pI most,pI o] []) R qy (lp Tryd.prog 21 0)):Fun (KN w0) Tryd.prog 21 [.o (.g [pI e.op,pI e.n,pLs cE e.l]),.o (.c (pI most))] (.o (.c (pI o))):=
 zi (qe (F:=FL [pI e.op,pI e.n,pLs cE e.l,pI most,pI o] []) (C:=[]) (k:=⟨21,[.o (.g [.h 0,.h 1,.h 2]),yh 3],[],yh 4,[]⟩) ⟨[qy],[],0⟩ [] 0 (zg ⟨za,za,(ze (zf rfl)),za,za,trivial⟩) trivial mixed trivial (fun R hR p hp s hs=>by
 have hl:zH (qz Tryd.prog 21)=[(3,lp Tryd.prog 21 0)]:=by kernel_rfl
 rw [hl] at hp
 simp only [List.mem_cons,List.not_mem_nil,or_false] at hp
 rcases hp with rfl
 ·have e:s=qy:=(Option.some.inj hs).symm
  subst e;exact L_x_rsize_l R hR) (by kernel_rfl))
theorem zld {w0:World} {N:Nat} (IH:qE w0 N) (e:Xp) (most:Int) (r:Int) (hr:sizeX e most=r) (hN:nodes e≤N+1) (hm:0≤most∧most≤1000) (hN1:N+1≤1000000):Fun (KN w0) Tryd.prog 21 [.o (.g [pI e.op,pI e.n,pLs cE e.l]),.o (.c (pI most))] (.o (.c (pI r))):=by
 obtain ⟨o,hO_x_rsize_l⟩:∃(o:Int),sizeL e.l 1 most=o:=⟨_,rfl⟩
 refine Fun.imp (ziP e most N IH o (fun R hR=>zfR e most N IH   o rfl rfl rfl rfl rfl R hR (by have:=qa e;omega) hN hm hO_x_rsize_l)) (fun _ _ _ h=>h) (fun v W D h=>?_)
 have r0:r=o:=by
  rw [← hr,zhx];exact hO_x_rsize_l
 rw [r0];exact h
theorem zdf {w0:World}:∀N:Nat,N≤1000000→qE w0 N
 | 0,_=>fun x m v _ h _=>by have:=qb x;omega
 | N+1,hN=>fun x m v hv h hm=>zld (zdf N (by omega)) x m v hv h hm hN
theorem zlc {w0:World} (x:Xp) (m v:Int) (hv:sizeX x m=v) (hn:nodes x≤1000000) (hm:0≤m∧m≤1000):Fun (KN w0) Tryd.prog 21 [.o (.g [pI x.op,pI x.n,pLs cE x.l]),.o (.c (pI m))] (.o (.c (pI v))):=zdf (nodes x) hn x m v hv (Nat.le_refl _) hm
end Go.Proofs.YtdkofaajcpcjkaaDoor
