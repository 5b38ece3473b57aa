/-
  Merged: ExDec, ExRead, ExRef, ExLaw, ExA, ExB, ExC, ExE, ExF.
-/
import Derived.WalkKit
import Derived.Lib.ItoaNum
import Derived.Lib.ParseIntB
import Derived.Test.YtdkofaajcpcjkaaGreatDoorMTI
import Derived.Test.YtdkofaajcpcjkaaGreatDoorMTC
import Derived.Test.YtdkofaajcpcjkaaGreatDoorMTG
set_option linter.unusedSimpArgs false
set_option linter.unusedVariables false
set_option maxRecDepth 100000
namespace Go.Proofs.YtdkofaajcpcjkaaGreatDoor
def db (d:Nat):UInt8:=UInt8.ofNat (48+d)
theorem zhs {d:Nat} (h:d<10):(db d).toNat=48+d:=by
 unfold db;rw [UInt8.toNat_ofNat'];omega
def dd (v:Nat):List UInt8:=if v=0 then [] else dd (v / 10)++[db (v%10)]
termination_by v
decreasing_by omega
theorem zdb:dd 0=[]:=by rw [dd];rfl
theorem zda {v:Nat} (h:v≠0):dd v=dd (v / 10)++[db (v%10)]:=by rw [dd,if_neg h]
theorem zdT:∀v:Nat,v≠0→Lib.decDigits v=dd v:=by
 intro v
 induction v using Nat.strongRecOn with
 | _ v ih =>
  intro h
  rw [Lib.decDigits,zda h]
  by_cases h2:v<10
  ·rw [dif_pos h2,show v / 10=0 by omega,zdb,show v%10=v by omega];rfl
  ·rw [dif_neg h2,ih (v / 10) (by omega) (by omega)];rfl
theorem zcV:Lib.decDigits 0=[48]:=by rw [Lib.decDigits,dif_pos (by omega)];rfl
def dvalA (a:Nat) (l:List UInt8):Nat:=l.foldl (fun a b=>a*10+(b.toNat - 48)) a
def dval (l:List UInt8):Nat:=dvalA 0 l
theorem zfn (a:Nat) (l r:List UInt8):dvalA a (l++r)=dvalA (dvalA a l) r:=List.foldl_append
theorem zgm (l r:List UInt8):dval (l++r)=dvalA (dval l) r:=zfn 0 l r
theorem zlQ (l:List UInt8) (a:Nat):dvalA a l=a*10 ^ l.length+dval l:=by
 induction l generalizing a with
 | nil=>simp [dvalA,dval]
 | cons b l ih =>
  have e:dvalA a (b::l)=dvalA (a*10+(b.toNat - 48)) l:=rfl
  have e2:dval (b::l)=dvalA (0*10+(b.toNat - 48)) l:=rfl
  rw [e,e2,ih,ih (0*10+(b.toNat - 48)),List.length_cons,Nat.pow_succ]
  rw [Nat.zero_mul,Nat.zero_add,Nat.add_mul,Nat.mul_assoc,Nat.mul_comm 10,Nat.add_assoc]
theorem zjy (l:List UInt8) (b:UInt8):dval (l++[b])=dval l*10+(b.toNat - 48):=by rw [zgm];rfl
theorem znB:∀v:Nat,dval (dd v)=v:=by
 intro v
 induction v using Nat.strongRecOn with
 | _ v ih =>
  by_cases h:v=0
  ·subst h;rw [zdb];rfl
  ·rw [zda h,zjy,ih _ (by omega),zhs (by omega)];omega
theorem zcW (v:Nat):dval (Lib.decDigits v)=v:=by
 by_cases h:v=0
 ·subst h;rw [zcV];rfl
 ·rw [zdT v h,znB]
def AllD (l:List UInt8):Prop:=∀b∈l,48≤b.toNat∧b.toNat≤57
instance (l:List UInt8):Decidable (AllD l):=inferInstanceAs (Decidable (∀b∈l,48≤b.toNat∧b.toNat≤57))
theorem zgg {l r:List UInt8}:AllD (l++r)↔AllD l∧AllD r:=by
 simp only [AllD,List.mem_append]
 exact ⟨fun h=>⟨fun d hd=>h d (.inl hd),fun d hd=>h d (.inr hd)⟩,fun h d hd=>hd.elim (h.1 d) (h.2 d)⟩
theorem znx:∀v:Nat,AllD (dd v):=by
 intro v
 induction v using Nat.strongRecOn with
 | _ v ih =>
  by_cases h:v=0
  ·subst h;rw [zdb];intro b hb;cases hb
  ·rw [zda h,zgg]
   refine ⟨ih _ (by omega),fun b hb=>?_⟩
   rw [List.mem_singleton.1 hb,zhs (by omega)];omega
theorem zaG (v:Nat):AllD (Lib.decDigits v):=by
 by_cases h:v=0
 ·subst h;rw [zcV];intro b hb;rw [List.mem_singleton.1 hb];decide
 ·rw [zdT v h];exact znx v
def sgnD (g:Bool) (v:Nat):Int:=if g=true then -(v:Int) else v
def cutN (s:List UInt8):Bool:=decide (s.head?=some 45)
def cutR (s:List UInt8):List UInt8:=if s.head?=some 45 then s.tail else s
def valS (s:List UInt8):Int:=sgnD (cutN s) (dval (cutR s))
theorem zdU (v:Nat):Lib.decDigits v≠[]:=by
 intro h
 have:=Lib.nDigits_pos v
 rw [← Lib.decDigits_length,h] at this
 simp at this
theorem zeL (x:Int):cutN (Lib.itoa x)=decide (x<0)∧cutR (Lib.itoa x)=Lib.decDigits x.natAbs:=by
 unfold Lib.itoa
 by_cases h:x<0
 ·rw [if_pos h]
  simp [cutN,cutR,h]
 ·rw [if_neg h,show x.toNat=x.natAbs by omega]
  have h1:¬ (Lib.decDigits x.natAbs).head?=some 45:=by
   intro e
   have:=zaG x.natAbs 45 (List.mem_of_mem_head? e)
   exact absurd this.1 (by decide)
  simp [cutN,cutR,h,h1]
theorem zkE (x:Int):valS (Lib.itoa x)=x:=by
 unfold valS
 rw [(zeL x).1,(zeL x).2,zcW]
 unfold sgnD
 by_cases h:x<0
 ·simp [h];omega
 ·simp [h];omega
def intW (w:List UInt8):Option Int:=if Lib.itoa (valS w)=w∧-9223372036854775808≤valS w∧valS w<9223372036854775808 then some (valS w) else none
theorem zaT {n:Int} (h:-9223372036854775808≤n∧n<9223372036854775808):intW (Lib.itoa n)=some n:=by
 unfold intW
 rw [zkE,if_pos ⟨rfl,h⟩]
theorem zbk {w:List UInt8} {n:Int} (h:intW w=some n):w=Lib.itoa n∧-9223372036854775808≤n∧n<9223372036854775808:=by
 unfold intW at h
 split at h
 ·rename_i hc
  injection h with h
  subst h
  exact ⟨hc.1.symm,hc.2⟩
 ·cases h
theorem zdY (n:Int):∀b∈Lib.itoa n,b=45∨(48≤b.toNat∧b.toNat≤57):=by
 unfold Lib.itoa
 split
 ·intro b hb
  rcases List.mem_cons.1 hb with rfl | hb
  ·exact .inl rfl
  ·exact .inr (zaG _ b hb)
 ·intro b hb
  exact .inr (zaG _ b hb)
theorem zcu (n:Int):Lib.itoa n≠[]:=by
 unfold Lib.itoa
 split
 ·simp
 ·exact zdU _
end Go.Proofs.YtdkofaajcpcjkaaGreatDoor
namespace Go.Proofs.YtdkofaajcpcjkaaGreatDoor
def isDel (b:UInt8):Bool:=b == 32 || b == 40 || b == 41
def wordW (s:List UInt8):List UInt8:=s.takeWhile fun b=>!isDel b
def restW (s:List UInt8):List UInt8:=s.dropWhile fun b=>!isDel b
theorem q8 (s:List UInt8):wordW s++restW s=s:=List.takeWhile_append_dropWhile
def Del (r:List UInt8):Prop:=∀b,r.head?=some b→isDel b=true
theorem zbe {w r:List UInt8} (hw:∀b∈w,isDel b=false) (hr:Del r):wordW (w++r)=w∧restW (w++r)=r:=by
 induction w with
 | nil =>
  cases r with
  | nil=>exact ⟨rfl,rfl⟩
  | cons b r =>
   have:=hr b rfl
   simp [wordW,restW,this]
 | cons c w ih =>
  have h1:=hw c (List.mem_cons_self ..)
  obtain ⟨e1,e2⟩:=ih fun b hb=>hw b (List.mem_cons_of_mem _ hb)
  constructor
  ·show (List.takeWhile _ (c::(w++r)))=_
   rw [List.takeWhile_cons,h1]
   exact congrArg (c::·) e1
  ·show (List.dropWhile _ (c::(w++r)))=_
   rw [List.dropWhile_cons,h1]
   exact e2
def opOf (w:List UInt8):Option Int:=if w=[43] then some 3 else if w=[45] then some 4 else if w=[42] then some 5 else if w=[109,105,110] then some 6 else if w=[109,97,120] then some 7 else none
theorem zfA {w:List UInt8} {o:Int} (h:opOf w=some o):3≤o∧o≤7∧w=opW o:=by
 unfold opOf at h
 split at h
 ·injection h with h;subst h;exact ⟨by decide,by decide,by assumption⟩
 split at h
 ·injection h with h;subst h;exact ⟨by decide,by decide,by assumption⟩
 split at h
 ·injection h with h;subst h;exact ⟨by decide,by decide,by assumption⟩
 split at h
 ·injection h with h;subst h;exact ⟨by decide,by decide,by assumption⟩
 split at h
 ·injection h with h;subst h;exact ⟨by decide,by decide,by assumption⟩
 ·cases h
theorem zhR {o:Int} (h0:3≤o) (h1:o≤7):opOf (opW o)=some o:=by
 have:o=3∨o=4∨o=5∨o=6∨o=7:=by omega
 rcases this with rfl | rfl | rfl | rfl | rfl<;>decide
theorem zka (o:Int):∀b∈opW o,isDel b=false:=by
 unfold opW
 intro b hb
 split at hb
 ·revert b;decide
 split at hb
 ·revert b;decide
 split at hb
 ·revert b;decide
 split at hb
 ·revert b;decide
 ·revert b;decide
def takeC (c:UInt8):List UInt8→Option (List UInt8)
 | b::r=>if b=c then some r else none
 | []=>none
theorem qV {c:UInt8} {s r:List UInt8} (h:takeC c s=some r):s=c::r:=by
 cases s with
 | nil=>cases h
 | cons b t =>
  have h':(if b=c then some t else none)=some r:=h
  by_cases e:b=c
  ·rw [if_pos e] at h'
   injection h' with h'
   rw [e,h']
  ·rw [if_neg e] at h';cases h'
theorem zaf (c:UInt8) (r:List UInt8):takeC c (c::r)=some r:=by simp [takeC]
def leafP (w:List UInt8):Option Xp:=match takeC 36 w with
 | some d=>(intW d).map fun n=>.mk 2 n []
 | none=>(intW w).map fun n=>.mk 1 n []
def readP:Nat→List UInt8→Option (Xp×List UInt8)
 | 0,_=>none
 | f+1,s=>match takeC 40 s with
  | none=>(leafP (wordW s)).map fun e=>(e,restW s)
  | some s1=>match opOf (wordW s1) with
   | none=>none
   | some o=>match takeC 32 (restW s1) with
    | none=>none
    | some s2=>match readP f s2 with
     | none=>none
     | some (a,s3)=>match takeC 32 s3 with
      | none=>none
      | some s4=>match readP f s4 with
       | none=>none
       | some (b,s5)=>match takeC 41 s5 with
        | none=>none
        | some s6=>some (.mk o 0 [a,b],s6)
theorem qW (n:Int) (l:List Xp):zy (.mk 1 n l)=Lib.itoa n:=by rw [zy,if_pos rfl]
theorem zag (n:Int) (l:List Xp):zy (.mk 2 n l)=36::Lib.itoa n:=by rw [zy,if_neg (by decide),if_pos rfl]
theorem za0 {o:Int} (h0:3≤o) (n:Int) (a b:Xp):zy (.mk o n [a,b])=40::(opW o++(32::zy a++(32::zy b))++[41]):=by
 rw [zy,if_neg (by omega),if_neg (by omega),zfL,zfL,zfL,List.append_nil]
theorem zd0 {w:List UInt8} {e:Xp} (h:leafP w=some e):w=zy e:=by
 unfold leafP at h
 split at h
 ·rename_i d hd
  cases hi:intW d with
  | none=>rw [hi] at h;cases h
  | some n =>
   rw [hi] at h
   injection h with h
   subst h
   rw [zag,qV hd,(zbk hi).1]
 ·cases hi:intW w with
  | none=>rw [hi] at h;cases h
  | some n =>
   rw [hi] at h
   injection h with h
   subst h
   rw [qW];exact (zbk hi).1
theorem zgC:∀(f:Nat) (s:List UInt8) (e:Xp) (r:List UInt8),readP f s=some (e,r)→s=zy e++r:=by
 intro f
 induction f with
 | zero=>intro s e r h;cases h
 | succ f ih =>
  intro s e r h
  rw [readP] at h
  split at h
  ·cases hl:leafP (wordW s) with
   | none=>rw [hl] at h;cases h
   | some x =>
    rw [hl] at h
    simp only [Option.map_some,Option.some.injEq,Prod.mk.injEq] at h
    obtain ⟨rfl,rfl⟩:=h
    rw [← zd0 hl,q8]
  ·rename_i s1 h1
   split at h
   ·cases h
   rename_i o ho
   split at h
   ·cases h
   rename_i s2 h2
   split at h
   ·cases h
   rename_i a s3 h3
   split at h
   ·cases h
   rename_i s4 h4
   split at h
   ·cases h
   rename_i b s5 h5
   split at h
   ·cases h
   rename_i s6 h6
   simp only [Option.some.injEq,Prod.mk.injEq] at h
   obtain ⟨rfl,rfl⟩:=h
   obtain ⟨o0,_,hw⟩:=zfA ho
   rw [za0 o0,qV h1,← hw]
   have e2:=qV h2
   have e3:=ih _ _ _ h3
   have e4:=qV h4
   have e5:=ih _ _ _ h5
   have e6:=qV h6
   have:restW s1=32::(zy a++32::(zy b++41::s6)):=by rw [e2,e3,e4,e5,e6]
   simp only [List.cons_append,List.append_assoc,List.singleton_append,List.nil_append]
   rw [← this,q8]
theorem zcZ (n:Int):∀b∈Lib.itoa n,isDel b=false:=by
 intro b hb
 rcases zdY n b hb with rfl | ⟨h1,h2⟩
 ·decide
 ·unfold isDel
  have e:∀c:UInt8,(c.toNat<48)→(b == c)=false:=by
   intro c hc
   rw [beq_eq_false_iff_ne]
   rintro rfl;omega
  rw [e 32 (by decide),e 40 (by decide),e 41 (by decide)];rfl
theorem zb3 (n:Int):∀c:UInt8,c=36∨c=40→takeC c (Lib.itoa n)=none:=by
 intro c hc
 cases hi:Lib.itoa n with
 | nil=>exact absurd hi (zcu n)
 | cons b t =>
  show (if b=c then some t else none)=none
  rw [if_neg]
  rintro rfl
  have:=zdY n b (by rw [hi];exact List.mem_cons_self ..)
  rcases hc with rfl | rfl
  ·rcases this with h | h
   ·exact absurd h (by decide)
   ·exact absurd h.1 (by decide)
  ·rcases this with h | h
   ·exact absurd h (by decide)
   ·exact absurd h.1 (by decide)
theorem zfI {c:UInt8} {s r:List UInt8} (hs:s≠[]) (h:takeC c s=none):takeC c (s++r)=none:=by
 cases s with
 | nil=>exact absurd rfl hs
 | cons b t =>
  have h':(if b=c then some t else none)=none:=h
  show (if b=c then some (t++r) else none)=none
  by_cases e:b=c
  ·rw [if_pos e] at h';cases h'
  ·rw [if_neg e]
theorem zht (o n:Int) (a b:Xp):depth (.mk o n [a,b])=max (depth a+1) (depth b+1):=by
 rw [depth,zcI,zcI,zcI];omega
theorem znm {n:Int} (h:valB n=true):-9223372036854775808≤n∧n<9223372036854775808:=by
 have:=zat.1 h;omega
theorem zgD {args:Int}:∀{e:Xp},Vx args e→∀(f:Nat) (r:List UInt8),depth e<f→Del r→readP f (zy e++r)=some (e,r):=by
 intro e h
 induction h with
 | @num n hv =>
  intro f r hf hr
  obtain ⟨f,rfl⟩:∃g,f=g+1:=⟨f - 1,by omega⟩
  rw [qW,readP,zfI (zcu n) (zb3 n 40 (.inr rfl))]
  obtain ⟨e1,e2⟩:=zbe (zcZ n) hr
  simp only [e1,e2]
  unfold leafP
  rw [zb3 n 36 (.inl rfl)]
  simp only [zaT (znm hv),Option.map_some]
 | @arg n h0 h1 =>
  intro f r hf hr
  obtain ⟨f,rfl⟩:∃g,f=g+1:=⟨f - 1,by omega⟩
  have hd:∀b∈(36::Lib.itoa n),isDel b=false:=by
   intro b hb
   rcases List.mem_cons.1 hb with rfl | hb
   ·decide
   ·exact zcZ n b hb
  have ht:takeC 40 ((36::Lib.itoa n)++r)=none:=by simp [takeC]
  rw [zag,readP,ht]
  obtain ⟨e1,e2⟩:=zbe hd hr
  simp only [e1,e2]
  unfold leafP
  rw [zaf]
  simp only [zaT (n:=n) (by omega),Option.map_some]
 | @op o a b h0 h1 ha hb iha ihb =>
  intro f r hf hr
  rw [zht] at hf
  obtain ⟨f,rfl⟩:∃g,f=g+1:=⟨f - 1,by omega⟩
  have e0:zy (.mk o 0 [a,b])++r=40::(opW o++(32::(zy a++(32::(zy b++(41::r)))))):=by rw [za0 h0];simp
  rw [e0,readP,zaf]
  obtain ⟨e1,e2⟩:=zbe (r:=32::(zy a++(32::(zy b++(41::r))))) (zka o) (by intro b hb;injection hb with hb;subst hb;rfl)
  simp only [e1,e2,zhR h0 h1,zaf]
  rw [iha f _ (by omega) (by intro b hb;injection hb with hb;subst hb;rfl)]
  simp only [zaf]
  rw [ihb f _ (by omega) (by intro b hb;injection hb with hb;subst hb;rfl)]
  simp only [zaf]
def qq (s:List UInt8):Option Xp:=match readP 30 s with
 | some (e,[])=>if z6 e 4=0 then some e else none
 | _=>none
theorem zbz {s:List UInt8} {e:Xp}:qq s=some e↔z6 e 4=0∧zy e=s:=by
 constructor
 ·intro h
  unfold qq at h
  split at h
  ·rename_i e' hr
   split at h
   ·rename_i hc
    injection h with h
    subst h
    have:=zgC _ _ _ _ hr
    rw [List.append_nil] at this
    exact ⟨hc,this.symm⟩
   ·cases h
  ·cases h
 ·rintro ⟨hc,rfl⟩
  obtain ⟨hn,hv⟩:=qS.1 hc
  have:=zez e
  have hr:=zgD hv 30 [] (by omega) (by intro b hb;cases hb)
  rw [List.append_nil] at hr
  unfold qq
  rw [hr]
  simp only [hc,if_true]
end Go.Proofs.YtdkofaajcpcjkaaGreatDoor
namespace Go.Proofs.YtdkofaajcpcjkaaGreatDoor
def numA:Nat→List UInt8→Nat
 | a,[]=>a
 | a,b::r=>if 48≤b.toNat∧b.toNat≤57 then numA (10*a+(b.toNat - 48)) r else numA a r
def numR (w:List UInt8):Int:=if w.head?=some 45 then -(numA 0 (w.take 9):Int) else (numA 0 (w.take 9):Int)
theorem zeQ:∀(l:List UInt8) (a:Nat),AllD l→numA a l=dvalA a l
 | [],a,_=>rfl
 | b::l,a,h=>by
  have h1:=h b (List.mem_cons_self ..)
  rw [numA,if_pos h1,zeQ l _ fun c hc=>h c (List.mem_cons_of_mem _ hc)]
  show dvalA (10*a+(b.toNat - 48)) l=dvalA (a*10+(b.toNat - 48)) l
  rw [Nat.mul_comm]
theorem zoQ:∀v:Nat,v≠0→10 ^ ((dd v).length - 1)≤v:=by
 intro v
 induction v using Nat.strongRecOn with
 | _ v ih =>
  intro h
  rw [zda h,List.length_append,List.length_singleton,Nat.add_sub_cancel]
  by_cases h2:v<10
  ·rw [show v / 10=0 by omega,zdb];simp;omega
  ·have h3:v / 10≠0:=by omega
   have h4:=ih (v / 10) (by omega) h3
   have h5:0<(dd (v / 10)).length:=by rw [zda h3];simp
   rw [show (dd (v / 10)).length=((dd (v / 10)).length - 1)+1 by omega,Nat.pow_succ]
   omega
theorem zcU {v:Nat} (h:v≤1048576):(Lib.decDigits v).length≤7:=by
 by_cases h0:v=0
 ·subst h0;rw [zcV];simp
 ·rw [zdT v h0]
  have h1:=Nat.lt_of_le_of_lt (zoQ v h0) (show v<10 ^ 7 by omega)
  have:=(Nat.pow_lt_pow_iff_right (a:=10) (by decide)).1 h1
  omega
theorem zfx {n:Int} (h:valB n=true):numR (Lib.itoa n)=n:=by
 have hv:=zat.1 h
 unfold numR Lib.itoa
 by_cases h0:n<0
 ·rw [if_pos h0]
  have h7:=zcU (v:=n.natAbs) (by omega)
  have e:(45::Lib.decDigits n.natAbs).take 9=45::Lib.decDigits n.natAbs:=List.take_of_length_le (by simp;omega)
  rw [if_pos (show (45::Lib.decDigits n.natAbs).head?=some 45 from rfl),e,numA,if_neg (by decide),zeQ _ _ (zaG _)]
  have:=zcW n.natAbs
  unfold dval at this
  rw [this];omega
 ·rw [if_neg h0,show n.toNat=n.natAbs by omega]
  have h7:=zcU (v:=n.natAbs) (by omega)
  have h1:¬ (Lib.decDigits n.natAbs).head?=some 45:=by
   intro e
   have:=zaG n.natAbs 45 (List.mem_of_mem_head? e)
   exact absurd this.1 (by decide)
  rw [if_neg h1,List.take_of_length_le (by omega),zeQ _ _ (zaG _)]
  have:=zcW n.natAbs
  unfold dval at this
  rw [this];omega
def leafR (w:List UInt8):Xp:=match takeC 36 w with
 | some d=>.mk 2 (numR d) []
 | none=>.mk 1 (numR w) []
def readR:Nat→List UInt8→Xp×List UInt8
 | 0,s=>(leafR (wordW s),restW s)
 | d+1,s=>match takeC 40 s with
  | none=>(leafR (wordW s),restW s)
  | some s1=>(.mk ((opOf (wordW s1)).getD 3) 0 [(readR d ((restW s1).drop 1)).1,(readR d ((readR d ((restW s1).drop 1)).2.drop 1)).1],(readR d ((readR d ((restW s1).drop 1)).2.drop 1)).2.drop 1)
theorem zbA {d:Nat} {s:List UInt8} (h:takeC 40 s=none):readR d s=(leafR (wordW s),restW s):=by
 cases d with
 | zero=>rfl
 | succ d=>rw [readR,h]
theorem zgF {args:Int}:∀{e:Xp},Vx args e→∀(d:Nat) (r:List UInt8),depth e≤d→Del r→readR d (zy e++r)=(e,r):=by
 intro e h
 induction h with
 | @num n hv =>
  intro d r _ hr
  obtain ⟨e1,e2⟩:=zbe (zcZ n) hr
  rw [qW,zbA (zfI (zcu n) (zb3 n 40 (.inr rfl))),e1,e2]
  unfold leafR
  rw [zb3 n 36 (.inl rfl),zfx hv]
 | @arg n h0 h1 =>
  intro d r _ hr
  have hd:∀b∈(36::Lib.itoa n),isDel b=false:=by
   intro b hb
   rcases List.mem_cons.1 hb with rfl | hb
   ·decide
   ·exact zcZ n b hb
  obtain ⟨e1,e2⟩:=zbe hd hr
  rw [zag,zbA (by simp [takeC]),e1,e2]
  unfold leafR
  rw [zaf]
  simp only [zfx (n:=n) (by rw [zat];omega)]
 | @op o a b h0 h1 ha hb iha ihb =>
  intro d r hd hr
  rw [zht] at hd
  obtain ⟨d,rfl⟩:∃g,d=g+1:=⟨d - 1,by omega⟩
  have e0:zy (.mk o 0 [a,b])++r=40::(opW o++(32::(zy a++(32::(zy b++(41::r)))))):=by rw [za0 h0];simp
  obtain ⟨e1,e2⟩:=zbe (r:=32::(zy a++(32::(zy b++(41::r))))) (zka o) (by intro b hb;injection hb with hb;subst hb;rfl)
  rw [e0,readR,zaf]
  simp only [e1,e2,zhR h0 h1,Option.getD_some,List.drop_succ_cons,List.drop_zero]
  rw [iha d _ (by omega) (by intro b hb;injection hb with hb;subst hb;rfl)]
  simp only [List.drop_succ_cons,List.drop_zero]
  rw [ihb d _ (by omega) (by intro b hb;injection hb with hb;subst hb;rfl)]
  simp only [List.drop_succ_cons,List.drop_zero]
def zeW (s:List UInt8):Option Xp:=if z6 (readR 30 s).1 4=0∧zy (readR 30 s).1=s then some (readR 30 s).1 else none
theorem zd6 (s:List UInt8):zeW s=qq s:=by
 unfold zeW
 split
 ·rename_i h
  exact (zbz.2 h).symm
 ·rename_i h
  cases hp:qq s with
  | none=>rfl
  | some e =>
   exfalso
   obtain ⟨hc,rfl⟩:=zbz.1 hp
   obtain ⟨hn,hv⟩:=qS.1 hc
   have:=zez e
   have hr:=zgF hv 30 [] (by omega) (by intro b hb;cases hb)
   rw [List.append_nil] at hr
   rw [hr] at h
   exact h ⟨hc,rfl⟩
def modX (n m:Int):Int:=if m<1 then 0 else (IntKind.i64.wrap (n.tmod m+m)).tmod m
def drawX (l:List Int) (n:Int):Int×List Int:=match l with
 | []=>(0,[])
 | x::r=>(modX x n,r)
def madeX (args:Int):Nat→List Int→Xp×List Int
 | 0,l=>if (drawX l 10).1%2=1∧0<args then (.mk 2 (drawX (drawX l 10).2 args).1 [],(drawX (drawX l 10).2 args).2) else (.mk 1 ((drawX (drawX l 10).2 17).1 - 8) [],(drawX (drawX l 10).2 17).2)
 | d+1,l=>if (drawX l 10).1<4 then (if (drawX l 10).1%2=1∧0<args then (.mk 2 (drawX (drawX l 10).2 args).1 [],(drawX (drawX l 10).2 args).2) else (.mk 1 ((drawX (drawX l 10).2 17).1 - 8) [],(drawX (drawX l 10).2 17).2))
  else (.mk (3+(drawX (drawX l 10).2 5).1) 0 [(madeX args d (drawX (drawX l 10).2 5).2).1,(madeX args d (madeX args d (drawX (drawX l 10).2 5).2).2).1],(madeX args d (madeX args d (drawX (drawX l 10).2 5).2).2).2)
theorem zeP {n m:Int} (h:0<m) (h2:m≤1000):0≤modX n m∧modX n m<m:=by
 unfold modX
 rw [if_neg (by omega)]
 have a1:=Int.tmod_lt_of_pos n h
 have a2:=Int.lt_tmod_of_pos n h
 have hw:∀x:Int,IntKind.i64.wrap x=(x+9223372036854775808)%18446744073709551616 - 9223372036854775808:=fun x=>IntKind.wrap_i64 x
 have e:IntKind.i64.wrap (n.tmod m+m)=n.tmod m+m:=by rw [hw];omega
 rw [e,Int.tmod_eq_emod_of_nonneg (by omega)]
 exact ⟨Int.emod_nonneg _ (by omega),Int.emod_lt_of_pos _ h⟩
theorem zp {l:List Int} {m:Int} (h:0<m) (h2:m≤1000):0≤(drawX l m).1∧(drawX l m).1<m:=by
 cases l with
 | nil=>exact ⟨Int.le_refl _,h⟩
 | cons x r=>exact zeP h h2
theorem zlZ {args:Int} (h0:0≤args) (h1:args≤4):∀(d:Nat) (l:List Int),Vx args (madeX args d l).1∧nodes (madeX args d l).1+1≤2 ^ (d+1):=by
 have leaf:∀l:List Int,Vx args (if (drawX l 10).1%2=1∧0<args then (Xp.mk 2 (drawX (drawX l 10).2 args).1 [],(drawX (drawX l 10).2 args).2) else (.mk 1 ((drawX (drawX l 10).2 17).1 - 8) [],(drawX (drawX l 10).2 17).2)).1∧nodes (if (drawX l 10).1%2=1∧0<args then (Xp.mk 2 (drawX (drawX l 10).2 args).1 [],(drawX (drawX l 10).2 args).2) else (.mk 1 ((drawX (drawX l 10).2 17).1 - 8) [],(drawX (drawX l 10).2 17).2)).1=1:=by
  intro l
  split
  ·rename_i h
   have:=zp (l:=(drawX l 10).2) h.2 (by omega)
   exact ⟨.arg this.1 (by omega),by rw [nodes,zw]⟩
  ·have:=zp (l:=(drawX l 10).2) (m:=17) (by decide) (by decide)
   exact ⟨.num (by rw [zat];omega),by rw [nodes,zw]⟩
 intro d
 induction d with
 | zero =>
  intro l
  rw [madeX]
  obtain ⟨a,b⟩:=leaf l
  exact ⟨a,by rw [b];decide⟩
 | succ d ih =>
  intro l
  rw [madeX]
  split
  ·obtain ⟨a,b⟩:=leaf l
   have:2≤2 ^ (d+1+1):=Nat.pow_le_pow_right (n:=2) (by decide) (show 1≤d+1+1 by omega)
   exact ⟨a,by rw [b];omega⟩
  ·have h5:=zp (l:=(drawX l 10).2) (m:=5) (by decide) (by decide)
   obtain ⟨a1,a2⟩:=ih (drawX (drawX l 10).2 5).2
   obtain ⟨b1,b2⟩:=ih (madeX args d (drawX (drawX l 10).2 5).2).2
   refine ⟨.op (by omega) (by omega) a1 b1,?_⟩
   rw [nodes,zw,zw,zw,Nat.pow_succ]
   omega
end Go.Proofs.YtdkofaajcpcjkaaGreatDoor
namespace Go.Proofs.YtdkofaajcpcjkaaGreatDoor
def evalE (e:Xp) (args:List Int):Int×Int:=if z6 e args.length≠0 then (0,z6 e args.length) else match evalX args e with
 | some v=>(v,0)
 | none=>(0,3)
theorem qv {n v:Int} (h:valO n=some v):v=n∧valB v=true:=by
 unfold valO at h
 split at h
 ·rename_i hv;injection h with h;subst h;exact ⟨rfl,hv⟩
 ·cases h
theorem zde (args:List Int) (n:Int) (l:List Xp):evalX args (.mk 1 n l)=valO n:=by rw [evalX,if_pos rfl]
theorem zdd (args:List Int) (n:Int) (l:List Xp):evalX args (.mk 2 n l)=valO (args.getD n.toNat 0):=by rw [evalX,if_neg (by decide),if_pos rfl]
theorem zcX (args:List Int) {o:Int} (h:3≤o) (n:Int) (a b:Xp):evalX args (.mk o n [a,b])=match evalX args a,evalX args b with
  | some x,some y=>valO (operX o x y)
  | _,_=>none:=by
 rw [evalX,if_neg (by omega),if_neg (by omega),evalL,evalL,evalL]
 cases evalX args a with
 | none=>rfl
 | some x =>
  cases evalX args b with
  | none=>rfl
  | some y=>rfl
theorem zjG {args:List Int} {k:Int}:∀{e:Xp},Vx k e→∀v,evalX args e=some v→valB v=true:=by
 intro e h
 cases h with
 | num h=>intro v hv;rw [zde] at hv;exact (qv hv).2
 | arg h0 h1=>intro v hv;rw [zdd] at hv;exact (qv hv).2
 | op h0 h1 ha hb =>
  intro v hv
  rw [zcX args h0] at hv
  split at hv
  ·exact (qv hv).2
  ·cases hv
end Go.Proofs.YtdkofaajcpcjkaaGreatDoor
namespace Go.Proofs.YtdkofaajcpcjkaaGreatDoor
open Go.RowKit
mutual
def cE:Xp→List Pred
 | .mk o n l=>[pI o,pI n,pL l.length (cEs l)]
def cEs:List Xp→List Pred
 | []=>[]
 | x::r=>cE x++cEs r
end
theorem zm2:∀l:List Xp,cEs l=l.flatMap cE
 | []=>by rw [cEs];rfl
 | x::r=>by rw [cEs,zm2 r];rfl
theorem cE_eq (e:Xp):cE e=[pI e.op,pI e.n,pLs cE e.l]:=by
 cases e with
 | mk o n l=>rw [cE,zm2];rfl
theorem zj (e:Xp):(cE e).length=3:=by rw [cE_eq];rfl
section
variable {K:Kit}
mutual
theorem zf (hK:K.bad .i64=false):∀e:Xp,FineAll K (cE e)
 | .mk o n l=>by
  rw [cE]
  exact ⟨za (by simp [Kit.ck,ckf,hK]),za (by simp [Kit.ck,ckf,hK]),zm8 (zhz hK l),trivial⟩
theorem zhz (hK:K.bad .i64=false):∀l:List Xp,FineAll K (cEs l)
 | []=>by rw [cEs];trivial
 | x::r=>by rw [cEs];exact (zf hK x).append (zhz hK r)
end
end
theorem zfs {x:Xp}:∀{l:List Xp},x∈l→nodes x≤zw l
 | [],h=>by cases h
 | y::r,h=>by
  rw [zw]
  rcases List.mem_cons.1 h with rfl | h
  ·omega
  ·have:=zfs h;omega
end Go.Proofs.YtdkofaajcpcjkaaGreatDoor
namespace Go.Proofs.YtdkofaajcpcjkaaGreatDoor
open Go.RowKit
theorem zbB {l:List Xp} {k:Nat} {x:Xp} (h:l[k]?=some x) (n m:Int):sizeL (l.drop k) n m=if n > m then n else sizeL (l.drop (k+1)) (n+sizeX x (m - n)) m:=by
 obtain ⟨hk,rfl⟩:=List.getElem?_eq_some_iff.1 h
 rw [List.drop_eq_getElem_cons hk,sizeL]
theorem zhW (e:Xp) (m:Int):sizeX e m=sizeL e.l 1 m:=by cases e;rw [sizeX];rfl
theorem zbh {l:List Xp} {k:Nat} {x:Xp} (h:l[k]?=some x) (a:Int):chkL (l.drop k) a=if chkX x a≠0 then chkX x a else chkL (l.drop (k+1)) a:=by
 obtain ⟨hk,rfl⟩:=List.getElem?_eq_some_iff.1 h
 rw [List.drop_eq_getElem_cons hk,chkL]
theorem zfw {e x:Xp} (h:x∈e.l):nodes x+1≤nodes e:=by
 cases e with
 | mk o m l=>rw [nodes];have:=zfs (l:=l) h;omega
theorem zu {e x:Xp} {n N:Nat} (hN:nodes e≤N+1) (h:e.l[n]?=some x):nodes x≤N:=by
 have:=zfw (List.mem_of_getElem? h);omega
theorem qj (e:Xp):e.l.length<nodes e:=by
 have key:∀l:List Xp,l.length≤zw l:=by
  intro l
  induction l with
  | nil=>exact Nat.zero_le _
  | cons x r ih=>rw [zw,List.length_cons];have:=qk x;omega
 cases e with
 | mk o m l=>rw [nodes];have:=key l;exact Nat.lt_of_le_of_lt this (by omega)
theorem zkw (e:Xp) {m:Int} (h:0≤m):1≤sizeX e m∧sizeX e m≤m+1:=⟨(zbC e m h).2.2.1,(zbC e m h).2.2.2⟩
def zap (w0:World) (N:Nat):Prop:=∀(x:Xp) (m v:Int),sizeX x m=v→nodes x≤N→0≤m∧m≤1000→Fun (KN w0) Tryz.prog 39 [.o (.g [pI x.op,pI x.n,pLs cE x.l]),.o (.c (pI m))] (.o (.c (pI v)))
structure x_size_l_T where
 i:Int
 n:Int
def zU:List Atom:=[.sl 0 (.o (.g [.h 0,.h 1,.h 2])),.sl 1 (yh 3),.sl 2 (.o (.c (.p 0 0))),.sl 4 (.o (.c (.k (.int .i64 0)))),.sl 5 (yh 6),.sl 8 (.o (.c (.p 0 2))),.sl 9 (yh 2),.sl 10 (yh 4),.sl 11 (yh 5),.bx 0 32 [.h 0,.h 1,.h 2]]
def zal:LoopS:=⟨3,[.sl 0 (.o (.g [.h 0,.h 1,.h 2])),.sl 1 (yh 3),.sl 2 (.o (.c (.p 0 0))),.sl 4 (.o (.c (.k (.int .i64 0)))),.sl 5 (.o (.c (.k (.int .i64 1)))),.sl 8 (.o (.c (.p 0 2))),.sl 9 (yh 2),.sl 10 (yh 4),.sl 11 (.o (.c (.k (.int .i64 0)))),.bx 0 32 [.h 0,.h 1,.h 2]],(.x 0),[.sl 0 (.o (.g [.h 0,.h 1,.h 2])),.sl 1 (yh 3),.sl 2 (.o (.c (.p 0 0))),.sl 4 (.o (.c (.k (.int .i64 0)))),.sl 5 (yh 5),.sl 8 (.o (.c (.p 0 2))),.sl 9 (yh 2),.sl 10 (yh 4),.bx 0 32 [.h 0,.h 1,.h 2]]⟩
theorem zhj {w0:World} (e:Xp) (most:Int) (N:Nat) (v1:Int) (IH:zap w0 N) (i:Int) (n:Int) (v501:Bool) (n503:Nat) (x504:Xp) (v507:Bool) (e501:(decide (i<v1))=v501) (e507:(decide (n > most))=v507) (h502:v501=true) (s505:i=(n503:Int)) (s506:e.l[n503]?=some x504) (h508:v507=true) (o:Int) (F:Fact) (u0:F.c 0=pI e.op) (u1:F.c 1=pI e.n) (u2:F.c 2=pLs cE e.l) (u3:F.c 3=pI most) (u4:F.c 4=pI v1) (u5:F.c 5=pI o) (q0:(n)=o) (R:Frm) (hR:R.pm=⟨ntOf Tryz.prog 39,[],[]⟩):Goes (KN w0) Tryz.prog R (lp Tryz.prog 39 0) (FL [pI e.op,pI e.n,pLs cE e.l,pI most,pI v1,pI i,pI n] []) zU (.x 0) F zal.out:=
 goes (x:=(.x 0)) (y:=(.x 0)) (Fb:=FL [pI e.op,pI e.n,pLs cE e.l,pI most,pI v1,pI i,pI n,pB v501,pP (cE x504),pI x504.op,pI x504.n,pLs cE x504.l,pB v507] []) (stb:=zU) (tl:=[.sl 0 (.o (.g [.h 0,.h 1,.h 2])),.sl 1 (yh 3),.sl 2 (.o (.c (.p 0 0))),.sl 4 (.o (.c (.k (.int .i64 0)))),.sl 5 (yh 6),.sl 8 (.o (.c (.p 0 2))),.sl 9 (yh 2),.sl 10 (yh 4),.bx 0 32 [.h 0,.h 1,.h 2]]) (C:=((1005000,.bin .lss 3 (yh 5) (yh 4) (yh 7)) ::
  (10007,.fb 7 true) ::
  (1005001,.op (.ia 29) [yh 2,yh 5] [] (yh 8)) ::
  (1005002,.op (.ld 32) [yh 8] [] (.o (.g [.h 9,.h 10,.h 11]))) ::
  (1005007,.bin .gtr 3 (yh 6) (yh 3) (yh 12)) ::
  (10012,.fb 12 true) ::
  []:List (Nat×Ent))) (H:=.no) 5000 (zipA.imp ⟨z_g ⟨yy,yy,yy,trivial⟩,z_c yy,z_c yy,z_c yy,z_c yy,z_c yy,z_c yy,z_c yy,z_c yy,z_b ⟨yy,yy,yy,trivial⟩,trivial⟩) (zg ⟨za,za,(ze (zf rfl)),za,za,za,za,za,(zl ((zf rfl) _)),za,za,(ze (zf rfl)),za,trivial⟩) ⟨e_bin (zb rfl) (zb rfl) (zb rfl) (r_cmp (congrArg some e501)),
  e_fbv h502,
  e_iaL (E:=32) (z:=3) zj (by kernel_rfl) (by kernel_rfl) (zc rfl) (zb rfl) s505 s506 (zc rfl),
  e_ldG (by kernel_rfl) (by kernel_rfl) (zc rfl) (cE_eq _).symm rfl (zj _),
  e_bin (zb rfl) (zb rfl) (zb rfl) (r_cmp (congrArg some e507)),
  e_fbv h508,
  trivial⟩ mixed hR trivial (fun _ _ _ hs=>by cases hs) (by kernel_rfl:zA (KN w0) Tryz.prog _ .no ⟨ntOf Tryz.prog 39,[],[]⟩ (lp Tryz.prog 39 0) 5000 zU (.x 0) [.sl 0 (.o (.g [.h 0,.h 1,.h 2])),.sl 1 (yh 3),.sl 2 (.o (.c (.p 0 0))),.sl 4 (.o (.c (.k (.int .i64 0)))),.sl 5 (yh 6),.sl 8 (.o (.c (.p 0 2))),.sl 9 (yh 2),.sl 10 (yh 4),.bx 0 32 [.h 0,.h 1,.h 2]]=true) rfl (zipA.imp ⟨z_g ⟨fun β v W h=>(zc u0 β v W).2 h,fun β v W h=>(zc u1 β v W).2 h,fun β v W h=>(zc u2 β v W).2 h,trivial⟩,z_c (fun β v W h=>(zc u3 β v W).2 h),z_c yy,z_c yy,z_c (fun β v W h=>(zc u5 β v W).2 (by rw [← q0];exact h)),z_c yy,z_c (fun β v W h=>(zc u2 β v W).2 h),z_c (fun β v W h=>(zc u4 β v W).2 h),z_b ⟨fun β v W h=>(zc u0 β v W).2 h,fun β v W h=>(zc u1 β v W).2 h,fun β v W h=>(zc u2 β v W).2 h,trivial⟩,trivial⟩)
theorem zhk {w0:World} (e:Xp) (most:Int) (N:Nat) (v1:Int) (IH:zap w0 N) (i:Int) (n:Int) (v501:Bool) (n503:Nat) (x504:Xp) (v507:Bool) (v509:Int) (v510:Int) (v513:Int) (v514:Int) (e501:(decide (i<v1))=v501) (e507:(decide (n > most))=v507) (e509:(IntKind.i64.wrap (most - n))=v509) (e510:(sizeX x504 v509)=v510) (e513:(IntKind.i64.wrap (n+v510))=v513) (e514:(IntKind.i64.wrap (i+(1:Int)))=v514) (h502:v501=true) (s505:i=(n503:Int)) (s506:e.l[n503]?=some x504) (h508:v507=false) (s511:nodes x504≤N) (s512:0≤v509∧v509≤1000) (i':Int) (n':Int) (q0:(v513)=n') (q1:(v514)=i') (R:Frm) (hR:R.pm=⟨ntOf Tryz.prog 39,[],[]⟩):Goes (KN w0) Tryz.prog R (lp Tryz.prog 39 0) (FL [pI e.op,pI e.n,pLs cE e.l,pI most,pI v1,pI i,pI n] []) zU .n (FL [pI e.op,pI e.n,pLs cE e.l,pI most,pI v1,pI i',pI n'] []) zU:=
 goes (x:=.n) (y:=.n) (Fb:=FL [pI e.op,pI e.n,pLs cE e.l,pI most,pI v1,pI i,pI n,pB v501,pP (cE x504),pI x504.op,pI x504.n,pLs cE x504.l,pB v507,pI v509,pI v510,pI v513,pI v514] []) (stb:=zU) (tl:=[.sl 0 (.o (.g [.h 0,.h 1,.h 2])),.sl 1 (yh 3),.sl 2 (.o (.c (.p 0 0))),.sl 4 (.o (.c (.k (.int .i64 0)))),.sl 5 (yh 15),.sl 8 (.o (.c (.p 0 2))),.sl 9 (yh 2),.sl 10 (yh 4),.sl 11 (yh 16),.bx 0 32 [.h 0,.h 1,.h 2]]) (C:=((1005000,.bin .lss 3 (yh 5) (yh 4) (yh 7)) ::
  (10007,.fb 7 true) ::
  (1005001,.op (.ia 29) [yh 2,yh 5] [] (yh 8)) ::
  (1005002,.op (.ld 32) [yh 8] [] (.o (.g [.h 9,.h 10,.h 11]))) ::
  (1005007,.bin .gtr 3 (yh 6) (yh 3) (yh 12)) ::
  (10012,.fb 12 false) ::
  (1005012,.bin .sub 3 (yh 3) (yh 6) (yh 13)) ::
  (1005013,.call ⟨39,[.o (.g [.h 9,.h 10,.h 11]),yh 13],[],yh 14,[]⟩) ::
  (1005014,.bin .add 3 (yh 6) (yh 14) (yh 15)) ::
  (1005016,.bin .add 3 (yh 5) (LF (.k (.int .i64 1))) (yh 16)) ::
  []:List (Nat×Ent))) (H:=.no) 5000 (zipA.imp ⟨z_g ⟨yy,yy,yy,trivial⟩,z_c yy,z_c yy,z_c yy,z_c yy,z_c yy,z_c yy,z_c yy,z_c yy,z_b ⟨yy,yy,yy,trivial⟩,trivial⟩) (zg ⟨za,za,(ze (zf rfl)),za,za,za,za,za,(zl ((zf rfl) _)),za,za,(ze (zf rfl)),za,za,za,za,za,trivial⟩) ⟨e_bin (zb rfl) (zb rfl) (zb rfl) (r_cmp (congrArg some e501)),
  e_fbv h502,
  e_iaL (E:=32) (z:=3) zj (by kernel_rfl) (by kernel_rfl) (zc rfl) (zb rfl) s505 s506 (zc rfl),
  e_ldG (by kernel_rfl) (by kernel_rfl) (zc rfl) (cE_eq _).symm rfl (zj _),
  e_bin (zb rfl) (zb rfl) (zb rfl) (r_cmp (congrArg some e507)),
  e_fbv h508,
  e_bin (zb rfl) (zb rfl) (zb rfl) (r_ar (congrArg some e509)),
  zh (IH x504 v509 v510 e510 s511 s512),
  e_bin (zb rfl) (zb rfl) (zb rfl) (r_ar (congrArg some e513)),
  e_bin (zb rfl) zd (zb rfl) (r_ar (congrArg some e514)),
  trivial⟩ mixed hR trivial (fun _ _ _ hs=>by cases hs) (by kernel_rfl:zA (KN w0) Tryz.prog _ .no ⟨ntOf Tryz.prog 39,[],[]⟩ (lp Tryz.prog 39 0) 5000 zU .n [.sl 0 (.o (.g [.h 0,.h 1,.h 2])),.sl 1 (yh 3),.sl 2 (.o (.c (.p 0 0))),.sl 4 (.o (.c (.k (.int .i64 0)))),.sl 5 (yh 15),.sl 8 (.o (.c (.p 0 2))),.sl 9 (yh 2),.sl 10 (yh 4),.sl 11 (yh 16),.bx 0 32 [.h 0,.h 1,.h 2]]=true) rfl (zipA.imp ⟨z_g ⟨yy,yy,yy,trivial⟩,z_c yy,z_c yy,z_c yy,z_c (fun β v W h=>(zc rfl β v W).2 (by rw [← q0];exact h)),z_c yy,z_c yy,z_c yy,z_c (fun β v W h=>(zc rfl β v W).2 (by rw [← q1];exact h)),z_b ⟨yy,yy,yy,trivial⟩,trivial⟩)
theorem zhl {w0:World} (e:Xp) (most:Int) (N:Nat) (v1:Int) (IH:zap w0 N) (i:Int) (n:Int) (v501:Bool) (e501:(decide (i<v1))=v501) (h502:v501=false) (o:Int) (F:Fact) (u0:F.c 0=pI e.op) (u1:F.c 1=pI e.n) (u2:F.c 2=pLs cE e.l) (u3:F.c 3=pI most) (u4:F.c 4=pI v1) (u5:F.c 5=pI o) (q0:(n)=o) (R:Frm) (hR:R.pm=⟨ntOf Tryz.prog 39,[],[]⟩):Goes (KN w0) Tryz.prog R (lp Tryz.prog 39 0) (FL [pI e.op,pI e.n,pLs cE e.l,pI most,pI v1,pI i,pI n] []) zU (.x 0) F zal.out:=
 goes (x:=(.x 0)) (y:=(.x 0)) (Fb:=FL [pI e.op,pI e.n,pLs cE e.l,pI most,pI v1,pI i,pI n,pB v501] []) (stb:=zU) (tl:=[.sl 0 (.o (.g [.h 0,.h 1,.h 2])),.sl 1 (yh 3),.sl 2 (.o (.c (.p 0 0))),.sl 4 (.o (.c (.k (.int .i64 0)))),.sl 5 (yh 6),.sl 8 (.o (.c (.p 0 2))),.sl 9 (yh 2),.sl 10 (yh 4),.bx 0 32 [.h 0,.h 1,.h 2]]) (C:=((1005000,.bin .lss 3 (yh 5) (yh 4) (yh 7)) ::
  (10007,.fb 7 false) ::
  []:List (Nat×Ent))) (H:=.no) 5000 (zipA.imp ⟨z_g ⟨yy,yy,yy,trivial⟩,z_c yy,z_c yy,z_c yy,z_c yy,z_c yy,z_c yy,z_c yy,z_c yy,z_b ⟨yy,yy,yy,trivial⟩,trivial⟩) (zg ⟨za,za,(ze (zf rfl)),za,za,za,za,za,trivial⟩) ⟨e_bin (zb rfl) (zb rfl) (zb rfl) (r_cmp (congrArg some e501)),
  e_fbv h502,
  trivial⟩ mixed hR trivial (fun _ _ _ hs=>by cases hs) (by kernel_rfl:zA (KN w0) Tryz.prog _ .no ⟨ntOf Tryz.prog 39,[],[]⟩ (lp Tryz.prog 39 0) 5000 zU (.x 0) [.sl 0 (.o (.g [.h 0,.h 1,.h 2])),.sl 1 (yh 3),.sl 2 (.o (.c (.p 0 0))),.sl 4 (.o (.c (.k (.int .i64 0)))),.sl 5 (yh 6),.sl 8 (.o (.c (.p 0 2))),.sl 9 (yh 2),.sl 10 (yh 4),.bx 0 32 [.h 0,.h 1,.h 2]]=true) rfl (zipA.imp ⟨z_g ⟨fun β v W h=>(zc u0 β v W).2 h,fun β v W h=>(zc u1 β v W).2 h,fun β v W h=>(zc u2 β v W).2 h,trivial⟩,z_c (fun β v W h=>(zc u3 β v W).2 h),z_c yy,z_c yy,z_c (fun β v W h=>(zc u5 β v W).2 (by rw [← q0];exact h)),z_c yy,z_c (fun β v W h=>(zc u2 β v W).2 h),z_c (fun β v W h=>(zc u4 β v W).2 h),z_b ⟨fun β v W h=>(zc u0 β v W).2 h,fun β v W h=>(zc u1 β v W).2 h,fun β v W h=>(zc u2 β v W).2 h,trivial⟩,trivial⟩)
def zi8 (e:Xp) (most:Int) (N:Nat) (v1:Int) (t:x_size_l_T) (o:Int):Prop:=(∃(v501:Bool),∃(n503:Nat),∃(x504:Xp),∃(v507:Bool),((decide (t.i<v1))=v501)∧((decide (t.n > most))=v507)∧(v501=true)∧(t.i=(n503:Int))∧(e.l[n503]?=some x504)∧(v507=true)∧((t.n)=o)∧True)∨(∃(v501:Bool),((decide (t.i<v1))=v501)∧(v501=false)∧((t.n)=o)∧True)
def zi7 (e:Xp) (most:Int) (N:Nat) (v1:Int) (t t':x_size_l_T):Prop:=(∃(v501:Bool),∃(n503:Nat),∃(x504:Xp),∃(v507:Bool),∃(v509:Int),∃(v510:Int),∃(v513:Int),∃(v514:Int),((decide (t.i<v1))=v501)∧((decide (t.n > most))=v507)∧((IntKind.i64.wrap (most - t.n))=v509)∧((sizeX x504 v509)=v510)∧((IntKind.i64.wrap (t.n+v510))=v513)∧((IntKind.i64.wrap (t.i+(1:Int)))=v514)∧(v501=true)∧(t.i=(n503:Int))∧(e.l[n503]?=some x504)∧(v507=false)∧(nodes x504≤N)∧(0≤v509∧v509≤1000)∧((v513)=t'.n)∧((v514)=t'.i)∧True)
theorem zfc {w0:World} (e:Xp) (most:Int) (N:Nat) (v1:Int) (IH:zap w0 N) (o:Int) {F:Fact} (u0:F.c 0=pI e.op) (u1:F.c 1=pI e.n) (u2:F.c 2=pLs cE e.l) (u3:F.c 3=pI most) (u4:F.c 4=pI v1) (u5:F.c 5=pI o) (R:Frm) (hR:R.pm=⟨ntOf Tryz.prog 39,[],[]⟩) (J:x_size_l_T→Prop) (m:x_size_l_T→Nat) (hJ:J { i:=(0:Int),n:=(1:Int) }) (rounds:∀t,J t→zi8 e most N v1 t o∨∃t',zi7 e most N v1 t t'∧m t'<m t∧J t'):zi (KN w0) Tryz.prog F R zal (lp Tryz.prog 39 0):=by
 refine zB (T:=x_size_l_T) (fun t=>FL [pI e.op,pI e.n,pLs cE e.l,pI most,pI v1,pI t.i,pI t.n] []) J m { i:=(0:Int),n:=(1:Int) } zU hJ (zipA.imp ⟨z_g ⟨fun β v W h=>(zc u0 β v W).1 h,fun β v W h=>(zc u1 β v W).1 h,fun β v W h=>(zc u2 β v W).1 h,trivial⟩,z_c (fun β v W h=>(zc u3 β v W).1 h),z_c yy,z_c yy,z_c yy,z_c yy,z_c (fun β v W h=>(zc u2 β v W).1 h),z_c (fun β v W h=>(zc u4 β v W).1 h),z_c yy,z_b ⟨fun β v W h=>(zc u0 β v W).1 h,fun β v W h=>(zc u1 β v W).1 h,fun β v W h=>(zc u2 β v W).1 h,trivial⟩,trivial⟩) rfl fun t ht=>?_
 rcases rounds t ht with hz_ | ⟨t',hz_,hm_,hj_⟩
 ·refine .inl ?_
  rcases hz_ with ⟨v501,n503,x504,v507,e501,e507,h502,s505,s506,h508,q0,_⟩ | ⟨v501,e501,h502,q0,_⟩
  ·exact zhj  e most N v1 IH  t.i t.n v501 n503 x504 v507 e501 e507 h502 s505 s506 h508 o F u0 u1 u2 u3 u4 u5 q0 R hR
  ·exact zhl  e most N v1 IH  t.i t.n v501 e501 h502 o F u0 u1 u2 u3 u4 u5 q0 R hR
 ·refine .inr ⟨t',hm_,hj_,?_⟩
  rcases hz_ with ⟨v501,n503,x504,v507,v509,v510,v513,v514,e501,e507,e509,e510,e513,e514,h502,s505,s506,h508,s511,s512,q0,q1,_⟩
  ·exact zhk  e most N v1 IH  t.i t.n v501 n503 x504 v507 v509 v510 v513 v514 e501 e507 e509 e510 e513 e514 h502 s505 s506 h508 s511 s512 t'.i t'.n q0 q1 R hR
theorem zhi {w0:World} (e:Xp) (most:Int) (N:Nat) (v1:Int) (IH:zap w0 N) (o:Int) {F:Fact} (u0:F.c 0=pI e.op) (u1:F.c 1=pI e.n) (u2:F.c 2=pLs cE e.l) (u3:F.c 3=pI most) (u4:F.c 4=pI v1) (u5:F.c 5=pI o) (R:Frm) (hR:R.pm=⟨ntOf Tryz.prog 39,[],[]⟩) (hb:e.l.length<9223372036854775808) (hN:nodes e≤N+1) (hm:0≤most∧most≤1000) (hO:sizeL e.l 1 most=o) (hlen:(e.l.length:Int)=v1):zi (KN w0) Tryz.prog F R zal (lp Tryz.prog 39 0):=by
 refine zfc  e most N v1 IH  o u0 u1 u2 u3 u4 u5 R hR (fun ⟨i,n⟩=>∃k:Nat,i=(k:Int)∧k≤e.l.length∧1≤n∧n≤most+1∧sizeL (e.l.drop k) n most=o) (fun ⟨i,n⟩=>((e.l.length:Int) - i).toNat) ⟨0,rfl,Nat.zero_le _,by decide,by omega,by rw [List.drop_zero];exact hO⟩ fun t hJ=>?_
 obtain ⟨i,n⟩:=t
 dsimp only at hJ
 obtain ⟨k,hi,hk,hn1,hn2,hs⟩:=hJ
 obtain ⟨v501,e501⟩:∃v,(decide (i<v1))=v:=⟨_,rfl⟩
 cases h502:v501 with
 | true =>
  obtain ⟨n503,x504,s505,s506⟩:∃(n503:Nat) (x504:Xp),i=(n503:Int)∧e.l[n503]?=some x504:=by (have dh502:=of_decide_eq_true (e501.trans h502);have hz:=hlen;have hlt:k<e.l.length:=(by omega);exact ⟨k,_,hi,List.getElem?_eq_getElem hlt⟩)
  obtain ⟨v507,e507⟩:∃v,(decide (n > most))=v:=⟨_,rfl⟩
  cases h508:v507 with
  | true =>
   refine .inl (Or.inl (⟨v501,n503,x504,v507,e501,e507,h502,s505,s506,h508,?_,trivial⟩))
   have dh502:=of_decide_eq_true (e501.trans h502);have dh508:=of_decide_eq_true (e507.trans h508);have hz:=hlen
   have hkn:n503=k:=by omega
   subst hkn
   have hd:=zbB s506 n most
   rw [if_pos (by omega),hs] at hd
   exact hd.symm
  | false =>
   obtain ⟨v509,e509⟩:∃v,(IntKind.i64.wrap (most - n))=v:=⟨_,rfl⟩
   obtain ⟨v510,e510⟩:∃v,(sizeX x504 v509)=v:=⟨_,rfl⟩
   have s511:nodes x504≤N:=by exact zu hN s506
   have s512:0≤v509∧v509≤1000:=by (have dh502:=of_decide_eq_true (e501.trans h502);have dh508:=of_decide_eq_false (e507.trans h508);have hz:=hlen;rw [← e509,wri (by omega)];omega)
   obtain ⟨v513,e513⟩:∃v,(IntKind.i64.wrap (n+v510))=v:=⟨_,rfl⟩
   obtain ⟨v514,e514⟩:∃v,(IntKind.i64.wrap (i+(1:Int)))=v:=⟨_,rfl⟩
   refine .inr ⟨⟨v514,v513⟩,⟨v501,n503,x504,v507,v509,v510,v513,v514,e501,e507,e509,e510,e513,e514,h502,s505,s506,h508,s511,s512,rfl,rfl,trivial⟩,?_,?_⟩
   all_goals (have dh502:=of_decide_eq_true (e501.trans h502);have dh508:=of_decide_eq_false (e507.trans h508);have hz:=hlen;have hkn:n503=k:=(by omega);subst hkn;have x1:v509=most - n:=(by rw [← e509,wri (by omega)]);have q:=zkw x504 (m:=v509) (by omega);rw [e510] at q;have x2:v513=n+v510:=(by rw [← e513,wri (by omega)]);have x3:v514=((n503+1:Nat):Int):=(by rw [← e514,hi,wri (by omega)];omega);have hd:=zbB s506 n most;rw [if_neg (by omega),← x1,e510,← x2] at hd)
   ·show ((e.l.length:Int) - v514).toNat<((e.l.length:Int) - i).toNat
    have hlt:n503<e.l.length:=(List.getElem?_eq_some_iff.1 s506).1
    omega
   ·have hlt:n503<e.l.length:=(List.getElem?_eq_some_iff.1 s506).1
    exact ⟨n503+1,x3,by omega,by omega,by omega,by rw [← hd];exact hs⟩
 | false =>
  refine .inl (Or.inr (⟨v501,e501,h502,?_,trivial⟩))
  have dh502:=of_decide_eq_false (e501.trans h502);have hz:=hlen
  have hkl:k=e.l.length:=by omega
  rw [hkl,List.drop_length,sizeL] at hs
  exact hs
theorem zlz {w0:World} (e:Xp) (most:Int) (N:Nat) (IH:zap w0 N) (v1:Int) (o:Int) (e1:((e.l.length:Int))=v1) (L_x_size_l:∀R:Frm,R.pm=⟨ntOf Tryz.prog 39,[],[]⟩→zi (KN w0) Tryz.prog (FL [pI e.op,pI e.n,pLs cE e.l,pI most,pI v1,pI o] []) R zal (lp Tryz.prog 39 0)):Fun (KN w0) Tryz.prog 39 [.o (.g [pI e.op,pI e.n,pLs cE e.l]),.o (.c (pI most))] (.o (.c (pI o))):=
 zk (zS (F:=FL [pI e.op,pI e.n,pLs cE e.l,pI most,pI v1,pI o] []) (C:=[(1000005,.op (.len [29] 3) [yh 2] [] (yh 4))]) (k:=⟨39,[.o (.g [.h 0,.h 1,.h 2]),yh 3],[],yh 5,[]⟩) ⟨[zal],[],0⟩ [] 0 (zg ⟨za,za,(ze (zf rfl)),za,za,za,trivial⟩) ⟨zF (E:=32) (by kernel_rfl) (zc rfl) (zb (by rw [← e1];rfl)),
  trivial⟩ mixed trivial (fun R hR p hp s hs=>by
 have hl:zH (qu Tryz.prog 39)=[(3,lp Tryz.prog 39 0)]:=by kernel_rfl
 rw [hl] at hp
 simp only [List.mem_cons,List.not_mem_nil,or_false] at hp
 rcases hp with rfl
 ·have e:s=zal:=(Option.some.inj hs).symm
  subst e;exact L_x_size_l R hR) (by kernel_rfl))
theorem zm0 {w0:World} {N:Nat} (IH:zap w0 N) (e:Xp) (most:Int) (r:Int) (hr:sizeX e most=r) (hN:nodes e≤N+1) (hm:0≤most∧most≤1000) (hN1:N+1≤1000000):Fun (KN w0) Tryz.prog 39 [.o (.g [pI e.op,pI e.n,pLs cE e.l]),.o (.c (pI most))] (.o (.c (pI r))):=by
 obtain ⟨v1,e1⟩:∃v,((e.l.length:Int))=v:=⟨_,rfl⟩
 obtain ⟨o,hO_x_size_l⟩:∃(o:Int),sizeL e.l 1 most=o:=⟨_,rfl⟩
 refine Fun.imp (zlz e most N IH v1 o e1 (fun R hR=>zhi e most N v1 IH   o rfl rfl rfl rfl rfl rfl R hR (by have:=qj e;omega) hN hm hO_x_size_l e1)) (fun _ _ _ h=>h) (fun v W D h=>?_)
 have r0:r=o:=by
  rw [← hr,zhW];exact hO_x_size_l
 rw [r0];exact h
theorem zeo {w0:World}:∀N:Nat,N≤1000000→zap w0 N
 | 0,_=>fun x m v _ h _=>by have:=qk x;omega
 | N+1,hN=>fun x m v hv h hm=>zm0 (zeo N (by omega)) x m v hv h hm hN
theorem znu {w0:World} (x:Xp) (m v:Int) (hv:sizeX x m=v) (hn:nodes x≤1000000) (hm:0≤m∧m≤1000):Fun (KN w0) Tryz.prog 39 [.o (.g [pI x.op,pI x.n,pLs cE x.l]),.o (.c (pI m))] (.o (.c (pI v))):=zeo (nodes x) hn x m v hv (Nat.le_refl _) hm
def qY (w0:World) (N:Nat):Prop:=∀(x:Xp) (m v:Int),sizeX x m=v→nodes x≤N→0≤m∧m≤1000→Fun (KN w0) Tryz.prog 44 [.o (.g [pI x.op,pI x.n,pLs cE x.l]),.o (.c (pI m))] (.o (.c (pI v)))
structure x_rsize_l_T where
 i:Int
 n:Int
def zP:List Atom:=[.sl 0 (.o (.g [.h 0,.h 1,.h 2])),.sl 1 (yh 3),.sl 2 (.o (.c (.p 0 0))),.sl 4 (.o (.c (.k (.int .i64 0)))),.sl 5 (yh 5),.sl 6 (yh 4),.bx 0 32 [.h 0,.h 1,.h 2]]
def qQ:LoopS:=⟨3,[.sl 0 (.o (.g [.h 0,.h 1,.h 2])),.sl 1 (yh 3),.sl 2 (.o (.c (.p 0 0))),.sl 4 (.o (.c (.k (.int .i64 0)))),.sl 5 (.o (.c (.k (.int .i64 1)))),.sl 6 (.o (.c (.k (.int .i64 0)))),.bx 0 32 [.h 0,.h 1,.h 2]],(.x 0),[.sl 0 (.o (.g [.h 0,.h 1,.h 2])),.sl 1 (yh 3),.sl 2 (.o (.c (.p 0 0))),.sl 4 (.o (.c (.k (.int .i64 0)))),.sl 5 (yh 4),.bx 0 32 [.h 0,.h 1,.h 2]]⟩
theorem zgb {w0:World} (e:Xp) (most:Int) (N:Nat) (IH:qY w0 N) (i:Int) (n:Int) (v501:Int) (v502:Bool) (v504:Bool) (n506:Nat) (x507:Xp) (v510:Int) (v511:Int) (v514:Int) (v515:Int) (e501:((e.l.length:Int))=v501) (e502:(decide (i<v501))=v502) (e504:(decide (n≤most))=v504) (e510:(IntKind.i64.wrap (most - n))=v510) (e511:(sizeX x507 v510)=v511) (e514:(IntKind.i64.wrap (n+v511))=v514) (e515:(IntKind.i64.wrap (i+(1:Int)))=v515) (h503:v502=true) (h505:v504=true) (s508:i=(n506:Int)) (s509:e.l[n506]?=some x507) (s512:nodes x507≤N) (s513:0≤v510∧v510≤1000) (i':Int) (n':Int) (q0:(v514)=n') (q1:(v515)=i') (R:Frm) (hR:R.pm=⟨ntOf Tryz.prog 44,[],[]⟩):Goes (KN w0) Tryz.prog R (lp Tryz.prog 44 0) (FL [pI e.op,pI e.n,pLs cE e.l,pI most,pI i,pI n] []) zP .n (FL [pI e.op,pI e.n,pLs cE e.l,pI most,pI i',pI n'] []) zP:=
 goes (x:=.n) (y:=.n) (Fb:=FL [pI e.op,pI e.n,pLs cE e.l,pI most,pI i,pI n,pI v501,pB v502,pB v504,pP (cE x507),pI x507.op,pI x507.n,pLs cE x507.l,pI v510,pI v511,pI v514,pI v515] []) (stb:=zP) (tl:=[.sl 0 (.o (.g [.h 0,.h 1,.h 2])),.sl 1 (yh 3),.sl 2 (.o (.c (.p 0 0))),.sl 4 (.o (.c (.k (.int .i64 0)))),.sl 5 (yh 15),.sl 6 (yh 16),.bx 0 32 [.h 0,.h 1,.h 2]]) (C:=((1005003,.op (.len [29] 3) [yh 2] [] (yh 6)) ::
  (1005004,.bin .lss 3 (yh 4) (yh 6) (yh 7)) ::
  (10007,.fb 7 true) ::
  (1005008,.bin .leq 3 (yh 5) (yh 3) (yh 8)) ::
  (10008,.fb 8 true) ::
  (1005014,.op (.ia 29) [yh 2,yh 4] [] (yh 9)) ::
  (1005015,.op (.ld 32) [yh 9] [] (.o (.g [.h 10,.h 11,.h 12]))) ::
  (1005018,.bin .sub 3 (yh 3) (yh 5) (yh 13)) ::
  (1005019,.call ⟨44,[.o (.g [.h 10,.h 11,.h 12]),yh 13],[],yh 14,[]⟩) ::
  (1005020,.bin .add 3 (yh 5) (yh 14) (yh 15)) ::
  (1005023,.bin .add 3 (yh 4) (LF (.k (.int .i64 1))) (yh 16)) ::
  []:List (Nat×Ent))) (H:=.no) 5000 (zipA.imp ⟨z_g ⟨yy,yy,yy,trivial⟩,z_c yy,z_c yy,z_c yy,z_c yy,z_c yy,z_b ⟨yy,yy,yy,trivial⟩,trivial⟩) (zg ⟨za,za,(ze (zf rfl)),za,za,za,za,za,za,(zl ((zf rfl) _)),za,za,(ze (zf rfl)),za,za,za,za,trivial⟩) ⟨zF (E:=32) (by kernel_rfl) (zc rfl) (zb (by rw [← e501];rfl)),
  e_bin (zb rfl) (zb rfl) (zb rfl) (r_cmp (congrArg some e502)),
  e_fbv h503,
  e_bin (zb rfl) (zb rfl) (zb rfl) (r_cmp (congrArg some e504)),
  e_fbv h505,
  e_iaL (E:=32) (z:=3) zj (by kernel_rfl) (by kernel_rfl) (zc rfl) (zb rfl) s508 s509 (zc rfl),
  e_ldG (by kernel_rfl) (by kernel_rfl) (zc rfl) (cE_eq _).symm rfl (zj _),
  e_bin (zb rfl) (zb rfl) (zb rfl) (r_ar (congrArg some e510)),
  zh (IH x507 v510 v511 e511 s512 s513),
  e_bin (zb rfl) (zb rfl) (zb rfl) (r_ar (congrArg some e514)),
  e_bin (zb rfl) zd (zb rfl) (r_ar (congrArg some e515)),
  trivial⟩ mixed hR trivial (fun _ _ _ hs=>by cases hs) (by kernel_rfl:zA (KN w0) Tryz.prog _ .no ⟨ntOf Tryz.prog 44,[],[]⟩ (lp Tryz.prog 44 0) 5000 zP .n [.sl 0 (.o (.g [.h 0,.h 1,.h 2])),.sl 1 (yh 3),.sl 2 (.o (.c (.p 0 0))),.sl 4 (.o (.c (.k (.int .i64 0)))),.sl 5 (yh 15),.sl 6 (yh 16),.bx 0 32 [.h 0,.h 1,.h 2]]=true) rfl (zipA.imp ⟨z_g ⟨yy,yy,yy,trivial⟩,z_c yy,z_c yy,z_c yy,z_c (fun β v W h=>(zc rfl β v W).2 (by rw [← q0];exact h)),z_c (fun β v W h=>(zc rfl β v W).2 (by rw [← q1];exact h)),z_b ⟨yy,yy,yy,trivial⟩,trivial⟩)
theorem zgc {w0:World} (e:Xp) (most:Int) (N:Nat) (IH:qY w0 N) (i:Int) (n:Int) (v501:Int) (v502:Bool) (v504:Bool) (e501:((e.l.length:Int))=v501) (e502:(decide (i<v501))=v502) (e504:(decide (n≤most))=v504) (h503:v502=true) (h505:v504=false) (o:Int) (F:Fact) (u0:F.c 0=pI e.op) (u1:F.c 1=pI e.n) (u2:F.c 2=pLs cE e.l) (u3:F.c 3=pI most) (u4:F.c 4=pI o) (q0:(n)=o) (R:Frm) (hR:R.pm=⟨ntOf Tryz.prog 44,[],[]⟩):Goes (KN w0) Tryz.prog R (lp Tryz.prog 44 0) (FL [pI e.op,pI e.n,pLs cE e.l,pI most,pI i,pI n] []) zP (.x 0) F qQ.out:=
 goes (x:=(.x 0)) (y:=(.x 0)) (Fb:=FL [pI e.op,pI e.n,pLs cE e.l,pI most,pI i,pI n,pI v501,pB v502,pB v504] []) (stb:=zP) (tl:=[.sl 0 (.o (.g [.h 0,.h 1,.h 2])),.sl 1 (yh 3),.sl 2 (.o (.c (.p 0 0))),.sl 4 (.o (.c (.k (.int .i64 0)))),.sl 5 (yh 5),.bx 0 32 [.h 0,.h 1,.h 2]]) (C:=((1005003,.op (.len [29] 3) [yh 2] [] (yh 6)) ::
  (1005004,.bin .lss 3 (yh 4) (yh 6) (yh 7)) ::
  (10007,.fb 7 true) ::
  (1005008,.bin .leq 3 (yh 5) (yh 3) (yh 8)) ::
  (10008,.fb 8 false) ::
  []:List (Nat×Ent))) (H:=.no) 5000 (zipA.imp ⟨z_g ⟨yy,yy,yy,trivial⟩,z_c yy,z_c yy,z_c yy,z_c yy,z_c yy,z_b ⟨yy,yy,yy,trivial⟩,trivial⟩) (zg ⟨za,za,(ze (zf rfl)),za,za,za,za,za,za,trivial⟩) ⟨zF (E:=32) (by kernel_rfl) (zc rfl) (zb (by rw [← e501];rfl)),
  e_bin (zb rfl) (zb rfl) (zb rfl) (r_cmp (congrArg some e502)),
  e_fbv h503,
  e_bin (zb rfl) (zb rfl) (zb rfl) (r_cmp (congrArg some e504)),
  e_fbv h505,
  trivial⟩ mixed hR trivial (fun _ _ _ hs=>by cases hs) (by kernel_rfl:zA (KN w0) Tryz.prog _ .no ⟨ntOf Tryz.prog 44,[],[]⟩ (lp Tryz.prog 44 0) 5000 zP (.x 0) [.sl 0 (.o (.g [.h 0,.h 1,.h 2])),.sl 1 (yh 3),.sl 2 (.o (.c (.p 0 0))),.sl 4 (.o (.c (.k (.int .i64 0)))),.sl 5 (yh 5),.bx 0 32 [.h 0,.h 1,.h 2]]=true) rfl (zipA.imp ⟨z_g ⟨fun β v W h=>(zc u0 β v W).2 h,fun β v W h=>(zc u1 β v W).2 h,fun β v W h=>(zc u2 β v W).2 h,trivial⟩,z_c (fun β v W h=>(zc u3 β v W).2 h),z_c yy,z_c yy,z_c (fun β v W h=>(zc u4 β v W).2 (by rw [← q0];exact h)),z_b ⟨fun β v W h=>(zc u0 β v W).2 h,fun β v W h=>(zc u1 β v W).2 h,fun β v W h=>(zc u2 β v W).2 h,trivial⟩,trivial⟩)
theorem zgd {w0:World} (e:Xp) (most:Int) (N:Nat) (IH:qY w0 N) (i:Int) (n:Int) (v501:Int) (v502:Bool) (e501:((e.l.length:Int))=v501) (e502:(decide (i<v501))=v502) (h503:v502=false) (o:Int) (F:Fact) (u0:F.c 0=pI e.op) (u1:F.c 1=pI e.n) (u2:F.c 2=pLs cE e.l) (u3:F.c 3=pI most) (u4:F.c 4=pI o) (q0:(n)=o) (R:Frm) (hR:R.pm=⟨ntOf Tryz.prog 44,[],[]⟩):Goes (KN w0) Tryz.prog R (lp Tryz.prog 44 0) (FL [pI e.op,pI e.n,pLs cE e.l,pI most,pI i,pI n] []) zP (.x 0) F qQ.out:=
 goes (x:=(.x 0)) (y:=(.x 0)) (Fb:=FL [pI e.op,pI e.n,pLs cE e.l,pI most,pI i,pI n,pI v501,pB v502] []) (stb:=zP) (tl:=[.sl 0 (.o (.g [.h 0,.h 1,.h 2])),.sl 1 (yh 3),.sl 2 (.o (.c (.p 0 0))),.sl 4 (.o (.c (.k (.int .i64 0)))),.sl 5 (yh 5),.bx 0 32 [.h 0,.h 1,.h 2]]) (C:=((1005003,.op (.len [29] 3) [yh 2] [] (yh 6)) ::
  (1005004,.bin .lss 3 (yh 4) (yh 6) (yh 7)) ::
  (10007,.fb 7 false) ::
  []:List (Nat×Ent))) (H:=.no) 5000 (zipA.imp ⟨z_g ⟨yy,yy,yy,trivial⟩,z_c yy,z_c yy,z_c yy,z_c yy,z_c yy,z_b ⟨yy,yy,yy,trivial⟩,trivial⟩) (zg ⟨za,za,(ze (zf rfl)),za,za,za,za,za,trivial⟩) ⟨zF (E:=32) (by kernel_rfl) (zc rfl) (zb (by rw [← e501];rfl)),
  e_bin (zb rfl) (zb rfl) (zb rfl) (r_cmp (congrArg some e502)),
  e_fbv h503,
  trivial⟩ mixed hR trivial (fun _ _ _ hs=>by cases hs) (by kernel_rfl:zA (KN w0) Tryz.prog _ .no ⟨ntOf Tryz.prog 44,[],[]⟩ (lp Tryz.prog 44 0) 5000 zP (.x 0) [.sl 0 (.o (.g [.h 0,.h 1,.h 2])),.sl 1 (yh 3),.sl 2 (.o (.c (.p 0 0))),.sl 4 (.o (.c (.k (.int .i64 0)))),.sl 5 (yh 5),.bx 0 32 [.h 0,.h 1,.h 2]]=true) rfl (zipA.imp ⟨z_g ⟨fun β v W h=>(zc u0 β v W).2 h,fun β v W h=>(zc u1 β v W).2 h,fun β v W h=>(zc u2 β v W).2 h,trivial⟩,z_c (fun β v W h=>(zc u3 β v W).2 h),z_c yy,z_c yy,z_c (fun β v W h=>(zc u4 β v W).2 (by rw [← q0];exact h)),z_b ⟨fun β v W h=>(zc u0 β v W).2 h,fun β v W h=>(zc u1 β v W).2 h,fun β v W h=>(zc u2 β v W).2 h,trivial⟩,trivial⟩)
def zhc (e:Xp) (most:Int) (N:Nat) (t:x_rsize_l_T) (o:Int):Prop:=(∃(v501:Int),∃(v502:Bool),∃(v504:Bool),(((e.l.length:Int))=v501)∧((decide (t.i<v501))=v502)∧((decide (t.n≤most))=v504)∧(v502=true)∧(v504=false)∧((t.n)=o)∧True)∨(∃(v501:Int),∃(v502:Bool),(((e.l.length:Int))=v501)∧((decide (t.i<v501))=v502)∧(v502=false)∧((t.n)=o)∧True)
def zhb (e:Xp) (most:Int) (N:Nat) (t t':x_rsize_l_T):Prop:=(∃(v501:Int),∃(v502:Bool),∃(v504:Bool),∃(n506:Nat),∃(x507:Xp),∃(v510:Int),∃(v511:Int),∃(v514:Int),∃(v515:Int),(((e.l.length:Int))=v501)∧((decide (t.i<v501))=v502)∧((decide (t.n≤most))=v504)∧((IntKind.i64.wrap (most - t.n))=v510)∧((sizeX x507 v510)=v511)∧((IntKind.i64.wrap (t.n+v511))=v514)∧((IntKind.i64.wrap (t.i+(1:Int)))=v515)∧(v502=true)∧(v504=true)∧(t.i=(n506:Int))∧(e.l[n506]?=some x507)∧(nodes x507≤N)∧(0≤v510∧v510≤1000)∧((v514)=t'.n)∧((v515)=t'.i)∧True)
theorem zdR {w0:World} (e:Xp) (most:Int) (N:Nat) (IH:qY w0 N) (o:Int) {F:Fact} (u0:F.c 0=pI e.op) (u1:F.c 1=pI e.n) (u2:F.c 2=pLs cE e.l) (u3:F.c 3=pI most) (u4:F.c 4=pI o) (R:Frm) (hR:R.pm=⟨ntOf Tryz.prog 44,[],[]⟩) (J:x_rsize_l_T→Prop) (m:x_rsize_l_T→Nat) (hJ:J { i:=(0:Int),n:=(1:Int) }) (rounds:∀t,J t→zhc e most N t o∨∃t',zhb e most N t t'∧m t'<m t∧J t'):zi (KN w0) Tryz.prog F R qQ (lp Tryz.prog 44 0):=by
 refine zB (T:=x_rsize_l_T) (fun t=>FL [pI e.op,pI e.n,pLs cE e.l,pI most,pI t.i,pI t.n] []) J m { i:=(0:Int),n:=(1:Int) } zP hJ (zipA.imp ⟨z_g ⟨fun β v W h=>(zc u0 β v W).1 h,fun β v W h=>(zc u1 β v W).1 h,fun β v W h=>(zc u2 β v W).1 h,trivial⟩,z_c (fun β v W h=>(zc u3 β v W).1 h),z_c yy,z_c yy,z_c yy,z_c yy,z_b ⟨fun β v W h=>(zc u0 β v W).1 h,fun β v W h=>(zc u1 β v W).1 h,fun β v W h=>(zc u2 β v W).1 h,trivial⟩,trivial⟩) rfl fun t ht=>?_
 rcases rounds t ht with hz_ | ⟨t',hz_,hm_,hj_⟩
 ·refine .inl ?_
  rcases hz_ with ⟨v501,v502,v504,e501,e502,e504,h503,h505,q0,_⟩ | ⟨v501,v502,e501,e502,h503,q0,_⟩
  ·exact zgc  e most N IH  t.i t.n v501 v502 v504 e501 e502 e504 h503 h505 o F u0 u1 u2 u3 u4 q0 R hR
  ·exact zgd  e most N IH  t.i t.n v501 v502 e501 e502 h503 o F u0 u1 u2 u3 u4 q0 R hR
 ·refine .inr ⟨t',hm_,hj_,?_⟩
  rcases hz_ with ⟨v501,v502,v504,n506,x507,v510,v511,v514,v515,e501,e502,e504,e510,e511,e514,e515,h503,h505,s508,s509,s512,s513,q0,q1,_⟩
  ·exact zgb  e most N IH  t.i t.n v501 v502 v504 n506 x507 v510 v511 v514 v515 e501 e502 e504 e510 e511 e514 e515 h503 h505 s508 s509 s512 s513 t'.i t'.n q0 q1 R hR
theorem zga {w0:World} (e:Xp) (most:Int) (N:Nat) (IH:qY w0 N) (o:Int) {F:Fact} (u0:F.c 0=pI e.op) (u1:F.c 1=pI e.n) (u2:F.c 2=pLs cE e.l) (u3:F.c 3=pI most) (u4:F.c 4=pI o) (R:Frm) (hR:R.pm=⟨ntOf Tryz.prog 44,[],[]⟩) (hb:e.l.length<9223372036854775808) (hN:nodes e≤N+1) (hm:0≤most∧most≤1000) (hO:sizeL e.l 1 most=o):zi (KN w0) Tryz.prog F R qQ (lp Tryz.prog 44 0):=by
 refine zdR  e most N IH  o u0 u1 u2 u3 u4 R hR (fun ⟨i,n⟩=>∃k:Nat,i=(k:Int)∧k≤e.l.length∧1≤n∧n≤most+1∧sizeL (e.l.drop k) n most=o) (fun ⟨i,n⟩=>((e.l.length:Int) - i).toNat) ⟨0,rfl,Nat.zero_le _,by decide,by omega,by rw [List.drop_zero];exact hO⟩ fun t hJ=>?_
 obtain ⟨i,n⟩:=t
 dsimp only at hJ
 obtain ⟨k,hi,hk,hn1,hn2,hs⟩:=hJ
 obtain ⟨v501,e501⟩:∃v,((e.l.length:Int))=v:=⟨_,rfl⟩
 obtain ⟨v502,e502⟩:∃v,(decide (i<v501))=v:=⟨_,rfl⟩
 cases h503:v502 with
 | true =>
  obtain ⟨v504,e504⟩:∃v,(decide (n≤most))=v:=⟨_,rfl⟩
  cases h505:v504 with
  | true =>
   obtain ⟨n506,x507,s508,s509⟩:∃(n506:Nat) (x507:Xp),i=(n506:Int)∧e.l[n506]?=some x507:=by (have dh503:=of_decide_eq_true (e502.trans h503);have dh505:=of_decide_eq_true (e504.trans h505);have hz:=e501;have hlt:k<e.l.length:=(by omega);exact ⟨k,_,hi,List.getElem?_eq_getElem hlt⟩)
   obtain ⟨v510,e510⟩:∃v,(IntKind.i64.wrap (most - n))=v:=⟨_,rfl⟩
   obtain ⟨v511,e511⟩:∃v,(sizeX x507 v510)=v:=⟨_,rfl⟩
   have s512:nodes x507≤N:=by exact zu hN s509
   have s513:0≤v510∧v510≤1000:=by (have dh503:=of_decide_eq_true (e502.trans h503);have dh505:=of_decide_eq_true (e504.trans h505);have hz:=e501;rw [← e510,wri (by omega)];omega)
   obtain ⟨v514,e514⟩:∃v,(IntKind.i64.wrap (n+v511))=v:=⟨_,rfl⟩
   obtain ⟨v515,e515⟩:∃v,(IntKind.i64.wrap (i+(1:Int)))=v:=⟨_,rfl⟩
   refine .inr ⟨⟨v515,v514⟩,⟨v501,v502,v504,n506,x507,v510,v511,v514,v515,e501,e502,e504,e510,e511,e514,e515,h503,h505,s508,s509,s512,s513,rfl,rfl,trivial⟩,?_,?_⟩
   all_goals (have dh503:=of_decide_eq_true (e502.trans h503);have dh505:=of_decide_eq_true (e504.trans h505);have hz:=e501;have hkn:n506=k:=(by omega);subst hkn;have x1:v510=most - n:=(by rw [← e510,wri (by omega)]);have q:=zkw x507 (m:=v510) (by omega);rw [e511] at q;have x2:v514=n+v511:=(by rw [← e514,wri (by omega)]);have x3:v515=((n506+1:Nat):Int):=(by rw [← e515,hi,wri (by omega)];omega);have hd:=zbB s509 n most;rw [if_neg (by omega),← x1,e511,← x2] at hd)
   ·show ((e.l.length:Int) - v515).toNat<((e.l.length:Int) - i).toNat
    have hlt:n506<e.l.length:=(List.getElem?_eq_some_iff.1 s509).1
    omega
   ·have hlt:n506<e.l.length:=(List.getElem?_eq_some_iff.1 s509).1
    exact ⟨n506+1,x3,by omega,by omega,by omega,by rw [← hd];exact hs⟩
  | false =>
   refine .inl (Or.inl (⟨v501,v502,v504,e501,e502,e504,h503,h505,?_,trivial⟩))
   have dh503:=of_decide_eq_true (e502.trans h503);have dh505:=of_decide_eq_false (e504.trans h505);have hz:=e501
   obtain ⟨x,hx⟩:∃x,e.l[k]?=some x:=⟨_,List.getElem?_eq_getElem (by omega)⟩
   have hd:=zbB hx n most
   rw [if_pos (by omega),hs] at hd
   exact hd.symm
 | false =>
  refine .inl (Or.inr (⟨v501,v502,e501,e502,h503,?_,trivial⟩))
  have dh503:=of_decide_eq_false (e502.trans h503);have hz:=e501
  have hkl:k=e.l.length:=by omega
  rw [hkl,List.drop_length,sizeL] at hs
  exact hs
theorem zi3 {w0:World} (e:Xp) (most:Int) (N:Nat) (IH:qY w0 N) (o:Int) (L_x_rsize_l:∀R:Frm,R.pm=⟨ntOf Tryz.prog 44,[],[]⟩→zi (KN w0) Tryz.prog (FL [pI e.op,pI e.n,pLs cE e.l,pI most,pI o] []) R qQ (lp Tryz.prog 44 0)):Fun (KN w0) Tryz.prog 44 [.o (.g [pI e.op,pI e.n,pLs cE e.l]),.o (.c (pI most))] (.o (.c (pI o))):=
 zk (zS (F:=FL [pI e.op,pI e.n,pLs cE e.l,pI most,pI o] []) (C:=[]) (k:=⟨44,[.o (.g [.h 0,.h 1,.h 2]),yh 3],[],yh 4,[]⟩) ⟨[qQ],[],0⟩ [] 0 (zg ⟨za,za,(ze (zf rfl)),za,za,trivial⟩) trivial mixed trivial (fun R hR p hp s hs=>by
 have hl:zH (qu Tryz.prog 44)=[(3,lp Tryz.prog 44 0)]:=by kernel_rfl
 rw [hl] at hp
 simp only [List.mem_cons,List.not_mem_nil,or_false] at hp
 rcases hp with rfl
 ·have e:s=qQ:=(Option.some.inj hs).symm
  subst e;exact L_x_rsize_l R hR) (by kernel_rfl))
theorem zlu {w0:World} {N:Nat} (IH:qY w0 N) (e:Xp) (most:Int) (r:Int) (hr:sizeX e most=r) (hN:nodes e≤N+1) (hm:0≤most∧most≤1000) (hN1:N+1≤1000000):Fun (KN w0) Tryz.prog 44 [.o (.g [pI e.op,pI e.n,pLs cE e.l]),.o (.c (pI most))] (.o (.c (pI r))):=by
 obtain ⟨o,hO_x_rsize_l⟩:∃(o:Int),sizeL e.l 1 most=o:=⟨_,rfl⟩
 refine Fun.imp (zi3 e most N IH o (fun R hR=>zga e most N IH   o rfl rfl rfl rfl rfl R hR (by have:=qj e;omega) hN hm hO_x_rsize_l)) (fun _ _ _ h=>h) (fun v W D h=>?_)
 have r0:r=o:=by
  rw [← hr,zhW];exact hO_x_rsize_l
 rw [r0];exact h
theorem zdF {w0:World}:∀N:Nat,N≤1000000→qY w0 N
 | 0,_=>fun x m v _ h _=>by have:=qk x;omega
 | N+1,hN=>fun x m v hv h hm=>zlu (zdF N (by omega)) x m v hv h hm hN
theorem zlt {w0:World} (x:Xp) (m v:Int) (hv:sizeX x m=v) (hn:nodes x≤1000000) (hm:0≤m∧m≤1000):Fun (KN w0) Tryz.prog 44 [.o (.g [pI x.op,pI x.n,pLs cE x.l]),.o (.c (pI m))] (.o (.c (pI v))):=zdF (nodes x) hn x m v hv (Nat.le_refl _) hm
end Go.Proofs.YtdkofaajcpcjkaaGreatDoor
namespace Go.Proofs.YtdkofaajcpcjkaaGreatDoor
open Go.RowKit
theorem zja {w0:World} (n:Int) (v1:Bool) (v3:Bool) (e1:(decide (n ≥ (-1048576:Int)))=v1) (e3:(decide (n≤(1048576:Int)))=v3) (h2:v1=true):Fun (KN w0) Tryz.prog 64 [.o (.c (pI n))] (.o (.c (pB v3))):=
 zk (zr (F:=FL [pI n,pB v1,pB v3] []) (C:=[(1000002,.bin .geq 3 (yh 0) (LF (.k (.int .i64 (-1048576)))) (yh 1)),
  (10001,.fb 1 true),
  (1000005,.bin .leq 3 (yh 0) (LF (.k (.int .i64 1048576))) (yh 2))]) (k:=⟨64,[yh 0],[],yh 2,[]⟩) 0 (zg ⟨za,za,za,trivial⟩) ⟨e_bin (zb rfl) zd (zb rfl) (r_cmp (congrArg some e1)),
  e_fbv h2,
  e_bin (zb rfl) zd (zb rfl) (r_cmp (congrArg some e3)),
  trivial⟩ mixed (by kernel_rfl))
theorem zjb {w0:World} (n:Int) (v1:Bool) (e1:(decide (n ≥ (-1048576:Int)))=v1) (h2:v1=false):Fun (KN w0) Tryz.prog 64 [.o (.c (pI n))] (.o (.c (pV (.bool false)))):=
 zk (zr (F:=FL [pI n,pB v1] []) (C:=[(1000002,.bin .geq 3 (yh 0) (LF (.k (.int .i64 (-1048576)))) (yh 1)),
  (10001,.fb 1 false)]) (k:=⟨64,[yh 0],[],.o (.c (.k (.bool false))),[]⟩) 0 (zg ⟨za,za,trivial⟩) ⟨e_bin (zb rfl) zd (zb rfl) (r_cmp (congrArg some e1)),
  e_fbv h2,
  trivial⟩ mixed (by kernel_rfl))
theorem qR {w0:World} (n:Int) (r:Bool) (hr:valB n=r):Fun (KN w0) Tryz.prog 64 [.o (.c (pI n))] (.o (.c (pB r))):=by
 obtain ⟨v1,e1⟩:∃v,(decide (n ≥ (-1048576:Int)))=v:=⟨_,rfl⟩
 cases h2:v1 with
 | true =>
  obtain ⟨v3,e3⟩:∃v,(decide (n≤(1048576:Int)))=v:=⟨_,rfl⟩
  refine Fun.imp (zja n v1 v3 e1 e3 h2) (fun _ _ _ h=>h) (fun v W D h=>?_)
  have r0:r=v3:=by
   rw [← hr];unfold valB;simp_all;try omega
  rw [r0];exact h
 | false =>
  refine Fun.imp (zjb n v1 e1 h2) (fun _ _ _ h=>h) (fun v W D h=>?_)
  have r0:r=false:=by
   rw [← hr];unfold valB;simp_all;try omega
  rw [r0];exact h
theorem zhd {w0:World} (n:Int) (v1:Bool) (v3:Bool) (e1:(decide (n ≥ (-1048576:Int)))=v1) (e3:(decide (n≤(1048576:Int)))=v3) (h2:v1=true):Fun (KN w0) Tryz.prog 77 [.o (.c (pI n))] (.o (.c (pB v3))):=
 zk (zr (F:=FL [pI n,pB v1,pB v3] []) (C:=[(1000002,.bin .geq 3 (yh 0) (LF (.k (.int .i64 (-1048576)))) (yh 1)),
  (10001,.fb 1 true),
  (1000005,.bin .leq 3 (yh 0) (LF (.k (.int .i64 1048576))) (yh 2))]) (k:=⟨77,[yh 0],[],yh 2,[]⟩) 0 (zg ⟨za,za,za,trivial⟩) ⟨e_bin (zb rfl) zd (zb rfl) (r_cmp (congrArg some e1)),
  e_fbv h2,
  e_bin (zb rfl) zd (zb rfl) (r_cmp (congrArg some e3)),
  trivial⟩ mixed (by kernel_rfl))
theorem zhe {w0:World} (n:Int) (v1:Bool) (e1:(decide (n ≥ (-1048576:Int)))=v1) (h2:v1=false):Fun (KN w0) Tryz.prog 77 [.o (.c (pI n))] (.o (.c (pV (.bool false)))):=
 zk (zr (F:=FL [pI n,pB v1] []) (C:=[(1000002,.bin .geq 3 (yh 0) (LF (.k (.int .i64 (-1048576)))) (yh 1)),
  (10001,.fb 1 false)]) (k:=⟨77,[yh 0],[],.o (.c (.k (.bool false))),[]⟩) 0 (zg ⟨za,za,trivial⟩) ⟨e_bin (zb rfl) zd (zb rfl) (r_cmp (congrArg some e1)),
  e_fbv h2,
  trivial⟩ mixed (by kernel_rfl))
theorem zmW {w0:World} (n:Int) (r:Bool) (hr:valB n=r):Fun (KN w0) Tryz.prog 77 [.o (.c (pI n))] (.o (.c (pB r))):=by
 obtain ⟨v1,e1⟩:∃v,(decide (n ≥ (-1048576:Int)))=v:=⟨_,rfl⟩
 cases h2:v1 with
 | true =>
  obtain ⟨v3,e3⟩:∃v,(decide (n≤(1048576:Int)))=v:=⟨_,rfl⟩
  refine Fun.imp (zhd n v1 v3 e1 e3 h2) (fun _ _ _ h=>h) (fun v W D h=>?_)
  have r0:r=v3:=by
   rw [← hr];unfold valB;simp_all;try omega
  rw [r0];exact h
 | false =>
  refine Fun.imp (zhe n v1 e1 h2) (fun _ _ _ h=>h) (fun v W D h=>?_)
  have r0:r=false:=by
   rw [← hr];unfold valB;simp_all;try omega
  rw [r0];exact h
def fbs (l:List (Nat×Bool)):List (Nat×Ent):=l.map fun p=>(10000+p.1,.fb p.1 p.2)
def FbOk (F:Fact):List (Nat×Bool)→Prop
 | []=>True
 | p::r=>F.c p.1=pB p.2∧FbOk F r
theorem zjI {K:Kit} {P:Program} {F:Fact}:∀l,FbOk F l→Sound K P F (fbs l)
 | [],_=>trivial
 | (n,b)::r,h=>⟨e_fb h.1,zjI r h.2⟩
def sel (E:List Ent) (s:List (Nat×Nat)):List (Nat×Ent):=s.filterMap fun p=>(E[p.2]?).map (Prod.mk (1000000+p.1))
def zjg (K:Kit) (P:Program) (F:Fact):List Ent→Prop
 | []=>True
 | e::r=>e.sound K P F∧zjg K P F r
theorem zhy {K:Kit} {P:Program} {F:Fact} {x:Ent}:∀{E:List Ent},zjg K P F E→x∈E→x.sound K P F
 | _::_,h,hx=>by
  rcases List.mem_cons.1 hx with rfl | hx
  ·exact h.1
  ·exact zhy h.2 hx
theorem zhU {K:Kit} {P:Program} {F:Fact} {E:List Ent} (h:zjg K P F E):∀s,Sound K P F (sel E s)
 | []=>trivial
 | p::r=>by
  unfold sel
  rw [List.filterMap_cons]
  cases he:E[p.2]? with
  | none=>exact zhU h r
  | some x=>exact ⟨zhy h (List.mem_of_getElem? he),zhU h r⟩
theorem zdw {K:Kit} {P:Program} {F:Fact}:∀{C D:List (Nat×Ent)},Sound K P F C→Sound K P F D→Sound K P F (C++D)
 | [],_,_,h=>h
 | _::_,_,h1,h2=>⟨h1.1,zdw h1.2 h2⟩
abbrev zek:List Ent:=[.bin .eql 3 (yh 0) (LF (.k (.int .i64 1))) (yh 4),
  .op (.len [29] 3) [yh 2] [] (yh 5),
  .bin .gtr 3 (yh 5) (LF (.k (.int .i64 0))) (yh 6),
  .call ⟨64,[yh 1],[],yh 7,[]⟩,
  .un .not (yh 7) (yh 8),
  .bin .eql 3 (yh 0) (LF (.k (.int .i64 2))) (yh 9),
  .bin .lss 3 (yh 1) (LF (.k (.int .i64 0))) (yh 10),
  .op (.min [3,3] 3) [yh 3,LF (.k (.int .i64 4))] [] (yh 11),
  .bin .geq 3 (yh 1) (yh 11) (yh 12),
  .bin .eql 3 (yh 0) (LF (.k (.int .i64 3))) (yh 13),
  .bin .eql 3 (yh 5) (LF (.k (.int .i64 2))) (yh 14),
  .bin .eql 3 (yh 1) (LF (.k (.int .i64 0))) (yh 15),
  .bin .eql 3 (yh 0) (LF (.k (.int .i64 4))) (yh 16),
  .bin .eql 3 (yh 0) (LF (.k (.int .i64 5))) (yh 17),
  .bin .eql 3 (yh 0) (LF (.k (.int .i64 6))) (yh 18),
  .bin .eql 3 (yh 0) (LF (.k (.int .i64 7))) (yh 19)]
theorem ziE {w0:World} (e:Xp) (a:Int) (v1:Bool) (v2:Int) (v3:Bool) (v4:Bool) (v5:Bool) (v6:Bool) (v7:Bool) (v8:Int) (v9:Bool) (v10:Bool) (v11:Bool) (v12:Bool) (v13:Bool) (v14:Bool) (v15:Bool) (v16:Bool) (e1:((e.op == (1:Int)))=v1) (e2:((e.l.length:Int))=v2) (e3:(decide (v2 > (0:Int)))=v3) (e4:(valB e.n)=v4) (e5:(!v4)=v5) (e6:((e.op == (2:Int)))=v6) (e7:(decide (e.n<(0:Int)))=v7) (e8:((if (4:Int)<a then (4:Int) else a))=v8) (e9:(decide (e.n ≥ v8))=v9) (e10:((e.op == (3:Int)))=v10) (e11:((v2 == (2:Int)))=v11) (e12:((e.n == (0:Int)))=v12) (e13:((e.op == (4:Int)))=v13) (e14:((e.op == (5:Int)))=v14) (e15:((e.op == (6:Int)))=v15) (e16:((e.op == (7:Int)))=v16) (l:List (Nat×Bool)) (hl:FbOk (FL [pI e.op,pI e.n,pLs cE e.l,pI a,pB v1,pI v2,pB v3,pB v4,pB v5,pB v6,pB v7,pI v8,pB v9,pB v10,pB v11,pB v12,pB v13,pB v14,pB v15,pB v16] []) l) (s:List (Nat×Nat)) (o:Int) (h:conOk (KN w0) Tryz.prog (fbs l++sel zek s) 0 ⟨67,[.o (.g [.h 0,.h 1,.h 2]),yh 3],[],.o (.c (.k (.int .i64 o))),[]⟩=true):Fun (KN w0) Tryz.prog 67 [.o (.g [pI e.op,pI e.n,pLs cE e.l]),.o (.c (pI a))] (.o (.c (pV (.int .i64 o)))):=
 zk (zr (F:=FL [pI e.op,pI e.n,pLs cE e.l,pI a,pB v1,pI v2,pB v3,pB v4,pB v5,pB v6,pB v7,pI v8,pB v9,pB v10,pB v11,pB v12,pB v13,pB v14,pB v15,pB v16] []) 0 (zg ⟨za,za,(ze (zf rfl)),za,za,za,za,za,za,za,za,za,za,za,za,za,za,za,za,za,trivial⟩) (zdw (zjI l hl) (zhU (E:=zek) ⟨e_bin (zb rfl) zd (zb rfl) (r_cmp (congrArg some e1)),
  zF (E:=32) (by kernel_rfl) (zc rfl) (zb (by rw [← e2];rfl)),
  e_bin (zb rfl) zd (zb rfl) (r_cmp (congrArg some e3)),
  zh (qR e.n v4 e4),
  e_un (zb rfl) (zb rfl) (fun W=>by rw [← e5];exact r_not W),
  e_bin (zb rfl) zd (zb rfl) (r_cmp (congrArg some e6)),
  e_bin (zb rfl) zd (zb rfl) (r_cmp (congrArg some e7)),
  e_op2 (zb rfl) zd (zb rfl) (fun W=>by rw [← e8];exact zaV W),
  e_bin (zb rfl) (zb rfl) (zb rfl) (r_cmp (congrArg some e9)),
  e_bin (zb rfl) zd (zb rfl) (r_cmp (congrArg some e10)),
  e_bin (zb rfl) zd (zb rfl) (r_cmp (congrArg some e11)),
  e_bin (zb rfl) zd (zb rfl) (r_cmp (congrArg some e12)),
  e_bin (zb rfl) zd (zb rfl) (r_cmp (congrArg some e13)),
  e_bin (zb rfl) zd (zb rfl) (r_cmp (congrArg some e14)),
  e_bin (zb rfl) zd (zb rfl) (r_cmp (congrArg some e15)),
  e_bin (zb rfl) zd (zb rfl) (r_cmp (congrArg some e16)),
  trivial⟩ s)) mixed h)
theorem zfa {w0:World} (e:Xp) (a:Int) (r:Int) (hr:zo e.op e.n e.l.length a=r):Fun (KN w0) Tryz.prog 67 [.o (.g [pI e.op,pI e.n,pLs cE e.l]),.o (.c (pI a))] (.o (.c (pI r))):=by
 obtain ⟨v1,e1⟩:∃v,((e.op == (1:Int)))=v:=⟨_,rfl⟩
 obtain ⟨v2,e2⟩:∃v,((e.l.length:Int))=v:=⟨_,rfl⟩
 obtain ⟨v3,e3⟩:∃v,(decide (v2 > (0:Int)))=v:=⟨_,rfl⟩
 obtain ⟨v4,e4⟩:∃v,(valB e.n)=v:=⟨_,rfl⟩
 obtain ⟨v5,e5⟩:∃v,(!v4)=v:=⟨_,rfl⟩
 obtain ⟨v6,e6⟩:∃v,((e.op == (2:Int)))=v:=⟨_,rfl⟩
 obtain ⟨v7,e7⟩:∃v,(decide (e.n<(0:Int)))=v:=⟨_,rfl⟩
 obtain ⟨v8,e8⟩:∃v,((if (4:Int)<a then (4:Int) else a))=v:=⟨_,rfl⟩
 obtain ⟨v9,e9⟩:∃v,(decide (e.n ≥ v8))=v:=⟨_,rfl⟩
 obtain ⟨v10,e10⟩:∃v,((e.op == (3:Int)))=v:=⟨_,rfl⟩
 obtain ⟨v11,e11⟩:∃v,((v2 == (2:Int)))=v:=⟨_,rfl⟩
 obtain ⟨v12,e12⟩:∃v,((e.n == (0:Int)))=v:=⟨_,rfl⟩
 obtain ⟨v13,e13⟩:∃v,((e.op == (4:Int)))=v:=⟨_,rfl⟩
 obtain ⟨v14,e14⟩:∃v,((e.op == (5:Int)))=v:=⟨_,rfl⟩
 obtain ⟨v15,e15⟩:∃v,((e.op == (6:Int)))=v:=⟨_,rfl⟩
 obtain ⟨v16,e16⟩:∃v,((e.op == (7:Int)))=v:=⟨_,rfl⟩
 have U:=@ziE w0 e a v1 v2 v3 v4 v5 v6 v7 v8 v9 v10 v11 v12 v13 v14 v15 v16 e1 e2 e3 e4 e5 e6 e7 e8 e9 e10 e11 e12 e13 e14 e15 e16
 cases h1:v1 with
 | true =>
  have dh1:=eq_of_beq (e1.trans h1)
  cases h2:v3 with
  | true =>
   have dh2:=of_decide_eq_true (e3.trans h2)
   have r0:r=4:=by (rw [← hr];unfold zo;clear hr;(repeat' split)<;>first | rfl | omega | (exfalso;simp_all;done) | (exfalso;simp_all;omega))
   rw [r0];exact U [(4,true),(6,true)] ⟨congrArg pB h1,congrArg pB h2,trivial⟩ [(4,0),(8,1),(9,2)] 4 (by kernel_rfl)
  | false =>
   have dh2:=of_decide_eq_false (e3.trans h2)
   cases h3:v5 with
   | true =>
    have r0:r=3:=by (rw [← hr];unfold zo;clear hr;(repeat' split)<;>first | rfl | omega | (exfalso;simp_all;done) | (exfalso;simp_all;omega))
    rw [r0];exact U [(4,true),(6,false),(8,true)] ⟨congrArg pB h1,congrArg pB h2,congrArg pB h3,trivial⟩ [(4,0),(8,1),(9,2),(13,0),(17,3),(18,4)] 3 (by kernel_rfl)
   | false =>
    cases h4:v6 with
    | true =>
     have dh4:=eq_of_beq (e6.trans h4)
     cases h5:v7 with
     | true =>
      have dh5:=of_decide_eq_true (e7.trans h5)
      have r0:r=1:=by (rw [← hr];unfold zo;clear hr;(repeat' split)<;>first | rfl | omega | (exfalso;simp_all;done) | (exfalso;simp_all;omega))
      rw [r0];exact U [(4,true),(6,false),(8,false),(9,true),(10,true)] ⟨congrArg pB h1,congrArg pB h2,congrArg pB h3,congrArg pB h4,congrArg pB h5,trivial⟩ [(4,0),(8,1),(9,2),(13,0),(17,3),(18,4),(23,5),(27,6)] 1 (by kernel_rfl)
     | false =>
      have dh5:=of_decide_eq_false (e7.trans h5)
      cases h6:v9 with
      | true =>
       have dh6:=of_decide_eq_true (e9.trans h6)
       have r0:r=1:=by (rw [← hr];unfold zo;clear hr;(repeat' split)<;>first | rfl | omega | (exfalso;simp_all;done) | (exfalso;simp_all;omega))
       rw [r0];exact U [(4,true),(6,false),(8,false),(9,true),(10,false),(12,true)] ⟨congrArg pB h1,congrArg pB h2,congrArg pB h3,congrArg pB h4,congrArg pB h5,congrArg pB h6,trivial⟩ [(4,0),(8,1),(9,2),(13,0),(17,3),(18,4),(23,5),(27,6),(32,7),(33,8)] 1 (by kernel_rfl)
      | false =>
       have dh6:=of_decide_eq_false (e9.trans h6)
       have r0:r=0:=by (rw [← hr];unfold zo;clear hr;(repeat' split)<;>first | rfl | omega | (exfalso;simp_all;done) | (exfalso;simp_all;omega))
       rw [r0];exact U [(4,true),(6,false),(8,false),(9,true),(10,false),(12,false)] ⟨congrArg pB h1,congrArg pB h2,congrArg pB h3,congrArg pB h4,congrArg pB h5,congrArg pB h6,trivial⟩ [(4,0),(8,1),(9,2),(13,0),(17,3),(18,4),(23,5),(27,6),(32,7),(33,8)] 0 (by kernel_rfl)
    | false =>
     have dh4:=ne_of_beq_false (e6.trans h4)
     have r0:r=0:=by (rw [← hr];unfold zo;clear hr;(repeat' split)<;>first | rfl | omega | (exfalso;simp_all;done) | (exfalso;simp_all;omega))
     rw [r0];exact U [(4,true),(6,false),(8,false),(9,false)] ⟨congrArg pB h1,congrArg pB h2,congrArg pB h3,congrArg pB h4,trivial⟩ [(4,0),(8,1),(9,2),(13,0),(17,3),(18,4),(23,5)] 0 (by kernel_rfl)
 | false =>
  have dh1:=ne_of_beq_false (e1.trans h1)
  cases h2:v6 with
  | true =>
   have dh2:=eq_of_beq (e6.trans h2)
   cases h3:v3 with
   | true =>
    have dh3:=of_decide_eq_true (e3.trans h3)
    have r0:r=4:=by (rw [← hr];unfold zo;clear hr;(repeat' split)<;>first | rfl | omega | (exfalso;simp_all;done) | (exfalso;simp_all;omega))
    rw [r0];exact U [(4,false),(9,true),(6,true)] ⟨congrArg pB h1,congrArg pB h2,congrArg pB h3,trivial⟩ [(4,0),(6,5),(10,1),(11,2)] 4 (by kernel_rfl)
   | false =>
    have dh3:=of_decide_eq_false (e3.trans h3)
    cases h4:v7 with
    | true =>
     have dh4:=of_decide_eq_true (e7.trans h4)
     have r0:r=1:=by (rw [← hr];unfold zo;clear hr;(repeat' split)<;>first | rfl | omega | (exfalso;simp_all;done) | (exfalso;simp_all;omega))
     rw [r0];exact U [(4,false),(9,true),(6,false),(10,true)] ⟨congrArg pB h1,congrArg pB h2,congrArg pB h3,congrArg pB h4,trivial⟩ [(4,0),(6,5),(10,1),(11,2),(15,0),(25,5),(29,6)] 1 (by kernel_rfl)
    | false =>
     have dh4:=of_decide_eq_false (e7.trans h4)
     cases h5:v9 with
     | true =>
      have dh5:=of_decide_eq_true (e9.trans h5)
      have r0:r=1:=by (rw [← hr];unfold zo;clear hr;(repeat' split)<;>first | rfl | omega | (exfalso;simp_all;done) | (exfalso;simp_all;omega))
      rw [r0];exact U [(4,false),(9,true),(6,false),(10,false),(12,true)] ⟨congrArg pB h1,congrArg pB h2,congrArg pB h3,congrArg pB h4,congrArg pB h5,trivial⟩ [(4,0),(6,5),(10,1),(11,2),(15,0),(25,5),(29,6),(34,7),(35,8)] 1 (by kernel_rfl)
     | false =>
      have dh5:=of_decide_eq_false (e9.trans h5)
      have r0:r=0:=by (rw [← hr];unfold zo;clear hr;(repeat' split)<;>first | rfl | omega | (exfalso;simp_all;done) | (exfalso;simp_all;omega))
      rw [r0];exact U [(4,false),(9,true),(6,false),(10,false),(12,false)] ⟨congrArg pB h1,congrArg pB h2,congrArg pB h3,congrArg pB h4,congrArg pB h5,trivial⟩ [(4,0),(6,5),(10,1),(11,2),(15,0),(25,5),(29,6),(34,7),(35,8)] 0 (by kernel_rfl)
  | false =>
   have dh2:=ne_of_beq_false (e6.trans h2)
   cases h3:v10 with
   | true =>
    have dh3:=eq_of_beq (e10.trans h3)
    cases h4:v11 with
    | true =>
     have dh4:=eq_of_beq (e11.trans h4)
     cases h5:v12 with
     | true =>
      have dh5:=eq_of_beq (e12.trans h5)
      have r0:r=0:=by (rw [← hr];unfold zo;clear hr;(repeat' split)<;>first | rfl | omega | (exfalso;simp_all;done) | (exfalso;simp_all;omega))
      rw [r0];exact U [(4,false),(9,false),(13,true),(14,true),(15,true)] ⟨congrArg pB h1,congrArg pB h2,congrArg pB h3,congrArg pB h4,congrArg pB h5,trivial⟩ [(4,0),(6,5),(8,9),(12,1),(13,10),(17,11)] 0 (by kernel_rfl)
     | false =>
      have dh5:=ne_of_beq_false (e12.trans h5)
      have r0:r=4:=by (rw [← hr];unfold zo;clear hr;(repeat' split)<;>first | rfl | omega | (exfalso;simp_all;done) | (exfalso;simp_all;omega))
      rw [r0];exact U [(4,false),(9,false),(13,true),(14,true),(15,false)] ⟨congrArg pB h1,congrArg pB h2,congrArg pB h3,congrArg pB h4,congrArg pB h5,trivial⟩ [(4,0),(6,5),(8,9),(12,1),(13,10),(17,11)] 4 (by kernel_rfl)
    | false =>
     have dh4:=ne_of_beq_false (e11.trans h4)
     have r0:r=4:=by (rw [← hr];unfold zo;clear hr;(repeat' split)<;>first | rfl | omega | (exfalso;simp_all;done) | (exfalso;simp_all;omega))
     rw [r0];exact U [(4,false),(9,false),(13,true),(14,false)] ⟨congrArg pB h1,congrArg pB h2,congrArg pB h3,congrArg pB h4,trivial⟩ [(4,0),(6,5),(8,9),(12,1),(13,10)] 4 (by kernel_rfl)
   | false =>
    have dh3:=ne_of_beq_false (e10.trans h3)
    cases h4:v13 with
    | true =>
     have dh4:=eq_of_beq (e13.trans h4)
     cases h5:v11 with
     | true =>
      have dh5:=eq_of_beq (e11.trans h5)
      cases h6:v12 with
      | true =>
       have dh6:=eq_of_beq (e12.trans h6)
       have r0:r=0:=by (rw [← hr];unfold zo;clear hr;(repeat' split)<;>first | rfl | omega | (exfalso;simp_all;done) | (exfalso;simp_all;omega))
       rw [r0];exact U [(4,false),(9,false),(13,false),(16,true),(14,true),(15,true)] ⟨congrArg pB h1,congrArg pB h2,congrArg pB h3,congrArg pB h4,congrArg pB h5,congrArg pB h6,trivial⟩ [(4,0),(6,5),(8,9),(10,12),(14,1),(15,10),(19,11)] 0 (by kernel_rfl)
      | false =>
       have dh6:=ne_of_beq_false (e12.trans h6)
       have r0:r=4:=by (rw [← hr];unfold zo;clear hr;(repeat' split)<;>first | rfl | omega | (exfalso;simp_all;done) | (exfalso;simp_all;omega))
       rw [r0];exact U [(4,false),(9,false),(13,false),(16,true),(14,true),(15,false)] ⟨congrArg pB h1,congrArg pB h2,congrArg pB h3,congrArg pB h4,congrArg pB h5,congrArg pB h6,trivial⟩ [(4,0),(6,5),(8,9),(10,12),(14,1),(15,10),(19,11)] 4 (by kernel_rfl)
     | false =>
      have dh5:=ne_of_beq_false (e11.trans h5)
      have r0:r=4:=by (rw [← hr];unfold zo;clear hr;(repeat' split)<;>first | rfl | omega | (exfalso;simp_all;done) | (exfalso;simp_all;omega))
      rw [r0];exact U [(4,false),(9,false),(13,false),(16,true),(14,false)] ⟨congrArg pB h1,congrArg pB h2,congrArg pB h3,congrArg pB h4,congrArg pB h5,trivial⟩ [(4,0),(6,5),(8,9),(10,12),(14,1),(15,10)] 4 (by kernel_rfl)
    | false =>
     have dh4:=ne_of_beq_false (e13.trans h4)
     cases h5:v14 with
     | true =>
      have dh5:=eq_of_beq (e14.trans h5)
      cases h6:v11 with
      | true =>
       have dh6:=eq_of_beq (e11.trans h6)
       cases h7:v12 with
       | true =>
        have dh7:=eq_of_beq (e12.trans h7)
        have r0:r=0:=by (rw [← hr];unfold zo;clear hr;(repeat' split)<;>first | rfl | omega | (exfalso;simp_all;done) | (exfalso;simp_all;omega))
        rw [r0];exact U [(4,false),(9,false),(13,false),(16,false),(17,true),(14,true),(15,true)] ⟨congrArg pB h1,congrArg pB h2,congrArg pB h3,congrArg pB h4,congrArg pB h5,congrArg pB h6,congrArg pB h7,trivial⟩ [(4,0),(6,5),(8,9),(10,12),(12,13),(16,1),(17,10),(21,11)] 0 (by kernel_rfl)
       | false =>
        have dh7:=ne_of_beq_false (e12.trans h7)
        have r0:r=4:=by (rw [← hr];unfold zo;clear hr;(repeat' split)<;>first | rfl | omega | (exfalso;simp_all;done) | (exfalso;simp_all;omega))
        rw [r0];exact U [(4,false),(9,false),(13,false),(16,false),(17,true),(14,true),(15,false)] ⟨congrArg pB h1,congrArg pB h2,congrArg pB h3,congrArg pB h4,congrArg pB h5,congrArg pB h6,congrArg pB h7,trivial⟩ [(4,0),(6,5),(8,9),(10,12),(12,13),(16,1),(17,10),(21,11)] 4 (by kernel_rfl)
      | false =>
       have dh6:=ne_of_beq_false (e11.trans h6)
       have r0:r=4:=by (rw [← hr];unfold zo;clear hr;(repeat' split)<;>first | rfl | omega | (exfalso;simp_all;done) | (exfalso;simp_all;omega))
       rw [r0];exact U [(4,false),(9,false),(13,false),(16,false),(17,true),(14,false)] ⟨congrArg pB h1,congrArg pB h2,congrArg pB h3,congrArg pB h4,congrArg pB h5,congrArg pB h6,trivial⟩ [(4,0),(6,5),(8,9),(10,12),(12,13),(16,1),(17,10)] 4 (by kernel_rfl)
     | false =>
      have dh5:=ne_of_beq_false (e14.trans h5)
      cases h6:v15 with
      | true =>
       have dh6:=eq_of_beq (e15.trans h6)
       cases h7:v11 with
       | true =>
        have dh7:=eq_of_beq (e11.trans h7)
        cases h8:v12 with
        | true =>
         have dh8:=eq_of_beq (e12.trans h8)
         have r0:r=0:=by (rw [← hr];unfold zo;clear hr;(repeat' split)<;>first | rfl | omega | (exfalso;simp_all;done) | (exfalso;simp_all;omega))
         rw [r0];exact U [(4,false),(9,false),(13,false),(16,false),(17,false),(18,true),(14,true),(15,true)] ⟨congrArg pB h1,congrArg pB h2,congrArg pB h3,congrArg pB h4,congrArg pB h5,congrArg pB h6,congrArg pB h7,congrArg pB h8,trivial⟩ [(4,0),(6,5),(8,9),(10,12),(12,13),(14,14),(18,1),(19,10),(23,11)] 0 (by kernel_rfl)
        | false =>
         have dh8:=ne_of_beq_false (e12.trans h8)
         have r0:r=4:=by (rw [← hr];unfold zo;clear hr;(repeat' split)<;>first | rfl | omega | (exfalso;simp_all;done) | (exfalso;simp_all;omega))
         rw [r0];exact U [(4,false),(9,false),(13,false),(16,false),(17,false),(18,true),(14,true),(15,false)] ⟨congrArg pB h1,congrArg pB h2,congrArg pB h3,congrArg pB h4,congrArg pB h5,congrArg pB h6,congrArg pB h7,congrArg pB h8,trivial⟩ [(4,0),(6,5),(8,9),(10,12),(12,13),(14,14),(18,1),(19,10),(23,11)] 4 (by kernel_rfl)
       | false =>
        have dh7:=ne_of_beq_false (e11.trans h7)
        have r0:r=4:=by (rw [← hr];unfold zo;clear hr;(repeat' split)<;>first | rfl | omega | (exfalso;simp_all;done) | (exfalso;simp_all;omega))
        rw [r0];exact U [(4,false),(9,false),(13,false),(16,false),(17,false),(18,true),(14,false)] ⟨congrArg pB h1,congrArg pB h2,congrArg pB h3,congrArg pB h4,congrArg pB h5,congrArg pB h6,congrArg pB h7,trivial⟩ [(4,0),(6,5),(8,9),(10,12),(12,13),(14,14),(18,1),(19,10)] 4 (by kernel_rfl)
      | false =>
       have dh6:=ne_of_beq_false (e15.trans h6)
       cases h7:v16 with
       | true =>
        have dh7:=eq_of_beq (e16.trans h7)
        cases h8:v11 with
        | true =>
         have dh8:=eq_of_beq (e11.trans h8)
         cases h9:v12 with
         | true =>
          have dh9:=eq_of_beq (e12.trans h9)
          have r0:r=0:=by (rw [← hr];unfold zo;clear hr;(repeat' split)<;>first | rfl | omega | (exfalso;simp_all;done) | (exfalso;simp_all;omega))
          rw [r0];exact U [(4,false),(9,false),(13,false),(16,false),(17,false),(18,false),(19,true),(14,true),(15,true)] ⟨congrArg pB h1,congrArg pB h2,congrArg pB h3,congrArg pB h4,congrArg pB h5,congrArg pB h6,congrArg pB h7,congrArg pB h8,congrArg pB h9,trivial⟩ [(4,0),(6,5),(8,9),(10,12),(12,13),(14,14),(16,15),(20,1),(21,10),(25,11)] 0 (by kernel_rfl)
         | false =>
          have dh9:=ne_of_beq_false (e12.trans h9)
          have r0:r=4:=by (rw [← hr];unfold zo;clear hr;(repeat' split)<;>first | rfl | omega | (exfalso;simp_all;done) | (exfalso;simp_all;omega))
          rw [r0];exact U [(4,false),(9,false),(13,false),(16,false),(17,false),(18,false),(19,true),(14,true),(15,false)] ⟨congrArg pB h1,congrArg pB h2,congrArg pB h3,congrArg pB h4,congrArg pB h5,congrArg pB h6,congrArg pB h7,congrArg pB h8,congrArg pB h9,trivial⟩ [(4,0),(6,5),(8,9),(10,12),(12,13),(14,14),(16,15),(20,1),(21,10),(25,11)] 4 (by kernel_rfl)
        | false =>
         have dh8:=ne_of_beq_false (e11.trans h8)
         have r0:r=4:=by (rw [← hr];unfold zo;clear hr;(repeat' split)<;>first | rfl | omega | (exfalso;simp_all;done) | (exfalso;simp_all;omega))
         rw [r0];exact U [(4,false),(9,false),(13,false),(16,false),(17,false),(18,false),(19,true),(14,false)] ⟨congrArg pB h1,congrArg pB h2,congrArg pB h3,congrArg pB h4,congrArg pB h5,congrArg pB h6,congrArg pB h7,congrArg pB h8,trivial⟩ [(4,0),(6,5),(8,9),(10,12),(12,13),(14,14),(16,15),(20,1),(21,10)] 4 (by kernel_rfl)
       | false =>
        have dh7:=ne_of_beq_false (e16.trans h7)
        have r0:r=4:=by (rw [← hr];unfold zo;clear hr;(repeat' split)<;>first | rfl | omega | (exfalso;simp_all;done) | (exfalso;simp_all;omega))
        rw [r0];exact U [(4,false),(9,false),(13,false),(16,false),(17,false),(18,false),(19,false)] ⟨congrArg pB h1,congrArg pB h2,congrArg pB h3,congrArg pB h4,congrArg pB h5,congrArg pB h6,congrArg pB h7,trivial⟩ [(4,0),(6,5),(8,9),(10,12),(12,13),(14,14),(16,15)] 4 (by kernel_rfl)
abbrev zh3:List Ent:=[.bin .eql 3 (yh 0) (LF (.k (.int .i64 1))) (yh 4),
  .op (.len [29] 3) [yh 2] [] (yh 5),
  .bin .gtr 3 (yh 5) (LF (.k (.int .i64 0))) (yh 6),
  .call ⟨77,[yh 1],[],yh 7,[]⟩,
  .un .not (yh 7) (yh 8),
  .bin .eql 3 (yh 0) (LF (.k (.int .i64 2))) (yh 9),
  .bin .lss 3 (yh 1) (LF (.k (.int .i64 0))) (yh 10),
  .bin .geq 3 (yh 1) (LF (.k (.int .i64 4))) (yh 11),
  .bin .geq 3 (yh 1) (yh 3) (yh 12),
  .bin .eql 3 (yh 0) (LF (.k (.int .i64 3))) (yh 13),
  .bin .eql 3 (yh 5) (LF (.k (.int .i64 2))) (yh 14),
  .bin .eql 3 (yh 1) (LF (.k (.int .i64 0))) (yh 15),
  .bin .eql 3 (yh 0) (LF (.k (.int .i64 4))) (yh 16),
  .bin .eql 3 (yh 0) (LF (.k (.int .i64 5))) (yh 17),
  .bin .eql 3 (yh 0) (LF (.k (.int .i64 6))) (yh 18),
  .bin .eql 3 (yh 0) (LF (.k (.int .i64 7))) (yh 19)]
theorem zmB {w0:World} (e:Xp) (a:Int) (v1:Bool) (v2:Int) (v3:Bool) (v4:Bool) (v5:Bool) (v6:Bool) (v7:Bool) (v8:Bool) (v9:Bool) (v10:Bool) (v11:Bool) (v12:Bool) (v13:Bool) (v14:Bool) (v15:Bool) (v16:Bool) (e1:((e.op == (1:Int)))=v1) (e2:((e.l.length:Int))=v2) (e3:(decide (v2 > (0:Int)))=v3) (e4:(valB e.n)=v4) (e5:(!v4)=v5) (e6:((e.op == (2:Int)))=v6) (e7:(decide (e.n<(0:Int)))=v7) (e8:(decide (e.n ≥ (4:Int)))=v8) (e9:(decide (e.n ≥ a))=v9) (e10:((e.op == (3:Int)))=v10) (e11:((v2 == (2:Int)))=v11) (e12:((e.n == (0:Int)))=v12) (e13:((e.op == (4:Int)))=v13) (e14:((e.op == (5:Int)))=v14) (e15:((e.op == (6:Int)))=v15) (e16:((e.op == (7:Int)))=v16) (l:List (Nat×Bool)) (hl:FbOk (FL [pI e.op,pI e.n,pLs cE e.l,pI a,pB v1,pI v2,pB v3,pB v4,pB v5,pB v6,pB v7,pB v8,pB v9,pB v10,pB v11,pB v12,pB v13,pB v14,pB v15,pB v16] []) l) (s:List (Nat×Nat)) (o:Int) (h:conOk (KN w0) Tryz.prog (fbs l++sel zh3 s) 0 ⟨69,[.o (.g [.h 0,.h 1,.h 2]),yh 3],[],.o (.c (.k (.int .i64 o))),[]⟩=true):Fun (KN w0) Tryz.prog 69 [.o (.g [pI e.op,pI e.n,pLs cE e.l]),.o (.c (pI a))] (.o (.c (pV (.int .i64 o)))):=
 zk (zr (F:=FL [pI e.op,pI e.n,pLs cE e.l,pI a,pB v1,pI v2,pB v3,pB v4,pB v5,pB v6,pB v7,pB v8,pB v9,pB v10,pB v11,pB v12,pB v13,pB v14,pB v15,pB v16] []) 0 (zg ⟨za,za,(ze (zf rfl)),za,za,za,za,za,za,za,za,za,za,za,za,za,za,za,za,za,trivial⟩) (zdw (zjI l hl) (zhU (E:=zh3) ⟨e_bin (zb rfl) zd (zb rfl) (r_cmp (congrArg some e1)),
  zF (E:=32) (by kernel_rfl) (zc rfl) (zb (by rw [← e2];rfl)),
  e_bin (zb rfl) zd (zb rfl) (r_cmp (congrArg some e3)),
  zh (zmW e.n v4 e4),
  e_un (zb rfl) (zb rfl) (fun W=>by rw [← e5];exact r_not W),
  e_bin (zb rfl) zd (zb rfl) (r_cmp (congrArg some e6)),
  e_bin (zb rfl) zd (zb rfl) (r_cmp (congrArg some e7)),
  e_bin (zb rfl) zd (zb rfl) (r_cmp (congrArg some e8)),
  e_bin (zb rfl) (zb rfl) (zb rfl) (r_cmp (congrArg some e9)),
  e_bin (zb rfl) zd (zb rfl) (r_cmp (congrArg some e10)),
  e_bin (zb rfl) zd (zb rfl) (r_cmp (congrArg some e11)),
  e_bin (zb rfl) zd (zb rfl) (r_cmp (congrArg some e12)),
  e_bin (zb rfl) zd (zb rfl) (r_cmp (congrArg some e13)),
  e_bin (zb rfl) zd (zb rfl) (r_cmp (congrArg some e14)),
  e_bin (zb rfl) zd (zb rfl) (r_cmp (congrArg some e15)),
  e_bin (zb rfl) zd (zb rfl) (r_cmp (congrArg some e16)),
  trivial⟩ s)) mixed h)
theorem zpA {w0:World} (e:Xp) (a:Int) (r:Int) (hr:zo e.op e.n e.l.length a=r):Fun (KN w0) Tryz.prog 69 [.o (.g [pI e.op,pI e.n,pLs cE e.l]),.o (.c (pI a))] (.o (.c (pI r))):=by
 obtain ⟨v1,e1⟩:∃v,((e.op == (1:Int)))=v:=⟨_,rfl⟩
 obtain ⟨v2,e2⟩:∃v,((e.l.length:Int))=v:=⟨_,rfl⟩
 obtain ⟨v3,e3⟩:∃v,(decide (v2 > (0:Int)))=v:=⟨_,rfl⟩
 obtain ⟨v4,e4⟩:∃v,(valB e.n)=v:=⟨_,rfl⟩
 obtain ⟨v5,e5⟩:∃v,(!v4)=v:=⟨_,rfl⟩
 obtain ⟨v6,e6⟩:∃v,((e.op == (2:Int)))=v:=⟨_,rfl⟩
 obtain ⟨v7,e7⟩:∃v,(decide (e.n<(0:Int)))=v:=⟨_,rfl⟩
 obtain ⟨v8,e8⟩:∃v,(decide (e.n ≥ (4:Int)))=v:=⟨_,rfl⟩
 obtain ⟨v9,e9⟩:∃v,(decide (e.n ≥ a))=v:=⟨_,rfl⟩
 obtain ⟨v10,e10⟩:∃v,((e.op == (3:Int)))=v:=⟨_,rfl⟩
 obtain ⟨v11,e11⟩:∃v,((v2 == (2:Int)))=v:=⟨_,rfl⟩
 obtain ⟨v12,e12⟩:∃v,((e.n == (0:Int)))=v:=⟨_,rfl⟩
 obtain ⟨v13,e13⟩:∃v,((e.op == (4:Int)))=v:=⟨_,rfl⟩
 obtain ⟨v14,e14⟩:∃v,((e.op == (5:Int)))=v:=⟨_,rfl⟩
 obtain ⟨v15,e15⟩:∃v,((e.op == (6:Int)))=v:=⟨_,rfl⟩
 obtain ⟨v16,e16⟩:∃v,((e.op == (7:Int)))=v:=⟨_,rfl⟩
 have U:=@zmB w0 e a v1 v2 v3 v4 v5 v6 v7 v8 v9 v10 v11 v12 v13 v14 v15 v16 e1 e2 e3 e4 e5 e6 e7 e8 e9 e10 e11 e12 e13 e14 e15 e16
 cases h1:v1 with
 | true =>
  have dh1:=eq_of_beq (e1.trans h1)
  cases h2:v3 with
  | true =>
   have dh2:=of_decide_eq_true (e3.trans h2)
   have r0:r=4:=by (rw [← hr];unfold zo;clear hr;(repeat' split)<;>first | rfl | omega | (exfalso;simp_all;done) | (exfalso;simp_all;omega))
   rw [r0];exact U [(4,true),(6,true)] ⟨congrArg pB h1,congrArg pB h2,trivial⟩ [(4,0),(8,1),(9,2)] 4 (by kernel_rfl)
  | false =>
   have dh2:=of_decide_eq_false (e3.trans h2)
   cases h3:v5 with
   | true =>
    have r0:r=3:=by (rw [← hr];unfold zo;clear hr;(repeat' split)<;>first | rfl | omega | (exfalso;simp_all;done) | (exfalso;simp_all;omega))
    rw [r0];exact U [(4,true),(6,false),(8,true)] ⟨congrArg pB h1,congrArg pB h2,congrArg pB h3,trivial⟩ [(4,0),(8,1),(9,2),(12,3),(13,4)] 3 (by kernel_rfl)
   | false =>
    have r0:r=0:=by (rw [← hr];unfold zo;clear hr;(repeat' split)<;>first | rfl | omega | (exfalso;simp_all;done) | (exfalso;simp_all;omega))
    rw [r0];exact U [(4,true),(6,false),(8,false)] ⟨congrArg pB h1,congrArg pB h2,congrArg pB h3,trivial⟩ [(4,0),(8,1),(9,2),(12,3),(13,4)] 0 (by kernel_rfl)
 | false =>
  have dh1:=ne_of_beq_false (e1.trans h1)
  cases h2:v6 with
  | true =>
   have dh2:=eq_of_beq (e6.trans h2)
   cases h3:v3 with
   | true =>
    have dh3:=of_decide_eq_true (e3.trans h3)
    have r0:r=4:=by (rw [← hr];unfold zo;clear hr;(repeat' split)<;>first | rfl | omega | (exfalso;simp_all;done) | (exfalso;simp_all;omega))
    rw [r0];exact U [(4,false),(9,true),(6,true)] ⟨congrArg pB h1,congrArg pB h2,congrArg pB h3,trivial⟩ [(4,0),(6,5),(10,1),(11,2)] 4 (by kernel_rfl)
   | false =>
    have dh3:=of_decide_eq_false (e3.trans h3)
    cases h4:v7 with
    | true =>
     have dh4:=of_decide_eq_true (e7.trans h4)
     have r0:r=1:=by (rw [← hr];unfold zo;clear hr;(repeat' split)<;>first | rfl | omega | (exfalso;simp_all;done) | (exfalso;simp_all;omega))
     rw [r0];exact U [(4,false),(9,true),(6,false),(10,true)] ⟨congrArg pB h1,congrArg pB h2,congrArg pB h3,congrArg pB h4,trivial⟩ [(4,0),(6,5),(10,1),(11,2),(14,6)] 1 (by kernel_rfl)
    | false =>
     have dh4:=of_decide_eq_false (e7.trans h4)
     cases h5:v8 with
     | true =>
      have dh5:=of_decide_eq_true (e8.trans h5)
      have r0:r=1:=by (rw [← hr];unfold zo;clear hr;(repeat' split)<;>first | rfl | omega | (exfalso;simp_all;done) | (exfalso;simp_all;omega))
      rw [r0];exact U [(4,false),(9,true),(6,false),(10,false),(11,true)] ⟨congrArg pB h1,congrArg pB h2,congrArg pB h3,congrArg pB h4,congrArg pB h5,trivial⟩ [(4,0),(6,5),(10,1),(11,2),(14,6),(18,7)] 1 (by kernel_rfl)
     | false =>
      have dh5:=of_decide_eq_false (e8.trans h5)
      cases h6:v9 with
      | true =>
       have dh6:=of_decide_eq_true (e9.trans h6)
       have r0:r=1:=by (rw [← hr];unfold zo;clear hr;(repeat' split)<;>first | rfl | omega | (exfalso;simp_all;done) | (exfalso;simp_all;omega))
       rw [r0];exact U [(4,false),(9,true),(6,false),(10,false),(11,false),(12,true)] ⟨congrArg pB h1,congrArg pB h2,congrArg pB h3,congrArg pB h4,congrArg pB h5,congrArg pB h6,trivial⟩ [(4,0),(6,5),(10,1),(11,2),(14,6),(18,7),(24,8)] 1 (by kernel_rfl)
      | false =>
       have dh6:=of_decide_eq_false (e9.trans h6)
       have r0:r=0:=by (rw [← hr];unfold zo;clear hr;(repeat' split)<;>first | rfl | omega | (exfalso;simp_all;done) | (exfalso;simp_all;omega))
       rw [r0];exact U [(4,false),(9,true),(6,false),(10,false),(11,false),(12,false)] ⟨congrArg pB h1,congrArg pB h2,congrArg pB h3,congrArg pB h4,congrArg pB h5,congrArg pB h6,trivial⟩ [(4,0),(6,5),(10,1),(11,2),(14,6),(18,7),(24,8)] 0 (by kernel_rfl)
  | false =>
   have dh2:=ne_of_beq_false (e6.trans h2)
   cases h3:v10 with
   | true =>
    have dh3:=eq_of_beq (e10.trans h3)
    cases h4:v11 with
    | true =>
     have dh4:=eq_of_beq (e11.trans h4)
     cases h5:v12 with
     | true =>
      have dh5:=eq_of_beq (e12.trans h5)
      have r0:r=0:=by (rw [← hr];unfold zo;clear hr;(repeat' split)<;>first | rfl | omega | (exfalso;simp_all;done) | (exfalso;simp_all;omega))
      rw [r0];exact U [(4,false),(9,false),(13,true),(14,true),(15,true)] ⟨congrArg pB h1,congrArg pB h2,congrArg pB h3,congrArg pB h4,congrArg pB h5,trivial⟩ [(4,0),(6,5),(8,9),(12,1),(13,10),(17,11)] 0 (by kernel_rfl)
     | false =>
      have dh5:=ne_of_beq_false (e12.trans h5)
      have r0:r=4:=by (rw [← hr];unfold zo;clear hr;(repeat' split)<;>first | rfl | omega | (exfalso;simp_all;done) | (exfalso;simp_all;omega))
      rw [r0];exact U [(4,false),(9,false),(13,true),(14,true),(15,false)] ⟨congrArg pB h1,congrArg pB h2,congrArg pB h3,congrArg pB h4,congrArg pB h5,trivial⟩ [(4,0),(6,5),(8,9),(12,1),(13,10),(17,11)] 4 (by kernel_rfl)
    | false =>
     have dh4:=ne_of_beq_false (e11.trans h4)
     have r0:r=4:=by (rw [← hr];unfold zo;clear hr;(repeat' split)<;>first | rfl | omega | (exfalso;simp_all;done) | (exfalso;simp_all;omega))
     rw [r0];exact U [(4,false),(9,false),(13,true),(14,false)] ⟨congrArg pB h1,congrArg pB h2,congrArg pB h3,congrArg pB h4,trivial⟩ [(4,0),(6,5),(8,9),(12,1),(13,10)] 4 (by kernel_rfl)
   | false =>
    have dh3:=ne_of_beq_false (e10.trans h3)
    cases h4:v13 with
    | true =>
     have dh4:=eq_of_beq (e13.trans h4)
     cases h5:v11 with
     | true =>
      have dh5:=eq_of_beq (e11.trans h5)
      cases h6:v12 with
      | true =>
       have dh6:=eq_of_beq (e12.trans h6)
       have r0:r=0:=by (rw [← hr];unfold zo;clear hr;(repeat' split)<;>first | rfl | omega | (exfalso;simp_all;done) | (exfalso;simp_all;omega))
       rw [r0];exact U [(4,false),(9,false),(13,false),(16,true),(14,true),(15,true)] ⟨congrArg pB h1,congrArg pB h2,congrArg pB h3,congrArg pB h4,congrArg pB h5,congrArg pB h6,trivial⟩ [(4,0),(6,5),(8,9),(10,12),(14,1),(15,10),(19,11)] 0 (by kernel_rfl)
      | false =>
       have dh6:=ne_of_beq_false (e12.trans h6)
       have r0:r=4:=by (rw [← hr];unfold zo;clear hr;(repeat' split)<;>first | rfl | omega | (exfalso;simp_all;done) | (exfalso;simp_all;omega))
       rw [r0];exact U [(4,false),(9,false),(13,false),(16,true),(14,true),(15,false)] ⟨congrArg pB h1,congrArg pB h2,congrArg pB h3,congrArg pB h4,congrArg pB h5,congrArg pB h6,trivial⟩ [(4,0),(6,5),(8,9),(10,12),(14,1),(15,10),(19,11)] 4 (by kernel_rfl)
     | false =>
      have dh5:=ne_of_beq_false (e11.trans h5)
      have r0:r=4:=by (rw [← hr];unfold zo;clear hr;(repeat' split)<;>first | rfl | omega | (exfalso;simp_all;done) | (exfalso;simp_all;omega))
      rw [r0];exact U [(4,false),(9,false),(13,false),(16,true),(14,false)] ⟨congrArg pB h1,congrArg pB h2,congrArg pB h3,congrArg pB h4,congrArg pB h5,trivial⟩ [(4,0),(6,5),(8,9),(10,12),(14,1),(15,10)] 4 (by kernel_rfl)
    | false =>
     have dh4:=ne_of_beq_false (e13.trans h4)
     cases h5:v14 with
     | true =>
      have dh5:=eq_of_beq (e14.trans h5)
      cases h6:v11 with
      | true =>
       have dh6:=eq_of_beq (e11.trans h6)
       cases h7:v12 with
       | true =>
        have dh7:=eq_of_beq (e12.trans h7)
        have r0:r=0:=by (rw [← hr];unfold zo;clear hr;(repeat' split)<;>first | rfl | omega | (exfalso;simp_all;done) | (exfalso;simp_all;omega))
        rw [r0];exact U [(4,false),(9,false),(13,false),(16,false),(17,true),(14,true),(15,true)] ⟨congrArg pB h1,congrArg pB h2,congrArg pB h3,congrArg pB h4,congrArg pB h5,congrArg pB h6,congrArg pB h7,trivial⟩ [(4,0),(6,5),(8,9),(10,12),(12,13),(16,1),(17,10),(21,11)] 0 (by kernel_rfl)
       | false =>
        have dh7:=ne_of_beq_false (e12.trans h7)
        have r0:r=4:=by (rw [← hr];unfold zo;clear hr;(repeat' split)<;>first | rfl | omega | (exfalso;simp_all;done) | (exfalso;simp_all;omega))
        rw [r0];exact U [(4,false),(9,false),(13,false),(16,false),(17,true),(14,true),(15,false)] ⟨congrArg pB h1,congrArg pB h2,congrArg pB h3,congrArg pB h4,congrArg pB h5,congrArg pB h6,congrArg pB h7,trivial⟩ [(4,0),(6,5),(8,9),(10,12),(12,13),(16,1),(17,10),(21,11)] 4 (by kernel_rfl)
      | false =>
       have dh6:=ne_of_beq_false (e11.trans h6)
       have r0:r=4:=by (rw [← hr];unfold zo;clear hr;(repeat' split)<;>first | rfl | omega | (exfalso;simp_all;done) | (exfalso;simp_all;omega))
       rw [r0];exact U [(4,false),(9,false),(13,false),(16,false),(17,true),(14,false)] ⟨congrArg pB h1,congrArg pB h2,congrArg pB h3,congrArg pB h4,congrArg pB h5,congrArg pB h6,trivial⟩ [(4,0),(6,5),(8,9),(10,12),(12,13),(16,1),(17,10)] 4 (by kernel_rfl)
     | false =>
      have dh5:=ne_of_beq_false (e14.trans h5)
      cases h6:v15 with
      | true =>
       have dh6:=eq_of_beq (e15.trans h6)
       cases h7:v11 with
       | true =>
        have dh7:=eq_of_beq (e11.trans h7)
        cases h8:v12 with
        | true =>
         have dh8:=eq_of_beq (e12.trans h8)
         have r0:r=0:=by (rw [← hr];unfold zo;clear hr;(repeat' split)<;>first | rfl | omega | (exfalso;simp_all;done) | (exfalso;simp_all;omega))
         rw [r0];exact U [(4,false),(9,false),(13,false),(16,false),(17,false),(18,true),(14,true),(15,true)] ⟨congrArg pB h1,congrArg pB h2,congrArg pB h3,congrArg pB h4,congrArg pB h5,congrArg pB h6,congrArg pB h7,congrArg pB h8,trivial⟩ [(4,0),(6,5),(8,9),(10,12),(12,13),(14,14),(18,1),(19,10),(23,11)] 0 (by kernel_rfl)
        | false =>
         have dh8:=ne_of_beq_false (e12.trans h8)
         have r0:r=4:=by (rw [← hr];unfold zo;clear hr;(repeat' split)<;>first | rfl | omega | (exfalso;simp_all;done) | (exfalso;simp_all;omega))
         rw [r0];exact U [(4,false),(9,false),(13,false),(16,false),(17,false),(18,true),(14,true),(15,false)] ⟨congrArg pB h1,congrArg pB h2,congrArg pB h3,congrArg pB h4,congrArg pB h5,congrArg pB h6,congrArg pB h7,congrArg pB h8,trivial⟩ [(4,0),(6,5),(8,9),(10,12),(12,13),(14,14),(18,1),(19,10),(23,11)] 4 (by kernel_rfl)
       | false =>
        have dh7:=ne_of_beq_false (e11.trans h7)
        have r0:r=4:=by (rw [← hr];unfold zo;clear hr;(repeat' split)<;>first | rfl | omega | (exfalso;simp_all;done) | (exfalso;simp_all;omega))
        rw [r0];exact U [(4,false),(9,false),(13,false),(16,false),(17,false),(18,true),(14,false)] ⟨congrArg pB h1,congrArg pB h2,congrArg pB h3,congrArg pB h4,congrArg pB h5,congrArg pB h6,congrArg pB h7,trivial⟩ [(4,0),(6,5),(8,9),(10,12),(12,13),(14,14),(18,1),(19,10)] 4 (by kernel_rfl)
      | false =>
       have dh6:=ne_of_beq_false (e15.trans h6)
       cases h7:v16 with
       | true =>
        have dh7:=eq_of_beq (e16.trans h7)
        cases h8:v11 with
        | true =>
         have dh8:=eq_of_beq (e11.trans h8)
         cases h9:v12 with
         | true =>
          have dh9:=eq_of_beq (e12.trans h9)
          have r0:r=0:=by (rw [← hr];unfold zo;clear hr;(repeat' split)<;>first | rfl | omega | (exfalso;simp_all;done) | (exfalso;simp_all;omega))
          rw [r0];exact U [(4,false),(9,false),(13,false),(16,false),(17,false),(18,false),(19,true),(14,true),(15,true)] ⟨congrArg pB h1,congrArg pB h2,congrArg pB h3,congrArg pB h4,congrArg pB h5,congrArg pB h6,congrArg pB h7,congrArg pB h8,congrArg pB h9,trivial⟩ [(4,0),(6,5),(8,9),(10,12),(12,13),(14,14),(16,15),(20,1),(21,10),(25,11)] 0 (by kernel_rfl)
         | false =>
          have dh9:=ne_of_beq_false (e12.trans h9)
          have r0:r=4:=by (rw [← hr];unfold zo;clear hr;(repeat' split)<;>first | rfl | omega | (exfalso;simp_all;done) | (exfalso;simp_all;omega))
          rw [r0];exact U [(4,false),(9,false),(13,false),(16,false),(17,false),(18,false),(19,true),(14,true),(15,false)] ⟨congrArg pB h1,congrArg pB h2,congrArg pB h3,congrArg pB h4,congrArg pB h5,congrArg pB h6,congrArg pB h7,congrArg pB h8,congrArg pB h9,trivial⟩ [(4,0),(6,5),(8,9),(10,12),(12,13),(14,14),(16,15),(20,1),(21,10),(25,11)] 4 (by kernel_rfl)
        | false =>
         have dh8:=ne_of_beq_false (e11.trans h8)
         have r0:r=4:=by (rw [← hr];unfold zo;clear hr;(repeat' split)<;>first | rfl | omega | (exfalso;simp_all;done) | (exfalso;simp_all;omega))
         rw [r0];exact U [(4,false),(9,false),(13,false),(16,false),(17,false),(18,false),(19,true),(14,false)] ⟨congrArg pB h1,congrArg pB h2,congrArg pB h3,congrArg pB h4,congrArg pB h5,congrArg pB h6,congrArg pB h7,congrArg pB h8,trivial⟩ [(4,0),(6,5),(8,9),(10,12),(12,13),(14,14),(16,15),(20,1),(21,10)] 4 (by kernel_rfl)
       | false =>
        have dh7:=ne_of_beq_false (e16.trans h7)
        have r0:r=4:=by (rw [← hr];unfold zo;clear hr;(repeat' split)<;>first | rfl | omega | (exfalso;simp_all;done) | (exfalso;simp_all;omega))
        rw [r0];exact U [(4,false),(9,false),(13,false),(16,false),(17,false),(18,false),(19,false)] ⟨congrArg pB h1,congrArg pB h2,congrArg pB h3,congrArg pB h4,congrArg pB h5,congrArg pB h6,congrArg pB h7,trivial⟩ [(4,0),(6,5),(8,9),(10,12),(12,13),(14,14),(16,15)] 4 (by kernel_rfl)
end Go.Proofs.YtdkofaajcpcjkaaGreatDoor
namespace Go.Proofs.YtdkofaajcpcjkaaGreatDoor
open Go.RowKit
theorem zex (e:Xp) (a:Int):chkX e a=if zo e.op e.n e.l.length a≠0 then zo e.op e.n e.l.length a else chkL e.l a:=by cases e;rw [chkX];rfl
def qi (w0:World) (N:Nat):Prop:=∀(x:Xp) (a v:Int),chkX x a=v→nodes x≤N→Fun (KN w0) Tryz.prog 40 [.o (.g [pI x.op,pI x.n,pLs cE x.l]),.o (.c (pI a))] (.o (.c (pI v)))
structure x_check_A_T where
 i:Int
def zJ:List Atom:=[.sl 0 (.o (.g [.h 0,.h 1,.h 2])),.sl 1 (yh 3),.sl 2 (.o (.c (.p 0 0))),.sl 5 (yh 4),.sl 9 (.o (.g [.h 0,.h 1,.h 2])),.sl 10 (yh 3),.sl 11 (yh 4),.sl 12 (yh 4),.sl 13 (yh 5),.sl 15 (.o (.c (.p 0 2))),.sl 16 (yh 2),.sl 17 (yh 6),.sl 18 (yh 7),.bx 0 32 [.h 0,.h 1,.h 2]]
def zah:LoopS:=⟨5,[.sl 0 (.o (.g [.h 0,.h 1,.h 2])),.sl 1 (yh 3),.sl 2 (.o (.c (.p 0 0))),.sl 5 (yh 4),.sl 9 (.o (.g [.h 0,.h 1,.h 2])),.sl 10 (yh 3),.sl 11 (yh 4),.sl 12 (yh 4),.sl 13 (yh 5),.sl 15 (.o (.c (.p 0 2))),.sl 16 (yh 2),.sl 17 (yh 6),.sl 18 (.o (.c (.k (.int .i64 0)))),.bx 0 32 [.h 0,.h 1,.h 2]],(.x 0),[.sl 0 (.o (.g [.h 0,.h 1,.h 2])),.sl 1 (yh 3),.sl 2 (.o (.c (.p 0 0))),.sl 5 (yh 4),.sl 9 (.o (.g [.h 0,.h 1,.h 2])),.sl 10 (yh 3),.sl 11 (yh 4),.sl 12 (yh 4),.sl 13 (yh 5),.sl 15 (.o (.c (.p 0 2))),.sl 16 (yh 2),.sl 17 (yh 6),.bx 0 32 [.h 0,.h 1,.h 2]]⟩
theorem zcQ {w0:World} (e:Xp) (a:Int) (N:Nat) (v1:Int) (v2:Bool) (v4:Int) (IH:qi w0 N) (h3:v2=false) (i:Int) (v501:Bool) (n503:Nat) (x504:Xp) (v507:Int) (v509:Bool) (v511:Int) (e501:(decide (i<v4))=v501) (e507:(chkX x504 a)=v507) (e509:((v507 != (0:Int)))=v509) (e511:(IntKind.i64.wrap (i+(1:Int)))=v511) (h502:v501=true) (s505:i=(n503:Int)) (s506:e.l[n503]?=some x504) (s508:nodes x504≤N) (h510:v509=false) (i':Int) (q0:(v511)=i') (R:Frm) (hR:R.pm=⟨ntOf Tryz.prog 40,[],[]⟩):Goes (KN w0) Tryz.prog R (lp Tryz.prog 40 0) (FL [pI e.op,pI e.n,pLs cE e.l,pI a,pI v1,pB v2,pI v4,pI i] []) zJ .n (FL [pI e.op,pI e.n,pLs cE e.l,pI a,pI v1,pB v2,pI v4,pI i'] []) zJ:=
 goes (x:=.n) (y:=.n) (Fb:=FL [pI e.op,pI e.n,pLs cE e.l,pI a,pI v1,pB v2,pI v4,pI i,pB v501,pP (cE x504),pI x504.op,pI x504.n,pLs cE x504.l,pI v507,pB v509,pI v511] []) (stb:=zJ) (tl:=[.sl 0 (.o (.g [.h 0,.h 1,.h 2])),.sl 1 (yh 3),.sl 2 (.o (.c (.p 0 0))),.sl 5 (yh 4),.sl 9 (.o (.g [.h 0,.h 1,.h 2])),.sl 10 (yh 3),.sl 11 (yh 4),.sl 12 (yh 4),.sl 13 (yh 5),.sl 15 (.o (.c (.p 0 2))),.sl 16 (yh 2),.sl 17 (yh 6),.sl 18 (yh 15),.bx 0 32 [.h 0,.h 1,.h 2]]) (C:=((10005,.fb 5 false) ::
  (1005000,.bin .lss 3 (yh 7) (yh 6) (yh 8)) ::
  (10008,.fb 8 true) ::
  (1005001,.op (.ia 29) [yh 2,yh 7] [] (yh 9)) ::
  (1005002,.op (.ld 32) [yh 9] [] (.o (.g [.h 10,.h 11,.h 12]))) ::
  (1005007,.call ⟨40,[.o (.g [.h 10,.h 11,.h 12]),yh 3],[],yh 13,[]⟩) ::
  (1005010,.bin .neq 44 (yh 13) (LF (.k (.int .i64 0))) (yh 14)) ::
  (10014,.fb 14 false) ::
  (1005011,.bin .add 3 (yh 7) (LF (.k (.int .i64 1))) (yh 15)) ::
  []:List (Nat×Ent))) (H:=.no) 5000 (zipA.imp ⟨z_g ⟨yy,yy,yy,trivial⟩,z_c yy,z_c yy,z_c yy,z_g ⟨yy,yy,yy,trivial⟩,z_c yy,z_c yy,z_c yy,z_c yy,z_c yy,z_c yy,z_c yy,z_c yy,z_b ⟨yy,yy,yy,trivial⟩,trivial⟩) (zg ⟨za,za,(ze (zf rfl)),za,za,za,za,za,za,(zl ((zf rfl) _)),za,za,(ze (zf rfl)),za,za,za,trivial⟩) ⟨e_fbv h3,
  e_bin (zb rfl) (zb rfl) (zb rfl) (r_cmp (congrArg some e501)),
  e_fbv h502,
  e_iaL (E:=32) (z:=3) zj (by kernel_rfl) (by kernel_rfl) (zc rfl) (zb rfl) s505 s506 (zc rfl),
  e_ldG (by kernel_rfl) (by kernel_rfl) (zc rfl) (cE_eq _).symm rfl (zj _),
  zh (IH x504 a v507 e507 s508),
  e_bin (zb rfl) zd (zb rfl) (r_cmp (congrArg some e509)),
  e_fbv h510,
  e_bin (zb rfl) zd (zb rfl) (r_ar (congrArg some e511)),
  trivial⟩ mixed hR trivial (fun _ _ _ hs=>by cases hs) (by kernel_rfl:zA (KN w0) Tryz.prog _ .no ⟨ntOf Tryz.prog 40,[],[]⟩ (lp Tryz.prog 40 0) 5000 zJ .n [.sl 0 (.o (.g [.h 0,.h 1,.h 2])),.sl 1 (yh 3),.sl 2 (.o (.c (.p 0 0))),.sl 5 (yh 4),.sl 9 (.o (.g [.h 0,.h 1,.h 2])),.sl 10 (yh 3),.sl 11 (yh 4),.sl 12 (yh 4),.sl 13 (yh 5),.sl 15 (.o (.c (.p 0 2))),.sl 16 (yh 2),.sl 17 (yh 6),.sl 18 (yh 15),.bx 0 32 [.h 0,.h 1,.h 2]]=true) rfl (zipA.imp ⟨z_g ⟨yy,yy,yy,trivial⟩,z_c yy,z_c yy,z_c yy,z_g ⟨yy,yy,yy,trivial⟩,z_c yy,z_c yy,z_c yy,z_c yy,z_c yy,z_c yy,z_c yy,z_c (fun β v W h=>(zc rfl β v W).2 (by rw [← q0];exact h)),z_b ⟨yy,yy,yy,trivial⟩,trivial⟩)
theorem zfN {w0:World} (e:Xp) (a:Int) (N:Nat) (v1:Int) (v2:Bool) (v4:Int) (IH:qi w0 N) (h3:v2=false) (i:Int) (v501:Bool) (e501:(decide (i<v4))=v501) (h502:v501=false) (F:Fact) (u0:F.c 0=pI e.op) (u1:F.c 1=pI e.n) (u2:F.c 2=pLs cE e.l) (u3:F.c 3=pI a) (u4:F.c 4=pI v1) (u5:F.c 5=pB v2) (u6:F.c 6=pI v4) (R:Frm) (hR:R.pm=⟨ntOf Tryz.prog 40,[],[]⟩):Goes (KN w0) Tryz.prog R (lp Tryz.prog 40 0) (FL [pI e.op,pI e.n,pLs cE e.l,pI a,pI v1,pB v2,pI v4,pI i] []) zJ (.x 0) F zah.out:=
 goes (x:=(.x 0)) (y:=(.x 0)) (Fb:=FL [pI e.op,pI e.n,pLs cE e.l,pI a,pI v1,pB v2,pI v4,pI i,pB v501] []) (stb:=zJ) (tl:=[.sl 0 (.o (.g [.h 0,.h 1,.h 2])),.sl 1 (yh 3),.sl 2 (.o (.c (.p 0 0))),.sl 5 (yh 4),.sl 9 (.o (.g [.h 0,.h 1,.h 2])),.sl 10 (yh 3),.sl 11 (yh 4),.sl 12 (yh 4),.sl 13 (yh 5),.sl 15 (.o (.c (.p 0 2))),.sl 16 (yh 2),.sl 17 (yh 6),.bx 0 32 [.h 0,.h 1,.h 2]]) (C:=((10005,.fb 5 false) ::
  (1005000,.bin .lss 3 (yh 7) (yh 6) (yh 8)) ::
  (10008,.fb 8 false) ::
  []:List (Nat×Ent))) (H:=.no) 5000 (zipA.imp ⟨z_g ⟨yy,yy,yy,trivial⟩,z_c yy,z_c yy,z_c yy,z_g ⟨yy,yy,yy,trivial⟩,z_c yy,z_c yy,z_c yy,z_c yy,z_c yy,z_c yy,z_c yy,z_c yy,z_b ⟨yy,yy,yy,trivial⟩,trivial⟩) (zg ⟨za,za,(ze (zf rfl)),za,za,za,za,za,za,trivial⟩) ⟨e_fbv h3,
  e_bin (zb rfl) (zb rfl) (zb rfl) (r_cmp (congrArg some e501)),
  e_fbv h502,
  trivial⟩ mixed hR trivial (fun _ _ _ hs=>by cases hs) (by kernel_rfl:zA (KN w0) Tryz.prog _ .no ⟨ntOf Tryz.prog 40,[],[]⟩ (lp Tryz.prog 40 0) 5000 zJ (.x 0) [.sl 0 (.o (.g [.h 0,.h 1,.h 2])),.sl 1 (yh 3),.sl 2 (.o (.c (.p 0 0))),.sl 5 (yh 4),.sl 9 (.o (.g [.h 0,.h 1,.h 2])),.sl 10 (yh 3),.sl 11 (yh 4),.sl 12 (yh 4),.sl 13 (yh 5),.sl 15 (.o (.c (.p 0 2))),.sl 16 (yh 2),.sl 17 (yh 6),.bx 0 32 [.h 0,.h 1,.h 2]]=true) rfl (zipA.imp ⟨z_g ⟨fun β v W h=>(zc u0 β v W).2 h,fun β v W h=>(zc u1 β v W).2 h,fun β v W h=>(zc u2 β v W).2 h,trivial⟩,z_c (fun β v W h=>(zc u3 β v W).2 h),z_c yy,z_c (fun β v W h=>(zc u4 β v W).2 h),z_g ⟨fun β v W h=>(zc u0 β v W).2 h,fun β v W h=>(zc u1 β v W).2 h,fun β v W h=>(zc u2 β v W).2 h,trivial⟩,z_c (fun β v W h=>(zc u3 β v W).2 h),z_c (fun β v W h=>(zc u4 β v W).2 h),z_c (fun β v W h=>(zc u4 β v W).2 h),z_c (fun β v W h=>(zc u5 β v W).2 h),z_c yy,z_c (fun β v W h=>(zc u2 β v W).2 h),z_c (fun β v W h=>(zc u6 β v W).2 h),z_b ⟨fun β v W h=>(zc u0 β v W).2 h,fun β v W h=>(zc u1 β v W).2 h,fun β v W h=>(zc u2 β v W).2 h,trivial⟩,trivial⟩)
def zgR (e:Xp) (a:Int) (N:Nat) (v1:Int) (v2:Bool) (v4:Int) (t:x_check_A_T):Prop:=(∃(v501:Bool),((decide (t.i<v4))=v501)∧(v501=false)∧True)
def zdx (e:Xp) (a:Int) (N:Nat) (v1:Int) (v2:Bool) (v4:Int) (t t':x_check_A_T):Prop:=(∃(v501:Bool),∃(n503:Nat),∃(x504:Xp),∃(v507:Int),∃(v509:Bool),∃(v511:Int),((decide (t.i<v4))=v501)∧((chkX x504 a)=v507)∧(((v507 != (0:Int)))=v509)∧((IntKind.i64.wrap (t.i+(1:Int)))=v511)∧(v501=true)∧(t.i=(n503:Int))∧(e.l[n503]?=some x504)∧(nodes x504≤N)∧(v509=false)∧((v511)=t'.i)∧True)
theorem zdM {w0:World} (e:Xp) (a:Int) (N:Nat) (v1:Int) (v2:Bool) (v4:Int) (IH:qi w0 N) (h3:v2=false) {F:Fact} (u0:F.c 0=pI e.op) (u1:F.c 1=pI e.n) (u2:F.c 2=pLs cE e.l) (u3:F.c 3=pI a) (u4:F.c 4=pI v1) (u5:F.c 5=pB v2) (u6:F.c 6=pI v4) (R:Frm) (hR:R.pm=⟨ntOf Tryz.prog 40,[],[]⟩) (J:x_check_A_T→Prop) (m:x_check_A_T→Nat) (hJ:J { i:=(0:Int) }) (rounds:∀t,J t→zgR e a N v1 v2 v4 t ∨∃t',zdx e a N v1 v2 v4 t t'∧m t'<m t∧J t'):zi (KN w0) Tryz.prog F R zah (lp Tryz.prog 40 0):=by
 refine zB (T:=x_check_A_T) (fun t=>FL [pI e.op,pI e.n,pLs cE e.l,pI a,pI v1,pB v2,pI v4,pI t.i] []) J m { i:=(0:Int) } zJ hJ (zipA.imp ⟨z_g ⟨fun β v W h=>(zc u0 β v W).1 h,fun β v W h=>(zc u1 β v W).1 h,fun β v W h=>(zc u2 β v W).1 h,trivial⟩,z_c (fun β v W h=>(zc u3 β v W).1 h),z_c yy,z_c (fun β v W h=>(zc u4 β v W).1 h),z_g ⟨fun β v W h=>(zc u0 β v W).1 h,fun β v W h=>(zc u1 β v W).1 h,fun β v W h=>(zc u2 β v W).1 h,trivial⟩,z_c (fun β v W h=>(zc u3 β v W).1 h),z_c (fun β v W h=>(zc u4 β v W).1 h),z_c (fun β v W h=>(zc u4 β v W).1 h),z_c (fun β v W h=>(zc u5 β v W).1 h),z_c yy,z_c (fun β v W h=>(zc u2 β v W).1 h),z_c (fun β v W h=>(zc u6 β v W).1 h),z_c yy,z_b ⟨fun β v W h=>(zc u0 β v W).1 h,fun β v W h=>(zc u1 β v W).1 h,fun β v W h=>(zc u2 β v W).1 h,trivial⟩,trivial⟩) rfl fun t ht=>?_
 rcases rounds t ht with hz_ | ⟨t',hz_,hm_,hj_⟩
 ·refine .inl ?_
  rcases hz_ with ⟨v501,e501,h502,_⟩
  ·exact zfN  e a N v1 v2 v4 IH h3 t.i v501 e501 h502  F u0 u1 u2 u3 u4 u5 u6  R hR
 ·refine .inr ⟨t',hm_,hj_,?_⟩
  rcases hz_ with ⟨v501,n503,x504,v507,v509,v511,e501,e507,e509,e511,h502,s505,s506,s508,h510,q0,_⟩
  ·exact zcQ  e a N v1 v2 v4 IH h3 t.i v501 n503 x504 v507 v509 v511 e501 e507 e509 e511 h502 s505 s506 s508 h510 t'.i q0 R hR
theorem zfM {w0:World} (e:Xp) (a:Int) (N:Nat) (v1:Int) (v2:Bool) (v4:Int) (IH:qi w0 N) (h3:v2=false) {F:Fact} (u0:F.c 0=pI e.op) (u1:F.c 1=pI e.n) (u2:F.c 2=pLs cE e.l) (u3:F.c 3=pI a) (u4:F.c 4=pI v1) (u5:F.c 5=pB v2) (u6:F.c 6=pI v4) (R:Frm) (hR:R.pm=⟨ntOf Tryz.prog 40,[],[]⟩) (hb:e.l.length<9223372036854775808) (hN:nodes e≤N+1) (hlen:(e.l.length:Int)=v4) (hO:chkL e.l a=0):zi (KN w0) Tryz.prog F R zah (lp Tryz.prog 40 0):=by
 refine zdM  e a N v1 v2 v4 IH h3  u0 u1 u2 u3 u4 u5 u6 R hR (fun ⟨i⟩=>∃k:Nat,i=(k:Int)∧k≤e.l.length∧chkL (e.l.drop k) a=0) (fun ⟨i⟩=>((e.l.length:Int) - i).toNat) ⟨0,rfl,Nat.zero_le _,by rw [List.drop_zero];exact hO⟩ fun t hJ=>?_
 obtain ⟨i⟩:=t
 dsimp only at hJ
 obtain ⟨k,hi,hk,hs⟩:=hJ
 obtain ⟨v501,e501⟩:∃v,(decide (i<v4))=v:=⟨_,rfl⟩
 cases h502:v501 with
 | true =>
  obtain ⟨n503,x504,s505,s506⟩:∃(n503:Nat) (x504:Xp),i=(n503:Int)∧e.l[n503]?=some x504:=by (have dh502:=of_decide_eq_true (e501.trans h502);have hz:=hlen;have hlt:k<e.l.length:=(by omega);exact ⟨k,_,hi,List.getElem?_eq_getElem hlt⟩)
  obtain ⟨v507,e507⟩:∃v,(chkX x504 a)=v:=⟨_,rfl⟩
  have s508:nodes x504≤N:=by exact zu hN s506
  obtain ⟨v509,e509⟩:∃v,((v507 != (0:Int)))=v:=⟨_,rfl⟩
  cases h510:v509 with
  | true =>
   exfalso
   have dh502:=of_decide_eq_true (e501.trans h502);have dh510:=bne_iff_ne.1 (e509.trans h510);have hz:=hlen;have hkn:n503=k:=(by omega);subst hkn;have hd:=zbh s506 a;rw [e507] at hd;rw [if_pos dh510,hs] at hd;exact dh510 hd.symm
  | false =>
   obtain ⟨v511,e511⟩:∃v,(IntKind.i64.wrap (i+(1:Int)))=v:=⟨_,rfl⟩
   refine .inr ⟨⟨v511⟩,⟨v501,n503,x504,v507,v509,v511,e501,e507,e509,e511,h502,s505,s506,s508,h510,rfl,trivial⟩,?_,?_⟩
   all_goals (have dh502:=of_decide_eq_true (e501.trans h502);have dh510:=bne_eq_false_iff_eq.1 (e509.trans h510);have hz:=hlen;have hkn:n503=k:=(by omega);subst hkn;have hd:=zbh s506 a;rw [e507] at hd;rw [if_neg (by simpa using dh510)] at hd;have hlt:n503<e.l.length:=(List.getElem?_eq_some_iff.1 s506).1;have x3:v511=((n503+1:Nat):Int):=(by rw [← e511,hi,wri (by omega)];omega))
   ·show ((e.l.length:Int) - v511).toNat<((e.l.length:Int) - i).toNat
    omega
   ·exact ⟨n503+1,x3,by omega,by rw [← hd];exact hs⟩
 | false =>
  refine .inl (⟨v501,e501,h502,trivial⟩)
def zai:LoopS:=⟨5,[.sl 0 (.o (.g [.h 0,.h 1,.h 2])),.sl 1 (yh 3),.sl 2 (.o (.c (.p 0 0))),.sl 5 (yh 4),.sl 9 (.o (.g [.h 0,.h 1,.h 2])),.sl 10 (yh 3),.sl 11 (yh 4),.sl 12 (yh 4),.sl 13 (yh 5),.sl 15 (.o (.c (.p 0 2))),.sl 16 (yh 2),.sl 17 (yh 6),.sl 18 (.o (.c (.k (.int .i64 0)))),.bx 0 32 [.h 0,.h 1,.h 2]],.r,[.sl 0 (.o (.g [.h 0,.h 1,.h 2])),.sl 1 (yh 3),.sl 2 (.o (.c (.p 0 0))),.sl 4 (yh 7),.sl 5 (yh 4),.sl 9 (.o (.g [.h 0,.h 1,.h 2])),.sl 10 (yh 3),.sl 11 (yh 4),.sl 12 (yh 4),.sl 13 (yh 5),.sl 15 (.o (.c (.p 0 2))),.sl 16 (yh 2),.sl 17 (yh 6),.bx 0 32 [.h 0,.h 1,.h 2]]⟩
theorem zfP {w0:World} (e:Xp) (a:Int) (N:Nat) (v1:Int) (v2:Bool) (v4:Int) (IH:qi w0 N) (h3:v2=false) (i:Int) (v501:Bool) (n503:Nat) (x504:Xp) (v507:Int) (v509:Bool) (e501:(decide (i<v4))=v501) (e507:(chkX x504 a)=v507) (e509:((v507 != (0:Int)))=v509) (h502:v501=true) (s505:i=(n503:Int)) (s506:e.l[n503]?=some x504) (s508:nodes x504≤N) (h510:v509=true) (o:Int) (F:Fact) (u0:F.c 0=pI e.op) (u1:F.c 1=pI e.n) (u2:F.c 2=pLs cE e.l) (u3:F.c 3=pI a) (u4:F.c 4=pI v1) (u5:F.c 5=pB v2) (u6:F.c 6=pI v4) (u7:F.c 7=pI o) (q0:(v507)=o) (R:Frm) (hR:R.pm=⟨ntOf Tryz.prog 40,[],[]⟩):Goes (KN w0) Tryz.prog R (lp Tryz.prog 40 0) (FL [pI e.op,pI e.n,pLs cE e.l,pI a,pI v1,pB v2,pI v4,pI i] []) zJ .r F zai.out:=
 goes (x:=.r) (y:=.r) (Fb:=FL [pI e.op,pI e.n,pLs cE e.l,pI a,pI v1,pB v2,pI v4,pI i,pB v501,pP (cE x504),pI x504.op,pI x504.n,pLs cE x504.l,pI v507,pB v509] []) (stb:=zJ) (tl:=[.sl 0 (.o (.g [.h 0,.h 1,.h 2])),.sl 1 (yh 3),.sl 2 (.o (.c (.p 0 0))),.sl 4 (yh 13),.sl 5 (yh 4),.sl 9 (.o (.g [.h 0,.h 1,.h 2])),.sl 10 (yh 3),.sl 11 (yh 4),.sl 12 (yh 4),.sl 13 (yh 5),.sl 15 (.o (.c (.p 0 2))),.sl 16 (yh 2),.sl 17 (yh 6),.bx 0 32 [.h 0,.h 1,.h 2]]) (C:=((10005,.fb 5 false) ::
  (1005000,.bin .lss 3 (yh 7) (yh 6) (yh 8)) ::
  (10008,.fb 8 true) ::
  (1005001,.op (.ia 29) [yh 2,yh 7] [] (yh 9)) ::
  (1005002,.op (.ld 32) [yh 9] [] (.o (.g [.h 10,.h 11,.h 12]))) ::
  (1005007,.call ⟨40,[.o (.g [.h 10,.h 11,.h 12]),yh 3],[],yh 13,[]⟩) ::
  (1005010,.bin .neq 44 (yh 13) (LF (.k (.int .i64 0))) (yh 14)) ::
  (10014,.fb 14 true) ::
  []:List (Nat×Ent))) (H:=.no) 5000 (zipA.imp ⟨z_g ⟨yy,yy,yy,trivial⟩,z_c yy,z_c yy,z_c yy,z_g ⟨yy,yy,yy,trivial⟩,z_c yy,z_c yy,z_c yy,z_c yy,z_c yy,z_c yy,z_c yy,z_c yy,z_b ⟨yy,yy,yy,trivial⟩,trivial⟩) (zg ⟨za,za,(ze (zf rfl)),za,za,za,za,za,za,(zl ((zf rfl) _)),za,za,(ze (zf rfl)),za,za,trivial⟩) ⟨e_fbv h3,
  e_bin (zb rfl) (zb rfl) (zb rfl) (r_cmp (congrArg some e501)),
  e_fbv h502,
  e_iaL (E:=32) (z:=3) zj (by kernel_rfl) (by kernel_rfl) (zc rfl) (zb rfl) s505 s506 (zc rfl),
  e_ldG (by kernel_rfl) (by kernel_rfl) (zc rfl) (cE_eq _).symm rfl (zj _),
  zh (IH x504 a v507 e507 s508),
  e_bin (zb rfl) zd (zb rfl) (r_cmp (congrArg some e509)),
  e_fbv h510,
  trivial⟩ mixed hR trivial (fun _ _ _ hs=>by cases hs) (by kernel_rfl:zA (KN w0) Tryz.prog _ .no ⟨ntOf Tryz.prog 40,[],[]⟩ (lp Tryz.prog 40 0) 5000 zJ .r [.sl 0 (.o (.g [.h 0,.h 1,.h 2])),.sl 1 (yh 3),.sl 2 (.o (.c (.p 0 0))),.sl 4 (yh 13),.sl 5 (yh 4),.sl 9 (.o (.g [.h 0,.h 1,.h 2])),.sl 10 (yh 3),.sl 11 (yh 4),.sl 12 (yh 4),.sl 13 (yh 5),.sl 15 (.o (.c (.p 0 2))),.sl 16 (yh 2),.sl 17 (yh 6),.bx 0 32 [.h 0,.h 1,.h 2]]=true) rfl (zipA.imp ⟨z_g ⟨fun β v W h=>(zc u0 β v W).2 h,fun β v W h=>(zc u1 β v W).2 h,fun β v W h=>(zc u2 β v W).2 h,trivial⟩,z_c (fun β v W h=>(zc u3 β v W).2 h),z_c yy,z_c (fun β v W h=>(zc u7 β v W).2 (by rw [← q0];exact h)),z_c (fun β v W h=>(zc u4 β v W).2 h),z_g ⟨fun β v W h=>(zc u0 β v W).2 h,fun β v W h=>(zc u1 β v W).2 h,fun β v W h=>(zc u2 β v W).2 h,trivial⟩,z_c (fun β v W h=>(zc u3 β v W).2 h),z_c (fun β v W h=>(zc u4 β v W).2 h),z_c (fun β v W h=>(zc u4 β v W).2 h),z_c (fun β v W h=>(zc u5 β v W).2 h),z_c yy,z_c (fun β v W h=>(zc u2 β v W).2 h),z_c (fun β v W h=>(zc u6 β v W).2 h),z_b ⟨fun β v W h=>(zc u0 β v W).2 h,fun β v W h=>(zc u1 β v W).2 h,fun β v W h=>(zc u2 β v W).2 h,trivial⟩,trivial⟩)
def zgS (e:Xp) (a:Int) (N:Nat) (v1:Int) (v2:Bool) (v4:Int) (t:x_check_A_T) (o:Int):Prop:=(∃(v501:Bool),∃(n503:Nat),∃(x504:Xp),∃(v507:Int),∃(v509:Bool),((decide (t.i<v4))=v501)∧((chkX x504 a)=v507)∧(((v507 != (0:Int)))=v509)∧(v501=true)∧(t.i=(n503:Int))∧(e.l[n503]?=some x504)∧(nodes x504≤N)∧(v509=true)∧((v507)=o)∧True)
theorem zdN {w0:World} (e:Xp) (a:Int) (N:Nat) (v1:Int) (v2:Bool) (v4:Int) (IH:qi w0 N) (h3:v2=false) (o:Int) {F:Fact} (u0:F.c 0=pI e.op) (u1:F.c 1=pI e.n) (u2:F.c 2=pLs cE e.l) (u3:F.c 3=pI a) (u4:F.c 4=pI v1) (u5:F.c 5=pB v2) (u6:F.c 6=pI v4) (u7:F.c 7=pI o) (R:Frm) (hR:R.pm=⟨ntOf Tryz.prog 40,[],[]⟩) (J:x_check_A_T→Prop) (m:x_check_A_T→Nat) (hJ:J { i:=(0:Int) }) (rounds:∀t,J t→zgS e a N v1 v2 v4 t o∨∃t',zdx e a N v1 v2 v4 t t'∧m t'<m t∧J t'):zi (KN w0) Tryz.prog F R zai (lp Tryz.prog 40 0):=by
 refine zB (T:=x_check_A_T) (fun t=>FL [pI e.op,pI e.n,pLs cE e.l,pI a,pI v1,pB v2,pI v4,pI t.i] []) J m { i:=(0:Int) } zJ hJ (zipA.imp ⟨z_g ⟨fun β v W h=>(zc u0 β v W).1 h,fun β v W h=>(zc u1 β v W).1 h,fun β v W h=>(zc u2 β v W).1 h,trivial⟩,z_c (fun β v W h=>(zc u3 β v W).1 h),z_c yy,z_c (fun β v W h=>(zc u4 β v W).1 h),z_g ⟨fun β v W h=>(zc u0 β v W).1 h,fun β v W h=>(zc u1 β v W).1 h,fun β v W h=>(zc u2 β v W).1 h,trivial⟩,z_c (fun β v W h=>(zc u3 β v W).1 h),z_c (fun β v W h=>(zc u4 β v W).1 h),z_c (fun β v W h=>(zc u4 β v W).1 h),z_c (fun β v W h=>(zc u5 β v W).1 h),z_c yy,z_c (fun β v W h=>(zc u2 β v W).1 h),z_c (fun β v W h=>(zc u6 β v W).1 h),z_c yy,z_b ⟨fun β v W h=>(zc u0 β v W).1 h,fun β v W h=>(zc u1 β v W).1 h,fun β v W h=>(zc u2 β v W).1 h,trivial⟩,trivial⟩) rfl fun t ht=>?_
 rcases rounds t ht with hz_ | ⟨t',hz_,hm_,hj_⟩
 ·refine .inl ?_
  rcases hz_ with ⟨v501,n503,x504,v507,v509,e501,e507,e509,h502,s505,s506,s508,h510,q0,_⟩
  ·exact zfP  e a N v1 v2 v4 IH h3 t.i v501 n503 x504 v507 v509 e501 e507 e509 h502 s505 s506 s508 h510 o F u0 u1 u2 u3 u4 u5 u6 u7 q0 R hR
 ·refine .inr ⟨t',hm_,hj_,?_⟩
  rcases hz_ with ⟨v501,n503,x504,v507,v509,v511,e501,e507,e509,e511,h502,s505,s506,s508,h510,q0,_⟩
  ·exact zcQ  e a N v1 v2 v4 IH h3 t.i v501 n503 x504 v507 v509 v511 e501 e507 e509 e511 h502 s505 s506 s508 h510 t'.i q0 R hR
theorem zfO {w0:World} (e:Xp) (a:Int) (N:Nat) (v1:Int) (v2:Bool) (v4:Int) (IH:qi w0 N) (h3:v2=false) (o:Int) {F:Fact} (u0:F.c 0=pI e.op) (u1:F.c 1=pI e.n) (u2:F.c 2=pLs cE e.l) (u3:F.c 3=pI a) (u4:F.c 4=pI v1) (u5:F.c 5=pB v2) (u6:F.c 6=pI v4) (u7:F.c 7=pI o) (R:Frm) (hR:R.pm=⟨ntOf Tryz.prog 40,[],[]⟩) (hb:e.l.length<9223372036854775808) (hN:nodes e≤N+1) (hlen:(e.l.length:Int)=v4) (hne:o≠0) (hO:chkL e.l a=o):zi (KN w0) Tryz.prog F R zai (lp Tryz.prog 40 0):=by
 refine zdN  e a N v1 v2 v4 IH h3 o u0 u1 u2 u3 u4 u5 u6 u7 R hR (fun ⟨i⟩=>∃k:Nat,i=(k:Int)∧k≤e.l.length∧chkL (e.l.drop k) a=o) (fun ⟨i⟩=>((e.l.length:Int) - i).toNat) ⟨0,rfl,Nat.zero_le _,by rw [List.drop_zero];exact hO⟩ fun t hJ=>?_
 obtain ⟨i⟩:=t
 dsimp only at hJ
 obtain ⟨k,hi,hk,hs⟩:=hJ
 obtain ⟨v501,e501⟩:∃v,(decide (i<v4))=v:=⟨_,rfl⟩
 cases h502:v501 with
 | true =>
  obtain ⟨n503,x504,s505,s506⟩:∃(n503:Nat) (x504:Xp),i=(n503:Int)∧e.l[n503]?=some x504:=by (have dh502:=of_decide_eq_true (e501.trans h502);have hz:=hlen;have hlt:k<e.l.length:=(by omega);exact ⟨k,_,hi,List.getElem?_eq_getElem hlt⟩)
  obtain ⟨v507,e507⟩:∃v,(chkX x504 a)=v:=⟨_,rfl⟩
  have s508:nodes x504≤N:=by exact zu hN s506
  obtain ⟨v509,e509⟩:∃v,((v507 != (0:Int)))=v:=⟨_,rfl⟩
  cases h510:v509 with
  | true =>
   refine .inl (⟨v501,n503,x504,v507,v509,e501,e507,e509,h502,s505,s506,s508,h510,?_,trivial⟩)
   have dh502:=of_decide_eq_true (e501.trans h502);have dh510:=bne_iff_ne.1 (e509.trans h510);have hz:=hlen;have hkn:n503=k:=(by omega);subst hkn;have hd:=zbh s506 a;rw [e507] at hd;rw [if_pos dh510,hs] at hd;exact hd.symm
  | false =>
   obtain ⟨v511,e511⟩:∃v,(IntKind.i64.wrap (i+(1:Int)))=v:=⟨_,rfl⟩
   refine .inr ⟨⟨v511⟩,⟨v501,n503,x504,v507,v509,v511,e501,e507,e509,e511,h502,s505,s506,s508,h510,rfl,trivial⟩,?_,?_⟩
   all_goals (have dh502:=of_decide_eq_true (e501.trans h502);have dh510:=bne_eq_false_iff_eq.1 (e509.trans h510);have hz:=hlen;have hkn:n503=k:=(by omega);subst hkn;have hd:=zbh s506 a;rw [e507] at hd;rw [if_neg (by simpa using dh510)] at hd;have hlt:n503<e.l.length:=(List.getElem?_eq_some_iff.1 s506).1;have x3:v511=((n503+1:Nat):Int):=(by rw [← e511,hi,wri (by omega)];omega))
   ·show ((e.l.length:Int) - v511).toNat<((e.l.length:Int) - i).toNat
    omega
   ·exact ⟨n503+1,x3,by omega,by rw [← hd];exact hs⟩
 | false =>
  exfalso
  have dh502:=of_decide_eq_false (e501.trans h502);have hz:=hlen;have hkl:k=e.l.length:=(by omega);rw [hkl,List.drop_length,chkL] at hs;exact hne hs.symm
theorem ziq {w0:World} (e:Xp) (a:Int) (N:Nat) (IH:qi w0 N) (v1:Int) (v2:Bool) (e1:(zo e.op e.n e.l.length a)=v1) (e2:((v1 != (0:Int)))=v2) (h3:v2=true):Fun (KN w0) Tryz.prog 40 [.o (.g [pI e.op,pI e.n,pLs cE e.l]),.o (.c (pI a))] (.o (.c (pI v1))):=
 zk (zr (F:=FL [pI e.op,pI e.n,pLs cE e.l,pI a,pI v1,pB v2] []) (C:=[(1000004,.call ⟨67,[.o (.g [.h 0,.h 1,.h 2]),yh 3],[],yh 4,[]⟩),
  (1000007,.bin .neq 44 (yh 4) (LF (.k (.int .i64 0))) (yh 5)),
  (10005,.fb 5 true)]) (k:=⟨40,[.o (.g [.h 0,.h 1,.h 2]),yh 3],[],yh 4,[]⟩) 0 (zg ⟨za,za,(ze (zf rfl)),za,za,za,trivial⟩) ⟨zh (zfa e a v1 e1),
  e_bin (zb rfl) zd (zb rfl) (r_cmp (congrArg some e2)),
  e_fbv h3,
  trivial⟩ mixed (by kernel_rfl))
theorem zir {w0:World} (e:Xp) (a:Int) (N:Nat) (IH:qi w0 N) (v1:Int) (v2:Bool) (v4:Int) (o:Int) (e1:(zo e.op e.n e.l.length a)=v1) (e2:((v1 != (0:Int)))=v2) (e4:((e.l.length:Int))=v4) (h3:v2=false) (L_x_check_B:∀R:Frm,R.pm=⟨ntOf Tryz.prog 40,[],[]⟩→zi (KN w0) Tryz.prog (FL [pI e.op,pI e.n,pLs cE e.l,pI a,pI v1,pB v2,pI v4,pI o] []) R zai (lp Tryz.prog 40 0)):Fun (KN w0) Tryz.prog 40 [.o (.g [pI e.op,pI e.n,pLs cE e.l]),.o (.c (pI a))] (.o (.c (pI o))):=
 zk (zS (F:=FL [pI e.op,pI e.n,pLs cE e.l,pI a,pI v1,pB v2,pI v4,pI o] []) (C:=[(1000004,.call ⟨67,[.o (.g [.h 0,.h 1,.h 2]),yh 3],[],yh 4,[]⟩),
  (1000007,.bin .neq 44 (yh 4) (LF (.k (.int .i64 0))) (yh 5)),
  (10005,.fb 5 false),
  (1000010,.op (.len [29] 3) [yh 2] [] (yh 6))]) (k:=⟨40,[.o (.g [.h 0,.h 1,.h 2]),yh 3],[],yh 7,[]⟩) ⟨[zai],[],0⟩ [] 0 (zg ⟨za,za,(ze (zf rfl)),za,za,za,za,za,trivial⟩) ⟨zh (zfa e a v1 e1),
  e_bin (zb rfl) zd (zb rfl) (r_cmp (congrArg some e2)),
  e_fbv h3,
  zF (E:=32) (by kernel_rfl) (zc rfl) (zb (by rw [← e4];rfl)),
  trivial⟩ mixed trivial (fun R hR p hp s hs=>by
 have hl:zH (qu Tryz.prog 40)=[(5,lp Tryz.prog 40 0)]:=by kernel_rfl
 rw [hl] at hp
 simp only [List.mem_cons,List.not_mem_nil,or_false] at hp
 rcases hp with rfl
 ·have e:s=zai:=(Option.some.inj hs).symm
  subst e;exact L_x_check_B R hR) (by kernel_rfl))
theorem zis {w0:World} (e:Xp) (a:Int) (N:Nat) (IH:qi w0 N) (v1:Int) (v2:Bool) (v4:Int) (e1:(zo e.op e.n e.l.length a)=v1) (e2:((v1 != (0:Int)))=v2) (e4:((e.l.length:Int))=v4) (h3:v2=false) (L_x_check_A:∀R:Frm,R.pm=⟨ntOf Tryz.prog 40,[],[]⟩→zi (KN w0) Tryz.prog (FL [pI e.op,pI e.n,pLs cE e.l,pI a,pI v1,pB v2,pI v4] []) R zah (lp Tryz.prog 40 0)):Fun (KN w0) Tryz.prog 40 [.o (.g [pI e.op,pI e.n,pLs cE e.l]),.o (.c (pI a))] (.o (.c (pV (.int .i64 0)))):=
 zk (zS (F:=FL [pI e.op,pI e.n,pLs cE e.l,pI a,pI v1,pB v2,pI v4] []) (C:=[(1000004,.call ⟨67,[.o (.g [.h 0,.h 1,.h 2]),yh 3],[],yh 4,[]⟩),
  (1000007,.bin .neq 44 (yh 4) (LF (.k (.int .i64 0))) (yh 5)),
  (10005,.fb 5 false),
  (1000010,.op (.len [29] 3) [yh 2] [] (yh 6))]) (k:=⟨40,[.o (.g [.h 0,.h 1,.h 2]),yh 3],[],.o (.c (.k (.int .i64 0))),[]⟩) ⟨[zah],[],0⟩ [] 0 (zg ⟨za,za,(ze (zf rfl)),za,za,za,za,trivial⟩) ⟨zh (zfa e a v1 e1),
  e_bin (zb rfl) zd (zb rfl) (r_cmp (congrArg some e2)),
  e_fbv h3,
  zF (E:=32) (by kernel_rfl) (zc rfl) (zb (by rw [← e4];rfl)),
  trivial⟩ mixed trivial (fun R hR p hp s hs=>by
 have hl:zH (qu Tryz.prog 40)=[(5,lp Tryz.prog 40 0)]:=by kernel_rfl
 rw [hl] at hp
 simp only [List.mem_cons,List.not_mem_nil,or_false] at hp
 rcases hp with rfl
 ·have e:s=zah:=(Option.some.inj hs).symm
  subst e;exact L_x_check_A R hR) (by kernel_rfl))
theorem zkQ {w0:World} {N:Nat} (IH:qi w0 N) (e:Xp) (a:Int) (r:Int) (hr:chkX e a=r) (hN:nodes e≤N+1) (hN1:N+1≤1000000):Fun (KN w0) Tryz.prog 40 [.o (.g [pI e.op,pI e.n,pLs cE e.l]),.o (.c (pI a))] (.o (.c (pI r))):=by
 obtain ⟨v1,e1⟩:∃v,(zo e.op e.n e.l.length a)=v:=⟨_,rfl⟩
 obtain ⟨v2,e2⟩:∃v,((v1 != (0:Int)))=v:=⟨_,rfl⟩
 cases h3:v2 with
 | true =>
  refine Fun.imp (ziq e a N IH v1 v2 e1 e2 h3) (fun _ _ _ h=>h) (fun v W D h=>?_)
  have r0:r=v1:=by
   rw [← hr,zex,e1,if_pos (bne_iff_ne.1 (e2.trans h3))]
  rw [r0];exact h
 | false =>
  obtain ⟨v4,e4⟩:∃v,((e.l.length:Int))=v:=⟨_,rfl⟩
  by_cases c5:chkL e.l a=0
  ·
   refine Fun.imp (zis e a N IH v1 v2 v4 e1 e2 e4 h3 (fun R hR=>zfM e a N v1 v2 v4 IH  h3  rfl rfl rfl rfl rfl rfl rfl R hR (by have:=qj e;omega) hN e4 c5)) (fun _ _ _ h=>h) (fun v W D h=>?_)
   have r0:r=(0:Int):=by
    rw [← hr,zex,e1,if_neg (by simpa using (bne_eq_false_iff_eq.1 (e2.trans h3))),c5]
   rw [r0];exact h
  ·
   obtain ⟨o,hO_x_check_B⟩:∃(o:Int),chkL e.l a=o:=⟨_,rfl⟩
   refine Fun.imp (zir e a N IH v1 v2 v4 o e1 e2 e4 h3 (fun R hR=>zfO e a N v1 v2 v4 IH  h3 o rfl rfl rfl rfl rfl rfl rfl rfl R hR (by have:=qj e;omega) hN e4 (by rw [← hO_x_check_B];exact c5) hO_x_check_B)) (fun _ _ _ h=>h) (fun v W D h=>?_)
   have r0:r=o:=by
    rw [← hr,zex,e1,if_neg (by simpa using (bne_eq_false_iff_eq.1 (e2.trans h3))),hO_x_check_B]
   rw [r0];exact h
theorem zdy {w0:World}:∀N:Nat,N≤1000000→qi w0 N
 | 0,_=>fun x a v _ h=>by have:=qk x;omega
 | N+1,hN=>fun x a v hv h=>zkQ (zdy N (by omega)) x a v hv h hN
theorem zos {w0:World} (x:Xp) (a v:Int) (hv:chkX x a=v) (hn:nodes x≤1000000):Fun (KN w0) Tryz.prog 40 [.o (.g [pI x.op,pI x.n,pLs cE x.l]),.o (.c (pI a))] (.o (.c (pI v))):=zdy (nodes x) hn x a v hv (Nat.le_refl _)
def qX (w0:World) (N:Nat):Prop:=∀(x:Xp) (a v:Int),chkX x a=v→nodes x≤N→Fun (KN w0) Tryz.prog 45 [.o (.g [pI x.op,pI x.n,pLs cE x.l]),.o (.c (pI a))] (.o (.c (pI v)))
structure x_nodes_A_T where
 i:Int
 g:Int
def zO:List Atom:=[.sl 0 (.o (.g [.h 0,.h 1,.h 2])),.sl 1 (yh 3),.sl 2 (.o (.c (.p 0 0))),.sl 4 (.o (.c (.k (.int .i64 0)))),.sl 5 (yh 6),.sl 6 (yh 5),.sl 7 (.o (.g [.h 0,.h 1,.h 2])),.sl 8 (yh 3),.sl 9 (yh 4),.bx 0 32 [.h 0,.h 1,.h 2]]
def qP:LoopS:=⟨3,[.sl 0 (.o (.g [.h 0,.h 1,.h 2])),.sl 1 (yh 3),.sl 2 (.o (.c (.p 0 0))),.sl 4 (.o (.c (.k (.int .i64 0)))),.sl 5 (yh 4),.sl 6 (.o (.c (.k (.int .i64 0)))),.sl 7 (.o (.g [.h 0,.h 1,.h 2])),.sl 8 (yh 3),.sl 9 (yh 4),.bx 0 32 [.h 0,.h 1,.h 2]],(.x 0),[.sl 0 (.o (.g [.h 0,.h 1,.h 2])),.sl 1 (yh 3),.sl 2 (.o (.c (.p 0 0))),.sl 4 (.o (.c (.k (.int .i64 0)))),.sl 5 (yh 5),.sl 7 (.o (.g [.h 0,.h 1,.h 2])),.sl 8 (yh 3),.sl 9 (yh 4),.bx 0 32 [.h 0,.h 1,.h 2]]⟩
theorem zfX {w0:World} (e:Xp) (a:Int) (N:Nat) (v1:Int) (IH:qX w0 N) (i:Int) (g:Int) (v501:Int) (v502:Bool) (v504:Bool) (n506:Nat) (x507:Xp) (v510:Int) (v512:Int) (e501:((e.l.length:Int))=v501) (e502:(decide (i<v501))=v502) (e504:((g == (0:Int)))=v504) (e510:(chkX x507 a)=v510) (e512:(IntKind.i64.wrap (i+(1:Int)))=v512) (h503:v502=true) (h505:v504=true) (s508:i=(n506:Int)) (s509:e.l[n506]?=some x507) (s511:nodes x507≤N) (i':Int) (g':Int) (q0:(v510)=g') (q1:(v512)=i') (R:Frm) (hR:R.pm=⟨ntOf Tryz.prog 45,[],[]⟩):Goes (KN w0) Tryz.prog R (lp Tryz.prog 45 0) (FL [pI e.op,pI e.n,pLs cE e.l,pI a,pI v1,pI i,pI g] []) zO .n (FL [pI e.op,pI e.n,pLs cE e.l,pI a,pI v1,pI i',pI g'] []) zO:=
 goes (x:=.n) (y:=.n) (Fb:=FL [pI e.op,pI e.n,pLs cE e.l,pI a,pI v1,pI i,pI g,pI v501,pB v502,pB v504,pP (cE x507),pI x507.op,pI x507.n,pLs cE x507.l,pI v510,pI v512] []) (stb:=zO) (tl:=[.sl 0 (.o (.g [.h 0,.h 1,.h 2])),.sl 1 (yh 3),.sl 2 (.o (.c (.p 0 0))),.sl 4 (.o (.c (.k (.int .i64 0)))),.sl 5 (yh 14),.sl 6 (yh 15),.sl 7 (.o (.g [.h 0,.h 1,.h 2])),.sl 8 (yh 3),.sl 9 (yh 4),.bx 0 32 [.h 0,.h 1,.h 2]]) (C:=((1005003,.op (.len [29] 3) [yh 2] [] (yh 7)) ::
  (1005004,.bin .lss 3 (yh 5) (yh 7) (yh 8)) ::
  (10008,.fb 8 true) ::
  (1005007,.bin .eql 44 (yh 6) (LF (.k (.int .i64 0))) (yh 9)) ::
  (10009,.fb 9 true) ::
  (1005012,.op (.ia 29) [yh 2,yh 5] [] (yh 10)) ::
  (1005013,.op (.ld 32) [yh 10] [] (.o (.g [.h 11,.h 12,.h 13]))) ::
  (1005015,.call ⟨45,[.o (.g [.h 11,.h 12,.h 13]),yh 3],[],yh 14,[]⟩) ::
  (1005018,.bin .add 3 (yh 5) (LF (.k (.int .i64 1))) (yh 15)) ::
  []:List (Nat×Ent))) (H:=.no) 5000 (zipA.imp ⟨z_g ⟨yy,yy,yy,trivial⟩,z_c yy,z_c yy,z_c yy,z_c yy,z_c yy,z_g ⟨yy,yy,yy,trivial⟩,z_c yy,z_c yy,z_b ⟨yy,yy,yy,trivial⟩,trivial⟩) (zg ⟨za,za,(ze (zf rfl)),za,za,za,za,za,za,za,(zl ((zf rfl) _)),za,za,(ze (zf rfl)),za,za,trivial⟩) ⟨zF (E:=32) (by kernel_rfl) (zc rfl) (zb (by rw [← e501];rfl)),
  e_bin (zb rfl) (zb rfl) (zb rfl) (r_cmp (congrArg some e502)),
  e_fbv h503,
  e_bin (zb rfl) zd (zb rfl) (r_cmp (congrArg some e504)),
  e_fbv h505,
  e_iaL (E:=32) (z:=3) zj (by kernel_rfl) (by kernel_rfl) (zc rfl) (zb rfl) s508 s509 (zc rfl),
  e_ldG (by kernel_rfl) (by kernel_rfl) (zc rfl) (cE_eq _).symm rfl (zj _),
  zh (IH x507 a v510 e510 s511),
  e_bin (zb rfl) zd (zb rfl) (r_ar (congrArg some e512)),
  trivial⟩ mixed hR trivial (fun _ _ _ hs=>by cases hs) (by kernel_rfl:zA (KN w0) Tryz.prog _ .no ⟨ntOf Tryz.prog 45,[],[]⟩ (lp Tryz.prog 45 0) 5000 zO .n [.sl 0 (.o (.g [.h 0,.h 1,.h 2])),.sl 1 (yh 3),.sl 2 (.o (.c (.p 0 0))),.sl 4 (.o (.c (.k (.int .i64 0)))),.sl 5 (yh 14),.sl 6 (yh 15),.sl 7 (.o (.g [.h 0,.h 1,.h 2])),.sl 8 (yh 3),.sl 9 (yh 4),.bx 0 32 [.h 0,.h 1,.h 2]]=true) rfl (zipA.imp ⟨z_g ⟨yy,yy,yy,trivial⟩,z_c yy,z_c yy,z_c yy,z_c (fun β v W h=>(zc rfl β v W).2 (by rw [← q0];exact h)),z_c (fun β v W h=>(zc rfl β v W).2 (by rw [← q1];exact h)),z_g ⟨yy,yy,yy,trivial⟩,z_c yy,z_c yy,z_b ⟨yy,yy,yy,trivial⟩,trivial⟩)
theorem zfY {w0:World} (e:Xp) (a:Int) (N:Nat) (v1:Int) (IH:qX w0 N) (i:Int) (g:Int) (v501:Int) (v502:Bool) (v504:Bool) (e501:((e.l.length:Int))=v501) (e502:(decide (i<v501))=v502) (e504:((g == (0:Int)))=v504) (h503:v502=true) (h505:v504=false) (o:Int) (F:Fact) (u0:F.c 0=pI e.op) (u1:F.c 1=pI e.n) (u2:F.c 2=pLs cE e.l) (u3:F.c 3=pI a) (u4:F.c 4=pI v1) (u5:F.c 5=pI o) (q0:(g)=o) (R:Frm) (hR:R.pm=⟨ntOf Tryz.prog 45,[],[]⟩):Goes (KN w0) Tryz.prog R (lp Tryz.prog 45 0) (FL [pI e.op,pI e.n,pLs cE e.l,pI a,pI v1,pI i,pI g] []) zO (.x 0) F qP.out:=
 goes (x:=(.x 0)) (y:=(.x 0)) (Fb:=FL [pI e.op,pI e.n,pLs cE e.l,pI a,pI v1,pI i,pI g,pI v501,pB v502,pB v504] []) (stb:=zO) (tl:=[.sl 0 (.o (.g [.h 0,.h 1,.h 2])),.sl 1 (yh 3),.sl 2 (.o (.c (.p 0 0))),.sl 4 (.o (.c (.k (.int .i64 0)))),.sl 5 (yh 6),.sl 7 (.o (.g [.h 0,.h 1,.h 2])),.sl 8 (yh 3),.sl 9 (yh 4),.bx 0 32 [.h 0,.h 1,.h 2]]) (C:=((1005003,.op (.len [29] 3) [yh 2] [] (yh 7)) ::
  (1005004,.bin .lss 3 (yh 5) (yh 7) (yh 8)) ::
  (10008,.fb 8 true) ::
  (1005007,.bin .eql 44 (yh 6) (LF (.k (.int .i64 0))) (yh 9)) ::
  (10009,.fb 9 false) ::
  []:List (Nat×Ent))) (H:=.no) 5000 (zipA.imp ⟨z_g ⟨yy,yy,yy,trivial⟩,z_c yy,z_c yy,z_c yy,z_c yy,z_c yy,z_g ⟨yy,yy,yy,trivial⟩,z_c yy,z_c yy,z_b ⟨yy,yy,yy,trivial⟩,trivial⟩) (zg ⟨za,za,(ze (zf rfl)),za,za,za,za,za,za,za,trivial⟩) ⟨zF (E:=32) (by kernel_rfl) (zc rfl) (zb (by rw [← e501];rfl)),
  e_bin (zb rfl) (zb rfl) (zb rfl) (r_cmp (congrArg some e502)),
  e_fbv h503,
  e_bin (zb rfl) zd (zb rfl) (r_cmp (congrArg some e504)),
  e_fbv h505,
  trivial⟩ mixed hR trivial (fun _ _ _ hs=>by cases hs) (by kernel_rfl:zA (KN w0) Tryz.prog _ .no ⟨ntOf Tryz.prog 45,[],[]⟩ (lp Tryz.prog 45 0) 5000 zO (.x 0) [.sl 0 (.o (.g [.h 0,.h 1,.h 2])),.sl 1 (yh 3),.sl 2 (.o (.c (.p 0 0))),.sl 4 (.o (.c (.k (.int .i64 0)))),.sl 5 (yh 6),.sl 7 (.o (.g [.h 0,.h 1,.h 2])),.sl 8 (yh 3),.sl 9 (yh 4),.bx 0 32 [.h 0,.h 1,.h 2]]=true) rfl (zipA.imp ⟨z_g ⟨fun β v W h=>(zc u0 β v W).2 h,fun β v W h=>(zc u1 β v W).2 h,fun β v W h=>(zc u2 β v W).2 h,trivial⟩,z_c (fun β v W h=>(zc u3 β v W).2 h),z_c yy,z_c yy,z_c (fun β v W h=>(zc u5 β v W).2 (by rw [← q0];exact h)),z_g ⟨fun β v W h=>(zc u0 β v W).2 h,fun β v W h=>(zc u1 β v W).2 h,fun β v W h=>(zc u2 β v W).2 h,trivial⟩,z_c (fun β v W h=>(zc u3 β v W).2 h),z_c (fun β v W h=>(zc u4 β v W).2 h),z_b ⟨fun β v W h=>(zc u0 β v W).2 h,fun β v W h=>(zc u1 β v W).2 h,fun β v W h=>(zc u2 β v W).2 h,trivial⟩,trivial⟩)
theorem zfZ {w0:World} (e:Xp) (a:Int) (N:Nat) (v1:Int) (IH:qX w0 N) (i:Int) (g:Int) (v501:Int) (v502:Bool) (e501:((e.l.length:Int))=v501) (e502:(decide (i<v501))=v502) (h503:v502=false) (o:Int) (F:Fact) (u0:F.c 0=pI e.op) (u1:F.c 1=pI e.n) (u2:F.c 2=pLs cE e.l) (u3:F.c 3=pI a) (u4:F.c 4=pI v1) (u5:F.c 5=pI o) (q0:(g)=o) (R:Frm) (hR:R.pm=⟨ntOf Tryz.prog 45,[],[]⟩):Goes (KN w0) Tryz.prog R (lp Tryz.prog 45 0) (FL [pI e.op,pI e.n,pLs cE e.l,pI a,pI v1,pI i,pI g] []) zO (.x 0) F qP.out:=
 goes (x:=(.x 0)) (y:=(.x 0)) (Fb:=FL [pI e.op,pI e.n,pLs cE e.l,pI a,pI v1,pI i,pI g,pI v501,pB v502] []) (stb:=zO) (tl:=[.sl 0 (.o (.g [.h 0,.h 1,.h 2])),.sl 1 (yh 3),.sl 2 (.o (.c (.p 0 0))),.sl 4 (.o (.c (.k (.int .i64 0)))),.sl 5 (yh 6),.sl 7 (.o (.g [.h 0,.h 1,.h 2])),.sl 8 (yh 3),.sl 9 (yh 4),.bx 0 32 [.h 0,.h 1,.h 2]]) (C:=((1005003,.op (.len [29] 3) [yh 2] [] (yh 7)) ::
  (1005004,.bin .lss 3 (yh 5) (yh 7) (yh 8)) ::
  (10008,.fb 8 false) ::
  []:List (Nat×Ent))) (H:=.no) 5000 (zipA.imp ⟨z_g ⟨yy,yy,yy,trivial⟩,z_c yy,z_c yy,z_c yy,z_c yy,z_c yy,z_g ⟨yy,yy,yy,trivial⟩,z_c yy,z_c yy,z_b ⟨yy,yy,yy,trivial⟩,trivial⟩) (zg ⟨za,za,(ze (zf rfl)),za,za,za,za,za,za,trivial⟩) ⟨zF (E:=32) (by kernel_rfl) (zc rfl) (zb (by rw [← e501];rfl)),
  e_bin (zb rfl) (zb rfl) (zb rfl) (r_cmp (congrArg some e502)),
  e_fbv h503,
  trivial⟩ mixed hR trivial (fun _ _ _ hs=>by cases hs) (by kernel_rfl:zA (KN w0) Tryz.prog _ .no ⟨ntOf Tryz.prog 45,[],[]⟩ (lp Tryz.prog 45 0) 5000 zO (.x 0) [.sl 0 (.o (.g [.h 0,.h 1,.h 2])),.sl 1 (yh 3),.sl 2 (.o (.c (.p 0 0))),.sl 4 (.o (.c (.k (.int .i64 0)))),.sl 5 (yh 6),.sl 7 (.o (.g [.h 0,.h 1,.h 2])),.sl 8 (yh 3),.sl 9 (yh 4),.bx 0 32 [.h 0,.h 1,.h 2]]=true) rfl (zipA.imp ⟨z_g ⟨fun β v W h=>(zc u0 β v W).2 h,fun β v W h=>(zc u1 β v W).2 h,fun β v W h=>(zc u2 β v W).2 h,trivial⟩,z_c (fun β v W h=>(zc u3 β v W).2 h),z_c yy,z_c yy,z_c (fun β v W h=>(zc u5 β v W).2 (by rw [← q0];exact h)),z_g ⟨fun β v W h=>(zc u0 β v W).2 h,fun β v W h=>(zc u1 β v W).2 h,fun β v W h=>(zc u2 β v W).2 h,trivial⟩,z_c (fun β v W h=>(zc u3 β v W).2 h),z_c (fun β v W h=>(zc u4 β v W).2 h),z_b ⟨fun β v W h=>(zc u0 β v W).2 h,fun β v W h=>(zc u1 β v W).2 h,fun β v W h=>(zc u2 β v W).2 h,trivial⟩,trivial⟩)
def zgZ (e:Xp) (a:Int) (N:Nat) (v1:Int) (t:x_nodes_A_T) (o:Int):Prop:=(∃(v501:Int),∃(v502:Bool),∃(v504:Bool),(((e.l.length:Int))=v501)∧((decide (t.i<v501))=v502)∧(((t.g == (0:Int)))=v504)∧(v502=true)∧(v504=false)∧((t.g)=o)∧True)∨(∃(v501:Int),∃(v502:Bool),(((e.l.length:Int))=v501)∧((decide (t.i<v501))=v502)∧(v502=false)∧((t.g)=o)∧True)
def zgY (e:Xp) (a:Int) (N:Nat) (v1:Int) (t t':x_nodes_A_T):Prop:=(∃(v501:Int),∃(v502:Bool),∃(v504:Bool),∃(n506:Nat),∃(x507:Xp),∃(v510:Int),∃(v512:Int),(((e.l.length:Int))=v501)∧((decide (t.i<v501))=v502)∧(((t.g == (0:Int)))=v504)∧((chkX x507 a)=v510)∧((IntKind.i64.wrap (t.i+(1:Int)))=v512)∧(v502=true)∧(v504=true)∧(t.i=(n506:Int))∧(e.l[n506]?=some x507)∧(nodes x507≤N)∧((v510)=t'.g)∧((v512)=t'.i)∧True)
theorem zdO {w0:World} (e:Xp) (a:Int) (N:Nat) (v1:Int) (IH:qX w0 N) (o:Int) {F:Fact} (u0:F.c 0=pI e.op) (u1:F.c 1=pI e.n) (u2:F.c 2=pLs cE e.l) (u3:F.c 3=pI a) (u4:F.c 4=pI v1) (u5:F.c 5=pI o) (R:Frm) (hR:R.pm=⟨ntOf Tryz.prog 45,[],[]⟩) (J:x_nodes_A_T→Prop) (m:x_nodes_A_T→Nat) (hJ:J { i:=(0:Int),g:=v1 }) (rounds:∀t,J t→zgZ e a N v1 t o∨∃t',zgY e a N v1 t t'∧m t'<m t∧J t'):zi (KN w0) Tryz.prog F R qP (lp Tryz.prog 45 0):=by
 refine zB (T:=x_nodes_A_T) (fun t=>FL [pI e.op,pI e.n,pLs cE e.l,pI a,pI v1,pI t.i,pI t.g] []) J m { i:=(0:Int),g:=v1 } zO hJ (zipA.imp ⟨z_g ⟨fun β v W h=>(zc u0 β v W).1 h,fun β v W h=>(zc u1 β v W).1 h,fun β v W h=>(zc u2 β v W).1 h,trivial⟩,z_c (fun β v W h=>(zc u3 β v W).1 h),z_c yy,z_c yy,z_c (fun β v W h=>(zc u4 β v W).1 h),z_c yy,z_g ⟨fun β v W h=>(zc u0 β v W).1 h,fun β v W h=>(zc u1 β v W).1 h,fun β v W h=>(zc u2 β v W).1 h,trivial⟩,z_c (fun β v W h=>(zc u3 β v W).1 h),z_c (fun β v W h=>(zc u4 β v W).1 h),z_b ⟨fun β v W h=>(zc u0 β v W).1 h,fun β v W h=>(zc u1 β v W).1 h,fun β v W h=>(zc u2 β v W).1 h,trivial⟩,trivial⟩) rfl fun t ht=>?_
 rcases rounds t ht with hz_ | ⟨t',hz_,hm_,hj_⟩
 ·refine .inl ?_
  rcases hz_ with ⟨v501,v502,v504,e501,e502,e504,h503,h505,q0,_⟩ | ⟨v501,v502,e501,e502,h503,q0,_⟩
  ·exact zfY  e a N v1 IH  t.i t.g v501 v502 v504 e501 e502 e504 h503 h505 o F u0 u1 u2 u3 u4 u5 q0 R hR
  ·exact zfZ  e a N v1 IH  t.i t.g v501 v502 e501 e502 h503 o F u0 u1 u2 u3 u4 u5 q0 R hR
 ·refine .inr ⟨t',hm_,hj_,?_⟩
  rcases hz_ with ⟨v501,v502,v504,n506,x507,v510,v512,e501,e502,e504,e510,e512,h503,h505,s508,s509,s511,q0,q1,_⟩
  ·exact zfX  e a N v1 IH  t.i t.g v501 v502 v504 n506 x507 v510 v512 e501 e502 e504 e510 e512 h503 h505 s508 s509 s511 t'.i t'.g q0 q1 R hR
theorem zfW {w0:World} (e:Xp) (a:Int) (N:Nat) (v1:Int) (IH:qX w0 N) (o:Int) {F:Fact} (u0:F.c 0=pI e.op) (u1:F.c 1=pI e.n) (u2:F.c 2=pLs cE e.l) (u3:F.c 3=pI a) (u4:F.c 4=pI v1) (u5:F.c 5=pI o) (R:Frm) (hR:R.pm=⟨ntOf Tryz.prog 45,[],[]⟩) (hb:e.l.length<9223372036854775808) (hN:nodes e≤N+1) (hO:(if v1≠0 then v1 else chkL e.l a)=o):zi (KN w0) Tryz.prog F R qP (lp Tryz.prog 45 0):=by
 refine zdO  e a N v1 IH  o u0 u1 u2 u3 u4 u5 R hR (fun ⟨i,g⟩=>∃k:Nat,i=(k:Int)∧k≤e.l.length∧(if g≠0 then g else chkL (e.l.drop k) a)=o) (fun ⟨i,g⟩=>((e.l.length:Int) - i).toNat) ⟨0,rfl,Nat.zero_le _,by rw [List.drop_zero];exact hO⟩ fun t hJ=>?_
 obtain ⟨i,g⟩:=t
 dsimp only at hJ
 obtain ⟨k,hi,hk,hs⟩:=hJ
 obtain ⟨v501,e501⟩:∃v,((e.l.length:Int))=v:=⟨_,rfl⟩
 obtain ⟨v502,e502⟩:∃v,(decide (i<v501))=v:=⟨_,rfl⟩
 cases h503:v502 with
 | true =>
  obtain ⟨v504,e504⟩:∃v,((g == (0:Int)))=v:=⟨_,rfl⟩
  cases h505:v504 with
  | true =>
   obtain ⟨n506,x507,s508,s509⟩:∃(n506:Nat) (x507:Xp),i=(n506:Int)∧e.l[n506]?=some x507:=by (have dh503:=of_decide_eq_true (e502.trans h503);have dh505:=eq_of_beq (e504.trans h505);have hz:=e501;have hlt:k<e.l.length:=(by omega);exact ⟨k,_,hi,List.getElem?_eq_getElem hlt⟩)
   obtain ⟨v510,e510⟩:∃v,(chkX x507 a)=v:=⟨_,rfl⟩
   have s511:nodes x507≤N:=by exact zu hN s509
   obtain ⟨v512,e512⟩:∃v,(IntKind.i64.wrap (i+(1:Int)))=v:=⟨_,rfl⟩
   refine .inr ⟨⟨v512,v510⟩,⟨v501,v502,v504,n506,x507,v510,v512,e501,e502,e504,e510,e512,h503,h505,s508,s509,s511,rfl,rfl,trivial⟩,?_,?_⟩
   all_goals (have dh503:=of_decide_eq_true (e502.trans h503);have dh505:=eq_of_beq (e504.trans h505);have hz:=e501;have hkn:n506=k:=(by omega);subst hkn;have hd:=zbh s509 a;rw [e510] at hd;rw [if_neg (by simpa using dh505),hd] at hs;have hlt:n506<e.l.length:=(List.getElem?_eq_some_iff.1 s509).1;have x3:v512=((n506+1:Nat):Int):=(by rw [← e512,hi,wri (by omega)];omega))
   ·show ((e.l.length:Int) - v512).toNat<((e.l.length:Int) - i).toNat
    omega
   ·exact ⟨n506+1,x3,by omega,hs⟩
  | false =>
   refine .inl (Or.inl (⟨v501,v502,v504,e501,e502,e504,h503,h505,?_,trivial⟩))
   have dh503:=of_decide_eq_true (e502.trans h503);have dh505:=ne_of_beq_false (e504.trans h505);have hz:=e501;rw [if_pos (by simpa using dh505)] at hs;exact hs
 | false =>
  refine .inl (Or.inr (⟨v501,v502,e501,e502,h503,?_,trivial⟩))
  have dh503:=of_decide_eq_false (e502.trans h503);have hz:=e501;have hkl:k=e.l.length:=(by omega);rw [hkl,List.drop_length,chkL] at hs;show g=o;rw [← hs];clear hs;split<;>simp_all
theorem ziF {w0:World} (e:Xp) (a:Int) (N:Nat) (IH:qX w0 N) (v1:Int) (o:Int) (e1:(zo e.op e.n e.l.length a)=v1) (L_x_nodes_A:∀R:Frm,R.pm=⟨ntOf Tryz.prog 45,[],[]⟩→zi (KN w0) Tryz.prog (FL [pI e.op,pI e.n,pLs cE e.l,pI a,pI v1,pI o] []) R qP (lp Tryz.prog 45 0)):Fun (KN w0) Tryz.prog 45 [.o (.g [pI e.op,pI e.n,pLs cE e.l]),.o (.c (pI a))] (.o (.c (pI o))):=
 zk (zS (F:=FL [pI e.op,pI e.n,pLs cE e.l,pI a,pI v1,pI o] []) (C:=[(1000004,.call ⟨69,[.o (.g [.h 0,.h 1,.h 2]),yh 3],[],yh 4,[]⟩)]) (k:=⟨45,[.o (.g [.h 0,.h 1,.h 2]),yh 3],[],yh 5,[]⟩) ⟨[qP],[],0⟩ [] 0 (zg ⟨za,za,(ze (zf rfl)),za,za,za,trivial⟩) ⟨zh (zpA e a v1 e1),
  trivial⟩ mixed trivial (fun R hR p hp s hs=>by
 have hl:zH (qu Tryz.prog 45)=[(3,lp Tryz.prog 45 0)]:=by kernel_rfl
 rw [hl] at hp
 simp only [List.mem_cons,List.not_mem_nil,or_false] at hp
 rcases hp with rfl
 ·have e:s=qP:=(Option.some.inj hs).symm
  subst e;exact L_x_nodes_A R hR) (by kernel_rfl))
theorem zlb {w0:World} {N:Nat} (IH:qX w0 N) (e:Xp) (a:Int) (r:Int) (hr:chkX e a=r) (hN:nodes e≤N+1) (hN1:N+1≤1000000):Fun (KN w0) Tryz.prog 45 [.o (.g [pI e.op,pI e.n,pLs cE e.l]),.o (.c (pI a))] (.o (.c (pI r))):=by
 obtain ⟨v1,e1⟩:∃v,(zo e.op e.n e.l.length a)=v:=⟨_,rfl⟩
 obtain ⟨o,hO_x_nodes_A⟩:∃(o:Int),(if v1≠0 then v1 else chkL e.l a)=o:=⟨_,rfl⟩
 refine Fun.imp (ziF e a N IH v1 o e1 (fun R hR=>zfW e a N v1 IH   o rfl rfl rfl rfl rfl rfl R hR (by have:=qj e;omega) hN hO_x_nodes_A)) (fun _ _ _ h=>h) (fun v W D h=>?_)
 have r0:r=o:=by
  rw [← hr,zex,e1,← hO_x_nodes_A]
 rw [r0];exact h
theorem zdA {w0:World}:∀N:Nat,N≤1000000→qX w0 N
 | 0,_=>fun x a v _ h=>by have:=qk x;omega
 | N+1,hN=>fun x a v hv h=>zlb (zdA N (by omega)) x a v hv h hN
theorem zow {w0:World} (x:Xp) (a v:Int) (hv:chkX x a=v) (hn:nodes x≤1000000):Fun (KN w0) Tryz.prog 45 [.o (.g [pI x.op,pI x.n,pLs cE x.l]),.o (.c (pI a))] (.o (.c (pI v))):=zdA (nodes x) hn x a v hv (Nat.le_refl _)
theorem zij {w0:World} (e:Xp) (a:Int) (v1:Int) (v4:Bool) (e1:(sizeX e (30:Int))=v1) (e4:(decide (v1 > (30:Int)))=v4) (s2:nodes e≤1000000) (s3:0≤(30:Int)∧(30:Int)≤1000) (h5:v4=true):Fun (KN w0) Tryz.prog 19 [.o (.g [pI e.op,pI e.n,pLs cE e.l]),.o (.c (pI a))] (.o (.c (pV (.int .i64 2)))):=
 zk (zr (F:=FL [pI e.op,pI e.n,pLs cE e.l,pI a,pI v1,pB v4] []) (C:=[(1000003,.call ⟨39,[.o (.g [.h 0,.h 1,.h 2]),.o (.c (.k (.int .i64 30)))],[],yh 4,[]⟩),
  (1000004,.bin .gtr 3 (yh 4) (LF (.k (.int .i64 30))) (yh 5)),
  (10005,.fb 5 true)]) (k:=⟨19,[.o (.g [.h 0,.h 1,.h 2]),yh 3],[],.o (.c (.k (.int .i64 2))),[]⟩) 0 (zg ⟨za,za,(ze (zf rfl)),za,za,za,trivial⟩) ⟨zh (znu e (30:Int) v1 e1 s2 s3),
  e_bin (zb rfl) zd (zb rfl) (r_cmp (congrArg some e4)),
  e_fbv h5,
  trivial⟩ mixed (by kernel_rfl))
theorem zik {w0:World} (e:Xp) (a:Int) (v1:Int) (v4:Bool) (v6:Int) (e1:(sizeX e (30:Int))=v1) (e4:(decide (v1 > (30:Int)))=v4) (e6:(chkX e a)=v6) (s2:nodes e≤1000000) (s3:0≤(30:Int)∧(30:Int)≤1000) (h5:v4=false) (s7:nodes e≤1000000):Fun (KN w0) Tryz.prog 19 [.o (.g [pI e.op,pI e.n,pLs cE e.l]),.o (.c (pI a))] (.o (.c (pI v6))):=
 zk (zr (F:=FL [pI e.op,pI e.n,pLs cE e.l,pI a,pI v1,pB v4,pI v6] []) (C:=[(1000003,.call ⟨39,[.o (.g [.h 0,.h 1,.h 2]),.o (.c (.k (.int .i64 30)))],[],yh 4,[]⟩),
  (1000004,.bin .gtr 3 (yh 4) (LF (.k (.int .i64 30))) (yh 5)),
  (10005,.fb 5 false),
  (1000007,.call ⟨40,[.o (.g [.h 0,.h 1,.h 2]),yh 3],[],yh 6,[]⟩)]) (k:=⟨19,[.o (.g [.h 0,.h 1,.h 2]),yh 3],[],yh 6,[]⟩) 0 (zg ⟨za,za,(ze (zf rfl)),za,za,za,za,trivial⟩) ⟨zh (znu e (30:Int) v1 e1 s2 s3),
  e_bin (zb rfl) zd (zb rfl) (r_cmp (congrArg some e4)),
  e_fbv h5,
  zh (zos e a v6 e6 s7),
  trivial⟩ mixed (by kernel_rfl))
theorem zbS {w0:World} (e:Xp) (a:Int) (r:Int) (hr:z6 e a=r) (hn:nodes e≤1000000):Fun (KN w0) Tryz.prog 19 [.o (.g [pI e.op,pI e.n,pLs cE e.l]),.o (.c (pI a))] (.o (.c (pI r))):=by
 obtain ⟨v1,e1⟩:∃v,(sizeX e (30:Int))=v:=⟨_,rfl⟩
 have s2:nodes e≤1000000:=by exact hn
 have s3:0≤(30:Int)∧(30:Int)≤1000:=by omega
 obtain ⟨v4,e4⟩:∃v,(decide (v1 > (30:Int)))=v:=⟨_,rfl⟩
 cases h5:v4 with
 | true =>
  refine Fun.imp (zij e a v1 v4 e1 e4 s2 s3 h5) (fun _ _ _ h=>h) (fun v W D h=>?_)
  have r0:r=(2:Int):=by
   have dh5:=of_decide_eq_true (e4.trans h5);have hz:=e1;rw [← hr];unfold z6;rw [if_pos (by omega)]
  rw [r0];exact h
 | false =>
  obtain ⟨v6,e6⟩:∃v,(chkX e a)=v:=⟨_,rfl⟩
  have s7:nodes e≤1000000:=by exact hn
  refine Fun.imp (zik e a v1 v4 v6 e1 e4 e6 s2 s3 h5 s7) (fun _ _ _ h=>h) (fun v W D h=>?_)
  have r0:r=v6:=by
   have dh5:=of_decide_eq_false (e4.trans h5);have hz:=e1;rw [← hr];unfold z6;rw [if_neg (by omega)];simp_all
  rw [r0];exact h
theorem zg0 {w0:World} (e:Xp) (a:Int) (v1:Int) (v4:Bool) (e1:(sizeX e (30:Int))=v1) (e4:(decide (v1 > (30:Int)))=v4) (s2:nodes e≤1000000) (s3:0≤(30:Int)∧(30:Int)≤1000) (h5:v4=true):Fun (KN w0) Tryz.prog 21 [.o (.g [pI e.op,pI e.n,pLs cE e.l]),.o (.c (pI a))] (.o (.c (pV (.int .i64 2)))):=
 zk (zr (F:=FL [pI e.op,pI e.n,pLs cE e.l,pI a,pI v1,pB v4] []) (C:=[(1000003,.call ⟨44,[.o (.g [.h 0,.h 1,.h 2]),.o (.c (.k (.int .i64 30)))],[],yh 4,[]⟩),
  (1000004,.bin .gtr 3 (yh 4) (LF (.k (.int .i64 30))) (yh 5)),
  (10005,.fb 5 true)]) (k:=⟨21,[.o (.g [.h 0,.h 1,.h 2]),yh 3],[],.o (.c (.k (.int .i64 2))),[]⟩) 0 (zg ⟨za,za,(ze (zf rfl)),za,za,za,trivial⟩) ⟨zh (zlt e (30:Int) v1 e1 s2 s3),
  e_bin (zb rfl) zd (zb rfl) (r_cmp (congrArg some e4)),
  e_fbv h5,
  trivial⟩ mixed (by kernel_rfl))
theorem zg1 {w0:World} (e:Xp) (a:Int) (v1:Int) (v4:Bool) (v6:Int) (e1:(sizeX e (30:Int))=v1) (e4:(decide (v1 > (30:Int)))=v4) (e6:(chkX e a)=v6) (s2:nodes e≤1000000) (s3:0≤(30:Int)∧(30:Int)≤1000) (h5:v4=false) (s7:nodes e≤1000000):Fun (KN w0) Tryz.prog 21 [.o (.g [pI e.op,pI e.n,pLs cE e.l]),.o (.c (pI a))] (.o (.c (pI v6))):=
 zk (zr (F:=FL [pI e.op,pI e.n,pLs cE e.l,pI a,pI v1,pB v4,pI v6] []) (C:=[(1000003,.call ⟨44,[.o (.g [.h 0,.h 1,.h 2]),.o (.c (.k (.int .i64 30)))],[],yh 4,[]⟩),
  (1000004,.bin .gtr 3 (yh 4) (LF (.k (.int .i64 30))) (yh 5)),
  (10005,.fb 5 false),
  (1000007,.call ⟨45,[.o (.g [.h 0,.h 1,.h 2]),yh 3],[],yh 6,[]⟩)]) (k:=⟨21,[.o (.g [.h 0,.h 1,.h 2]),yh 3],[],yh 6,[]⟩) 0 (zg ⟨za,za,(ze (zf rfl)),za,za,za,za,trivial⟩) ⟨zh (zlt e (30:Int) v1 e1 s2 s3),
  e_bin (zb rfl) zd (zb rfl) (r_cmp (congrArg some e4)),
  e_fbv h5,
  zh (zow e a v6 e6 s7),
  trivial⟩ mixed (by kernel_rfl))
theorem zh4 {w0:World} (e:Xp) (a:Int) (r:Int) (hr:z6 e a=r) (hn:nodes e≤1000000):Fun (KN w0) Tryz.prog 21 [.o (.g [pI e.op,pI e.n,pLs cE e.l]),.o (.c (pI a))] (.o (.c (pI r))):=by
 obtain ⟨v1,e1⟩:∃v,(sizeX e (30:Int))=v:=⟨_,rfl⟩
 have s2:nodes e≤1000000:=by exact hn
 have s3:0≤(30:Int)∧(30:Int)≤1000:=by omega
 obtain ⟨v4,e4⟩:∃v,(decide (v1 > (30:Int)))=v:=⟨_,rfl⟩
 cases h5:v4 with
 | true =>
  refine Fun.imp (zg0 e a v1 v4 e1 e4 s2 s3 h5) (fun _ _ _ h=>h) (fun v W D h=>?_)
  have r0:r=(2:Int):=by
   have dh5:=of_decide_eq_true (e4.trans h5);have hz:=e1;rw [← hr];unfold z6;rw [if_pos (by omega)]
  rw [r0];exact h
 | false =>
  obtain ⟨v6,e6⟩:∃v,(chkX e a)=v:=⟨_,rfl⟩
  have s7:nodes e≤1000000:=by exact hn
  refine Fun.imp (zg1 e a v1 v4 v6 e1 e4 e6 s2 s3 h5 s7) (fun _ _ _ h=>h) (fun v W D h=>?_)
  have r0:r=v6:=by
   have dh5:=of_decide_eq_false (e4.trans h5);have hz:=e1;rw [← hr];unfold z6;rw [if_neg (by omega)];simp_all
  rw [r0];exact h
end Go.Proofs.YtdkofaajcpcjkaaGreatDoor
namespace Go.Proofs.YtdkofaajcpcjkaaGreatDoor
open Go.RowKit
mutual
def evR (args:List Int):Xp→Int×Bool
 | .mk o n l=>if o=1 then (n,true) else if o=2 then (args.getD n.toNat 0,valB (args.getD n.toNat 0)) else match evRL args l with
  | [a,b]=>if a.2=true∧b.2=true then (operX o a.1 b.1,valB (operX o a.1 b.1)) else (0,false)
  | _=>(0,false)
def evRL (args:List Int):List Xp→List (Int×Bool)
 | []=>[]
 | x::r=>evR args x::evRL args r
end
theorem zqa {args:List Int} {k:Int}:∀{e:Xp},Vx k e→((evR args e).2=true→evalX args e=some (evR args e).1)∧((evR args e).2=false→evalX args e=none):=by
 intro e h
 induction h with
 | num h=>rw [zde,evR,if_pos rfl];exact ⟨fun _=>by unfold valO;rw [if_pos h],fun h=>by cases h⟩
 | arg h0 h1 =>
  rw [zdd,evR,if_neg (by decide),if_pos rfl]
  exact ⟨fun h=>by unfold valO;rw [if_pos h],fun h=>by unfold valO;rw [if_neg (by simp at h;simp [h])]⟩
 | @op o x y h0 h1 ha hb iha ihb =>
  rw [zcX args h0,evR,if_neg (by omega),if_neg (by omega),evRL,evRL,evRL]
  cases hx:(evR args x).2 with
  | false=>rw [iha.2 hx];simp [hx]
  | true =>
   cases hy:(evR args y).2 with
   | false=>rw [iha.1 hx,ihb.2 hy];simp [hx,hy]
   | true =>
    rw [iha.1 hx,ihb.1 hy]
    simp only [hx,hy,and_self,if_true]
    exact ⟨fun h=>by unfold valO;rw [if_pos h],fun h=>by unfold valO;rw [if_neg (by simp [h])]⟩
theorem znn {args:List Int} {k:Int} {e:Xp} (h:Vx k e) (ho:e.op=2):0≤e.n∧e.n<k∧evR args e=(args.getD e.n.toNat 0,valB (args.getD e.n.toNat 0)):=by
 cases h with
 | num h=>cases ho
 | arg h0 h1=>exact ⟨h0,Int.lt_of_lt_of_le h1 (Int.min_le_left ..),by rw [evR,if_neg (by decide),if_pos rfl];rfl⟩
 | op h0 h1 _ _=>simp only [Xp.op] at ho;omega
theorem vx_op {k:Int} {e:Xp} (h:Vx k e) (h1:¬ e.op=1) (h2:¬ e.op=2):∃a b,e=.mk e.op 0 [a,b]∧3≤e.op∧e.op≤7∧Vx k a∧Vx k b:=by
 cases h with
 | num h=>exact absurd rfl h1
 | arg h0 _=>exact absurd rfl h2
 | op h0 h3 ha hb=>exact ⟨_,_,rfl,h0,h3,ha,hb⟩
theorem vx_at {k:Int} {e x:Xp} {n:Nat} (h:Vx k e) (hx:e.l[n]?=some x):Vx k x:=by
 cases h with
 | num h=>simp [Xp.l] at hx
 | arg h0 _=>simp [Xp.l] at hx
 | op h0 h3 ha hb =>
  match n,hx with
  | 0,h=>injection h with h;exact h ▸ ha
  | 1,h=>injection h with h;exact h ▸ hb
  | _+2,h=>simp [Xp.l] at h
theorem zaq {k:Int} {e:Xp} {n m:Nat} (h:Vx k e) (h1:¬ e.op=1) (h2:¬ e.op=2):∃a b,e.l[0]?=some a∧e.l[1]?=some b:=by
 obtain ⟨a,b,he,_⟩:=vx_op h h1 h2
 exact ⟨a,b,by rw [he];rfl,by rw [he];rfl⟩
theorem zgu {l:List Int} {n:Nat} {x i:Int} (hi:i=n) (h:l[n]?=some x):l.getD i.toNat 0=x:=by subst hi;rw [Int.toNat_natCast,List.getD_eq_getElem?_getD,h];rfl
theorem op_in {a b:Int} (o:Int) (ha:valB a=true) (hb:valB b=true):-9223372036854775808≤operX o a b∧operX o a b<9223372036854775808:=by
 have h1:=zat.1 ha
 have h2:=zat.1 hb
 have h3:(a*b).natAbs≤1048576*1048576:=by rw [Int.natAbs_mul];exact Nat.mul_le_mul (by omega) (by omega)
 unfold operX
 (repeat' split)<;>omega
end Go.Proofs.YtdkofaajcpcjkaaGreatDoor
